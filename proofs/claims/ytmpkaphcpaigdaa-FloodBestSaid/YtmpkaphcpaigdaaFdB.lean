import Derived.Test.YtmpkaphcpaigdaaFcs
import Derived.Test.YtmpkaphcpaigdaaSigP
import Derived.Test.YtmpkaphcpaigdaaIfc
set_option linter.unusedVariables false
set_option linter.unusedSimpArgs false
set_option maxRecDepth 100000
set_option maxHeartbeats 4000000
namespace Go.Proofs.Ytmpkaphcpaigdaa
section
open Go.RowKit
theorem FdB_el_S_int : ElT Try.prog repI 22 3 8 := ElT.mk_ (z := .int .i64 0) (k := 1) Try.underlying22 info_int rfl rfl (by decide) (fun j u h => raw0I j u h)
theorem FdB_ib_bool : (Try.prog.info? 4).map (fun i => (i.zero, i.size, i.bytes)) = some (some (.bool false), 1, 1) := by kernel_rfl
theorem b1o_ (p : Bool) : p = true ∨ p = false := by cases p <;> simp
theorem ju_step {f : Fld} {far : List Int} {x nd : Cel} {j : Nat} {ju : Bool} {q : Bool} (h : ju = true ∨ NoStep f far x j) (hn : (stpC f x).getD j default = nd) (hq : q = (f.fr far x == f.fr far nd + f.kost x)) : (ju || q) = true ∨ NoStep f far x (j + 1) := by
 cases hju : ju with
 | true => exact .inl rfl
 | false =>
  rcases h with h | h
  ·rw [hju] at h; cases h
  ·cases hc : q with
   | true => exact .inl rfl
   | false =>
    right
    rw [hc] at hq
    exact nostep_go h hn (fun h_ => beq_eq_false_iff_ne.1 hq.symm h_.2)
theorem steps_any (f : Fld) (c : Cel) (p : Int) (P : Option Addr) (pc : Nat) (w : World) (hf : f.chk = 0) (hin : f.isIn c = true) (hp : p = c.y * f.wide + c.x) :
  Calls Try.prog 17 #[.agg #[.int .i64 f.wide, .int .i64 f.high, .slice P f.places.length pc], .int .i64 p] w (fun e w' => ∃ A k, e = .returned (.slice A (stpI f c).length k) ∧ repI.SOwn 3 8 w' w.heap.size (Rep.blkOf A) A k (stpI f c) ∧ Ext w w') := by
 obtain ⟨hxx, hyy⟩ := idx_xy hin
 obtain ⟨iu1, iu2⟩ := idx_up hf hin
 rw [← hp] at hxx hyy iu1 iu2
 obtain ⟨g1, g2, g3, g4, g5, g6⟩ := Fld.good hf
 obtain ⟨i1, i2, i3, i4, i5, i6⟩ := Fld.idx hf hin
 have hl16 := Fld.len_le hf
 have hp0 : 0 ≤ p := by omega
 have hp1 : p < 1600 := by omega
 refine calls_W (n := 56) Try.func17 rfl rfl rfl ?_
 refine sq <| rg <| bx rfl rfl rfl rfl fun w_1 b_2 x_3 l_4 B_5 => ?_
 have q_6 := x_3.size
 have z_1 := Ext.tr (Ext.rf w) x_3
 have q_7 := B_5.lt
 refine vl (as_ rfl) rfl <| nl <| nT <| sq <| rg <| vl (as_ rfl) rfl <| nl <| nT <| sq <| sq <| rg <| vl (mv rfl) rfl <| vl (fa eF0 rfl) rfl <| vl (ld rfl (B_5.one eF1 rfl)) rfl <| vl (bre rfl rfl (by omega) (by omega)) rfl <| vl (bgt rfl rfl) rfl <| nl <| nT <| ?_
 refine clt rfl (fun h_8 => ?_) (fun h_8 => ?_)
 ·refine rg <| vl (mv rfl) rfl <| vl (mv rfl) rfl <| vl (bsu rfl rfl (inI (by omega))) rfl <| bs (e := 3) (cs := [.int .i64 (p - 1)]) rfl (fun _ => by kernel_rfl) rfl fun w_9 b_10 x_11 l_12 B_13 => ?_
  have q_14 := x_11.size
  have z_9 := Ext.tr z_1 x_11
  have q_15 := B_13.lt
  have O_16 : repI.SOwn 3 8 w_9 w.heap.size (Rep.blkOf none) none 0 ([] : List Int) := Rep.SOwn.nil _
  refine ap FdB_el_S_int Rep.flat_bare O_16 (Blk.has1 (R := repI) (by_ := 8) (q := p - 1) B_13 ⟨rfl, okI_iff.2 (by omega)⟩ (by decide)) rfl rfl (by simp) (by simp) z_9.size rfl fun w_17 A_18 c_19 m_20 O_21 g_22 n_23 => ?_
  have q_24 := m_20.size
  have z_17 := Ext.mod z_9 m_20 (fun q hq => (O_16.lt q hq).1)
  have u_25 := fun q hq => (O_21.lt q hq).2
  have q_26 := m_20.size
  refine vl (as_ rfl) rfl <| nl <| nT <| sq <| sq <| ?_
  refine rd [(2, 0), (5, 0)] [0, 1, 2, 3, 4, 5, 6, 7] (by kernel_rfl) (by kernel_rfl) ?_
  refine fw rfl rfl (fun _ => mv rfl) rfl <| fw rfl rfl (fun _ => fa eF0 rfl) rfl <| ?_
  have B_5 := B_5.later x_11
  have B_5 := B_5.mod m_20 (by simp [Rep.blkOf])
  refine fq rfl rfl (fun _ x => ld rfl ((B_5.later x).one eF1 rfl)) rfl <| fw rfl rfl (fun _ => bre rfl rfl (by omega) (by omega)) rfl <| fw rfl rfl (fun _ => fa eF0 rfl) rfl <| fq rfl rfl (fun _ x => ld rfl ((B_5.later x).one eF1 rfl)) rfl <| fw rfl rfl (fun _ => bsu rfl rfl (inI (by omega))) rfl <| fw rfl rfl (fun _ => blt rfl rfl) rfl <| fn fun w_27 x_28 => ?_
  have q_29 := x_28.size
  have z_27 := Ext.tr z_17 x_28
  refine nT <| ?_
  refine clt rfl (fun h_30 => ?_) (fun h_30 => ?_)
  ·refine rg <| vl (mv rfl) rfl <| vl (mv rfl) rfl <| vl (bad rfl rfl (inI (by omega))) rfl <| bs (e := 3) (cs := [.int .i64 (p + 1)]) rfl (fun _ => by kernel_rfl) rfl fun w_31 b_32 x_33 l_34 B_35 => ?_
   have q_36 := x_33.size
   have z_31 := Ext.tr z_27 x_33
   have q_37 := B_35.lt
   have O_21 := O_21.later (Ext.tr x_28 x_33)
   refine ap FdB_el_S_int Rep.flat_bare O_21 (Blk.has1 (R := repI) (by_ := 8) (q := p + 1) B_35 ⟨rfl, okI_iff.2 (by omega)⟩ (by decide)) rfl rfl (by simp) (by simp) z_31.size rfl fun w_38 A_39 c_40 m_41 O_42 g_43 n_44 => ?_
   have q_45 := m_41.size
   have z_38 := Ext.mod z_31 m_41 (fun q hq => (O_21.lt q hq).1)
   have u_46 := fun q hq => (O_42.lt q hq).2
   have q_47 := m_41.size
   refine vl (as_ rfl) rfl <| nl <| nT <| sq <| sq <| rg <| vl (mv rfl) rfl <| vl (fa eF0 rfl) rfl <| ?_
   have B_5 := B_5.later (Ext.tr x_28 x_33)
   have d_48 : ∀ q ∈ Rep.blkOf A_18, q = b_2 → False := fun q hq hb => by (exact Or.elim (g_22 q hq) (fun k_49 => by (simp [Rep.blkOf] at k_49)) (fun k_49 => by omega))
   have B_5 := B_5.mod m_41 (fun hq => d_48 _ hq rfl)
   refine vl (ld rfl (B_5.one eF1 rfl)) rfl <| vl (bge rfl rfl) rfl <| nl <| nT <| ?_
   refine cle rfl (fun h_50 => ?_) (fun h_50 => ?_)
   ·refine rg <| vl (mv rfl) rfl <| vl (mv rfl) rfl <| vl (fa eF0 rfl) rfl <| vl (ld rfl (B_5.one eF1 rfl)) rfl <| vl (bsu rfl rfl (inI (by omega))) rfl <| bs (e := 3) (cs := [.int .i64 (p - f.wide)]) rfl (fun _ => by kernel_rfl) rfl fun w_51 b_52 x_53 l_54 B_55 => ?_
    have q_56 := x_53.size
    have z_51 := Ext.tr z_38 x_53
    have q_57 := B_55.lt
    have O_42 := O_42.later x_53
    refine ap FdB_el_S_int Rep.flat_bare O_42 (Blk.has1 (R := repI) (by_ := 8) (q := p - f.wide) B_55 ⟨rfl, okI_iff.2 (by omega)⟩ (by decide)) rfl rfl (by simp) (by simp) z_51.size rfl fun w_58 A_59 c_60 m_61 O_62 g_63 n_64 => ?_
    have q_65 := m_61.size
    have z_58 := Ext.mod z_51 m_61 (fun q hq => (O_42.lt q hq).1)
    have u_66 := fun q hq => (O_62.lt q hq).2
    have q_67 := m_61.size
    refine vl (as_ rfl) rfl <| nl <| nT <| sq <| sq <| rg <| vl (mv rfl) rfl <| vl (fa eF0 rfl) rfl <| ?_
    have B_5 := B_5.later x_53
    have d_68 : ∀ q ∈ Rep.blkOf A_39, q = b_2 → False := fun q hq hb => by (exact Or.elim (g_43 q hq) (fun k_69 => by (exact d_48 q k_69 hb)) (fun k_69 => by omega))
    have B_5 := B_5.mod m_61 (fun hq => d_68 _ hq rfl)
    refine vl (ld rfl (B_5.one eF1 rfl)) rfl <| vl (bad rfl rfl (inI (by omega))) rfl <| vl (fa eF19 rfl) rfl <| vl (ld rfl (B_5.one eF20 rfl)) rfl <| vl (ln Try.underlying22 rfl) rfl <| vl (blt rfl rfl) rfl <| nl <| nT <| ?_
    refine clt rfl (fun h_70 => ?_) (fun h_70 => ?_)
    ·refine rg <| vl (mv rfl) rfl <| vl (mv rfl) rfl <| vl (fa eF0 rfl) rfl <| vl (ld rfl (B_5.one eF1 rfl)) rfl <| vl (bad rfl rfl (inI (by omega))) rfl <| bs (e := 3) (cs := [.int .i64 (p + f.wide)]) rfl (fun _ => by kernel_rfl) rfl fun w_71 b_72 x_73 l_74 B_75 => ?_
     have q_76 := x_73.size
     have z_71 := Ext.tr z_58 x_73
     have q_77 := B_75.lt
     have O_62 := O_62.later x_73
     refine ap FdB_el_S_int Rep.flat_bare O_62 (Blk.has1 (R := repI) (by_ := 8) (q := p + f.wide) B_75 ⟨rfl, okI_iff.2 (by omega)⟩ (by decide)) rfl rfl (by simp) (by simp) z_71.size rfl fun w_78 A_79 c_80 m_81 O_82 g_83 n_84 => ?_
     have q_85 := m_81.size
     have z_78 := Ext.mod z_71 m_81 (fun q hq => (O_62.lt q hq).1)
     have u_86 := fun q hq => (O_82.lt q hq).2
     have q_87 := m_81.size
     refine vl (as_ rfl) rfl <| nl <| nT <| sq <| rg <| vl (mv rfl) rfl <| vl (as_ rfl) rfl <| nl <| nT <| rt <| tR (.tmp rfl .nil) <| ?_
     have hb := stp_eq hin
     rw [← hp] at hb
     have he : stpI f c = ([] : List Int) ++ [p - 1] ++ [p + 1] ++ [p - f.wide] ++ [p + f.wide] := by rw [hb]; rw [if_pos (by omega)]; rw [if_pos (by omega)]; rw [if_pos (by omega)]; rw [if_pos (by omega)]; simp
     exact ⟨A_79, c_80, by rw [he]; rfl, by rw [he]; exact O_82, z_78⟩
    ·refine sk <| nT <| sq <| rg <| vl (mv rfl) rfl <| vl (as_ rfl) rfl <| nl <| nT <| rt <| tR (.tmp rfl .nil) <| ?_
     have hb := stp_eq hin
     rw [← hp] at hb
     have he : stpI f c = ([] : List Int) ++ [p - 1] ++ [p + 1] ++ [p - f.wide] := by rw [hb]; rw [if_pos (by omega)]; rw [if_pos (by omega)]; rw [if_pos (by omega)]; rw [if_neg (by omega)]; simp
     exact ⟨A_59, c_60, by rw [he]; rfl, by rw [he]; exact O_62, z_58⟩
   ·refine sk <| nT <| sq <| sq <| rg <| vl (mv rfl) rfl <| vl (fa eF0 rfl) rfl <| vl (ld rfl (B_5.one eF1 rfl)) rfl <| vl (bad rfl rfl (inI (by omega))) rfl <| vl (fa eF19 rfl) rfl <| vl (ld rfl (B_5.one eF20 rfl)) rfl <| vl (ln Try.underlying22 rfl) rfl <| vl (blt rfl rfl) rfl <| nl <| nT <| ?_
    refine clt rfl (fun h_88 => ?_) (fun h_88 => ?_)
    ·refine rg <| vl (mv rfl) rfl <| vl (mv rfl) rfl <| vl (fa eF0 rfl) rfl <| vl (ld rfl (B_5.one eF1 rfl)) rfl <| vl (bad rfl rfl (inI (by omega))) rfl <| bs (e := 3) (cs := [.int .i64 (p + f.wide)]) rfl (fun _ => by kernel_rfl) rfl fun w_89 b_90 x_91 l_92 B_93 => ?_
     have q_94 := x_91.size
     have z_89 := Ext.tr z_38 x_91
     have q_95 := B_93.lt
     have O_42 := O_42.later x_91
     refine ap FdB_el_S_int Rep.flat_bare O_42 (Blk.has1 (R := repI) (by_ := 8) (q := p + f.wide) B_93 ⟨rfl, okI_iff.2 (by omega)⟩ (by decide)) rfl rfl (by simp) (by simp) z_89.size rfl fun w_96 A_97 c_98 m_99 O_100 g_101 n_102 => ?_
     have q_103 := m_99.size
     have z_96 := Ext.mod z_89 m_99 (fun q hq => (O_42.lt q hq).1)
     have u_104 := fun q hq => (O_100.lt q hq).2
     have q_105 := m_99.size
     refine vl (as_ rfl) rfl <| nl <| nT <| sq <| rg <| vl (mv rfl) rfl <| vl (as_ rfl) rfl <| nl <| nT <| rt <| tR (.tmp rfl .nil) <| ?_
     have hb := stp_eq hin
     rw [← hp] at hb
     have he : stpI f c = ([] : List Int) ++ [p - 1] ++ [p + 1] ++ [p + f.wide] := by rw [hb]; rw [if_pos (by omega)]; rw [if_pos (by omega)]; rw [if_neg (by omega)]; rw [if_pos (by omega)]; simp
     exact ⟨A_97, c_98, by rw [he]; rfl, by rw [he]; exact O_100, z_96⟩
    ·refine sk <| nT <| sq <| rg <| vl (mv rfl) rfl <| vl (as_ rfl) rfl <| nl <| nT <| rt <| tR (.tmp rfl .nil) <| ?_
     have hb := stp_eq hin
     rw [← hp] at hb
     have he : stpI f c = ([] : List Int) ++ [p - 1] ++ [p + 1] := by rw [hb]; rw [if_pos (by omega)]; rw [if_pos (by omega)]; rw [if_neg (by omega)]; rw [if_neg (by omega)]; simp
     exact ⟨A_39, c_40, by rw [he]; rfl, by rw [he]; exact O_42, z_38⟩
  ·refine sk <| nT <| sq <| sq <| rg <| vl (mv rfl) rfl <| vl (fa eF0 rfl) rfl <| ?_
   have B_5 := B_5.later x_28
   refine vl (ld rfl (B_5.one eF1 rfl)) rfl <| vl (bge rfl rfl) rfl <| nl <| nT <| ?_
   refine cle rfl (fun h_106 => ?_) (fun h_106 => ?_)
   ·refine rg <| vl (mv rfl) rfl <| vl (mv rfl) rfl <| vl (fa eF0 rfl) rfl <| vl (ld rfl (B_5.one eF1 rfl)) rfl <| vl (bsu rfl rfl (inI (by omega))) rfl <| bs (e := 3) (cs := [.int .i64 (p - f.wide)]) rfl (fun _ => by kernel_rfl) rfl fun w_107 b_108 x_109 l_110 B_111 => ?_
    have q_112 := x_109.size
    have z_107 := Ext.tr z_27 x_109
    have q_113 := B_111.lt
    have O_21 := O_21.later (Ext.tr x_28 x_109)
    refine ap FdB_el_S_int Rep.flat_bare O_21 (Blk.has1 (R := repI) (by_ := 8) (q := p - f.wide) B_111 ⟨rfl, okI_iff.2 (by omega)⟩ (by decide)) rfl rfl (by simp) (by simp) z_107.size rfl fun w_114 A_115 c_116 m_117 O_118 g_119 n_120 => ?_
    have q_121 := m_117.size
    have z_114 := Ext.mod z_107 m_117 (fun q hq => (O_21.lt q hq).1)
    have u_122 := fun q hq => (O_118.lt q hq).2
    have q_123 := m_117.size
    refine vl (as_ rfl) rfl <| nl <| nT <| sq <| sq <| rg <| vl (mv rfl) rfl <| vl (fa eF0 rfl) rfl <| ?_
    have B_5 := B_5.later x_109
    have d_124 : ∀ q ∈ Rep.blkOf A_18, q = b_2 → False := fun q hq hb => by (exact Or.elim (g_22 q hq) (fun k_125 => by (simp [Rep.blkOf] at k_125)) (fun k_125 => by omega))
    have B_5 := B_5.mod m_117 (fun hq => d_124 _ hq rfl)
    refine vl (ld rfl (B_5.one eF1 rfl)) rfl <| vl (bad rfl rfl (inI (by omega))) rfl <| vl (fa eF19 rfl) rfl <| vl (ld rfl (B_5.one eF20 rfl)) rfl <| vl (ln Try.underlying22 rfl) rfl <| vl (blt rfl rfl) rfl <| nl <| nT <| ?_
    refine clt rfl (fun h_126 => ?_) (fun h_126 => ?_)
    ·refine rg <| vl (mv rfl) rfl <| vl (mv rfl) rfl <| vl (fa eF0 rfl) rfl <| vl (ld rfl (B_5.one eF1 rfl)) rfl <| vl (bad rfl rfl (inI (by omega))) rfl <| bs (e := 3) (cs := [.int .i64 (p + f.wide)]) rfl (fun _ => by kernel_rfl) rfl fun w_127 b_128 x_129 l_130 B_131 => ?_
     have q_132 := x_129.size
     have z_127 := Ext.tr z_114 x_129
     have q_133 := B_131.lt
     have O_118 := O_118.later x_129
     refine ap FdB_el_S_int Rep.flat_bare O_118 (Blk.has1 (R := repI) (by_ := 8) (q := p + f.wide) B_131 ⟨rfl, okI_iff.2 (by omega)⟩ (by decide)) rfl rfl (by simp) (by simp) z_127.size rfl fun w_134 A_135 c_136 m_137 O_138 g_139 n_140 => ?_
     have q_141 := m_137.size
     have z_134 := Ext.mod z_127 m_137 (fun q hq => (O_118.lt q hq).1)
     have u_142 := fun q hq => (O_138.lt q hq).2
     have q_143 := m_137.size
     refine vl (as_ rfl) rfl <| nl <| nT <| sq <| rg <| vl (mv rfl) rfl <| vl (as_ rfl) rfl <| nl <| nT <| rt <| tR (.tmp rfl .nil) <| ?_
     have hb := stp_eq hin
     rw [← hp] at hb
     have he : stpI f c = ([] : List Int) ++ [p - 1] ++ [p - f.wide] ++ [p + f.wide] := by rw [hb]; rw [if_pos (by omega)]; rw [if_neg (by omega)]; rw [if_pos (by omega)]; rw [if_pos (by omega)]; simp
     exact ⟨A_135, c_136, by rw [he]; rfl, by rw [he]; exact O_138, z_134⟩
    ·refine sk <| nT <| sq <| rg <| vl (mv rfl) rfl <| vl (as_ rfl) rfl <| nl <| nT <| rt <| tR (.tmp rfl .nil) <| ?_
     have hb := stp_eq hin
     rw [← hp] at hb
     have he : stpI f c = ([] : List Int) ++ [p - 1] ++ [p - f.wide] := by rw [hb]; rw [if_pos (by omega)]; rw [if_neg (by omega)]; rw [if_pos (by omega)]; rw [if_neg (by omega)]; simp
     exact ⟨A_115, c_116, by rw [he]; rfl, by rw [he]; exact O_118, z_114⟩
   ·refine sk <| nT <| sq <| sq <| rg <| vl (mv rfl) rfl <| vl (fa eF0 rfl) rfl <| vl (ld rfl (B_5.one eF1 rfl)) rfl <| vl (bad rfl rfl (inI (by omega))) rfl <| vl (fa eF19 rfl) rfl <| vl (ld rfl (B_5.one eF20 rfl)) rfl <| vl (ln Try.underlying22 rfl) rfl <| vl (blt rfl rfl) rfl <| nl <| nT <| ?_
    refine clt rfl (fun h_144 => ?_) (fun h_144 => ?_)
    ·refine rg <| vl (mv rfl) rfl <| vl (mv rfl) rfl <| vl (fa eF0 rfl) rfl <| vl (ld rfl (B_5.one eF1 rfl)) rfl <| vl (bad rfl rfl (inI (by omega))) rfl <| bs (e := 3) (cs := [.int .i64 (p + f.wide)]) rfl (fun _ => by kernel_rfl) rfl fun w_145 b_146 x_147 l_148 B_149 => ?_
     have q_150 := x_147.size
     have z_145 := Ext.tr z_27 x_147
     have q_151 := B_149.lt
     have O_21 := O_21.later (Ext.tr x_28 x_147)
     refine ap FdB_el_S_int Rep.flat_bare O_21 (Blk.has1 (R := repI) (by_ := 8) (q := p + f.wide) B_149 ⟨rfl, okI_iff.2 (by omega)⟩ (by decide)) rfl rfl (by simp) (by simp) z_145.size rfl fun w_152 A_153 c_154 m_155 O_156 g_157 n_158 => ?_
     have q_159 := m_155.size
     have z_152 := Ext.mod z_145 m_155 (fun q hq => (O_21.lt q hq).1)
     have u_160 := fun q hq => (O_156.lt q hq).2
     have q_161 := m_155.size
     refine vl (as_ rfl) rfl <| nl <| nT <| sq <| rg <| vl (mv rfl) rfl <| vl (as_ rfl) rfl <| nl <| nT <| rt <| tR (.tmp rfl .nil) <| ?_
     have hb := stp_eq hin
     rw [← hp] at hb
     have he : stpI f c = ([] : List Int) ++ [p - 1] ++ [p + f.wide] := by rw [hb]; rw [if_pos (by omega)]; rw [if_neg (by omega)]; rw [if_neg (by omega)]; rw [if_pos (by omega)]; simp
     exact ⟨A_153, c_154, by rw [he]; rfl, by rw [he]; exact O_156, z_152⟩
    ·refine sk <| nT <| sq <| rg <| vl (mv rfl) rfl <| vl (as_ rfl) rfl <| nl <| nT <| rt <| tR (.tmp rfl .nil) <| ?_
     have O_21 := O_21.later x_28
     have hb := stp_eq hin
     rw [← hp] at hb
     have he : stpI f c = ([] : List Int) ++ [p - 1] := by rw [hb]; rw [if_pos (by omega)]; rw [if_neg (by omega)]; rw [if_neg (by omega)]; rw [if_neg (by omega)]; simp
     exact ⟨A_18, c_19, by rw [he]; rfl, by rw [he]; exact O_21, z_27⟩
 ·refine sk <| nT <| sq <| sq <| ?_
  refine rd [(2, 0), (5, 0)] [0, 1, 2, 3, 4, 5, 6, 7] (by kernel_rfl) (by kernel_rfl) ?_
  refine fw rfl rfl (fun _ => mv rfl) rfl <| fw rfl rfl (fun _ => fa eF0 rfl) rfl <| fq rfl rfl (fun _ x => ld rfl ((B_5.later x).one eF1 rfl)) rfl <| fw rfl rfl (fun _ => bre rfl rfl (by omega) (by omega)) rfl <| fw rfl rfl (fun _ => fa eF0 rfl) rfl <| fq rfl rfl (fun _ x => ld rfl ((B_5.later x).one eF1 rfl)) rfl <| fw rfl rfl (fun _ => bsu rfl rfl (inI (by omega))) rfl <| fw rfl rfl (fun _ => blt rfl rfl) rfl <| fn fun w_162 x_163 => ?_
  have q_164 := x_163.size
  have z_162 := Ext.tr z_1 x_163
  refine nT <| ?_
  refine clt rfl (fun h_165 => ?_) (fun h_165 => ?_)
  ·refine rg <| vl (mv rfl) rfl <| vl (mv rfl) rfl <| vl (bad rfl rfl (inI (by omega))) rfl <| bs (e := 3) (cs := [.int .i64 (p + 1)]) rfl (fun _ => by kernel_rfl) rfl fun w_166 b_167 x_168 l_169 B_170 => ?_
   have q_171 := x_168.size
   have z_166 := Ext.tr z_162 x_168
   have q_172 := B_170.lt
   have O_173 : repI.SOwn 3 8 w_166 w.heap.size (Rep.blkOf none) none 0 ([] : List Int) := Rep.SOwn.nil _
   refine ap FdB_el_S_int Rep.flat_bare O_173 (Blk.has1 (R := repI) (by_ := 8) (q := p + 1) B_170 ⟨rfl, okI_iff.2 (by omega)⟩ (by decide)) rfl rfl (by simp) (by simp) z_166.size rfl fun w_174 A_175 c_176 m_177 O_178 g_179 n_180 => ?_
   have q_181 := m_177.size
   have z_174 := Ext.mod z_166 m_177 (fun q hq => (O_173.lt q hq).1)
   have u_182 := fun q hq => (O_178.lt q hq).2
   have q_183 := m_177.size
   refine vl (as_ rfl) rfl <| nl <| nT <| sq <| sq <| rg <| vl (mv rfl) rfl <| vl (fa eF0 rfl) rfl <| ?_
   have B_5 := B_5.later (Ext.tr x_163 x_168)
   have B_5 := B_5.mod m_177 (by simp [Rep.blkOf])
   refine vl (ld rfl (B_5.one eF1 rfl)) rfl <| vl (bge rfl rfl) rfl <| nl <| nT <| ?_
   refine cle rfl (fun h_184 => ?_) (fun h_184 => ?_)
   ·refine rg <| vl (mv rfl) rfl <| vl (mv rfl) rfl <| vl (fa eF0 rfl) rfl <| vl (ld rfl (B_5.one eF1 rfl)) rfl <| vl (bsu rfl rfl (inI (by omega))) rfl <| bs (e := 3) (cs := [.int .i64 (p - f.wide)]) rfl (fun _ => by kernel_rfl) rfl fun w_185 b_186 x_187 l_188 B_189 => ?_
    have q_190 := x_187.size
    have z_185 := Ext.tr z_174 x_187
    have q_191 := B_189.lt
    have O_178 := O_178.later x_187
    refine ap FdB_el_S_int Rep.flat_bare O_178 (Blk.has1 (R := repI) (by_ := 8) (q := p - f.wide) B_189 ⟨rfl, okI_iff.2 (by omega)⟩ (by decide)) rfl rfl (by simp) (by simp) z_185.size rfl fun w_192 A_193 c_194 m_195 O_196 g_197 n_198 => ?_
    have q_199 := m_195.size
    have z_192 := Ext.mod z_185 m_195 (fun q hq => (O_178.lt q hq).1)
    have u_200 := fun q hq => (O_196.lt q hq).2
    have q_201 := m_195.size
    refine vl (as_ rfl) rfl <| nl <| nT <| sq <| sq <| rg <| vl (mv rfl) rfl <| vl (fa eF0 rfl) rfl <| ?_
    have B_5 := B_5.later x_187
    have d_202 : ∀ q ∈ Rep.blkOf A_175, q = b_2 → False := fun q hq hb => by (exact Or.elim (g_179 q hq) (fun k_203 => by (simp [Rep.blkOf] at k_203)) (fun k_203 => by omega))
    have B_5 := B_5.mod m_195 (fun hq => d_202 _ hq rfl)
    refine vl (ld rfl (B_5.one eF1 rfl)) rfl <| vl (bad rfl rfl (inI (by omega))) rfl <| vl (fa eF19 rfl) rfl <| vl (ld rfl (B_5.one eF20 rfl)) rfl <| vl (ln Try.underlying22 rfl) rfl <| vl (blt rfl rfl) rfl <| nl <| nT <| ?_
    refine clt rfl (fun h_204 => ?_) (fun h_204 => ?_)
    ·refine rg <| vl (mv rfl) rfl <| vl (mv rfl) rfl <| vl (fa eF0 rfl) rfl <| vl (ld rfl (B_5.one eF1 rfl)) rfl <| vl (bad rfl rfl (inI (by omega))) rfl <| bs (e := 3) (cs := [.int .i64 (p + f.wide)]) rfl (fun _ => by kernel_rfl) rfl fun w_205 b_206 x_207 l_208 B_209 => ?_
     have q_210 := x_207.size
     have z_205 := Ext.tr z_192 x_207
     have q_211 := B_209.lt
     have O_196 := O_196.later x_207
     refine ap FdB_el_S_int Rep.flat_bare O_196 (Blk.has1 (R := repI) (by_ := 8) (q := p + f.wide) B_209 ⟨rfl, okI_iff.2 (by omega)⟩ (by decide)) rfl rfl (by simp) (by simp) z_205.size rfl fun w_212 A_213 c_214 m_215 O_216 g_217 n_218 => ?_
     have q_219 := m_215.size
     have z_212 := Ext.mod z_205 m_215 (fun q hq => (O_196.lt q hq).1)
     have u_220 := fun q hq => (O_216.lt q hq).2
     have q_221 := m_215.size
     refine vl (as_ rfl) rfl <| nl <| nT <| sq <| rg <| vl (mv rfl) rfl <| vl (as_ rfl) rfl <| nl <| nT <| rt <| tR (.tmp rfl .nil) <| ?_
     have hb := stp_eq hin
     rw [← hp] at hb
     have he : stpI f c = ([] : List Int) ++ [p + 1] ++ [p - f.wide] ++ [p + f.wide] := by rw [hb]; rw [if_neg (by omega)]; rw [if_pos (by omega)]; rw [if_pos (by omega)]; rw [if_pos (by omega)]; simp
     exact ⟨A_213, c_214, by rw [he]; rfl, by rw [he]; exact O_216, z_212⟩
    ·refine sk <| nT <| sq <| rg <| vl (mv rfl) rfl <| vl (as_ rfl) rfl <| nl <| nT <| rt <| tR (.tmp rfl .nil) <| ?_
     have hb := stp_eq hin
     rw [← hp] at hb
     have he : stpI f c = ([] : List Int) ++ [p + 1] ++ [p - f.wide] := by rw [hb]; rw [if_neg (by omega)]; rw [if_pos (by omega)]; rw [if_pos (by omega)]; rw [if_neg (by omega)]; simp
     exact ⟨A_193, c_194, by rw [he]; rfl, by rw [he]; exact O_196, z_192⟩
   ·refine sk <| nT <| sq <| sq <| rg <| vl (mv rfl) rfl <| vl (fa eF0 rfl) rfl <| vl (ld rfl (B_5.one eF1 rfl)) rfl <| vl (bad rfl rfl (inI (by omega))) rfl <| vl (fa eF19 rfl) rfl <| vl (ld rfl (B_5.one eF20 rfl)) rfl <| vl (ln Try.underlying22 rfl) rfl <| vl (blt rfl rfl) rfl <| nl <| nT <| ?_
    refine clt rfl (fun h_222 => ?_) (fun h_222 => ?_)
    ·refine rg <| vl (mv rfl) rfl <| vl (mv rfl) rfl <| vl (fa eF0 rfl) rfl <| vl (ld rfl (B_5.one eF1 rfl)) rfl <| vl (bad rfl rfl (inI (by omega))) rfl <| bs (e := 3) (cs := [.int .i64 (p + f.wide)]) rfl (fun _ => by kernel_rfl) rfl fun w_223 b_224 x_225 l_226 B_227 => ?_
     have q_228 := x_225.size
     have z_223 := Ext.tr z_174 x_225
     have q_229 := B_227.lt
     have O_178 := O_178.later x_225
     refine ap FdB_el_S_int Rep.flat_bare O_178 (Blk.has1 (R := repI) (by_ := 8) (q := p + f.wide) B_227 ⟨rfl, okI_iff.2 (by omega)⟩ (by decide)) rfl rfl (by simp) (by simp) z_223.size rfl fun w_230 A_231 c_232 m_233 O_234 g_235 n_236 => ?_
     have q_237 := m_233.size
     have z_230 := Ext.mod z_223 m_233 (fun q hq => (O_178.lt q hq).1)
     have u_238 := fun q hq => (O_234.lt q hq).2
     have q_239 := m_233.size
     refine vl (as_ rfl) rfl <| nl <| nT <| sq <| rg <| vl (mv rfl) rfl <| vl (as_ rfl) rfl <| nl <| nT <| rt <| tR (.tmp rfl .nil) <| ?_
     have hb := stp_eq hin
     rw [← hp] at hb
     have he : stpI f c = ([] : List Int) ++ [p + 1] ++ [p + f.wide] := by rw [hb]; rw [if_neg (by omega)]; rw [if_pos (by omega)]; rw [if_neg (by omega)]; rw [if_pos (by omega)]; simp
     exact ⟨A_231, c_232, by rw [he]; rfl, by rw [he]; exact O_234, z_230⟩
    ·refine sk <| nT <| sq <| rg <| vl (mv rfl) rfl <| vl (as_ rfl) rfl <| nl <| nT <| rt <| tR (.tmp rfl .nil) <| ?_
     have hb := stp_eq hin
     rw [← hp] at hb
     have he : stpI f c = ([] : List Int) ++ [p + 1] := by rw [hb]; rw [if_neg (by omega)]; rw [if_pos (by omega)]; rw [if_neg (by omega)]; rw [if_neg (by omega)]; simp
     exact ⟨A_175, c_176, by rw [he]; rfl, by rw [he]; exact O_178, z_174⟩
  ·refine sk <| nT <| sq <| sq <| rg <| vl (mv rfl) rfl <| vl (fa eF0 rfl) rfl <| ?_
   have B_5 := B_5.later x_163
   refine vl (ld rfl (B_5.one eF1 rfl)) rfl <| vl (bge rfl rfl) rfl <| nl <| nT <| ?_
   refine cle rfl (fun h_240 => ?_) (fun h_240 => ?_)
   ·refine rg <| vl (mv rfl) rfl <| vl (mv rfl) rfl <| vl (fa eF0 rfl) rfl <| vl (ld rfl (B_5.one eF1 rfl)) rfl <| vl (bsu rfl rfl (inI (by omega))) rfl <| bs (e := 3) (cs := [.int .i64 (p - f.wide)]) rfl (fun _ => by kernel_rfl) rfl fun w_241 b_242 x_243 l_244 B_245 => ?_
    have q_246 := x_243.size
    have z_241 := Ext.tr z_162 x_243
    have q_247 := B_245.lt
    have O_248 : repI.SOwn 3 8 w_241 w.heap.size (Rep.blkOf none) none 0 ([] : List Int) := Rep.SOwn.nil _
    refine ap FdB_el_S_int Rep.flat_bare O_248 (Blk.has1 (R := repI) (by_ := 8) (q := p - f.wide) B_245 ⟨rfl, okI_iff.2 (by omega)⟩ (by decide)) rfl rfl (by simp) (by simp) z_241.size rfl fun w_249 A_250 c_251 m_252 O_253 g_254 n_255 => ?_
    have q_256 := m_252.size
    have z_249 := Ext.mod z_241 m_252 (fun q hq => (O_248.lt q hq).1)
    have u_257 := fun q hq => (O_253.lt q hq).2
    have q_258 := m_252.size
    refine vl (as_ rfl) rfl <| nl <| nT <| sq <| sq <| rg <| vl (mv rfl) rfl <| vl (fa eF0 rfl) rfl <| ?_
    have B_5 := B_5.later x_243
    have B_5 := B_5.mod m_252 (by simp [Rep.blkOf])
    refine vl (ld rfl (B_5.one eF1 rfl)) rfl <| vl (bad rfl rfl (inI (by omega))) rfl <| vl (fa eF19 rfl) rfl <| vl (ld rfl (B_5.one eF20 rfl)) rfl <| vl (ln Try.underlying22 rfl) rfl <| vl (blt rfl rfl) rfl <| nl <| nT <| ?_
    refine clt rfl (fun h_259 => ?_) (fun h_259 => ?_)
    ·refine rg <| vl (mv rfl) rfl <| vl (mv rfl) rfl <| vl (fa eF0 rfl) rfl <| vl (ld rfl (B_5.one eF1 rfl)) rfl <| vl (bad rfl rfl (inI (by omega))) rfl <| bs (e := 3) (cs := [.int .i64 (p + f.wide)]) rfl (fun _ => by kernel_rfl) rfl fun w_260 b_261 x_262 l_263 B_264 => ?_
     have q_265 := x_262.size
     have z_260 := Ext.tr z_249 x_262
     have q_266 := B_264.lt
     have O_253 := O_253.later x_262
     refine ap FdB_el_S_int Rep.flat_bare O_253 (Blk.has1 (R := repI) (by_ := 8) (q := p + f.wide) B_264 ⟨rfl, okI_iff.2 (by omega)⟩ (by decide)) rfl rfl (by simp) (by simp) z_260.size rfl fun w_267 A_268 c_269 m_270 O_271 g_272 n_273 => ?_
     have q_274 := m_270.size
     have z_267 := Ext.mod z_260 m_270 (fun q hq => (O_253.lt q hq).1)
     have u_275 := fun q hq => (O_271.lt q hq).2
     have q_276 := m_270.size
     refine vl (as_ rfl) rfl <| nl <| nT <| sq <| rg <| vl (mv rfl) rfl <| vl (as_ rfl) rfl <| nl <| nT <| rt <| tR (.tmp rfl .nil) <| ?_
     have hb := stp_eq hin
     rw [← hp] at hb
     have he : stpI f c = ([] : List Int) ++ [p - f.wide] ++ [p + f.wide] := by rw [hb]; rw [if_neg (by omega)]; rw [if_neg (by omega)]; rw [if_pos (by omega)]; rw [if_pos (by omega)]; simp
     exact ⟨A_268, c_269, by rw [he]; rfl, by rw [he]; exact O_271, z_267⟩
    ·refine sk <| nT <| sq <| rg <| vl (mv rfl) rfl <| vl (as_ rfl) rfl <| nl <| nT <| rt <| tR (.tmp rfl .nil) <| ?_
     have hb := stp_eq hin
     rw [← hp] at hb
     have he : stpI f c = ([] : List Int) ++ [p - f.wide] := by rw [hb]; rw [if_neg (by omega)]; rw [if_neg (by omega)]; rw [if_pos (by omega)]; rw [if_neg (by omega)]; simp
     exact ⟨A_250, c_251, by rw [he]; rfl, by rw [he]; exact O_253, z_249⟩
   ·refine sk <| nT <| sq <| sq <| rg <| vl (mv rfl) rfl <| vl (fa eF0 rfl) rfl <| vl (ld rfl (B_5.one eF1 rfl)) rfl <| vl (bad rfl rfl (inI (by omega))) rfl <| vl (fa eF19 rfl) rfl <| vl (ld rfl (B_5.one eF20 rfl)) rfl <| vl (ln Try.underlying22 rfl) rfl <| vl (blt rfl rfl) rfl <| nl <| nT <| ?_
    refine clt rfl (fun h_277 => ?_) (fun h_277 => ?_)
    ·refine rg <| vl (mv rfl) rfl <| vl (mv rfl) rfl <| vl (fa eF0 rfl) rfl <| vl (ld rfl (B_5.one eF1 rfl)) rfl <| vl (bad rfl rfl (inI (by omega))) rfl <| bs (e := 3) (cs := [.int .i64 (p + f.wide)]) rfl (fun _ => by kernel_rfl) rfl fun w_278 b_279 x_280 l_281 B_282 => ?_
     have q_283 := x_280.size
     have z_278 := Ext.tr z_162 x_280
     have q_284 := B_282.lt
     have O_285 : repI.SOwn 3 8 w_278 w.heap.size (Rep.blkOf none) none 0 ([] : List Int) := Rep.SOwn.nil _
     refine ap FdB_el_S_int Rep.flat_bare O_285 (Blk.has1 (R := repI) (by_ := 8) (q := p + f.wide) B_282 ⟨rfl, okI_iff.2 (by omega)⟩ (by decide)) rfl rfl (by simp) (by simp) z_278.size rfl fun w_286 A_287 c_288 m_289 O_290 g_291 n_292 => ?_
     have q_293 := m_289.size
     have z_286 := Ext.mod z_278 m_289 (fun q hq => (O_285.lt q hq).1)
     have u_294 := fun q hq => (O_290.lt q hq).2
     have q_295 := m_289.size
     refine vl (as_ rfl) rfl <| nl <| nT <| sq <| rg <| vl (mv rfl) rfl <| vl (as_ rfl) rfl <| nl <| nT <| rt <| tR (.tmp rfl .nil) <| ?_
     have hb := stp_eq hin
     rw [← hp] at hb
     have he : stpI f c = ([] : List Int) ++ [p + f.wide] := by rw [hb]; rw [if_neg (by omega)]; rw [if_neg (by omega)]; rw [if_neg (by omega)]; rw [if_pos (by omega)]; simp
     exact ⟨A_287, c_288, by rw [he]; rfl, by rw [he]; exact O_290, z_286⟩
    ·refine sk <| nT <| sq <| rg <| vl (mv rfl) rfl <| vl (as_ rfl) rfl <| nl <| nT <| rt <| tR (.tmp rfl .nil) <| ?_
     have hb := stp_eq hin
     rw [← hp] at hb
     have he : stpI f c = ([] : List Int) := by rw [hb]; rw [if_neg (by omega)]; rw [if_neg (by omega)]; rw [if_neg (by omega)]; rw [if_neg (by omega)]; simp
     exact ⟨none, 0, by rw [he]; rfl, by rw [he]; exact Rep.SOwn.nil _, z_162⟩
theorem floodBest_w (f : Fld) (P : Option Addr) (pc : Nat) (A : Option Addr) (c : Nat) (l : List Cel) (w : World) (hP : repI.SHas 8 w P pc f.places) (hl : Cel.rep.SHas 16 w A c l) :
  Calls Try.prog 4 #[.agg #[.int .i64 f.wide, .int .i64 f.high, .slice P f.places.length pc], .slice A l.length c] w (fun e w' => e = .returned (.bool true) ∧ Ext w w') := by
 refine calls_W (n := 144) Try.func4 rfl rfl rfl ?_
 refine sq <| rg <| bx rfl rfl rfl rfl fun w_1 b_2 x_3 l_4 B_5 => ?_
 have q_6 := x_3.size
 have z_1 := Ext.tr (Ext.rf w) x_3
 have q_7 := B_5.lt
 refine vl (as_ rfl) rfl <| nl <| nT <| sq <| rg <| vl (ld rfl (B_5.all eF16 eF17)) rfl <| vl (mv rfl) rfl <| ca eF45 rfl rfl ((from_any f l _ _ _ _ _ (hP.keep z_1) (hl.keep z_1)).mono ?_)
 rintro e w_11 ⟨E8, A8, c8, far8, rfl, OF8, hr8, x_12⟩
 refine ⟨_, rfl, ?_⟩
 have q_13 := x_12.size
 have z_11 := Ext.tr z_1 x_12
 have u_9 := fun q hq => (OF8.lt q hq).2
 have lo_10 := fun q hq => (OF8.lt q hq).1
 refine vl (mv rfl) rfl <| vl (ex rfl rfl) rfl <| vl (ex rfl rfl) rfl <| vl (as_ rfl) rfl <| vl (as_ rfl) rfl <| nl <| nT <| sq <| sq <| ?_
 rcases b1o_ (E8 != 0) with c0 | c0
 ·have hno : far8.length = 0 := by rw [hr8.no (by simpa using c0)]; rfl
  refine rg <| ca eF47 rfl rfl ((floodLives_any _).mono ?_)
  rintro e w_14 ⟨rfl, x_15⟩
  refine ⟨_, rfl, ?_⟩
  have q_16 := x_15.size
  have z_14 := Ext.tr z_11 x_15
  refine vl (nt rfl) rfl <| vl (mv rfl) rfl <| ug rfl rfl rfl <| vl (mv rfl) rfl <| ug rfl rfl rfl <| vl (bne rfl rfl) rfl <| vl (pkF rfl (evb rfl c0)) rfl <| vl (mv rfl) rfl <| vQ (v := undef) rfl rfl rfl rfl (fun hc => nomatch hc) rfl <| vQ (v := undef) rfl rfl rfl rfl (fun hc => nomatch hc) rfl <| vQ (v := undef) rfl rfl rfl rfl (fun hc => nomatch hc) rfl <| vQ (v := undef) rfl rfl rfl rfl (fun hc => nomatch hc) rfl <| vQ (v := undef) rfl rfl rfl rfl (fun hc => nomatch hc) rfl <| vQ (v := undef) rfl rfl rfl rfl (fun hc => nomatch hc) rfl <| vl (pkT rfl rfl) rfl <| nl <| nT <| cT rfl <| sq <| rg <| ca eF47 rfl rfl ((floodLives_any _).mono ?_)
  rintro e w_17 ⟨rfl, x_18⟩
  refine ⟨_, rfl, ?_⟩
  have q_19 := x_18.size
  have z_17 := Ext.tr z_14 x_18
  refine vl (mv rfl) rfl <| ug rfl rfl rfl <| vl (mv rfl) rfl <| ug rfl rfl rfl <| vl (bne rfl rfl) rfl <| vl (pkT rfl (evb rfl c0)) rfl <| vl (mv rfl) rfl <| ug rfl rfl rfl <| vl (mv rfl) rfl <| ug rfl rfl rfl <| vl (ln Try.underlying22 rfl) rfl <| ug rfl rfl rfl <| vl (beq rfl rfl) rfl <| vl (pkT rfl rfl) rfl <| vl (as_ rfl) rfl <| nl <| nT <| rt <| tT <| tR (.tmp rfl .nil) <| ?_
  exact ⟨ret_true (by rw [hno]; rfl), z_17⟩
 ·obtain ⟨⟨hf, hl1, hl2⟩, fe⟩ := hr8.ok (by simpa using c0)
  have hL := fe.len
  have c1_ : ((far8.length : Int) != (f.places.length : Int)) = false := by rw [hL]; simp
  have hl16 := Fld.len_le hf
  obtain ⟨g1, g2, g3, g4, g5, g6⟩ := Fld.good hf
  refine rg <| ca eF47 rfl rfl ((floodLives_any _).mono ?_)
  rintro e w_20 ⟨rfl, x_21⟩
  refine ⟨_, rfl, ?_⟩
  have q_22 := x_21.size
  have z_20 := Ext.tr z_11 x_21
  refine vl (nt rfl) rfl <| vl (mv rfl) rfl <| ug rfl rfl rfl <| vl (mv rfl) rfl <| ug rfl rfl rfl <| vl (bne rfl rfl) rfl <| vl (pkF rfl (evb rfl c0)) rfl <| vl (mv rfl) rfl <| ug rfl rfl rfl <| vl (mv rfl) rfl <| ug rfl rfl rfl <| vl (ln Try.underlying22 rfl) rfl <| ug rfl rfl rfl <| vl (fa eF19 rfl) rfl <| ug rfl rfl rfl <| ?_
  have B_5 := B_5.later (Ext.tr x_12 x_21)
  refine vl (ld rfl (B_5.one eF20 rfl)) rfl <| ug rfl rfl rfl <| vl (ln Try.underlying22 rfl) rfl <| ug rfl rfl rfl <| vl (bne rfl rfl) rfl <| vl (pkF rfl (evb rfl c1_)) rfl <| nl <| nT <| cF rfl <| sk <| nT <| sq <| rg <| vl (mv rfl) rfl <| vl (ln Try.underlying22 rfl) rfl <| mO (R := repB) (by_ := 1) (B := w.heap.size) (c := far8.length) (zv := (.bool false)) (q := false) Rep.flat_plain Try.underlying45 FdB_ib_bool rfl rfl (fun j u h => raw0B j u h) (fun _ => ⟨rfl, trivial⟩) rfl rfl rfl (by omega) (by omega) (by omega) fun w_23 b_24 x_25 l_26 O_27 => ?_
  have q_28 := x_25.size
  have z_23 := Ext.tr z_20 x_25
  have u_29 := fun q hq => (O_27.lt q hq).2
  have lo_30 : ∀ q ∈ Rep.blkOf (some ⟨b_24, 0, none⟩), b_24 ≤ q := fun q hq => Nat.le_of_eq (List.mem_singleton.1 hq).symm
  refine vl (as_ rfl) rfl <| nl <| nT <| sq <| sq <| rg <| vl (mv rfl) rfl <| vl (ln Try.underlying25 rfl) rfl <| vl (mv rfl) rfl <| nl <| nT <| bk <| ?_
  have B_5 := B_5.later x_25
  have OF8 := OF8.later (Ext.tr x_21 x_25)
  refine lp (fun mI EI wI => ∃ k : Nat, ∃ bl : List Bool, EI = [(2, .pointer (some ⟨b_2, 0, none⟩)), (4, .bool false), (5, .slice A8 far8.length c8), (7, .slice (some ⟨b_24, 0, none⟩) far8.length far8.length), (50, .slice A l.length c), (51, .int .i64 (l.length : Int)), (52, .int .i64 (k : Int))] ∧ mI = l.length - k ∧ Ext w wI ∧ Blk wI b_2 [.int .i64 f.wide, .int .i64 f.high, .slice P f.places.length pc] 24 (0, 0) ∧ repI.SOwn 3 8 wI w_1.heap.size (Rep.blkOf A8) A8 c8 (far8) ∧ repB.SOwn 4 1 wI w.heap.size (Rep.blkOf (some ⟨b_24, 0, none⟩)) (some ⟨b_24, 0, none⟩) far8.length (bl) ∧ (k ≤ l.length) ∧ (bl.length = f.places.length) ∧ (∀ i, bl.getD i false = true ↔ ∃ c ∈ l.take k, f.at_ c = i) ∧ (∀ q ∈ Rep.blkOf (some ⟨b_24, 0, none⟩), q = b_2 → False) ∧ (∀ q ∈ Rep.blkOf (some ⟨b_24, 0, none⟩), q ∈ Rep.blkOf A8 → False)) _ _ ⟨0, List.replicate far8.length false, rfl, rfl, z_23, B_5, OF8, O_27, by omega, by rw [List.length_replicate, hL], fst_nil, (fun q hq hb => by (have := lo_30 q hq; omega)), (fun q hq hb => by (have := lo_30 q hq; (have := u_9 q hb; omega)))⟩ (.cons rfl (.cons rfl (.cons rfl (.cons rfl (.cons rfl (.cons rfl (.cons (loI rfl (by first | omega | rfl | (simp <;> omega))) .nil))))))) ?_
  rintro m_34 E_35 w_33 ⟨k, bl, rfl, rfl, z_33, B_5, OF8, HB0, hk, hbl, hbf, d_31, d_32⟩
  have q_36 := z_33.size
  have q_37 := B_5.lt
  have u_38 := fun q hq => (OF8.lt q hq).2
  have u_39 := fun q hq => (HB0.lt q hq).2
  refine sq <| rg <| vl (blt rfl rfl) rfl <| nl <| nT <| sq <| ?_
  refine clt rfl (fun h_40 => ?_) (fun h_40 => ?_)
  ·obtain ⟨c, hc⟩ : ∃ c, l.getD k default = c := ⟨_, rfl⟩
   have hcl : c ∈ l := by rw [← hc]; exact mem_dd (by omega)
   have hci := Fld.ground_in (hl2 c hcl)
   obtain ⟨ic1, ic2, ic3, ic4, ic5, ic6⟩ := Fld.idx hf hci
   have hat : f.at_ c < bl.length := by rw [hbl]; exact (Fld.at_lt hf hci).1
   have hat2 := pl_lt hf hci
   refine sk <| nT <| sq <| bk <| sq <| rg <| vl (iA k Try.underlying25 eF23 rfl rfl ((hl.keep z_33).adr (Nat.zero_lt_of_lt (show k < _ from (by omega)))) rfl (by omega)) rfl <| vl (ld rfl (Rep.SHas.elt hcC ((hl.keep z_33).adh (Nat.zero_lt_of_lt (show k < _ from (by omega)))) (show l[k]? = some c by rw [← hc]; exact get_d (u := default) (by omega)) eF24 eF23)) rfl <| al rfl eF25 rfl rfl fun w_41 b_42 x_43 l_44 B_45 => ?_
   have q_46 := x_43.size
   have z_41 := Ext.tr z_33 x_43
   have q_47 := B_45.lt
   refine st (new := [.int .i64 c.x, .int .i64 c.y]) rfl rfl B_45 rfl eF23 rfl rfl rfl fun w_48 m_49 B_45 => ?_
   have q_51 := m_49.size
   have z_48 := Ext.mod z_41 m_49 (ge1 (by omega))
   have q_50 := m_49.size
   refine nl <| nT <| rg <| vl (mv rfl) rfl <| vl (fa eF27 rfl) rfl <| vl (ld rfl (B_45.one eF1 rfl)) rfl <| vl (fa eF0 rfl) rfl <| ?_
   have B_5 := B_5.later x_43
   have B_5 := B_5.mod m_49 (nm1 (by omega))
   refine vl (ld rfl (B_5.one eF1 rfl)) rfl <| vl (bmu rfl rfl (inI (by omega))) rfl <| vl (fa eF28 rfl) rfl <| vl (ld rfl (B_45.one eF1 rfl)) rfl <| vl (bad rfl rfl (inI (by omega))) rfl <| ?_
   have HB0 := HB0.later x_43
   have HB0 := HB0.mod m_49 (fk1 u_39 (by omega))
   refine vl (iA (((c.y * f.wide) + c.x).toNat) Try.underlying45 eF48 rfl rfl (HB0.has.adr (Nat.zero_lt_of_lt (show ((c.y * f.wide) + c.x).toNat < _ from (by omega)))) (by omega) (by omega)) rfl <| so (q' := true) (j := 0) (i := (((c.y * f.wide) + c.x).toNat)) HB0 Rep.flat_bare (get_d (l := bl) (u := false) (by omega)) rfl rfl rfl rfl (fun _ cs h => by have ok_ := (show _ ∧ _ from h).2; obtain rfl := hcB h; exact ⟨rfl, trivial⟩) rfl rfl eF48 fun w_52 m_53 O_54 => ?_
   have q_55 := m_53.size
   have z_52 := Ext.mod z_48 m_53 (fun q hq => (HB0.lt q hq).1)
   have q_56 := m_53.size
   refine nl <| nB <| nT <| rg <| vl (bad rfl rfl (inI (by omega))) rfl <| vl (mv rfl) rfl <| nl <| ?_
   have B_5 := B_5.mod m_53 (fun hq => d_31 _ hq rfl)
   have OF8 := OF8.later x_43
   have OF8 := OF8.mod m_49 (fun q hq h => by have hb := List.mem_singleton.1 h; exfalso; (have := u_38 q hq; have := u_9 q hq; omega))
   have OF8 := OF8.mod m_53 (fun q hq h => by exfalso; (exact d_32 q h hq))
   exact nI _ _ ⟨k + 1, (bl).set (((c.y * f.wide) + c.x).toNat) true, rfl, rfl, z_52, B_5, OF8, O_54, by omega, by rw [List.length_set]; exact hbl, fst_step hbf (by omega) hc hat, (fun q hq hb => by (exact d_31 q hq hb)), (fun q hq hb => by (exact d_32 q hq hb))⟩ (by omega) (.cons rfl (.cons rfl (.cons rfl (.cons rfl (.cons rfl (.cons rfl (.cons (loI rfl (by first | omega | rfl | (simp <;> omega))) .nil)))))))
  ·refine xt <| xT <| xK <| xB <| nT <| sq <| sq <| rg <| vl (mv rfl) rfl <| vl (ln Try.underlying22 rfl) rfl <| vl (mv rfl) rfl <| nl <| nT <| bk <| ?_
   refine lp (fun mI EI wI => ∃ i : Nat, EI = [(2, .pointer (some ⟨b_2, 0, none⟩)), (5, .slice A8 far8.length c8), (7, .slice (some ⟨b_24, 0, none⟩) far8.length far8.length), (67, .slice A8 far8.length c8), (68, .int .i64 (far8.length : Int)), (69, .int .i64 (i : Int))] ∧ mI = f.places.length - i ∧ Ext w wI ∧ Blk wI b_2 [.int .i64 f.wide, .int .i64 f.high, .slice P f.places.length pc] 24 (0, 0) ∧ repI.SOwn 3 8 wI w_1.heap.size (Rep.blkOf A8) A8 c8 (far8) ∧ repB.SOwn 4 1 wI w.heap.size (Rep.blkOf (some ⟨b_24, 0, none⟩)) (some ⟨b_24, 0, none⟩) far8.length (bl) ∧ (i ≤ f.places.length)) _ _ ⟨0, rfl, rfl, z_33, B_5, OF8, HB0, by omega⟩ (.cons rfl (.cons rfl (.cons rfl (.cons rfl (.cons rfl (.cons (loI rfl (by first | omega | rfl | (simp <;> omega))) .nil)))))) ?_
   rintro m_58 E_59 w_57 ⟨i, rfl, rfl, z_57, B_5, OF8, HB0, hi⟩
   have q_60 := z_57.size
   have q_61 := B_5.lt
   have u_62 := fun q hq => (OF8.lt q hq).2
   have u_63 := fun q hq => (HB0.lt q hq).2
   refine sq <| rg <| vl (blt rfl rfl) rfl <| nl <| nT <| sq <| ?_
   refine clt rfl (fun h_64 => ?_) (fun h_64 => ?_)
   ·obtain ⟨pt, hpi, hpt⟩ := cell_at hf (i := i) (by omega)
    obtain ⟨fi1, fi2⟩ := fr_i fe hpi hpt (by omega)
    obtain ⟨ip1, ip2, ip3, ip4, ip5, ip6⟩ := Fld.idx hf hpi
    have hip : (i : Int) = pt.y * f.wide + pt.x := by have := (Fld.at_lt hf hpi).2; omega
    have hzero := fst_all hf hl2 hbf (by omega) fe hpi hpt
    obtain ⟨cg1, cg2⟩ := cost_ground hf hpi
    have hplc : f.places[i]? = some (f.place pt) := by have := pl_get hf hpi; rw [← hip] at this; simpa using this
    have hkp := f.kost_bd (c := pt)
    have hbdp := fe.bd pt
    refine sk <| nT <| sq <| bk <| sq <| rg <| vl (mv rfl) rfl <| vl (iA i Try.underlying22 eF21 rfl rfl (OF8.has.adr (Nat.zero_lt_of_lt (show i < _ from (by omega)))) rfl (by omega)) rfl <| vl (ld rfl (Rep.SHas.one' hcI (OF8.has.adh (Nat.zero_lt_of_lt (show i < _ from (by omega)))) fi1 rfl eF1)) rfl <| vl (as_ rfl) rfl <| vl (as_ rfl) rfl <| nl <| nT <| sq <| rg <| vl (fa eF19 rfl) rfl <| vl (ld rfl (B_5.one eF20 rfl)) rfl <| vl (mv rfl) rfl <| vl (iA i Try.underlying22 eF21 rfl rfl ((hP.keep z_57).adr (Nat.zero_lt_of_lt (show i < _ from (by omega)))) rfl (by omega)) rfl <| vl (ld rfl (Rep.SHas.one' hcI ((hP.keep z_57).adh (Nat.zero_lt_of_lt (show i < _ from (by omega)))) hplc rfl eF1)) rfl <| ca eF33 rfl rfl ((fcost_any (f.place pt) _).mono ?_)
    rintro e w_65 ⟨rfl, x_66⟩
    refine ⟨_, rfl, ?_⟩
    have q_67 := x_66.size
    have z_65 := Ext.tr z_57 x_66
    refine vl (mv rfl) rfl <| vl (ex rfl rfl) rfl <| vl (ex rfl rfl) rfl <| vl (as_ rfl) rfl <| vl (as_ rfl) rfl <| nl <| nT <| sq <| sq <| ?_
    rcases b1o_ (f.ground pt) with gp | gp
    ·have c6_ : ((costE (f.place pt)) == 0) = true := by rw [cg1]; exact gp
     have c5_ : ((costE (f.place pt)) != 0) = false := by rw [bne_eq_false_iff_eq]; exact beq_iff_eq.1 c6_
     have hkk := cg2 gp
     refine rg <| vl (mv rfl) rfl <| vl (mv rfl) rfl <| ?_
     have HB0 := HB0.later x_66
     refine vl (iA i Try.underlying45 eF48 rfl rfl (HB0.has.adr (Nat.zero_lt_of_lt (show i < _ from (by omega)))) rfl (by omega)) rfl <| vl (ld rfl (Rep.SHas.one' hcB (HB0.has.adh (Nat.zero_lt_of_lt (show i < _ from (by omega)))) (get_d (l := bl) (u := false) (by omega)) rfl eF49)) rfl <| vl (mv rfl) rfl <| vl (beq rfl rfl) rfl <| vl (bnB Try.underlying4 rfl rfl) rfl <| vl (mv (evb rfl hzero)) rfl <| ug rfl rfl rfl <| vl (mv rfl) rfl <| ug rfl rfl rfl <| vl (bne rfl rfl) rfl <| ug rfl rfl rfl <| vl (mv (evb rfl c5_)) rfl <| vQ (v := undef) rfl rfl rfl rfl (fun hc => nomatch hc) rfl <| vQ (v := undef) rfl rfl rfl rfl (fun hc => nomatch hc) rfl <| ug rfl rfl rfl <| vl (pkF rfl rfl) rfl <| vl (pkF rfl rfl) rfl <| nl <| nT <| cF rfl <| sk <| nT <| sq <| rg <| ?_
     refine vl (mv rfl) rfl <| vl (ble rfl rfl) rfl <| vl (as_ rfl) rfl <| nl <| nT <| sq <| sq <| rg <| ?_
     have B_5 := B_5.later x_66
     refine vl (ld rfl (B_5.all eF16 eF17)) rfl <| vl (mv rfl) rfl <| ca eF50 rfl rfl ((steps_any f pt (i : Int) P pc _ hf hpi hip).mono ?_)
     rintro e w_71 ⟨A_68, c_68, rfl, OB_68, x_72⟩
     refine ⟨_, rfl, ?_⟩
     have q_73 := x_72.size
     have z_71 := Ext.tr z_65 x_72
     have u_69 := fun q hq => (OB_68.lt q hq).2
     have lo_70 := fun q hq => (OB_68.lt q hq).1
     refine vl (ln Try.underlying22 rfl) rfl <| vl (mv rfl) rfl <| nl <| nT <| bk <| ?_
     have B_5 := B_5.later x_72
     have OF8 := OF8.later (Ext.tr x_66 x_72)
     have HB0 := HB0.later x_72
     refine lp (fun mI EI wI => ∃ j : Nat, ∃ ju : Bool, EI = [(2, .pointer (some ⟨b_2, 0, none⟩)), (5, .slice A8 far8.length c8), (7, .slice (some ⟨b_24, 0, none⟩) far8.length far8.length), (10, .int .i64 (i : Int)), (11, .int .i64 (f.fr far8 pt)), (12, .int .i64 (costK (f.place pt))), (13, .int .i64 (costE (f.place pt))), (14, .bool ju), (67, .slice A8 far8.length c8), (68, .int .i64 (far8.length : Int)), (69, .int .i64 (i : Int)), (70, .bool (decide ((i : Int) < (far8.length : Int)))), (71, .int .i64 (i : Int)), (72, .pointer (some ⟨bA A8, oA A8 + i * 1, none⟩)), (73, .int .i64 (f.fr far8 pt)), (74, .tuple #[.int .i64 (costK (f.place pt)), .int .i64 (costE (f.place pt))]), (75, .pointer (some ⟨b_2, 2, none⟩)), (76, .slice P f.places.length pc), (77, .int .i64 (i : Int)), (78, .pointer (some ⟨bA P, oA P + i * 1, none⟩)), (79, .int .i64 (f.place pt)), (80, .tuple #[.int .i64 (costK (f.place pt)), .int .i64 (costE (f.place pt))]), (81, .int .i64 (costK (f.place pt))), (82, .int .i64 (costE (f.place pt))), (83, .slice (some ⟨b_24, 0, none⟩) far8.length far8.length), (84, .int .i64 (i : Int)), (85, .pointer (some ⟨bA (some ⟨b_24, 0, none⟩), oA (some ⟨b_24, 0, none⟩) + i * 1, none⟩)), (86, .bool (bl.getD i false)), (87, .int .i64 (f.fr far8 pt)), (88, .bool ((f.fr far8 pt) == 0)), (89, .bool ((bl.getD i false) != ((f.fr far8 pt) == 0))), (90, .bool false), (91, .int .i64 (costE (f.place pt))), (92, .bool ((costE (f.place pt)) != 0)), (93, .bool false), (94, gv false (undef)), (95, gv false (undef)), (96, .bool false), (97, .bool false), (98, .int .i64 (f.fr far8 pt)), (99, .bool (decide (f.fr far8 pt ≤ 0))), (100, .agg #[.int .i64 f.wide, .int .i64 f.high, .slice P f.places.length pc]), (101, .int .i64 (i : Int)), (102, .slice A_68 ((stpI f pt).length) c_68), (103, .int .i64 ((((stpI f pt).length : Nat) : Int))), (104, .int .i64 (j : Int))] ∧ mI = (stpI f pt).length - j ∧ Ext w wI ∧ Blk wI b_2 [.int .i64 f.wide, .int .i64 f.high, .slice P f.places.length pc] 24 (0, 0) ∧ repI.SOwn 3 8 wI w_1.heap.size (Rep.blkOf A8) A8 c8 (far8) ∧ repB.SOwn 4 1 wI w.heap.size (Rep.blkOf (some ⟨b_24, 0, none⟩)) (some ⟨b_24, 0, none⟩) far8.length (bl) ∧ repI.SOwn 3 8 wI w_65.heap.size (Rep.blkOf A_68) A_68 c_68 (stpI f pt) ∧ (j ≤ (stpC f pt).length) ∧ (ju = true ∨ NoStep f far8 pt j)) _ _ ⟨0, decide (f.fr far8 pt ≤ 0), rfl, rfl, z_71, B_5, OF8, HB0, OB_68, by omega, (by rcases (show f.fr far8 pt ≤ 0 ∨ 0 < f.fr far8 pt by omega) with h | h; exact .inl (decide_eq_true h); exact .inr ⟨h, fun i hi => by omega⟩)⟩ (.cons rfl (.cons rfl (.cons rfl (.cons rfl (.cons rfl (.cons rfl (.cons rfl (.cons rfl (.cons rfl (.cons rfl (.cons rfl (.cons rfl (.cons rfl (.cons rfl (.cons rfl (.cons rfl (.cons rfl (.cons rfl (.cons rfl (.cons rfl (.cons rfl (.cons rfl (.cons rfl (.cons rfl (.cons rfl (.cons rfl (.cons rfl (.cons rfl (.cons rfl (.cons rfl (.cons rfl (.cons rfl (.cons rfl (.cons rfl (.cons rfl (.cons rfl (.cons rfl (.cons rfl (.cons rfl (.cons rfl (.cons rfl (.cons rfl (.cons rfl (.cons rfl (.cons rfl (.cons (loI rfl (by first | omega | rfl | (simp <;> omega))) .nil)))))))))))))))))))))))))))))))))))))))))))))) ?_
     rintro m_75 E_76 w_74 ⟨j, ju, rfl, rfl, z_74, B_5, OF8, HB0, OB_68, hj, hju⟩
     have q_77 := z_74.size
     have q_78 := B_5.lt
     have u_79 := fun q hq => (OF8.lt q hq).2
     have u_80 := fun q hq => (HB0.lt q hq).2
     have u_81 := fun q hq => (OB_68.lt q hq).2
     have hs4 := stpI_len (f := f) (c := pt)
     have hs5 := stp_len (f := f) (c := pt)
     refine sq <| rg <| vl (blt rfl rfl) rfl <| nl <| nT <| sq <| ?_
     refine clt rfl (fun h_82 => ?_) (fun h_82 => ?_)
     ·have hj2 : j < (stpC f pt).length := by rw [← stpI_len]; omega
      obtain ⟨nd, hnd⟩ : ∃ nd, (stpC f pt).getD j default = nd := ⟨_, rfl⟩
      obtain ⟨hnm, hni⟩ := stp_at hj2 hnd
      obtain ⟨nl1, nl2, nl3⟩ := fr_lt hf hL hni
      have hbdn := fe.bd nd
      refine sk <| nT <| sq <| bk <| sq <| rg <| vl (iA j Try.underlying22 eF21 rfl rfl (OB_68.has.adr (Nat.zero_lt_of_lt (show j < _ from (by rw [stpI_len]; exact hj2)))) rfl (by rw [stpI_len]; exact hj2)) rfl <| vl (ld rfl (Rep.SHas.one' hcI (OB_68.has.adh (Nat.zero_lt_of_lt (show j < _ from (by rw [stpI_len]; exact hj2)))) (stp_get hj2 hnd) rfl eF1)) rfl <| vl (as_ rfl) rfl <| nl <| nT <| sq <| ?_
      rcases b1o_ (decide (0 ≤ f.fr far8 nd)) with c8_ | c8_
      ·obtain ⟨sp1, sp2⟩ := step_le fe hnm gp (of_decide_eq_true c8_)
       have c9_ : (decide (f.fr far8 pt < 0)) = false := decide_eq_false (by omega)
       have cA_ : (decide ((f.fr far8 nd) + (costK (f.place pt)) < f.fr far8 pt)) = false := decide_eq_false (by omega)
       refine rg <| vl (mv rfl) rfl <| vl (mv rfl) rfl <| vl (iA ((nd.y * f.wide + nd.x).toNat) Try.underlying22 eF21 rfl rfl (OF8.has.adr (Nat.zero_lt_of_lt (show (nd.y * f.wide + nd.x).toNat < _ from nl1))) (by omega) nl1) rfl <| vl (ld rfl (Rep.SHas.one' hcI (OF8.has.adh (Nat.zero_lt_of_lt (show (nd.y * f.wide + nd.x).toNat < _ from nl1))) (fr_get hf hL hni) rfl eF1)) rfl <| vl (bge rfl rfl) rfl <| vl (mv (evb rfl c8_)) rfl <| ug rfl rfl rfl <| vl (mv rfl) rfl <| ug rfl rfl rfl <| vl (beq rfl rfl) rfl <| vl (pkT rfl (evb rfl c6_)) rfl <| nl <| nT <| cT rfl <| sq <| sq <| rg <| vl (mv rfl) rfl <| vl (blt rfl rfl) rfl <| vl (mv (evb rfl c9_)) rfl <| ug rfl rfl rfl <| vl (mv rfl) rfl <| ug rfl rfl rfl <| ?_
       refine vl (mv rfl) rfl <| ug rfl rfl rfl <| vl (mv rfl) rfl <| ug rfl rfl rfl <| vl (iA ((nd.y * f.wide + nd.x).toNat) Try.underlying22 eF21 rfl rfl (OF8.has.adr (Nat.zero_lt_of_lt (show (nd.y * f.wide + nd.x).toNat < _ from nl1))) (by omega) nl1) rfl <| ug rfl rfl rfl <| vl (ld rfl (Rep.SHas.one' hcI (OF8.has.adh (Nat.zero_lt_of_lt (show (nd.y * f.wide + nd.x).toNat < _ from nl1))) (fr_get hf hL hni) rfl eF1)) rfl <| ug rfl rfl rfl <| vl (mv rfl) rfl <| ug rfl rfl rfl <| vl (bad rfl rfl (inI (by omega))) rfl <| ug rfl rfl rfl <| vl (bgt rfl rfl) rfl <| vl (pkF rfl (evb rfl cA_)) rfl <| nl <| nT <| cF rfl <| sk <| nT <| rg <| vl (mv rfl) rfl <| vl (mv rfl) rfl <| vQ rfl rfl rfl rfl (fun hc => mv rfl) rfl <| vQ rfl rfl rfl rfl (fun hc => mv rfl) rfl <| ?_
       refine vQ rfl rfl rfl rfl (fun hc => mv rfl) rfl <| vQ rfl rfl rfl rfl (fun hc => iA ((nd.y * f.wide + nd.x).toNat) Try.underlying22 eF21 (gt hc rfl) (gt hc rfl) (OF8.has.adr (Nat.zero_lt_of_lt (show (nd.y * f.wide + nd.x).toNat < _ from nl1))) (by (try simp only [Bool.or_eq_true, Bool.or_eq_false_iff, Bool.and_eq_true, Bool.and_eq_false_iff, decide_eq_true_eq, decide_eq_false_iff_not, beq_iff_eq, bne_iff_ne, beq_eq_false_iff_ne, bne_eq_false_iff_eq, Bool.not_eq_true', Bool.not_eq_false', Bool.not_eq_true, Bool.not_eq_false, Int.not_lt, Int.not_le, Nat.not_lt, Nat.not_le, ne_eq, Classical.not_not] at hc); omega) nl1) rfl <| vQ rfl rfl rfl rfl (fun hc => ld (gt hc rfl) (Rep.SHas.one' hcI (OF8.has.adh (Nat.zero_lt_of_lt (show (nd.y * f.wide + nd.x).toNat < _ from nl1))) (fr_get hf hL hni) rfl eF1)) rfl <| vQ rfl rfl rfl rfl (fun hc => mv rfl) rfl <| vQ rfl rfl rfl rfl (fun hc => bad (gt hc rfl) (gt hc rfl) (inI (by (try simp only [Bool.or_eq_true, Bool.or_eq_false_iff, Bool.and_eq_true, Bool.and_eq_false_iff, decide_eq_true_eq, decide_eq_false_iff_not, beq_iff_eq, bne_iff_ne, beq_eq_false_iff_ne, bne_eq_false_iff_eq, Bool.not_eq_true', Bool.not_eq_false', Bool.not_eq_true, Bool.not_eq_false, Int.not_lt, Int.not_le, Nat.not_lt, Nat.not_le, ne_eq, Classical.not_not] at hc); omega))) rfl <| vQ rfl rfl rfl rfl (fun hc => beq (gt hc rfl) (gt hc rfl)) rfl <| vl (pO rfl rfl rfl rfl) rfl <| vl (as_ rfl) rfl <| nl <| nB <| nT <| rg <| vl (bad rfl rfl (inI (by omega))) rfl <| vl (mv rfl) rfl <| nl <| ?_
       exact nI _ _ ⟨j + 1, ju || ((f.fr far8 pt) == ((f.fr far8 nd) + (costK (f.place pt)))), rfl, rfl, z_74, B_5, OF8, HB0, OB_68, by omega, (ju_step hju hnd (by rw [hkk]))⟩ (by have := stpI_len (f := f) (c := pt); omega) (.cons rfl (.cons rfl (.cons rfl (.cons rfl (.cons rfl (.cons rfl (.cons rfl (.cons rfl (.cons rfl (.cons rfl (.cons rfl (.cons rfl (.cons rfl (.cons rfl (.cons rfl (.cons rfl (.cons rfl (.cons rfl (.cons rfl (.cons rfl (.cons rfl (.cons rfl (.cons rfl (.cons rfl (.cons rfl (.cons rfl (.cons rfl (.cons rfl (.cons rfl (.cons rfl (.cons rfl (.cons rfl (.cons rfl (.cons rfl (.cons rfl (.cons rfl (.cons rfl (.cons rfl (.cons rfl (.cons rfl (.cons rfl (.cons rfl (.cons rfl (.cons rfl (.cons rfl (.cons (loI rfl (by first | omega | rfl | (simp <;> omega))) .nil))))))))))))))))))))))))))))))))))))))))))))))
      ·have hn8 := of_decide_eq_false c8_
       refine rg <| vl (mv rfl) rfl <| vl (mv rfl) rfl <| vl (iA ((nd.y * f.wide + nd.x).toNat) Try.underlying22 eF21 rfl rfl (OF8.has.adr (Nat.zero_lt_of_lt (show (nd.y * f.wide + nd.x).toNat < _ from nl1))) (by omega) nl1) rfl <| vl (ld rfl (Rep.SHas.one' hcI (OF8.has.adh (Nat.zero_lt_of_lt (show (nd.y * f.wide + nd.x).toNat < _ from nl1))) (fr_get hf hL hni) rfl eF1)) rfl <| vl (bge rfl rfl) rfl <| vl (mv (evb rfl c8_)) rfl <| vQ (v := undef) rfl rfl rfl rfl (fun hc => nomatch hc) rfl <| vQ (v := undef) rfl rfl rfl rfl (fun hc => nomatch hc) rfl <| vl (pkF rfl rfl) rfl <| nl <| nT <| cF rfl <| sk <| nB <| nT <| rg <| vl (bad rfl rfl (inI (by omega))) rfl <| vl (mv rfl) rfl <| nl <| ?_
       exact nI _ _ ⟨j + 1, ju, rfl, rfl, z_74, B_5, OF8, HB0, OB_68, by omega, (hju.imp id fun h => nostep_go h hnd (fun h_ => hn8 h_.1))⟩ (by have := stpI_len (f := f) (c := pt); omega) (.cons rfl (.cons rfl (.cons rfl (.cons rfl (.cons rfl (.cons rfl (.cons rfl (.cons rfl (.cons rfl (.cons rfl (.cons rfl (.cons rfl (.cons rfl (.cons rfl (.cons rfl (.cons rfl (.cons rfl (.cons rfl (.cons rfl (.cons rfl (.cons rfl (.cons rfl (.cons rfl (.cons rfl (.cons rfl (.cons rfl (.cons rfl (.cons rfl (.cons rfl (.cons rfl (.cons rfl (.cons rfl (.cons rfl (.cons rfl (.cons rfl (.cons rfl (.cons rfl (.cons rfl (.cons rfl (.cons rfl (.cons rfl (.cons rfl (.cons rfl (.cons rfl (.cons rfl (.cons (loI rfl (by first | omega | rfl | (simp <;> omega))) .nil))))))))))))))))))))))))))))))))))))))))))))))
     ·have hjt : ju = true := hju.elim id fun h => (nostep_end fe h (by omega)).elim
      refine xt <| xT <| xK <| xB <| nT <| sq <| rg <| vl (mv rfl) rfl <| vl (nt rfl) rfl <| nl <| nT <| ?_
      have h_83 : (!ju) = false := by rw [hjt]; rfl
      refine cF (by rw [← h_83]; rfl) <| sk <| nB <| nT <| rg <| vl (bad rfl rfl (inI (by omega))) rfl <| vl (mv rfl) rfl <| nl <| ?_
      exact nI _ _ ⟨i + 1, rfl, rfl, z_74, B_5, OF8, HB0, by omega⟩ (by omega) (.cons rfl (.cons rfl (.cons rfl (.cons rfl (.cons rfl (.cons (loI rfl (by first | omega | rfl | (simp <;> omega))) .nil))))))
    ·have c6_ : ((costE (f.place pt)) == 0) = false := by rw [cg1]; exact gp
     have c5_ : ((costE (f.place pt)) != 0) = true := by rw [bne_iff_ne]; exact beq_eq_false_iff_ne.1 c6_
     have hrf := rock_far fe gp
     have c7_ : ((f.fr far8 pt) != (-1)) = false := by rw [hrf]; rfl
     refine rg <| vl (mv rfl) rfl <| vl (mv rfl) rfl <| ?_
     have HB0 := HB0.later x_66
     refine vl (iA i Try.underlying45 eF48 rfl rfl (HB0.has.adr (Nat.zero_lt_of_lt (show i < _ from (by omega)))) rfl (by omega)) rfl <| vl (ld rfl (Rep.SHas.one' hcB (HB0.has.adh (Nat.zero_lt_of_lt (show i < _ from (by omega)))) (get_d (l := bl) (u := false) (by omega)) rfl eF49)) rfl <| vl (mv rfl) rfl <| vl (beq rfl rfl) rfl <| vl (bnB Try.underlying4 rfl rfl) rfl <| vl (mv (evb rfl hzero)) rfl <| ug rfl rfl rfl <| vl (mv rfl) rfl <| ug rfl rfl rfl <| vl (bne rfl rfl) rfl <| ug rfl rfl rfl <| vl (mv (evb rfl c5_)) rfl <| ug rfl rfl rfl <| vl (mv rfl) rfl <| ug rfl rfl rfl <| vl (bne rfl rfl) rfl <| ug rfl rfl rfl <| vl (pkT rfl (evb rfl c7_)) rfl <| vl (pkF rfl rfl) rfl <| nl <| nT <| cF rfl <| sk <| nT <| ?_
     refine sq <| rg <| vl (mv rfl) rfl <| vl (ble rfl rfl) rfl <| vl (as_ rfl) rfl <| nl <| nT <| sq <| sq <| rg <| ?_
     have B_5 := B_5.later x_66
     refine vl (ld rfl (B_5.all eF16 eF17)) rfl <| vl (mv rfl) rfl <| ca eF50 rfl rfl ((steps_any f pt (i : Int) P pc _ hf hpi hip).mono ?_)
     rintro e w_87 ⟨A_84, c_84, rfl, OB_84, x_88⟩
     refine ⟨_, rfl, ?_⟩
     have q_89 := x_88.size
     have z_87 := Ext.tr z_65 x_88
     have u_85 := fun q hq => (OB_84.lt q hq).2
     have lo_86 := fun q hq => (OB_84.lt q hq).1
     refine vl (ln Try.underlying22 rfl) rfl <| vl (mv rfl) rfl <| nl <| nT <| bk <| ?_
     have B_5 := B_5.later x_88
     have OF8 := OF8.later (Ext.tr x_66 x_88)
     have HB0 := HB0.later x_88
     refine lp (fun mI EI wI => ∃ j : Nat, ∃ ju : Bool, EI = [(2, .pointer (some ⟨b_2, 0, none⟩)), (5, .slice A8 far8.length c8), (7, .slice (some ⟨b_24, 0, none⟩) far8.length far8.length), (10, .int .i64 (i : Int)), (11, .int .i64 (f.fr far8 pt)), (12, .int .i64 (costK (f.place pt))), (13, .int .i64 (costE (f.place pt))), (14, .bool ju), (67, .slice A8 far8.length c8), (68, .int .i64 (far8.length : Int)), (69, .int .i64 (i : Int)), (70, .bool (decide ((i : Int) < (far8.length : Int)))), (71, .int .i64 (i : Int)), (72, .pointer (some ⟨bA A8, oA A8 + i * 1, none⟩)), (73, .int .i64 (f.fr far8 pt)), (74, .tuple #[.int .i64 (costK (f.place pt)), .int .i64 (costE (f.place pt))]), (75, .pointer (some ⟨b_2, 2, none⟩)), (76, .slice P f.places.length pc), (77, .int .i64 (i : Int)), (78, .pointer (some ⟨bA P, oA P + i * 1, none⟩)), (79, .int .i64 (f.place pt)), (80, .tuple #[.int .i64 (costK (f.place pt)), .int .i64 (costE (f.place pt))]), (81, .int .i64 (costK (f.place pt))), (82, .int .i64 (costE (f.place pt))), (83, .slice (some ⟨b_24, 0, none⟩) far8.length far8.length), (84, .int .i64 (i : Int)), (85, .pointer (some ⟨bA (some ⟨b_24, 0, none⟩), oA (some ⟨b_24, 0, none⟩) + i * 1, none⟩)), (86, .bool (bl.getD i false)), (87, .int .i64 (f.fr far8 pt)), (88, .bool ((f.fr far8 pt) == 0)), (89, .bool ((bl.getD i false) != ((f.fr far8 pt) == 0))), (90, .bool false), (91, .int .i64 (costE (f.place pt))), (92, .bool ((costE (f.place pt)) != 0)), (93, .bool true), (94, .int .i64 (f.fr far8 pt)), (95, .bool ((f.fr far8 pt) != (-1))), (96, .bool false), (97, .bool false), (98, .int .i64 (f.fr far8 pt)), (99, .bool (decide (f.fr far8 pt ≤ 0))), (100, .agg #[.int .i64 f.wide, .int .i64 f.high, .slice P f.places.length pc]), (101, .int .i64 (i : Int)), (102, .slice A_84 ((stpI f pt).length) c_84), (103, .int .i64 ((((stpI f pt).length : Nat) : Int))), (104, .int .i64 (j : Int))] ∧ mI = (stpI f pt).length - j ∧ Ext w wI ∧ Blk wI b_2 [.int .i64 f.wide, .int .i64 f.high, .slice P f.places.length pc] 24 (0, 0) ∧ repI.SOwn 3 8 wI w_1.heap.size (Rep.blkOf A8) A8 c8 (far8) ∧ repB.SOwn 4 1 wI w.heap.size (Rep.blkOf (some ⟨b_24, 0, none⟩)) (some ⟨b_24, 0, none⟩) far8.length (bl) ∧ repI.SOwn 3 8 wI w_65.heap.size (Rep.blkOf A_84) A_84 c_84 (stpI f pt) ∧ (j ≤ (stpC f pt).length) ∧ (ju = true)) _ _ ⟨0, decide (f.fr far8 pt ≤ 0), rfl, rfl, z_87, B_5, OF8, HB0, OB_84, by omega, (decide_eq_true (by omega))⟩ (.cons rfl (.cons rfl (.cons rfl (.cons rfl (.cons rfl (.cons rfl (.cons rfl (.cons rfl (.cons rfl (.cons rfl (.cons rfl (.cons rfl (.cons rfl (.cons rfl (.cons rfl (.cons rfl (.cons rfl (.cons rfl (.cons rfl (.cons rfl (.cons rfl (.cons rfl (.cons rfl (.cons rfl (.cons rfl (.cons rfl (.cons rfl (.cons rfl (.cons rfl (.cons rfl (.cons rfl (.cons rfl (.cons rfl (.cons rfl (.cons rfl (.cons rfl (.cons rfl (.cons rfl (.cons rfl (.cons rfl (.cons rfl (.cons rfl (.cons rfl (.cons rfl (.cons rfl (.cons (loI rfl (by first | omega | rfl | (simp <;> omega))) .nil)))))))))))))))))))))))))))))))))))))))))))))) ?_
     rintro m_91 E_92 w_90 ⟨j, ju, rfl, rfl, z_90, B_5, OF8, HB0, OB_84, hj, hju⟩
     have q_93 := z_90.size
     have q_94 := B_5.lt
     have u_95 := fun q hq => (OF8.lt q hq).2
     have u_96 := fun q hq => (HB0.lt q hq).2
     have u_97 := fun q hq => (OB_84.lt q hq).2
     have hs4 := stpI_len (f := f) (c := pt)
     have hs5 := stp_len (f := f) (c := pt)
     refine sq <| rg <| vl (blt rfl rfl) rfl <| nl <| nT <| sq <| ?_
     refine clt rfl (fun h_98 => ?_) (fun h_98 => ?_)
     ·have hj2 : j < (stpC f pt).length := by rw [← stpI_len]; omega
      obtain ⟨nd, hnd⟩ : ∃ nd, (stpC f pt).getD j default = nd := ⟨_, rfl⟩
      obtain ⟨hnm, hni⟩ := stp_at hj2 hnd
      obtain ⟨nl1, nl2, nl3⟩ := fr_lt hf hL hni
      have hbdn := fe.bd nd
      refine sk <| nT <| sq <| bk <| sq <| rg <| vl (iA j Try.underlying22 eF21 rfl rfl (OB_84.has.adr (Nat.zero_lt_of_lt (show j < _ from (by rw [stpI_len]; exact hj2)))) rfl (by rw [stpI_len]; exact hj2)) rfl <| vl (ld rfl (Rep.SHas.one' hcI (OB_84.has.adh (Nat.zero_lt_of_lt (show j < _ from (by rw [stpI_len]; exact hj2)))) (stp_get hj2 hnd) rfl eF1)) rfl <| vl (as_ rfl) rfl <| nl <| nT <| sq <| ?_
      rcases b1o_ (decide (0 ≤ f.fr far8 nd)) with c8_ | c8_
      ·refine rg <| vl (mv rfl) rfl <| vl (mv rfl) rfl <| vl (iA ((nd.y * f.wide + nd.x).toNat) Try.underlying22 eF21 rfl rfl (OF8.has.adr (Nat.zero_lt_of_lt (show (nd.y * f.wide + nd.x).toNat < _ from nl1))) (by omega) nl1) rfl <| vl (ld rfl (Rep.SHas.one' hcI (OF8.has.adh (Nat.zero_lt_of_lt (show (nd.y * f.wide + nd.x).toNat < _ from nl1))) (fr_get hf hL hni) rfl eF1)) rfl <| vl (bge rfl rfl) rfl <| vl (mv (evb rfl c8_)) rfl <| ug rfl rfl rfl <| vl (mv rfl) rfl <| ug rfl rfl rfl <| vl (beq rfl rfl) rfl <| vl (pkT rfl (evb rfl c6_)) rfl <| nl <| nT <| cF rfl <| sk <| nB <| nT <| rg <| vl (bad rfl rfl (inI (by omega))) rfl <| vl (mv rfl) rfl <| nl <| ?_
       exact nI _ _ ⟨j + 1, ju, rfl, rfl, z_90, B_5, OF8, HB0, OB_84, by omega, hju⟩ (by have := stpI_len (f := f) (c := pt); omega) (.cons rfl (.cons rfl (.cons rfl (.cons rfl (.cons rfl (.cons rfl (.cons rfl (.cons rfl (.cons rfl (.cons rfl (.cons rfl (.cons rfl (.cons rfl (.cons rfl (.cons rfl (.cons rfl (.cons rfl (.cons rfl (.cons rfl (.cons rfl (.cons rfl (.cons rfl (.cons rfl (.cons rfl (.cons rfl (.cons rfl (.cons rfl (.cons rfl (.cons rfl (.cons rfl (.cons rfl (.cons rfl (.cons rfl (.cons rfl (.cons rfl (.cons rfl (.cons rfl (.cons rfl (.cons rfl (.cons rfl (.cons rfl (.cons rfl (.cons rfl (.cons rfl (.cons rfl (.cons (loI rfl (by first | omega | rfl | (simp <;> omega))) .nil))))))))))))))))))))))))))))))))))))))))))))))
      ·refine rg <| vl (mv rfl) rfl <| vl (mv rfl) rfl <| vl (iA ((nd.y * f.wide + nd.x).toNat) Try.underlying22 eF21 rfl rfl (OF8.has.adr (Nat.zero_lt_of_lt (show (nd.y * f.wide + nd.x).toNat < _ from nl1))) (by omega) nl1) rfl <| vl (ld rfl (Rep.SHas.one' hcI (OF8.has.adh (Nat.zero_lt_of_lt (show (nd.y * f.wide + nd.x).toNat < _ from nl1))) (fr_get hf hL hni) rfl eF1)) rfl <| vl (bge rfl rfl) rfl <| vl (mv (evb rfl c8_)) rfl <| vQ (v := undef) rfl rfl rfl rfl (fun hc => nomatch hc) rfl <| vQ (v := undef) rfl rfl rfl rfl (fun hc => nomatch hc) rfl <| vl (pkF rfl rfl) rfl <| nl <| nT <| cF rfl <| sk <| nB <| nT <| rg <| vl (bad rfl rfl (inI (by omega))) rfl <| vl (mv rfl) rfl <| nl <| ?_
       exact nI _ _ ⟨j + 1, ju, rfl, rfl, z_90, B_5, OF8, HB0, OB_84, by omega, hju⟩ (by have := stpI_len (f := f) (c := pt); omega) (.cons rfl (.cons rfl (.cons rfl (.cons rfl (.cons rfl (.cons rfl (.cons rfl (.cons rfl (.cons rfl (.cons rfl (.cons rfl (.cons rfl (.cons rfl (.cons rfl (.cons rfl (.cons rfl (.cons rfl (.cons rfl (.cons rfl (.cons rfl (.cons rfl (.cons rfl (.cons rfl (.cons rfl (.cons rfl (.cons rfl (.cons rfl (.cons rfl (.cons rfl (.cons rfl (.cons rfl (.cons rfl (.cons rfl (.cons rfl (.cons rfl (.cons rfl (.cons rfl (.cons rfl (.cons rfl (.cons rfl (.cons rfl (.cons rfl (.cons rfl (.cons rfl (.cons rfl (.cons (loI rfl (by first | omega | rfl | (simp <;> omega))) .nil))))))))))))))))))))))))))))))))))))))))))))))
     ·have hjt : ju = true := hju
      refine xt <| xT <| xK <| xB <| nT <| sq <| rg <| vl (mv rfl) rfl <| vl (nt rfl) rfl <| nl <| nT <| ?_
      have h_99 : (!ju) = false := by rw [hjt]; rfl
      refine cF (by rw [← h_99]; rfl) <| sk <| nB <| nT <| rg <| vl (bad rfl rfl (inI (by omega))) rfl <| vl (mv rfl) rfl <| nl <| ?_
      exact nI _ _ ⟨i + 1, rfl, rfl, z_90, B_5, OF8, HB0, by omega⟩ (by omega) (.cons rfl (.cons rfl (.cons rfl (.cons rfl (.cons rfl (.cons (loI rfl (by first | omega | rfl | (simp <;> omega))) .nil))))))
   ·refine xt <| xT <| xK <| xB <| nT <| sq <| rg <| vl (as_ rfl) rfl <| nl <| nT <| rt <| tR (.tmp rfl .nil) <| ?_
    exact ⟨rfl, z_57⟩
theorem floodBest_any (c0 : Array Value) (a1 : Option Addr) (len1 cap1 : Nat) (w : World) (h0 : (.cons (.int .i64) (.cons (.int .i64) (.cons (.slice (.int .i64) 8) .nil)) : Sh).Ok w c0.toList) (h1 : (.slice (.cons (.int .i64) (.cons (.int .i64) .nil)) 16 : Sh).Ok w [.slice a1 len1 cap1]) :
  Calls Try.prog 4 #[.agg c0, .slice a1 len1 cap1] w fun e w' => e = .returned (.bool true) ∧ Below w.heap.size w w' := by
 obtain ⟨f, A, cp, e0, hP, hkw, hkh⟩ := Fld.opens w _ (show Wd.fsh.Ok w c0.toList from h0)
 have hc : c0 = #[.int .i64 f.wide, .int .i64 f.high, .slice A f.places.length cp] := by rw [← e0]
 subst hc
 obtain ⟨Ax, cx, l, e1, hl⟩ := Rep.opens_slice (R := Cel.rep) (by_ := 16) Cel.opens rfl (by decide) h1
 simp only [List.cons.injEq, Value.slice.injEq, and_true] at e1
 obtain ⟨rfl, rfl, rfl⟩ := e1
 exact floodBest_w f A cp _ _ l w hP hl
end
end Go.Proofs.Ytmpkaphcpaigdaa
