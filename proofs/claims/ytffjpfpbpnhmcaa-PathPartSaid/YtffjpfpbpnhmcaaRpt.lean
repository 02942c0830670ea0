/-
  slices.Repeat of one number; copy. (Printed by bin/rept.py.)
-/
import Derived.Test.YtffjpfpbpnhmcaaMul
import Derived.Test.YtffjpfpbpnhmcaaIns
import Derived.Test.YtffjpfpbpnhmcaaGolB
import Derived.Test.YtffjpfpbpnhmcaaGolC
set_option linter.unusedVariables false
set_option linter.unusedSimpArgs false
namespace Go.Proofs.Ytffjpfpbpnhmcaa
open Go.RowKit

theorem Rpt_en_math_bits_Mul : Enters Try.prog 110 := en Try.func110 (by kernel_rfl) (by kernel_rfl)
theorem Rpt_sz_int : Sz Try.prog 3 1 := fun _ => by kernel_rfl
theorem cvn {P : Program} {E : List (Nat × Value)} {w : World} {d : Option Nat} {ty : TypeId} {pos : String} {af : Array Edge} {g : Option (Nat × Bool)} {x : Operand} {src dst : TypeId} {k k' : IntKind} {i r : Int} (hr : ∀ w, (convert src dst (.int k i)).run P w = .ok (.int k' (k'.wrap i)) w) (h : k'.wrap i = r) (hx : ev E x = some (.int k i)) :
    Runs P E ⟨d, .convert src dst x, ty, pos, af, g⟩ w (.int k' r) w := fun n a ha => by
  subst h
  simp only [execOp, ha.ev hx, Sem.run_bind, hr w, Result.andThen_ok, Sem.run_pure]
theorem take_setL {cur : List Value} {lo k : Nat} {zs : List Value} (h : lo + zs.length ≤ k) (hk : k ≤ cur.length) : (setL cur lo zs).take k = (cur.take k).take lo ++ zs ++ (cur.take k).drop (lo + zs.length) := by
  rw [setL_eq _ _ _ (by omega)]
  have h1 : (cur.take lo ++ zs).length = lo + zs.length := by rw [List.length_append, List.length_take]; omega
  rw [List.take_append, h1, List.take_of_length_le (by rw [h1]; exact h), List.take_take, Nat.min_eq_left (by omega), List.drop_take]
/-- copy into numbers of one's own. -/
theorem cpy {n : Nat} {E : List (Nat × Value)} {w : World} {Q : Exit → Act → World → Prop} {ops : Array Oper} {ty : TypeId} {pos : String} {af : Array Edge} {x y : Operand} {rest : List Oper} {Z c b lo dl dc sl sc d : Nat} {A D S : Option Addr} {sa : Addr} {l zs : List Int}
    (h : repI.SOwn 3 8 w Z (Rep.blkOf A) A c l) (hA : A = some ⟨b, 0, none⟩) (hx : ev E x = some (.slice D dl dc)) (hD : D = some ⟨b, lo, none⟩) (hy : ev E y = some (.slice S sl sc)) (hS : S = some sa) (hsrc : ∀ (j : Nat) (v : Int), zs[j]? = some v → w.cell? (sa.add j) = some (.int .i64 v)) (hz : ∀ v ∈ zs, okI v)
    (hm : zs.length = Nat.min sl dl) (hle : lo + zs.length ≤ l.length) (hbd : Nat.blt d n = true)
    (hk : ∀ w1, Mod (Rep.blkOf A) w w1 → repI.SOwn 3 8 w1 Z (Rep.blkOf A) A c (l.take lo ++ zs ++ l.drop (lo + zs.length)) → WL Try.prog n ops Q rest ((d, .int .i64 (zs.length : Int)) :: E) w1) :
    WL Try.prog n ops Q (⟨some d, .call { callee := .builtin .copy, args := #[x, y], argTypes := #[22, 22] }, ty, pos, af, none⟩ :: rest) E w := fun a ha => by
  subst hA hD hS
  obtain ⟨cur, h1, h2, h3, h4, h5, h6, h7, h8⟩ := ints_open h
  have hcl : (zs.map encI').length = zs.length := List.length_map _
  have hrun : (Builtin.copy_ #[22, 22] ty #[.slice (some ⟨b, lo, none⟩) dl dc, .slice (some sa) sl sc]).run Try.prog w = .ok (goInt (zs.map encI').length) (w.setCells b lo (zs.map encI')) :=
    run_copy_cells w _ _ ty 3 b lo dl dc sa sl sc (zs.map encI') Try.underlying22 (by
        obtain ⟨i0, hi0, hz0, hzs, hzb⟩ := info_parts info_int
        rw [hi0]; simp [hzs]) (by rw [hcl]; exact hm)
      (fun j v hj => by
        rw [List.getElem?_map] at hj
        cases hv : zs[j]? with
        | none => rw [hv] at hj; cases hj
        | some u => rw [hv] at hj; rw [← Option.some.inj hj]; exact hsrc j u hv)
      (fun j hj => by rw [hcl] at hj; rw [h1.cell, List.getElem?_eq_getElem (by omega)]; rfl) (fun j _ => h.free _) one_enc
  refine WL_one rfl ?_
  unfold Oper.wp execOp
  simp only [resolve, invoke, builtin, Sem.run_bind, Sem.run_pure, Result.andThen_ok, List.map_toArray, List.map_cons, List.map_nil, ha.ev hx, ha.ev hy, hrun]
  rw [hcl]
  refine hk _ (Mod.cells b _ _ _) (ints_close (cur := setL cur lo (zs.map encI')) (Blk.setCells _ _ _ _ h1) h2 h3 (by rw [setL_len]; exact h4) ?_ ?_ ?_ ?_ ?_) _ (ha.put hbd _)
  · have : (l.take lo ++ zs ++ l.drop (lo + zs.length)).length = l.length := by rw [List.length_append, List.length_append, List.length_take, List.length_drop]; omega
    rw [this]; exact h5
  · have : (l.take lo ++ zs ++ l.drop (lo + zs.length)).length = l.length := by rw [List.length_append, List.length_append, List.length_take, List.length_drop]; omega
    rw [this]
    obtain ⟨hb, _⟩ := h
    exact hb
  · have : (l.take lo ++ zs ++ l.drop (lo + zs.length)).length = l.length := by rw [List.length_append, List.length_append, List.length_take, List.length_drop]; omega
    rw [this, take_setL (by rw [hcl]; exact hle) (by omega), h6, hcl, List.map_append, List.map_append, List.map_take, List.map_drop]
  · intro u hu
    rcases setL_mem _ _ _ hu with hu | hu
    · exact h7 u hu
    · exact mem_enc hu
  · intro u hu
    rcases List.mem_append.1 hu with hu | hu
    · rcases List.mem_append.1 hu with hu | hu
      · exact h8 u (List.mem_of_mem_take hu)
      · exact hz u hu
    · exact h8 u (List.mem_of_mem_drop hu)
theorem sA_lit {b c lo : Nat} (h : lo < c) : sA (some ⟨b, 0, none⟩) c lo 1 = some ⟨b, lo, none⟩ := by
  unfold sA
  rw [if_neg (by omega)]
  show some (Addr.add _ _) = _
  unfold Addr.add
  split
  · have : lo = 0 := by omega
    subst this; rfl
  · simp
theorem rpt_step {N k : Nat} {v : Int} (h0 : 0 < k) (h1 : k < N) : (List.replicate k v ++ List.replicate (N - k) (0 : Int)).take k ++ List.replicate (Nat.min k (N - k)) v ++ (List.replicate k v ++ List.replicate (N - k) (0 : Int)).drop (k + (List.replicate (Nat.min k (N - k)) v).length) = List.replicate (k + Nat.min k (N - k)) v ++ List.replicate (N - (k + Nat.min k (N - k))) (0 : Int) := by
  have hm : Nat.min k (N - k) ≤ N - k := Nat.min_le_right _ _
  rw [List.take_append_of_le_length (by rw [List.length_replicate]; exact Nat.le_refl _), List.take_of_length_le (by rw [List.length_replicate]; exact Nat.le_refl _), List.length_replicate, List.drop_append, List.length_replicate, List.drop_of_length_le (by rw [List.length_replicate]; omega), List.nil_append, List.drop_replicate, List.replicate_append_replicate]
  congr 2
  omega
theorem wU {x : Int} (h0 : 0 ≤ x) (h1 : x < 18446744073709551616) : IntKind.u64.wrap x = x := by rw [IntKind.wrap_u64]; omega
theorem src_one {w : World} {X : Option Addr} {cx : Nat} {v u : Int} {j : Nat} (hX : repI.SHas 8 w X cx [v]) (hj : [v][j]? = some u) : w.cell? ((⟨bA X, oA X, none⟩ : Addr).add j) = some (.int .i64 u) := by
  obtain ⟨b, o, rfl, hc⟩ := repI_at hX (by simp)
  rw [show (⟨bA (some ⟨b, o, none⟩), oA (some ⟨b, o, none⟩), none⟩ : Addr) = ⟨b, o, none⟩ from rfl, addAt]
  exact hc j u hj
theorem src_rep {w : World} {b c k N : Nat} {v u : Int} {j : Nat} (h : repI.SHas 8 w (some ⟨b, 0, none⟩) c (List.replicate k v ++ List.replicate (N - k) (0 : Int))) (h0 : 0 < k) (hj : (List.replicate (Nat.min k (N - k)) v)[j]? = some u) : w.cell? ((⟨b, 0, none⟩ : Addr).add j) = some (.int .i64 u) := by
  obtain ⟨b', o, e, hc⟩ := repI_at h (by rw [List.length_append, List.length_replicate]; omega)
  have e := Option.some.inj e
  injection e with e1 e2
  subst e1; subst e2
  rw [addAt]
  have hlt := (List.getElem?_eq_some_iff.1 hj).1
  rw [List.length_replicate] at hlt
  have hm : Nat.min k (N - k) ≤ k := Nat.min_le_left _ _
  have hu : u = v := by rw [List.getElem?_replicate] at hj; split at hj <;> simp_all
  refine hc j u ?_
  rw [List.getElem?_append_left (by rw [List.length_replicate]; omega), List.getElem?_replicate, if_pos (by omega), hu]
set_option maxRecDepth 100000 in
set_option maxHeartbeats 400000 in
theorem repeat_any (X : Option Addr) (cx N : Nat) (v : Int) (w : World) (hX : repI.SHas 8 w X cx [v]) (h0 : 0 < N) (hN : N ≤ 1000000) :
    Calls Try.prog 87 #[.slice X 1 cx, .int .i64 (N : Int)] w (fun e w' => ∃ A c, e = .returned (.slice A (List.replicate N v).length c) ∧ repI.SOwn 3 8 w' w.heap.size (Rep.blkOf A) A c (List.replicate N v) ∧ Ext w w') := by
  have hok1 := repI_ok hX
  have hokv := hok1 v (List.mem_singleton.2 rfl)
  refine calls_W (n := 48) Try.func87 rfl rfl rfl ?_
  refine sq <| rg <| vl (as_ rfl) rfl <| nl <| nT <| sq <| sq <| rg <| vl (mv rfl) rfl <| vl (blt rfl rfl) rfl <| nl <| nT <| ?_
  have h_1 : (decide ((N : Int) < 0)) = false := by (first | exact decide_eq_false (by omega) | simp only [decide_eq_false_iff_not]; omega | (rw [Bool.or_eq_false_iff]; exact ⟨by decide, decide_eq_false (by omega)⟩))
  refine cF (by rw [← h_1]; rfl) <| sk <| nT <| sq <| rg <| vl (mv rfl) rfl <| vl (ln Try.underlying22 rfl) rfl <| vl (cvn (r := (1 : Int)) (fun _ => by kernel_rfl) (wU (by omega) (by omega)) rfl) rfl <| vl (mv rfl) rfl <| vl (cvn (r := (N : Int)) (fun _ => by kernel_rfl) (wU (by omega) (by omega)) rfl) rfl <| ca Rpt_en_math_bits_Mul rfl rfl ((mul_one N (by omega) _).mono ?_)
  rintro e w_2 ⟨rfl, x_3⟩
  refine ⟨_, rfl, ?_⟩
  have q_4 := x_3.size
  have z_2 := Ext.tr (Ext.rf w) x_3
  refine vl (mv rfl) rfl <| vl (ex rfl rfl) rfl <| vl (ex rfl rfl) rfl <| vl (as_ rfl) rfl <| vl (as_ rfl) rfl <| nl <| nT <| sq <| sq <| rg <| vl (mv rfl) rfl <| vl (bgt rfl rfl) rfl <| vl (mv rfl) rfl <| ug rfl rfl rfl <| vl (mv rfl) rfl <| ug rfl rfl rfl <| vl (bgt rfl rfl) rfl <| vl (pkF rfl rfl) rfl <| nl <| nT <| ?_
  have h_5 : (decide (9223372036854775807 < (N : Int))) = false := by (first | exact decide_eq_false (by omega) | simp only [decide_eq_false_iff_not]; omega | (rw [Bool.or_eq_false_iff]; exact ⟨by decide, decide_eq_false (by omega)⟩))
  refine cF (by rw [← h_5]; rfl) <| sk <| nT <| sq <| rg <| vl (mv rfl) rfl <| vl (cvn (r := (N : Int)) (fun _ => by kernel_rfl) (inI (by omega)) rfl) rfl <| mO (R := repI) (by_ := 8) (B := w.heap.size) (c := N) (zv := (.int .i64 0)) (q := 0) Rep.flat_plain Try.underlying22 info_int rfl rfl (fun j u h => raw0I j u h) (fun _ => ⟨rfl, okI_iff.2 (by decide)⟩) rfl rfl rfl (by omega) (by omega) (by omega) fun w_6 b_7 x_8 l_9 O_10 => ?_
  have q_11 := x_8.size
  have z_6 := Ext.tr z_2 x_8
  have u_12 := fun q hq => (O_10.lt q hq).2
  have lo_13 : ∀ q ∈ Rep.blkOf (some ⟨b_7, 0, none⟩), b_7 ≤ q := fun q hq => Nat.le_of_eq (List.mem_singleton.1 hq).symm
  refine vl (as_ rfl) rfl <| nl <| nT <| sq <| rg <| vl (mv rfl) rfl <| vl (mv rfl) rfl <| cpy (zs := [v]) (lo := 0) O_10 rfl rfl rfl rfl (hX.adr (by simp)) (fun j u hj => src_one (hX.keep z_6) hj) hok1 (by rw [List.length_singleton]; exact (Nat.min_eq_left (by omega)).symm) (by rw [List.length_replicate]; simp; omega) rfl fun w_14 m_15 O_16 => ?_
  have O_16 : repI.SOwn 3 8 w_14 w.heap.size (Rep.blkOf (some ⟨b_7, 0, none⟩)) (some ⟨b_7, 0, none⟩) N (List.replicate 1 v ++ List.replicate (N - 1) (0 : Int)) := by have h := O_16; rw [List.take_zero, List.nil_append, List.length_singleton, List.drop_replicate] at h; exact h
  have q_17 := m_15.size
  have z_14 := Ext.mod z_6 m_15 (fun q hq => by have := (O_16.lt q hq).1; omega)
  refine vl (as_ rfl) rfl <| nl <| nT <| sq <| bk <| ?_
  refine lp (fun mI EI wI => ∃ k : Nat, EI = [(4, .slice none 0 0), (7, .slice (some ⟨b_7, 0, none⟩) N N), (8, .int .i64 (k : Int))] ∧ mI = N - k ∧ Ext w wI ∧ repI.SOwn 3 8 wI w.heap.size (Rep.blkOf (some ⟨b_7, 0, none⟩)) (some ⟨b_7, 0, none⟩) N (List.replicate k v ++ List.replicate (N - k) (0 : Int)) ∧ (0 < k) ∧ (k ≤ N)) _ _ ⟨1, rfl, rfl, z_14, O_16, by omega, by omega⟩ (.cons rfl (.cons rfl (.cons rfl .nil))) ?_
  rintro m_19 E_20 w_18 ⟨k, rfl, rfl, z_18, OR, hk0, hkN⟩
  have q_21 := z_18.size
  have u_22 := fun q hq => (OR.lt q hq).2
  refine sq <| sq <| rg <| vl (mv rfl) rfl <| vl (mv rfl) rfl <| vl (ln Try.underlying22 rfl) rfl <| vl (blt rfl rfl) rfl <| nl <| nT <| ?_
  refine clt rfl (fun h_23 => ?_) (fun h_23 => ?_)
  · refine sk <| nT <| bk <| ?_
    refine rd [(7, 3)] [0, 1, 2, 3, 4, 5, 6, 7, 8, 9] (by kernel_rfl) (by kernel_rfl) ?_
    refine fw rfl rfl (fun _ => mv rfl) rfl <| fw rfl rfl (fun _ => mv rfl) rfl <| fw rfl rfl (fun _ => mv rfl) rfl <| fw rfl rfl (fun _ => sT k Try.underlying22 Rpt_sz_int rfl rfl rfl (by omega)) rfl <| fw rfl rfl (fun _ => mv rfl) rfl <| fw rfl rfl (fun _ => mv rfl) rfl <| fw rfl rfl (fun _ => sP k k Try.underlying22 Rpt_sz_int rfl rfl rfl (by omega) rfl) rfl <| fb rfl rfl rfl fun w_24 x_25 Q hK => cpy (zs := List.replicate (Nat.min k (N - k)) v) (lo := k) (OR.later x_25) rfl rfl (sA_lit (by omega)) rfl rfl (fun j u hj => src_rep (N := N) (OR.later x_25).has hk0 hj) (fun y hy => by rw [List.eq_of_mem_replicate hy]; exact hokv) (by rw [List.length_replicate]) (by rw [List.length_replicate, List.length_append, List.length_replicate, List.length_replicate]; have : Nat.min k (N - k) ≤ N - k := Nat.min_le_right _ _; omega) rfl fun w_26 m_27 O_28 => hK _ _ ?_
    have q_29 := x_25.size
    have z_24 := Ext.tr z_18 x_25
    have O_28 : repI.SOwn 3 8 w_26 w.heap.size (Rep.blkOf (some ⟨b_7, 0, none⟩)) (some ⟨b_7, 0, none⟩) N (List.replicate (k + Nat.min k (N - k)) v ++ List.replicate (N - (k + Nat.min k (N - k))) (0 : Int)) := by have h := O_28; rw [rpt_step hk0 (by omega)] at h; exact h
    have q_30 := m_27.size
    have z_26 := Ext.mod z_24 m_27 (fun q hq => by have := (O_28.lt q hq).1; omega)
    have hcl : (List.replicate (Nat.min k (N - k)) v).length = Nat.min k (N - k) := List.length_replicate
    rw [hcl]
    refine fw rfl rfl (fun _ => bad rfl rfl (inI ((by have : Nat.min k (N - k) ≤ N - k := Nat.min_le_right _ _; omega)))) rfl <| fw rfl rfl (fun _ => as_ rfl) rfl <| fn fun w_31 x_32 => ?_
    have q_33 := x_32.size
    have z_31 := Ext.tr z_26 x_32
    refine nB <| ?_
    have O_28 := O_28.later x_32
    exact nI _ _ ⟨(k + Nat.min k (N - k)), rfl, rfl, z_31, O_28, by have : 0 < Nat.min k (N - k) := Nat.lt_min.2 ⟨hk0, by omega⟩; omega, by have : Nat.min k (N - k) ≤ N - k := Nat.min_le_right _ _; omega⟩ (by have : 0 < Nat.min k (N - k) := Nat.lt_min.2 ⟨hk0, by omega⟩; have : Nat.min k (N - k) ≤ N - k := Nat.min_le_right _ _; omega) (.cons rfl (.cons rfl (.cons (loI rfl (by omega)) .nil)))
  · refine xt <| xT <| xK <| xB <| nT <| sq <| rg <| vl (mv rfl) rfl <| vl (as_ rfl) rfl <| nl <| nT <| rt <| tR (.tmp rfl .nil) <| ?_
    obtain rfl : k = N := by omega
    exact ⟨_, _, by rw [List.length_replicate]; rfl, by have h := OR; rw [Nat.sub_self, List.replicate_zero, List.append_nil] at h; exact h, z_18⟩
end Go.Proofs.Ytffjpfpbpnhmcaa
