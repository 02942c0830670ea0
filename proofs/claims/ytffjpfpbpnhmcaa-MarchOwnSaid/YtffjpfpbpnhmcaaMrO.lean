import Derived.Test.YtffjpfpbpnhmcaaEql
import Derived.Test.YtffjpfpbpnhmcaaBas
import Derived.Test.YtffjpfpbpnhmcaaHpL
import Derived.Test.YtffjpfpbpnhmcaaCrt
import Derived.Test.YtffjpfpbpnhmcaaClone
import Derived.Test.YtffjpfpbpnhmcaaGol
set_option linter.unusedVariables false
set_option linter.unusedSimpArgs false
namespace Go.Proofs.Ytffjpfpbpnhmcaa
open Go.RowKit

theorem LawA_zv_api_World : Zv Try.prog 49 (.agg #[.int .i64 0, .int .i64 0, .slice none 0 0, .slice none 0 0, .slice none 0 0, .slice none 0 0, .slice none 0 0, .int .i64 0, .int .i64 0]) := fun _ => by kernel_rfl
theorem LawA_sz_api_World : Sz Try.prog 49 9 := fun _ => by kernel_rfl
theorem LawA_ag_api_World : Ag Try.prog 49 true := fun _ => by kernel_rfl
def smallW : Wd := ⟨⟨3, 1, [0, 0, 3]⟩, [⟨0, 0⟩], [20], [0, 0, 9], [⟨1, 0, 1, ⟨1, 0⟩, 10, 0⟩], 2, 0⟩
def smallL : List Ded := [(⟨1, 1, ⟨2, 0⟩, 0⟩ : Ded), (⟨3, 0, ⟨0, 0⟩, 2⟩ : Ded)]
def smallV : Wd := smallW.doW smallL
set_option maxRecDepth 100000 in
set_option maxHeartbeats 400000 in
theorem small_any  (w : World) :
    Calls Try.prog 64 #[] w (fun e w' => ∃ a, e = .returned (.agg (Wd.cells a smallW).toArray) ∧ WOwn w' w.heap.size a smallW ∧ Ext w w') := by
  refine calls_W (n := 11) Try.func64 rfl rfl rfl ?_
  refine sq <| rg <| al rfl LawA_zv_api_World rfl rfl fun w_1 b_2 x_3 l_4 B_5 => ?_
  have q_6 := x_3.size
  have z_1 := Ext.tr (Ext.rf w) x_3
  have q_7 := B_5.lt
  refine nl <| nT <| sq <| rg <| bs (e := 3) (cs := [.int .i64 0, .int .i64 0, .int .i64 3]) rfl (fun _ => by kernel_rfl) rfl fun w_8 b_9 x_10 l_11 B_12 => ?_
  have q_13 := x_10.size
  have z_8 := Ext.tr z_1 x_10
  have q_14 := B_12.lt
  refine vl (v := .agg #[.int .i64 3, .int .i64 1, .slice (some ⟨b_9, 0, none⟩) 3 3]) (bd rfl (by kernel_rfl)) rfl <| vl (v := .agg #[.int .i64 0, .int .i64 0]) (bd rfl (by kernel_rfl)) rfl <| bs (e := 32) (cs := [.int .i64 0, .int .i64 0]) rfl (fun _ => by kernel_rfl) rfl fun w_15 b_16 x_17 l_18 B_19 => ?_
  have q_20 := x_17.size
  have z_15 := Ext.tr z_8 x_17
  have q_21 := B_19.lt
  refine bs (e := 3) (cs := [.int .i64 20]) rfl (fun _ => by kernel_rfl) rfl fun w_22 b_23 x_24 l_25 B_26 => ?_
  have q_27 := x_24.size
  have z_22 := Ext.tr z_15 x_24
  have q_28 := B_26.lt
  refine bs (e := 3) (cs := [.int .i64 0, .int .i64 0, .int .i64 9]) rfl (fun _ => by kernel_rfl) rfl fun w_29 b_30 x_31 l_32 B_33 => ?_
  have q_34 := x_31.size
  have z_29 := Ext.tr z_22 x_31
  have q_35 := B_33.lt
  refine vl (v := .agg #[.int .i64 1, .int .i64 0]) (bd rfl (by kernel_rfl)) rfl <| vl (v := .agg #[.int .i64 1, .int .i64 0, .int .i64 1, .int .i64 1, .int .i64 0, .int .i64 10, .int .i64 0]) (bd rfl (by kernel_rfl)) rfl <| bs (e := 65) (cs := [.int .i64 1, .int .i64 0, .int .i64 1, .int .i64 1, .int .i64 0, .int .i64 10, .int .i64 0]) rfl (fun _ => by kernel_rfl) rfl fun w_36 b_37 x_38 l_39 B_40 => ?_
  have q_41 := x_38.size
  have z_36 := Ext.tr z_29 x_38
  have q_42 := B_40.lt
  refine vl (v := .agg #[.int .i64 3, .int .i64 1, .slice (some ⟨b_9, 0, none⟩) 3 3, .slice (some ⟨b_16, 0, none⟩) 1 1, .slice (some ⟨b_23, 0, none⟩) 1 1, .slice (some ⟨b_30, 0, none⟩) 3 3, .slice (some ⟨b_37, 0, none⟩) 1 1, .int .i64 2, .int .i64 0]) (bd rfl (by kernel_rfl)) rfl <| ?_
  have B_5 := B_5.later (Ext.tr x_10 (Ext.tr x_17 (Ext.tr x_24 (Ext.tr x_31 x_38))))
  refine st (new := [.int .i64 3, .int .i64 1, .slice (some ⟨b_9, 0, none⟩) 3 3, .slice (some ⟨b_16, 0, none⟩) 1 1, .slice (some ⟨b_23, 0, none⟩) 1 1, .slice (some ⟨b_30, 0, none⟩) 3 3, .slice (some ⟨b_37, 0, none⟩) 1 1, .int .i64 2, .int .i64 0]) rfl rfl B_5 rfl LawA_sz_api_World rfl rfl rfl fun w_43 m_44 B_5 => ?_
  have q_46 := m_44.size
  have z_43 := Ext.mod z_36 m_44 (by simp only [List.mem_singleton, forall_eq]; omega)
  have q_45 := m_44.size
  refine nl <| nT <| rt <| tR (.cell rfl (B_5.all LawA_ag_api_World LawA_sz_api_World) .nil) <| ?_
  have B_12 := B_12.later (Ext.tr x_17 (Ext.tr x_24 (Ext.tr x_31 x_38)))
  have B_12 := B_12.mod m_44 (by simp only [List.mem_singleton]; omega)
  have B_19 := B_19.later (Ext.tr x_24 (Ext.tr x_31 x_38))
  have B_19 := B_19.mod m_44 (by simp only [List.mem_singleton]; omega)
  have B_26 := B_26.later (Ext.tr x_31 x_38)
  have B_26 := B_26.mod m_44 (by simp only [List.mem_singleton]; omega)
  have B_33 := B_33.later x_38
  have B_33 := B_33.mod m_44 (by simp only [List.mem_singleton]; omega)
  have B_40 := B_40.mod m_44 (by simp only [List.mem_singleton]; omega)
  exact ⟨⟨some ⟨b_9, 0, none⟩, some ⟨b_16, 0, none⟩, some ⟨b_23, 0, none⟩, some ⟨b_30, 0, none⟩, some ⟨b_37, 0, none⟩, 3, 1, 1, 3, 1⟩, rfl, ⟨Blk.ownN (R := repI) (by_ := 8) (B := w.heap.size) (k := [0, 0, 3]) B_12 [[.int .i64 0], [.int .i64 0], [.int .i64 3]] rfl ⟨⟨rfl, okI_iff.2 (by decide)⟩, ⟨rfl, okI_iff.2 (by decide)⟩, ⟨rfl, okI_iff.2 (by decide)⟩, trivial⟩ (by simp) (by simp) (by decide) (by omega), Blk.ownN (R := Cel.rep) (by_ := 16) (B := w.heap.size) (k := [⟨0, 0⟩]) B_19 [[.int .i64 0, .int .i64 0]] rfl ⟨⟨rfl, okI_iff.2 (by decide), okI_iff.2 (by decide)⟩, trivial⟩ (by simp) (by simp) (by decide) (by omega), Blk.ownN (R := repI) (by_ := 8) (B := w.heap.size) (k := [20]) B_26 [[.int .i64 20]] rfl ⟨⟨rfl, okI_iff.2 (by decide)⟩, trivial⟩ (by simp) (by simp) (by decide) (by omega), Blk.ownN (R := repI) (by_ := 8) (B := w.heap.size) (k := [0, 0, 9]) B_33 [[.int .i64 0], [.int .i64 0], [.int .i64 9]] rfl ⟨⟨rfl, okI_iff.2 (by decide)⟩, ⟨rfl, okI_iff.2 (by decide)⟩, ⟨rfl, okI_iff.2 (by decide)⟩, trivial⟩ (by simp) (by simp) (by decide) (by omega), Blk.ownN (R := Trp.rep) (by_ := 56) (B := w.heap.size) (k := [⟨1, 0, 1, ⟨1, 0⟩, 10, 0⟩]) B_40 [[.int .i64 1, .int .i64 0, .int .i64 1, .int .i64 1, .int .i64 0, .int .i64 10, .int .i64 0]] rfl ⟨⟨rfl, okI_iff.2 (by decide), okI_iff.2 (by decide), okI_iff.2 (by decide), okI_iff.2 (by decide), okI_iff.2 (by decide), okI_iff.2 (by decide), okI_iff.2 (by decide)⟩, trivial⟩ (by simp) (by simp) (by decide) (by omega), by simp [Rep.blkOf]; omega, okI_iff.2 (by decide), okI_iff.2 (by decide), okI_iff.2 (by decide), okI_iff.2 (by decide)⟩, z_43⟩
end Go.Proofs.Ytffjpfpbpnhmcaa
set_option linter.unusedVariables false
set_option linter.unusedSimpArgs false
namespace Go.Proofs.Ytffjpfpbpnhmcaa
open Go.RowKit

/-- No more things than there are places for them. -/
theorem nodup_le : ∀ (n : Nat) (l : List Nat), l.Nodup → (∀ x ∈ l, x < n) → l.length ≤ n := by
  intro n
  induction n with
  | zero =>
    intro l _ h
    cases l with
    | nil => exact Nat.le_refl _
    | cons x r => exact absurd (h x List.mem_cons_self) (by omega)
  | succ n ih =>
    intro l hn h
    by_cases hm : n ∈ l
    · have h1 := ih (l.erase n) (hn.erase _) (fun x hx => by
        have := h x (List.mem_of_mem_erase hx)
        have hne : x ≠ n := fun e => by subst e; exact (List.Nodup.not_mem_erase hn) hx
        omega)
      rw [List.length_erase_of_mem hm] at h1
      omega
    · have := ih l hn (fun x hx => by
        have := h x hx
        have hne : x ≠ n := fun e => hm (by rw [← e]; exact hx)
        omega)
      omega
section
variable {f : Fld} {a b c x y : Cel} {d D : Int} {far : List Int} {fr : Cel → Int}
theorem cells_le (hf : f.chk = 0) {l : List Cel} (hn : l.Nodup) (hi : ∀ x ∈ l, f.isIn x = true) : l.length ≤ f.places.length := by
  have h1 : (l.map f.at_).Nodup := by
    have : ∀ l : List Cel, l.Nodup → (∀ x ∈ l, f.isIn x = true) → (l.map f.at_).Nodup := by
      intro l
      induction l with
      | nil => intro _ _; exact List.nodup_nil
      | cons x r ih =>
        intro hn hi
        rw [List.nodup_cons] at hn
        rw [List.map_cons, List.nodup_cons]
        refine ⟨fun hm => ?_, ih hn.2 fun y hy => hi y (List.mem_cons_of_mem _ hy)⟩
        obtain ⟨y, hy, e⟩ := List.mem_map.1 hm
        have := Fld.at_inj hf (hi y (List.mem_cons_of_mem _ hy)) (hi x List.mem_cons_self) e
        subst this; exact hn.1 hy
    exact this l hn hi
  have := nodup_le f.places.length _ h1 (fun i hm => by
    obtain ⟨y, hy, rfl⟩ := List.mem_map.1 hm
    exact (Fld.at_lt hf (hi y hy)).1)
  rwa [List.length_map] at this
abbrev RchF (f : Fld) (a : Cel) : Cel → Int → Prop := Gra.Rch f.adj f.kost (fun s => s = a)
abbrev DstF (f : Fld) (a : Cel) : Cel → Int → Prop := Gra.IsD f.adj f.kost (fun s => s = a)
theorem RchF.nn (r : RchF f a x d) : 0 ≤ d := Gra.Rch.nn (Fld.okZ f) r
theorem RchF.ground (ha : f.ground a = true) (r : RchF f a x d) : f.ground x = true := by
  induction r with
  | start hs => rw [hs]; exact ha
  | step _ hy _ => exact (Fld.mem_adj.1 hy).2
theorem RchF.tr (r : RchF f a x d) {e : Int} (q : RchF f x y e) : RchF f a y (d + e) := by
  induction q with
  | start hs => rw [hs, Int.add_zero]; exact r
  | step _ hy ih => rw [← Int.add_assoc]; exact .step ih hy
theorem DstF.pred (h : DstF f a x d) : (x = a ∧ d = 0) ∨ ∃ p e, DstF f a p e ∧ x ∈ f.adj p ∧ d = e + f.kost x := by
  obtain ⟨r, hm⟩ := h
  cases r with
  | start hs => exact .inl ⟨hs, rfl⟩
  | @step p _ e hp hy =>
    obtain ⟨e', he⟩ := Gra.Rch.isD (Fld.okZ f) hp
    have h1 := he.2 _ hp
    have h2 := hm _ (.step he.1 hy)
    have : e = e' := by omega
    subst this
    exact .inr ⟨p, e, he, hy, rfl⟩
/-- A cell at a distance: a chain of cells towards it, none twice. -/
theorem DstF.chain (hf : f.chk = 0) (ha : f.ground a = true) : ∀ (n : Nat) (x : Cel) (d : Int), DstF f a x d → d.toNat = n → ∃ l : List Cel, l.Nodup ∧ (∀ y ∈ l, f.isIn y = true ∧ ∃ e, DstF f a y e ∧ e ≤ d) ∧ d + 3 ≤ 3 * (l.length : Int) := by
  intro n
  induction n using Nat.strongRecOn with
  | ind n ih =>
    intro x d h hn
    have hx := Fld.ground_in (RchF.ground ha h.1)
    rcases h.pred with ⟨h1, h2⟩ | ⟨p, e, h1, h2, h3⟩
    · refine ⟨[x], by simp, fun y hy => ?_, by rw [h2]; simp⟩
      rw [List.mem_singleton.1 hy]; exact ⟨hx, d, h, Int.le_refl _⟩
    · have hk := f.kost_bd (c := x)
      have he := RchF.nn h1.1
      obtain ⟨l, l1, l2, l3⟩ := ih e.toNat (by omega) p e h1 rfl
      refine ⟨x :: l, List.nodup_cons.2 ⟨fun hm => ?_, l1⟩, fun y hy => ?_, by rw [List.length_cons]; omega⟩
      · obtain ⟨_, e', h4, h5⟩ := l2 x hm
        have := h4.uniq h; omega
      · rcases List.mem_cons.1 hy with rfl | hy
        · exact ⟨hx, d, h, Int.le_refl _⟩
        · obtain ⟨h4, e', h5, h6⟩ := l2 y hy
          exact ⟨h4, e', h5, by omega⟩
theorem DstF.bd (hf : f.chk = 0) (ha : f.ground a = true) (h : DstF f a x d) : d + 3 ≤ 3 * (f.places.length : Int) := by
  obtain ⟨l, l1, l2, l3⟩ := h.chain hf ha _ x d rfl
  have := cells_le hf l1 fun y hy => (l2 y hy).1
  omega
/-- The cell of a place. -/
def cellAt (f : Fld) (i : Nat) : Cel := ⟨(i : Int) % f.wide, (i : Int) / f.wide⟩
end
end Go.Proofs.Ytffjpfpbpnhmcaa
set_option linter.unusedVariables false
set_option linter.unusedSimpArgs false
namespace Go.Proofs.Ytffjpfpbpnhmcaa
open Go.RowKit

theorem find_march : findE ⟨3, 1, [0, 0, 3]⟩ ⟨1, 0⟩ ⟨2, 0⟩ = 0 ∧ findP ⟨3, 1, [0, 0, 3]⟩ ⟨1, 0⟩ ⟨2, 0⟩ = [⟨1, 0⟩, ⟨2, 0⟩] := by
  obtain ⟨h1, h2, h3⟩ := find_by (f := ⟨3, 1, [0, 0, 3]⟩) (a := ⟨1, 0⟩) (b := ⟨2, 0⟩) (far := [-1, 0, 2]) (cert (dl := [2, 0, 2]) (by decide)) (by decide) (by decide) (by decide) (by decide)
  exact ⟨h1, h3.trans (by decide)⟩
def marchT : List Trp := [⟨1, 0, 1, ⟨2, 0⟩, 10, 0⟩]
def marchG : List Gox := [⟨1, ⟨2, 0⟩⟩]
theorem march_small : marchE smallW marchG = 0 ∧ marchM smallW marchG = [1] ∧ marchW smallW marchG = { smallW with troops := marchT } := by
  have h1 : step1 smallW.field marchG smallW.troops 0 = some ⟨2, 0⟩ := by
    have hg : goK marchG (smallW.troops.getD 0 default).id = 0 := by decide
    have e1 : findE smallW.field (smallW.troops.getD 0 default).spot (marchG.getD 0 default).to = 0 := find_march.1
    have e2 : findP smallW.field (smallW.troops.getD 0 default).spot (marchG.getD 0 default).to = [⟨1, 0⟩, ⟨2, 0⟩] := find_march.2
    have h0 : 0 ≤ goK marchG (smallW.troops.getD 0 default).id := by omega
    have := step1_some (f := smallW.field) (l := marchG) (T := smallW.troops) (k := 0) h0
    rw [hg] at this
    simp only [Int.toNat_zero] at this
    rw [e1, e2] at this
    exact this ⟨⟨rfl, by decide⟩, by decide⟩
  have h2 : stS smallW.field marchG smallW.troops 1 = (marchT, [1]) := stS_some (f := smallW.field) (l := marchG) (T := smallW.troops) (U := smallW.troops) (M := []) (k := 0) rfl h1
  obtain ⟨e1, e2, e3⟩ := march_ok (W := smallW) (l := marchG) (by decide +kernel) (by decide)
  refine ⟨e1, ?_, ?_⟩
  · rw [e3]; show (stS smallW.field marchG smallW.troops 1).2 = _; rw [h2]
  · rw [e2]; show ({ smallW with troops := (stS smallW.field marchG smallW.troops 1).1 } : Wd) = _; rw [h2]
end Go.Proofs.Ytffjpfpbpnhmcaa
set_option linter.unusedVariables false
set_option linter.unusedSimpArgs false
namespace Go.Proofs.Ytffjpfpbpnhmcaa
open Go.RowKit

theorem MrL_en_mustkeep_small : Enters Try.prog 64 := en Try.func64 (by kernel_rfl) (by kernel_rfl)
theorem MrL_en_march_Step : Enters Try.prog 28 := en Try.func28 (by kernel_rfl) (by kernel_rfl)
theorem MrL_zv_api_World : Zv Try.prog 49 (.agg #[.int .i64 0, .int .i64 0, .slice none 0 0, .slice none 0 0, .slice none 0 0, .slice none 0 0, .slice none 0 0, .int .i64 0, .int .i64 0]) := fun _ => by kernel_rfl
theorem MrL_sz_api_World : Sz Try.prog 49 9 := fun _ => by kernel_rfl
theorem MrL_en_slices_Equal_S_int_int_ : Enters Try.prog 33 := en Try.func33 (by kernel_rfl) (by kernel_rfl)
theorem MrL_fd_api_World_4 : Fd Try.prog 49 4 6 := fun _ _ _ => by kernel_rfl
theorem MrL_ag_S_api_Troop : Ag Try.prog 47 false := fun _ => by kernel_rfl
theorem MrL_sz_api_Troop : Sz Try.prog 65 7 := fun _ => by kernel_rfl
theorem MrL_fd_api_Troop_3 : Fd Try.prog 65 3 3 := fun _ _ _ => by kernel_rfl
theorem MrL_ag_api_Cell : Ag Try.prog 32 true := fun _ => by kernel_rfl
theorem MrL_sz_api_Cell : Sz Try.prog 32 2 := fun _ => by kernel_rfl
theorem MrL_eqs_api_Cell : EqS Try.prog Cel.cells 32 := by
  intro a b w
  obtain ⟨a0, a1⟩ := a
  obtain ⟨b0, b1⟩ := b
  simp only [Cel.cells, Cel.mk.injEq]
  constructor
  · go_simp
    repeat' split
    all_goals simp_all
  · go_simp
    repeat' split
    all_goals simp_all
theorem MrL_eqg_api_Cell : (Try.prog).eqGuardType (Try.prog).depth 32 = false := by kernel_rfl
def marchV : Wd := { smallW with troops := marchT }
theorem mstep_small (A : Option Addr) (c : Nat) (w : World) (a : Wd.At) (hW : Wd.Has w a smallW) (hl : Gox.rep.SHas 24 w A c [(⟨1, ⟨2, 0⟩⟩ : Gox)]) :
    Calls Try.prog 28 #[.agg ((Wd.cells a smallW).toArray), .slice A 1 c] w (fun e w' => ∃ a' A' c', e = .returned (.tuple #[.agg ((Wd.cells a' marchV).toArray), .slice A' 1 c', .int .i64 0]) ∧ WOwn w' w.heap.size a' marchV ∧ repI.SOwn 3 8 w' w.heap.size (Rep.blkOf A') A' c' [1] ∧ (∀ q ∈ Rep.blkOf A', q ∈ WOwn.foot a' → False) ∧ Ext w w') := by
  refine (mstep_any a smallW A c marchG w hW hl).mono ?_
  rintro e w' ⟨a', A', c', rfl, h1, h2, h3, h4⟩
  obtain ⟨e1, e2, e3⟩ := march_small
  rw [e1, e2, e3]
  rw [e3] at h1
  rw [e2] at h2
  exact ⟨a', A', c', rfl, h1, h2, h3, h4⟩
set_option maxRecDepth 100000 in
set_option maxHeartbeats 400000 in
theorem marchLives_any  (w : World) :
    Calls Try.prog 29 #[] w (fun e w' => e = .returned (.bool true) ∧ Ext w w') := by
  refine calls_W (n := 29) Try.func29 rfl rfl rfl ?_
  refine sq <| rg <| vl (as_ rfl) rfl <| nl <| nT <| sq <| rg <| ca MrL_en_mustkeep_small rfl rfl ((small_any _).mono ?_)
  rintro e w_4 ⟨a_1, rfl, HO_1, x_5⟩
  refine ⟨_, rfl, ?_⟩
  have q_6 := x_5.size
  have z_4 := Ext.tr (Ext.rf w) x_5
  have u_2 := fun q hq => (HO_1.lt q hq).2
  have lo_3 := fun q hq => (HO_1.lt q hq).1
  refine vl (v := .agg #[.int .i64 2, .int .i64 0]) (bd rfl (by kernel_rfl)) rfl <| vl (v := .agg #[.int .i64 1, .int .i64 2, .int .i64 0]) (bd rfl (by kernel_rfl)) rfl <| bs (e := 53) (cs := [.int .i64 1, .int .i64 2, .int .i64 0]) rfl (fun _ => by kernel_rfl) rfl fun w_7 b_8 x_9 l_10 B_11 => ?_
  have q_12 := x_9.size
  have z_7 := Ext.tr z_4 x_9
  have q_13 := B_11.lt
  have HO_1 := HO_1.later x_9
  refine ca MrL_en_march_Step rfl rfl ((mstep_small _ _ _ _ HO_1.has (Blk.hasN (R := Gox.rep) (by_ := 24) (k := [(⟨1, ⟨2, 0⟩⟩ : Gox)]) B_11 [[.int .i64 1, .int .i64 2, .int .i64 0]] rfl (⟨⟨rfl, ⟨okI_iff.2 (by (try dsimp only); omega), okI_iff.2 (by (try dsimp only); omega), okI_iff.2 (by (try dsimp only); omega)⟩⟩, trivial⟩) (by simp) (by simp))).mono ?_)
  rintro e w_23 ⟨a14, A14, c14, rfl, HO14, OM14, hd14, x_24⟩
  refine ⟨_, rfl, ?_⟩
  have q_25 := x_24.size
  have z_23 := Ext.tr z_7 x_24
  have u_15 := fun q hq => (HO14.lt q hq).2
  have lo_16 := fun q hq => (HO14.lt q hq).1
  have u_17 := fun q hq => (OM14.lt q hq).2
  have lo_18 := fun q hq => (OM14.lt q hq).1
  have dd14 : ∀ q ∈ Rep.blkOf A14, q ∈ WOwn.foot a14 → False := hd14
  have dw14 : ∀ q ∈ WOwn.foot a14, q ∈ Rep.blkOf A14 → False := fun q h1 h2 => hd14 q h2 h1
  refine vl (mv rfl) rfl <| vl (ex rfl rfl) rfl <| vl (ex rfl rfl) rfl <| vl (ex rfl rfl) rfl <| al rfl MrL_zv_api_World rfl rfl fun w_26 b_27 x_28 l_29 B_30 => ?_
  have q_31 := x_28.size
  have z_26 := Ext.tr z_23 x_28
  have q_32 := B_30.lt
  refine st rfl rfl B_30 rfl MrL_sz_api_World rfl rfl rfl fun w_33 m_34 B_30 => ?_
  have q_36 := m_34.size
  have z_33 := Ext.mod z_26 m_34 (by simp only [List.mem_singleton, forall_eq]; omega)
  have q_35 := m_34.size
  refine vl (as_ rfl) rfl <| vl (as_ rfl) rfl <| nl <| nT <| sq <| rg <| vl (mv rfl) rfl <| vl (beq rfl rfl) rfl <| vl (mv rfl) rfl <| ug rfl rfl rfl <| vl (mv rfl) rfl <| ug rfl rfl rfl <| bs (e := 3) (cs := [.int .i64 1]) rfl (fun _ => by kernel_rfl) rfl fun w_37 b_38 x_39 l_40 B_41 => ?_
  have q_42 := x_39.size
  have z_37 := Ext.tr z_33 x_39
  have q_43 := B_41.lt
  refine ug rfl rfl rfl <| ?_
  have OM14 := OM14.later x_28
  have OM14 := OM14.mod m_34 (fun q hq h => by have hb := List.mem_singleton.1 h; exfalso; (have := u_17 q hq; omega))
  have OM14 := OM14.later x_39
  refine ca MrL_en_slices_Equal_S_int_int_ rfl rfl ((equal_Z _ _ _ _ _ _ ([1]) ([1]) _ OM14.has (Blk.hasN (R := repI) (by_ := 8) (k := [1]) B_41 [[.int .i64 1]] rfl (⟨⟨rfl, okI_iff.2 (by (try dsimp only); omega)⟩, trivial⟩) (by simp) (by simp))).mono ?_)
  rintro e w_44 ⟨rfl, x_45⟩
  refine ⟨_, rfl, ?_⟩
  have q_46 := x_45.size
  have z_44 := Ext.tr z_37 x_45
  refine vl (pkT rfl rfl) rfl <| vl (mv rfl) rfl <| vQ rfl rfl rfl rfl (fun hc => fa MrL_fd_api_World_4 rfl) rfl <| ?_
  have B_30 := B_30.later (Ext.tr x_39 x_45)
  refine vQ rfl rfl rfl rfl (fun hc => ld (gt hc rfl) (B_30.one MrL_ag_S_api_Troop rfl)) rfl <| ?_
  have HO14 := HO14.later x_28
  have HO14 := HO14.mod m_34 (fun q hq h => by have hb := List.mem_singleton.1 h; exfalso; (have := u_15 q hq; omega))
  have HO14 := HO14.later (Ext.tr x_39 x_45)
  refine vQ rfl rfl rfl rfl (fun hc => iA 0 Try.underlying47 MrL_sz_api_Troop (gt hc rfl) rfl (HO14.T.has.adr (Nat.zero_lt_of_lt (show 0 < _ from (by decide +kernel : 0 < (marchV.troops).length)))) rfl (by decide +kernel : 0 < (marchV.troops).length)) rfl <| vQ rfl rfl rfl rfl (fun hc => fa MrL_fd_api_Troop_3 (gt hc rfl)) rfl <| vQ rfl rfl rfl rfl (fun hc => ld (gt hc rfl) (Rep.SHas.part hcT (HO14.T.has.adh (Nat.zero_lt_of_lt (show 0 < _ from (by decide +kernel : 0 < (marchV.troops).length)))) 3 (ds := [.int .i64 ((marchV.troops.getD 0 default).spot.x), .int .i64 ((marchV.troops.getD 0 default).spot.y)]) (get_d (l := marchV.troops) (u := default) (by decide +kernel : 0 < (marchV.troops).length)) rfl MrL_ag_api_Cell MrL_sz_api_Cell)) rfl <| vQ (v := .agg #[.int .i64 2, .int .i64 0]) rfl rfl rfl rfl (fun hc => bd rfl (by kernel_rfl)) rfl <| vQ rfl rfl rfl rfl (fun hc => bqS MrL_eqs_api_Cell MrL_eqg_api_Cell (p := (marchV.troops.getD 0 default).spot) (q := (⟨2, 0⟩ : Cel)) (gt hc rfl) (gt hc rfl)) rfl <| vl (pA rfl rfl rfl rfl) rfl <| vl (as_ rfl) rfl <| nl <| nT <| rt <| tR (.tmp rfl .nil) <| ?_
  exact ⟨ret_true (by decide +kernel), z_44⟩
end Go.Proofs.Ytffjpfpbpnhmcaa
set_option linter.unusedVariables false
set_option linter.unusedSimpArgs false
namespace Go.Proofs.Ytffjpfpbpnhmcaa
open Go.RowKit

/-- What deeds leave of a world. -/
structure Kept (W V : Wd) : Prop where
  field : V.field = W.field
  bases : V.bases = W.bases
  now : V.now = W.now
  next : V.next = W.next + ((V.troops.length : Int) - W.troops.length)
  len : W.troops.length ≤ V.troops.length
  old : ∀ (i : Nat) (t : Trp), W.troops[i]? = some t → ∃ u : Trp, V.troops[i]? = some u ∧ { u with load := t.load } = t
  new : ∀ (i : Nat) (u : Trp), W.troops.length ≤ i → V.troops[i]? = some u → W.next ≤ u.id
theorem Kept.rf (W : Wd) : Kept W W := ⟨rfl, rfl, rfl, by omega, Nat.le_refl _, fun i t h => ⟨t, h, rfl⟩, fun i u h hu => by
  rw [List.getElem?_eq_none (by omega)] at hu; cases hu⟩
theorem Kept.tr {U V W : Wd} (h : Kept U V) (k : Kept V W) : Kept U W where
  field := k.field.trans h.field
  bases := k.bases.trans h.bases
  now := k.now.trans h.now
  next := by rw [k.next, h.next]; omega
  len := Nat.le_trans h.len k.len
  old i t ht := by
    obtain ⟨u, hu, e⟩ := h.old i t ht
    obtain ⟨x, hx, e2⟩ := k.old i u hu
    refine ⟨x, hx, ?_⟩
    rw [← e, ← e2]
  new i u hi hu := by
    by_cases h1 : i < V.troops.length
    · obtain ⟨t, ht⟩ := get_of h1
      obtain ⟨x, hx, e⟩ := k.old i t ht
      rw [hu] at hx
      obtain rfl := Option.some.inj hx
      have := h.new i t hi ht
      have e3 : t.id = u.id := by rw [← e]
      omega
    · have h2 := k.new i u (by omega) hu
      have := h.next
      have := h.len
      omega
/-- Those of a list that are marked. -/
def picked : List Ded → List Bool → List Ded
  | d :: l, b :: bs => if b then d :: picked l bs else picked l bs
  | _, _ => []
end Go.Proofs.Ytffjpfpbpnhmcaa
set_option linter.unusedVariables false
set_option linter.unusedSimpArgs false
namespace Go.Proofs.Ytffjpfpbpnhmcaa
open Go.RowKit

theorem LawS_fd_api_World_0 : Fd Try.prog 49 0 0 := fun _ _ _ => by kernel_rfl
theorem LawS_fd_api_Field_2 : Fd Try.prog 24 2 2 := fun _ _ _ => by kernel_rfl
theorem LawS_ag_S_int : Ag Try.prog 22 false := fun _ => by kernel_rfl
theorem LawS_fd_api_World_2 : Fd Try.prog 49 2 4 := fun _ _ _ => by kernel_rfl
theorem LawS_fd_api_World_3 : Fd Try.prog 49 3 5 := fun _ _ _ => by kernel_rfl
theorem LawS_sz_int : Sz Try.prog 3 1 := fun _ => by kernel_rfl
theorem LawS_ag_int : Ag Try.prog 3 false := fun _ => by kernel_rfl
theorem LawS_fd_api_World_1 : Fd Try.prog 49 1 3 := fun _ _ _ => by kernel_rfl
theorem LawS_ag_S_api_Cell : Ag Try.prog 25 false := fun _ => by kernel_rfl
theorem LawS_sz_api_Cell : Sz Try.prog 32 2 := fun _ => by kernel_rfl
theorem LawS_fd_api_Cell_0 : Fd Try.prog 32 0 0 := fun _ _ _ => by kernel_rfl
theorem LawS_fd_api_World_4 : Fd Try.prog 49 4 6 := fun _ _ _ => by kernel_rfl
theorem LawS_ag_S_api_Troop : Ag Try.prog 47 false := fun _ => by kernel_rfl
theorem LawS_sz_api_Troop : Sz Try.prog 65 7 := fun _ => by kernel_rfl
theorem LawS_fd_api_Troop_4 : Fd Try.prog 65 4 5 := fun _ _ _ => by kernel_rfl
set_option maxRecDepth 100000 in
set_option maxHeartbeats 400000 in
theorem spoilWorld_any (a : Wd.At) (W : Wd) (Z : Nat) (w : World) (hW : WOwn w Z a W) :
    Calls Try.prog 44 #[.agg ((Wd.cells a W).toArray)] w (fun e w' => e = .returned (.tuple #[]) ∧ Mod (WOwn.foot a) w w') := by
  have hd0 := hW.pairs
  have RP : Raw Z 1 0 w a.P a.p := Raw.of (R := repI) hW.P rfl (fun u h => h)
  have uP := fun q hq => (RP.lt q hq).2
  have RS : Raw Z 1 0 w a.S a.s := Raw.of (R := repI) hW.S rfl (fun u h => h)
  have uS := fun q hq => (RS.lt q hq).2
  have dSP : ∀ q ∈ Rep.blkOf a.S, q ∈ Rep.blkOf a.P → False := fun q h1 h2 => hd0.PS q h2 h1
  have RM : Raw Z 1 0 w a.M a.m := Raw.of (R := repI) hW.M rfl (fun u h => h)
  have uM := fun q hq => (RM.lt q hq).2
  have dMP : ∀ q ∈ Rep.blkOf a.M, q ∈ Rep.blkOf a.P → False := fun q h1 h2 => hd0.PM q h2 h1
  have dMS : ∀ q ∈ Rep.blkOf a.M, q ∈ Rep.blkOf a.S → False := fun q h1 h2 => hd0.SM q h2 h1
  have RB : Raw Z 2 0 w a.B a.b := Raw.of (R := Cel.rep) hW.B rfl (fun u h => h)
  have uB := fun q hq => (RB.lt q hq).2
  have dBP : ∀ q ∈ Rep.blkOf a.B, q ∈ Rep.blkOf a.P → False := fun q h1 h2 => hd0.PB q h2 h1
  have dBS : ∀ q ∈ Rep.blkOf a.B, q ∈ Rep.blkOf a.S → False := fun q h1 h2 => hd0.SB q h2 h1
  have dBM : ∀ q ∈ Rep.blkOf a.B, q ∈ Rep.blkOf a.M → False := fun q h1 h2 => hd0.MB q h2 h1
  have RT : Raw Z 7 5 w a.T a.t := Raw.of (R := Trp.rep) hW.T rfl (fun u h => h)
  have uT := fun q hq => (RT.lt q hq).2
  have dTP : ∀ q ∈ Rep.blkOf a.T, q ∈ Rep.blkOf a.P → False := fun q h1 h2 => hd0.PT q h2 h1
  have dTS : ∀ q ∈ Rep.blkOf a.T, q ∈ Rep.blkOf a.S → False := fun q h1 h2 => hd0.ST q h2 h1
  have dTM : ∀ q ∈ Rep.blkOf a.T, q ∈ Rep.blkOf a.M → False := fun q h1 h2 => hd0.MT q h2 h1
  have dTB : ∀ q ∈ Rep.blkOf a.T, q ∈ Rep.blkOf a.B → False := fun q h1 h2 => hd0.BT q h2 h1
  refine calls_W (n := 83) Try.func44 rfl rfl rfl ?_
  refine sq <| rg <| bx rfl rfl rfl rfl fun w_1 b_2 x_3 l_4 B_5 => ?_
  have q_6 := x_3.size
  have z_1 := (Mod.rf (WOwn.foot a) w).trans (Mod.of_ext x_3)
  have q_7 := B_5.lt
  refine nl <| nT <| sq <| sq <| rg <| vl (fa LawS_fd_api_World_0 rfl) rfl <| vl (fa LawS_fd_api_Field_2 rfl) rfl <| vl (ld rfl (B_5.one LawS_ag_S_int rfl)) rfl <| vl (fa LawS_fd_api_World_2 rfl) rfl <| vl (ld rfl (B_5.one LawS_ag_S_int rfl)) rfl <| vl (fa LawS_fd_api_World_3 rfl) rfl <| vl (ld rfl (B_5.one LawS_ag_S_int rfl)) rfl <| vl (v := .agg #[.slice a.P W.field.places.length a.p, .slice a.S W.stocks.length a.s, .slice a.M W.mines.length a.m]) (bd rfl (by kernel_rfl)) rfl <| vl (mv rfl) rfl <| nl <| nT <| bk <| ?_
  have eRP : ∀ q ∈ Rep.blkOf a.P, q = b_2 → False := fun q hq e => by have := uP q hq; omega
  have eRS : ∀ q ∈ Rep.blkOf a.S, q = b_2 → False := fun q hq e => by have := uS q hq; omega
  have eRM : ∀ q ∈ Rep.blkOf a.M, q = b_2 → False := fun q hq e => by have := uM q hq; omega
  have eRB : ∀ q ∈ Rep.blkOf a.B, q = b_2 → False := fun q hq e => by have := uB q hq; omega
  have eRT : ∀ q ∈ Rep.blkOf a.T, q = b_2 → False := fun q hq e => by have := uT q hq; omega
  refine lu 4 <| lr <| sq <| rg <| vl (blt rfl rfl) rfl <| nl <| nT <| sq <| cT rfl <| sk <| nT <| sq <| bk <| sq <| rg <| vl (v := .slice a.P W.field.places.length a.p) (ixk rfl rfl (by kernel_rfl)) rfl <| vl (as_ rfl) rfl <| nl <| nT <| sq <| rg <| vl (mv rfl) rfl <| vl (mv rfl) rfl <| vl (cp Try.underlying22 rfl) rfl <| ?_
  refine vl (sx Try.underlying22 LawS_sz_int rfl rfl) rfl <| vl (as_ rfl) rfl <| nl <| nT <| sq <| rg <| vl (mv rfl) rfl <| vl (ln Try.underlying22 rfl) rfl <| vl (mv rfl) rfl <| nl <| nT <| bk <| ?_
  have RP := RP.later x_3
  have RS := RS.later x_3
  have RM := RM.later x_3
  have RB := RB.later x_3
  have RT := RT.later x_3
  refine lp (fun mI EI wI => ∃ k : Nat, EI = [(1, .pointer (some ⟨b_2, 0, none⟩)), (3, .slice a.P a.p a.p), (14, .agg #[.slice a.P W.field.places.length a.p, .slice a.S W.stocks.length a.s, .slice a.M W.mines.length a.m]), (15, .int .i64 0), (16, .bool true), (17, .slice a.P W.field.places.length a.p), (18, .slice a.P W.field.places.length a.p), (19, .slice a.P W.field.places.length a.p), (20, .int .i64 (a.p : Int)), (21, .slice a.P a.p a.p), (22, .slice a.P a.p a.p), (23, .int .i64 (a.p : Int)), (24, .int .i64 (k : Int))] ∧ mI = a.p - k ∧ Mod (WOwn.foot a) w wI ∧ Raw Z 1 0 wI a.P a.p ∧ Raw Z 1 0 wI a.S a.s ∧ Raw Z 1 0 wI a.M a.m ∧ Raw Z 2 0 wI a.B a.b ∧ Raw Z 7 5 wI a.T a.t ∧ Blk wI b_2 (Wd.cells a W) 49 (0, 0) ∧ (k ≤ a.p)) _ _ ⟨0, rfl, rfl, z_1, RP, RS, RM, RB, RT, B_5, by omega⟩ (.cons rfl (.cons rfl (.cons rfl (.cons rfl (.cons rfl (.cons rfl (.cons rfl (.cons rfl (.cons rfl (.cons rfl (.cons rfl (.cons rfl (.cons (loI rfl (by first | omega | rfl | (simp <;> omega))) .nil))))))))))))) ?_
  rintro m_9 E_10 w_8 ⟨k, rfl, rfl, z_8, RP, RS, RM, RB, RT, B_5, hk⟩
  have q_11 := z_8.size
  have u_12 := fun q hq => (RP.lt q hq).2
  have u_13 := fun q hq => (RS.lt q hq).2
  have u_14 := fun q hq => (RM.lt q hq).2
  have u_15 := fun q hq => (RB.lt q hq).2
  have u_16 := fun q hq => (RT.lt q hq).2
  have q_17 := B_5.lt
  have hcap : (a.p : Int) ≤ 9223372036854775807 := by have := hW.caps; omega
  refine sq <| rg <| vl (blt rfl rfl) rfl <| nl <| nT <| sq <| ?_
  refine clt rfl (fun h_18 => ?_) (fun h_18 => ?_)
  · refine sk <| nT <| sq <| bk <| sq <| rg <| vl (mv rfl) rfl <| vl (as_ rfl) rfl <| nl <| nT <| rg <| vl (mv rfl) rfl <| vl (mv rfl) rfl <| vl (iA k Try.underlying22 LawS_sz_int rfl rfl (RP.adr (Nat.zero_lt_of_lt (show k < _ from (by omega)))) rfl (by omega)) rfl <| ?_
    obtain ⟨v_19, hv_20⟩ := RP.get (i := k) (by omega)
    refine vl (ld rfl (Lds.one LawS_ag_int hv_20)) rfl <| vl (badW rfl rfl) rfl <| vl (iA k Try.underlying22 LawS_sz_int rfl rfl (RP.adr (Nat.zero_lt_of_lt (show k < _ from (by omega)))) rfl (by omega)) rfl <| sr (i := k) RP (by omega) rfl rfl LawS_sz_int fun w_21 m_22 RP => ?_
    have q_23 := m_22.size
    have z_21 := z_8.md m_22 (fun q hq => .inl (foot_P hq))
    have q_24 := m_22.size
    refine nl <| nB <| nT <| rg <| vl (bad rfl rfl (inI (by omega))) rfl <| vl (mv rfl) rfl <| nl <| ?_
    have RS := RS.mod m_22 (fun q hq h => by exfalso; (exact dSP q hq h))
    have RM := RM.mod m_22 (fun q hq h => by exfalso; (exact dMP q hq h))
    have RB := RB.mod m_22 (fun q hq h => by exfalso; (exact dBP q hq h))
    have RT := RT.mod m_22 (fun q hq h => by exfalso; (exact dTP q hq h))
    have B_5 := B_5.mod m_22 (fun hq => eRP _ hq rfl)
    exact nI _ _ ⟨k + 1, rfl, rfl, z_21, RP, RS, RM, RB, RT, B_5, by omega⟩ (by omega) (.cons rfl (.cons rfl (.cons rfl (.cons rfl (.cons rfl (.cons rfl (.cons rfl (.cons rfl (.cons rfl (.cons rfl (.cons rfl (.cons rfl (.cons (loI rfl (by first | omega | rfl | (simp <;> omega))) .nil)))))))))))))
  · refine xt <| xT <| xK <| xB <| nB <| nT <| rg <| vl (badL (r := 1) rfl rfl (by decide) (by decide)) rfl <| vl (mv rfl) rfl <| nl <| nR <| lr <| sq <| rg <| vl (blt rfl rfl) rfl <| nl <| nT <| sq <| cT rfl <| sk <| nT <| sq <| bk <| sq <| ?_
    refine rg <| vl (v := .slice a.S W.stocks.length a.s) (ixk rfl rfl (by kernel_rfl)) rfl <| vl (as_ rfl) rfl <| nl <| nT <| sq <| rg <| vl (mv rfl) rfl <| vl (mv rfl) rfl <| vl (cp Try.underlying22 rfl) rfl <| vl (sx Try.underlying22 LawS_sz_int rfl rfl) rfl <| vl (as_ rfl) rfl <| nl <| nT <| sq <| rg <| vl (mv rfl) rfl <| vl (ln Try.underlying22 rfl) rfl <| vl (mv rfl) rfl <| nl <| nT <| bk <| ?_
    refine lp (fun mI EI wI => ∃ k : Nat, EI = [(1, .pointer (some ⟨b_2, 0, none⟩)), (3, .slice a.S a.s a.s), (14, .agg #[.slice a.P W.field.places.length a.p, .slice a.S W.stocks.length a.s, .slice a.M W.mines.length a.m]), (15, .int .i64 1), (16, .bool true), (17, .slice a.S W.stocks.length a.s), (18, .slice a.S W.stocks.length a.s), (19, .slice a.S W.stocks.length a.s), (20, .int .i64 (a.s : Int)), (21, .slice a.S a.s a.s), (22, .slice a.S a.s a.s), (23, .int .i64 (a.s : Int)), (24, .int .i64 (k : Int)), (34, .int .i64 1)] ∧ mI = a.s - k ∧ Mod (WOwn.foot a) w wI ∧ Raw Z 1 0 wI a.P a.p ∧ Raw Z 1 0 wI a.S a.s ∧ Raw Z 1 0 wI a.M a.m ∧ Raw Z 2 0 wI a.B a.b ∧ Raw Z 7 5 wI a.T a.t ∧ Blk wI b_2 (Wd.cells a W) 49 (0, 0) ∧ (k ≤ a.s)) _ _ ⟨0, rfl, rfl, z_8, RP, RS, RM, RB, RT, B_5, by omega⟩ (.cons rfl (.cons rfl (.cons rfl (.cons rfl (.cons rfl (.cons rfl (.cons rfl (.cons rfl (.cons rfl (.cons rfl (.cons rfl (.cons rfl (.cons (loI rfl (by first | omega | rfl | (simp <;> omega))) (.cons rfl .nil)))))))))))))) ?_
    rintro m_26 E_27 w_25 ⟨k, rfl, rfl, z_25, RP, RS, RM, RB, RT, B_5, hk⟩
    have q_28 := z_25.size
    have u_29 := fun q hq => (RP.lt q hq).2
    have u_30 := fun q hq => (RS.lt q hq).2
    have u_31 := fun q hq => (RM.lt q hq).2
    have u_32 := fun q hq => (RB.lt q hq).2
    have u_33 := fun q hq => (RT.lt q hq).2
    have q_34 := B_5.lt
    have hcap : (a.s : Int) ≤ 9223372036854775807 := by have := hW.caps; omega
    refine sq <| rg <| vl (blt rfl rfl) rfl <| nl <| nT <| sq <| ?_
    refine clt rfl (fun h_35 => ?_) (fun h_35 => ?_)
    · refine sk <| nT <| sq <| bk <| sq <| rg <| vl (mv rfl) rfl <| vl (as_ rfl) rfl <| nl <| nT <| rg <| vl (mv rfl) rfl <| vl (mv rfl) rfl <| vl (iA k Try.underlying22 LawS_sz_int rfl rfl (RS.adr (Nat.zero_lt_of_lt (show k < _ from (by omega)))) rfl (by omega)) rfl <| ?_
      obtain ⟨v_36, hv_37⟩ := RS.get (i := k) (by omega)
      refine vl (ld rfl (Lds.one LawS_ag_int hv_37)) rfl <| vl (badW rfl rfl) rfl <| vl (iA k Try.underlying22 LawS_sz_int rfl rfl (RS.adr (Nat.zero_lt_of_lt (show k < _ from (by omega)))) rfl (by omega)) rfl <| sr (i := k) RS (by omega) rfl rfl LawS_sz_int fun w_38 m_39 RS => ?_
      have q_40 := m_39.size
      have z_38 := z_25.md m_39 (fun q hq => .inl (foot_S hq))
      have q_41 := m_39.size
      refine nl <| nB <| nT <| rg <| vl (bad rfl rfl (inI (by omega))) rfl <| vl (mv rfl) rfl <| nl <| ?_
      have RP := RP.mod m_39 (fun q hq h => by exfalso; (exact dSP q h hq))
      have RM := RM.mod m_39 (fun q hq h => by exfalso; (exact dMS q hq h))
      have RB := RB.mod m_39 (fun q hq h => by exfalso; (exact dBS q hq h))
      have RT := RT.mod m_39 (fun q hq h => by exfalso; (exact dTS q hq h))
      have B_5 := B_5.mod m_39 (fun hq => eRS _ hq rfl)
      exact nI _ _ ⟨k + 1, rfl, rfl, z_38, RP, RS, RM, RB, RT, B_5, by omega⟩ (by omega) (.cons rfl (.cons rfl (.cons rfl (.cons rfl (.cons rfl (.cons rfl (.cons rfl (.cons rfl (.cons rfl (.cons rfl (.cons rfl (.cons rfl (.cons (loI rfl (by first | omega | rfl | (simp <;> omega))) (.cons rfl .nil))))))))))))))
    · refine xt <| xT <| xK <| xB <| nB <| nT <| rg <| vl (badL (r := 2) rfl rfl (by decide) (by decide)) rfl <| vl (mv rfl) rfl <| nl <| nR <| lr <| sq <| rg <| vl (blt rfl rfl) rfl <| nl <| nT <| sq <| cT rfl <| sk <| nT <| sq <| bk <| sq <| ?_
      refine rg <| vl (v := .slice a.M W.mines.length a.m) (ixk rfl rfl (by kernel_rfl)) rfl <| vl (as_ rfl) rfl <| nl <| nT <| sq <| rg <| vl (mv rfl) rfl <| vl (mv rfl) rfl <| vl (cp Try.underlying22 rfl) rfl <| vl (sx Try.underlying22 LawS_sz_int rfl rfl) rfl <| vl (as_ rfl) rfl <| nl <| nT <| sq <| rg <| vl (mv rfl) rfl <| vl (ln Try.underlying22 rfl) rfl <| vl (mv rfl) rfl <| nl <| nT <| bk <| ?_
      refine lp (fun mI EI wI => ∃ k : Nat, EI = [(1, .pointer (some ⟨b_2, 0, none⟩)), (3, .slice a.M a.m a.m), (14, .agg #[.slice a.P W.field.places.length a.p, .slice a.S W.stocks.length a.s, .slice a.M W.mines.length a.m]), (15, .int .i64 2), (16, .bool true), (17, .slice a.M W.mines.length a.m), (18, .slice a.M W.mines.length a.m), (19, .slice a.M W.mines.length a.m), (20, .int .i64 (a.m : Int)), (21, .slice a.M a.m a.m), (22, .slice a.M a.m a.m), (23, .int .i64 (a.m : Int)), (24, .int .i64 (k : Int)), (34, .int .i64 2)] ∧ mI = a.m - k ∧ Mod (WOwn.foot a) w wI ∧ Raw Z 1 0 wI a.P a.p ∧ Raw Z 1 0 wI a.S a.s ∧ Raw Z 1 0 wI a.M a.m ∧ Raw Z 2 0 wI a.B a.b ∧ Raw Z 7 5 wI a.T a.t ∧ Blk wI b_2 (Wd.cells a W) 49 (0, 0) ∧ (k ≤ a.m)) _ _ ⟨0, rfl, rfl, z_25, RP, RS, RM, RB, RT, B_5, by omega⟩ (.cons rfl (.cons rfl (.cons rfl (.cons rfl (.cons rfl (.cons rfl (.cons rfl (.cons rfl (.cons rfl (.cons rfl (.cons rfl (.cons rfl (.cons (loI rfl (by first | omega | rfl | (simp <;> omega))) (.cons rfl .nil)))))))))))))) ?_
      rintro m_43 E_44 w_42 ⟨k, rfl, rfl, z_42, RP, RS, RM, RB, RT, B_5, hk⟩
      have q_45 := z_42.size
      have u_46 := fun q hq => (RP.lt q hq).2
      have u_47 := fun q hq => (RS.lt q hq).2
      have u_48 := fun q hq => (RM.lt q hq).2
      have u_49 := fun q hq => (RB.lt q hq).2
      have u_50 := fun q hq => (RT.lt q hq).2
      have q_51 := B_5.lt
      have hcap : (a.m : Int) ≤ 9223372036854775807 := by have := hW.caps; omega
      refine sq <| rg <| vl (blt rfl rfl) rfl <| nl <| nT <| sq <| ?_
      refine clt rfl (fun h_52 => ?_) (fun h_52 => ?_)
      · refine sk <| nT <| sq <| bk <| sq <| rg <| vl (mv rfl) rfl <| vl (as_ rfl) rfl <| nl <| nT <| rg <| vl (mv rfl) rfl <| vl (mv rfl) rfl <| vl (iA k Try.underlying22 LawS_sz_int rfl rfl (RM.adr (Nat.zero_lt_of_lt (show k < _ from (by omega)))) rfl (by omega)) rfl <| ?_
        obtain ⟨v_53, hv_54⟩ := RM.get (i := k) (by omega)
        refine vl (ld rfl (Lds.one LawS_ag_int hv_54)) rfl <| vl (badW rfl rfl) rfl <| vl (iA k Try.underlying22 LawS_sz_int rfl rfl (RM.adr (Nat.zero_lt_of_lt (show k < _ from (by omega)))) rfl (by omega)) rfl <| sr (i := k) RM (by omega) rfl rfl LawS_sz_int fun w_55 m_56 RM => ?_
        have q_57 := m_56.size
        have z_55 := z_42.md m_56 (fun q hq => .inl (foot_M hq))
        have q_58 := m_56.size
        refine nl <| nB <| nT <| rg <| vl (bad rfl rfl (inI (by omega))) rfl <| vl (mv rfl) rfl <| nl <| ?_
        have RP := RP.mod m_56 (fun q hq h => by exfalso; (exact dMP q h hq))
        have RS := RS.mod m_56 (fun q hq h => by exfalso; (exact dMS q h hq))
        have RB := RB.mod m_56 (fun q hq h => by exfalso; (exact dBM q hq h))
        have RT := RT.mod m_56 (fun q hq h => by exfalso; (exact dTM q hq h))
        have B_5 := B_5.mod m_56 (fun hq => eRM _ hq rfl)
        exact nI _ _ ⟨k + 1, rfl, rfl, z_55, RP, RS, RM, RB, RT, B_5, by omega⟩ (by omega) (.cons rfl (.cons rfl (.cons rfl (.cons rfl (.cons rfl (.cons rfl (.cons rfl (.cons rfl (.cons rfl (.cons rfl (.cons rfl (.cons rfl (.cons (loI rfl (by first | omega | rfl | (simp <;> omega))) (.cons rfl .nil))))))))))))))
      · refine xt <| xT <| xK <| xB <| nB <| nT <| rg <| vl (badL (r := 3) rfl rfl (by decide) (by decide)) rfl <| vl (mv rfl) rfl <| nl <| nR <| lr <| sq <| rg <| vl (blt rfl rfl) rfl <| nl <| nT <| sq <| cF rfl <| xt <| xT <| xK <| xB <| nT <| ?_
        refine sq <| sq <| rg <| vl (fa LawS_fd_api_World_1 rfl) rfl <| vl (ld rfl (B_5.one LawS_ag_S_api_Cell rfl)) rfl <| vl (fa LawS_fd_api_World_1 rfl) rfl <| vl (ld rfl (B_5.one LawS_ag_S_api_Cell rfl)) rfl <| vl (cp Try.underlying25 rfl) rfl <| vl (sx Try.underlying25 LawS_sz_api_Cell rfl rfl) rfl <| vl (ln Try.underlying25 rfl) rfl <| vl (mv rfl) rfl <| nl <| nT <| bk <| ?_
        refine lp (fun mI EI wI => ∃ k : Nat, EI = [(1, .pointer (some ⟨b_2, 0, none⟩)), (41, .int .i64 (a.b : Int)), (42, .int .i64 (k : Int))] ∧ mI = a.b - k ∧ Mod (WOwn.foot a) w wI ∧ Raw Z 1 0 wI a.P a.p ∧ Raw Z 1 0 wI a.S a.s ∧ Raw Z 1 0 wI a.M a.m ∧ Raw Z 2 0 wI a.B a.b ∧ Raw Z 7 5 wI a.T a.t ∧ Blk wI b_2 (Wd.cells a W) 49 (0, 0) ∧ (k ≤ a.b)) _ _ ⟨0, rfl, rfl, z_42, RP, RS, RM, RB, RT, B_5, by omega⟩ (.cons rfl (.cons rfl (.cons (loI rfl (by first | omega | rfl | (simp <;> omega))) .nil))) ?_
        rintro m_60 E_61 w_59 ⟨k, rfl, rfl, z_59, RP, RS, RM, RB, RT, B_5, hk⟩
        have q_62 := z_59.size
        have u_63 := fun q hq => (RP.lt q hq).2
        have u_64 := fun q hq => (RS.lt q hq).2
        have u_65 := fun q hq => (RM.lt q hq).2
        have u_66 := fun q hq => (RB.lt q hq).2
        have u_67 := fun q hq => (RT.lt q hq).2
        have q_68 := B_5.lt
        have hcap : (a.b : Int) ≤ 9223372036854775807 := by have := hW.caps; omega
        refine sq <| rg <| vl (blt rfl rfl) rfl <| nl <| nT <| sq <| ?_
        refine clt rfl (fun h_69 => ?_) (fun h_69 => ?_)
        · refine sk <| nT <| sq <| bk <| sq <| rg <| vl (mv rfl) rfl <| vl (as_ rfl) rfl <| nl <| nT <| rg <| vl (fa LawS_fd_api_World_1 rfl) rfl <| vl (ld rfl (B_5.one LawS_ag_S_api_Cell rfl)) rfl <| vl (fa LawS_fd_api_World_1 rfl) rfl <| vl (ld rfl (B_5.one LawS_ag_S_api_Cell rfl)) rfl <| vl (cp Try.underlying25 rfl) rfl <| vl (sx Try.underlying25 LawS_sz_api_Cell rfl rfl) rfl <| vl (mv rfl) rfl <| vl (iA k Try.underlying25 LawS_sz_api_Cell rfl rfl (RB.adr (Nat.zero_lt_of_lt (show k < _ from (by omega)))) rfl (by omega)) rfl <| vl (fa LawS_fd_api_Cell_0 rfl) rfl <| ?_
          obtain ⟨v_70, hv_71⟩ := RB.get (i := k) (by omega)
          refine vl (ld rfl (Lds.one LawS_ag_int hv_71)) rfl <| vl (badW rfl rfl) rfl <| vl (iA k Try.underlying25 LawS_sz_api_Cell rfl rfl (RB.adr (Nat.zero_lt_of_lt (show k < _ from (by omega)))) rfl (by omega)) rfl <| vl (fa LawS_fd_api_Cell_0 rfl) rfl <| sr (i := k) RB (by omega) rfl rfl LawS_sz_int fun w_72 m_73 RB => ?_
          have q_74 := m_73.size
          have z_72 := z_59.md m_73 (fun q hq => .inl (foot_B hq))
          have q_75 := m_73.size
          refine nl <| nB <| nT <| rg <| vl (bad rfl rfl (inI (by omega))) rfl <| vl (mv rfl) rfl <| nl <| ?_
          have RP := RP.mod m_73 (fun q hq h => by exfalso; (exact dBP q h hq))
          have RS := RS.mod m_73 (fun q hq h => by exfalso; (exact dBS q h hq))
          have RM := RM.mod m_73 (fun q hq h => by exfalso; (exact dBM q h hq))
          have RT := RT.mod m_73 (fun q hq h => by exfalso; (exact dTB q hq h))
          have B_5 := B_5.mod m_73 (fun hq => eRB _ hq rfl)
          exact nI _ _ ⟨k + 1, rfl, rfl, z_72, RP, RS, RM, RB, RT, B_5, by omega⟩ (by omega) (.cons rfl (.cons rfl (.cons (loI rfl (by first | omega | rfl | (simp <;> omega))) .nil)))
        · refine xt <| xT <| xK <| xB <| nT <| sq <| rg <| vl (fa LawS_fd_api_World_4 rfl) rfl <| vl (ld rfl (B_5.one LawS_ag_S_api_Troop rfl)) rfl <| vl (fa LawS_fd_api_World_4 rfl) rfl <| vl (ld rfl (B_5.one LawS_ag_S_api_Troop rfl)) rfl <| vl (cp Try.underlying47 rfl) rfl <| vl (sx Try.underlying47 LawS_sz_api_Troop rfl rfl) rfl <| vl (ln Try.underlying47 rfl) rfl <| vl (mv rfl) rfl <| nl <| nT <| bk <| ?_
          refine lp (fun mI EI wI => ∃ k : Nat, EI = [(1, .pointer (some ⟨b_2, 0, none⟩)), (65, .int .i64 (a.t : Int)), (66, .int .i64 (k : Int))] ∧ mI = a.t - k ∧ Mod (WOwn.foot a) w wI ∧ Raw Z 1 0 wI a.P a.p ∧ Raw Z 1 0 wI a.S a.s ∧ Raw Z 1 0 wI a.M a.m ∧ Raw Z 2 0 wI a.B a.b ∧ Raw Z 7 5 wI a.T a.t ∧ Blk wI b_2 (Wd.cells a W) 49 (0, 0) ∧ (k ≤ a.t)) _ _ ⟨0, rfl, rfl, z_59, RP, RS, RM, RB, RT, B_5, by omega⟩ (.cons rfl (.cons rfl (.cons (loI rfl (by first | omega | rfl | (simp <;> omega))) .nil))) ?_
          rintro m_77 E_78 w_76 ⟨k, rfl, rfl, z_76, RP, RS, RM, RB, RT, B_5, hk⟩
          have q_79 := z_76.size
          have u_80 := fun q hq => (RP.lt q hq).2
          have u_81 := fun q hq => (RS.lt q hq).2
          have u_82 := fun q hq => (RM.lt q hq).2
          have u_83 := fun q hq => (RB.lt q hq).2
          have u_84 := fun q hq => (RT.lt q hq).2
          have q_85 := B_5.lt
          have hcap : (a.t : Int) ≤ 9223372036854775807 := by have := hW.caps; omega
          refine sq <| rg <| vl (blt rfl rfl) rfl <| nl <| nT <| sq <| ?_
          refine clt rfl (fun h_86 => ?_) (fun h_86 => ?_)
          · refine sk <| nT <| sq <| bk <| sq <| rg <| vl (mv rfl) rfl <| vl (as_ rfl) rfl <| nl <| nT <| rg <| vl (fa LawS_fd_api_World_4 rfl) rfl <| vl (ld rfl (B_5.one LawS_ag_S_api_Troop rfl)) rfl <| vl (fa LawS_fd_api_World_4 rfl) rfl <| vl (ld rfl (B_5.one LawS_ag_S_api_Troop rfl)) rfl <| vl (cp Try.underlying47 rfl) rfl <| vl (sx Try.underlying47 LawS_sz_api_Troop rfl rfl) rfl <| vl (mv rfl) rfl <| vl (iA k Try.underlying47 LawS_sz_api_Troop rfl rfl (RT.adr (Nat.zero_lt_of_lt (show k < _ from (by omega)))) rfl (by omega)) rfl <| vl (fa LawS_fd_api_Troop_4 rfl) rfl <| ?_
            obtain ⟨v_87, hv_88⟩ := RT.get (i := k) (by omega)
            refine vl (ld rfl (Lds.one LawS_ag_int hv_88)) rfl <| vl (badW rfl rfl) rfl <| vl (iA k Try.underlying47 LawS_sz_api_Troop rfl rfl (RT.adr (Nat.zero_lt_of_lt (show k < _ from (by omega)))) rfl (by omega)) rfl <| vl (fa LawS_fd_api_Troop_4 rfl) rfl <| sr (i := k) RT (by omega) rfl rfl LawS_sz_int fun w_89 m_90 RT => ?_
            have q_91 := m_90.size
            have z_89 := z_76.md m_90 (fun q hq => .inl (foot_T hq))
            have q_92 := m_90.size
            refine nl <| nB <| nT <| rg <| vl (bad rfl rfl (inI (by omega))) rfl <| vl (mv rfl) rfl <| nl <| ?_
            have RP := RP.mod m_90 (fun q hq h => by exfalso; (exact dTP q h hq))
            have RS := RS.mod m_90 (fun q hq h => by exfalso; (exact dTS q h hq))
            have RM := RM.mod m_90 (fun q hq h => by exfalso; (exact dTM q h hq))
            have RB := RB.mod m_90 (fun q hq h => by exfalso; (exact dTB q h hq))
            have B_5 := B_5.mod m_90 (fun hq => eRT _ hq rfl)
            exact nI _ _ ⟨k + 1, rfl, rfl, z_89, RP, RS, RM, RB, RT, B_5, by omega⟩ (by omega) (.cons rfl (.cons rfl (.cons (loI rfl (by first | omega | rfl | (simp <;> omega))) .nil)))
          · refine xt <| xT <| xK <| xB <| ne <| tR .nil <| ?_
            exact ⟨rfl, z_76⟩
end Go.Proofs.Ytffjpfpbpnhmcaa
set_option linter.unusedVariables false
set_option linter.unusedSimpArgs false
namespace Go.Proofs.Ytffjpfpbpnhmcaa
open Go.RowKit

theorem MrO_fd_api_World_4 : Fd Try.prog 49 4 6 := fun _ _ _ => by kernel_rfl
theorem MrO_ag_S_api_Troop : Ag Try.prog 47 false := fun _ => by kernel_rfl
theorem MrO_en_slices_Equal_S_api_Troop_api_Troop_ : Enters Try.prog 43 := en Try.func43 (by kernel_rfl) (by kernel_rfl)
theorem MrO_fd_api_World_0 : Fd Try.prog 49 0 0 := fun _ _ _ => by kernel_rfl
theorem MrO_fd_api_Field_2 : Fd Try.prog 24 2 2 := fun _ _ _ => by kernel_rfl
theorem MrO_ag_S_int : Ag Try.prog 22 false := fun _ => by kernel_rfl
theorem MrO_en_slices_Equal_S_int_int_ : Enters Try.prog 33 := en Try.func33 (by kernel_rfl) (by kernel_rfl)
theorem MrO_fd_api_World_1 : Fd Try.prog 49 1 3 := fun _ _ _ => by kernel_rfl
theorem MrO_ag_S_api_Cell : Ag Try.prog 25 false := fun _ => by kernel_rfl
theorem MrO_en_slices_Equal_S_api_Cell_api_Cell_ : Enters Try.prog 23 := en Try.func23 (by kernel_rfl) (by kernel_rfl)
theorem MrO_fd_api_World_2 : Fd Try.prog 49 2 4 := fun _ _ _ => by kernel_rfl
theorem MrO_fd_api_World_3 : Fd Try.prog 49 3 5 := fun _ _ _ => by kernel_rfl
theorem MrO_en_slices_Clone_S_api_Troop_api_Troop_ : Enters Try.prog 40 := en Try.func40 (by kernel_rfl) (by kernel_rfl)
theorem MrO_en_slices_Clone_S_int_int_ : Enters Try.prog 41 := en Try.func41 (by kernel_rfl) (by kernel_rfl)
theorem MrO_zv_S_api_Troop : Zv Try.prog 47 (.slice none 0 0) := fun _ => by kernel_rfl
theorem MrO_zv_S_int : Zv Try.prog 22 (.slice none 0 0) := fun _ => by kernel_rfl
theorem MrO_sz_S_api_Troop : Sz Try.prog 47 1 := fun _ => by kernel_rfl
theorem MrO_sz_S_int : Sz Try.prog 22 1 := fun _ => by kernel_rfl
theorem MrO_en_slices_Clone_S_api_Cell_api_Cell_ : Enters Try.prog 19 := en Try.func19 (by kernel_rfl) (by kernel_rfl)
theorem MrO_zv_S_api_Cell : Zv Try.prog 25 (.slice none 0 0) := fun _ => by kernel_rfl
theorem MrO_sz_S_api_Cell : Sz Try.prog 25 1 := fun _ => by kernel_rfl
theorem MrO_ag_api_World : Ag Try.prog 49 true := fun _ => by kernel_rfl
theorem MrO_sz_api_World : Sz Try.prog 49 9 := fun _ => by kernel_rfl
theorem MrO_en_march_Step : Enters Try.prog 28 := en Try.func28 (by kernel_rfl) (by kernel_rfl)
theorem MrO_zv_api_World : Zv Try.prog 49 (.agg #[.int .i64 0, .int .i64 0, .slice none 0 0, .slice none 0 0, .slice none 0 0, .slice none 0 0, .slice none 0 0, .int .i64 0, .int .i64 0]) := fun _ => by kernel_rfl
theorem MrO_ag_api_Cell : Ag Try.prog 32 true := fun _ => by kernel_rfl
theorem MrO_sz_api_Cell : Sz Try.prog 32 2 := fun _ => by kernel_rfl
theorem MrO_en_march_Reach : Enters Try.prog 39 := en Try.func39 (by kernel_rfl) (by kernel_rfl)
theorem MrO_en_mustkeep_MarchOwn_1 : Enters Try.prog 42 := en Try.func42 (by kernel_rfl) (by kernel_rfl)
theorem MrO_en_mustkeep_spoilWorld : Enters Try.prog 44 := en Try.func44 (by kernel_rfl) (by kernel_rfl)
theorem MrO_en_mustkeep_marchLives : Enters Try.prog 29 := en Try.func29 (by kernel_rfl) (by kernel_rfl)
set_option maxRecDepth 100000 in
set_option maxHeartbeats 400000 in
theorem mownSame (a : Wd.At) (W : Wd) (b0 bT bP bB bS bM : Nat) (AT AP AB AS AM : Option Addr) (cT cP cB cS cM : Nat) (w : World) (hW : Wd.Has w a W) (H0 : Blk w b0 (Wd.cells a W) 49 (0, 0)) (HT : Blk w bT [.slice AT W.troops.length cT] 47 (0, 0)) (hT : Trp.rep.SHas 56 w AT cT W.troops) (HP : Blk w bP [.slice AP W.field.places.length cP] 22 (0, 0)) (hP : repI.SHas 8 w AP cP W.field.places) (HB : Blk w bB [.slice AB W.bases.length cB] 25 (0, 0)) (hB : Cel.rep.SHas 16 w AB cB W.bases) (HS : Blk w bS [.slice AS W.stocks.length cS] 22 (0, 0)) (hS : repI.SHas 8 w AS cS W.stocks) (HM : Blk w bM [.slice AM W.mines.length cM] 22 (0, 0)) (hM : repI.SHas 8 w AM cM W.mines) :
    Calls Try.prog 42 #[.pointer (some ⟨b0, 0, none⟩), .pointer (some ⟨bT, 0, none⟩), .pointer (some ⟨bP, 0, none⟩), .pointer (some ⟨bB, 0, none⟩), .pointer (some ⟨bS, 0, none⟩), .pointer (some ⟨bM, 0, none⟩)] w (fun e w' => e = .returned (.bool true) ∧ Ext w w') := by
  refine calls_W (n := 36) Try.func42 rfl rfl rfl ?_
  refine sq <| rg <| vl (as_ rfl) rfl <| nl <| nT <| sq <| rg <| vl (fa MrO_fd_api_World_4 rfl) rfl <| vl (ld rfl (H0.one MrO_ag_S_api_Troop rfl)) rfl <| vl (ld rfl (HT.one MrO_ag_S_api_Troop rfl)) rfl <| ca MrO_en_slices_Equal_S_api_Troop_api_Troop_ rfl rfl ((equal_T _ _ _ _ _ _ W.troops W.troops _ (hW.T.keep (Ext.rf w)) (hT.keep (Ext.rf w))).mono ?_)
  rintro e w_1 ⟨rfl, x_2⟩
  refine ⟨_, rfl, ?_⟩
  have q_3 := x_2.size
  have z_1 := Ext.tr (Ext.rf w) x_2
  refine vl (mv rfl) rfl <| vQ rfl rfl rfl rfl (fun hc => fa MrO_fd_api_World_0 rfl) rfl <| vQ rfl rfl rfl rfl (fun hc => fa MrO_fd_api_Field_2 (gt hc rfl)) rfl <| ?_
  have H0 := H0.later x_2
  refine vQ rfl rfl rfl rfl (fun hc => ld (gt hc rfl) (H0.one MrO_ag_S_int rfl)) rfl <| ?_
  have HP := HP.later x_2
  refine vQ rfl rfl rfl rfl (fun hc => ld rfl (HP.one MrO_ag_S_int rfl)) rfl <| vC rfl rfl rfl rfl MrO_en_slices_Equal_S_int_int_ (fun hc => ec (gt hc rfl) (ec (gt hc rfl) rfl)) (fun hc => equal_Z _ _ _ _ _ _ W.field.places W.field.places _ (hW.P.keep z_1) (hP.keep z_1)) rfl fun w_4 x_5 => ?_
  have q_6 := x_5.size
  have z_4 := Ext.tr z_1 x_5
  refine vl (pA rfl rfl rfl rfl) rfl <| vl (mv rfl) rfl <| vQ rfl rfl rfl rfl (fun hc => fa MrO_fd_api_World_1 rfl) rfl <| ?_
  have H0 := H0.later x_5
  refine vQ rfl rfl rfl rfl (fun hc => ld (gt hc rfl) (H0.one MrO_ag_S_api_Cell rfl)) rfl <| ?_
  have HB := HB.later (Ext.tr x_2 x_5)
  refine vQ rfl rfl rfl rfl (fun hc => ld rfl (HB.one MrO_ag_S_api_Cell rfl)) rfl <| vC rfl rfl rfl rfl MrO_en_slices_Equal_S_api_Cell_api_Cell_ (fun hc => ec (gt hc rfl) (ec (gt hc rfl) rfl)) (fun hc => equal_C _ _ _ _ _ _ W.bases W.bases _ (hW.B.keep z_4) (hB.keep z_4)) rfl fun w_7 x_8 => ?_
  have q_9 := x_8.size
  have z_7 := Ext.tr z_4 x_8
  refine vl (pA rfl rfl rfl rfl) rfl <| vl (mv rfl) rfl <| vQ rfl rfl rfl rfl (fun hc => fa MrO_fd_api_World_2 rfl) rfl <| ?_
  have H0 := H0.later x_8
  refine vQ rfl rfl rfl rfl (fun hc => ld (gt hc rfl) (H0.one MrO_ag_S_int rfl)) rfl <| ?_
  have HS := HS.later (Ext.tr x_2 (Ext.tr x_5 x_8))
  refine vQ rfl rfl rfl rfl (fun hc => ld rfl (HS.one MrO_ag_S_int rfl)) rfl <| vC rfl rfl rfl rfl MrO_en_slices_Equal_S_int_int_ (fun hc => ec (gt hc rfl) (ec (gt hc rfl) rfl)) (fun hc => equal_Z _ _ _ _ _ _ W.stocks W.stocks _ (hW.S.keep z_7) (hS.keep z_7)) rfl fun w_10 x_11 => ?_
  have q_12 := x_11.size
  have z_10 := Ext.tr z_7 x_11
  refine vl (pA rfl rfl rfl rfl) rfl <| vl (mv rfl) rfl <| vQ rfl rfl rfl rfl (fun hc => fa MrO_fd_api_World_3 rfl) rfl <| ?_
  have H0 := H0.later x_11
  refine vQ rfl rfl rfl rfl (fun hc => ld (gt hc rfl) (H0.one MrO_ag_S_int rfl)) rfl <| ?_
  have HM := HM.later (Ext.tr x_2 (Ext.tr x_5 (Ext.tr x_8 x_11)))
  refine vQ rfl rfl rfl rfl (fun hc => ld rfl (HM.one MrO_ag_S_int rfl)) rfl <| vC rfl rfl rfl rfl MrO_en_slices_Equal_S_int_int_ (fun hc => ec (gt hc rfl) (ec (gt hc rfl) rfl)) (fun hc => equal_Z _ _ _ _ _ _ W.mines W.mines _ (hW.M.keep z_10) (hM.keep z_10)) rfl fun w_13 x_14 => ?_
  have q_15 := x_14.size
  have z_13 := Ext.tr z_10 x_14
  refine vl (pA rfl rfl rfl rfl) rfl <| vl (as_ rfl) rfl <| nl <| nT <| rt <| tR (.tmp rfl .nil) <| ?_
  exact ⟨ret_true (by simp), z_13⟩
set_option maxRecDepth 100000 in
set_option maxHeartbeats 400000 in
theorem marchOwn_walk (a : Wd.At) (W : Wd) (A : Option Addr) (c : Nat) (l : List Gox) (id : Int) (to : Cel) (w : World) (hW : Wd.Has w a W) (hl : Gox.rep.SHas 24 w A c l) (hid : okI id) (hto : to.ok) :
    Calls Try.prog 13 #[.agg ((Wd.cells a W).toArray), .slice A l.length c, .int .i64 id, .agg #[.int .i64 to.x, .int .i64 to.y]] w (fun e w' => e = .returned (.bool true) ∧ Ext w w') := by
  refine calls_W (n := 68) Try.func13 rfl rfl rfl ?_
  refine sq <| rg <| bx rfl rfl rfl rfl fun w_1 b_2 x_3 l_4 B_5 => ?_
  have q_6 := x_3.size
  have z_1 := Ext.tr (Ext.rf w) x_3
  have q_7 := B_5.lt
  refine bx rfl rfl rfl rfl fun w_8 b_9 x_10 l_11 B_12 => ?_
  have q_13 := x_10.size
  have z_8 := Ext.tr z_1 x_10
  have q_14 := B_12.lt
  refine vl (as_ rfl) rfl <| nl <| nT <| sq <| ?_
  refine rB [(1, 0), (2, 2), (5, 0), (6, 2), (7, 2), (8, 2), (9, 3), (10, 3)] [0, 1, 3, 4, 5] [2, 6, 7, 8] [9, 10] (by kernel_rfl) (by kernel_rfl) ?_
  refine fw rfl rfl (fun _ => fa MrO_fd_api_World_4 rfl) rfl <| ?_
  have B_5 := B_5.later x_10
  refine fq rfl rfl (fun _ x => ld rfl ((B_5.later x).one MrO_ag_S_api_Troop rfl)) rfl <| fw rfl rfl (fun _ => fa MrO_fd_api_World_0 rfl) rfl <| fw rfl rfl (fun _ => fa MrO_fd_api_Field_2 rfl) rfl <| fq rfl rfl (fun _ x => ld rfl ((B_5.later x).one MrO_ag_S_int rfl)) rfl <| fn fun w_15 x_16 => ?_
  have q_17 := x_16.size
  have z_15 := Ext.tr z_8 x_16
  refine bt [(2, 24, fun v_ f_ w_ => ∃ A_ c_, v_ = .slice A_ (W.troops).length c_ ∧ f_ = Rep.blkOf A_ ∧ Trp.rep.SOwn 65 56 w_ w_15.heap.size (Rep.blkOf A_) A_ c_ (W.troops)), (6, 28, fun v_ f_ w_ => ∃ A_ c_, v_ = .slice A_ (W.field.places).length c_ ∧ f_ = Rep.blkOf A_ ∧ repI.SOwn 3 8 w_ w_15.heap.size (Rep.blkOf A_) A_ c_ (W.field.places)), (7, 9, NewB [.slice none 0 0] 47), (8, 10, NewB [.slice none 0 0] 22)] (am (mk_call MrO_en_slices_Clone_S_api_Troop_api_Troop_ _ rfl rfl rfl rfl (fun _ _ _ _ ⟨A, c, h1, h2, h3⟩ x => ⟨A, c, h1, h2, h3.later x⟩) (fun w_18 x_19 => (clone_T _ _ W.troops _ (hW.T.keep (Ext.tr z_15 x_19))).mono fun e w2 ⟨A, c, he, hO, hn, hx⟩ => ⟨_, _, he, hx, fun q hq => hO.lt q hq, A, c, rfl, rfl, hO.down x_19.size⟩)) (am (mk_call MrO_en_slices_Clone_S_int_int_ _ rfl rfl rfl rfl (fun _ _ _ _ ⟨A, c, h1, h2, h3⟩ x => ⟨A, c, h1, h2, h3.later x⟩) (fun w_23 x_24 => (clone_I _ _ W.field.places _ (hW.P.keep (Ext.tr z_15 x_24))).mono fun e w2 ⟨A, c, he, hO, hn, hx⟩ => ⟨_, _, he, hx, fun q hq => hO.lt q hq, A, c, rfl, rfl, hO.down x_24.size⟩)) (am (mk_alloc rfl MrO_zv_S_api_Troop rfl rfl rfl) (am (mk_alloc rfl MrO_zv_S_int rfl rfl rfl) an)))) rfl rfl rfl ?_
  intro w_28 vs_30 fs_31 x_29 hP_32 hD_33
  have q_34 := x_29.size
  have z_28 := Ext.tr z_15 x_29
  obtain ⟨⟨A_38, c_39, hv_35, hf_36, O_40⟩, hb_37⟩ := hP_32 _ (List.Mem.head _)
  have u_41 := fun q hq => (O_40.lt q hq).2
  have lo_42 := fun q hq => (O_40.lt q hq).1
  obtain ⟨⟨A_46, c_47, hv_43, hf_44, O_48⟩, hb_45⟩ := hP_32 _ (List.Mem.tail _ (List.Mem.head _))
  have u_49 := fun q hq => (O_48.lt q hq).2
  have lo_50 := fun q hq => (O_48.lt q hq).1
  obtain ⟨⟨b_54, hv_51, hf_52, B_55⟩, hb_53⟩ := hP_32 _ (List.Mem.tail _ (List.Mem.tail _ (List.Mem.head _)))
  have q_56 := B_55.lt
  have l_57 := (hb_53 b_54 (by rw [hf_52]; exact List.Mem.head _)).1
  obtain ⟨⟨b_61, hv_58, hf_59, B_62⟩, hb_60⟩ := hP_32 _ (List.Mem.tail _ (List.Mem.tail _ (List.Mem.tail _ (List.Mem.head _))))
  have q_63 := B_62.lt
  have l_64 := (hb_60 b_61 (by rw [hf_59]; exact List.Mem.head _)).1
  have d_65 : ∀ q, q ∈ Rep.blkOf A_46 → q ∈ Rep.blkOf A_38 → False := fun q h1 h2 => hD_33 _ (List.Mem.tail _ (List.Mem.head _)) _ (List.Mem.head _) (show (6 : Nat) ≠ 2 by decide) q (by rw [hf_44]; exact h1) (by rw [hf_36]; exact h2)
  have d_66 : ∀ q, q = b_54 → q ∈ Rep.blkOf A_38 → False := fun q h1 h2 => hD_33 _ (List.Mem.tail _ (List.Mem.tail _ (List.Mem.head _))) _ (List.Mem.head _) (show (7 : Nat) ≠ 2 by decide) q (by rw [hf_52, h1]; exact List.Mem.head _) (by rw [hf_36]; exact h2)
  have d_67 : ∀ q, q = b_54 → q ∈ Rep.blkOf A_46 → False := fun q h1 h2 => hD_33 _ (List.Mem.tail _ (List.Mem.tail _ (List.Mem.head _))) _ (List.Mem.tail _ (List.Mem.head _)) (show (7 : Nat) ≠ 6 by decide) q (by rw [hf_52, h1]; exact List.Mem.head _) (by rw [hf_44]; exact h2)
  have d_68 : ∀ q, q = b_61 → q ∈ Rep.blkOf A_38 → False := fun q h1 h2 => hD_33 _ (List.Mem.tail _ (List.Mem.tail _ (List.Mem.tail _ (List.Mem.head _)))) _ (List.Mem.head _) (show (8 : Nat) ≠ 2 by decide) q (by rw [hf_59, h1]; exact List.Mem.head _) (by rw [hf_36]; exact h2)
  have d_69 : ∀ q, q = b_61 → q ∈ Rep.blkOf A_46 → False := fun q h1 h2 => hD_33 _ (List.Mem.tail _ (List.Mem.tail _ (List.Mem.tail _ (List.Mem.head _)))) _ (List.Mem.tail _ (List.Mem.head _)) (show (8 : Nat) ≠ 6 by decide) q (by rw [hf_59, h1]; exact List.Mem.head _) (by rw [hf_44]; exact h2)
  have n_70 : b_61 ≠ b_54 := fun e => hD_33 _ (List.Mem.tail _ (List.Mem.tail _ (List.Mem.tail _ (List.Mem.head _)))) _ (List.Mem.tail _ (List.Mem.tail _ (List.Mem.head _))) (show (8 : Nat) ≠ 7 by decide) b_61 (by rw [hf_59]; exact List.Mem.head _) (by rw [hf_52, e]; exact List.Mem.head _)
  show FL _ _ _ _ _ _ ((24, vs_30 2) :: (28, vs_30 6) :: (9, vs_30 7) :: (10, vs_30 8) :: _) _
  rw [hv_35, hv_43, hv_51, hv_58]
  refine fb rfl rfl rfl fun w_71 x_72 Q hK => st (new := [.slice A_38 ((W.troops).length) c_39]) rfl rfl (B_55.later x_72) rfl MrO_sz_S_api_Troop rfl rfl rfl fun w_73 m_74 B_55 => hK _ _ ?_
  have q_76 := x_72.size
  have z_71 := Ext.tr z_28 x_72
  have q_77 := m_74.size
  have z_73 := Ext.mod z_71 m_74 (by simp only [List.mem_singleton, forall_eq]; omega)
  have q_75 := m_74.size
  have B_62 := B_62.later x_72
  have B_62 := B_62.mod m_74 (by simp only [List.mem_singleton]; omega)
  refine fb rfl rfl rfl fun w_78 x_79 Q hK => st (new := [.slice A_46 ((W.field.places).length) c_47]) rfl rfl (B_62.later x_79) rfl MrO_sz_S_int rfl rfl rfl fun w_80 m_81 B_62 => hK _ _ ?_
  have q_83 := x_79.size
  have z_78 := Ext.tr z_73 x_79
  have q_84 := m_81.size
  have z_80 := Ext.mod z_78 m_81 (by simp only [List.mem_singleton, forall_eq]; omega)
  have q_82 := m_81.size
  refine fn fun w_85 x_86 => ?_
  have q_87 := x_86.size
  have z_85 := Ext.tr z_80 x_86
  refine nT <| sq <| ?_
  refine rB [(1, 0), (2, 2), (4, 0), (5, 2), (7, 0), (8, 2), (9, 2), (10, 2), (11, 2), (12, 3), (13, 3), (14, 3)] [0, 1, 3, 4, 6, 7] [2, 5, 8, 9, 10, 11] [12, 13, 14] (by kernel_rfl) (by kernel_rfl) ?_
  refine fw rfl rfl (fun _ => fa MrO_fd_api_World_1 rfl) rfl <| ?_
  have B_5 := B_5.later (Ext.tr x_16 (Ext.tr x_29 x_72))
  have B_5 := B_5.mod m_74 (by simp only [List.mem_singleton]; omega)
  have B_5 := B_5.later x_79
  have B_5 := B_5.mod m_81 (by simp only [List.mem_singleton]; omega)
  have B_5 := B_5.later x_86
  refine fq rfl rfl (fun _ x => ld rfl ((B_5.later x).one MrO_ag_S_api_Cell rfl)) rfl <| fw rfl rfl (fun _ => fa MrO_fd_api_World_2 rfl) rfl <| fq rfl rfl (fun _ x => ld rfl ((B_5.later x).one MrO_ag_S_int rfl)) rfl <| fw rfl rfl (fun _ => fa MrO_fd_api_World_3 rfl) rfl <| fq rfl rfl (fun _ x => ld rfl ((B_5.later x).one MrO_ag_S_int rfl)) rfl <| fn fun w_88 x_89 => ?_
  have q_90 := x_89.size
  have z_88 := Ext.tr z_85 x_89
  refine bt [(2, 31, fun v_ f_ w_ => ∃ A_ c_, v_ = .slice A_ (W.bases).length c_ ∧ f_ = Rep.blkOf A_ ∧ Cel.rep.SOwn 32 16 w_ w_88.heap.size (Rep.blkOf A_) A_ c_ (W.bases)), (5, 34, fun v_ f_ w_ => ∃ A_ c_, v_ = .slice A_ (W.stocks).length c_ ∧ f_ = Rep.blkOf A_ ∧ repI.SOwn 3 8 w_ w_88.heap.size (Rep.blkOf A_) A_ c_ (W.stocks)), (8, 37, fun v_ f_ w_ => ∃ A_ c_, v_ = .slice A_ (W.mines).length c_ ∧ f_ = Rep.blkOf A_ ∧ repI.SOwn 3 8 w_ w_88.heap.size (Rep.blkOf A_) A_ c_ (W.mines)), (9, 11, NewB [.slice none 0 0] 25), (10, 12, NewB [.slice none 0 0] 22), (11, 13, NewB [.slice none 0 0] 22)] (am (mk_call MrO_en_slices_Clone_S_api_Cell_api_Cell_ _ rfl rfl rfl rfl (fun _ _ _ _ ⟨A, c, h1, h2, h3⟩ x => ⟨A, c, h1, h2, h3.later x⟩) (fun w_91 x_92 => (clone_C _ _ W.bases _ (hW.B.keep (Ext.tr z_88 x_92))).mono fun e w2 ⟨A, c, he, hO, hn, hx⟩ => ⟨_, _, he, hx, fun q hq => hO.lt q hq, A, c, rfl, rfl, hO.down x_92.size⟩)) (am (mk_call MrO_en_slices_Clone_S_int_int_ _ rfl rfl rfl rfl (fun _ _ _ _ ⟨A, c, h1, h2, h3⟩ x => ⟨A, c, h1, h2, h3.later x⟩) (fun w_96 x_97 => (clone_I _ _ W.stocks _ (hW.S.keep (Ext.tr z_88 x_97))).mono fun e w2 ⟨A, c, he, hO, hn, hx⟩ => ⟨_, _, he, hx, fun q hq => hO.lt q hq, A, c, rfl, rfl, hO.down x_97.size⟩)) (am (mk_call MrO_en_slices_Clone_S_int_int_ _ rfl rfl rfl rfl (fun _ _ _ _ ⟨A, c, h1, h2, h3⟩ x => ⟨A, c, h1, h2, h3.later x⟩) (fun w_101 x_102 => (clone_I _ _ W.mines _ (hW.M.keep (Ext.tr z_88 x_102))).mono fun e w2 ⟨A, c, he, hO, hn, hx⟩ => ⟨_, _, he, hx, fun q hq => hO.lt q hq, A, c, rfl, rfl, hO.down x_102.size⟩)) (am (mk_alloc rfl MrO_zv_S_api_Cell rfl rfl rfl) (am (mk_alloc rfl MrO_zv_S_int rfl rfl rfl) (am (mk_alloc rfl MrO_zv_S_int rfl rfl rfl) an)))))) rfl rfl rfl ?_
  intro w_106 vs_108 fs_109 x_107 hP_110 hD_111
  have q_112 := x_107.size
  have z_106 := Ext.tr z_88 x_107
  obtain ⟨⟨A_116, c_117, hv_113, hf_114, O_118⟩, hb_115⟩ := hP_110 _ (List.Mem.head _)
  have u_119 := fun q hq => (O_118.lt q hq).2
  have lo_120 := fun q hq => (O_118.lt q hq).1
  obtain ⟨⟨A_124, c_125, hv_121, hf_122, O_126⟩, hb_123⟩ := hP_110 _ (List.Mem.tail _ (List.Mem.head _))
  have u_127 := fun q hq => (O_126.lt q hq).2
  have lo_128 := fun q hq => (O_126.lt q hq).1
  obtain ⟨⟨A_132, c_133, hv_129, hf_130, O_134⟩, hb_131⟩ := hP_110 _ (List.Mem.tail _ (List.Mem.tail _ (List.Mem.head _)))
  have u_135 := fun q hq => (O_134.lt q hq).2
  have lo_136 := fun q hq => (O_134.lt q hq).1
  obtain ⟨⟨b_140, hv_137, hf_138, B_141⟩, hb_139⟩ := hP_110 _ (List.Mem.tail _ (List.Mem.tail _ (List.Mem.tail _ (List.Mem.head _))))
  have q_142 := B_141.lt
  have l_143 := (hb_139 b_140 (by rw [hf_138]; exact List.Mem.head _)).1
  obtain ⟨⟨b_147, hv_144, hf_145, B_148⟩, hb_146⟩ := hP_110 _ (List.Mem.tail _ (List.Mem.tail _ (List.Mem.tail _ (List.Mem.tail _ (List.Mem.head _)))))
  have q_149 := B_148.lt
  have l_150 := (hb_146 b_147 (by rw [hf_145]; exact List.Mem.head _)).1
  obtain ⟨⟨b_154, hv_151, hf_152, B_155⟩, hb_153⟩ := hP_110 _ (List.Mem.tail _ (List.Mem.tail _ (List.Mem.tail _ (List.Mem.tail _ (List.Mem.tail _ (List.Mem.head _))))))
  have q_156 := B_155.lt
  have l_157 := (hb_153 b_154 (by rw [hf_152]; exact List.Mem.head _)).1
  have d_158 : ∀ q, q ∈ Rep.blkOf A_124 → q ∈ Rep.blkOf A_116 → False := fun q h1 h2 => hD_111 _ (List.Mem.tail _ (List.Mem.head _)) _ (List.Mem.head _) (show (5 : Nat) ≠ 2 by decide) q (by rw [hf_122]; exact h1) (by rw [hf_114]; exact h2)
  have d_159 : ∀ q, q ∈ Rep.blkOf A_132 → q ∈ Rep.blkOf A_116 → False := fun q h1 h2 => hD_111 _ (List.Mem.tail _ (List.Mem.tail _ (List.Mem.head _))) _ (List.Mem.head _) (show (8 : Nat) ≠ 2 by decide) q (by rw [hf_130]; exact h1) (by rw [hf_114]; exact h2)
  have d_160 : ∀ q, q ∈ Rep.blkOf A_132 → q ∈ Rep.blkOf A_124 → False := fun q h1 h2 => hD_111 _ (List.Mem.tail _ (List.Mem.tail _ (List.Mem.head _))) _ (List.Mem.tail _ (List.Mem.head _)) (show (8 : Nat) ≠ 5 by decide) q (by rw [hf_130]; exact h1) (by rw [hf_122]; exact h2)
  have d_161 : ∀ q, q = b_140 → q ∈ Rep.blkOf A_116 → False := fun q h1 h2 => hD_111 _ (List.Mem.tail _ (List.Mem.tail _ (List.Mem.tail _ (List.Mem.head _)))) _ (List.Mem.head _) (show (9 : Nat) ≠ 2 by decide) q (by rw [hf_138, h1]; exact List.Mem.head _) (by rw [hf_114]; exact h2)
  have d_162 : ∀ q, q = b_140 → q ∈ Rep.blkOf A_124 → False := fun q h1 h2 => hD_111 _ (List.Mem.tail _ (List.Mem.tail _ (List.Mem.tail _ (List.Mem.head _)))) _ (List.Mem.tail _ (List.Mem.head _)) (show (9 : Nat) ≠ 5 by decide) q (by rw [hf_138, h1]; exact List.Mem.head _) (by rw [hf_122]; exact h2)
  have d_163 : ∀ q, q = b_140 → q ∈ Rep.blkOf A_132 → False := fun q h1 h2 => hD_111 _ (List.Mem.tail _ (List.Mem.tail _ (List.Mem.tail _ (List.Mem.head _)))) _ (List.Mem.tail _ (List.Mem.tail _ (List.Mem.head _))) (show (9 : Nat) ≠ 8 by decide) q (by rw [hf_138, h1]; exact List.Mem.head _) (by rw [hf_130]; exact h2)
  have d_164 : ∀ q, q = b_147 → q ∈ Rep.blkOf A_116 → False := fun q h1 h2 => hD_111 _ (List.Mem.tail _ (List.Mem.tail _ (List.Mem.tail _ (List.Mem.tail _ (List.Mem.head _))))) _ (List.Mem.head _) (show (10 : Nat) ≠ 2 by decide) q (by rw [hf_145, h1]; exact List.Mem.head _) (by rw [hf_114]; exact h2)
  have d_165 : ∀ q, q = b_147 → q ∈ Rep.blkOf A_124 → False := fun q h1 h2 => hD_111 _ (List.Mem.tail _ (List.Mem.tail _ (List.Mem.tail _ (List.Mem.tail _ (List.Mem.head _))))) _ (List.Mem.tail _ (List.Mem.head _)) (show (10 : Nat) ≠ 5 by decide) q (by rw [hf_145, h1]; exact List.Mem.head _) (by rw [hf_122]; exact h2)
  have d_166 : ∀ q, q = b_147 → q ∈ Rep.blkOf A_132 → False := fun q h1 h2 => hD_111 _ (List.Mem.tail _ (List.Mem.tail _ (List.Mem.tail _ (List.Mem.tail _ (List.Mem.head _))))) _ (List.Mem.tail _ (List.Mem.tail _ (List.Mem.head _))) (show (10 : Nat) ≠ 8 by decide) q (by rw [hf_145, h1]; exact List.Mem.head _) (by rw [hf_130]; exact h2)
  have n_167 : b_147 ≠ b_140 := fun e => hD_111 _ (List.Mem.tail _ (List.Mem.tail _ (List.Mem.tail _ (List.Mem.tail _ (List.Mem.head _))))) _ (List.Mem.tail _ (List.Mem.tail _ (List.Mem.tail _ (List.Mem.head _)))) (show (10 : Nat) ≠ 9 by decide) b_147 (by rw [hf_145]; exact List.Mem.head _) (by rw [hf_138, e]; exact List.Mem.head _)
  have d_168 : ∀ q, q = b_154 → q ∈ Rep.blkOf A_116 → False := fun q h1 h2 => hD_111 _ (List.Mem.tail _ (List.Mem.tail _ (List.Mem.tail _ (List.Mem.tail _ (List.Mem.tail _ (List.Mem.head _)))))) _ (List.Mem.head _) (show (11 : Nat) ≠ 2 by decide) q (by rw [hf_152, h1]; exact List.Mem.head _) (by rw [hf_114]; exact h2)
  have d_169 : ∀ q, q = b_154 → q ∈ Rep.blkOf A_124 → False := fun q h1 h2 => hD_111 _ (List.Mem.tail _ (List.Mem.tail _ (List.Mem.tail _ (List.Mem.tail _ (List.Mem.tail _ (List.Mem.head _)))))) _ (List.Mem.tail _ (List.Mem.head _)) (show (11 : Nat) ≠ 5 by decide) q (by rw [hf_152, h1]; exact List.Mem.head _) (by rw [hf_122]; exact h2)
  have d_170 : ∀ q, q = b_154 → q ∈ Rep.blkOf A_132 → False := fun q h1 h2 => hD_111 _ (List.Mem.tail _ (List.Mem.tail _ (List.Mem.tail _ (List.Mem.tail _ (List.Mem.tail _ (List.Mem.head _)))))) _ (List.Mem.tail _ (List.Mem.tail _ (List.Mem.head _))) (show (11 : Nat) ≠ 8 by decide) q (by rw [hf_152, h1]; exact List.Mem.head _) (by rw [hf_130]; exact h2)
  have n_171 : b_154 ≠ b_140 := fun e => hD_111 _ (List.Mem.tail _ (List.Mem.tail _ (List.Mem.tail _ (List.Mem.tail _ (List.Mem.tail _ (List.Mem.head _)))))) _ (List.Mem.tail _ (List.Mem.tail _ (List.Mem.tail _ (List.Mem.head _)))) (show (11 : Nat) ≠ 9 by decide) b_154 (by rw [hf_152]; exact List.Mem.head _) (by rw [hf_138, e]; exact List.Mem.head _)
  have n_172 : b_154 ≠ b_147 := fun e => hD_111 _ (List.Mem.tail _ (List.Mem.tail _ (List.Mem.tail _ (List.Mem.tail _ (List.Mem.tail _ (List.Mem.head _)))))) _ (List.Mem.tail _ (List.Mem.tail _ (List.Mem.tail _ (List.Mem.tail _ (List.Mem.head _))))) (show (11 : Nat) ≠ 10 by decide) b_154 (by rw [hf_152]; exact List.Mem.head _) (by rw [hf_145, e]; exact List.Mem.head _)
  show FL _ _ _ _ _ _ ((31, vs_108 2) :: (34, vs_108 5) :: (37, vs_108 8) :: (11, vs_108 9) :: (12, vs_108 10) :: (13, vs_108 11) :: _) _
  rw [hv_113, hv_121, hv_129, hv_137, hv_144, hv_151]
  refine fb rfl rfl rfl fun w_173 x_174 Q hK => st (new := [.slice A_116 ((W.bases).length) c_117]) rfl rfl (B_141.later x_174) rfl MrO_sz_S_api_Cell rfl rfl rfl fun w_175 m_176 B_141 => hK _ _ ?_
  have q_178 := x_174.size
  have z_173 := Ext.tr z_106 x_174
  have q_179 := m_176.size
  have z_175 := Ext.mod z_173 m_176 (by simp only [List.mem_singleton, forall_eq]; omega)
  have q_177 := m_176.size
  have B_148 := B_148.later x_174
  have B_148 := B_148.mod m_176 (by simp only [List.mem_singleton]; omega)
  refine fb rfl rfl rfl fun w_180 x_181 Q hK => st (new := [.slice A_124 ((W.stocks).length) c_125]) rfl rfl (B_148.later x_181) rfl MrO_sz_S_int rfl rfl rfl fun w_182 m_183 B_148 => hK _ _ ?_
  have q_185 := x_181.size
  have z_180 := Ext.tr z_175 x_181
  have q_186 := m_183.size
  have z_182 := Ext.mod z_180 m_183 (by simp only [List.mem_singleton, forall_eq]; omega)
  have q_184 := m_183.size
  have B_155 := B_155.later x_174
  have B_155 := B_155.mod m_176 (by simp only [List.mem_singleton]; omega)
  have B_155 := B_155.later x_181
  have B_155 := B_155.mod m_183 (by simp only [List.mem_singleton]; omega)
  refine fb rfl rfl rfl fun w_187 x_188 Q hK => st (new := [.slice A_132 ((W.mines).length) c_133]) rfl rfl (B_155.later x_188) rfl MrO_sz_S_int rfl rfl rfl fun w_189 m_190 B_155 => hK _ _ ?_
  have q_192 := x_188.size
  have z_187 := Ext.tr z_182 x_188
  have q_193 := m_190.size
  have z_189 := Ext.mod z_187 m_190 (by simp only [List.mem_singleton, forall_eq]; omega)
  have q_191 := m_190.size
  refine fn fun w_194 x_195 => ?_
  have q_196 := x_195.size
  have z_194 := Ext.tr z_189 x_195
  refine nT <| sq <| rg <| vl (mf rfl rfl) rfl <| vl (as_ rfl) rfl <| nl <| nT <| sq <| rg <| ?_
  have B_5 := B_5.later (Ext.tr x_89 (Ext.tr x_107 x_174))
  have B_5 := B_5.mod m_176 (by simp only [List.mem_singleton]; omega)
  have B_5 := B_5.later x_181
  have B_5 := B_5.mod m_183 (by simp only [List.mem_singleton]; omega)
  have B_5 := B_5.later x_188
  have B_5 := B_5.mod m_190 (by simp only [List.mem_singleton]; omega)
  have B_5 := B_5.later x_195
  refine vl (ld rfl (B_5.all MrO_ag_api_World MrO_sz_api_World)) rfl <| vl (mv rfl) rfl <| ca MrO_en_march_Step rfl rfl ((mstep_any a W _ _ l _ (hW.keep z_194) (hl.keep z_194)).mono ?_)
  rintro e w_202 ⟨a197, A197, c197, rfl, HO197, OM197, hd197, x_203⟩
  refine ⟨_, rfl, ?_⟩
  have q_204 := x_203.size
  have z_202 := Ext.tr z_194 x_203
  have u_198 := fun q hq => (HO197.lt q hq).2
  have lo_199 := fun q hq => (HO197.lt q hq).1
  have u_200 := fun q hq => (OM197.lt q hq).2
  have lo_201 := fun q hq => (OM197.lt q hq).1
  have dd197 : ∀ q ∈ Rep.blkOf A197, q ∈ WOwn.foot a197 → False := hd197
  have dw197 : ∀ q ∈ WOwn.foot a197, q ∈ Rep.blkOf A197 → False := fun q h1 h2 => hd197 q h2 h1
  refine vl (mv rfl) rfl <| vl (ex rfl rfl) rfl <| vl (ex rfl rfl) rfl <| vl (ex rfl rfl) rfl <| al rfl MrO_zv_api_World rfl rfl fun w_205 b_206 x_207 l_208 B_209 => ?_
  have q_210 := x_207.size
  have z_205 := Ext.tr z_202 x_207
  have q_211 := B_209.lt
  refine st rfl rfl B_209 rfl MrO_sz_api_World rfl rfl rfl fun w_212 m_213 B_209 => ?_
  have q_215 := m_213.size
  have z_212 := Ext.mod z_205 m_213 (by simp only [List.mem_singleton, forall_eq]; omega)
  have q_214 := m_213.size
  refine vl (as_ rfl) rfl <| vl (as_ rfl) rfl <| nl <| nT <| sq <| rg <| ?_
  have B_5 := B_5.later (Ext.tr x_203 x_207)
  have B_5 := B_5.mod m_213 (by simp only [List.mem_singleton]; omega)
  refine vl (ld rfl (B_5.all MrO_ag_api_World MrO_sz_api_World)) rfl <| vl (mv rfl) rfl <| ?_
  have B_12 := B_12.later (Ext.tr x_16 (Ext.tr x_29 x_72))
  have B_12 := B_12.mod m_74 (by simp only [List.mem_singleton]; omega)
  have B_12 := B_12.later x_79
  have B_12 := B_12.mod m_81 (by simp only [List.mem_singleton]; omega)
  have B_12 := B_12.later (Ext.tr x_86 (Ext.tr x_89 (Ext.tr x_107 x_174)))
  have B_12 := B_12.mod m_176 (by simp only [List.mem_singleton]; omega)
  have B_12 := B_12.later x_181
  have B_12 := B_12.mod m_183 (by simp only [List.mem_singleton]; omega)
  have B_12 := B_12.later x_188
  have B_12 := B_12.mod m_190 (by simp only [List.mem_singleton]; omega)
  have B_12 := B_12.later (Ext.tr x_195 (Ext.tr x_203 x_207))
  have B_12 := B_12.mod m_213 (by simp only [List.mem_singleton]; omega)
  refine vl (ld rfl (B_12.all MrO_ag_api_Cell MrO_sz_api_Cell)) rfl <| ca MrO_en_march_Reach rfl rfl ((mreach_any a W id 2 to _ (hW.keep z_212) hid hto).mono ?_)
  rintro e w_219 ⟨a216, rfl, HO216, x_220⟩
  refine ⟨_, rfl, ?_⟩
  have q_221 := x_220.size
  have z_219 := Ext.tr z_212 x_220
  have u_217 := fun q hq => (HO216.lt q hq).2
  have lo_218 := fun q hq => (HO216.lt q hq).1
  refine vl (mv rfl) rfl <| vl (ex rfl rfl) rfl <| vl (ex rfl rfl) rfl <| vl (ex rfl rfl) rfl <| al rfl MrO_zv_api_World rfl rfl fun w_222 b_223 x_224 l_225 B_226 => ?_
  have q_227 := x_224.size
  have z_222 := Ext.tr z_219 x_224
  have q_228 := B_226.lt
  refine st rfl rfl B_226 rfl MrO_sz_api_World rfl rfl rfl fun w_229 m_230 B_226 => ?_
  have q_232 := m_230.size
  have z_229 := Ext.mod z_222 m_230 (by simp only [List.mem_singleton, forall_eq]; omega)
  have q_231 := m_230.size
  refine vl (as_ rfl) rfl <| vl (as_ rfl) rfl <| nl <| nT <| sq <| rg <| vl (mv rfl) rfl <| ?_
  have B_5 := B_5.later (Ext.tr x_220 x_224)
  have B_5 := B_5.mod m_230 (by simp only [List.mem_singleton]; omega)
  have B_55 := B_55.later x_79
  have B_55 := B_55.mod m_81 (by simp only [List.mem_singleton]; omega)
  have B_55 := B_55.later (Ext.tr x_86 (Ext.tr x_89 (Ext.tr x_107 x_174)))
  have B_55 := B_55.mod m_176 (by simp only [List.mem_singleton]; omega)
  have B_55 := B_55.later x_181
  have B_55 := B_55.mod m_183 (by simp only [List.mem_singleton]; omega)
  have B_55 := B_55.later x_188
  have B_55 := B_55.mod m_190 (by simp only [List.mem_singleton]; omega)
  have B_55 := B_55.later (Ext.tr x_195 (Ext.tr x_203 x_207))
  have B_55 := B_55.mod m_213 (by simp only [List.mem_singleton]; omega)
  have B_55 := B_55.later (Ext.tr x_220 x_224)
  have B_55 := B_55.mod m_230 (by simp only [List.mem_singleton]; omega)
  have B_62 := B_62.later (Ext.tr x_86 (Ext.tr x_89 (Ext.tr x_107 x_174)))
  have B_62 := B_62.mod m_176 (by simp only [List.mem_singleton]; omega)
  have B_62 := B_62.later x_181
  have B_62 := B_62.mod m_183 (by simp only [List.mem_singleton]; omega)
  have B_62 := B_62.later x_188
  have B_62 := B_62.mod m_190 (by simp only [List.mem_singleton]; omega)
  have B_62 := B_62.later (Ext.tr x_195 (Ext.tr x_203 x_207))
  have B_62 := B_62.mod m_213 (by simp only [List.mem_singleton]; omega)
  have B_62 := B_62.later (Ext.tr x_220 x_224)
  have B_62 := B_62.mod m_230 (by simp only [List.mem_singleton]; omega)
  have B_141 := B_141.later x_181
  have B_141 := B_141.mod m_183 (by simp only [List.mem_singleton]; omega)
  have B_141 := B_141.later x_188
  have B_141 := B_141.mod m_190 (by simp only [List.mem_singleton]; omega)
  have B_141 := B_141.later (Ext.tr x_195 (Ext.tr x_203 x_207))
  have B_141 := B_141.mod m_213 (by simp only [List.mem_singleton]; omega)
  have B_141 := B_141.later (Ext.tr x_220 x_224)
  have B_141 := B_141.mod m_230 (by simp only [List.mem_singleton]; omega)
  have B_148 := B_148.later x_188
  have B_148 := B_148.mod m_190 (by simp only [List.mem_singleton]; omega)
  have B_148 := B_148.later (Ext.tr x_195 (Ext.tr x_203 x_207))
  have B_148 := B_148.mod m_213 (by simp only [List.mem_singleton]; omega)
  have B_148 := B_148.later (Ext.tr x_220 x_224)
  have B_148 := B_148.mod m_230 (by simp only [List.mem_singleton]; omega)
  have B_155 := B_155.later (Ext.tr x_195 (Ext.tr x_203 x_207))
  have B_155 := B_155.mod m_213 (by simp only [List.mem_singleton]; omega)
  have B_155 := B_155.later (Ext.tr x_220 x_224)
  have B_155 := B_155.mod m_230 (by simp only [List.mem_singleton]; omega)
  have O_40 := O_40.later x_72
  have O_40 := O_40.mod m_74 (fun q hq h => by have hb := List.mem_singleton.1 h; exfalso; (exact (fun q h1 h2 => d_66 q h2 h1) q hq hb))
  have O_40 := O_40.later x_79
  have O_40 := O_40.mod m_81 (fun q hq h => by have hb := List.mem_singleton.1 h; exfalso; (exact (fun q h1 h2 => d_68 q h2 h1) q hq hb))
  have O_40 := O_40.later (Ext.tr x_86 (Ext.tr x_89 (Ext.tr x_107 x_174)))
  have O_40 := O_40.mod m_176 (fun q hq h => by have hb := List.mem_singleton.1 h; exfalso; (have := u_41 q hq; omega))
  have O_40 := O_40.later x_181
  have O_40 := O_40.mod m_183 (fun q hq h => by have hb := List.mem_singleton.1 h; exfalso; (have := u_41 q hq; omega))
  have O_40 := O_40.later x_188
  have O_40 := O_40.mod m_190 (fun q hq h => by have hb := List.mem_singleton.1 h; exfalso; (have := u_41 q hq; omega))
  have O_40 := O_40.later (Ext.tr x_195 (Ext.tr x_203 x_207))
  have O_40 := O_40.mod m_213 (fun q hq h => by have hb := List.mem_singleton.1 h; exfalso; (have := u_41 q hq; omega))
  have O_40 := O_40.later (Ext.tr x_220 x_224)
  have O_40 := O_40.mod m_230 (fun q hq h => by have hb := List.mem_singleton.1 h; exfalso; (have := u_41 q hq; omega))
  have O_48 := O_48.later x_72
  have O_48 := O_48.mod m_74 (fun q hq h => by have hb := List.mem_singleton.1 h; exfalso; (exact (fun q h1 h2 => d_67 q h2 h1) q hq hb))
  have O_48 := O_48.later x_79
  have O_48 := O_48.mod m_81 (fun q hq h => by have hb := List.mem_singleton.1 h; exfalso; (exact (fun q h1 h2 => d_69 q h2 h1) q hq hb))
  have O_48 := O_48.later (Ext.tr x_86 (Ext.tr x_89 (Ext.tr x_107 x_174)))
  have O_48 := O_48.mod m_176 (fun q hq h => by have hb := List.mem_singleton.1 h; exfalso; (have := u_49 q hq; omega))
  have O_48 := O_48.later x_181
  have O_48 := O_48.mod m_183 (fun q hq h => by have hb := List.mem_singleton.1 h; exfalso; (have := u_49 q hq; omega))
  have O_48 := O_48.later x_188
  have O_48 := O_48.mod m_190 (fun q hq h => by have hb := List.mem_singleton.1 h; exfalso; (have := u_49 q hq; omega))
  have O_48 := O_48.later (Ext.tr x_195 (Ext.tr x_203 x_207))
  have O_48 := O_48.mod m_213 (fun q hq h => by have hb := List.mem_singleton.1 h; exfalso; (have := u_49 q hq; omega))
  have O_48 := O_48.later (Ext.tr x_220 x_224)
  have O_48 := O_48.mod m_230 (fun q hq h => by have hb := List.mem_singleton.1 h; exfalso; (have := u_49 q hq; omega))
  have O_118 := O_118.later x_174
  have O_118 := O_118.mod m_176 (fun q hq h => by have hb := List.mem_singleton.1 h; exfalso; (exact (fun q h1 h2 => d_161 q h2 h1) q hq hb))
  have O_118 := O_118.later x_181
  have O_118 := O_118.mod m_183 (fun q hq h => by have hb := List.mem_singleton.1 h; exfalso; (exact (fun q h1 h2 => d_164 q h2 h1) q hq hb))
  have O_118 := O_118.later x_188
  have O_118 := O_118.mod m_190 (fun q hq h => by have hb := List.mem_singleton.1 h; exfalso; (exact (fun q h1 h2 => d_168 q h2 h1) q hq hb))
  have O_118 := O_118.later (Ext.tr x_195 (Ext.tr x_203 x_207))
  have O_118 := O_118.mod m_213 (fun q hq h => by have hb := List.mem_singleton.1 h; exfalso; (have := u_119 q hq; omega))
  have O_118 := O_118.later (Ext.tr x_220 x_224)
  have O_118 := O_118.mod m_230 (fun q hq h => by have hb := List.mem_singleton.1 h; exfalso; (have := u_119 q hq; omega))
  have O_126 := O_126.later x_174
  have O_126 := O_126.mod m_176 (fun q hq h => by have hb := List.mem_singleton.1 h; exfalso; (exact (fun q h1 h2 => d_162 q h2 h1) q hq hb))
  have O_126 := O_126.later x_181
  have O_126 := O_126.mod m_183 (fun q hq h => by have hb := List.mem_singleton.1 h; exfalso; (exact (fun q h1 h2 => d_165 q h2 h1) q hq hb))
  have O_126 := O_126.later x_188
  have O_126 := O_126.mod m_190 (fun q hq h => by have hb := List.mem_singleton.1 h; exfalso; (exact (fun q h1 h2 => d_169 q h2 h1) q hq hb))
  have O_126 := O_126.later (Ext.tr x_195 (Ext.tr x_203 x_207))
  have O_126 := O_126.mod m_213 (fun q hq h => by have hb := List.mem_singleton.1 h; exfalso; (have := u_127 q hq; omega))
  have O_126 := O_126.later (Ext.tr x_220 x_224)
  have O_126 := O_126.mod m_230 (fun q hq h => by have hb := List.mem_singleton.1 h; exfalso; (have := u_127 q hq; omega))
  have O_134 := O_134.later x_174
  have O_134 := O_134.mod m_176 (fun q hq h => by have hb := List.mem_singleton.1 h; exfalso; (exact (fun q h1 h2 => d_163 q h2 h1) q hq hb))
  have O_134 := O_134.later x_181
  have O_134 := O_134.mod m_183 (fun q hq h => by have hb := List.mem_singleton.1 h; exfalso; (exact (fun q h1 h2 => d_166 q h2 h1) q hq hb))
  have O_134 := O_134.later x_188
  have O_134 := O_134.mod m_190 (fun q hq h => by have hb := List.mem_singleton.1 h; exfalso; (exact (fun q h1 h2 => d_170 q h2 h1) q hq hb))
  have O_134 := O_134.later (Ext.tr x_195 (Ext.tr x_203 x_207))
  have O_134 := O_134.mod m_213 (fun q hq h => by have hb := List.mem_singleton.1 h; exfalso; (have := u_135 q hq; omega))
  have O_134 := O_134.later (Ext.tr x_220 x_224)
  have O_134 := O_134.mod m_230 (fun q hq h => by have hb := List.mem_singleton.1 h; exfalso; (have := u_135 q hq; omega))
  refine cv MrO_en_mustkeep_MarchOwn_1 rfl rfl rfl ((mownSame a W b_2 b_54 b_61 b_140 b_147 b_154 A_38 A_46 A_116 A_124 A_132 c_39 c_47 c_117 c_125 c_133 _ (hW.keep z_229) B_5 B_55 O_40.has B_62 O_48.has B_141 O_118.has B_148 O_126.has B_155 O_134.has).mono ?_)
  rintro e w_233 ⟨rfl, x_234⟩
  refine ⟨_, rfl, ?_⟩
  have q_235 := x_234.size
  have z_233 := Ext.tr z_229 x_234
  refine vl (as_ rfl) rfl <| nl <| nT <| sq <| rg <| ?_
  have B_209 := B_209.later (Ext.tr x_220 x_224)
  have B_209 := B_209.mod m_230 (by simp only [List.mem_singleton]; omega)
  have B_209 := B_209.later x_234
  refine vl (ld rfl (B_209.all MrO_ag_api_World MrO_sz_api_World)) rfl <| ?_
  have HO197 := HO197.later x_207
  have HO197 := HO197.mod m_213 (fun q hq h => by have hb := List.mem_singleton.1 h; exfalso; (have := u_198 q hq; omega))
  have HO197 := HO197.later (Ext.tr x_220 x_224)
  have HO197 := HO197.mod m_230 (fun q hq h => by have hb := List.mem_singleton.1 h; exfalso; (have := u_198 q hq; omega))
  have HO197 := HO197.later x_234
  refine ca MrO_en_mustkeep_spoilWorld rfl rfl ((spoilWorld_any a197 (marchW W l) _ _ HO197).mono ?_)
  rintro e w_237 ⟨rfl, m_236⟩
  refine ⟨_, rfl, ?_⟩
  have q_238 := m_236.size
  have z_237 := Ext.mod z_233 m_236 (fun q hq => by have := lo_199 q hq; omega)
  refine nl <| nT <| sq <| rg <| ?_
  have B_226 := B_226.later x_234
  have d_239 : ∀ q ∈ WOwn.foot a197, q = b_223 → False := fun q hq hb => by (have := u_198 q hq; omega)
  have B_226 := B_226.mod m_236 (fun hq => d_239 _ hq rfl)
  refine vl (ld rfl (B_226.all MrO_ag_api_World MrO_sz_api_World)) rfl <| ?_
  have HO216 := HO216.later x_224
  have HO216 := HO216.mod m_230 (fun q hq h => by have hb := List.mem_singleton.1 h; exfalso; (have := u_217 q hq; omega))
  have HO216 := HO216.later x_234
  have HO216 := HO216.mod m_236 (fun q hq h => by exfalso; (have := lo_218 q hq; (have := u_198 q h; omega)))
  refine ca MrO_en_mustkeep_spoilWorld rfl rfl ((spoilWorld_any a216 (reachW W id to 2) _ _ HO216).mono ?_)
  rintro e w_241 ⟨rfl, m_240⟩
  refine ⟨_, rfl, ?_⟩
  have q_242 := m_240.size
  have z_241 := Ext.mod z_237 m_240 (fun q hq => by have := lo_218 q hq; omega)
  refine nl <| nT <| sq <| rg <| ca MrO_en_mustkeep_marchLives rfl rfl ((marchLives_any _).mono ?_)
  rintro e w_243 ⟨rfl, x_244⟩
  refine ⟨_, rfl, ?_⟩
  have q_245 := x_244.size
  have z_243 := Ext.tr z_241 x_244
  refine vl (mv rfl) rfl <| ug rfl rfl rfl <| vl (mv rfl) rfl <| vl (pkT rfl rfl) rfl <| vl (mv rfl) rfl <| ug rfl rfl rfl <| vl (mv rfl) rfl <| ug rfl rfl rfl <| ?_
  have B_5 := B_5.later x_234
  have d_246 : ∀ q ∈ WOwn.foot a197, q = b_2 → False := fun q hq hb => by (have := lo_199 q hq; omega)
  have B_5 := B_5.mod m_236 (fun hq => d_246 _ hq rfl)
  have d_247 : ∀ q ∈ WOwn.foot a216, q = b_2 → False := fun q hq hb => by (have := lo_218 q hq; omega)
  have B_5 := B_5.mod m_240 (fun hq => d_247 _ hq rfl)
  have B_5 := B_5.later x_244
  have B_55 := B_55.later x_234
  have d_248 : ∀ q ∈ WOwn.foot a197, q = b_54 → False := fun q hq hb => by (have := lo_199 q hq; omega)
  have B_55 := B_55.mod m_236 (fun hq => d_248 _ hq rfl)
  have d_249 : ∀ q ∈ WOwn.foot a216, q = b_54 → False := fun q hq hb => by (have := lo_218 q hq; omega)
  have B_55 := B_55.mod m_240 (fun hq => d_249 _ hq rfl)
  have B_55 := B_55.later x_244
  have B_62 := B_62.later x_234
  have d_250 : ∀ q ∈ WOwn.foot a197, q = b_61 → False := fun q hq hb => by (have := lo_199 q hq; omega)
  have B_62 := B_62.mod m_236 (fun hq => d_250 _ hq rfl)
  have d_251 : ∀ q ∈ WOwn.foot a216, q = b_61 → False := fun q hq hb => by (have := lo_218 q hq; omega)
  have B_62 := B_62.mod m_240 (fun hq => d_251 _ hq rfl)
  have B_62 := B_62.later x_244
  have B_141 := B_141.later x_234
  have d_252 : ∀ q ∈ WOwn.foot a197, q = b_140 → False := fun q hq hb => by (have := lo_199 q hq; omega)
  have B_141 := B_141.mod m_236 (fun hq => d_252 _ hq rfl)
  have d_253 : ∀ q ∈ WOwn.foot a216, q = b_140 → False := fun q hq hb => by (have := lo_218 q hq; omega)
  have B_141 := B_141.mod m_240 (fun hq => d_253 _ hq rfl)
  have B_141 := B_141.later x_244
  have B_148 := B_148.later x_234
  have d_254 : ∀ q ∈ WOwn.foot a197, q = b_147 → False := fun q hq hb => by (have := lo_199 q hq; omega)
  have B_148 := B_148.mod m_236 (fun hq => d_254 _ hq rfl)
  have d_255 : ∀ q ∈ WOwn.foot a216, q = b_147 → False := fun q hq hb => by (have := lo_218 q hq; omega)
  have B_148 := B_148.mod m_240 (fun hq => d_255 _ hq rfl)
  have B_148 := B_148.later x_244
  have B_155 := B_155.later x_234
  have d_256 : ∀ q ∈ WOwn.foot a197, q = b_154 → False := fun q hq hb => by (have := lo_199 q hq; omega)
  have B_155 := B_155.mod m_236 (fun hq => d_256 _ hq rfl)
  have d_257 : ∀ q ∈ WOwn.foot a216, q = b_154 → False := fun q hq hb => by (have := lo_218 q hq; omega)
  have B_155 := B_155.mod m_240 (fun hq => d_257 _ hq rfl)
  have B_155 := B_155.later x_244
  have O_40 := O_40.later x_234
  have O_40 := O_40.mod m_236 (fun q hq h => by exfalso; (have := lo_199 q h; (have := u_41 q hq; omega)))
  have O_40 := O_40.mod m_240 (fun q hq h => by exfalso; (have := lo_218 q h; (have := u_41 q hq; omega)))
  have O_40 := O_40.later x_244
  have O_48 := O_48.later x_234
  have O_48 := O_48.mod m_236 (fun q hq h => by exfalso; (have := lo_199 q h; (have := u_49 q hq; omega)))
  have O_48 := O_48.mod m_240 (fun q hq h => by exfalso; (have := lo_218 q h; (have := u_49 q hq; omega)))
  have O_48 := O_48.later x_244
  have O_118 := O_118.later x_234
  have O_118 := O_118.mod m_236 (fun q hq h => by exfalso; (have := lo_199 q h; (have := u_119 q hq; omega)))
  have O_118 := O_118.mod m_240 (fun q hq h => by exfalso; (have := lo_218 q h; (have := u_119 q hq; omega)))
  have O_118 := O_118.later x_244
  have O_126 := O_126.later x_234
  have O_126 := O_126.mod m_236 (fun q hq h => by exfalso; (have := lo_199 q h; (have := u_127 q hq; omega)))
  have O_126 := O_126.mod m_240 (fun q hq h => by exfalso; (have := lo_218 q h; (have := u_127 q hq; omega)))
  have O_126 := O_126.later x_244
  have O_134 := O_134.later x_234
  have O_134 := O_134.mod m_236 (fun q hq h => by exfalso; (have := lo_199 q h; (have := u_135 q hq; omega)))
  have O_134 := O_134.mod m_240 (fun q hq h => by exfalso; (have := lo_218 q h; (have := u_135 q hq; omega)))
  have O_134 := O_134.later x_244
  refine cv MrO_en_mustkeep_MarchOwn_1 rfl rfl rfl ((mownSame a W b_2 b_54 b_61 b_140 b_147 b_154 A_38 A_46 A_116 A_124 A_132 c_39 c_47 c_117 c_125 c_133 _ (hW.keep z_243) B_5 B_55 O_40.has B_62 O_48.has B_141 O_118.has B_148 O_126.has B_155 O_134.has).mono ?_)
  rintro e w_258 ⟨rfl, x_259⟩
  refine ⟨_, rfl, ?_⟩
  have q_260 := x_259.size
  have z_258 := Ext.tr z_243 x_259
  refine vl (pkT rfl rfl) rfl <| vl (as_ rfl) rfl <| nl <| nT <| rt <| tR (.tmp rfl .nil) <| ?_
  exact ⟨rfl, z_258⟩
theorem marchOwn_any (c0 : Array Value) (a1 : Option Addr) (len1 cap1 : Nat) (a2 : Int) (c3 : Array Value) (w : World) (h0 : (.cons (.cons (.int .i64) (.cons (.int .i64) (.cons (.slice (.int .i64) 8) .nil))) (.cons (.slice (.cons (.int .i64) (.cons (.int .i64) .nil)) 16) (.cons (.slice (.int .i64) 8) (.cons (.slice (.int .i64) 8) (.cons (.slice (.cons (.int .i64) (.cons (.int .i64) (.cons (.int .i64) (.cons (.cons (.int .i64) (.cons (.int .i64) .nil)) (.cons (.int .i64) (.cons (.int .i64) .nil)))))) 56) (.cons (.int .i64) (.cons (.int .i64) .nil)))))) : Sh).Ok w c0.toList) (h1 : (.slice (.cons (.int .i64) (.cons (.cons (.int .i64) (.cons (.int .i64) .nil)) .nil)) 24 : Sh).Ok w [.slice a1 len1 cap1]) (w2 : (Lit.int .i64 a2).wf = true) (h3 : (.cons (.int .i64) (.cons (.int .i64) .nil) : Sh).Ok w c3.toList) :
    Calls Try.prog 13 #[.agg c0, .slice a1 len1 cap1, .int .i64 a2, .agg c3] w fun e w' => e = .returned (.bool true) ∧ Below w.heap.size w w' := by
  obtain ⟨a, W, e, hW⟩ := Wd.opens w _ (show Wd.sh.Ok w c0.toList from h0)
  have hc : c0 = (Wd.cells a W).toArray := by rw [← e]
  subst hc
  obtain ⟨A, c, l, e1, hl⟩ := Rep.opens_slice (R := Gox.rep) (by_ := 24) Gox.opens rfl (by decide) h1
  simp only [List.cons.injEq, Value.slice.injEq, and_true] at e1
  obtain ⟨rfl, rfl, rfl⟩ := e1
  obtain ⟨to, hto0⟩ := Cel.opens w _ (show Cel.sh.Ok w c3.toList from h3)
  obtain ⟨e3, hto⟩ := (show _ ∧ _ from hto0)
  have hc3 : c3 = #[.int .i64 to.x, .int .i64 to.y] := by apply Array.ext'; rw [e3]; rfl
  subst hc3
  exact marchOwn_walk a W _ _ l a2 to w hW hl w2 hto
end Go.Proofs.Ytffjpfpbpnhmcaa
