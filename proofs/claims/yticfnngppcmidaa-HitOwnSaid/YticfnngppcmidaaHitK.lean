/-
  What the laws of hits call. (Printed by bin/hitk.py.)
-/
import Derived.Test.YticfnngppcmidaaHitS
import Derived.Test.YticfnngppcmidaaLawA
set_option linter.unusedVariables false
set_option linter.unusedSimpArgs false
namespace Go.Proofs.Yticfnngppcmidaa
open Go.RowKit

theorem HitK_fd_api_Blow_0 : Fd Try.prog 69 0 0 := fun _ _ _ => by kernel_rfl
theorem HitK_ag_int : Ag Try.prog 3 false := fun _ => by kernel_rfl
theorem HitK_sz_api_Blow : Sz Try.prog 69 2 := fun _ => by kernel_rfl
theorem HitK_ag_api_Blow : Ag Try.prog 69 true := fun _ => by kernel_rfl
theorem HitK_en_mustkeep_HitAny_1 : Enters Try.prog 42 := en Try.func42 (by kernel_rfl) (by kernel_rfl)
theorem HitK_en_slices_IndexFunc_S_api_Blow_api_Blow_ : Enters Try.prog 58 := en Try.func58 (by kernel_rfl) (by kernel_rfl)
theorem HitK_fd_api_Troop_0 : Fd Try.prog 39 0 0 := fun _ _ _ => by kernel_rfl
theorem HitK_fd_api_Blow_1 : Fd Try.prog 69 1 1 := fun _ _ _ => by kernel_rfl
theorem HitK_en_mustkeep_HitFriends_1 : Enters Try.prog 37 := en Try.func37 (by kernel_rfl) (by kernel_rfl)
theorem HitK_sz_int : Sz Try.prog 3 1 := fun _ => by kernel_rfl
theorem HitK_en_slices_Index_S_int_int_ : Enters Try.prog 61 := en Try.func61 (by kernel_rfl) (by kernel_rfl)
theorem idx_none_d {α : Type} [Inhabited α] {p : α → Bool} {l : List α} (h : ∀ i, i < l.length → p (l.getD i default) = false) : idxI p l = -1 :=
  idxI_none fun j hj => by have := h j hj; rwa [List.getD_eq_getElem?_getD, List.getElem?_eq_getElem hj] at this
theorem idx_some_d {α : Type} [Inhabited α] {p : α → Bool} {l : List α} {k : Nat} (hk : k < l.length) (h1 : p (l.getD k default) = true) (h : ∀ i, i < k → p (l.getD i default) = false) : idxI p l = (k : Int) :=
  idxI_some hk (by rwa [List.getD_eq_getElem?_getD, List.getElem?_eq_getElem hk] at h1) fun j hj => by have := h j hj; rwa [List.getD_eq_getElem?_getD, List.getElem?_eq_getElem (by omega : j < l.length)] at this
set_option maxRecDepth 100000 in
set_option maxHeartbeats 400000 in
theorem by_same (b1 : Nat) (y : Blw) (x : Blw) (w : World) (H1 : Blk w b1 [.int .i64 y.who, .int .i64 y.whom] 69 (0, 0)) :
    Calls Try.prog 42 #[.agg #[.int .i64 x.who, .int .i64 x.whom], .pointer (some ⟨b1, 0, none⟩)] w (fun e w' => e = .returned (.bool (x.who == y.who)) ∧ Ext w w') := by
  refine calls_W (n := 9) Try.func42 rfl rfl rfl ?_
  refine sq <| rg <| bx rfl rfl rfl rfl fun w_1 b_2 x_3 l_4 B_5 => ?_
  have q_6 := x_3.size
  have z_1 := Ext.tr (Ext.rf w) x_3
  have q_7 := B_5.lt
  refine vl (as_ rfl) rfl <| nl <| nT <| sq <| rg <| vl (fa HitK_fd_api_Blow_0 rfl) rfl <| vl (ld rfl (B_5.one HitK_ag_int rfl)) rfl <| vl (fa HitK_fd_api_Blow_0 rfl) rfl <| ?_
  have H1 := H1.later x_3
  refine vl (ld rfl (H1.one HitK_ag_int rfl)) rfl <| vl (beq rfl rfl) rfl <| vl (as_ rfl) rfl <| nl <| nT <| rt <| tR (.tmp rfl .nil) <| ?_
  exact ⟨rfl, z_1⟩
set_option maxRecDepth 100000 in
set_option maxHeartbeats 400000 in
theorem idx_by (b1 : Nat) (y : Blw) (A : Option Addr) (c : Nat) (l : List Blw) (w : World) (hl : Blw.rep.SHas 16 w A c l) (H1 : Blk w b1 [.int .i64 y.who, .int .i64 y.whom] 69 (0, 0)) :
    Calls Try.prog 58 #[.slice A l.length c, .func (.func 42) #[] #[.pointer (some ⟨b1, 0, none⟩)]] w (fun e w' => e = .returned (.int .i64 (idxI (fun x => x.who == y.who) l)) ∧ Ext w w') := by
  have hll := hl.len_le
  refine calls_W (n := 19) Try.func58 rfl rfl rfl ?_
  refine sq <| rg <| vl (as_ rfl) rfl <| nl <| nT <| sq <| sq <| rg <| vl (mv rfl) rfl <| vl (ln Try.underlying60 rfl) rfl <| vl (mv rfl) rfl <| nl <| nT <| bk <| ?_
  refine lp (fun mI EI wI => ∃ k : Nat, EI = [(0, .slice A l.length c), (1, .func (.func 42) #[] #[.pointer (some ⟨b1, 0, none⟩)]), (7, .int .i64 (l.length : Int)), (8, .int .i64 (k : Int))] ∧ mI = l.length - k ∧ Ext w wI ∧ Blk wI b1 [.int .i64 y.who, .int .i64 y.whom] 69 (0, 0) ∧ (k ≤ l.length) ∧ (∀ i, i < k → (fun x => x.who == y.who) (l.getD i default) = false)) _ _ ⟨0, rfl, rfl, (Ext.rf w), H1, by omega, fun i hi => by omega⟩ (.cons rfl (.cons rfl (.cons rfl (.cons (loI rfl (by first | omega | rfl | (simp <;> omega))) .nil)))) ?_
  rintro m_2 E_3 w_1 ⟨k, rfl, rfl, z_1, H1, hk, hg⟩
  have q_4 := z_1.size
  have q_5 := H1.lt
  refine sq <| rg <| vl (blt rfl rfl) rfl <| nl <| nT <| sq <| ?_
  refine clt rfl (fun h_6 => ?_) (fun h_6 => ?_)
  · refine sk <| nT <| sq <| bk <| sq <| rg <| vl (mv rfl) rfl <| vl (as_ rfl) rfl <| nl <| nT <| sq <| rg <| vl (mv rfl) rfl <| vl (mv rfl) rfl <| vl (mv rfl) rfl <| vl (iA k Try.underlying60 HitK_sz_api_Blow rfl rfl ((hl.keep z_1).adr (Nat.zero_lt_of_lt (show k < _ from (by omega)))) rfl (by omega)) rfl <| vl (ld rfl (Rep.SHas.elt hcW ((hl.keep z_1).adh (Nat.zero_lt_of_lt (show k < _ from (by omega)))) (get_d (l := l) (u := default) (by omega)) HitK_ag_api_Blow HitK_sz_api_Blow)) rfl <| cv HitK_en_mustkeep_HitAny_1 rfl rfl rfl ((by_same b1 y (l.getD k default) _ H1).mono ?_)
    rintro e w_7 ⟨rfl, x_8⟩
    refine ⟨_, rfl, ?_⟩
    have q_9 := x_8.size
    have z_7 := Ext.tr z_1 x_8
    refine nl <| nT <| ?_
    refine cb rfl (fun h_10 => ?_) (fun h_10 => ?_)
    · refine sq <| rg <| vl (mv rfl) rfl <| vl (as_ rfl) rfl <| nl <| nT <| rt <| tB <| tT <| tK <| tB <| tT <| tR (.tmp rfl .nil) <| ?_
      exact ⟨by have e := idx_some_d (p := (fun x => x.who == y.who)) (l := l) (k := k) (by omega) h_10 hg; rw [e]; rfl, z_7⟩
    · refine sk <| nB <| nT <| rg <| vl (bad rfl rfl (inI (by omega))) rfl <| vl (mv rfl) rfl <| nl <| ?_
      have H1 := H1.later x_8
      exact nI _ _ ⟨k + 1, rfl, rfl, z_7, H1, by omega, lt_succ_all hg h_10⟩ (by omega) (.cons rfl (.cons rfl (.cons rfl (.cons (loI rfl (by first | omega | rfl | (simp <;> omega))) .nil))))
  · refine xt <| xT <| xK <| xB <| nT <| sq <| rg <| vl (as_ rfl) rfl <| nl <| nT <| rt <| tR (.tmp rfl .nil) <| ?_
    exact ⟨by have e := idx_none_d (p := (fun x => x.who == y.who)) (l := l) (fun i hi => hg i (by omega)); rw [e]; rfl, z_1⟩
set_option maxRecDepth 100000 in
set_option maxHeartbeats 400000 in
theorem has_by (b1 : Nat) (y : Blw) (A : Option Addr) (c : Nat) (l : List Blw) (w : World) (hl : Blw.rep.SHas 16 w A c l) (H1 : Blk w b1 [.int .i64 y.who, .int .i64 y.whom] 69 (0, 0)) :
    Calls Try.prog 36 #[.slice A l.length c, .func (.func 42) #[] #[.pointer (some ⟨b1, 0, none⟩)]] w (fun e w' => e = .returned (.bool (l.any (fun x => x.who == y.who))) ∧ Ext w w') := by
  refine calls_W (n := 9) Try.func36 rfl rfl rfl ?_
  refine sq <| rg <| vl (as_ rfl) rfl <| nl <| nT <| sq <| rg <| vl (mv rfl) rfl <| vl (mv rfl) rfl <| ca HitK_en_slices_IndexFunc_S_api_Blow_api_Blow_ rfl rfl ((idx_by b1 y _ _ l _ (hl.keep (Ext.rf w)) H1).mono ?_)
  rintro e w_1 ⟨rfl, x_2⟩
  refine ⟨_, rfl, ?_⟩
  have q_3 := x_2.size
  have z_1 := Ext.tr (Ext.rf w) x_2
  refine vl (bge rfl rfl) rfl <| vl (as_ rfl) rfl <| nl <| nT <| rt <| tR (.tmp rfl .nil) <| ?_
  exact ⟨by rw [idxI_any]; rfl, z_1⟩
set_option maxRecDepth 100000 in
set_option maxHeartbeats 400000 in
theorem at_same (b1 b2 : Nat) (o t : Trp) (x : Blw) (w : World) (H1 : Blk w b1 [.int .i64 o.id, .int .i64 o.owner, .int .i64 o.kind, .int .i64 o.spot.x, .int .i64 o.spot.y, .int .i64 o.life, .int .i64 o.load] 39 (0, 0)) (H2 : Blk w b2 [.int .i64 t.id, .int .i64 t.owner, .int .i64 t.kind, .int .i64 t.spot.x, .int .i64 t.spot.y, .int .i64 t.life, .int .i64 t.load] 39 (0, 0)) :
    Calls Try.prog 37 #[.agg #[.int .i64 x.who, .int .i64 x.whom], .pointer (some ⟨b1, 0, none⟩), .pointer (some ⟨b2, 0, none⟩)] w (fun e w' => e = .returned (.bool ((x.who == o.id) && (x.whom == t.id))) ∧ Ext w w') := by
  refine calls_W (n := 17) Try.func37 rfl rfl rfl ?_
  refine sq <| rg <| bx rfl rfl rfl rfl fun w_1 b_2 x_3 l_4 B_5 => ?_
  have q_6 := x_3.size
  have z_1 := Ext.tr (Ext.rf w) x_3
  have q_7 := B_5.lt
  refine vl (as_ rfl) rfl <| nl <| nT <| sq <| rg <| vl (fa HitK_fd_api_Blow_0 rfl) rfl <| vl (ld rfl (B_5.one HitK_ag_int rfl)) rfl <| vl (fa HitK_fd_api_Troop_0 rfl) rfl <| ?_
  have H1 := H1.later x_3
  refine vl (ld rfl (H1.one HitK_ag_int rfl)) rfl <| vl (beq rfl rfl) rfl <| vl (mv rfl) rfl <| vQ rfl rfl rfl rfl (fun hc => fa HitK_fd_api_Blow_1 rfl) rfl <| vQ rfl rfl rfl rfl (fun hc => ld (gt hc rfl) (B_5.one HitK_ag_int rfl)) rfl <| vQ rfl rfl rfl rfl (fun hc => fa HitK_fd_api_Troop_0 rfl) rfl <| ?_
  have H2 := H2.later x_3
  refine vQ rfl rfl rfl rfl (fun hc => ld (gt hc rfl) (H2.one HitK_ag_int rfl)) rfl <| vQ rfl rfl rfl rfl (fun hc => beq (gt hc rfl) (gt hc rfl)) rfl <| vl (pA rfl rfl rfl rfl) rfl <| vl (as_ rfl) rfl <| nl <| nT <| rt <| tR (.tmp rfl .nil) <| ?_
  exact ⟨rfl, z_1⟩
set_option maxRecDepth 100000 in
set_option maxHeartbeats 400000 in
theorem idx_at (b1 b2 : Nat) (o t : Trp) (A : Option Addr) (c : Nat) (l : List Blw) (w : World) (hl : Blw.rep.SHas 16 w A c l) (H1 : Blk w b1 [.int .i64 o.id, .int .i64 o.owner, .int .i64 o.kind, .int .i64 o.spot.x, .int .i64 o.spot.y, .int .i64 o.life, .int .i64 o.load] 39 (0, 0)) (H2 : Blk w b2 [.int .i64 t.id, .int .i64 t.owner, .int .i64 t.kind, .int .i64 t.spot.x, .int .i64 t.spot.y, .int .i64 t.life, .int .i64 t.load] 39 (0, 0)) :
    Calls Try.prog 58 #[.slice A l.length c, .func (.func 37) #[] #[.pointer (some ⟨b1, 0, none⟩), .pointer (some ⟨b2, 0, none⟩)]] w (fun e w' => e = .returned (.int .i64 (idxI (fun x => (x.who == o.id) && (x.whom == t.id)) l)) ∧ Ext w w') := by
  have hll := hl.len_le
  refine calls_W (n := 19) Try.func58 rfl rfl rfl ?_
  refine sq <| rg <| vl (as_ rfl) rfl <| nl <| nT <| sq <| sq <| rg <| vl (mv rfl) rfl <| vl (ln Try.underlying60 rfl) rfl <| vl (mv rfl) rfl <| nl <| nT <| bk <| ?_
  refine lp (fun mI EI wI => ∃ k : Nat, EI = [(0, .slice A l.length c), (1, .func (.func 37) #[] #[.pointer (some ⟨b1, 0, none⟩), .pointer (some ⟨b2, 0, none⟩)]), (7, .int .i64 (l.length : Int)), (8, .int .i64 (k : Int))] ∧ mI = l.length - k ∧ Ext w wI ∧ Blk wI b1 [.int .i64 o.id, .int .i64 o.owner, .int .i64 o.kind, .int .i64 o.spot.x, .int .i64 o.spot.y, .int .i64 o.life, .int .i64 o.load] 39 (0, 0) ∧ Blk wI b2 [.int .i64 t.id, .int .i64 t.owner, .int .i64 t.kind, .int .i64 t.spot.x, .int .i64 t.spot.y, .int .i64 t.life, .int .i64 t.load] 39 (0, 0) ∧ (k ≤ l.length) ∧ (∀ i, i < k → (fun x => (x.who == o.id) && (x.whom == t.id)) (l.getD i default) = false)) _ _ ⟨0, rfl, rfl, (Ext.rf w), H1, H2, by omega, fun i hi => by omega⟩ (.cons rfl (.cons rfl (.cons rfl (.cons (loI rfl (by first | omega | rfl | (simp <;> omega))) .nil)))) ?_
  rintro m_2 E_3 w_1 ⟨k, rfl, rfl, z_1, H1, H2, hk, hg⟩
  have q_4 := z_1.size
  have q_5 := H1.lt
  have q_6 := H2.lt
  refine sq <| rg <| vl (blt rfl rfl) rfl <| nl <| nT <| sq <| ?_
  refine clt rfl (fun h_7 => ?_) (fun h_7 => ?_)
  · refine sk <| nT <| sq <| bk <| sq <| rg <| vl (mv rfl) rfl <| vl (as_ rfl) rfl <| nl <| nT <| sq <| rg <| vl (mv rfl) rfl <| vl (mv rfl) rfl <| vl (mv rfl) rfl <| vl (iA k Try.underlying60 HitK_sz_api_Blow rfl rfl ((hl.keep z_1).adr (Nat.zero_lt_of_lt (show k < _ from (by omega)))) rfl (by omega)) rfl <| vl (ld rfl (Rep.SHas.elt hcW ((hl.keep z_1).adh (Nat.zero_lt_of_lt (show k < _ from (by omega)))) (get_d (l := l) (u := default) (by omega)) HitK_ag_api_Blow HitK_sz_api_Blow)) rfl <| cv HitK_en_mustkeep_HitFriends_1 rfl rfl rfl ((at_same b1 b2 o t (l.getD k default) _ H1 H2).mono ?_)
    rintro e w_8 ⟨rfl, x_9⟩
    refine ⟨_, rfl, ?_⟩
    have q_10 := x_9.size
    have z_8 := Ext.tr z_1 x_9
    refine nl <| nT <| ?_
    refine cb rfl (fun h_11 => ?_) (fun h_11 => ?_)
    · refine sq <| rg <| vl (mv rfl) rfl <| vl (as_ rfl) rfl <| nl <| nT <| rt <| tB <| tT <| tK <| tB <| tT <| tR (.tmp rfl .nil) <| ?_
      exact ⟨by have e := idx_some_d (p := (fun x => (x.who == o.id) && (x.whom == t.id))) (l := l) (k := k) (by omega) h_11 hg; rw [e]; rfl, z_8⟩
    · refine sk <| nB <| nT <| rg <| vl (bad rfl rfl (inI (by omega))) rfl <| vl (mv rfl) rfl <| nl <| ?_
      have H1 := H1.later x_9
      have H2 := H2.later x_9
      exact nI _ _ ⟨k + 1, rfl, rfl, z_8, H1, H2, by omega, lt_succ_all hg h_11⟩ (by omega) (.cons rfl (.cons rfl (.cons rfl (.cons (loI rfl (by first | omega | rfl | (simp <;> omega))) .nil))))
  · refine xt <| xT <| xK <| xB <| nT <| sq <| rg <| vl (as_ rfl) rfl <| nl <| nT <| rt <| tR (.tmp rfl .nil) <| ?_
    exact ⟨by have e := idx_none_d (p := (fun x => (x.who == o.id) && (x.whom == t.id))) (l := l) (fun i hi => hg i (by omega)); rw [e]; rfl, z_1⟩
set_option maxRecDepth 100000 in
set_option maxHeartbeats 400000 in
theorem has_at (b1 b2 : Nat) (o t : Trp) (A : Option Addr) (c : Nat) (l : List Blw) (w : World) (hl : Blw.rep.SHas 16 w A c l) (H1 : Blk w b1 [.int .i64 o.id, .int .i64 o.owner, .int .i64 o.kind, .int .i64 o.spot.x, .int .i64 o.spot.y, .int .i64 o.life, .int .i64 o.load] 39 (0, 0)) (H2 : Blk w b2 [.int .i64 t.id, .int .i64 t.owner, .int .i64 t.kind, .int .i64 t.spot.x, .int .i64 t.spot.y, .int .i64 t.life, .int .i64 t.load] 39 (0, 0)) :
    Calls Try.prog 36 #[.slice A l.length c, .func (.func 37) #[] #[.pointer (some ⟨b1, 0, none⟩), .pointer (some ⟨b2, 0, none⟩)]] w (fun e w' => e = .returned (.bool (l.any (fun x => (x.who == o.id) && (x.whom == t.id)))) ∧ Ext w w') := by
  refine calls_W (n := 9) Try.func36 rfl rfl rfl ?_
  refine sq <| rg <| vl (as_ rfl) rfl <| nl <| nT <| sq <| rg <| vl (mv rfl) rfl <| vl (mv rfl) rfl <| ca HitK_en_slices_IndexFunc_S_api_Blow_api_Blow_ rfl rfl ((idx_at b1 b2 o t _ _ l _ (hl.keep (Ext.rf w)) H1 H2).mono ?_)
  rintro e w_1 ⟨rfl, x_2⟩
  refine ⟨_, rfl, ?_⟩
  have q_3 := x_2.size
  have z_1 := Ext.tr (Ext.rf w) x_2
  refine vl (bge rfl rfl) rfl <| vl (as_ rfl) rfl <| nl <| nT <| rt <| tR (.tmp rfl .nil) <| ?_
  exact ⟨by rw [idxI_any]; rfl, z_1⟩
set_option maxRecDepth 100000 in
set_option maxHeartbeats 400000 in
theorem index_I (x : Int) (A : Option Addr) (c : Nat) (l : List Int) (w : World) (hl : repI.SHas 8 w A c l) :
    Calls Try.prog 61 #[.slice A l.length c, .int .i64 x] w (fun e w' => e = .returned (.int .i64 (idxI (fun y => x == y) l)) ∧ Ext w w') := by
  have hll := hl.len_le
  refine calls_W (n := 19) Try.func61 rfl rfl rfl ?_
  refine sq <| rg <| vl (as_ rfl) rfl <| nl <| nT <| sq <| sq <| rg <| vl (mv rfl) rfl <| vl (ln Try.underlying22 rfl) rfl <| vl (mv rfl) rfl <| nl <| nT <| bk <| ?_
  refine lp (fun mI EI wI => ∃ k : Nat, EI = [(0, .slice A l.length c), (1, .int .i64 x), (7, .int .i64 (l.length : Int)), (8, .int .i64 (k : Int))] ∧ mI = l.length - k ∧ Ext w wI ∧ (k ≤ l.length) ∧ (∀ i, i < k → ((fun y => x == y)) (l.getD i 0) = false)) _ _ ⟨0, rfl, rfl, (Ext.rf w), by omega, fun i hi => by omega⟩ (.cons rfl (.cons rfl (.cons rfl (.cons (loI rfl (by first | omega | rfl | (simp <;> omega))) .nil)))) ?_
  rintro m_2 E_3 w_1 ⟨k, rfl, rfl, z_1, hk, hg⟩
  have q_4 := z_1.size
  refine sq <| rg <| vl (blt rfl rfl) rfl <| nl <| nT <| sq <| ?_
  refine clt rfl (fun h_5 => ?_) (fun h_5 => ?_)
  · refine sk <| nT <| sq <| bk <| sq <| rg <| vl (mv rfl) rfl <| vl (as_ rfl) rfl <| nl <| nT <| sq <| rg <| vl (mv rfl) rfl <| vl (mv rfl) rfl <| vl (mv rfl) rfl <| vl (iA k Try.underlying22 HitK_sz_int rfl rfl ((hl.keep z_1).adr (Nat.zero_lt_of_lt (show k < _ from (by omega)))) rfl (by omega)) rfl <| vl (ld rfl (Rep.SHas.one' hcI ((hl.keep z_1).adh (Nat.zero_lt_of_lt (show k < _ from (by omega)))) (get_d (l := l) (u := 0) (by omega)) rfl HitK_ag_int)) rfl <| vl (beq rfl rfl) rfl <| nl <| nT <| ?_
    refine ceq rfl (fun h_6 => ?_) (fun h_6 => ?_)
    · refine sq <| rg <| vl (mv rfl) rfl <| vl (as_ rfl) rfl <| nl <| nT <| rt <| tB <| tT <| tK <| tB <| tT <| tR (.tmp rfl .nil) <| ?_
      exact ⟨by have e := idx_some_d (p := (fun y => x == y)) (l := l) (k := k) (by omega) (by simpa using h_6) hg; rw [e]; rfl, z_1⟩
    · refine sk <| nB <| nT <| rg <| vl (bad rfl rfl (inI (by omega))) rfl <| vl (mv rfl) rfl <| nl <| ?_
      exact nI _ _ ⟨k + 1, rfl, rfl, z_1, by omega, lt_succ_all hg (by simpa using h_6)⟩ (by omega) (.cons rfl (.cons rfl (.cons rfl (.cons (loI rfl (by first | omega | rfl | (simp <;> omega))) .nil))))
  · refine xt <| xT <| xK <| xB <| nT <| sq <| rg <| vl (as_ rfl) rfl <| nl <| nT <| rt <| tR (.tmp rfl .nil) <| ?_
    exact ⟨by have e := idx_none_d (p := (fun y => x == y)) (l := l) (fun i hi => hg i (by omega)); rw [e]; rfl, z_1⟩
set_option maxRecDepth 100000 in
set_option maxHeartbeats 400000 in
theorem contains_I (x : Int) (A : Option Addr) (c : Nat) (l : List Int) (w : World) (hl : repI.SHas 8 w A c l) :
    Calls Try.prog 45 #[.slice A l.length c, .int .i64 x] w (fun e w' => e = .returned (.bool (l.any (fun y => x == y))) ∧ Ext w w') := by
  refine calls_W (n := 9) Try.func45 rfl rfl rfl ?_
  refine sq <| rg <| vl (as_ rfl) rfl <| nl <| nT <| sq <| rg <| vl (mv rfl) rfl <| vl (mv rfl) rfl <| ca HitK_en_slices_Index_S_int_int_ rfl rfl ((index_I x _ _ l _ (hl.keep (Ext.rf w))).mono ?_)
  rintro e w_1 ⟨rfl, x_2⟩
  refine ⟨_, rfl, ?_⟩
  have q_3 := x_2.size
  have z_1 := Ext.tr (Ext.rf w) x_2
  refine vl (bge rfl rfl) rfl <| vl (as_ rfl) rfl <| nl <| nT <| rt <| tR (.tmp rfl .nil) <| ?_
  exact ⟨by rw [idxI_any]; rfl, z_1⟩
end Go.Proofs.Yticfnngppcmidaa
