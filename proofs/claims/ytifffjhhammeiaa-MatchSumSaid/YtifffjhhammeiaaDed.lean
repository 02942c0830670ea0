import Derived.Test.YtifffjhhammeiaaFcs
import Derived.Test.YtifffjhhammeiaaLaS
import Derived.Test.YtifffjhhammeiaaGolC
import Derived.Test.YtifffjhhammeiaaBas
import Derived.Handy
import Derived.Test.YtifffjhhammeiaaProg
set_option linter.unusedVariables false
set_option linter.unusedSimpArgs false
set_option maxRecDepth 100000
set_option maxHeartbeats 4000000
namespace Go.Proofs.Ytifffjhhammeiaa
section
open Go.RowKit
theorem MtR_el_S_api_Pair : ElT Try.prog Pr.rep 28 31 16 := ElT.mk_ (z := Pr.zero) (k := 2) Try.underlying28 Pr.info rfl rfl (by decide) Pr.zero_raw
open Go.Proofs.Ytifffjhhammeiaa.Mt
theorem info_prs : (Try.prog.info? 28).map (λ i => (i.zero, i.size, i.bytes)) = some (some (.slice none 0 0), 1, 24) := by kernel_rfl
theorem meet_any (n r a b bn bo br ba cO k Z Y : Nat) (x y : Int) (A : Option Addr) (T : List SV) (l : List Pr) (w : World) (hx : x = a) (hy : y = b) (ha : a ≤ 100) (hb : b ≤ 100) (hn : n ≤ 100) (hl : l.length ≤ 100) (Bn : Blk w bn [.int .i64 (n : Int)] 3 (0, 0)) (Bo : Blk w bo [.slice (some ⟨ba, 0, none⟩) T.length cO] 22 (0, 0)) (Br : Blk w br [.int .i64 (r : Int)] 3 (0, 0)) (HT : svRep.SOwn 28 24 w Z (Rep.blkOf (some ⟨ba, 0, none⟩)) (some ⟨ba, 0, none⟩) cO T) (HL : Pr.rep.SOwn 31 16 w Y (Rep.blkOf A) A k l) (hr : r < T.length) (hT : T[r]? = some ⟨A, l.length, k⟩) (h1 : bn < ba) (h2 : ba < bo) (h3 : bo < br) (h4 : br < Y) (hY : Y ≤ w.heap.size) :
  Calls Try.prog 36 #[.int .i64 x, .int .i64 y, .pointer (some ⟨bn, 0, none⟩), .pointer (some ⟨bo, 0, none⟩), .pointer (some ⟨br, 0, none⟩)] w (λ e w' => ∃ A' k' l', e = .returned (.tuple #[]) ∧ (l' : List Pr) = app n (ord (a, b)) l ∧ svRep.SOwn 28 24 w' Z (Rep.blkOf (some ⟨ba, 0, none⟩)) (some ⟨ba, 0, none⟩) cO (T.set r ⟨A', l'.length, k'⟩) ∧ Pr.rep.SOwn 31 16 w' Y (Rep.blkOf A') A' k' l' ∧ (∀ q ∈ Rep.blkOf A', q ∈ Rep.blkOf A ∨ w.heap.size ≤ q) ∧ Mod (Rep.blkOf (some ⟨ba, 0, none⟩) ++ Rep.blkOf A) w w') := by
 have uT := λ q hq => (HT.lt q hq).2
 have loT : ∀ q ∈ Rep.blkOf (some ⟨ba, 0, none⟩), ba ≤ q := λ q hq => Nat.le_of_eq (List.mem_singleton.1 hq).symm
 have eT_ : ∀ q ∈ Rep.blkOf (some ⟨ba, 0, none⟩), q = ba := λ q hq => List.mem_singleton.1 hq
 have uL := λ q hq => (HL.lt q hq).2
 have loL := λ q hq => (HL.lt q hq).1
 refine calls_W (n := 28) Try.func36 rfl rfl rfl ?_
 refine sg <| vm rfl <| vm rfl <| vL (mn rfl rfl) <| vm rfl <| vm rfl <| vL (mx rfl rfl) <| va rfl <| va rfl <| nK <| sg <| vm rfl <| vL (ld rfl (Bn.one eF7 rfl)) <| vL (blt rfl rfl) <| nK <| ?_
 refine clt rfl (λ h_1 => ?_) (λ h_1 => ?_)
 ·have hmx :  max x y < (n : Int) := by omega
  refine rdW (Rep.blkOf A) [(0, 0), (1, 0), (2, 0), (3, 0), (5, 0), (9, 2), (10, 2), (12, 3)] [0, 1, 2, 3, 4, 5, 6, 7, 8, 9, 10, 11, 12] (by kernel_rfl) (by kernel_rfl) ?_
  have d_2 : ∀ q ∈ Rep.blkOf A, q = bo → False := λ q hq hb => by (have := loL q hq; omega)
  refine fqW rfl rfl (λ _ x => ld rfl ((Bo.mod x (λ hq => d_2 _ hq rfl)).one eF14 rfl)) rfl <| ?_
  have d_3 : ∀ q ∈ Rep.blkOf A, q = br → False := λ q hq hb => by (have := loL q hq; omega)
  refine fqW rfl rfl (λ _ x => ld rfl ((Br.mod x (λ hq => d_3 _ hq rfl)).one eF7 rfl)) rfl <| fqW rfl rfl (λ _ x => ld rfl ((Bo.mod x (λ hq => d_2 _ hq rfl)).one eF14 rfl)) rfl <| fqW rfl rfl (λ _ x => ld rfl ((Br.mod x (λ hq => d_3 _ hq rfl)).one eF7 rfl)) rfl <| fwW rfl rfl (λ _ => iA r Try.underlying22 eF15 rfl rfl (HT.has.adr (zl r (by omega))) rfl (by omega)) rfl <| fqW (v := .slice A l.length k) rfl rfl (λ _ x => ld rfl (Rep.SHas.one' hcV ((HT.mod x (λ q hq h => by exfalso; (have := loL q h; (have := eT_ q hq; omega)))).has.adh (zl r (by omega))) hT rfl eF16)) rfl <| fwW rfl rfl (λ _ => mv rfl) rfl <| fwW rfl rfl (λ _ => mv rfl) rfl <| fwW (v := .agg #[.int .i64 (min x y), .int .i64 (max x y)]) rfl rfl (λ _ => bd rfl (by kernel_rfl)) rfl <| fxW rfl rfl rfl λ w_4 x_5 Q hK => bs (e := 31) (cs := [.int .i64 (min x y), .int .i64 (max x y)]) rfl (λ _ => by kernel_rfl) rfl λ w_6 b_7 x_8 l_9 B_10 => hK _ _ ⟨Mod.of_ext (eT x_5 x_8), ?_⟩
  have := x_5.size
  have z_4 := (Mod.rf (Rep.blkOf (some ⟨ba, 0, none⟩) ++ Rep.blkOf A) w).trans (Mod.of_ext x_5)
  have := x_8.size
  have z_6 := z_4.trans (Mod.of_ext x_8)
  have q_13 := B_10.lt
  have HL := HL.later (eT x_5 x_8)
  refine fxW rfl rfl rfl λ w_14 x_15 Q hK => ap MtR_el_S_api_Pair Rep.flat_bare (HL.later x_15) ((Blk.has1 (R := Pr.rep) (by_ := 16) (q := (⟨min x y, max x y⟩ : Pr)) B_10 ⟨rfl, ⟨okI_iff.2 (by dsimp only; omega), okI_iff.2 (by dsimp only; omega)⟩⟩ (by decide)).keep x_15) rfl rfl (by simp only [List.length_cons, List.length_nil]; omega) (by simp only [List.length_cons, List.length_nil]; omega) (by have := x_15.size; omega) rfl λ w_16 A_17 c_18 m_19 O_20 g_21 n_22 => hK _ _ ⟨(Mod.of_ext x_15).trans m_19, ?_⟩
  have := x_15.size
  have z_14 := z_6.trans (Mod.of_ext x_15)
  have := m_19.size
  have z_16 := z_14.md m_19 (λ q hq => .inl (List.mem_append.2 (.inr hq)))
  have u_25 := λ q hq => (O_20.lt q hq).2
  have := m_19.size
  have HT := HT.later (eT x_5 (eT x_8 x_15))
  have HT := HT.mod m_19 (λ q hq h => by exfalso; (have := loL q h; (have := eT_ q hq; omega)))
  refine fwW rfl rfl (λ _ => iA r Try.underlying22 eF15 rfl rfl (HT.has.adr (zl r (by omega))) rfl (by omega)) rfl <| fbW rfl rfl rfl λ w_27 x_28 Q hK => so (q' := (⟨A_17, (l ++ [(⟨min x y, max x y⟩ : Pr)]).length, c_18⟩ : SV)) (j := 0) (i := r) (HT.later x_28) Rep.flat_bare hT rfl rfl rfl rfl (λ _ cs h => by have ok_ := (show _ ∧ _ from h).2; obtain rfl := hcV h; exact ⟨rfl, trivial⟩) rfl rfl eF15 λ w_29 m_30 O_31 => hK _ _ ?_
  have := x_28.size
  have z_27 := z_16.trans (Mod.of_ext x_28)
  have := m_30.size
  have z_29 := z_27.md m_30 (λ q hq => .inl (List.mem_append.2 (.inl hq)))
  have := m_30.size
  refine fnW λ w_35 x_36 => ?_
  have := x_36.size
  have z_35 := z_29.trans (Mod.of_ext x_36)
  refine ne <| tR .nil <| ?_
  have O_31 := O_31.later x_36
  have O_20 := O_20.later x_28
  have O_20 := O_20.mod m_30 (λ q hq h => by exfalso; (exact Or.elim (g_21 q hq) (λ k_38 => by (have := loL q k_38; (have := eT_ q h; omega))) (λ k_38 => by (have := eT_ q h; omega))))
  have O_20 := O_20.later x_36
  exact ⟨A_17, c_18, _, rfl, app_yes hx hy hmx, O_31, O_20, λ q hq => (g_21 q hq).imp id (λ h => by omega), z_35⟩
 ·have hmx : ¬ max x y < (n : Int) := by omega
  refine sk <| ne <| tR .nil <| ?_
  exact ⟨A, k, l, rfl, app_no hx hy hmx, by rw [set_same_ hT]; exact HT, HL, λ q hq => .inl hq, (Mod.rf (Rep.blkOf (some ⟨ba, 0, none⟩) ++ Rep.blkOf A) w)⟩
theorem rounds_bad (n : Int) (w : World) (hn : n < 2 ∨ 64 < n) :
  Calls Try.prog 12 #[.int .i64 n] w (λ e w' => ∃ e' A' c' T L ba X, e = .returned (.tuple #[.slice A' (T : List SV).length c', .int .i64 e']) ∧ RdR n e' T L ∧ svRep.SOwn 28 24 w' w.heap.size (Rep.blkOf A') A' c' T ∧ PT w' w.heap.size ba X T L ∧ Ext w w') := by
 have hkn : (decide (n < 2) || decide (64 < n)) = true := by simpa using hn
 refine calls_W (n := 63) Try.func12 rfl rfl rfl ?_
 refine sg <| bx rfl rfl rfl rfl λ w_1 b_2 x_3 l_4 B_5 => ?_
 have := x_3.size
 have z_1 := eT (Ext.rf w) x_3
 have q_7 := B_5.lt
 refine va rfl <| va rfl <| nK <| sq <| sg <| vL (ld rfl (B_5.one eF7 rfl)) <| vL (blt rfl rfl) <| vm rfl <| vQ rfl rfl rfl rfl (λ hc => ld rfl (B_5.one eF7 rfl)) rfl <| vQ rfl rfl rfl rfl (λ hc => bgt (gt hc rfl) rfl) rfl <| vL (pO rfl rfl rfl rfl) <| nK <| cT (evb rfl hkn) <| sg <| va rfl <| va rfl <| nK <| rt <| tT <| ?_
 refine tR (.tmp rfl (.tmp rfl .nil)) <| ?_
 exact ⟨1, none, 0, [], [], 0, 0, rfl, .inr ⟨rfl, hn, rfl, rfl⟩, Rep.SOwn.nil _, PT.nil _ _ _ _ (Nat.zero_le _), z_1⟩
theorem rounds_nat (N M K : Nat) (w : World) (hN : 2 ≤ N ∧ N ≤ 64) (hM : M + 1 = N + N % 2) (hK : 2 * K = M + 1) :
  Calls Try.prog 12 #[.int .i64 (N : Int)] w (λ e w' => ∃ e' A' c' T L ba X, e = .returned (.tuple #[.slice A' (T : List SV).length c', .int .i64 e']) ∧ RdR (N : Int) e' T L ∧ svRep.SOwn 28 24 w' w.heap.size (Rep.blkOf A') A' c' T ∧ PT w' w.heap.size ba X T L ∧ Ext w w') := by
 have hkn : (decide ((N : Int) < 2) || decide (64 < (N : Int))) = false := by simp; omega
 refine calls_W (n := 63) Try.func12 rfl rfl rfl ?_
 refine sg <| bx rfl rfl rfl rfl λ w_1 b_2 x_3 l_4 B_5 => ?_
 have := x_3.size
 have z_1 := eT (Ext.rf w) x_3
 have q_7 := B_5.lt
 refine va rfl <| va rfl <| nK <| sq <| sg <| vL (ld rfl (B_5.one eF7 rfl)) <| vL (blt rfl rfl) <| vm rfl <| vQ rfl rfl rfl rfl (λ hc => ld rfl (B_5.one eF7 rfl)) rfl <| vQ rfl rfl rfl rfl (λ hc => bgt (gt hc rfl) rfl) rfl <| vL (pO rfl rfl rfl rfl) <| nK <| cF (evb rfl hkn) <| sK <| sg <| vL (ld rfl (B_5.one eF7 rfl)) <| vL (ld rfl (B_5.one eF7 rfl)) <| vL (bre rfl rfl (by omega) (by omega)) <| vL (rE (congrArg (Value.int .i64) (show (N : Int) + (N : Int) % 2 = (M : Int) + 1 from by omega)) (bad rfl rfl (inI (by omega)))) <| ?_
 refine va rfl <| nK <| sg <| vm rfl <| vL (rE (congrArg (Value.int .i64) (show (M : Int) + 1 - 1 = (M : Int) from by omega)) (bsu rfl rfl (inI (by omega)))) <| mO (R := svRep) (by_ := 24) (B := w.heap.size) (c := M) (zv := (.slice none 0 0)) (q := default) Rep.flat_plain Try.underlying22 info_prs rfl rfl (λ j u h => raw0V j u h) (λ _ => ⟨rfl, trivial⟩) rfl rfl rfl (by omega) (by omega) (by omega) λ w_8 b_9 x_10 l_11 O_12 => ?_
 have := x_10.size
 have z_8 := eT z_1 x_10
 have u_14 := λ q hq => (O_12.lt q hq).2
 have lo_15 : ∀ q ∈ Rep.blkOf (some ⟨b_9, 0, none⟩), b_9 ≤ q := λ q hq => Nat.le_of_eq (List.mem_singleton.1 hq).symm
 refine al rfl eF17 rfl rfl λ w_16 b_17 x_18 l_19 B_20 => ?_
 have := x_18.size
 have z_16 := eT z_8 x_18
 have q_22 := B_20.lt
 refine st (new := [.slice (some ⟨b_9, 0, none⟩) M M]) rfl rfl B_20 rfl eF18 rfl rfl rfl λ w_23 m_24 B_20 => ?_
 have := m_24.size
 have z_23 := Ext.mod z_16 m_24 (ge1 (by omega))
 have := m_24.size
 refine nK <| sq <| sg <| vL (ld rfl (B_20.one eF14 rfl)) <| vL (ln Try.underlying22 rfl) <| vm rfl <| nK <| bk <| ?_
 have O_12 := O_12.later x_18
 have O_12 := O_12.mod m_24 (fk1 u_14 (by omega))
 have hba_ := u_14 b_9 (List.mem_singleton.2 rfl)
 have eba : ∀ q ∈ Rep.blkOf (some ⟨b_9, 0, none⟩), q = b_9 := λ q hq => List.mem_singleton.1 hq
 have B_5 := B_5.later (eT x_10 x_18)
 have B_5 := B_5.mod m_24 (nm1 (by omega))
 refine lp (λ mI EI wI => ∃ r : Nat, ∃ T1 : List SV, ∃ L : List (List Pr), ∃ X : Nat, EI = [(1, .pointer (some ⟨b_2, 0, none⟩)), (2, .slice none 0 0), (3, .int .i64 0), (4, .int .i64 ((M : Int) + 1)), (5, .pointer (some ⟨b_17, 0, none⟩)), (23, .int .i64 (M : Int)), (24, .int .i64 (r : Int))] ∧ mI = M - r ∧ Ext w wI ∧ Blk wI b_2 [.int .i64 (N : Int)] 3 (0, 0) ∧ Blk wI b_17 [.slice (some ⟨b_9, 0, none⟩) M M] 22 (0, 0) ∧ svRep.SOwn 28 24 wI w.heap.size (Rep.blkOf (some ⟨b_9, 0, none⟩)) (some ⟨b_9, 0, none⟩) M T1 ∧ PT wI w.heap.size b_9 X T1 L ∧ (r ≤ M) ∧ (T1.length = M) ∧ (∀ j, r ≤ j → j < M → T1[j]? = some ⟨none, 0, 0⟩) ∧ (L.length = r) ∧ (∀ (j : Nat) (l : List Pr), L[j]? = some l → l.Perm (rndK N M j K)) ∧ (∀ q ∈ Rep.blkOf (some ⟨b_9, 0, none⟩), q = b_2 → False) ∧ (∀ q ∈ Rep.blkOf (some ⟨b_9, 0, none⟩), q = b_17 → False)) _ _ ⟨0, List.replicate M default, ([] : List (List Pr)), 0, rfl, rfl, z_23, B_5, B_20, O_12, (PT.nil _ _ _ _ (by omega)), by omega, by simp, λ j _ h2 => by rw [List.getElem?_replicate, if_pos h2]; rfl, rfl, λ j l hj => by simp at hj, (λ q hq hb => by (have := lo_15 q hq; omega)), (λ q hq hb => by (have := u_14 q hq; omega))⟩ (.cons rfl (.cons rfl (.cons rfl (.cons rfl (.cons rfl (.cons rfl (.cons (loI rfl (by first | omega | rfl | (simp <;> omega))) .nil))))))) ?_
 rintro m_30 E_31 w_29 ⟨r, T1, L, X, rfl, rfl, z_29, B_5, B_20, HT1, HP, hr, hTl, hTd, hLL, hLp, d_27, d_28⟩
 have := z_29.size
 have q_33 := B_5.lt
 have q_34 := B_20.lt
 have u_35 := λ q hq => (HT1.lt q hq).2
 have hXle := HP.le
 refine sg <| vL (blt rfl rfl) <| nK <| sq <| ?_
 refine clt rfl (λ h_36 => ?_) (λ h_36 => ?_)
 ·have hrM : r < M := by omega
  refine sK <| sq <| bk <| sg <| vm rfl <| al rfl eF19 rfl rfl λ w_37 b_38 x_39 l_40 B_41 => ?_
  have := x_39.size
  have z_37 := eT z_29 x_39
  have q_43 := B_41.lt
  refine st (new := [.int .i64 (r : Int)]) rfl rfl B_41 rfl eF2 rfl rfl rfl λ w_44 m_45 B_41 => ?_
  have := m_45.size
  have z_44 := Ext.mod z_37 m_45 (ge1 (by omega))
  have := m_45.size
  refine nK <| sg <| vL (mf rfl rfl) <| va rfl <| nK <| sg <| vm rfl <| vm rfl <| vL (rE (congrArg (Value.int .i64) (show (M : Int) + 1 - 1 = (M : Int) from by omega)) (bsu rfl rfl (inI (by omega)))) <| vL (ld rfl (B_41.one eF7 rfl)) <| ?_
  obtain ⟨Y, hY⟩ : ∃ Y, Y = w_44.heap.size := ⟨_, rfl⟩
  have HL0 : Pr.rep.SOwn 31 16 w_44 Y (Rep.blkOf none) none 0 ([] : List Pr) := Rep.SOwn.nil _
  have HP := HP.later x_39
  have HP := HP.mod m_45 (λ q hq => .inr (by have := List.mem_singleton.1 hq; omega))
  have hXY : X ≤ Y := by rw [hY]; exact HP.le
  have hYw : w.heap.size ≤ Y := by rw [hY]; exact (z_44).size
  have HZ : SzG Y w_44 := Nat.le_of_eq hY
  have hLl : ([] : List Pr).length ≤ 0 := Nat.le_refl _
  have B_5 := B_5.later x_39
  have B_5 := B_5.mod m_45 (nm1 (by omega))
  have B_20 := B_20.later x_39
  have B_20 := B_20.mod m_45 (nm1 (by omega))
  have HT1 := HT1.later x_39
  have HT1 := HT1.mod m_45 (λ q hq h => by have hb := List.mem_singleton.1 h; exfalso; (have := eba q hq; omega))
  refine cv eF20 rfl rfl rfl ((meet_any N r M r b_2 b_17 b_38 b_9 M 0 w.heap.size Y _ _ none T1 ([] : List Pr) _ rfl rfl (by omega) (by omega) (by omega) (by simp) B_5 (by rw [hTl]; exact B_20) B_41 HT1 HL0 (by rw [hTl]; exact hrM) (hTd r (Nat.le_refl _) hrM) (by omega) (by omega) (by omega) (by omega) (by have h_ : Y ≤ _ := HZ; omega)).mono ?_)
  rintro e w_50 ⟨A48, k48, l48, rfl, hl48, HT48, HL48, hg48, m_49⟩
  refine ⟨_, rfl, ?_⟩
  have := m_49.size
  have z_50 := Ext.mod z_44 m_49 (λ q hq => (List.mem_append.1 hq).elim (λ h => by have := eba _ h; omega) (λ h => Nat.le_trans (by omega) (HL0.lt q h).1))
  obtain ⟨T48, hT48⟩ : ∃ T_, T1.set r ⟨A48, l48.length, k48⟩ = T_ := ⟨_, rfl⟩
  rw [hT48] at HT48
  have hlT48_ : T48.length = M := by rw [← hT48, List.length_set]; exact hTl
  have hrT48_ : T48[r]? = some ⟨A48, l48.length, k48⟩ := by rw [← hT48]; exact List.getElem?_set_self (by rw [hTl]; exact hrM)
  have hoT48_ : ∀ j, j ≠ r → T48[j]? = T1[j]? := λ j hj => by rw [← hT48, List.getElem?_set_ne (λ e => hj e.symm)]
  have hk48 : l48 = rndK N M r 1 := hl48
  have uL48 := λ q hq => (HL48.lt q hq).2
  have loL48 : ∀ q ∈ Rep.blkOf A48, Y ≤ q := λ q hq => (HL48.lt q hq).1
  have q48_ := m_49.size
  refine nK <| sq <| sg <| va rfl <| nK <| bk <| ?_
  have B_5 := B_5.mod m_49 (λ hq => (List.mem_append.1 hq).elim (λ h => by have := eba _ h; omega) (λ h => by have := (HL0.lt _ h).1; omega))
  have B_20 := B_20.mod m_49 (λ hq => (List.mem_append.1 hq).elim (λ h => by have := eba _ h; omega) (λ h => by have := (HL0.lt _ h).1; omega))
  have HP := HP.mod m_49 (λ q hq => (List.mem_append.1 hq).elim (λ h => .inl (eba _ h)) (λ h => .inr (by have := (HL0.lt _ h).1; omega)))
  have B_41 := B_41.mod m_49 (λ hq => (List.mem_append.1 hq).elim (λ h => by have := eba _ h; omega) (λ h => by have := (HL0.lt _ h).1; omega))
  have HZ := HZ.mod m_49 trivial
  refine lp (λ mI EI wI => ∃ k : Nat, ∃ T2 : List SV, ∃ A2 : Option Addr, ∃ c2 : Nat, ∃ l : List Pr, EI = [(1, .pointer (some ⟨b_2, 0, none⟩)), (2, .slice none 0 0), (3, .int .i64 0), (4, .int .i64 ((M : Int) + 1)), (5, .pointer (some ⟨b_17, 0, none⟩)), (6, .pointer (some ⟨b_38, 0, none⟩)), (7, .func (.func 36) #[] #[.pointer (some ⟨b_2, 0, none⟩), .pointer (some ⟨b_17, 0, none⟩), .pointer (some ⟨b_38, 0, none⟩)]), (8, .int .i64 (k : Int)), (23, .int .i64 (M : Int)), (24, .int .i64 (r : Int)), (25, .bool (decide ((r : Int) < (M : Int)))), (26, .int .i64 (r : Int)), (27, .func (.func 36) #[] #[.pointer (some ⟨b_2, 0, none⟩), .pointer (some ⟨b_17, 0, none⟩), .pointer (some ⟨b_38, 0, none⟩)]), (28, .func (.func 36) #[] #[.pointer (some ⟨b_2, 0, none⟩), .pointer (some ⟨b_17, 0, none⟩), .pointer (some ⟨b_38, 0, none⟩)]), (29, .int .i64 ((M : Int) + 1)), (30, .int .i64 (M : Int)), (31, .int .i64 (r : Int))] ∧ mI = K - k ∧ Ext w wI ∧ Blk wI b_2 [.int .i64 (N : Int)] 3 (0, 0) ∧ Blk wI b_17 [.slice (some ⟨b_9, 0, none⟩) M M] 22 (0, 0) ∧ PT wI w.heap.size b_9 X T1 L ∧ Blk wI b_38 [.int .i64 (r : Int)] 3 (0, 0) ∧ SzG Y wI ∧ svRep.SOwn 28 24 wI w.heap.size (Rep.blkOf (some ⟨b_9, 0, none⟩)) (some ⟨b_9, 0, none⟩) M T2 ∧ Pr.rep.SOwn 31 16 wI Y (Rep.blkOf A2) A2 c2 l ∧ (1 ≤ k ∧ k ≤ K) ∧ (T2.length = M) ∧ (T2[r]? = some ⟨A2, l.length, c2⟩) ∧ (∀ j, j ≠ r → T2[j]? = T1[j]?) ∧ (l = rndK N M r k) ∧ (∀ q ∈ Rep.blkOf (some ⟨b_9, 0, none⟩), q = b_2 → False) ∧ (∀ q ∈ Rep.blkOf (some ⟨b_9, 0, none⟩), q = b_17 → False) ∧ (∀ q ∈ Rep.blkOf (some ⟨b_9, 0, none⟩), q = b_38 → False) ∧ (∀ q ∈ Rep.blkOf A2, q = b_2 → False) ∧ (∀ q ∈ Rep.blkOf A2, q = b_17 → False) ∧ (∀ q ∈ Rep.blkOf A2, q = b_38 → False) ∧ (∀ q ∈ Rep.blkOf A2, q ∈ Rep.blkOf (some ⟨b_9, 0, none⟩) → False)) _ _ ⟨1, T48, A48, k48, l48, rfl, rfl, z_50, B_5, B_20, HP, B_41, HZ, HT48, HL48, by omega, hlT48_, hrT48_, hoT48_, hk48, (λ q hq hb => by (exact d_27 q hq hb)), (λ q hq hb => by (exact d_28 q hq hb)), (λ q hq hb => by (have := eba q hq; omega)), (λ q hq hb => by (have := loL48 q hq; omega)), (λ q hq hb => by (have := loL48 q hq; omega)), (λ q hq hb => by (have := loL48 q hq; omega)), (λ q hq hb => by (have := loL48 q hq; (have := eba q hb; omega)))⟩ (.cons rfl (.cons rfl (.cons rfl (.cons rfl (.cons rfl (.cons rfl (.cons rfl (.cons (loI rfl (by first | omega | rfl | (simp <;> omega))) (sba rfl))))))))) ?_
  rintro m_60 E_61 w_59 ⟨k, T2, A2, c2, l, rfl, rfl, z_59, B_5, B_20, HP, B_41, HZ, HT2, HL2, hk, hTl2, hTr2, hTo2, hlk, d_52, d_53, d_54, d_55, d_56, d_57, d_58⟩
  have := z_59.size
  have q_63 := B_5.lt
  have q_64 := B_20.lt
  have q_65 := B_41.lt
  have u_66 := λ q hq => (HT2.lt q hq).2
  have u_67 := λ q hq => (HL2.lt q hq).2
  refine sq <| sg <| vm rfl <| vm rfl <| vL (rE (congrArg (Value.int .i64) (show ((M : Int) + 1) / 2 = (K : Int) from by omega)) (bqu rfl rfl (by omega) (by omega) (quI (by omega) (by omega) (by omega)))) <| vL (blt rfl rfl) <| nK <| ?_
  refine clt rfl (λ h_68 => ?_) (λ h_68 => ?_)
  ·have hkl : k < K := by omega
   refine sK <| sq <| bk <| ?_
   refine rd [(1, 0), (7, 0), (16, 3)] [0, 1, 2, 3, 4, 5, 6, 7, 8, 9, 10, 11, 12, 13, 14, 15, 16] (by kernel_rfl) (by kernel_rfl) ?_
   refine fw1 rfl (λ _ => mv rfl) <| fq1 rfl (λ _ x => ld rfl ((B_41.later x).one eF7 rfl)) <| fw1 rfl (λ _ => mv rfl) <| fw1 rfl (λ _ => bad rfl rfl (inI (by omega))) <| fw1 rfl (λ _ => mv rfl) <| fw1 rfl (λ _ => rE (congrArg (Value.int .i64) (show (M : Int) + 1 - 1 = (M : Int) from by omega)) (bsu rfl rfl (inI (by omega)))) <| fw1 rfl (λ _ => bre rfl rfl (by omega) (by omega)) <| fq1 rfl (λ _ x => ld rfl ((B_41.later x).one eF7 rfl)) <| fw1 rfl (λ _ => mv rfl) <| fw1 rfl (λ _ => bad rfl rfl (inI (by omega))) <| fw1 rfl (λ _ => bsu rfl rfl (inI (by omega))) <| fw1 rfl (λ _ => mv rfl) <| fw1 rfl (λ _ => bsu rfl rfl (inI (by omega))) <| fw1 rfl (λ _ => mv rfl) <| fw1 rfl (λ _ => rE (congrArg (Value.int .i64) (show (M : Int) + 1 - 1 = (M : Int) from by omega)) (bsu rfl rfl (inI (by omega)))) <| fw1 rfl (λ _ => bre rfl rfl (by omega) (by omega)) <| fb rfl rfl rfl λ w_69 x_70 Q hK => cv eF20 rfl rfl rfl ((meet_any N r ((r + k) % M) ((r + M - k) % M) b_2 b_17 b_38 b_9 M c2 w.heap.size Y _ _ A2 T2 l _ (modE (by omega)) (modE (by omega)) (Nat.le_of_lt (Nat.lt_of_lt_of_le (Nat.mod_lt _ (by omega)) (by omega))) (Nat.le_of_lt (Nat.lt_of_lt_of_le (Nat.mod_lt _ (by omega)) (by omega))) (by omega) (by first | omega | (rw [hlk]; have := rnd_len (n := N) (M := M) (r := r) k; omega)) (B_5.later x_70) (by rw [hTl2]; exact (B_20.later x_70)) (B_41.later x_70) (HT2.later x_70) (HL2.later x_70) (by rw [hTl2]; exact hrM) hTr2 (by omega) (by omega) (by omega) (by omega) (by have h_ : Y ≤ _ := HZ; have h2_ := x_70.size; omega)).mono ?_)
   rintro e w_73 ⟨A71, k71, l71, rfl, hl71, HT71, HL71, hg71, m_72⟩
   refine ⟨_, rfl, hK _ _ ?_⟩
   have := x_70.size
   have z_69 := eT z_59 x_70
   have := m_72.size
   have z_73 := Ext.mod z_69 m_72 (λ q hq => (List.mem_append.1 hq).elim (λ h => by have := eba _ h; omega) (λ h => Nat.le_trans (by omega) (HL2.lt q h).1))
   obtain ⟨T71, hT71⟩ : ∃ T_, T2.set r ⟨A71, l71.length, k71⟩ = T_ := ⟨_, rfl⟩
   rw [hT71] at HT71
   have hlT71_ : T71.length = M := by rw [← hT71, List.length_set]; exact hTl2
   have hrT71_ : T71[r]? = some ⟨A71, l71.length, k71⟩ := by rw [← hT71]; exact List.getElem?_set_self (by rw [hTl2]; exact hrM)
   have hoT71_ : ∀ j, j ≠ r → T71[j]? = T1[j]? := λ j hj => by rw [← hT71, List.getElem?_set_ne (λ e => hj e.symm)]; exact hTo2 j hj
   have hk71 : l71 = rndK N M r (k + 1) := by rw [hl71, hlk, rndK, meetP, rawP, if_neg (by omega)]
   have uL71 := λ q hq => (HL71.lt q hq).2
   have loL71 : ∀ q ∈ Rep.blkOf A71, Y ≤ q := λ q hq => (HL71.lt q hq).1
   have q71_ := m_72.size
   refine fn λ w_76 x_77 => ?_
   have := x_77.size
   have z_76 := eT z_73 x_77
   refine nB <| nT <| rg <| vm rfl <| vL (bad rfl rfl (inI (by omega))) <| va rfl <| nl <| ?_
   have B_5 := B_5.later x_70
   have B_5 := B_5.mod m_72 (λ hq => (List.mem_append.1 hq).elim (λ h => by have := eba _ h; omega) (λ h => by have := (HL2.lt _ h).1; omega))
   have B_5 := B_5.later x_77
   have B_20 := B_20.later x_70
   have B_20 := B_20.mod m_72 (λ hq => (List.mem_append.1 hq).elim (λ h => by have := eba _ h; omega) (λ h => by have := (HL2.lt _ h).1; omega))
   have B_20 := B_20.later x_77
   have HP := HP.later x_70
   have HP := HP.mod m_72 (λ q hq => (List.mem_append.1 hq).elim (λ h => .inl (eba _ h)) (λ h => .inr (by have := (HL2.lt _ h).1; omega)))
   have HP := HP.later x_77
   have B_41 := B_41.later x_70
   have B_41 := B_41.mod m_72 (λ hq => (List.mem_append.1 hq).elim (λ h => by have := eba _ h; omega) (λ h => by have := (HL2.lt _ h).1; omega))
   have B_41 := B_41.later x_77
   have HZ := HZ.later x_70
   have HZ := HZ.mod m_72 trivial
   have HZ := HZ.later x_77
   have HT71 := HT71.later x_77
   have HL71 := HL71.later x_77
   exact nI _ _ ⟨k + 1, T71, A71, k71, l71, rfl, rfl, z_76, B_5, B_20, HP, B_41, HZ, HT71, HL71, by omega, hlT71_, hrT71_, hoT71_, hk71, (λ q hq hb => by (exact d_52 q hq hb)), (λ q hq hb => by (exact d_53 q hq hb)), (λ q hq hb => by (exact d_54 q hq hb)), (λ q hq hb => by (have := loL71 q hq; omega)), (λ q hq hb => by (have := loL71 q hq; omega)), (λ q hq hb => by (have := loL71 q hq; omega)), (λ q hq hb => by (have := loL71 q hq; (have := eba q hb; omega)))⟩ (by omega) (.cons rfl (.cons rfl (.cons rfl (.cons rfl (.cons rfl (.cons rfl (.cons rfl (.cons (loI rfl (by first | omega | rfl | (simp <;> omega))) (sba rfl)))))))))
  ·have hkK : k = K := by omega
   refine xt <| xT <| xK <| xB <| nT <| rg <| vL (ld rfl (B_20.one eF14 rfl)) <| vL (ld rfl (B_41.one eF7 rfl)) <| vL (iA r Try.underlying22 eF15 rfl rfl (HT2.has.adr (zl r (by first | exact hrM | (rw [hTl2]; exact hrM)))) rfl (by first | exact hrM | (rw [hTl2]; exact hrM))) <| vL (v := .slice A2 l.length c2) (ld rfl (Rep.SHas.one' hcV (HT2.has.adh (zl r (by first | exact hrM | (rw [hTl2]; exact hrM)))) hTr2 rfl eF16)) <| ca eF21 rfl rfl ((sortP_any _ HL2 (by rw [hlk, hkK, rnd_full hM hK hN.1 hrM]; omega)).mono ?_)
   rintro e w_81 ⟨l79, rfl, hp79, HL79, m_80⟩
   refine ⟨_, rfl, ?_⟩
   have := m_80.size
   have z_81 := Ext.mod z_59 m_80 (λ q hq => Nat.le_trans (by omega) (HL2.lt q hq).1)
   have hll79 : l79.length = l.length := hp79.length_eq
   have q79_ := m_80.size
   refine nl <| nB <| nT <| rg <| vL (bad rfl rfl (inI (by omega))) <| vm rfl <| nl <| ?_
   have B_5 := B_5.mod m_80 (λ hq => by have := (HL2.lt _ hq).1; omega)
   have B_20 := B_20.mod m_80 (λ hq => by have := (HL2.lt _ hq).1; omega)
   have HT2 := HT2.mod m_80 (λ q hq h => by have := (HL2.lt _ h).1; have := eba _ hq; omega)
   have HP := HP.mod m_80 (λ q hq => .inr (by have := (HL2.lt q hq).1; omega))
   exact nI _ _ ⟨r + 1, T2, L ++ [l79], w_81.heap.size, rfl, rfl, z_81, B_5, B_20, HT2, (PT.snoc (l := l79) HP (by rw [hLL]; exact hTo2) (by rw [hLL, hll79]; exact hTr2) (HL79.down (by omega)) (λ q hq => ⟨by have := (HL79.lt q hq).1; omega, (HL79.lt q hq).2⟩) (by have := HP.le; omega) (Nat.le_refl _)), by omega, hTl2, λ j h1 h2 => by rw [hTo2 j (by omega)]; exact hTd j (by omega) h2, by rw [List.length_append, hLL]; rfl, λ j l hj => by by_cases e : j < L.length; rw [List.getElem?_append_left e] at hj; exact hLp j l hj; (have e2 : j = L.length := by have := (List.getElem?_eq_some_iff.1 hj).1; rw [List.length_append] at this; simp at this; omega); subst e2; rw [List.getElem?_append_right (Nat.le_refl _), Nat.sub_self] at hj; obtain rfl := Option.some.inj hj; rw [hLL]; rw [hlk, hkK] at hp79; exact hp79, (λ q hq hb => by (exact d_52 q hq hb)), (λ q hq hb => by (exact d_53 q hq hb))⟩ (by omega) (.cons rfl (.cons rfl (.cons rfl (.cons rfl (.cons rfl (.cons rfl (.cons (loI rfl (by first | omega | rfl | (simp <;> omega))) .nil)))))))
 ·have er : r = M := by omega
  refine xt <| xT <| xK <| xB <| nT <| sg <| vL (ld rfl (B_20.one eF14 rfl)) <| va rfl <| va rfl <| nK <| rt <| tR (.tmp rfl (.tmp rfl .nil)) <| ?_
  exact ⟨0, some ⟨b_9, 0, none⟩, M, T1, L, b_9, X, by rw [hTl]; rfl, .inl ⟨rfl, by omega, by omega, by rw [hTl, hLL, er], N, M, K, rfl, hM, hK, by rw [hLL, er], hLp⟩, HT1, HP, z_29⟩
theorem rounds_any (n : Int) (w : World) :
  Calls Try.prog 12 #[.int .i64 n] w (λ e w' => ∃ e' A' c' T L ba X, e = .returned (.tuple #[.slice A' (T : List SV).length c', .int .i64 e']) ∧ RdR n e' T L ∧ svRep.SOwn 28 24 w' w.heap.size (Rep.blkOf A') A' c' T ∧ PT w' w.heap.size ba X T L ∧ Ext w w') := by
 by_cases h : n < 2 ∨ 64 < n
 ·exact rounds_bad n w h
 ·obtain ⟨N, rfl⟩ : ∃ N : Nat, n = N := ⟨n.toNat, by omega⟩
  exact rounds_nat N (N + N % 2 - 1) ((N + N % 2) / 2) w (by omega) (by omega) (by omega)
end
section
open Go.RowKit
theorem MtL_el_S_int : ElT Try.prog repI 34 3 8 := ElT.mk_ (z := .int .i64 0) (k := 1) Try.underlying34 info_int rfl rfl (by decide) (λ j u h => raw0I j u h)
open Go.Proofs.Ytifffjhhammeiaa.Mt
theorem points_any (n : Int) (l : List Gam) (A : Option Addr) (c : Nat) (w : World) (hl : Gam.rep.SHas 24 w A c l) :
  Calls Try.prog 14 #[.int .i64 n, .slice A l.length c] w (λ e w' => ∃ e' A' c' L, e = .returned (.tuple #[.slice A' (L : List Int).length c', .int .i64 e']) ∧ (e' = mtE n l ∧ L = ptR n l) ∧ repI.SOwn 3 8 w' w.heap.size (Rep.blkOf A') A' c' L ∧ Ext w w') := by
 refine calls_W (n := 33) Try.func14 rfl rfl rfl ?_
 refine sg <| va rfl <| va rfl <| nK <| sg <| vm rfl <| vm rfl <| ca eF22 rfl rfl ((scores_any n l _ _ _ (hl.keep (Ext.rf w))).mono ?_)
 rintro e w_4 ⟨e1, A1, c1, L1, rfl, ⟨he1, hL1⟩, HS1, x_5⟩
 refine ⟨_, rfl, ?_⟩
 have := x_5.size
 have z_4 := eT (Ext.rf w) x_5
 have u_2 := λ q hq => (HS1.lt q hq).2
 have lo_3 := λ q hq => (HS1.lt q hq).1
 refine vm rfl <| vL (ex rfl rfl) <| vL (ex rfl rfl) <| va rfl <| va rfl <| nK <| sq <| sg <| vm rfl <| vL (bne rfl rfl) <| nK <| ?_
 refine cne rfl (λ h_7 => ?_) (λ h_7 => ?_)
 ·have h0 : e1 ≠ 0 := by first | exact h_7 | simpa using h_7
  refine sg <| vm rfl <| va rfl <| va rfl <| nK <| rt <| tT <| tR (.tmp rfl (.tmp rfl .nil)) <| ?_
  exact ⟨e1, none, 0, [], rfl, ⟨he1, ptR_bad he1 h0⟩, Rep.SOwn.nil _, z_4⟩
 ·have h0 : e1 = 0 := by first | exact h_7 | simpa using h_7
  refine sK <| sg <| va rfl <| nK <| sq <| sg <| vm rfl <| vL (ln Try.underlying83 rfl) <| vm rfl <| nK <| bk <| ?_
  have hsl : L1.length ≤ 64 := by rw [hL1, scR_len he1 h0]; have h_ := mtE_ok (he1.symm.trans h0); omega
  refine lp (λ mI EI wI => ∃ k : Nat, ∃ Lo : List Int, ∃ AL : Option Addr, ∃ cL : Nat, EI = [(4, .slice none 0 0), (5, .int .i64 0), (8, .slice AL Lo.length cL), (20, .slice A1 L1.length c1), (21, .int .i64 (L1.length : Int)), (22, .int .i64 (k : Int))] ∧ mI = L1.length - k ∧ Ext w wI ∧ Sco.rep.SOwn 87 24 wI w.heap.size (Rep.blkOf A1) A1 c1 (L1) ∧ repI.SOwn 3 8 wI w.heap.size (Rep.blkOf AL) AL cL Lo ∧ (k ≤ L1.length) ∧ (Lo = (L1.take k).map (·.points)) ∧ (∀ q ∈ Rep.blkOf AL, q ∈ Rep.blkOf A1 → False) ∧ (∀ q ∈ Rep.blkOf AL, q ∈ Rep.blkOf A1 → False)) _ _ ⟨0, ([] : List Int), none, 0, rfl, rfl, z_4, HS1, (Rep.SOwn.nil _), by omega, rfl, λ q hq => by simp [Rep.blkOf] at hq, (λ q hq hb => by (simp [Rep.blkOf] at hq))⟩ (.cons rfl (.cons rfl (.cons rfl (.cons rfl (.cons rfl (.cons (loI rfl (by first | omega | rfl | (simp <;> omega))) .nil)))))) ?_
  rintro m_10 E_11 w_9 ⟨k, Lo, AL, cL, rfl, rfl, z_9, HSx, OLx, hk, hLo, dOS, d_8⟩
  have := z_9.size
  have u_13 := λ q hq => (HSx.lt q hq).2
  have u_14 := λ q hq => (OLx.lt q hq).2
  have hLol : Lo.length = k := by rw [hLo, List.length_map, List.length_take]; omega
  refine sg <| vL (blt rfl rfl) <| nK <| sq <| ?_
  refine clt rfl (λ h_15 => ?_) (λ h_15 => ?_)
  ·obtain ⟨s0, hs0⟩ : ∃ s0, L1[k]? = some s0 := ⟨_, List.getElem?_eq_getElem (by omega)⟩
   obtain ⟨o1, o2, o3⟩ := Sco.all_ok HSx.has s0 (List.mem_of_getElem? hs0)
   refine sK <| sq <| bk <| sg <| vL (iA k Try.underlying83 eF0 rfl rfl (HSx.has.adr (zl k (by omega))) rfl (by omega)) <| vL (ld rfl (Rep.SHas.elt Mt.hcS (HSx.has.adh (zl k (by omega))) hs0 eF23 eF0)) <| al rfl eF24 rfl rfl λ w_16 b_17 x_18 l_19 B_20 => ?_
   have := x_18.size
   have z_16 := eT z_9 x_18
   have q_22 := B_20.lt
   refine st (new := [.int .i64 s0.player, .int .i64 s0.points, .int .i64 s0.won]) rfl rfl B_20 rfl eF0 rfl rfl rfl λ w_23 m_24 B_20 => ?_
   have := m_24.size
   have z_23 := Ext.mod z_16 m_24 (ge1 (by omega))
   have := m_24.size
   refine nK <| rg <| vm rfl <| vL (fa eF10 rfl) <| vL (ld rfl (B_20.one eF7 rfl)) <| bs (e := 3) (cs := [.int .i64 s0.points]) rfl (λ _ => by kernel_rfl) rfl λ w_27 b_28 x_29 l_30 B_31 => ?_
   have := x_29.size
   have z_27 := eT z_23 x_29
   have q_33 := B_31.lt
   have OLx := OLx.later x_18
   have OLx := OLx.mod m_24 (fk1 u_14 (by omega))
   have OLx := OLx.later x_29
   refine ap MtL_el_S_int Rep.flat_bare OLx (Blk.has1 (R := repI) (by_ := 8) (q := s0.points) B_31 ⟨rfl, o2⟩ (by decide)) rfl rfl (by simp only [List.length_cons, List.length_nil]; omega) (by simp only [List.length_cons, List.length_nil]; omega) (by omega) rfl λ w_34 A_35 c_36 m_37 O_38 g_39 n_40 => ?_
   have := m_37.size
   have z_34 := Ext.mod z_27 m_37 (λ q hq => Nat.le_trans (by omega) (OLx.lt q hq).1)
   have u_42 := λ q hq => (O_38.lt q hq).2
   have := m_37.size
   refine va rfl <| nl <| nB <| nT <| rg <| vL (bad rfl rfl (inI (by omega))) <| vm rfl <| nl <| ?_
   have HSx := HSx.later x_18
   have HSx := HSx.mod m_24 (fk1 u_13 (by omega))
   have HSx := HSx.later x_29
   have HSx := HSx.mod m_37 (λ q hq h => by exfalso; (exact d_8 q h hq))
   exact nI _ _ ⟨k + 1, Lo ++ [s0.points], A_35, c_36, rfl, rfl, z_34, HSx, O_38, by omega, by rw [hLo]; exact (map_snoc _ hs0).symm, λ q hq hb => by exfalso; (exact Or.elim (g_39 q hq) (λ k_44 => by (exact d_8 q k_44 hb)) (λ k_44 => by (have := u_13 q hb; omega))), (λ q hq hb => by (exact Or.elim (g_39 q hq) (λ k_45 => by (exact d_8 q k_45 hb)) (λ k_45 => by (have := u_13 q hb; omega))))⟩ (by omega) (.cons rfl (.cons rfl (.cons rfl (.cons rfl (.cons rfl (.cons (loI rfl (by first | omega | rfl | (simp <;> omega))) .nil))))))
  ·have ek : k = L1.length := by omega
   rw [ek, List.take_length] at hLo
   refine xt <| xT <| xK <| xB <| nT <| sg <| vm rfl <| va rfl <| va rfl <| nK <| rt <| tR (.tmp rfl (.tmp rfl .nil)) <| ?_
   exact ⟨0, AL, cL, Lo, rfl, ⟨h0.symm.trans he1, by rw [hLo, hL1]; rfl⟩, OLx, z_9⟩
theorem table_any (n : Int) (l : List Gam) (A : Option Addr) (c : Nat) (w : World) (hl : Gam.rep.SHas 24 w A c l) :
  Calls Try.prog 15 #[.int .i64 n, .slice A l.length c] w (λ e w' => ∃ e' A' c' L, e = .returned (.tuple #[.slice A' (L : List Int).length c', .int .i64 e']) ∧ (e' = mtE n l ∧ L = tbR n l) ∧ repI.SOwn 3 8 w' w.heap.size (Rep.blkOf A') A' c' L ∧ Ext w w') := by
 refine calls_W (n := 35) Try.func15 rfl rfl rfl ?_
 refine sg <| va rfl <| va rfl <| nK <| sg <| vm rfl <| vm rfl <| ca eF22 rfl rfl ((scores_any n l _ _ _ (hl.keep (Ext.rf w))).mono ?_)
 rintro e w_4 ⟨e1, A1, c1, L1, rfl, ⟨he1, hL1⟩, HS1, x_5⟩
 refine ⟨_, rfl, ?_⟩
 have := x_5.size
 have z_4 := eT (Ext.rf w) x_5
 have u_2 := λ q hq => (HS1.lt q hq).2
 have lo_3 := λ q hq => (HS1.lt q hq).1
 refine vm rfl <| vL (ex rfl rfl) <| vL (ex rfl rfl) <| va rfl <| va rfl <| nK <| sq <| sg <| vm rfl <| vL (bne rfl rfl) <| nK <| ?_
 refine cne rfl (λ h_7 => ?_) (λ h_7 => ?_)
 ·have h0 : e1 ≠ 0 := by first | exact h_7 | simpa using h_7
  refine sg <| vm rfl <| va rfl <| va rfl <| nK <| rt <| tT <| tR (.tmp rfl (.tmp rfl .nil)) <| ?_
  exact ⟨e1, none, 0, [], rfl, ⟨he1, tbR_bad he1 h0⟩, Rep.SOwn.nil _, z_4⟩
 ·have h0 : e1 = 0 := by first | exact h_7 | simpa using h_7
  refine sK <| sg <| vm rfl <| ca eF25 rfl rfl ((sortS_any _ HS1 (by rw [hL1]; exact scR_pos he1 h0)).mono ?_)
  rintro e w_9 ⟨rfl, HT1, m_8⟩
  refine ⟨_, rfl, ?_⟩
  have := m_8.size
  have z_9 := Ext.mod z_4 m_8 (λ q hq => (HS1.lt q hq).1)
  have hTl : (tabS L1).length = L1.length := (tabS_perm _).length_eq
  refine nK <| sg <| va rfl <| nK <| sq <| sg <| vm rfl <| vL (ln Try.underlying83 rfl) <| vm rfl <| nK <| bk <| ?_
  have hsl : (tabS L1).length ≤ 64 := by rw [hTl]; rw [hL1, scR_len he1 h0]; have h_ := mtE_ok (he1.symm.trans h0); omega
  refine lp (λ mI EI wI => ∃ k : Nat, ∃ Lo : List Int, ∃ AL : Option Addr, ∃ cL : Nat, EI = [(4, .slice none 0 0), (5, .int .i64 0), (8, .slice AL Lo.length cL), (22, .slice A1 L1.length c1), (23, .int .i64 (L1.length : Int)), (24, .int .i64 (k : Int))] ∧ mI = (tabS L1).length - k ∧ Ext w wI ∧ Sco.rep.SOwn 87 24 wI w.heap.size (Rep.blkOf A1) A1 c1 (tabS L1) ∧ repI.SOwn 3 8 wI w.heap.size (Rep.blkOf AL) AL cL Lo ∧ (k ≤ (tabS L1).length) ∧ (Lo = ((tabS L1).take k).map (·.player)) ∧ (∀ q ∈ Rep.blkOf AL, q ∈ Rep.blkOf A1 → False) ∧ (∀ q ∈ Rep.blkOf AL, q ∈ Rep.blkOf A1 → False)) _ _ ⟨0, ([] : List Int), none, 0, rfl, rfl, z_9, HT1, (Rep.SOwn.nil _), by omega, rfl, λ q hq => by simp [Rep.blkOf] at hq, (λ q hq hb => by (simp [Rep.blkOf] at hq))⟩ (.cons rfl (.cons rfl (.cons rfl (.cons rfl (.cons rfl (.cons (loI rfl (by first | omega | rfl | (simp <;> omega))) .nil)))))) ?_
  rintro m_13 E_14 w_12 ⟨k, Lo, AL, cL, rfl, rfl, z_12, HSx, OLx, hk, hLo, dOS, d_11⟩
  have := z_12.size
  have u_16 := λ q hq => (HSx.lt q hq).2
  have u_17 := λ q hq => (OLx.lt q hq).2
  have hLol : Lo.length = k := by rw [hLo, List.length_map, List.length_take]; omega
  refine sg <| vL (blt rfl rfl) <| nK <| sq <| ?_
  refine clt rfl (λ h_18 => ?_) (λ h_18 => ?_)
  ·obtain ⟨s0, hs0⟩ : ∃ s0, (tabS L1)[k]? = some s0 := ⟨_, List.getElem?_eq_getElem (by omega)⟩
   obtain ⟨o1, o2, o3⟩ := Sco.all_ok HSx.has s0 (List.mem_of_getElem? hs0)
   refine sK <| sq <| bk <| sg <| vL (iA k Try.underlying83 eF0 rfl rfl (HSx.has.adr (zl k (by omega))) rfl (by omega)) <| vL (ld rfl (Rep.SHas.elt Mt.hcS (HSx.has.adh (zl k (by omega))) hs0 eF23 eF0)) <| al rfl eF24 rfl rfl λ w_19 b_20 x_21 l_22 B_23 => ?_
   have := x_21.size
   have z_19 := eT z_12 x_21
   have q_25 := B_23.lt
   refine st (new := [.int .i64 s0.player, .int .i64 s0.points, .int .i64 s0.won]) rfl rfl B_23 rfl eF0 rfl rfl rfl λ w_26 m_27 B_23 => ?_
   have := m_27.size
   have z_26 := Ext.mod z_19 m_27 (ge1 (by omega))
   have := m_27.size
   refine nK <| rg <| vm rfl <| vL (fa eF1 rfl) <| vL (ld rfl (B_23.one eF7 rfl)) <| bs (e := 3) (cs := [.int .i64 s0.player]) rfl (λ _ => by kernel_rfl) rfl λ w_30 b_31 x_32 l_33 B_34 => ?_
   have := x_32.size
   have z_30 := eT z_26 x_32
   have q_36 := B_34.lt
   have OLx := OLx.later x_21
   have OLx := OLx.mod m_27 (fk1 u_17 (by omega))
   have OLx := OLx.later x_32
   refine ap MtL_el_S_int Rep.flat_bare OLx (Blk.has1 (R := repI) (by_ := 8) (q := s0.player) B_34 ⟨rfl, o1⟩ (by decide)) rfl rfl (by simp only [List.length_cons, List.length_nil]; omega) (by simp only [List.length_cons, List.length_nil]; omega) (by omega) rfl λ w_37 A_38 c_39 m_40 O_41 g_42 n_43 => ?_
   have := m_40.size
   have z_37 := Ext.mod z_30 m_40 (λ q hq => Nat.le_trans (by omega) (OLx.lt q hq).1)
   have u_45 := λ q hq => (O_41.lt q hq).2
   have := m_40.size
   refine va rfl <| nl <| nB <| nT <| rg <| vL (bad rfl rfl (inI (by omega))) <| vm rfl <| nl <| ?_
   have HSx := HSx.later x_21
   have HSx := HSx.mod m_27 (fk1 u_16 (by omega))
   have HSx := HSx.later x_32
   have HSx := HSx.mod m_40 (λ q hq h => by exfalso; (exact d_11 q h hq))
   exact nI _ _ ⟨k + 1, Lo ++ [s0.player], A_38, c_39, rfl, rfl, z_37, HSx, O_41, by omega, by rw [hLo]; exact (map_snoc _ hs0).symm, λ q hq hb => by exfalso; (exact Or.elim (g_42 q hq) (λ k_47 => by (exact d_11 q k_47 hb)) (λ k_47 => by (have := u_16 q hb; omega))), (λ q hq hb => by (exact Or.elim (g_42 q hq) (λ k_48 => by (exact d_11 q k_48 hb)) (λ k_48 => by (have := u_16 q hb; omega))))⟩ (by omega) (.cons rfl (.cons rfl (.cons rfl (.cons rfl (.cons rfl (.cons (loI rfl (by first | omega | rfl | (simp <;> omega))) .nil))))))
  ·have ek : k = (tabS L1).length := by omega
   rw [ek, List.take_length] at hLo
   refine xt <| xT <| xK <| xB <| nT <| sg <| vm rfl <| va rfl <| va rfl <| nK <| rt <| tR (.tmp rfl (.tmp rfl .nil)) <| ?_
   exact ⟨0, AL, cL, Lo, rfl, ⟨h0.symm.trans he1, by rw [hLo, hL1]; rfl⟩, OLx, z_12⟩
end
section
open Go.RowKit
theorem ret_bool {a b : Bool} (h : a = b) : Ending.returned (.bool a) = .returned (.bool b) := by rw [h]
theorem equal_I (A B : Option Addr) (c d b1 b2 : Nat) (l m : List Int) (w : World) (h1 : repI.SHas b1 w A c l) (h2 : repI.SHas b2 w B d m) :
  Calls Try.prog 40 #[.slice A l.length c, .slice B m.length d] w λ e w' => e = .returned (.bool (decide (l = m))) ∧ Below w.heap.size w w' := by
 obtain ⟨n, HN⟩ : ∃ n, Hid (l.length = n) := ⟨_, Lib.hid rfl⟩
 obtain ⟨n2, HM⟩ : ∃ n, Hid (m.length = n) := ⟨_, Lib.hid rfl⟩
 have hle : n ≤ 9223372036854775807 := by have := h1.len_le; rw [HN.out] at this; exact this
 have H1 := Lib.hid h1
 have H2 := Lib.hid h2
 clear h1 h2
 rw [HN.out, HM.out]
 by_cases hnn : n = n2
 ·subst hnn
  have hd : ((n : Int) != (n : Int)) = false := by simp
  go_enter Try.func40, Try.ntmps40
  go_wp2_with fail
  clear hd
  go_loopw [5, 13] (λ _ iv wr => ∃ (k q : Nat), k ≤ n ∧ iv = .int .i64 (k : Int) ∧ Hid (l.take k = m.take k) ∧ Hid (wr = w.drewN q)) (λ _ iv _ => n - (intOf iv).toNat)
  case atStart => exact ⟨0, 0, Nat.zero_le _, rfl, (by show _ = _; simp), rfl⟩
  case round =>
   obtain ⟨k, q, hk, rfl, HK, HW⟩ := hrel
   have hbr : Below w.heap.size w wr := by rw [HW.out]; exact below_drewN (Below.refl _ w) q
   by_cases hlt : k < n
   ·obtain ⟨x, hx⟩ := get_of (l := l) (i := k) (by rw [HN.out]; exact hlt)
    obtain ⟨y, hy⟩ := get_of (l := m) (i := k) (by rw [HM.out]; exact hlt)
    obtain ⟨b1, o1, rfl, hc1⟩ := repI_at (H1.out.keep hbr) (by rw [HN.out]; omega)
    obtain ⟨b2, o2, rfl, hc2⟩ := repI_at (H2.out.keep hbr) (by rw [HM.out]; omega)
    have q0 := hc1 k x hx
    have r0 := hc2 k y hy
    have hki : (k : Int) < (n : Int) := by omega
    have hk0 : (0 : Int) ≤ (k : Int) := by omega
    have htl : l.take (k + 1) = l.take k ++ [x] := by rw [List.take_add_one, hx]; rfl
    have htm : m.take (k + 1) = m.take k ++ [y] := by rw [List.take_add_one, hy]; rfl
    have HTL := Lib.hid htl
    have HTM := Lib.hid htm
    have HX := Lib.hid hx
    have HY := Lib.hid hy
    clear hc1 hc2 htl htm hx hy
    by_cases hxy : x = y
    ·subst hxy
     have HK2 : Hid (l.take (k + 1) = m.take (k + 1)) := Lib.hid (by rw [HTL.out, HTM.out, HK.out])
     go_wp2_with fail
     go_quiet (fail)
     go_wp2_with fail
     go_roundw
     case rel => exact ⟨k + 1, _, by omega, by go_num, HK2, by show _ = _; rw [HW.out]; simp; rfl⟩
     case measure => simp [intOf]; omega
    ·have HF : Hid (decide (l = m) = false) := Lib.hid (decide_eq_false λ e => hxy (by have h1 := HX.out; rw [e, HY.out] at h1; exact (Option.some.inj h1).symm))
     have hne : (x == y) = false := by simpa using hxy
     have hne2 : (x != y) = true := by simpa using hxy
     clear hxy
     go_wp2_with fail
     go_quiet (fail)
     go_wp2_with fail
     go_ret
     exact ⟨ret_bool HF.out.symm, below_drewN hbr _⟩
   ·have HT : Hid (decide (l = m) = true) := Lib.hid (decide_eq_true (by have := HK.out; rw [List.take_of_length_le (by rw [HN.out]; omega), List.take_of_length_le (by rw [HM.out]; omega)] at this; exact this))
    clear HK
    go_wp2_with fail
    go_ret
    exact ⟨ret_bool HT.out.symm, hbr⟩
 ·have HF : Hid (decide (l = m) = false) := Lib.hid (decide_eq_false λ e => hnn (by rw [← HN.out, ← HM.out, e]))
  have hd : ((n : Int) != (n2 : Int)) = true := by simp; omega
  rw [HF.out]
  go_enter Try.func40, Try.ntmps40
  go_wp2_with fail
  go_ret
  exact ⟨rfl, Below.refl _ _⟩
end
end Go.Proofs.Ytifffjhhammeiaa
set_option linter.unusedVariables false
set_option linter.unusedSimpArgs false
namespace Go.Proofs.Ytifffjhhammeiaa
open Go.RowKit

structure Cel where
 x : Int
 y : Int
 deriving DecidableEq, Inhabited
namespace Cel
def cells (a : Cel) : List Value := [.int .i64 (a.x), .int .i64 (a.y)]
def ok (a : Cel) : Prop := (Lit.int .i64 a.x).wf = true ∧ (Lit.int .i64 a.y).wf = true
def raw (j : Nat) (u : Value) : Prop := match j with
 | 0 => ∃ n : Int, u = .int .i64 n
 | 1 => ∃ n : Int, u = .int .i64 n
 | _ => True
theorem cells_raw (a : Cel) : ∀ (j : Nat) u, a.cells[j]? = some u → raw j u := by
 intro j u hu
 match j, hu with
 | 0, hu => exact ⟨_, (Option.some.inj hu).symm⟩
 | 1, hu => exact ⟨_, (Option.some.inj hu).symm⟩
 | j + 2, hu => exact trivial
theorem cells_one (a : Cel) : ∀ u ∈ a.cells, u.oneCell' = true := by
 intro u hu
 unfold cells at hu
 simp only [List.mem_cons, List.not_mem_nil, or_false] at hu
 rcases hu with rfl | rfl <;> rfl
def rep : Rep Cel := Rep.flat 2 cells ok raw (λ _ => rfl) cells_one cells_raw
theorem plain : rep.Plain := Rep.flat_plain
def zero : Value := .agg #[.int .i64 0, .int .i64 0]
def sh : Sh := (.cons (.int .i64) (.cons (.int .i64) .nil))
theorem opens (w : World) (cs : List Value) (h : sh.Ok w cs) : ∃ a, rep.has w cs a := by
 obtain ⟨_, _, rfl, _, _, ⟨x0, rfl, k0⟩, ⟨_, _, rfl, _, _, ⟨x1, rfl, k1⟩, rfl⟩⟩ := h
 exact ⟨⟨x0, x1⟩, rfl, k0, k1⟩
end Cel
end Go.Proofs.Ytifffjhhammeiaa
set_option linter.unusedVariables false
set_option linter.unusedSimpArgs false
namespace Go.Proofs.Ytifffjhhammeiaa
open Go.RowKit

structure Trp where
 id : Int
 owner : Int
 kind : Int
 spot : Cel
 life : Int
 load : Int
 deriving DecidableEq, Inhabited
namespace Trp
def cells (a : Trp) : List Value := [.int .i64 (a.id), .int .i64 (a.owner), .int .i64 (a.kind), .int .i64 (a.spot.x), .int .i64 (a.spot.y), .int .i64 (a.life), .int .i64 (a.load)]
def ok (a : Trp) : Prop := (Lit.int .i64 a.id).wf = true ∧ (Lit.int .i64 a.owner).wf = true ∧ (Lit.int .i64 a.kind).wf = true ∧ (Lit.int .i64 a.spot.x).wf = true ∧ (Lit.int .i64 a.spot.y).wf = true ∧ (Lit.int .i64 a.life).wf = true ∧ (Lit.int .i64 a.load).wf = true
def raw (j : Nat) (u : Value) : Prop := match j with
 | 0 => ∃ n : Int, u = .int .i64 n
 | 1 => ∃ n : Int, u = .int .i64 n
 | 2 => ∃ n : Int, u = .int .i64 n
 | 3 => ∃ n : Int, u = .int .i64 n
 | 4 => ∃ n : Int, u = .int .i64 n
 | 5 => ∃ n : Int, u = .int .i64 n
 | 6 => ∃ n : Int, u = .int .i64 n
 | _ => True
theorem cells_raw (a : Trp) : ∀ (j : Nat) u, a.cells[j]? = some u → raw j u := by
 intro j u hu
 match j, hu with
 | 0, hu => exact ⟨_, (Option.some.inj hu).symm⟩
 | 1, hu => exact ⟨_, (Option.some.inj hu).symm⟩
 | 2, hu => exact ⟨_, (Option.some.inj hu).symm⟩
 | 3, hu => exact ⟨_, (Option.some.inj hu).symm⟩
 | 4, hu => exact ⟨_, (Option.some.inj hu).symm⟩
 | 5, hu => exact ⟨_, (Option.some.inj hu).symm⟩
 | 6, hu => exact ⟨_, (Option.some.inj hu).symm⟩
 | j + 7, hu => exact trivial
theorem cells_one (a : Trp) : ∀ u ∈ a.cells, u.oneCell' = true := by
 intro u hu
 unfold cells at hu
 simp only [List.mem_cons, List.not_mem_nil, or_false] at hu
 rcases hu with rfl | rfl | rfl | rfl | rfl | rfl | rfl <;> rfl
def rep : Rep Trp := Rep.flat 7 cells ok raw (λ _ => rfl) cells_one cells_raw
theorem plain : rep.Plain := Rep.flat_plain
def zero : Value := .agg #[.int .i64 0, .int .i64 0, .int .i64 0, .int .i64 0, .int .i64 0, .int .i64 0, .int .i64 0]
def sh : Sh := (.cons (.int .i64) (.cons (.int .i64) (.cons (.int .i64) (.cons (.cons (.int .i64) (.cons (.int .i64) .nil)) (.cons (.int .i64) (.cons (.int .i64) .nil))))))
theorem opens (w : World) (cs : List Value) (h : sh.Ok w cs) : ∃ a, rep.has w cs a := by
 obtain ⟨_, _, rfl, _, _, ⟨x0, rfl, k0⟩, ⟨_, _, rfl, _, _, ⟨x1, rfl, k1⟩, ⟨_, _, rfl, _, _, ⟨x2, rfl, k2⟩, ⟨_, _, rfl, _, _, ⟨_, _, rfl, _, _, ⟨x3, rfl, k3⟩, ⟨_, _, rfl, _, _, ⟨x4, rfl, k4⟩, rfl⟩⟩, ⟨_, _, rfl, _, _, ⟨x5, rfl, k5⟩, ⟨_, _, rfl, _, _, ⟨x6, rfl, k6⟩, rfl⟩⟩⟩⟩⟩⟩ := h
 exact ⟨⟨x0, x1, x2, ⟨x3, x4⟩, x5, x6⟩, rfl, k0, k1, k2, k3, k4, k5, k6⟩
end Trp
end Go.Proofs.Ytifffjhhammeiaa
set_option linter.unusedVariables false
set_option linter.unusedSimpArgs false
namespace Go.Proofs.Ytifffjhhammeiaa
open Go.RowKit

structure Fld where
 wide : Int
 high : Int
 places : List Int
 deriving DecidableEq, Inhabited
structure Wd where
 field : Fld
 bases : List Cel
 stocks : List Int
 mines : List Int
 troops : List Trp
 next : Int
 now : Int
 deriving DecidableEq, Inhabited
namespace Fld
def placeOk (p : Int) : Bool := inB p 0 3
def chk (f : Fld) : Int :=
 if inB f.wide 1 40 && inB f.high 1 40 then (if decide ((f.places.length : Int) = f.wide * f.high) && f.places.all placeOk then 0 else 4) else 1
def isIn (f : Fld) (c : Cel) : Bool := inB c.x 0 (f.wide - 1) && inB c.y 0 (f.high - 1)
def place (f : Fld) (c : Cel) : Int := f.places.getD (c.y * f.wide + c.x).toNat 0
def ground (f : Fld) (c : Cel) : Bool := f.isIn c && f.place c != 1
theorem good {f : Fld} (h : f.chk = 0) : 1 ≤ f.wide ∧ f.wide ≤ 40 ∧ 1 ≤ f.high ∧ f.high ≤ 40 ∧ (f.places.length : Int) = f.wide * f.high ∧ ∀ p ∈ f.places, 0 ≤ p ∧ p ≤ 3 := by
 unfold chk at h
 split at h
 ·rename_i h1
  rw [Bool.and_eq_true] at h1
  have a := inB_true h1.1
  have b := inB_true h1.2
  split at h
  ·rename_i h2
   rw [Bool.and_eq_true, List.all_eq_true] at h2
   exact ⟨a.1, a.2, b.1, b.2, by simpa using h2.1, λ p hp => inB_true (h2.2 p hp)⟩
  ·cases h
 ·cases h
theorem idx {f : Fld} (h : f.chk = 0) {c : Cel} (hc : f.isIn c = true) : 0 ≤ c.y * f.wide + c.x ∧ c.y * f.wide + c.x < (f.places.length : Int) ∧ 0 ≤ c.x ∧ c.x < f.wide ∧ 0 ≤ c.y ∧ c.y < f.high := by
 obtain ⟨g1, g2, g3, g4, g5, _⟩ := good h
 unfold isIn at hc
 rw [Bool.and_eq_true] at hc
 have a := inB_true hc.1
 have b := inB_true hc.2
 have e1 : 0 ≤ c.y * f.wide := Int.mul_nonneg b.1 (by omega)
 have e2 : c.y * f.wide ≤ (f.high - 1) * f.wide := Int.mul_le_mul_of_nonneg_right b.2 (by omega)
 have e3 : (f.high - 1) * f.wide = f.wide * f.high - f.wide := by rw [Int.sub_mul, Int.one_mul, Int.mul_comm]
 rw [g5]
 omega
end Fld
namespace Fld
def atE (f : Fld) (c : Cel) : Int := if f.chk ≠ 0 then f.chk else if f.isIn c then 0 else 7
def atV (f : Fld) (c : Cel) : Int := if f.chk ≠ 0 then 0 else if f.isIn c then f.place c else 0
end Fld
def kindOf (k : Int) : Option (Int × Int × Int × Int) := if k = 1 then some (10, 1, 1, 5) else if k = 2 then some (20, 2, 4, 12) else none
namespace Wd
def okBase (W : Wd) (i : Nat) : Bool := W.field.ground (W.bases.getD i default) && !(W.bases.take i).contains (W.bases.getD i default) && inB (W.stocks.getD i 0) 0 1000000
def players (W : Wd) : Bool := decide (W.stocks.length = W.bases.length) && (List.range W.bases.length).all W.okBase
def okMine (W : Wd) (i : Nat) : Bool := inB (W.mines.getD i 0) 0 1000000 && (decide (W.mines.getD i 0 ≤ 0) || W.field.places.getD i 0 == 3)
def minesOk (W : Wd) : Bool := decide (W.mines.length = W.field.places.length) && (List.range W.mines.length).all W.okMine
def lastId (W : Wd) (i : Nat) : Int := if i = 0 then 0 else (W.troops.getD (i - 1) default).id
def lifeOf (k : Int) : Int := if k = 1 then 10 else if k = 2 then 20 else 0
def mostOf (k : Int) : Int := if k = 1 then 5 else 0
def okOne (W : Wd) (lx nx : Int) (t : Trp) : Bool :=
 inB t.kind 1 2 && inB t.id lx nx && inB t.owner 0 ((W.bases.length : Int) - 1) && W.field.ground t.spot && inB t.life 1 (lifeOf t.kind) && inB t.load 0 (mostOf t.kind)
def spots (W : Wd) (k : Nat) : List Cel := (W.troops.take k).map (·.spot)
def okTroop (W : Wd) (i : Nat) : Bool := W.okOne (wrap64 (W.lastId i + 1)) (wrap64 (W.next - 1)) (W.troops.getD i default) && !(W.spots i).contains (W.troops.getD i default).spot
def troopsOk (W : Wd) : Bool := (List.range W.troops.length).all W.okTroop && (inB W.next 1 1000000 && inB W.now 0 1000000)
def chk (W : Wd) : Int :=
 if W.field.chk ≠ 0 then W.field.chk else if 8 < W.bases.length ∨ 100 < W.troops.length then 2 else if W.players && W.minesOk && W.troopsOk then 0 else 4
structure At where
 P : Option Addr
 B : Option Addr
 S : Option Addr
 M : Option Addr
 T : Option Addr
 p : Nat
 b : Nat
 s : Nat
 m : Nat
 t : Nat
def fcells (A : Option Addr) (c : Nat) (f : Fld) : List Value := [.int .i64 f.wide, .int .i64 f.high, .slice A f.places.length c]
def cells (h : At) (W : Wd) : List Value :=
 [.int .i64 W.field.wide, .int .i64 W.field.high, .slice h.P W.field.places.length h.p, .slice h.B W.bases.length h.b, .slice h.S W.stocks.length h.s, .slice h.M W.mines.length h.m, .slice h.T W.troops.length h.t, .int .i64 W.next, .int .i64 W.now]
structure Has (w : World) (h : At) (W : Wd) : Prop where
 P : repI.SHas 8 w h.P h.p W.field.places
 B : Cel.rep.SHas 16 w h.B h.b W.bases
 S : repI.SHas 8 w h.S h.s W.stocks
 M : repI.SHas 8 w h.M h.m W.mines
 T : Trp.rep.SHas 56 w h.T h.t W.troops
 nums : okI W.field.wide ∧ okI W.field.high ∧ okI W.next ∧ okI W.now
theorem Has.keep {w w' : World} {h : At} {W : Wd} (hw : Has w h W) (hb : Below w.heap.size w w') : Has w' h W :=
 ⟨hw.P.keep hb, hw.B.keep hb, hw.S.keep hb, hw.M.keep hb, hw.T.keep hb, hw.nums⟩
def fsh : Sh := .cons (.int .i64) (.cons (.int .i64) (.cons (.slice (.int .i64) 8) .nil))
def sh : Sh := .cons fsh (.cons (.slice Cel.sh 16) (.cons (.slice (.int .i64) 8) (.cons (.slice (.int .i64) 8) (.cons (.slice Trp.sh 56) (.cons (.int .i64) (.cons (.int .i64) .nil))))))
theorem opens (w : World) (cs : List Value) (h : sh.Ok w cs) : ∃ h W, cs = cells h W ∧ Has w h W := by
 obtain ⟨_, _, rfl, _, _, ⟨_, _, rfl, _, _, ⟨x0, rfl, k0⟩, _, _, rfl, _, _, ⟨x1, rfl, k1⟩, _, _, rfl, _, _, hP, rfl⟩, _, _, rfl, _, _, hB, _, _, rfl, _, _, hS, _, _, rfl, _, _, hM, _, _, rfl, _, _, hT, _, _, rfl, _, _, ⟨x2, rfl, k2⟩, _, _, rfl, _, _, ⟨x3, rfl, k3⟩, rfl⟩ := h
 obtain ⟨aP, cP, lP, rfl, HP⟩ := Rep.opens_slice (R := repI) repI_opens rfl (by decide) hP
 obtain ⟨aB, cB, lB, rfl, HB⟩ := Rep.opens_slice (R := Cel.rep) Cel.opens rfl (by decide) hB
 obtain ⟨aS, cS, lS, rfl, HS⟩ := Rep.opens_slice (R := repI) repI_opens rfl (by decide) hS
 obtain ⟨aM, cM, lM, rfl, HM⟩ := Rep.opens_slice (R := repI) repI_opens rfl (by decide) hM
 obtain ⟨aT, cT, lT, rfl, HT⟩ := Rep.opens_slice (R := Trp.rep) Trp.opens rfl (by decide) hT
 exact ⟨⟨aP, aB, aS, aM, aT, cP, cB, cS, cM, cT⟩, ⟨⟨x0, x1, lP⟩, lB, lS, lM, lT, x2, x3⟩, rfl, HP, HB, HS, HM, HT, k0, k1, k2, k3⟩
end Wd
end Go.Proofs.Ytifffjhhammeiaa
set_option linter.unusedVariables false
set_option linter.unusedSimpArgs false
namespace Go.Proofs.Ytifffjhhammeiaa
open Go.RowKit

namespace Wd
theorem chk_all {W : Wd} (h : W.field.chk = 0) (h2 : ¬ (8 < W.bases.length ∨ 100 < W.troops.length)) : W.chk = if W.players && W.minesOk && W.troopsOk then 0 else 4 := by unfold chk; rw [if_neg (by simpa using h), if_neg h2]
end Wd
theorem Wd.players_ok {W : Wd} (h : W.stocks.length = W.bases.length) (ha : ∀ k, k < W.bases.length → W.okBase k = true) : W.players = true := by
 unfold Wd.players
 rw [decide_eq_true h, Bool.true_and, List.all_eq_true]
 exact λ k hk => ha k (List.mem_range.1 hk)
theorem Wd.mines_ok {W : Wd} (h : W.mines.length = W.field.places.length) (ha : ∀ k, k < W.mines.length → W.okMine k = true) : W.minesOk = true := by
 unfold Wd.minesOk
 rw [decide_eq_true h, Bool.true_and, List.all_eq_true]
 exact λ k hk => ha k (List.mem_range.1 hk)
def isId (id : Int) (t : Trp) : Bool := t.id == id
def isAt (p : Cel) (t : Trp) : Bool := decide (t.spot = p)
def whichI (W : Wd) (p : Trp → Bool) : Int := if W.chk = 0 then max (idxI p W.troops) 0 else 0
def whichB (W : Wd) (p : Trp → Bool) : Bool := decide (W.chk = 0) && decide (0 ≤ idxI p W.troops)
def nearT (c : Cel) (r : Int) (t : Trp) : Bool := inB c.x (t.spot.x - r) (t.spot.x + r) && inB c.y (t.spot.y - r) (t.spot.y + r)
def nearIds (W : Wd) (c : Cel) (r : Int) : List Int := (W.troops.filter (nearT c r)).map (·.id)
def nearE (W : Wd) (r : Int) : Int := if W.chk ≠ 0 then W.chk else if inB r 0 12 then 0 else 1
end Go.Proofs.Ytifffjhhammeiaa
set_option linter.unusedVariables false
set_option linter.unusedSimpArgs false
namespace Go.Proofs.Ytifffjhhammeiaa
open Go.RowKit

theorem wrap_small {x : Int} (h1 : -1000 ≤ x) (h2 : x ≤ 2000000) : wrap64 x = x := by
 have h := IntKind.wrap_i64 x
 unfold wrap64
 first | (rw [h]; omega) | omega
end Go.Proofs.Ytifffjhhammeiaa
set_option linter.unusedVariables false
set_option linter.unusedSimpArgs false
namespace Go.Proofs.Ytifffjhhammeiaa
open Go.RowKit
structure TroopOk (f : Fld) (nb : Nat) (t : Trp) : Prop where
 kind : t.kind = 1 ∨ t.kind = 2
 owner : 0 ≤ t.owner ∧ t.owner < (nb : Int)
 ground : f.ground t.spot = true
 life : 1 ≤ t.life ∧ t.life ≤ Wd.lifeOf t.kind
 load : 0 ≤ t.load ∧ t.load ≤ Wd.mostOf t.kind
structure Good (W : Wd) : Prop where
 field : W.field.chk = 0
 nb : W.bases.length ≤ 8
 nt : W.troops.length ≤ 100
 sl : W.stocks.length = W.bases.length
 bases : ∀ (i : Nat) c, W.bases[i]? = some c → W.field.ground c = true ∧ (W.bases.take i).contains c = false
 stocks : ∀ (i : Nat) s, W.stocks[i]? = some s → 0 ≤ s ∧ s ≤ 1000000
 ml : W.mines.length = W.field.places.length
 mines : ∀ (i : Nat) m, W.mines[i]? = some m → 0 ≤ m ∧ m ≤ 1000000 ∧ (m ≤ 0 ∨ W.field.places.getD i 0 = 3)
 troops : ∀ (i : Nat) t, W.troops[i]? = some t → TroopOk W.field W.bases.length t
 ids : ∀ (i : Nat) t, W.troops[i]? = some t → W.lastId i < t.id ∧ t.id < W.next ∧ 0 ≤ W.lastId i
 spots : ∀ (i : Nat) t, W.troops[i]? = some t → (W.spots i).contains t.spot = false
 next : 1 ≤ W.next ∧ W.next ≤ 1000000
 now : 0 ≤ W.now ∧ W.now ≤ 1000000
theorem Good.chk {W : Wd} (h : Good W) : W.chk = 0 := by
 have hp : W.players = true := Wd.players_ok h.sl λ k hk => by
  obtain ⟨c, hc⟩ := get_of hk
  obtain ⟨s, hs⟩ := get_of (l := W.stocks) (i := k) (by rw [h.sl]; exact hk)
  unfold Wd.okBase
  rw [List.getD_eq_getElem?_getD, hc, List.getD_eq_getElem?_getD, hs]
  have h1 := h.bases k c hc
  have h2 := h.stocks k s hs
  simp only [Option.getD_some]
  rw [h1.1, h1.2, inB_mk h2.1 h2.2]; rfl
 have hm : W.minesOk = true := Wd.mines_ok h.ml λ k hk => by
  obtain ⟨m, hm⟩ := get_of hk
  have h1 := h.mines k m hm
  unfold Wd.okMine
  rw [List.getD_eq_getElem?_getD, hm]
  simp only [Option.getD_some]
  rw [inB_mk h1.1 h1.2.1, Bool.true_and, Bool.or_eq_true]
  rcases h1.2.2 with h3 | h3
  ·exact .inl (by simpa using h3)
  ·exact .inr (by simpa using h3)
 have ht : W.troopsOk = true := by
  unfold Wd.troopsOk
  rw [inB_mk h.next.1 h.next.2, inB_mk h.now.1 h.now.2, Bool.and_true, Bool.and_true, List.all_eq_true]
  intro k hk
  obtain ⟨t, ht⟩ := get_of (List.mem_range.1 hk)
  have h1 := h.troops k t ht
  have h2 := h.ids k t ht
  have h3 := h.spots k t ht
  have hn := h.next
  unfold Wd.okTroop Wd.okOne
  rw [List.getD_eq_getElem?_getD, ht]
  simp only [Option.getD_some]
  have k1 : inB t.kind 1 2 = true := by
   rcases h1.kind with h | h
   ·exact inB_mk (by omega) (by omega)
   ·exact inB_mk (by omega) (by omega)
  have k2 : inB t.id (W.lastId k + 1) (W.next - 1) = true := inB_mk (by omega) (by omega)
  have k3 : inB t.owner 0 ((W.bases.length : Int) - 1) = true := inB_mk h1.owner.1 (by have := h1.owner.2; omega)
  rw [wrap_small (by omega) (by omega), wrap_small (by omega) (by omega), k1, k2, k3, h3, h1.ground, inB_mk h1.life.1 h1.life.2, inB_mk h1.load.1 h1.load.2]
  rfl
 rw [Wd.chk_all h.field (by have := h.nb; have := h.nt; omega), hp, hm, ht]
 rfl
end Go.Proofs.Ytifffjhhammeiaa
set_option linter.unusedVariables false
set_option linter.unusedSimpArgs false
namespace Go.Proofs.Ytifffjhhammeiaa
open Go.RowKit

def WOwn.foot (a : Wd.At) : List Nat := Rep.blkOf a.P ++ Rep.blkOf a.B ++ Rep.blkOf a.S ++ Rep.blkOf a.M ++ Rep.blkOf a.T
end Go.Proofs.Ytifffjhhammeiaa
namespace Go.Proofs.Ytifffjhhammeiaa
end Go.Proofs.Ytifffjhhammeiaa
set_option linter.unusedVariables false
set_option linter.unusedSimpArgs false
namespace Go.Proofs.Ytifffjhhammeiaa
open Go.RowKit

def Fld.badPlace (p : Int) : Bool := !Fld.placeOk p
end Go.Proofs.Ytifffjhhammeiaa
set_option linter.unusedVariables false
set_option linter.unusedSimpArgs false
namespace Go.Proofs.Ytifffjhhammeiaa
open Go.RowKit

end Go.Proofs.Ytifffjhhammeiaa
set_option linter.unusedVariables false
set_option linter.unusedSimpArgs false
namespace Go.Proofs.Ytifffjhhammeiaa
open Go.RowKit

def AtPost (f : Fld) (c : Cel) (w : World) (e : Ending) (w' : World) : Prop := e = .returned (.tuple #[.int .i64 (f.atV c), .int .i64 (f.atE c)]) ∧ Below w.heap.size w w'
end Go.Proofs.Ytifffjhhammeiaa
set_option linter.unusedVariables false
set_option linter.unusedSimpArgs false
namespace Go.Proofs.Ytifffjhhammeiaa
open Go.RowKit

def Cel.is (p x : Cel) : Bool := decide (x = p)
end Go.Proofs.Ytifffjhhammeiaa
namespace Go.Proofs.Ytifffjhhammeiaa
section
open Go.RowKit
namespace Wd
def priceOf (k : Int) : Int := if k = 1 then 5 else if k = 2 then 12 else 0
end Wd
def reachOf (k : Int) : Int := if k = 1 then 1 else if k = 2 then 2 else 0
def harmOf (k : Int) : Int := if k = 1 then 1 else if k = 2 then 4 else 0
def kindE (k : Int) : Int := if k = 1 then 0 else if k = 2 then 0 else 1
def Wd.zero : Wd := ⟨⟨0, 0, []⟩, [], [], [], [], 0, 0⟩
structure Pairs (a : Wd.At) : Prop where
 PS : ∀ q ∈ Rep.blkOf a.P, q ∈ Rep.blkOf a.S → False
 PM : ∀ q ∈ Rep.blkOf a.P, q ∈ Rep.blkOf a.M → False
 PB : ∀ q ∈ Rep.blkOf a.P, q ∈ Rep.blkOf a.B → False
 PT : ∀ q ∈ Rep.blkOf a.P, q ∈ Rep.blkOf a.T → False
 SM : ∀ q ∈ Rep.blkOf a.S, q ∈ Rep.blkOf a.M → False
 SB : ∀ q ∈ Rep.blkOf a.S, q ∈ Rep.blkOf a.B → False
 ST : ∀ q ∈ Rep.blkOf a.S, q ∈ Rep.blkOf a.T → False
 MB : ∀ q ∈ Rep.blkOf a.M, q ∈ Rep.blkOf a.B → False
 MT : ∀ q ∈ Rep.blkOf a.M, q ∈ Rep.blkOf a.T → False
 BT : ∀ q ∈ Rep.blkOf a.B, q ∈ Rep.blkOf a.T → False
end
section
open Go.RowKit
structure Ded where
 kind : Int
 who : Int
 spot : Cel
 what : Int
 deriving DecidableEq, Inhabited
namespace Ded
def cells (a : Ded) : List Value := [.int .i64 (a.kind), .int .i64 (a.who), .int .i64 (a.spot.x), .int .i64 (a.spot.y), .int .i64 (a.what)]
def ok (a : Ded) : Prop := (Lit.int .i64 a.kind).wf = true ∧ (Lit.int .i64 a.who).wf = true ∧ (Lit.int .i64 a.spot.x).wf = true ∧ (Lit.int .i64 a.spot.y).wf = true ∧ (Lit.int .i64 a.what).wf = true
def raw (j : Nat) (u : Value) : Prop := match j with
 | 0 => ∃ n : Int, u = .int .i64 n
 | 1 => ∃ n : Int, u = .int .i64 n
 | 2 => ∃ n : Int, u = .int .i64 n
 | 3 => ∃ n : Int, u = .int .i64 n
 | 4 => ∃ n : Int, u = .int .i64 n
 | _ => True
theorem cells_raw (a : Ded) : ∀ (j : Nat) u, a.cells[j]? = some u → raw j u := by
 intro j u hu
 match j, hu with
 | 0, hu => exact ⟨_, (Option.some.inj hu).symm⟩
 | 1, hu => exact ⟨_, (Option.some.inj hu).symm⟩
 | 2, hu => exact ⟨_, (Option.some.inj hu).symm⟩
 | 3, hu => exact ⟨_, (Option.some.inj hu).symm⟩
 | 4, hu => exact ⟨_, (Option.some.inj hu).symm⟩
 | j + 5, hu => exact trivial
theorem cells_one (a : Ded) : ∀ u ∈ a.cells, u.oneCell' = true := by
 intro u hu
 unfold cells at hu
 simp only [List.mem_cons, List.not_mem_nil, or_false] at hu
 rcases hu with rfl | rfl | rfl | rfl | rfl <;> rfl
def rep : Rep Ded := Rep.flat 5 cells ok raw (λ _ => rfl) cells_one cells_raw
theorem plain : rep.Plain := Rep.flat_plain
def zero : Value := .agg #[.int .i64 0, .int .i64 0, .int .i64 0, .int .i64 0, .int .i64 0]
def sh : Sh := (.cons (.int .i64) (.cons (.int .i64) (.cons (.cons (.int .i64) (.cons (.int .i64) .nil)) (.cons (.int .i64) .nil))))
theorem opens (w : World) (cs : List Value) (h : sh.Ok w cs) : ∃ a, rep.has w cs a := by
 obtain ⟨_, _, rfl, _, _, ⟨x0, rfl, k0⟩, ⟨_, _, rfl, _, _, ⟨x1, rfl, k1⟩, ⟨_, _, rfl, _, _, ⟨_, _, rfl, _, _, ⟨x2, rfl, k2⟩, ⟨_, _, rfl, _, _, ⟨x3, rfl, k3⟩, rfl⟩⟩, ⟨_, _, rfl, _, _, ⟨x4, rfl, k4⟩, rfl⟩⟩⟩⟩ := h
 exact ⟨⟨x0, x1, ⟨x2, x3⟩, x4⟩, rfl, k0, k1, k2, k3, k4⟩
end Ded
end
end Go.Proofs.Ytifffjhhammeiaa
