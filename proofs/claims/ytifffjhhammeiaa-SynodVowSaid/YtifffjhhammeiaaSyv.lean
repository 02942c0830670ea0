import Derived.Test.YtifffjhhammeiaaGolC
import Derived.Test.YtifffjhhammeiaaGolG
import Derived.Test.YtifffjhhammeiaaGol
set_option linter.unusedVariables false
set_option linter.unusedSimpArgs false
set_option maxRecDepth 100000
set_option maxHeartbeats 4000000
namespace Go.Proofs.Ytifffjhhammeiaa
section
open Go.RowKit
def syF (b : Nat) (a : SyAt) : List Nat := b :: (Rep.blkOf a.V ++ (Rep.blkOf a.R ++ a.T.flatMap λ t => Rep.blkOf t.ha))
theorem SySt.lt {w : World} {Z b : Nat} {a : SyAt} {C : Cou} (h : SySt w Z b a C) : ∀ q ∈ syF b a, Z ≤ q ∧ q < w.heap.size := by
 intro q hq
 unfold syF at hq
 rcases List.mem_cons.1 hq with rfl | hq
 ·exact ⟨h.le, h.blk.lt⟩
 ·rcases List.mem_append.1 hq with hq | hq
  ·exact h.V.lt q hq
  ·rcases List.mem_append.1 hq with hq | hq
   ·exact h.R.lt q hq
   ·obtain ⟨t, ht, hq⟩ := List.mem_flatMap.1 hq; exact h.H.lt t ht q hq
theorem SySt.mod {w w' : World} {Z b : Nat} {a : SyAt} {C : Cou} {S : List Nat} (h : SySt w Z b a C) (m : Mod S w w') (hS : ∀ q ∈ syF b a, q ∉ S) : SySt w' Z b a C :=
 ⟨h.blk.mod m (hS b List.mem_cons_self), h.le, h.V.mod m λ q hq => hS q (List.mem_cons_of_mem _ (List.mem_append.2 (.inl hq))), h.R.mod m λ q hq => hS q (List.mem_cons_of_mem _ (List.mem_append.2 (.inr (List.mem_append.2 (.inl hq))))),
  h.H.mod m λ j t _ hj q hq => hS q (List.mem_cons_of_mem _ (List.mem_append.2 (.inr (List.mem_append.2 (.inr (List.mem_flatMap.2 ⟨t, List.mem_of_getElem? hj, hq⟩)))))), h.bV, h.bR, h.VR, h.hb⟩
theorem SySt.later {w w' : World} {Z b : Nat} {a : SyAt} {C : Cou} (h : SySt w Z b a C) (x : Ext w w') : SySt w' Z b a C := h.mod (S := []) (Mod.of_ext x) λ _ _ h => by simp at h
structure SyO (w : World) (Z : Nat) (a : SyAt) (C : Cou) : Prop where
 V : Vow.rep.SOwn 52 24 w Z (Rep.blkOf a.V) a.V a.v C.vows
 R : Rv.rep.SOwn 69 64 w Z (Rep.blkOf a.R) a.R a.r a.T
 H : Hd (λ _ => False) w Z a.T C.rounds
theorem SyO.later {w w' : World} {Z : Nat} {a : SyAt} {C : Cou} (h : SyO w Z a C) (x : Ext w w') : SyO w' Z a C := ⟨h.V.later x, h.R.later x, h.H.later x⟩
theorem SyO.down {w : World} {Z Z' : Nat} {a : SyAt} {C : Cou} (h : SyO w Z a C) (hz : Z' ≤ Z) : SyO w Z' a C :=
 ⟨h.V.down hz, h.R.down hz, h.H.len, λ j x hX hj => by obtain ⟨A, c, h1, h2⟩ := h.H.own j x hX hj; exact ⟨A, c, h1, Rep.SOwn.down h2 hz⟩, h.H.dis⟩
theorem SySt.out {w : World} {Z b : Nat} {a : SyAt} {C : Cou} (h : SySt w Z b a C) : SyO w Z a C := ⟨h.V, h.R, h.H⟩
def syA0 : SyAt := ⟨none, 0, none, 0, []⟩
theorem SyO.nil (w : World) (Z : Nat) : SyO w Z syA0 ⟨[], []⟩ := ⟨Rep.SOwn.nil _, Rep.SOwn.nil _, rfl, λ j x _ hj => by simp at hj, λ i j s t _ hs => by simp [syA0] at hs⟩
theorem syG_play {N : Nat} {l : List Sst} (h15 : N ≤ 15) (h : ∀ x ∈ l, badS (N : Int) x = false) : ∀ k, k ≤ l.length → SyG N k (plyS N (l.take k))
 | 0, _ => by rw [List.take_zero]; exact SyG.zero h15
 | k + 1, hk => by rw [plyS_snoc (List.getElem?_eq_getElem (by omega))]; exact (syG_play h15 h k (by omega)).step (h _ (List.getElem_mem (by omega)))
theorem syE_1 {n : Int} {l : List Sst} (h : n < 1 ∨ 15 < n) : syE n l = 1 := if_pos h
theorem syE_2 {n : Int} {l : List Sst} (h : ¬ (n < 1 ∨ 15 < n)) (h2 : 500 < l.length) : syE n l = 2 := by unfold syE; rw [if_neg h, if_pos h2]
theorem syE_3 {n : Int} {l : List Sst} (h : ¬ (n < 1 ∨ 15 < n)) (h2 : ¬ 500 < l.length) (h3 : l.any (badS n) = true) : syE n l = 1 := by unfold syE; rw [if_neg h, if_neg h2, if_pos h3]
theorem syE_0 {n : Int} {l : List Sst} (h : ¬ (n < 1 ∨ 15 < n)) (h2 : ¬ 500 < l.length) (h3 : l.any (badS n) = false) : syE n l = 0 := by unfold syE; rw [if_neg h, if_neg h2, if_neg (by rw [h3]; decide)]
theorem syR_bad {n e : Int} {l : List Sst} (h : syE n l = e) (he : e ≠ 0) : syR n l = ⟨[], []⟩ := by unfold syR; rw [if_neg (by rw [h]; exact he)]
theorem syR_ok {N : Nat} {l : List Sst} (h : syE (N : Int) l = 0) : syR (N : Int) l = plyS N l := by unfold syR; rw [if_pos h, Int.toNat_natCast]; rfl
def Fr (a b : World) : Prop := Ext a b
theorem Fr.ext {a b : World} (h : Fr a b) : Ext a b := h
theorem Fr.later {a b c : World} (h : Fr a b) (x : Ext b c) : Fr a c := eT h x
theorem Fr.mod {a b c : World} {S : List Nat} (h : Fr a b) (m : Mod S b c) (hS : ∀ q ∈ S, a.heap.size ≤ q) : Fr a c := Ext.mod h m hS
theorem idxF_St (fC : FuncId) (cs : List Value) (p : Sst → Bool) (A : Option Addr) (c : Nat) (l : List Sst) (w : World) (hl : Sst.rep.SHas 32 w A c l) (hE : Enters Try.prog fC) (hC : ∀ x ∈ l, ∀ w', Ext w w' → Calls Try.prog fC (([.agg #[.int .i64 x.kind, .int .i64 x.who, .int .i64 x.ballot, .int .i64 x.value]] : List Value) ++ cs).toArray w' λ e w'' => e = .returned (.bool (p x)) ∧ Ext w' w'') :
  Calls Try.prog 53 #[.slice A l.length c, .func (.func fC) #[] cs.toArray] w (λ e w' => e = .returned (.int .i64 (idxI p l)) ∧ Ext w w') := by
 have hll := hl.len_le
 refine calls_W (n := 19) Try.func53 rfl rfl rfl ?_
 refine sg <| va rfl <| nK <| sq <| sg <| vm rfl <| vL (ln Try.underlying58 rfl) <| vm rfl <| nK <| bk <| ?_
 refine lp (λ mI EI wI => ∃ k : Nat, EI = [(0, .slice A l.length c), (1, .func (.func fC) #[] cs.toArray), (7, .int .i64 (l.length : Int)), (8, .int .i64 (k : Int))] ∧ mI = l.length - k ∧ Ext w wI ∧ (k ≤ l.length) ∧ (∀ i, i < k → p (l.getD i default) = false)) _ _ ⟨0, rfl, rfl, (Ext.rf w), by omega, λ i hi => by omega⟩ (.cons rfl (.cons rfl (.cons rfl (.cons (loI rfl (by first | omega | rfl | (simp <;> omega))) .nil)))) ?_
 rintro m_2 E_3 w_1 ⟨k, rfl, rfl, z_1, hk, hg⟩
 have := z_1.size
 refine sg <| vL (blt rfl rfl) <| nK <| sq <| ?_
 refine clt rfl (λ h_5 => ?_) (λ h_5 => ?_)
 ·refine sK <| sq <| bk <| sg <| vm rfl <| va rfl <| nK <| sg <| vm rfl <| vm rfl <| vm rfl <| vL (iA k Try.underlying58 eF41 rfl rfl ((hl.keep z_1).adr (zl k (by omega))) rfl (by omega)) <| vL (ld rfl (Rep.SHas.elt hcSt ((hl.keep z_1).adh (zl k (by omega))) (get_d (l := l) (u := default) (by omega)) eF42 eF41)) <| cv hE rfl rfl rfl ((hC (l.getD k default) (mem_dd (by omega)) _ z_1).mono ?_)
  rintro e w_6 ⟨rfl, x_7⟩
  refine ⟨_, rfl, ?_⟩
  have := x_7.size
  have z_6 := eT z_1 x_7
  refine nK <| ?_
  refine cb rfl (λ h_9 => ?_) (λ h_9 => ?_)
  ·refine sg <| vm rfl <| va rfl <| nK <| rt <| tB <| tT <| tK <| tB <| tT <| tR (.tmp rfl .nil) <| ?_
   exact ⟨by have e := idx_some_dd (p := p) (l := l) (d := default) (k := k) (by omega) h_9 hg; rw [e]; rfl, z_6⟩
  ·refine sk <| nB <| nT <| rg <| vL (bad rfl rfl (inI (by omega))) <| vm rfl <| nl <| ?_
   exact nI _ _ ⟨k + 1, rfl, rfl, z_6, by omega, lt_succ_all hg h_9⟩ (by omega) (.cons rfl (.cons rfl (.cons rfl (.cons (loI rfl (by first | omega | rfl | (simp <;> omega))) .nil))))
 ·refine xt <| xT <| xK <| xB <| nT <| sg <| va rfl <| nK <| rt <| tR (.tmp rfl .nil) <| ?_
  exact ⟨by have e := idx_none_dd (p := p) (l := l) (d := default) (λ i hi => hg i (by omega)); rw [e]; rfl, z_1⟩
theorem hasF_St (fC : FuncId) (cs : List Value) (p : Sst → Bool) (A : Option Addr) (c : Nat) (l : List Sst) (w : World) (hl : Sst.rep.SHas 32 w A c l) (hE : Enters Try.prog fC) (hC : ∀ x ∈ l, ∀ w', Ext w w' → Calls Try.prog fC (([.agg #[.int .i64 x.kind, .int .i64 x.who, .int .i64 x.ballot, .int .i64 x.value]] : List Value) ++ cs).toArray w' λ e w'' => e = .returned (.bool (p x)) ∧ Ext w' w'') :
  Calls Try.prog 31 #[.slice A l.length c, .func (.func fC) #[] cs.toArray] w (λ e w' => e = .returned (.bool (l.any p)) ∧ Ext w w') := by
 refine calls_W (n := 9) Try.func31 rfl rfl rfl ?_
 refine sg <| va rfl <| nK <| sg <| vm rfl <| vm rfl <| ca eF43 rfl rfl ((idxF_St fC cs p _ _ l _ (hl.keep (Ext.rf w)) hE (λ x hx w' h => hC x hx w' (eT (Ext.rf w) h))).mono ?_)
 rintro e w_1 ⟨rfl, x_2⟩
 refine ⟨_, rfl, ?_⟩
 have := x_2.size
 have z_1 := eT (Ext.rf w) x_2
 refine vL (bge rfl rfl) <| va rfl <| nK <| rt <| tR (.tmp rfl .nil) <| ?_
 exact ⟨by rw [idxI_any]; rfl, z_1⟩
theorem badX_any (x : Sst) (n : Int) (b : Nat) (w : World) (HB : Blk w b [.int .i64 n] 3 (0, 0)) :
  Calls Try.prog 51 #[.agg #[.int .i64 x.kind, .int .i64 x.who, .int .i64 x.ballot, .int .i64 x.value], .pointer (some ⟨b, 0, none⟩)] w (λ e w' => e = .returned (.bool (badS n x)) ∧ Ext w w') := by
 refine calls_W (n := 33) Try.func51 rfl rfl rfl ?_
 refine sg <| bx rfl rfl rfl rfl λ w_1 b_2 x_3 l_4 B_5 => ?_
 have := x_3.size
 have z_1 := eT (Ext.rf w) x_3
 have q_7 := B_5.lt
 refine va rfl <| nK <| sg <| vL (fa eF25 rfl) <| vL (ld rfl (B_5.one eF4 rfl)) <| vL (blt rfl rfl) <| vm rfl <| vQ rfl rfl rfl rfl (λ hc => fa eF25 rfl) rfl <| vQ rfl rfl rfl rfl (λ hc => ld (gt hc rfl) (B_5.one eF4 rfl)) rfl <| vQ rfl rfl rfl rfl (λ hc => bgt (gt hc rfl) rfl) rfl <| vL (pO rfl rfl rfl rfl) <| vm rfl <| vQ rfl rfl rfl rfl (λ hc => fa eF24 rfl) rfl <| vQ rfl rfl rfl rfl (λ hc => ld (gt hc rfl) (B_5.one eF4 rfl)) rfl <| vQ rfl rfl rfl rfl (λ hc => blt (gt hc rfl) rfl) rfl <| vL (pO rfl rfl rfl rfl) <| vm rfl <| vQ rfl rfl rfl rfl (λ hc => fa eF24 rfl) rfl <| vQ rfl rfl rfl rfl (λ hc => ld (gt hc rfl) (B_5.one eF4 rfl)) rfl <| ?_
 have HB := HB.later x_3
 refine vQ rfl rfl rfl rfl (λ hc => ld rfl (HB.one eF4 rfl)) rfl <| vQ rfl rfl rfl rfl (λ hc => bge (gt hc rfl) (gt hc rfl)) rfl <| vL (pO rfl rfl rfl rfl) <| vm rfl <| vQ rfl rfl rfl rfl (λ hc => fa eF22 rfl) rfl <| vQ rfl rfl rfl rfl (λ hc => ld (gt hc rfl) (B_5.one eF4 rfl)) rfl <| vQ rfl rfl rfl rfl (λ hc => blt (gt hc rfl) rfl) rfl <| vL (pO rfl rfl rfl rfl) <| vm rfl <| vQ rfl rfl rfl rfl (λ hc => fa eF22 rfl) rfl <| vQ rfl rfl rfl rfl (λ hc => ld (gt hc rfl) (B_5.one eF4 rfl)) rfl <| vQ rfl rfl rfl rfl (λ hc => bgt (gt hc rfl) rfl) rfl <| vL (pO rfl rfl rfl rfl) <| va rfl <| nK <| rt <| tR (.tmp rfl .nil) <| ?_
 exact ⟨rfl, z_1⟩
theorem play_bad (n : Int) (l : List Sst) (A : Option Addr) (c : Nat) (w : World) (hl : Sst.rep.SHas 32 w A c l) (hn : n < 1 ∨ 15 < n) :
  Calls Try.prog 29 #[.int .i64 n, .slice A l.length c] w (λ e w' => ∃ V v R r T, e = .returned (.tuple #[.agg #[.slice V (syR n l).vows.length v, .slice R (T : List Rv).length r], .int .i64 (syE n l)]) ∧ SyO w' w.heap.size ⟨V, v, R, r, T⟩ (syR n l) ∧ Ext w w') := by
 have hkn : (decide (n < 1) || decide (15 < n)) = true := by simpa using hn
 refine calls_W (n := 39) Try.func29 rfl rfl rfl ?_
 refine sg <| bx rfl rfl rfl rfl λ w_1 b_2 x_3 l_4 B_5 => ?_
 have := x_3.size
 have z_1 := eT (Ext.rf w) x_3
 have q_7 := B_5.lt
 refine al rfl eF44 rfl rfl λ w_8 b_9 x_10 l_11 B_12 => ?_
 have := x_10.size
 have z_8 := eT z_1 x_10
 have q_14 := B_12.lt
 refine va rfl <| nK <| sq <| sg <| ?_
 have B_5 := B_5.later x_10
 refine vL (ld rfl (B_5.one eF4 rfl)) <| vL (blt rfl rfl) <| vm rfl <| vQ rfl rfl rfl rfl (λ hc => ld rfl (B_5.one eF4 rfl)) rfl <| vQ rfl rfl rfl rfl (λ hc => bgt (gt hc rfl) rfl) rfl <| vL (pO rfl rfl rfl rfl) <| nK <| cT (evb rfl hkn) <| sg <| vL (v := .agg #[.slice none 0 0, .slice none 0 0]) (bd rfl (by kernel_rfl)) <| st (new := [.slice none 0 0, .slice none 0 0]) rfl rfl B_12 rfl eF45 rfl rfl rfl λ w_15 m_16 B_12 => ?_
 have := m_16.size
 have z_15 := Ext.mod z_8 m_16 (ge1 (by omega))
 have := m_16.size
 refine va rfl <| nK <| rt <| tT <| tR (.cell rfl (B_12.all eF46 eF45) (.tmp rfl .nil)) <| ?_
 have hE : syE n l = 1 := syE_1 hn
 have hR := syR_bad hE (by decide)
 exact ⟨none, 0, none, 0, [], by rw [hE, hR]; rfl, by rw [hR]; exact SyO.nil _ _, z_15⟩
theorem play_nat (N : Nat) (l : List Sst) (A : Option Addr) (c : Nat) (w : World) (hl : Sst.rep.SHas 32 w A c l) (hn : ¬ ((N : Int) < 1 ∨ 15 < (N : Int))) :
  Calls Try.prog 29 #[.int .i64 (N : Int), .slice A l.length c] w (λ e w' => ∃ V v R r T, e = .returned (.tuple #[.agg #[.slice V (syR (N : Int) l).vows.length v, .slice R (T : List Rv).length r], .int .i64 (syE (N : Int) l)]) ∧ SyO w' w.heap.size ⟨V, v, R, r, T⟩ (syR (N : Int) l) ∧ Ext w w') := by
 have hkn : (decide ((N : Int) < 1) || decide (15 < (N : Int))) = false := by simpa using hn
 have hN : 1 ≤ N ∧ N ≤ 15 := by omega
 refine calls_W (n := 39) Try.func29 rfl rfl rfl ?_
 refine sg <| bx rfl rfl rfl rfl λ w_1 b_2 x_3 l_4 B_5 => ?_
 have := x_3.size
 have z_1 := eT (Ext.rf w) x_3
 have q_7 := B_5.lt
 refine al rfl eF44 rfl rfl λ w_8 b_9 x_10 l_11 B_12 => ?_
 have := x_10.size
 have z_8 := eT z_1 x_10
 have q_14 := B_12.lt
 refine va rfl <| nK <| sq <| sg <| ?_
 have B_5 := B_5.later x_10
 refine vL (ld rfl (B_5.one eF4 rfl)) <| vL (blt rfl rfl) <| vm rfl <| vQ rfl rfl rfl rfl (λ hc => ld rfl (B_5.one eF4 rfl)) rfl <| vQ rfl rfl rfl rfl (λ hc => bgt (gt hc rfl) rfl) rfl <| vL (pO rfl rfl rfl rfl) <| nK <| cF (evb rfl hkn) <| sK <| sq <| sg <| vm rfl <| vL (ln Try.underlying58 rfl) <| vL (bgt rfl rfl) <| nK <| ?_
 refine clt rfl (λ h_15 => ?_) (λ h_15 => ?_)
 ·have h5 : 500 < l.length := by omega
  refine sg <| vL (v := .agg #[.slice none 0 0, .slice none 0 0]) (bd rfl (by kernel_rfl)) <| st (new := [.slice none 0 0, .slice none 0 0]) rfl rfl B_12 rfl eF45 rfl rfl rfl λ w_16 m_17 B_12 => ?_
  have := m_17.size
  have z_16 := Ext.mod z_8 m_17 (ge1 (by omega))
  have := m_17.size
  refine va rfl <| nK <| rt <| tT <| tR (.cell rfl (B_12.all eF46 eF45) (.tmp rfl .nil)) <| ?_
  have hE : syE (N : Int) l = 2 := syE_2 hn h5
  have hR := syR_bad hE (by decide)
  exact ⟨none, 0, none, 0, [], by rw [hE, hR]; rfl, by rw [hR]; exact SyO.nil _ _, z_16⟩
 ·have h5 : ¬ 500 < l.length := by omega
  refine sK <| sq <| sg <| vm rfl <| vL (mf rfl rfl) <| ca eF48 rfl rfl ((hasF_St 51 [.pointer (some ⟨b_2, 0, none⟩)] (badS (N : Int)) _ _ l _ (hl.keep z_8) eF47 (λ x hx w' h => badX_any x (N : Int) b_2 w' (B_5.later h))).mono ?_)
  rintro e w_20 ⟨rfl, x_21⟩
  refine ⟨_, rfl, ?_⟩
  have := x_21.size
  have z_20 := eT z_8 x_21
  refine nK <| ?_
  refine cb rfl (λ h_23 => ?_) (λ h_23 => ?_)
  ·have han : l.any (badS (N : Int)) = true := by simpa using h_23
   refine sg <| vL (v := .agg #[.slice none 0 0, .slice none 0 0]) (bd rfl (by kernel_rfl)) <| ?_
   have B_12 := B_12.later x_21
   refine st (new := [.slice none 0 0, .slice none 0 0]) rfl rfl B_12 rfl eF45 rfl rfl rfl λ w_24 m_25 B_12 => ?_
   have := m_25.size
   have z_24 := Ext.mod z_20 m_25 (ge1 (by omega))
   have := m_25.size
   refine va rfl <| nK <| rt <| tT <| tR (.cell rfl (B_12.all eF46 eF45) (.tmp rfl .nil)) <| ?_
   have hE : syE (N : Int) l = 1 := syE_3 hn h5 han
   have hR := syR_bad hE (by decide)
   exact ⟨none, 0, none, 0, [], by rw [hE, hR]; rfl, by rw [hR]; exact SyO.nil _ _, z_24⟩
  ·have han : l.any (badS (N : Int)) = false := by simpa using h_23
   have hall : ∀ x ∈ l, badS (N : Int) x = false := λ x hx => by rw [List.any_eq_false] at han; simpa using han x hx
   refine sK <| sg <| ?_
   have B_5 := B_5.later x_21
   refine vL (ld rfl (B_5.one eF4 rfl)) <| ?_
   have FY : Fr w_20 w_20 := Ext.rf _
   refine mK (R := Vow.rep) (by_ := 24) (B := w_20.heap.size) (c := N) (zv := Vow.zero) (q := default) Rep.flat_plain Try.underlying59 Vow.info rfl (by decide) Vow.zero_raw (λ _ => ⟨rfl, by decide, by decide, by decide⟩) rfl rfl rfl (by omega) (by omega) (by omega) λ w_28 b_29 x_30 l_31 O_32 => ?_
   have := x_30.size
   have z_28 := eT z_20 x_30
   have u_34 := λ q hq => (O_32.lt q hq).2
   refine vL (v := .agg #[.slice (some ⟨b_29, 0, none⟩) N N, .slice none 0 0]) (bd rfl (by kernel_rfl)) <| vL (v := .agg #[.slice (some ⟨b_29, 0, none⟩) N N, .slice none 0 0]) (bd rfl (by kernel_rfl)) <| al rfl eF49 rfl rfl λ w_36 b_37 x_38 l_39 B_40 => ?_
   have := x_38.size
   have z_36 := eT z_28 x_38
   have q_42 := B_40.lt
   refine st (new := [.slice (some ⟨b_29, 0, none⟩) N N, .slice none 0 0]) rfl rfl B_40 rfl eF50 rfl rfl rfl λ w_43 m_44 B_40 => ?_
   have := m_44.size
   have z_43 := Ext.mod z_36 m_44 (ge1 (by omega))
   have := m_44.size
   refine nK <| sq <| sg <| vm rfl <| vL (ln Try.underlying58 rfl) <| vm rfl <| nK <| bk <| ?_
   have O_32 := O_32.later x_38
   have O_32 := O_32.mod m_44 (fk1 u_34 (by omega))
   have HS0 : SySt w_43 w_20.heap.size b_37 ⟨some ⟨b_29, 0, none⟩, N, none, 0, []⟩ (plyS N (l.take 0)) := ⟨(by have h_ := B_40; simpa [syC, plyS, cou0] using h_), by omega, (by have h_ := O_32; exact h_), Rep.SOwn.nil _, ⟨rfl, λ j x _ hj => by simp [plyS, cou0] at hj, λ i j s t _ hs => by simp at hs⟩, (λ q hq hb_ => by (have := u_34 q hq; omega)), (λ q hq => by simp [Rep.blkOf] at hq), (λ q hq => by simp [Rep.blkOf] at hq), (λ t ht => by simp at ht)⟩
   have B_12 := B_12.later (eT x_21 (eT x_30 x_38))
   have B_12 := B_12.mod m_44 (nm1 (by omega))
   have FY := FY.later (eT x_30 x_38)
   have FY := FY.mod m_44 (λ q hq => by have := List.mem_singleton.1 hq; omega)
   refine lp (λ mI EI wI => ∃ k : Nat, ∃ a0 : SyAt, EI = [(4, .pointer (some ⟨b_9, 0, none⟩)), (5, .int .i64 0), (6, .pointer (some ⟨b_37, 0, none⟩)), (28, .slice A l.length c), (29, .int .i64 (l.length : Int)), (30, .int .i64 (k : Int))] ∧ mI = l.length - k ∧ Ext w wI ∧ Blk wI b_9 [.slice none 0 0, .slice none 0 0] 62 (0, 0) ∧ Fr w_20 wI ∧ SySt wI w_20.heap.size b_37 a0 (plyS N (l.take k)) ∧ (k ≤ l.length)) _ _ ⟨0, ⟨some ⟨b_29, 0, none⟩, N, none, 0, []⟩, rfl, rfl, z_43, B_12, FY, HS0, by omega⟩ (.cons rfl (.cons rfl (.cons rfl (.cons rfl (.cons rfl (.cons (loI rfl (by first | omega | rfl | (simp <;> omega))) .nil)))))) ?_
   rintro m_48 E_49 w_47 ⟨k, a0, rfl, rfl, z_47, B_12, FY, HS, hk⟩
   have := z_47.size
   have q_51 := B_12.lt
   have uS := λ q hq => (HS.lt q hq).2
   have lS := λ q hq => (HS.lt q hq).1
   have qF := FY.ext.size
   refine sg <| vL (blt rfl rfl) <| nK <| sq <| ?_
   refine clt rfl (λ h_52 => ?_) (λ h_52 => ?_)
   ·obtain ⟨xs, hxs⟩ : ∃ xs, l[k]? = some xs := ⟨_, List.getElem?_eq_getElem (by omega)⟩
    have hxm := List.mem_of_getElem? hxs
    refine sK <| sq <| bk <| sg <| vL (iA k Try.underlying58 eF41 rfl rfl ((hl.keep z_47).adr (zl k (by omega))) rfl (by omega)) <| vL (ld rfl (Rep.SHas.elt hcSt ((hl.keep z_47).adh (zl k (by omega))) hxs eF42 eF41)) <| al rfl eF51 rfl rfl λ w_53 b_54 x_55 l_56 B_57 => ?_
    have := x_55.size
    have z_53 := eT z_47 x_55
    have q_59 := B_57.lt
    refine st (new := [.int .i64 xs.kind, .int .i64 xs.who, .int .i64 xs.ballot, .int .i64 xs.value]) rfl rfl B_57 rfl eF41 rfl rfl rfl λ w_60 m_61 B_57 => ?_
    have := m_61.size
    have z_60 := Ext.mod z_53 m_61 (ge1 (by omega))
    have := m_61.size
    refine nK <| rg <| vL (ld rfl (B_57.all eF42 eF41)) <| ?_
    have HS := HS.later x_55
    have HS := HS.mod m_61 (λ q hq h => by have := uS q hq; have := lS q hq; have := List.mem_singleton.1 h; omega)
    have FY := FY.later x_55
    have FY := FY.mod m_61 (λ q hq => by have := List.mem_singleton.1 hq; omega)
    refine ca eF52 rfl rfl ((step_any w_20 b_37 a0 _ xs N k _ FY.ext HS (syG_play (by omega) hall k (by omega)) (by omega) (hall xs hxm) (Sst.all_ok hl xs hxm)).mono ?_)
    rintro e w_65 ⟨a1, rfl, HS2, m_64⟩
    refine ⟨_, rfl, ?_⟩
    have := m_64.size
    have z_65 := Ext.mod z_60 m_64 (λ q hq => Nat.le_trans (by omega) (above_le hq))
    refine nl <| nB <| nT <| rg <| vL (bad rfl rfl (inI (by omega))) <| vm rfl <| nl <| ?_
    have B_12 := B_12.later x_55
    have B_12 := B_12.mod m_61 (nm1 (by omega))
    have B_12 := B_12.mod m_64 (λ hq => by have := above_le hq; omega)
    have FY := FY.mod m_64 (λ q hq => above_le hq)
    exact nI _ _ ⟨k + 1, a1, rfl, rfl, z_65, B_12, FY, (by rw [plyS_snoc hxs]; exact HS2), by omega⟩ (by omega) (.cons rfl (.cons rfl (.cons rfl (.cons rfl (.cons rfl (.cons (loI rfl (by first | omega | rfl | (simp <;> omega))) .nil))))))
   ·have ek : k = l.length := by omega
    rw [ek, List.take_length] at HS
    have HBs := HS.blk
    refine xt <| xT <| xK <| xB <| nT <| sg <| vL (fa eF13 rfl) <| vL (ld rfl (HBs.all eF46 eF45)) <| st (new := [.slice a0.V ((plyS N l).vows.length) a0.v, .slice a0.R a0.T.length a0.r]) rfl rfl B_12 rfl eF45 rfl rfl rfl λ w_67 m_68 B_12 => ?_
    have := m_68.size
    have z_67 := Ext.mod z_47 m_68 (ge1 (by omega))
    have := m_68.size
    refine va rfl <| nK <| rt <| tR (.cell rfl (B_12.all eF46 eF45) (.tmp rfl .nil)) <| ?_
    have hE : syE (N : Int) l = 0 := syE_0 hn h5 han
    have hR := syR_ok hE
    have HS := HS.mod m_68 (λ q hq h => by have := uS q hq; have := lS q hq; have := List.mem_singleton.1 h; omega)
    have HO := HS.out.down (Z' := w.heap.size) (by omega)
    exact ⟨a0.V, a0.v, a0.R, a0.r, a0.T, by rw [hE, hR]; rfl, by rw [hR]; exact HO, z_67⟩
theorem play_any (n : Int) (l : List Sst) (A : Option Addr) (c : Nat) (w : World) (hl : Sst.rep.SHas 32 w A c l) :
  Calls Try.prog 29 #[.int .i64 n, .slice A l.length c] w (λ e w' => ∃ V v R r T, e = .returned (.tuple #[.agg #[.slice V (syR n l).vows.length v, .slice R (T : List Rv).length r], .int .i64 (syE n l)]) ∧ SyO w' w.heap.size ⟨V, v, R, r, T⟩ (syR n l) ∧ Ext w w') := by
 by_cases h : n < 1 ∨ 15 < n
 ·exact play_bad n l A c w hl h
 ·obtain ⟨N, rfl⟩ : ∃ N : Nat, n = N := ⟨n.toNat, by omega⟩
  exact play_nat N l A c w hl h
end
section
open Go.RowKit
theorem Syc_el_S_int : ElT Try.prog repI 34 3 8 := ElT.mk_ (z := .int .i64 0) (k := 1) Try.underlying34 info_int rfl rfl (by decide) (λ j u h => raw0I j u h)
theorem Syc_el_S_api_Step : ElT Try.prog Sst.rep 58 72 32 := ElT.mk_ (z := Sst.zero) (k := 4) Try.underlying58 Sst.info rfl rfl (by decide) Sst.zero_raw
def chL (C : Cou) (k : Nat) : List Int := ((C.rounds.take k).filter (chosB C.vows.length)).map (·.v)
theorem chL_snoc {C : Cou} {k : Nat} {r : Rnd} (h : C.rounds[k]? = some r) : chL C (k + 1) = if chosB C.vows.length r = true then chL C k ++ [r.v] else chL C k := by
 obtain ⟨hk, rfl⟩ := List.getElem?_eq_some_iff.1 h
 unfold chL
 rw [List.take_succ_eq_append_getElem hk, List.filter_append, List.map_append]
 split
 ·rename_i hc; simp [hc]
 ·rename_i hc; simp [hc]
theorem chL_len {C : Cou} {k : Nat} : (chL C k).length ≤ k := by unfold chL; rw [List.length_map]; exact Nat.le_trans (List.length_filter_le _ _) (by rw [List.length_take]; omega)
theorem chL_end {C : Cou} : chL C C.rounds.length = C.chosen := by unfold chL Cou.chosen; rw [List.take_length]
theorem lt_int (n s : Nat) : decide (n < 2 * s) = decide ((n : Int) < 2 * (s : Int)) := by rw [decide_eq_decide]; omega
theorem chosB_int (n : Nat) (r : Rnd) : chosB n r = (r.asked && decide ((n : Int) < 2 * (Vote.size r.q : Int))) := by unfold chosB; rw [lt_int]
def lvS : List Sst := [⟨1, 0, 4, 0⟩, ⟨1, 1, 4, 0⟩, ⟨1, 2, 4, 0⟩, ⟨2, 0, 4, 77⟩, ⟨3, 0, 4, 0⟩, ⟨3, 1, 4, 0⟩, ⟨3, 2, 4, 0⟩]
theorem chosen_any (Z : Nat) (a : SyAt) (C : Cou) (w : World) (hO : SyO w Z a C) (hC : ∀ r ∈ C.rounds, r.q < 32768) (hT : a.T.length ≤ 1000000) :
  Calls Try.prog 30 #[.agg #[.slice a.V C.vows.length a.v, .slice a.R a.T.length a.r]] w (λ e w' => ∃ A c, e = .returned (.slice A C.chosen.length c) ∧ repI.SOwn 3 8 w' w.heap.size (Rep.blkOf A) A c C.chosen ∧ Ext w w') := by
 have hR := hO.R.has
 have hall := Rv.all_ok hR
 refine calls_W (n := 32) Try.func30 rfl rfl rfl ?_
 refine sg <| bx rfl rfl rfl rfl λ w_1 b_2 x_3 l_4 B_5 => ?_
 have := x_3.size
 have z_1 := eT (Ext.rf w) x_3
 have q_7 := B_5.lt
 refine va rfl <| nK <| sg <| va rfl <| nK <| sq <| sg <| vL (fa eF14 rfl) <| vL (ld rfl (B_5.one eF15 rfl)) <| vL (ln Try.underlying60 rfl) <| vm rfl <| nK <| bk <| ?_
 refine lp (λ mI EI wI => ∃ k : Nat, ∃ Lo : List Int, ∃ AL : Option Addr, ∃ cL : Nat, EI = [(1, .pointer (some ⟨b_2, 0, none⟩)), (2, .slice none 0 0), (3, .slice AL Lo.length cL), (7, .slice a.R a.T.length a.r), (8, .int .i64 (a.T.length : Int)), (9, .int .i64 (k : Int))] ∧ mI = a.T.length - k ∧ Ext w wI ∧ Blk wI b_2 [.slice a.V C.vows.length a.v, .slice a.R a.T.length a.r] 62 (0, 0) ∧ repI.SOwn 3 8 wI w.heap.size (Rep.blkOf AL) AL cL Lo ∧ (k ≤ a.T.length) ∧ (Lo = chL C k) ∧ (∀ q ∈ Rep.blkOf AL, q = b_2 → False)) _ _ ⟨0, ([] : List Int), none, 0, rfl, rfl, z_1, B_5, (Rep.SOwn.nil _), by omega, rfl, (λ q hq hb => by (simp [Rep.blkOf] at hq))⟩ (.cons rfl (.cons rfl (.cons rfl (.cons rfl (.cons rfl (.cons (loI rfl (by first | omega | rfl | (simp <;> omega))) .nil)))))) ?_
 rintro m_10 E_11 w_9 ⟨k, Lo, AL, cL, rfl, rfl, z_9, B_5, OLx, hk, hLo, d_8⟩
 have := z_9.size
 have q_13 := B_5.lt
 have u_14 := λ q hq => (OLx.lt q hq).2
 have hLl : Lo.length ≤ k := by rw [hLo]; exact chL_len
 refine sg <| vL (blt rfl rfl) <| nK <| sq <| ?_
 refine clt rfl (λ h_15 => ?_) (λ h_15 => ?_)
 ·obtain ⟨r, hr⟩ : ∃ r, C.rounds[k]? = some r := ⟨_, List.getElem?_eq_getElem (by rw [← hO.H.len]; omega)⟩
  obtain ⟨Ah, ch, hTk, _⟩ := hO.H.own k r id hr
  have hrv : okI r.v := (hall _ (List.mem_of_getElem? hTk)).2.1
  refine sK <| sq <| bk <| sg <| vL (iA k Try.underlying60 eF0 rfl rfl ((hR.keep z_9).adr (zl k (by omega))) rfl (by omega)) <| vL (ld rfl (Rep.SHas.elt hcRv ((hR.keep z_9).adh (zl k (by omega))) hTk eF11 eF0)) <| al rfl eF53 rfl rfl λ w_16 b_17 x_18 l_19 B_20 => ?_
  have := x_18.size
  have z_16 := eT z_9 x_18
  have q_22 := B_20.lt
  refine st (new := [.int .i64 r.b, .int .u32 (r.p : Int), .slice Ah r.h.length ch, .bool r.asked, .int .i64 r.v, .int .u32 (r.q : Int)]) rfl rfl B_20 rfl eF0 rfl rfl rfl λ w_23 m_24 B_20 => ?_
  have := m_24.size
  have z_23 := Ext.mod z_16 m_24 (ge1 (by omega))
  have := m_24.size
  refine nK <| sq <| ?_
  refine rd [(1, 0), (4, 0), (5, 0), (8, 0)] [0, 1, 2, 3, 4, 5, 6, 7, 8, 9, 10, 11] (by kernel_rfl) (by kernel_rfl) ?_
  refine fw1 rfl (λ _ => fa eF32 rfl) <| fq1 rfl (λ _ x => ld rfl ((B_20.later x).one eF33 rfl)) <| fw1 rfl (λ _ => mv rfl) <| fW rfl rfl rfl rfl rfl rfl (λ hc _ => fa eF40 rfl) rfl <| fQ rfl rfl rfl rfl rfl rfl (λ hc _ x => ld (gt hc rfl) ((B_20.later x).one eF28 rfl)) rfl <| fC rfl rfl rfl rfl rfl rfl eF19 (λ hc => ec (gt hc rfl) rfl) (λ hc _ x => onesS r.q (by have := hC r (List.mem_of_getElem? hr); omega) _) rfl <| fW rfl rfl rfl rfl rfl rfl (λ hc _ => bmu rfl (gt hc rfl) (inI (by have h_ := Vote.cnt_le 32 r.q; unfold Vote.size; omega))) rfl <| fW rfl rfl rfl rfl rfl rfl (λ hc _ => fa eF20 rfl) rfl <| ?_
  have B_5 := B_5.later x_18
  have B_5 := B_5.mod m_24 (nm1 (by omega))
  refine fQ rfl rfl rfl rfl rfl rfl (λ hc _ x => ld (gt hc rfl) ((B_5.later x).one eF21 rfl)) rfl <| fW rfl rfl rfl rfl rfl rfl (λ hc _ => ln Try.underlying59 (gt hc rfl)) rfl <| fW rfl rfl rfl rfl rfl rfl (λ hc _ => bgt (gt hc rfl) (gt hc rfl)) rfl <| fw1 rfl (λ _ => pA rfl rfl rfl rfl) <| fn λ w_27 x_28 => ?_
  have := x_28.size
  have z_27 := eT z_23 x_28
  refine nT <| ?_
  refine cb rfl (λ h_30 => ?_) (λ h_30 => ?_)
  ·have hcb : chosB C.vows.length r = true := by rw [chosB_int]; exact h_30
   refine rg <| vm rfl <| vL (fa eF38 rfl) <| ?_
   have B_20 := B_20.later x_28
   refine vL (ld rfl (B_20.one eF4 rfl)) <| bs (e := 3) (cs := [.int .i64 r.v]) rfl (λ _ => by kernel_rfl) rfl λ w_31 b_32 x_33 l_34 B_35 => ?_
   have := x_33.size
   have z_31 := eT z_27 x_33
   have q_37 := B_35.lt
   have OLx := OLx.later x_18
   have OLx := OLx.mod m_24 (fk1 u_14 (by omega))
   have OLx := OLx.later (eT x_28 x_33)
   refine ap Syc_el_S_int Rep.flat_bare OLx (Blk.has1 (R := repI) (by_ := 8) (q := r.v) B_35 ⟨rfl, hrv⟩ (by decide)) rfl rfl (by simp only [List.length_cons, List.length_nil]; omega) (by simp only [List.length_cons, List.length_nil]; omega) (by omega) rfl λ w_38 A_39 c_40 m_41 O_42 g_43 n_44 => ?_
   have := m_41.size
   have z_38 := Ext.mod z_31 m_41 (λ q hq => Nat.le_trans (by omega) (OLx.lt q hq).1)
   have u_46 := λ q hq => (O_42.lt q hq).2
   have := m_41.size
   refine va rfl <| nl <| nB <| nT <| rg <| vL (bad rfl rfl (inI (by omega))) <| vm rfl <| nl <| ?_
   have B_5 := B_5.later (eT x_28 x_33)
   have B_5 := B_5.mod m_41 (λ hq => d_8 _ hq rfl)
   exact nI _ _ ⟨k + 1, Lo ++ [r.v], A_39, c_40, rfl, rfl, z_38, B_5, O_42, by omega, by rw [chL_snoc hr, if_pos hcb, hLo], (λ q hq hb => by (exact Or.elim (g_43 q hq) (λ k_48 => by (exact d_8 q k_48 hb)) (λ k_48 => by omega)))⟩ (by omega) (.cons rfl (.cons rfl (.cons rfl (.cons rfl (.cons rfl (.cons (loI rfl (by first | omega | rfl | (simp <;> omega))) .nil))))))
  ·have hcb : chosB C.vows.length r = false := by rw [chosB_int]; exact h_30
   refine sk <| nB <| nT <| rg <| vL (bad rfl rfl (inI (by omega))) <| vm rfl <| nl <| ?_
   have B_5 := B_5.later x_28
   have OLx := OLx.later x_18
   have OLx := OLx.mod m_24 (fk1 u_14 (by omega))
   have OLx := OLx.later x_28
   exact nI _ _ ⟨k + 1, Lo, AL, cL, rfl, rfl, z_27, B_5, OLx, by omega, by rw [chL_snoc hr, if_neg (by rw [hcb]; decide), hLo], (λ q hq hb => by (exact d_8 q hq hb))⟩ (by omega) (.cons rfl (.cons rfl (.cons rfl (.cons rfl (.cons rfl (.cons (loI rfl (by first | omega | rfl | (simp <;> omega))) .nil))))))
 ·have ek : k = C.rounds.length := by rw [← hO.H.len]; omega
  refine xt <| xT <| xK <| xB <| nT <| sg <| vm rfl <| va rfl <| nK <| rt <| tR (.tmp rfl .nil) <| ?_
  have he : Lo = C.chosen := by rw [hLo, ek]; exact chL_end
  exact ⟨AL, cL, by rw [← he]; rfl, by rw [← he]; exact OLx, z_9⟩
theorem ballotOf_lv  (w : World) :
  Calls Try.prog 49 #[.int .i64 3, .int .i64 4, .int .i64 77] w (λ e w' => ∃ A c, e = .returned (.slice A 7 c) ∧ Sst.rep.SOwn 72 32 w' w.heap.size (Rep.blkOf A) A c lvS ∧ Ext w w') := by
 refine calls_W (n := 39) Try.func49 rfl rfl rfl ?_
 refine sg <| va rfl <| nK <| sg <| va rfl <| nK <| sq <| sg <| vm rfl <| vm rfl <| nK <| bk <| lu 4 <| lr <| sg <| vL (blt rfl rfl) <| nl <| ?_
 refine nT <| sq <| cT rfl <| sK <| sq <| bk <| sg <| vm rfl <| va rfl <| nK <| rg <| vm rfl <| vm rfl <| vm rfl <| vL (v := .agg #[.int .i64 1, .int .i64 0, .int .i64 4, .int .i64 0]) (bd rfl (by kernel_rfl)) <| bs (e := 72) (cs := [.int .i64 1, .int .i64 0, .int .i64 4, .int .i64 0]) rfl (λ _ => by kernel_rfl) rfl λ w_1 b_2 x_3 l_4 B_5 => ?_
 have := x_3.size
 have z_1 := eT (Ext.rf w) x_3
 have q_7 := B_5.lt
 have O_8 : Sst.rep.SOwn 72 32 w_1 w.heap.size (Rep.blkOf none) none 0 ([] : List Sst) := Rep.SOwn.nil _
 refine ap Syc_el_S_api_Step Rep.flat_bare O_8 (Blk.has1 (R := Sst.rep) (by_ := 32) (q := (⟨1, 0, 4, 0⟩ : Sst)) B_5 ⟨rfl, ⟨okI_iff.2 (by decide), okI_iff.2 (by decide), okI_iff.2 (by decide), okI_iff.2 (by decide)⟩⟩ (by decide)) rfl rfl (by decide) (by decide) z_1.size rfl λ w_9 A_10 c_11 m_12 O_13 g_14 n_15 => ?_
 have := m_12.size
 have z_9 := Ext.mod z_1 m_12 (λ q hq => (O_8.lt q hq).1)
 have u_17 := λ q hq => (O_13.lt q hq).2
 have := m_12.size
 refine va rfl <| nl <| nB <| nT <| rg <| vL (badL (r := 1) rfl rfl (by decide) (by decide)) <| vm rfl <| nl <| nR <| lr <| sg <| vL (blt rfl rfl) <| nK <| sq <| cT rfl <| sK <| sq <| bk <| sg <| vm rfl <| ?_
 refine va rfl <| nK <| rg <| vm rfl <| vm rfl <| vm rfl <| vL (v := .agg #[.int .i64 1, .int .i64 1, .int .i64 4, .int .i64 0]) (bd rfl (by kernel_rfl)) <| bs (e := 72) (cs := [.int .i64 1, .int .i64 1, .int .i64 4, .int .i64 0]) rfl (λ _ => by kernel_rfl) rfl λ w_19 b_20 x_21 l_22 B_23 => ?_
 have := x_21.size
 have z_19 := eT z_9 x_21
 have q_25 := B_23.lt
 have O_13 := O_13.later x_21
 refine ap Syc_el_S_api_Step Rep.flat_bare O_13 (Blk.has1 (R := Sst.rep) (by_ := 32) (q := (⟨1, 1, 4, 0⟩ : Sst)) B_23 ⟨rfl, ⟨okI_iff.2 (by decide), okI_iff.2 (by decide), okI_iff.2 (by decide), okI_iff.2 (by decide)⟩⟩ (by decide)) rfl rfl (by decide) (by decide) z_19.size rfl λ w_26 A_27 c_28 m_29 O_30 g_31 n_32 => ?_
 have := m_29.size
 have z_26 := Ext.mod z_19 m_29 (λ q hq => (O_13.lt q hq).1)
 have u_34 := λ q hq => (O_30.lt q hq).2
 have := m_29.size
 refine va rfl <| nl <| nB <| nT <| rg <| vL (badL (r := 2) rfl rfl (by decide) (by decide)) <| vm rfl <| nl <| nR <| lr <| sg <| vL (blt rfl rfl) <| nK <| sq <| cT rfl <| sK <| sq <| bk <| sg <| vm rfl <| ?_
 refine va rfl <| nK <| rg <| vm rfl <| vm rfl <| vm rfl <| vL (v := .agg #[.int .i64 1, .int .i64 2, .int .i64 4, .int .i64 0]) (bd rfl (by kernel_rfl)) <| bs (e := 72) (cs := [.int .i64 1, .int .i64 2, .int .i64 4, .int .i64 0]) rfl (λ _ => by kernel_rfl) rfl λ w_36 b_37 x_38 l_39 B_40 => ?_
 have := x_38.size
 have z_36 := eT z_26 x_38
 have q_42 := B_40.lt
 have O_30 := O_30.later x_38
 refine ap Syc_el_S_api_Step Rep.flat_bare O_30 (Blk.has1 (R := Sst.rep) (by_ := 32) (q := (⟨1, 2, 4, 0⟩ : Sst)) B_40 ⟨rfl, ⟨okI_iff.2 (by decide), okI_iff.2 (by decide), okI_iff.2 (by decide), okI_iff.2 (by decide)⟩⟩ (by decide)) rfl rfl (by decide) (by decide) z_36.size rfl λ w_43 A_44 c_45 m_46 O_47 g_48 n_49 => ?_
 have := m_46.size
 have z_43 := Ext.mod z_36 m_46 (λ q hq => (O_30.lt q hq).1)
 have u_51 := λ q hq => (O_47.lt q hq).2
 have := m_46.size
 refine va rfl <| nl <| nB <| nT <| rg <| vL (badL (r := 3) rfl rfl (by decide) (by decide)) <| vm rfl <| nl <| nR <| lr <| sg <| vL (blt rfl rfl) <| nK <| sq <| cF rfl <| xt <| xT <| xK <| xB <| nT <| sg <| ?_
 refine vm rfl <| vm rfl <| vm rfl <| vL (v := .agg #[.int .i64 2, .int .i64 0, .int .i64 4, .int .i64 77]) (bd rfl (by kernel_rfl)) <| bs (e := 72) (cs := [.int .i64 2, .int .i64 0, .int .i64 4, .int .i64 77]) rfl (λ _ => by kernel_rfl) rfl λ w_53 b_54 x_55 l_56 B_57 => ?_
 have := x_55.size
 have z_53 := eT z_43 x_55
 have q_59 := B_57.lt
 have O_47 := O_47.later x_55
 refine ap Syc_el_S_api_Step Rep.flat_bare O_47 (Blk.has1 (R := Sst.rep) (by_ := 32) (q := (⟨2, 0, 4, 77⟩ : Sst)) B_57 ⟨rfl, ⟨okI_iff.2 (by decide), okI_iff.2 (by decide), okI_iff.2 (by decide), okI_iff.2 (by decide)⟩⟩ (by decide)) rfl rfl (by decide) (by decide) z_53.size rfl λ w_60 A_61 c_62 m_63 O_64 g_65 n_66 => ?_
 have := m_63.size
 have z_60 := Ext.mod z_53 m_63 (λ q hq => (O_47.lt q hq).1)
 have u_68 := λ q hq => (O_64.lt q hq).2
 have := m_63.size
 refine va rfl <| nK <| sq <| sg <| vm rfl <| vm rfl <| nK <| bk <| lu 4 <| lr <| sg <| vL (blt rfl rfl) <| nK <| sq <| cT rfl <| sK <| sq <| bk <| ?_
 refine sg <| vm rfl <| va rfl <| nK <| rg <| vm rfl <| vm rfl <| vm rfl <| vL (v := .agg #[.int .i64 3, .int .i64 0, .int .i64 4, .int .i64 0]) (bd rfl (by kernel_rfl)) <| bs (e := 72) (cs := [.int .i64 3, .int .i64 0, .int .i64 4, .int .i64 0]) rfl (λ _ => by kernel_rfl) rfl λ w_70 b_71 x_72 l_73 B_74 => ?_
 have := x_72.size
 have z_70 := eT z_60 x_72
 have q_76 := B_74.lt
 have O_64 := O_64.later x_72
 refine ap Syc_el_S_api_Step Rep.flat_bare O_64 (Blk.has1 (R := Sst.rep) (by_ := 32) (q := (⟨3, 0, 4, 0⟩ : Sst)) B_74 ⟨rfl, ⟨okI_iff.2 (by decide), okI_iff.2 (by decide), okI_iff.2 (by decide), okI_iff.2 (by decide)⟩⟩ (by decide)) rfl rfl (by decide) (by decide) z_70.size rfl λ w_77 A_78 c_79 m_80 O_81 g_82 n_83 => ?_
 have := m_80.size
 have z_77 := Ext.mod z_70 m_80 (λ q hq => (O_64.lt q hq).1)
 have u_85 := λ q hq => (O_81.lt q hq).2
 have := m_80.size
 refine va rfl <| nl <| nB <| nT <| rg <| vL (badL (r := 1) rfl rfl (by decide) (by decide)) <| vm rfl <| nl <| nR <| lr <| sg <| vL (blt rfl rfl) <| nK <| sq <| cT rfl <| sK <| sq <| bk <| sg <| vm rfl <| ?_
 refine va rfl <| nK <| rg <| vm rfl <| vm rfl <| vm rfl <| vL (v := .agg #[.int .i64 3, .int .i64 1, .int .i64 4, .int .i64 0]) (bd rfl (by kernel_rfl)) <| bs (e := 72) (cs := [.int .i64 3, .int .i64 1, .int .i64 4, .int .i64 0]) rfl (λ _ => by kernel_rfl) rfl λ w_87 b_88 x_89 l_90 B_91 => ?_
 have := x_89.size
 have z_87 := eT z_77 x_89
 have q_93 := B_91.lt
 have O_81 := O_81.later x_89
 refine ap Syc_el_S_api_Step Rep.flat_bare O_81 (Blk.has1 (R := Sst.rep) (by_ := 32) (q := (⟨3, 1, 4, 0⟩ : Sst)) B_91 ⟨rfl, ⟨okI_iff.2 (by decide), okI_iff.2 (by decide), okI_iff.2 (by decide), okI_iff.2 (by decide)⟩⟩ (by decide)) rfl rfl (by decide) (by decide) z_87.size rfl λ w_94 A_95 c_96 m_97 O_98 g_99 n_100 => ?_
 have := m_97.size
 have z_94 := Ext.mod z_87 m_97 (λ q hq => (O_81.lt q hq).1)
 have u_102 := λ q hq => (O_98.lt q hq).2
 have := m_97.size
 refine va rfl <| nl <| nB <| nT <| rg <| vL (badL (r := 2) rfl rfl (by decide) (by decide)) <| vm rfl <| nl <| nR <| lr <| sg <| vL (blt rfl rfl) <| nK <| sq <| cT rfl <| sK <| sq <| bk <| sg <| vm rfl <| ?_
 refine va rfl <| nK <| rg <| vm rfl <| vm rfl <| vm rfl <| vL (v := .agg #[.int .i64 3, .int .i64 2, .int .i64 4, .int .i64 0]) (bd rfl (by kernel_rfl)) <| bs (e := 72) (cs := [.int .i64 3, .int .i64 2, .int .i64 4, .int .i64 0]) rfl (λ _ => by kernel_rfl) rfl λ w_104 b_105 x_106 l_107 B_108 => ?_
 have := x_106.size
 have z_104 := eT z_94 x_106
 have q_110 := B_108.lt
 have O_98 := O_98.later x_106
 refine ap Syc_el_S_api_Step Rep.flat_bare O_98 (Blk.has1 (R := Sst.rep) (by_ := 32) (q := (⟨3, 2, 4, 0⟩ : Sst)) B_108 ⟨rfl, ⟨okI_iff.2 (by decide), okI_iff.2 (by decide), okI_iff.2 (by decide), okI_iff.2 (by decide)⟩⟩ (by decide)) rfl rfl (by decide) (by decide) z_104.size rfl λ w_111 A_112 c_113 m_114 O_115 g_116 n_117 => ?_
 have := m_114.size
 have z_111 := Ext.mod z_104 m_114 (λ q hq => (O_98.lt q hq).1)
 have u_119 := λ q hq => (O_115.lt q hq).2
 have := m_114.size
 refine va rfl <| nl <| nB <| nT <| rg <| vL (badL (r := 3) rfl rfl (by decide) (by decide)) <| vm rfl <| nl <| nR <| lr <| sg <| vL (blt rfl rfl) <| nK <| sq <| cF rfl <| xt <| xT <| xK <| xB <| nT <| sg <| ?_
 refine vm rfl <| va rfl <| nK <| rt <| tR (.tmp rfl .nil) <| ?_
 exact ⟨A_112, c_113, rfl, O_115, z_111⟩
end
section
open Go.RowKit
def fO (a : SyAt) : List Nat := Rep.blkOf a.V ++ (Rep.blkOf a.R ++ a.T.flatMap λ t => Rep.blkOf t.ha)
theorem SyO.lt {w : World} {Z : Nat} {a : SyAt} {C : Cou} (h : SyO w Z a C) : ∀ q ∈ fO a, Z ≤ q ∧ q < w.heap.size := by
 intro q hq
 unfold fO at hq
 rcases List.mem_append.1 hq with hq | hq
 ·exact h.V.lt q hq
 ·rcases List.mem_append.1 hq with hq | hq
  ·exact h.R.lt q hq
  ·obtain ⟨t, ht, hq⟩ := List.mem_flatMap.1 hq; exact h.H.lt t ht q hq
theorem SyO.mod {w w' : World} {Z : Nat} {a : SyAt} {C : Cou} {S : List Nat} (h : SyO w Z a C) (m : Mod S w w') (hS : ∀ q ∈ fO a, q ∉ S) : SyO w' Z a C :=
 ⟨h.V.mod m λ q hq => hS q (List.mem_append.2 (.inl hq)), h.R.mod m λ q hq => hS q (List.mem_append.2 (.inr (List.mem_append.2 (.inl hq)))), h.H.mod m λ j t _ hj q hq => hS q (List.mem_append.2 (.inr (List.mem_append.2 (.inr (List.mem_flatMap.2 ⟨t, List.mem_of_getElem? hj, hq⟩)))))⟩
theorem lv_E : syE 3 lvS = 0 := by decide +kernel
theorem lv_C : (syR 3 lvS).chosen = [77] := by decide +kernel
theorem lv_R : (syR 3 lvS).rounds.length = 1 := by decide +kernel
theorem syE_ok {n : Int} {l : List Sst} (h : syE n l = 0) : ∃ N : Nat, n = N ∧ 1 ≤ N ∧ N ≤ 15 ∧ l.length ≤ 500 ∧ (∀ x ∈ l, badS n x = false) ∧ syR n l = plyS N l := by
 unfold syE at h
 split at h
 ·omega
 ·split at h
  ·omega
  ·split at h
   ·omega
   ·rename_i h1 h2 h3
    refine ⟨n.toNat, by omega, by omega, by omega, by omega, λ x hx => ?_, ?_⟩
    ·cases hb : badS n x with
     | false => rfl
     | true => exact (h3 (List.any_eq_true.2 ⟨x, hx, hb⟩)).elim
    ·unfold syR syE; rw [if_neg h1, if_neg h2, if_neg h3, if_pos rfl]; rfl
theorem sy_G {n : Int} {l : List Sst} (h : syE n l = 0) : ∃ N : Nat, n = N ∧ SyG N l.length (syR n l) := by
 obtain ⟨N, rfl, h1, h2, h3, h4, h5⟩ := syE_ok h
 refine ⟨N, rfl, ?_⟩
 have := syG_play h2 h4 l.length (Nat.le_refl _)
 rw [List.take_length] at this; rw [h5]; exact this
theorem sy_q (n : Int) (l : List Sst) : ∀ r ∈ (syR n l).rounds, r.q < 32768 := by
 by_cases h : syE n l = 0
 ·obtain ⟨N, _, g⟩ := sy_G h; exact λ r hr => (g.pq r hr).2
 ·rw [syR_bad rfl h]; intro r hr; cases hr
theorem sy_len (n : Int) (l : List Sst) : (syR n l).rounds.length ≤ 500 := by
 by_cases h : syE n l = 0
 ·obtain ⟨N, _, g⟩ := sy_G h
  obtain ⟨_, _, _, _, h3, _⟩ := syE_ok h
  have := g.len; omega
 ·rw [syR_bad rfl h]; exact Nat.zero_le _
theorem chosen_len (n : Int) (l : List Sst) : (syR n l).chosen.length ≤ 500 := by
 unfold Cou.chosen; rw [List.length_map]
 exact Nat.le_trans (List.length_filter_le _ _) (sy_len n l)
theorem synodLives_any  (w : World) :
  Calls Try.prog 25 #[] w (λ e w' => e = .returned (.bool true) ∧ Ext w w') := by
 refine calls_W (n := 22) Try.func25 rfl rfl rfl ?_
 refine sg <| va rfl <| nK <| sg <| ca eF54 rfl rfl ((ballotOf_lv _).mono ?_)
 rintro e w_3 ⟨AB, cB, rfl, OB, x_4⟩
 refine ⟨_, rfl, ?_⟩
 have := x_4.size
 have z_3 := eT (Ext.rf w) x_4
 have u_1 := λ q hq => (OB.lt q hq).2
 have lo_2 := λ q hq => (OB.lt q hq).1
 refine ca eF55 rfl rfl ((play_any 3 lvS _ _ _ OB.has).mono ?_)
 rintro e w_7 ⟨V6, v6, R6, r6, T6, rfl, HO6, x_8⟩
 refine ⟨_, rfl, ?_⟩
 have := x_8.size
 have z_7 := eT z_3 x_8
 have uo6 := λ q hq => (HO6.lt q hq).2
 have tl6 : T6.length = (syR 3 lvS).rounds.length := HO6.H.len
 have tm6 := sy_len 3 lvS
 have kT : ((T6.length : Int) == 1) = true := by have h1_ := lv_R; rw [beq_iff_eq]; have h2_ := tl6; rw [h1_] at h2_; exact congrArg Nat.cast h2_
 refine vm rfl <| vL (ex rfl rfl) <| vL (ex rfl rfl) <| al rfl eF44 rfl rfl λ w_10 b_11 x_12 l_13 B_14 => ?_
 have := x_12.size
 have z_10 := eT z_7 x_12
 have q_16 := B_14.lt
 refine st (new := [.slice V6 ((syR 3 lvS).vows.length) v6, .slice R6 T6.length r6]) rfl rfl B_14 rfl eF45 rfl rfl rfl λ w_17 m_18 B_14 => ?_
 have := m_18.size
 have z_17 := Ext.mod z_10 m_18 (ge1 (by omega))
 have := m_18.size
 refine va rfl <| nK <| sg <| vm rfl <| vL (beq rfl rfl) <| vm (evb rfl (by rw [lv_E]; rfl)) <| ug rfl rfl rfl <| vL (ld rfl (B_14.all eF46 eF45)) <| ug rfl rfl rfl <| ?_
 have HO6 := HO6.later x_12
 have HO6 := HO6.mod m_18 (λ q hq h => by have := uo6 q hq; have := List.mem_singleton.1 h; omega)
 refine ca eF56 rfl rfl ((chosen_any _ ⟨V6, v6, R6, r6, T6⟩ (syR 3 lvS) _ HO6 (sy_q _ _) (by show T6.length ≤ _; omega)).mono ?_)
 rintro e w_24 ⟨A21, c21, rfl, OC21, x_25⟩
 refine ⟨_, rfl, ?_⟩
 have := x_25.size
 have z_24 := eT z_17 x_25
 have u_22 := λ q hq => (OC21.lt q hq).2
 have lo_23 := λ q hq => (OC21.lt q hq).1
 have lc21 := chosen_len 3 lvS
 refine ug rfl rfl rfl <| bs (e := 3) (cs := [.int .i64 77]) rfl (λ _ => by kernel_rfl) rfl λ w_27 b_28 x_29 l_30 B_31 => ?_
 have := x_29.size
 have z_27 := eT z_24 x_29
 have q_33 := B_31.lt
 refine ug rfl rfl rfl <| ?_
 have OC21 := OC21.later x_29
 refine ca eF57 rfl rfl ((equal_I _ _ _ _ _ _ ((syR 3 lvS).chosen) ([77]) _ OC21.has (Blk.hasN (R := repI) (by_ := 8) (k := [77]) B_31 [[.int .i64 77]] rfl (⟨⟨rfl, okI_iff.2 (by decide)⟩, trivial⟩) (by simp) (by simp))).mono ?_)
 rintro e w_34 ⟨rfl, x_35⟩
 refine ⟨_, rfl, ?_⟩
 have := x_35.size
 have z_34 := eT z_27 x_35
 refine vL (pkT rfl (evb rfl (decide_eq_true lv_C))) <| vm rfl <| ug rfl rfl rfl <| vL (fa eF14 rfl) <| ug rfl rfl rfl <| ?_
 have B_14 := B_14.later (eT x_25 (eT x_29 x_35))
 refine vL (ld rfl (B_14.one eF15 rfl)) <| ug rfl rfl rfl <| vL (ln Try.underlying60 rfl) <| ug rfl rfl rfl <| vL (beq rfl rfl) <| vL (pkT rfl (evb rfl kT)) <| va rfl <| nK <| rt <| tR (.tmp rfl .nil) <| ?_
 exact ⟨rfl, z_34⟩
end
section
open Go.RowKit
theorem Syv_eqs_api_Vow : EqS Try.prog Vow.cells 52 := by
 intro a b w
 obtain ⟨a0, a1, a2⟩ := a
 obtain ⟨b0, b1, b2⟩ := b
 simp only [Vow.cells, Vow.mk.injEq, Cel.mk.injEq]
 constructor
 ·go_simp
  repeat' split
  all_goals simp_all
 ·go_simp
  repeat' split
  all_goals simp_all
theorem Syv_eqg_api_Vow : (Try.prog).eqGuardType (Try.prog).depth 52 = false := by kernel_rfl
theorem mX3 {P : Program} {E : List (Nat × Value)} {w : World} {d : Option Nat} {ty : TypeId} {pos : String} {af : Array Edge} {g : Option (Nat × Bool)} {x y z : Operand} {k : IntKind} {i j l : Int} {ts : Array TypeId} (hx : ev E x = some (.int k i)) (hy : ev E y = some (.int k j)) (hz : ev E z = some (.int k l)) : Runs P E ⟨d, .call { callee := .builtin .max, args := #[x, y, z], argTypes := ts }, ty, pos, af, g⟩ w (.int k (max (max i j) l)) w :=
 bi (vs := [.int k i, .int k j, .int k l]) (by simp only [evs, hx, hy, hz]) λ cs => by
  have e : ∀ a b : Int, (if b > a then b else a) = max a b := λ a b => by rw [Int.max_def]; split <;> split <;> omega
  have : (Builtin.max_ ts ty #[.int k i, .int k j, .int k l]).run P w = .ok (.int k (max (max i j) l)) w := by
   rw [← e, ← e]
   simp [Builtin.max_, Builtin.max2]
  simp only [builtin, Sem.run_bind, this, Result.andThen_ok, Sem.run_pure]
theorem prep_cases (v : Vow) (n : Int) : (prepK v n = true ∧ prepV v n = ⟨n, v.ballot, v.value⟩ ∧ v.promised < n) ∨ (prepK v n = false ∧ prepV v n = v) := by
 unfold prepV prepK balB
 split
 ·rename_i h; exact .inl ⟨h, rfl, by simp at h; omega⟩
 ·rename_i h; exact .inr ⟨by simpa using h, rfl⟩
theorem acc_cases (v : Vow) (n x : Int) : (accK v n = true ∧ accV v n x = ⟨n, n, x⟩ ∧ v.promised ≤ n) ∨ (accK v n = false ∧ accV v n x = v) := by
 unfold accV accK balB
 split
 ·rename_i h; exact .inl ⟨h, rfl, by simp at h; omega⟩
 ·rename_i h; exact .inr ⟨by simpa using h, rfl⟩
theorem vow_cases (v : Vow) (a b : Int) : (prepK v a = true ∧ accK (prepV v a) b = true ∧ decide (a ≤ b) = true) ∨ (prepK v a = true ∧ accK (prepV v a) b = false ∧ decide (a ≤ b) = true) ∨ (prepK v a = true ∧ accK (prepV v a) b = false ∧ decide (a ≤ b) = false) ∨ (prepK v a = false ∧ accK (prepV v a) b = true ∧ True) ∨ (prepK v a = false ∧ accK (prepV v a) b = false ∧ True) := by
 rcases prep_cases v a with ⟨h1, h2, h3⟩ | ⟨h1, h2⟩ <;> rcases acc_cases (prepV v a) b 0 with ⟨h4, h5, h6⟩ | ⟨h4, h5⟩ <;> rw [h1, h4]
 ·rw [h2] at h6; simp at h6 ⊢; exact h6
 ·by_cases h : a ≤ b <;> simp [h]
 ·simp
 ·simp
theorem vow_1 (v : Vow) (a : Int) : decide ((prepV v a).promised < v.promised) = false := decide_eq_false (by rcases prep_cases v a with ⟨h1, h2, h3⟩ | ⟨h1, h2⟩ <;> rw [h2] <;> (try dsimp only) <;> omega)
theorem vow_2 (v : Vow) (b x : Int) : decide ((accV v b x).promised < v.promised) = false := decide_eq_false (by rcases acc_cases v b x with ⟨h1, h2, h3⟩ | ⟨h1, h2⟩ <;> rw [h2] <;> (try dsimp only) <;> omega)
theorem vow_3 (v : Vow) (b x : Int) (h : v.ballot ≤ v.promised) : decide ((accV v b x).promised < (accV v b x).ballot) = false := decide_eq_false (by rcases acc_cases v b x with ⟨h1, h2, h3⟩ | ⟨h1, h2⟩ <;> rw [h2] <;> (try dsimp only) <;> omega)
theorem vow_4 (v : Vow) (a : Int) (h : v.ballot ≤ v.promised) : (prepV v a).ballot ≤ (prepV v a).promised := by rcases prep_cases v a with ⟨h1, h2, h3⟩ | ⟨h1, h2⟩ <;> rw [h2] <;> (try dsimp only) <;> omega
theorem vow_5 {v : Vow} {a : Int} (h : prepK v a = true) : ((prepV v a).promised != a) = false := by unfold prepV; rw [if_pos h]; simp
theorem vow_6 {v : Vow} {a : Int} (h : prepK v a = false) : decide (prepV v a = v) = true := by unfold prepV; rw [if_neg (by rw [h]; decide)]; simp
theorem vow_7 {v : Vow} {b x : Int} (h : accK v b = true) : (!decide (accV v b x = (⟨b, b, x⟩ : Vow))) = false := by unfold accV; rw [if_pos h]; simp
theorem vow_8 {v : Vow} {b x : Int} (h : accK v b = false) : decide (accV v b x = v) = true := by unfold accV; rw [if_neg (by rw [h]; decide)]; simp
theorem vow_bt (v : Vow) (a b x : Int) : ((decide (v.promised ≤ ((accV (prepV v a) b x)).promised)) && (decide (((accV (prepV v a) b x)).promised ≤ max (max v.promised a) b))) = true := by
 rcases prep_cases v a with ⟨h1, h2, h3⟩ | ⟨h1, h2⟩ <;> rw [h2] <;> rcases acc_cases _ b x with ⟨h4, h5, h6⟩ | ⟨h4, h5⟩ <;> rw [h5] <;> simp only [Bool.and_eq_true, decide_eq_true_eq] <;> (try dsimp only at *) <;> omega
theorem between_any (x l h : Int) (w : World) :
  Calls Try.prog 28 #[.int .i64 x, .int .i64 l, .int .i64 h] w (λ e w' => e = .returned (.bool ((decide (l ≤ x)) && (decide (x ≤ h)))) ∧ Ext w w') := by
 refine calls_W (n := 15) Try.func28 rfl rfl rfl ?_
 refine sg <| va rfl <| nK <| sg <| vm rfl <| vm rfl <| vL (ble rfl rfl) <| vm rfl <| vQ rfl rfl rfl rfl (λ hc => mv rfl) rfl <| vQ rfl rfl rfl rfl (λ hc => mv rfl) rfl <| vQ rfl rfl rfl rfl (λ hc => ble (gt hc rfl) (gt hc rfl)) rfl <| vL (pA rfl rfl rfl rfl) <| va rfl <| nK <| rt <| tR (.tmp rfl .nil) <| ?_
 exact ⟨rfl, (Ext.rf w)⟩
theorem synodVow_w (v : Vow) (a b x : Int) (w : World) :
  Calls Try.prog 7 #[.agg #[.int .i64 v.promised, .int .i64 v.ballot, .int .i64 v.value], .int .i64 a, .int .i64 b, .int .i64 x] w (λ e w' => e = .returned (.bool true) ∧ Ext w w') := by
 refine calls_W (n := 114) Try.func7 rfl rfl rfl ?_
 refine sg <| bx rfl rfl rfl rfl λ w_1 b_2 x_3 l_4 B_5 => ?_
 have := x_3.size
 have z_1 := eT (Ext.rf w) x_3
 have q_7 := B_5.lt
 refine va rfl <| nK <| sq <| sg <| ca eF58 rfl rfl ((synodLives_any _).mono ?_)
 rintro e w_8 ⟨rfl, x_9⟩
 refine ⟨_, rfl, ?_⟩
 have := x_9.size
 have z_8 := eT z_1 x_9
 refine vL (nt rfl) <| vm rfl <| ug rfl rfl rfl <| vL (fa eF8 rfl) <| ug rfl rfl rfl <| ?_
 have B_5 := B_5.later x_9
 refine vL (ld rfl (B_5.one eF4 rfl)) <| ug rfl rfl rfl <| vL (fa eF3 rfl) <| ug rfl rfl rfl <| vL (ld rfl (B_5.one eF4 rfl)) <| ug rfl rfl rfl <| vL (bgt rfl rfl) <| vL (pkF rfl rfl) <| nK <| ?_
 refine clt rfl (λ h_11 => ?_) (λ h_11 => ?_)
 ·refine sg <| ca eF58 rfl rfl ((synodLives_any _).mono ?_)
  rintro e w_12 ⟨rfl, x_13⟩
  refine ⟨_, rfl, ?_⟩
  have := x_13.size
  have z_12 := eT z_8 x_13
  refine va rfl <| nK <| rt <| tT <| tR (.tmp rfl .nil) <| ?_
  exact ⟨rfl, z_12⟩
 ·have hvb : ¬ v.promised < v.ballot := by omega
  refine sK <| sg <| vL (ld rfl (B_5.all eF5 eF6)) <| vm rfl <| ca eF26 rfl rfl ((prepare_any v a _).mono ?_)
  rintro e w_15 ⟨rfl, x_16⟩
  refine ⟨_, rfl, ?_⟩
  have := x_16.size
  have z_15 := eT z_8 x_16
  refine vm rfl <| vL (ex rfl rfl) <| vL (ex rfl rfl) <| al rfl eF1 rfl rfl λ w_18 b_19 x_20 l_21 B_22 => ?_
  have := x_20.size
  have z_18 := eT z_15 x_20
  have q_24 := B_22.lt
  refine st (new := [.int .i64 ((prepV v a).promised), .int .i64 ((prepV v a).ballot), .int .i64 ((prepV v a).value)]) rfl rfl B_22 rfl eF6 rfl rfl rfl λ w_25 m_26 B_22 => ?_
  have := m_26.size
  have z_25 := Ext.mod z_18 m_26 (ge1 (by omega))
  have := m_26.size
  refine va rfl <| nK <| sg <| vL (ld rfl (B_22.all eF5 eF6)) <| vm rfl <| vm rfl <| ca eF39 rfl rfl ((accept_any (prepV v a) b x _).mono ?_)
  rintro e w_29 ⟨rfl, x_30⟩
  refine ⟨_, rfl, ?_⟩
  have := x_30.size
  have z_29 := eT z_25 x_30
  refine vm rfl <| vL (ex rfl rfl) <| vL (ex rfl rfl) <| al rfl eF1 rfl rfl λ w_32 b_33 x_34 l_35 B_36 => ?_
  have := x_34.size
  have z_32 := eT z_29 x_34
  have q_38 := B_36.lt
  refine st (new := [.int .i64 (((accV (prepV v a) b x)).promised), .int .i64 (((accV (prepV v a) b x)).ballot), .int .i64 (((accV (prepV v a) b x)).value)]) rfl rfl B_36 rfl eF6 rfl rfl rfl λ w_39 m_40 B_36 => ?_
  have := m_40.size
  have z_39 := Ext.mod z_32 m_40 (ge1 (by omega))
  have := m_40.size
  refine va rfl <| nK <| sq <| sq <| ?_
  rcases vow_cases v a b with c | c | c | c | c
  ·have K1 : decide ((prepV v a).promised < v.promised) = false := vow_1 v a
   have K2 : decide ((accV (prepV v a) b x).promised < (prepV v a).promised) = false := vow_2 _ b x
   have K3 : decide ((accV (prepV v a) b x).promised < (accV (prepV v a) b x).ballot) = false := vow_3 _ b x (vow_4 v a (by omega))
   have K4 : ((prepV v a).promised != a) = false := vow_5 c.1
   have K5 : (!decide (accV (prepV v a) b x = (⟨b, b, x⟩ : Vow))) = false := vow_7 c.2.1
   refine rg <| vL (fa eF3 rfl) <| ?_
   have B_22 := B_22.later (eT x_30 x_34)
   have B_22 := B_22.mod m_40 (nm1 (by omega))
   refine vL (ld rfl (B_22.one eF4 rfl)) <| vL (fa eF3 rfl) <| ?_
   have B_5 := B_5.later (eT x_16 x_20)
   have B_5 := B_5.mod m_26 (nm1 (by omega))
   have B_5 := B_5.later (eT x_30 x_34)
   have B_5 := B_5.mod m_40 (nm1 (by omega))
   refine vL (ld rfl (B_5.one eF4 rfl)) <| vL (blt rfl rfl) <| vm (evb rfl K1) <| ug rfl rfl rfl <| vL (fa eF3 rfl) <| ug rfl rfl rfl <| vL (ld rfl (B_36.one eF4 rfl)) <| ug rfl rfl rfl <| vL (fa eF3 rfl) <| ug rfl rfl rfl <| vL (ld rfl (B_22.one eF4 rfl)) <| ug rfl rfl rfl <| vL (blt rfl rfl) <| vL (pkF rfl (evb rfl K2)) <| vm rfl <| ug rfl rfl rfl <| vL (fa eF8 rfl) <| ug rfl rfl rfl <| vL (ld rfl (B_36.one eF4 rfl)) <| ug rfl rfl rfl <| vL (fa eF3 rfl) <| ug rfl rfl rfl <| vL (ld rfl (B_36.one eF4 rfl)) <| ug rfl rfl rfl <| ?_
   refine vL (bgt rfl rfl) <| vL (pkF rfl (evb rfl K3)) <| vm rfl <| ug rfl rfl rfl <| vm (evb rfl c.1) <| ug rfl rfl rfl <| vm rfl <| ug rfl rfl rfl <| vL (fa eF3 rfl) <| ug rfl rfl rfl <| vL (ld rfl (B_22.one eF4 rfl)) <| ug rfl rfl rfl <| vm rfl <| ug rfl rfl rfl <| vL (bne rfl rfl) <| ug rfl rfl rfl <| vL (pkT rfl (evb rfl K4)) <| vL (pkF rfl rfl) <| vm rfl <| ug rfl rfl rfl <| vm (evb rfl c.2.1) <| ug rfl rfl rfl <| vm rfl <| ug rfl rfl rfl <| ?_
   refine vL (ld rfl (B_36.all eF5 eF6)) <| ug rfl rfl rfl <| vm rfl <| ug rfl rfl rfl <| vm rfl <| ug rfl rfl rfl <| vm rfl <| ug rfl rfl rfl <| vL (v := .agg #[.int .i64 b, .int .i64 b, .int .i64 x]) (bd rfl (by kernel_rfl)) <| ug rfl rfl rfl <| vL (bnS Syv_eqs_api_Vow Syv_eqg_api_Vow (p := (accV (prepV v a) b x)) (q := (⟨b, b, x⟩ : Vow)) rfl rfl) <| ug rfl rfl rfl <| vL (pkT rfl (evb rfl K5)) <| vL (pkF rfl rfl) <| nK <| cF rfl <| sK <| sg <| vm (evb rfl c.1) <| vL (nt rfl) <| vm rfl <| ?_
   refine ug rfl rfl rfl <| vm rfl <| ug rfl rfl rfl <| vm rfl <| ug rfl rfl rfl <| vL (bge rfl rfl) <| vL (pkF rfl (evb rfl c.2.2)) <| vm rfl <| vQ (v := undef) rfl rfl rfl rfl (λ hc => nomatch hc) rfl <| vQ (v := undef) rfl rfl rfl rfl (λ hc => nomatch hc) rfl <| vL (pkT rfl rfl) <| vm rfl <| ug rfl rfl rfl <| vm (evb rfl c.1) <| ug rfl rfl rfl <| vm rfl <| vQ (v := undef) rfl rfl rfl rfl (λ hc => nomatch hc) rfl <| vQ (v := undef) rfl rfl rfl rfl (λ hc => nomatch hc) rfl <| vQ (v := undef) rfl rfl rfl rfl (λ hc => nomatch hc) rfl <| ug rfl rfl rfl <| vL (pkT rfl rfl) <| vL (pkT rfl rfl) <| vm rfl <| ug rfl rfl rfl <| ?_
   refine vm (evb rfl c.2.1) <| ug rfl rfl rfl <| vm rfl <| vQ (v := undef) rfl rfl rfl rfl (λ hc => nomatch hc) rfl <| vQ (v := undef) rfl rfl rfl rfl (λ hc => nomatch hc) rfl <| vQ (v := undef) rfl rfl rfl rfl (λ hc => nomatch hc) rfl <| ug rfl rfl rfl <| vL (pkT rfl rfl) <| vL (pkT rfl rfl) <| vm rfl <| ug rfl rfl rfl <| vL (fa eF3 rfl) <| ug rfl rfl rfl <| vL (ld rfl (B_36.one eF4 rfl)) <| ug rfl rfl rfl <| vL (fa eF3 rfl) <| ug rfl rfl rfl <| vL (ld rfl (B_5.one eF4 rfl)) <| ug rfl rfl rfl <| vL (fa eF3 rfl) <| ug rfl rfl rfl <| vL (ld rfl (B_5.one eF4 rfl)) <| ug rfl rfl rfl <| vm rfl <| ?_
   refine ug rfl rfl rfl <| vm rfl <| ug rfl rfl rfl <| vL (mX3 rfl rfl rfl) <| ug rfl rfl rfl <| ca eF59 rfl rfl ((between_any (((accV (prepV v a) b x)).promised) v.promised (max (max v.promised a) b) _).mono ?_)
   rintro e w_43 ⟨rfl, x_44⟩
   refine ⟨_, rfl, ?_⟩
   have := x_44.size
   have z_43 := eT z_39 x_44
   refine vL (pkT rfl rfl) <| va rfl <| nK <| rt <| tR (.tmp rfl .nil) <| ?_
   exact ⟨ret_true (vow_bt v a b x), z_43⟩
  ·have K1 : decide ((prepV v a).promised < v.promised) = false := vow_1 v a
   have K2 : decide ((accV (prepV v a) b x).promised < (prepV v a).promised) = false := vow_2 _ b x
   have K3 : decide ((accV (prepV v a) b x).promised < (accV (prepV v a) b x).ballot) = false := vow_3 _ b x (vow_4 v a (by omega))
   have K4 : ((prepV v a).promised != a) = false := vow_5 c.1
   have K7 : decide (accV (prepV v a) b x = prepV v a) = true := vow_8 c.2.1
   refine rg <| vL (fa eF3 rfl) <| ?_
   have B_22 := B_22.later (eT x_30 x_34)
   have B_22 := B_22.mod m_40 (nm1 (by omega))
   refine vL (ld rfl (B_22.one eF4 rfl)) <| vL (fa eF3 rfl) <| ?_
   have B_5 := B_5.later (eT x_16 x_20)
   have B_5 := B_5.mod m_26 (nm1 (by omega))
   have B_5 := B_5.later (eT x_30 x_34)
   have B_5 := B_5.mod m_40 (nm1 (by omega))
   refine vL (ld rfl (B_5.one eF4 rfl)) <| vL (blt rfl rfl) <| vm (evb rfl K1) <| ug rfl rfl rfl <| vL (fa eF3 rfl) <| ug rfl rfl rfl <| vL (ld rfl (B_36.one eF4 rfl)) <| ug rfl rfl rfl <| vL (fa eF3 rfl) <| ug rfl rfl rfl <| vL (ld rfl (B_22.one eF4 rfl)) <| ug rfl rfl rfl <| vL (blt rfl rfl) <| vL (pkF rfl (evb rfl K2)) <| vm rfl <| ug rfl rfl rfl <| vL (fa eF8 rfl) <| ug rfl rfl rfl <| vL (ld rfl (B_36.one eF4 rfl)) <| ug rfl rfl rfl <| vL (fa eF3 rfl) <| ug rfl rfl rfl <| vL (ld rfl (B_36.one eF4 rfl)) <| ug rfl rfl rfl <| ?_
   refine vL (bgt rfl rfl) <| vL (pkF rfl (evb rfl K3)) <| vm rfl <| ug rfl rfl rfl <| vm (evb rfl c.1) <| ug rfl rfl rfl <| vm rfl <| ug rfl rfl rfl <| vL (fa eF3 rfl) <| ug rfl rfl rfl <| vL (ld rfl (B_22.one eF4 rfl)) <| ug rfl rfl rfl <| vm rfl <| ug rfl rfl rfl <| vL (bne rfl rfl) <| ug rfl rfl rfl <| vL (pkT rfl (evb rfl K4)) <| vL (pkF rfl rfl) <| vm rfl <| ug rfl rfl rfl <| vm (evb rfl c.2.1) <| ug rfl rfl rfl <| vm rfl <| vQ (v := undef) rfl rfl rfl rfl (λ hc => nomatch hc) rfl <| ?_
   refine vQ (v := undef) rfl rfl rfl rfl (λ hc => nomatch hc) rfl <| vQ (v := undef) rfl rfl rfl rfl (λ hc => nomatch hc) rfl <| vQ (v := undef) rfl rfl rfl rfl (λ hc => nomatch hc) rfl <| vQ (v := undef) rfl rfl rfl rfl (λ hc => nomatch hc) rfl <| vQ (v := undef) rfl rfl rfl rfl (λ hc => nomatch hc) rfl <| ug rfl rfl rfl <| vL (pkF rfl rfl) <| vL (pkF rfl rfl) <| nK <| cF rfl <| sK <| sg <| vm (evb rfl c.1) <| vL (nt rfl) <| vm rfl <| ug rfl rfl rfl <| vm rfl <| ug rfl rfl rfl <| vm rfl <| ug rfl rfl rfl <| vL (bge rfl rfl) <| ?_
   refine vL (pkF rfl (evb rfl c.2.2)) <| vm rfl <| vQ (v := undef) rfl rfl rfl rfl (λ hc => nomatch hc) rfl <| vQ (v := undef) rfl rfl rfl rfl (λ hc => nomatch hc) rfl <| vL (pkT rfl rfl) <| vm rfl <| ug rfl rfl rfl <| vm (evb rfl c.1) <| ug rfl rfl rfl <| vm rfl <| vQ (v := undef) rfl rfl rfl rfl (λ hc => nomatch hc) rfl <| vQ (v := undef) rfl rfl rfl rfl (λ hc => nomatch hc) rfl <| vQ (v := undef) rfl rfl rfl rfl (λ hc => nomatch hc) rfl <| ug rfl rfl rfl <| vL (pkT rfl rfl) <| vL (pkT rfl rfl) <| vm rfl <| ug rfl rfl rfl <| vm (evb rfl c.2.1) <| ug rfl rfl rfl <| vm rfl <| ug rfl rfl rfl <| vL (ld rfl (B_36.all eF5 eF6)) <| ug rfl rfl rfl <| ?_
   refine vL (ld rfl (B_22.all eF5 eF6)) <| ug rfl rfl rfl <| vL (bqS Syv_eqs_api_Vow Syv_eqg_api_Vow (p := (accV (prepV v a) b x)) (q := prepV v a) rfl rfl) <| ug rfl rfl rfl <| vL (pkF rfl (evb rfl K7)) <| vL (pkT rfl rfl) <| vm rfl <| ug rfl rfl rfl <| vL (fa eF3 rfl) <| ug rfl rfl rfl <| vL (ld rfl (B_36.one eF4 rfl)) <| ug rfl rfl rfl <| vL (fa eF3 rfl) <| ug rfl rfl rfl <| vL (ld rfl (B_5.one eF4 rfl)) <| ug rfl rfl rfl <| vL (fa eF3 rfl) <| ug rfl rfl rfl <| vL (ld rfl (B_5.one eF4 rfl)) <| ug rfl rfl rfl <| vm rfl <| ug rfl rfl rfl <| vm rfl <| ug rfl rfl rfl <| ?_
   refine vL (mX3 rfl rfl rfl) <| ug rfl rfl rfl <| ca eF59 rfl rfl ((between_any (((accV (prepV v a) b x)).promised) v.promised (max (max v.promised a) b) _).mono ?_)
   rintro e w_46 ⟨rfl, x_47⟩
   refine ⟨_, rfl, ?_⟩
   have := x_47.size
   have z_46 := eT z_39 x_47
   refine vL (pkT rfl rfl) <| va rfl <| nK <| rt <| tR (.tmp rfl .nil) <| ?_
   exact ⟨ret_true (vow_bt v a b x), z_46⟩
  ·have K1 : decide ((prepV v a).promised < v.promised) = false := vow_1 v a
   have K2 : decide ((accV (prepV v a) b x).promised < (prepV v a).promised) = false := vow_2 _ b x
   have K3 : decide ((accV (prepV v a) b x).promised < (accV (prepV v a) b x).ballot) = false := vow_3 _ b x (vow_4 v a (by omega))
   have K4 : ((prepV v a).promised != a) = false := vow_5 c.1
   have K7 : decide (accV (prepV v a) b x = prepV v a) = true := vow_8 c.2.1
   refine rg <| vL (fa eF3 rfl) <| ?_
   have B_22 := B_22.later (eT x_30 x_34)
   have B_22 := B_22.mod m_40 (nm1 (by omega))
   refine vL (ld rfl (B_22.one eF4 rfl)) <| vL (fa eF3 rfl) <| ?_
   have B_5 := B_5.later (eT x_16 x_20)
   have B_5 := B_5.mod m_26 (nm1 (by omega))
   have B_5 := B_5.later (eT x_30 x_34)
   have B_5 := B_5.mod m_40 (nm1 (by omega))
   refine vL (ld rfl (B_5.one eF4 rfl)) <| vL (blt rfl rfl) <| vm (evb rfl K1) <| ug rfl rfl rfl <| vL (fa eF3 rfl) <| ug rfl rfl rfl <| vL (ld rfl (B_36.one eF4 rfl)) <| ug rfl rfl rfl <| vL (fa eF3 rfl) <| ug rfl rfl rfl <| vL (ld rfl (B_22.one eF4 rfl)) <| ug rfl rfl rfl <| vL (blt rfl rfl) <| vL (pkF rfl (evb rfl K2)) <| vm rfl <| ug rfl rfl rfl <| vL (fa eF8 rfl) <| ug rfl rfl rfl <| vL (ld rfl (B_36.one eF4 rfl)) <| ug rfl rfl rfl <| vL (fa eF3 rfl) <| ug rfl rfl rfl <| vL (ld rfl (B_36.one eF4 rfl)) <| ug rfl rfl rfl <| ?_
   refine vL (bgt rfl rfl) <| vL (pkF rfl (evb rfl K3)) <| vm rfl <| ug rfl rfl rfl <| vm (evb rfl c.1) <| ug rfl rfl rfl <| vm rfl <| ug rfl rfl rfl <| vL (fa eF3 rfl) <| ug rfl rfl rfl <| vL (ld rfl (B_22.one eF4 rfl)) <| ug rfl rfl rfl <| vm rfl <| ug rfl rfl rfl <| vL (bne rfl rfl) <| ug rfl rfl rfl <| vL (pkT rfl (evb rfl K4)) <| vL (pkF rfl rfl) <| vm rfl <| ug rfl rfl rfl <| vm (evb rfl c.2.1) <| ug rfl rfl rfl <| vm rfl <| vQ (v := undef) rfl rfl rfl rfl (λ hc => nomatch hc) rfl <| ?_
   refine vQ (v := undef) rfl rfl rfl rfl (λ hc => nomatch hc) rfl <| vQ (v := undef) rfl rfl rfl rfl (λ hc => nomatch hc) rfl <| vQ (v := undef) rfl rfl rfl rfl (λ hc => nomatch hc) rfl <| vQ (v := undef) rfl rfl rfl rfl (λ hc => nomatch hc) rfl <| vQ (v := undef) rfl rfl rfl rfl (λ hc => nomatch hc) rfl <| ug rfl rfl rfl <| vL (pkF rfl rfl) <| vL (pkF rfl rfl) <| nK <| cF rfl <| sK <| sg <| vm (evb rfl c.1) <| vL (nt rfl) <| vm rfl <| ug rfl rfl rfl <| vm rfl <| ug rfl rfl rfl <| vm rfl <| ug rfl rfl rfl <| vL (bge rfl rfl) <| ?_
   refine vL (pkF rfl (evb rfl c.2.2)) <| vm rfl <| ug rfl rfl rfl <| vm (evb rfl c.2.1) <| ug rfl rfl rfl <| vL (nt rfl) <| vL (pkF rfl rfl) <| vm rfl <| ug rfl rfl rfl <| vm (evb rfl c.1) <| ug rfl rfl rfl <| vm rfl <| vQ (v := undef) rfl rfl rfl rfl (λ hc => nomatch hc) rfl <| vQ (v := undef) rfl rfl rfl rfl (λ hc => nomatch hc) rfl <| vQ (v := undef) rfl rfl rfl rfl (λ hc => nomatch hc) rfl <| ug rfl rfl rfl <| vL (pkT rfl rfl) <| vL (pkT rfl rfl) <| vm rfl <| ug rfl rfl rfl <| vm (evb rfl c.2.1) <| ug rfl rfl rfl <| vm rfl <| ug rfl rfl rfl <| ?_
   refine vL (ld rfl (B_36.all eF5 eF6)) <| ug rfl rfl rfl <| vL (ld rfl (B_22.all eF5 eF6)) <| ug rfl rfl rfl <| vL (bqS Syv_eqs_api_Vow Syv_eqg_api_Vow (p := (accV (prepV v a) b x)) (q := prepV v a) rfl rfl) <| ug rfl rfl rfl <| vL (pkF rfl (evb rfl K7)) <| vL (pkT rfl rfl) <| vm rfl <| ug rfl rfl rfl <| vL (fa eF3 rfl) <| ug rfl rfl rfl <| vL (ld rfl (B_36.one eF4 rfl)) <| ug rfl rfl rfl <| vL (fa eF3 rfl) <| ug rfl rfl rfl <| vL (ld rfl (B_5.one eF4 rfl)) <| ug rfl rfl rfl <| vL (fa eF3 rfl) <| ug rfl rfl rfl <| vL (ld rfl (B_5.one eF4 rfl)) <| ug rfl rfl rfl <| vm rfl <| ug rfl rfl rfl <| ?_
   refine vm rfl <| ug rfl rfl rfl <| vL (mX3 rfl rfl rfl) <| ug rfl rfl rfl <| ca eF59 rfl rfl ((between_any (((accV (prepV v a) b x)).promised) v.promised (max (max v.promised a) b) _).mono ?_)
   rintro e w_49 ⟨rfl, x_50⟩
   refine ⟨_, rfl, ?_⟩
   have := x_50.size
   have z_49 := eT z_39 x_50
   refine vL (pkT rfl rfl) <| va rfl <| nK <| rt <| tR (.tmp rfl .nil) <| ?_
   exact ⟨ret_true (vow_bt v a b x), z_49⟩
  ·have K1 : decide ((prepV v a).promised < v.promised) = false := vow_1 v a
   have K2 : decide ((accV (prepV v a) b x).promised < (prepV v a).promised) = false := vow_2 _ b x
   have K3 : decide ((accV (prepV v a) b x).promised < (accV (prepV v a) b x).ballot) = false := vow_3 _ b x (vow_4 v a (by omega))
   have K6 : decide (prepV v a = v) = true := vow_6 c.1
   have K5 : (!decide (accV (prepV v a) b x = (⟨b, b, x⟩ : Vow))) = false := vow_7 c.2.1
   refine rg <| vL (fa eF3 rfl) <| ?_
   have B_22 := B_22.later (eT x_30 x_34)
   have B_22 := B_22.mod m_40 (nm1 (by omega))
   refine vL (ld rfl (B_22.one eF4 rfl)) <| vL (fa eF3 rfl) <| ?_
   have B_5 := B_5.later (eT x_16 x_20)
   have B_5 := B_5.mod m_26 (nm1 (by omega))
   have B_5 := B_5.later (eT x_30 x_34)
   have B_5 := B_5.mod m_40 (nm1 (by omega))
   refine vL (ld rfl (B_5.one eF4 rfl)) <| vL (blt rfl rfl) <| vm (evb rfl K1) <| ug rfl rfl rfl <| vL (fa eF3 rfl) <| ug rfl rfl rfl <| vL (ld rfl (B_36.one eF4 rfl)) <| ug rfl rfl rfl <| vL (fa eF3 rfl) <| ug rfl rfl rfl <| vL (ld rfl (B_22.one eF4 rfl)) <| ug rfl rfl rfl <| vL (blt rfl rfl) <| vL (pkF rfl (evb rfl K2)) <| vm rfl <| ug rfl rfl rfl <| vL (fa eF8 rfl) <| ug rfl rfl rfl <| vL (ld rfl (B_36.one eF4 rfl)) <| ug rfl rfl rfl <| vL (fa eF3 rfl) <| ug rfl rfl rfl <| vL (ld rfl (B_36.one eF4 rfl)) <| ug rfl rfl rfl <| ?_
   refine vL (bgt rfl rfl) <| vL (pkF rfl (evb rfl K3)) <| vm rfl <| ug rfl rfl rfl <| vm (evb rfl c.1) <| ug rfl rfl rfl <| vm rfl <| vQ (v := undef) rfl rfl rfl rfl (λ hc => nomatch hc) rfl <| vQ (v := undef) rfl rfl rfl rfl (λ hc => nomatch hc) rfl <| vQ (v := undef) rfl rfl rfl rfl (λ hc => nomatch hc) rfl <| vQ (v := undef) rfl rfl rfl rfl (λ hc => nomatch hc) rfl <| ug rfl rfl rfl <| vL (pkF rfl rfl) <| vL (pkF rfl rfl) <| vm rfl <| ug rfl rfl rfl <| vm (evb rfl c.2.1) <| ug rfl rfl rfl <| vm rfl <| ug rfl rfl rfl <| vL (ld rfl (B_36.all eF5 eF6)) <| ug rfl rfl rfl <| vm rfl <| ug rfl rfl rfl <| ?_
   refine vm rfl <| ug rfl rfl rfl <| vm rfl <| ug rfl rfl rfl <| vL (v := .agg #[.int .i64 b, .int .i64 b, .int .i64 x]) (bd rfl (by kernel_rfl)) <| ug rfl rfl rfl <| vL (bnS Syv_eqs_api_Vow Syv_eqg_api_Vow (p := (accV (prepV v a) b x)) (q := (⟨b, b, x⟩ : Vow)) rfl rfl) <| ug rfl rfl rfl <| vL (pkT rfl (evb rfl K5)) <| vL (pkF rfl rfl) <| nK <| cF rfl <| sK <| sg <| vm (evb rfl c.1) <| vL (nt rfl) <| vm rfl <| vQ (v := undef) rfl rfl rfl rfl (λ hc => nomatch hc) rfl <| vQ (v := undef) rfl rfl rfl rfl (λ hc => nomatch hc) rfl <| vQ (v := undef) rfl rfl rfl rfl (λ hc => nomatch hc) rfl <| vL (pkT rfl rfl) <| ?_
   refine vm rfl <| vQ (v := undef) rfl rfl rfl rfl (λ hc => nomatch hc) rfl <| vQ (v := undef) rfl rfl rfl rfl (λ hc => nomatch hc) rfl <| vL (pkT rfl rfl) <| vm rfl <| ug rfl rfl rfl <| vm (evb rfl c.1) <| ug rfl rfl rfl <| vm rfl <| ug rfl rfl rfl <| vL (ld rfl (B_22.all eF5 eF6)) <| ug rfl rfl rfl <| vL (ld rfl (B_5.all eF5 eF6)) <| ug rfl rfl rfl <| vL (bqS Syv_eqs_api_Vow Syv_eqg_api_Vow (p := prepV v a) (q := v) rfl rfl) <| ug rfl rfl rfl <| vL (pkF rfl (evb rfl K6)) <| vL (pkT rfl rfl) <| vm rfl <| ug rfl rfl rfl <| vm (evb rfl c.2.1) <| ug rfl rfl rfl <| vm rfl <| vQ (v := undef) rfl rfl rfl rfl (λ hc => nomatch hc) rfl <| ?_
   refine vQ (v := undef) rfl rfl rfl rfl (λ hc => nomatch hc) rfl <| vQ (v := undef) rfl rfl rfl rfl (λ hc => nomatch hc) rfl <| ug rfl rfl rfl <| vL (pkT rfl rfl) <| vL (pkT rfl rfl) <| vm rfl <| ug rfl rfl rfl <| vL (fa eF3 rfl) <| ug rfl rfl rfl <| vL (ld rfl (B_36.one eF4 rfl)) <| ug rfl rfl rfl <| vL (fa eF3 rfl) <| ug rfl rfl rfl <| vL (ld rfl (B_5.one eF4 rfl)) <| ug rfl rfl rfl <| vL (fa eF3 rfl) <| ug rfl rfl rfl <| vL (ld rfl (B_5.one eF4 rfl)) <| ug rfl rfl rfl <| vm rfl <| ug rfl rfl rfl <| vm rfl <| ug rfl rfl rfl <| vL (mX3 rfl rfl rfl) <| ?_
   refine ug rfl rfl rfl <| ca eF59 rfl rfl ((between_any (((accV (prepV v a) b x)).promised) v.promised (max (max v.promised a) b) _).mono ?_)
   rintro e w_52 ⟨rfl, x_53⟩
   refine ⟨_, rfl, ?_⟩
   have := x_53.size
   have z_52 := eT z_39 x_53
   refine vL (pkT rfl rfl) <| va rfl <| nK <| rt <| tR (.tmp rfl .nil) <| ?_
   exact ⟨ret_true (vow_bt v a b x), z_52⟩
  ·have K1 : decide ((prepV v a).promised < v.promised) = false := vow_1 v a
   have K2 : decide ((accV (prepV v a) b x).promised < (prepV v a).promised) = false := vow_2 _ b x
   have K3 : decide ((accV (prepV v a) b x).promised < (accV (prepV v a) b x).ballot) = false := vow_3 _ b x (vow_4 v a (by omega))
   have K6 : decide (prepV v a = v) = true := vow_6 c.1
   have K7 : decide (accV (prepV v a) b x = prepV v a) = true := vow_8 c.2.1
   refine rg <| vL (fa eF3 rfl) <| ?_
   have B_22 := B_22.later (eT x_30 x_34)
   have B_22 := B_22.mod m_40 (nm1 (by omega))
   refine vL (ld rfl (B_22.one eF4 rfl)) <| vL (fa eF3 rfl) <| ?_
   have B_5 := B_5.later (eT x_16 x_20)
   have B_5 := B_5.mod m_26 (nm1 (by omega))
   have B_5 := B_5.later (eT x_30 x_34)
   have B_5 := B_5.mod m_40 (nm1 (by omega))
   refine vL (ld rfl (B_5.one eF4 rfl)) <| vL (blt rfl rfl) <| vm (evb rfl K1) <| ug rfl rfl rfl <| vL (fa eF3 rfl) <| ug rfl rfl rfl <| vL (ld rfl (B_36.one eF4 rfl)) <| ug rfl rfl rfl <| vL (fa eF3 rfl) <| ug rfl rfl rfl <| vL (ld rfl (B_22.one eF4 rfl)) <| ug rfl rfl rfl <| vL (blt rfl rfl) <| vL (pkF rfl (evb rfl K2)) <| vm rfl <| ug rfl rfl rfl <| vL (fa eF8 rfl) <| ug rfl rfl rfl <| vL (ld rfl (B_36.one eF4 rfl)) <| ug rfl rfl rfl <| vL (fa eF3 rfl) <| ug rfl rfl rfl <| vL (ld rfl (B_36.one eF4 rfl)) <| ug rfl rfl rfl <| ?_
   refine vL (bgt rfl rfl) <| vL (pkF rfl (evb rfl K3)) <| vm rfl <| ug rfl rfl rfl <| vm (evb rfl c.1) <| ug rfl rfl rfl <| vm rfl <| vQ (v := undef) rfl rfl rfl rfl (λ hc => nomatch hc) rfl <| vQ (v := undef) rfl rfl rfl rfl (λ hc => nomatch hc) rfl <| vQ (v := undef) rfl rfl rfl rfl (λ hc => nomatch hc) rfl <| vQ (v := undef) rfl rfl rfl rfl (λ hc => nomatch hc) rfl <| ug rfl rfl rfl <| vL (pkF rfl rfl) <| vL (pkF rfl rfl) <| vm rfl <| ug rfl rfl rfl <| vm (evb rfl c.2.1) <| ug rfl rfl rfl <| vm rfl <| vQ (v := undef) rfl rfl rfl rfl (λ hc => nomatch hc) rfl <| vQ (v := undef) rfl rfl rfl rfl (λ hc => nomatch hc) rfl <| vQ (v := undef) rfl rfl rfl rfl (λ hc => nomatch hc) rfl <| vQ (v := undef) rfl rfl rfl rfl (λ hc => nomatch hc) rfl <| vQ (v := undef) rfl rfl rfl rfl (λ hc => nomatch hc) rfl <| ?_
   refine vQ (v := undef) rfl rfl rfl rfl (λ hc => nomatch hc) rfl <| ug rfl rfl rfl <| vL (pkF rfl rfl) <| vL (pkF rfl rfl) <| nK <| cF rfl <| sK <| sg <| vm (evb rfl c.1) <| vL (nt rfl) <| vm rfl <| vQ (v := undef) rfl rfl rfl rfl (λ hc => nomatch hc) rfl <| vQ (v := undef) rfl rfl rfl rfl (λ hc => nomatch hc) rfl <| vQ (v := undef) rfl rfl rfl rfl (λ hc => nomatch hc) rfl <| vL (pkT rfl rfl) <| vm rfl <| vQ (v := undef) rfl rfl rfl rfl (λ hc => nomatch hc) rfl <| vQ (v := undef) rfl rfl rfl rfl (λ hc => nomatch hc) rfl <| vL (pkT rfl rfl) <| vm rfl <| ug rfl rfl rfl <| ?_
   refine vm (evb rfl c.1) <| ug rfl rfl rfl <| vm rfl <| ug rfl rfl rfl <| vL (ld rfl (B_22.all eF5 eF6)) <| ug rfl rfl rfl <| vL (ld rfl (B_5.all eF5 eF6)) <| ug rfl rfl rfl <| vL (bqS Syv_eqs_api_Vow Syv_eqg_api_Vow (p := prepV v a) (q := v) rfl rfl) <| ug rfl rfl rfl <| vL (pkF rfl (evb rfl K6)) <| vL (pkT rfl rfl) <| vm rfl <| ug rfl rfl rfl <| vm (evb rfl c.2.1) <| ug rfl rfl rfl <| vm rfl <| ug rfl rfl rfl <| vL (ld rfl (B_36.all eF5 eF6)) <| ug rfl rfl rfl <| vL (ld rfl (B_22.all eF5 eF6)) <| ug rfl rfl rfl <| vL (bqS Syv_eqs_api_Vow Syv_eqg_api_Vow (p := (accV (prepV v a) b x)) (q := prepV v a) rfl rfl) <| ug rfl rfl rfl <| ?_
   refine vL (pkF rfl (evb rfl K7)) <| vL (pkT rfl rfl) <| vm rfl <| ug rfl rfl rfl <| vL (fa eF3 rfl) <| ug rfl rfl rfl <| vL (ld rfl (B_36.one eF4 rfl)) <| ug rfl rfl rfl <| vL (fa eF3 rfl) <| ug rfl rfl rfl <| vL (ld rfl (B_5.one eF4 rfl)) <| ug rfl rfl rfl <| vL (fa eF3 rfl) <| ug rfl rfl rfl <| vL (ld rfl (B_5.one eF4 rfl)) <| ug rfl rfl rfl <| vm rfl <| ug rfl rfl rfl <| vm rfl <| ug rfl rfl rfl <| vL (mX3 rfl rfl rfl) <| ug rfl rfl rfl <| ca eF59 rfl rfl ((between_any (((accV (prepV v a) b x)).promised) v.promised (max (max v.promised a) b) _).mono ?_)
   rintro e w_55 ⟨rfl, x_56⟩
   refine ⟨_, rfl, ?_⟩
   have := x_56.size
   have z_55 := eT z_39 x_56
   refine vL (pkT rfl rfl) <| va rfl <| nK <| rt <| tR (.tmp rfl .nil) <| ?_
   exact ⟨ret_true (vow_bt v a b x), z_55⟩
theorem synodVow_any (c0 : Array Value) (a1 : Int) (a2 : Int) (a3 : Int) (w : World) (h0 : (.cons (.int .i64) (.cons (.int .i64) (.cons (.int .i64) .nil)) : Sh).Ok w c0.toList) (w1 : (Lit.int .i64 a1).wf = true) (w2 : (Lit.int .i64 a2).wf = true) (w3 : (Lit.int .i64 a3).wf = true) :
  Calls Try.prog 7 #[.agg c0, .int .i64 a1, .int .i64 a2, .int .i64 a3] w λ e w' => e = .returned (.bool true) ∧ Below w.heap.size w w' := by
 obtain ⟨v, hv⟩ := Vow.opens w _ h0
 have e : c0 = #[.int .i64 v.promised, .int .i64 v.ballot, .int .i64 v.value] := Array.ext' (hcVw hv)
 subst e
 exact synodVow_w v a1 a2 a3 w
end
end Go.Proofs.Ytifffjhhammeiaa
