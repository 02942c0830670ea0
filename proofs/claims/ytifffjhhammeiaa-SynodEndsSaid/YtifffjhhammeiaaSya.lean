import Derived.Test.YtifffjhhammeiaaGolC
import Derived.Test.YtifffjhhammeiaaGolG
import Derived.Test.YtifffjhhammeiaaGol
import Derived.Test.YtifffjhhammeiaaSyG
set_option linter.unusedVariables false
set_option linter.unusedSimpArgs false
set_option maxRecDepth 100000
set_option maxHeartbeats 4000000
namespace Go.Proofs.Ytifffjhhammeiaa
section
open Go.RowKit
def syF (b : Nat) (a : SyAt) : List Nat := b :: (Rep.blkOf a.V ++ (Rep.blkOf a.R ++ a.T.flatMap λ t => Rep.blkOf t.ha))
theorem SySt.lt {w : World} {Z b : Nat} {a : SyAt} {C : Cou} (h : SySt w Z b a C) : ∀ q ∈ syF b a, Z ≤ q ∧ q < w.heap.size := by
 intro q hq
 unfold syF at hq
 rcases List.mem_cons.1 hq with rfl | hq
 ·exact ⟨h.le, h.blk.lt⟩
 ·rcases List.mem_append.1 hq with hq | hq
  ·exact h.V.lt q hq
  ·rcases List.mem_append.1 hq with hq | hq
   ·exact h.R.lt q hq
   ·obtain ⟨t, ht, hq⟩ := List.mem_flatMap.1 hq; exact h.H.lt t ht q hq
theorem SySt.mod {w w' : World} {Z b : Nat} {a : SyAt} {C : Cou} {S : List Nat} (h : SySt w Z b a C) (m : Mod S w w') (hS : ∀ q ∈ syF b a, q ∉ S) : SySt w' Z b a C :=
 ⟨h.blk.mod m (hS b List.mem_cons_self), h.le, h.V.mod m λ q hq => hS q (List.mem_cons_of_mem _ (List.mem_append.2 (.inl hq))), h.R.mod m λ q hq => hS q (List.mem_cons_of_mem _ (List.mem_append.2 (.inr (List.mem_append.2 (.inl hq))))),
  h.H.mod m λ j t _ hj q hq => hS q (List.mem_cons_of_mem _ (List.mem_append.2 (.inr (List.mem_append.2 (.inr (List.mem_flatMap.2 ⟨t, List.mem_of_getElem? hj, hq⟩)))))), h.bV, h.bR, h.VR, h.hb⟩
theorem SySt.later {w w' : World} {Z b : Nat} {a : SyAt} {C : Cou} (h : SySt w Z b a C) (x : Ext w w') : SySt w' Z b a C := h.mod (S := []) (Mod.of_ext x) λ _ _ h => by simp at h
structure SyO (w : World) (Z : Nat) (a : SyAt) (C : Cou) : Prop where
 V : Vow.rep.SOwn 52 24 w Z (Rep.blkOf a.V) a.V a.v C.vows
 R : Rv.rep.SOwn 69 64 w Z (Rep.blkOf a.R) a.R a.r a.T
 H : Hd (λ _ => False) w Z a.T C.rounds
theorem SyO.later {w w' : World} {Z : Nat} {a : SyAt} {C : Cou} (h : SyO w Z a C) (x : Ext w w') : SyO w' Z a C := ⟨h.V.later x, h.R.later x, h.H.later x⟩
theorem SyO.down {w : World} {Z Z' : Nat} {a : SyAt} {C : Cou} (h : SyO w Z a C) (hz : Z' ≤ Z) : SyO w Z' a C :=
 ⟨h.V.down hz, h.R.down hz, h.H.len, λ j x hX hj => by obtain ⟨A, c, h1, h2⟩ := h.H.own j x hX hj; exact ⟨A, c, h1, Rep.SOwn.down h2 hz⟩, h.H.dis⟩
theorem SySt.out {w : World} {Z b : Nat} {a : SyAt} {C : Cou} (h : SySt w Z b a C) : SyO w Z a C := ⟨h.V, h.R, h.H⟩
def syA0 : SyAt := ⟨none, 0, none, 0, []⟩
theorem SyO.nil (w : World) (Z : Nat) : SyO w Z syA0 ⟨[], []⟩ := ⟨Rep.SOwn.nil _, Rep.SOwn.nil _, rfl, λ j x _ hj => by simp at hj, λ i j s t _ hs => by simp [syA0] at hs⟩
theorem syG_play {N : Nat} {l : List Sst} (h15 : N ≤ 15) (h : ∀ x ∈ l, badS (N : Int) x = false) : ∀ k, k ≤ l.length → SyG N k (plyS N (l.take k))
 | 0, _ => by rw [List.take_zero]; exact SyG.zero h15
 | k + 1, hk => by rw [plyS_snoc (List.getElem?_eq_getElem (by omega))]; exact (syG_play h15 h k (by omega)).step (h _ (List.getElem_mem (by omega)))
theorem syE_1 {n : Int} {l : List Sst} (h : n < 1 ∨ 15 < n) : syE n l = 1 := if_pos h
theorem syE_2 {n : Int} {l : List Sst} (h : ¬ (n < 1 ∨ 15 < n)) (h2 : 500 < l.length) : syE n l = 2 := by unfold syE; rw [if_neg h, if_pos h2]
theorem syE_3 {n : Int} {l : List Sst} (h : ¬ (n < 1 ∨ 15 < n)) (h2 : ¬ 500 < l.length) (h3 : l.any (badS n) = true) : syE n l = 1 := by unfold syE; rw [if_neg h, if_neg h2, if_pos h3]
theorem syE_0 {n : Int} {l : List Sst} (h : ¬ (n < 1 ∨ 15 < n)) (h2 : ¬ 500 < l.length) (h3 : l.any (badS n) = false) : syE n l = 0 := by unfold syE; rw [if_neg h, if_neg h2, if_neg (by rw [h3]; decide)]
theorem syR_bad {n e : Int} {l : List Sst} (h : syE n l = e) (he : e ≠ 0) : syR n l = ⟨[], []⟩ := by unfold syR; rw [if_neg (by rw [h]; exact he)]
theorem syR_ok {N : Nat} {l : List Sst} (h : syE (N : Int) l = 0) : syR (N : Int) l = plyS N l := by unfold syR; rw [if_pos h, Int.toNat_natCast]; rfl
def Fr (a b : World) : Prop := Ext a b
theorem Fr.ext {a b : World} (h : Fr a b) : Ext a b := h
theorem Fr.later {a b c : World} (h : Fr a b) (x : Ext b c) : Fr a c := eT h x
theorem Fr.mod {a b c : World} {S : List Nat} (h : Fr a b) (m : Mod S b c) (hS : ∀ q ∈ S, a.heap.size ≤ q) : Fr a c := Ext.mod h m hS
theorem idxF_St (fC : FuncId) (cs : List Value) (p : Sst → Bool) (A : Option Addr) (c : Nat) (l : List Sst) (w : World) (hl : Sst.rep.SHas 32 w A c l) (hE : Enters Try.prog fC) (hC : ∀ x ∈ l, ∀ w', Ext w w' → Calls Try.prog fC (([.agg #[.int .i64 x.kind, .int .i64 x.who, .int .i64 x.ballot, .int .i64 x.value]] : List Value) ++ cs).toArray w' λ e w'' => e = .returned (.bool (p x)) ∧ Ext w' w'') :
  Calls Try.prog 53 #[.slice A l.length c, .func (.func fC) #[] cs.toArray] w (λ e w' => e = .returned (.int .i64 (idxI p l)) ∧ Ext w w') := by
 have hll := hl.len_le
 refine calls_W (n := 19) Try.func53 rfl rfl rfl ?_
 refine sg <| va rfl <| nK <| sq <| sg <| vm rfl <| vL (ln Try.underlying58 rfl) <| vm rfl <| nK <| bk <| ?_
 refine lp (λ mI EI wI => ∃ k : Nat, EI = [(0, .slice A l.length c), (1, .func (.func fC) #[] cs.toArray), (7, .int .i64 (l.length : Int)), (8, .int .i64 (k : Int))] ∧ mI = l.length - k ∧ Ext w wI ∧ (k ≤ l.length) ∧ (∀ i, i < k → p (l.getD i default) = false)) _ _ ⟨0, rfl, rfl, (Ext.rf w), by omega, λ i hi => by omega⟩ (.cons rfl (.cons rfl (.cons rfl (.cons (loI rfl (by first | omega | rfl | (simp <;> omega))) .nil)))) ?_
 rintro m_2 E_3 w_1 ⟨k, rfl, rfl, z_1, hk, hg⟩
 have := z_1.size
 refine sg <| vL (blt rfl rfl) <| nK <| sq <| ?_
 refine clt rfl (λ h_5 => ?_) (λ h_5 => ?_)
 ·refine sK <| sq <| bk <| sg <| vm rfl <| va rfl <| nK <| sg <| vm rfl <| vm rfl <| vm rfl <| vL (iA k Try.underlying58 eF41 rfl rfl ((hl.keep z_1).adr (zl k (by omega))) rfl (by omega)) <| vL (ld rfl (Rep.SHas.elt hcSt ((hl.keep z_1).adh (zl k (by omega))) (get_d (l := l) (u := default) (by omega)) eF42 eF41)) <| cv hE rfl rfl rfl ((hC (l.getD k default) (mem_dd (by omega)) _ z_1).mono ?_)
  rintro e w_6 ⟨rfl, x_7⟩
  refine ⟨_, rfl, ?_⟩
  have := x_7.size
  have z_6 := eT z_1 x_7
  refine nK <| ?_
  refine cb rfl (λ h_9 => ?_) (λ h_9 => ?_)
  ·refine sg <| vm rfl <| va rfl <| nK <| rt <| tB <| tT <| tK <| tB <| tT <| tR (.tmp rfl .nil) <| ?_
   exact ⟨by have e := idx_some_dd (p := p) (l := l) (d := default) (k := k) (by omega) h_9 hg; rw [e]; rfl, z_6⟩
  ·refine sk <| nB <| nT <| rg <| vL (bad rfl rfl (inI (by omega))) <| vm rfl <| nl <| ?_
   exact nI _ _ ⟨k + 1, rfl, rfl, z_6, by omega, lt_succ_all hg h_9⟩ (by omega) (.cons rfl (.cons rfl (.cons rfl (.cons (loI rfl (by first | omega | rfl | (simp <;> omega))) .nil))))
 ·refine xt <| xT <| xK <| xB <| nT <| sg <| va rfl <| nK <| rt <| tR (.tmp rfl .nil) <| ?_
  exact ⟨by have e := idx_none_dd (p := p) (l := l) (d := default) (λ i hi => hg i (by omega)); rw [e]; rfl, z_1⟩
theorem hasF_St (fC : FuncId) (cs : List Value) (p : Sst → Bool) (A : Option Addr) (c : Nat) (l : List Sst) (w : World) (hl : Sst.rep.SHas 32 w A c l) (hE : Enters Try.prog fC) (hC : ∀ x ∈ l, ∀ w', Ext w w' → Calls Try.prog fC (([.agg #[.int .i64 x.kind, .int .i64 x.who, .int .i64 x.ballot, .int .i64 x.value]] : List Value) ++ cs).toArray w' λ e w'' => e = .returned (.bool (p x)) ∧ Ext w' w'') :
  Calls Try.prog 31 #[.slice A l.length c, .func (.func fC) #[] cs.toArray] w (λ e w' => e = .returned (.bool (l.any p)) ∧ Ext w w') := by
 refine calls_W (n := 9) Try.func31 rfl rfl rfl ?_
 refine sg <| va rfl <| nK <| sg <| vm rfl <| vm rfl <| ca eF43 rfl rfl ((idxF_St fC cs p _ _ l _ (hl.keep (Ext.rf w)) hE (λ x hx w' h => hC x hx w' (eT (Ext.rf w) h))).mono ?_)
 rintro e w_1 ⟨rfl, x_2⟩
 refine ⟨_, rfl, ?_⟩
 have := x_2.size
 have z_1 := eT (Ext.rf w) x_2
 refine vL (bge rfl rfl) <| va rfl <| nK <| rt <| tR (.tmp rfl .nil) <| ?_
 exact ⟨by rw [idxI_any]; rfl, z_1⟩
theorem badX_any (x : Sst) (n : Int) (b : Nat) (w : World) (HB : Blk w b [.int .i64 n] 3 (0, 0)) :
  Calls Try.prog 51 #[.agg #[.int .i64 x.kind, .int .i64 x.who, .int .i64 x.ballot, .int .i64 x.value], .pointer (some ⟨b, 0, none⟩)] w (λ e w' => e = .returned (.bool (badS n x)) ∧ Ext w w') := by
 refine calls_W (n := 33) Try.func51 rfl rfl rfl ?_
 refine sg <| bx rfl rfl rfl rfl λ w_1 b_2 x_3 l_4 B_5 => ?_
 have := x_3.size
 have z_1 := eT (Ext.rf w) x_3
 have q_7 := B_5.lt
 refine va rfl <| nK <| sg <| vL (fa eF25 rfl) <| vL (ld rfl (B_5.one eF4 rfl)) <| vL (blt rfl rfl) <| vm rfl <| vQ rfl rfl rfl rfl (λ hc => fa eF25 rfl) rfl <| vQ rfl rfl rfl rfl (λ hc => ld (gt hc rfl) (B_5.one eF4 rfl)) rfl <| vQ rfl rfl rfl rfl (λ hc => bgt (gt hc rfl) rfl) rfl <| vL (pO rfl rfl rfl rfl) <| vm rfl <| vQ rfl rfl rfl rfl (λ hc => fa eF24 rfl) rfl <| vQ rfl rfl rfl rfl (λ hc => ld (gt hc rfl) (B_5.one eF4 rfl)) rfl <| vQ rfl rfl rfl rfl (λ hc => blt (gt hc rfl) rfl) rfl <| vL (pO rfl rfl rfl rfl) <| vm rfl <| vQ rfl rfl rfl rfl (λ hc => fa eF24 rfl) rfl <| vQ rfl rfl rfl rfl (λ hc => ld (gt hc rfl) (B_5.one eF4 rfl)) rfl <| ?_
 have HB := HB.later x_3
 refine vQ rfl rfl rfl rfl (λ hc => ld rfl (HB.one eF4 rfl)) rfl <| vQ rfl rfl rfl rfl (λ hc => bge (gt hc rfl) (gt hc rfl)) rfl <| vL (pO rfl rfl rfl rfl) <| vm rfl <| vQ rfl rfl rfl rfl (λ hc => fa eF22 rfl) rfl <| vQ rfl rfl rfl rfl (λ hc => ld (gt hc rfl) (B_5.one eF4 rfl)) rfl <| vQ rfl rfl rfl rfl (λ hc => blt (gt hc rfl) rfl) rfl <| vL (pO rfl rfl rfl rfl) <| vm rfl <| vQ rfl rfl rfl rfl (λ hc => fa eF22 rfl) rfl <| vQ rfl rfl rfl rfl (λ hc => ld (gt hc rfl) (B_5.one eF4 rfl)) rfl <| vQ rfl rfl rfl rfl (λ hc => bgt (gt hc rfl) rfl) rfl <| vL (pO rfl rfl rfl rfl) <| va rfl <| nK <| rt <| tR (.tmp rfl .nil) <| ?_
 exact ⟨rfl, z_1⟩
theorem play_bad (n : Int) (l : List Sst) (A : Option Addr) (c : Nat) (w : World) (hl : Sst.rep.SHas 32 w A c l) (hn : n < 1 ∨ 15 < n) :
  Calls Try.prog 29 #[.int .i64 n, .slice A l.length c] w (λ e w' => ∃ V v R r T, e = .returned (.tuple #[.agg #[.slice V (syR n l).vows.length v, .slice R (T : List Rv).length r], .int .i64 (syE n l)]) ∧ SyO w' w.heap.size ⟨V, v, R, r, T⟩ (syR n l) ∧ Ext w w') := by
 have hkn : (decide (n < 1) || decide (15 < n)) = true := by simpa using hn
 refine calls_W (n := 39) Try.func29 rfl rfl rfl ?_
 refine sg <| bx rfl rfl rfl rfl λ w_1 b_2 x_3 l_4 B_5 => ?_
 have := x_3.size
 have z_1 := eT (Ext.rf w) x_3
 have q_7 := B_5.lt
 refine al rfl eF44 rfl rfl λ w_8 b_9 x_10 l_11 B_12 => ?_
 have := x_10.size
 have z_8 := eT z_1 x_10
 have q_14 := B_12.lt
 refine va rfl <| nK <| sq <| sg <| ?_
 have B_5 := B_5.later x_10
 refine vL (ld rfl (B_5.one eF4 rfl)) <| vL (blt rfl rfl) <| vm rfl <| vQ rfl rfl rfl rfl (λ hc => ld rfl (B_5.one eF4 rfl)) rfl <| vQ rfl rfl rfl rfl (λ hc => bgt (gt hc rfl) rfl) rfl <| vL (pO rfl rfl rfl rfl) <| nK <| cT (evb rfl hkn) <| sg <| vL (v := .agg #[.slice none 0 0, .slice none 0 0]) (bd rfl (by kernel_rfl)) <| st (new := [.slice none 0 0, .slice none 0 0]) rfl rfl B_12 rfl eF45 rfl rfl rfl λ w_15 m_16 B_12 => ?_
 have := m_16.size
 have z_15 := Ext.mod z_8 m_16 (ge1 (by omega))
 have := m_16.size
 refine va rfl <| nK <| rt <| tT <| tR (.cell rfl (B_12.all eF46 eF45) (.tmp rfl .nil)) <| ?_
 have hE : syE n l = 1 := syE_1 hn
 have hR := syR_bad hE (by decide)
 exact ⟨none, 0, none, 0, [], by rw [hE, hR]; rfl, by rw [hR]; exact SyO.nil _ _, z_15⟩
theorem play_nat (N : Nat) (l : List Sst) (A : Option Addr) (c : Nat) (w : World) (hl : Sst.rep.SHas 32 w A c l) (hn : ¬ ((N : Int) < 1 ∨ 15 < (N : Int))) :
  Calls Try.prog 29 #[.int .i64 (N : Int), .slice A l.length c] w (λ e w' => ∃ V v R r T, e = .returned (.tuple #[.agg #[.slice V (syR (N : Int) l).vows.length v, .slice R (T : List Rv).length r], .int .i64 (syE (N : Int) l)]) ∧ SyO w' w.heap.size ⟨V, v, R, r, T⟩ (syR (N : Int) l) ∧ Ext w w') := by
 have hkn : (decide ((N : Int) < 1) || decide (15 < (N : Int))) = false := by simpa using hn
 have hN : 1 ≤ N ∧ N ≤ 15 := by omega
 refine calls_W (n := 39) Try.func29 rfl rfl rfl ?_
 refine sg <| bx rfl rfl rfl rfl λ w_1 b_2 x_3 l_4 B_5 => ?_
 have := x_3.size
 have z_1 := eT (Ext.rf w) x_3
 have q_7 := B_5.lt
 refine al rfl eF44 rfl rfl λ w_8 b_9 x_10 l_11 B_12 => ?_
 have := x_10.size
 have z_8 := eT z_1 x_10
 have q_14 := B_12.lt
 refine va rfl <| nK <| sq <| sg <| ?_
 have B_5 := B_5.later x_10
 refine vL (ld rfl (B_5.one eF4 rfl)) <| vL (blt rfl rfl) <| vm rfl <| vQ rfl rfl rfl rfl (λ hc => ld rfl (B_5.one eF4 rfl)) rfl <| vQ rfl rfl rfl rfl (λ hc => bgt (gt hc rfl) rfl) rfl <| vL (pO rfl rfl rfl rfl) <| nK <| cF (evb rfl hkn) <| sK <| sq <| sg <| vm rfl <| vL (ln Try.underlying58 rfl) <| vL (bgt rfl rfl) <| nK <| ?_
 refine clt rfl (λ h_15 => ?_) (λ h_15 => ?_)
 ·have h5 : 500 < l.length := by omega
  refine sg <| vL (v := .agg #[.slice none 0 0, .slice none 0 0]) (bd rfl (by kernel_rfl)) <| st (new := [.slice none 0 0, .slice none 0 0]) rfl rfl B_12 rfl eF45 rfl rfl rfl λ w_16 m_17 B_12 => ?_
  have := m_17.size
  have z_16 := Ext.mod z_8 m_17 (ge1 (by omega))
  have := m_17.size
  refine va rfl <| nK <| rt <| tT <| tR (.cell rfl (B_12.all eF46 eF45) (.tmp rfl .nil)) <| ?_
  have hE : syE (N : Int) l = 2 := syE_2 hn h5
  have hR := syR_bad hE (by decide)
  exact ⟨none, 0, none, 0, [], by rw [hE, hR]; rfl, by rw [hR]; exact SyO.nil _ _, z_16⟩
 ·have h5 : ¬ 500 < l.length := by omega
  refine sK <| sq <| sg <| vm rfl <| vL (mf rfl rfl) <| ca eF48 rfl rfl ((hasF_St 51 [.pointer (some ⟨b_2, 0, none⟩)] (badS (N : Int)) _ _ l _ (hl.keep z_8) eF47 (λ x hx w' h => badX_any x (N : Int) b_2 w' (B_5.later h))).mono ?_)
  rintro e w_20 ⟨rfl, x_21⟩
  refine ⟨_, rfl, ?_⟩
  have := x_21.size
  have z_20 := eT z_8 x_21
  refine nK <| ?_
  refine cb rfl (λ h_23 => ?_) (λ h_23 => ?_)
  ·have han : l.any (badS (N : Int)) = true := by simpa using h_23
   refine sg <| vL (v := .agg #[.slice none 0 0, .slice none 0 0]) (bd rfl (by kernel_rfl)) <| ?_
   have B_12 := B_12.later x_21
   refine st (new := [.slice none 0 0, .slice none 0 0]) rfl rfl B_12 rfl eF45 rfl rfl rfl λ w_24 m_25 B_12 => ?_
   have := m_25.size
   have z_24 := Ext.mod z_20 m_25 (ge1 (by omega))
   have := m_25.size
   refine va rfl <| nK <| rt <| tT <| tR (.cell rfl (B_12.all eF46 eF45) (.tmp rfl .nil)) <| ?_
   have hE : syE (N : Int) l = 1 := syE_3 hn h5 han
   have hR := syR_bad hE (by decide)
   exact ⟨none, 0, none, 0, [], by rw [hE, hR]; rfl, by rw [hR]; exact SyO.nil _ _, z_24⟩
  ·have han : l.any (badS (N : Int)) = false := by simpa using h_23
   have hall : ∀ x ∈ l, badS (N : Int) x = false := λ x hx => by rw [List.any_eq_false] at han; simpa using han x hx
   refine sK <| sg <| ?_
   have B_5 := B_5.later x_21
   refine vL (ld rfl (B_5.one eF4 rfl)) <| ?_
   have FY : Fr w_20 w_20 := Ext.rf _
   refine mK (R := Vow.rep) (by_ := 24) (B := w_20.heap.size) (c := N) (zv := Vow.zero) (q := default) Rep.flat_plain Try.underlying59 Vow.info rfl (by decide) Vow.zero_raw (λ _ => ⟨rfl, by decide, by decide, by decide⟩) rfl rfl rfl (by omega) (by omega) (by omega) λ w_28 b_29 x_30 l_31 O_32 => ?_
   have := x_30.size
   have z_28 := eT z_20 x_30
   have u_34 := λ q hq => (O_32.lt q hq).2
   refine vL (v := .agg #[.slice (some ⟨b_29, 0, none⟩) N N, .slice none 0 0]) (bd rfl (by kernel_rfl)) <| vL (v := .agg #[.slice (some ⟨b_29, 0, none⟩) N N, .slice none 0 0]) (bd rfl (by kernel_rfl)) <| al rfl eF49 rfl rfl λ w_36 b_37 x_38 l_39 B_40 => ?_
   have := x_38.size
   have z_36 := eT z_28 x_38
   have q_42 := B_40.lt
   refine st (new := [.slice (some ⟨b_29, 0, none⟩) N N, .slice none 0 0]) rfl rfl B_40 rfl eF50 rfl rfl rfl λ w_43 m_44 B_40 => ?_
   have := m_44.size
   have z_43 := Ext.mod z_36 m_44 (ge1 (by omega))
   have := m_44.size
   refine nK <| sq <| sg <| vm rfl <| vL (ln Try.underlying58 rfl) <| vm rfl <| nK <| bk <| ?_
   have O_32 := O_32.later x_38
   have O_32 := O_32.mod m_44 (fk1 u_34 (by omega))
   have HS0 : SySt w_43 w_20.heap.size b_37 ⟨some ⟨b_29, 0, none⟩, N, none, 0, []⟩ (plyS N (l.take 0)) := ⟨(by have h_ := B_40; simpa [syC, plyS, cou0] using h_), by omega, (by have h_ := O_32; exact h_), Rep.SOwn.nil _, ⟨rfl, λ j x _ hj => by simp [plyS, cou0] at hj, λ i j s t _ hs => by simp at hs⟩, (λ q hq hb_ => by (have := u_34 q hq; omega)), (λ q hq => by simp [Rep.blkOf] at hq), (λ q hq => by simp [Rep.blkOf] at hq), (λ t ht => by simp at ht)⟩
   have B_12 := B_12.later (eT x_21 (eT x_30 x_38))
   have B_12 := B_12.mod m_44 (nm1 (by omega))
   have FY := FY.later (eT x_30 x_38)
   have FY := FY.mod m_44 (λ q hq => by have := List.mem_singleton.1 hq; omega)
   refine lp (λ mI EI wI => ∃ k : Nat, ∃ a0 : SyAt, EI = [(4, .pointer (some ⟨b_9, 0, none⟩)), (5, .int .i64 0), (6, .pointer (some ⟨b_37, 0, none⟩)), (28, .slice A l.length c), (29, .int .i64 (l.length : Int)), (30, .int .i64 (k : Int))] ∧ mI = l.length - k ∧ Ext w wI ∧ Blk wI b_9 [.slice none 0 0, .slice none 0 0] 62 (0, 0) ∧ Fr w_20 wI ∧ SySt wI w_20.heap.size b_37 a0 (plyS N (l.take k)) ∧ (k ≤ l.length)) _ _ ⟨0, ⟨some ⟨b_29, 0, none⟩, N, none, 0, []⟩, rfl, rfl, z_43, B_12, FY, HS0, by omega⟩ (.cons rfl (.cons rfl (.cons rfl (.cons rfl (.cons rfl (.cons (loI rfl (by first | omega | rfl | (simp <;> omega))) .nil)))))) ?_
   rintro m_48 E_49 w_47 ⟨k, a0, rfl, rfl, z_47, B_12, FY, HS, hk⟩
   have := z_47.size
   have q_51 := B_12.lt
   have uS := λ q hq => (HS.lt q hq).2
   have lS := λ q hq => (HS.lt q hq).1
   have qF := FY.ext.size
   refine sg <| vL (blt rfl rfl) <| nK <| sq <| ?_
   refine clt rfl (λ h_52 => ?_) (λ h_52 => ?_)
   ·obtain ⟨xs, hxs⟩ : ∃ xs, l[k]? = some xs := ⟨_, List.getElem?_eq_getElem (by omega)⟩
    have hxm := List.mem_of_getElem? hxs
    refine sK <| sq <| bk <| sg <| vL (iA k Try.underlying58 eF41 rfl rfl ((hl.keep z_47).adr (zl k (by omega))) rfl (by omega)) <| vL (ld rfl (Rep.SHas.elt hcSt ((hl.keep z_47).adh (zl k (by omega))) hxs eF42 eF41)) <| al rfl eF51 rfl rfl λ w_53 b_54 x_55 l_56 B_57 => ?_
    have := x_55.size
    have z_53 := eT z_47 x_55
    have q_59 := B_57.lt
    refine st (new := [.int .i64 xs.kind, .int .i64 xs.who, .int .i64 xs.ballot, .int .i64 xs.value]) rfl rfl B_57 rfl eF41 rfl rfl rfl λ w_60 m_61 B_57 => ?_
    have := m_61.size
    have z_60 := Ext.mod z_53 m_61 (ge1 (by omega))
    have := m_61.size
    refine nK <| rg <| vL (ld rfl (B_57.all eF42 eF41)) <| ?_
    have HS := HS.later x_55
    have HS := HS.mod m_61 (λ q hq h => by have := uS q hq; have := lS q hq; have := List.mem_singleton.1 h; omega)
    have FY := FY.later x_55
    have FY := FY.mod m_61 (λ q hq => by have := List.mem_singleton.1 hq; omega)
    refine ca eF52 rfl rfl ((step_any w_20 b_37 a0 _ xs N k _ FY.ext HS (syG_play (by omega) hall k (by omega)) (by omega) (hall xs hxm) (Sst.all_ok hl xs hxm)).mono ?_)
    rintro e w_65 ⟨a1, rfl, HS2, m_64⟩
    refine ⟨_, rfl, ?_⟩
    have := m_64.size
    have z_65 := Ext.mod z_60 m_64 (λ q hq => Nat.le_trans (by omega) (above_le hq))
    refine nl <| nB <| nT <| rg <| vL (bad rfl rfl (inI (by omega))) <| vm rfl <| nl <| ?_
    have B_12 := B_12.later x_55
    have B_12 := B_12.mod m_61 (nm1 (by omega))
    have B_12 := B_12.mod m_64 (λ hq => by have := above_le hq; omega)
    have FY := FY.mod m_64 (λ q hq => above_le hq)
    exact nI _ _ ⟨k + 1, a1, rfl, rfl, z_65, B_12, FY, (by rw [plyS_snoc hxs]; exact HS2), by omega⟩ (by omega) (.cons rfl (.cons rfl (.cons rfl (.cons rfl (.cons rfl (.cons (loI rfl (by first | omega | rfl | (simp <;> omega))) .nil))))))
   ·have ek : k = l.length := by omega
    rw [ek, List.take_length] at HS
    have HBs := HS.blk
    refine xt <| xT <| xK <| xB <| nT <| sg <| vL (fa eF13 rfl) <| vL (ld rfl (HBs.all eF46 eF45)) <| st (new := [.slice a0.V ((plyS N l).vows.length) a0.v, .slice a0.R a0.T.length a0.r]) rfl rfl B_12 rfl eF45 rfl rfl rfl λ w_67 m_68 B_12 => ?_
    have := m_68.size
    have z_67 := Ext.mod z_47 m_68 (ge1 (by omega))
    have := m_68.size
    refine va rfl <| nK <| rt <| tR (.cell rfl (B_12.all eF46 eF45) (.tmp rfl .nil)) <| ?_
    have hE : syE (N : Int) l = 0 := syE_0 hn h5 han
    have hR := syR_ok hE
    have HS := HS.mod m_68 (λ q hq h => by have := uS q hq; have := lS q hq; have := List.mem_singleton.1 h; omega)
    have HO := HS.out.down (Z' := w.heap.size) (by omega)
    exact ⟨a0.V, a0.v, a0.R, a0.r, a0.T, by rw [hE, hR]; rfl, by rw [hR]; exact HO, z_67⟩
theorem play_any (n : Int) (l : List Sst) (A : Option Addr) (c : Nat) (w : World) (hl : Sst.rep.SHas 32 w A c l) :
  Calls Try.prog 29 #[.int .i64 n, .slice A l.length c] w (λ e w' => ∃ V v R r T, e = .returned (.tuple #[.agg #[.slice V (syR n l).vows.length v, .slice R (T : List Rv).length r], .int .i64 (syE n l)]) ∧ SyO w' w.heap.size ⟨V, v, R, r, T⟩ (syR n l) ∧ Ext w w') := by
 by_cases h : n < 1 ∨ 15 < n
 ·exact play_bad n l A c w hl h
 ·obtain ⟨N, rfl⟩ : ∃ N : Nat, n = N := ⟨n.toNat, by omega⟩
  exact play_nat N l A c w hl h
end
section
open Go.RowKit
theorem Syc_el_S_int : ElT Try.prog repI 34 3 8 := ElT.mk_ (z := .int .i64 0) (k := 1) Try.underlying34 info_int rfl rfl (by decide) (λ j u h => raw0I j u h)
theorem Syc_el_S_api_Step : ElT Try.prog Sst.rep 58 72 32 := ElT.mk_ (z := Sst.zero) (k := 4) Try.underlying58 Sst.info rfl rfl (by decide) Sst.zero_raw
def chL (C : Cou) (k : Nat) : List Int := ((C.rounds.take k).filter (chosB C.vows.length)).map (·.v)
theorem chL_snoc {C : Cou} {k : Nat} {r : Rnd} (h : C.rounds[k]? = some r) : chL C (k + 1) = if chosB C.vows.length r = true then chL C k ++ [r.v] else chL C k := by
 obtain ⟨hk, rfl⟩ := List.getElem?_eq_some_iff.1 h
 unfold chL
 rw [List.take_succ_eq_append_getElem hk, List.filter_append, List.map_append]
 split
 ·rename_i hc; simp [hc]
 ·rename_i hc; simp [hc]
theorem chL_len {C : Cou} {k : Nat} : (chL C k).length ≤ k := by unfold chL; rw [List.length_map]; exact Nat.le_trans (List.length_filter_le _ _) (by rw [List.length_take]; omega)
theorem chL_end {C : Cou} : chL C C.rounds.length = C.chosen := by unfold chL Cou.chosen; rw [List.take_length]
theorem lt_int (n s : Nat) : decide (n < 2 * s) = decide ((n : Int) < 2 * (s : Int)) := by rw [decide_eq_decide]; omega
theorem chosB_int (n : Nat) (r : Rnd) : chosB n r = (r.asked && decide ((n : Int) < 2 * (Vote.size r.q : Int))) := by unfold chosB; rw [lt_int]
def lvS : List Sst := [⟨1, 0, 4, 0⟩, ⟨1, 1, 4, 0⟩, ⟨1, 2, 4, 0⟩, ⟨2, 0, 4, 77⟩, ⟨3, 0, 4, 0⟩, ⟨3, 1, 4, 0⟩, ⟨3, 2, 4, 0⟩]
theorem chosen_any (Z : Nat) (a : SyAt) (C : Cou) (w : World) (hO : SyO w Z a C) (hC : ∀ r ∈ C.rounds, r.q < 32768) (hT : a.T.length ≤ 1000000) :
  Calls Try.prog 30 #[.agg #[.slice a.V C.vows.length a.v, .slice a.R a.T.length a.r]] w (λ e w' => ∃ A c, e = .returned (.slice A C.chosen.length c) ∧ repI.SOwn 3 8 w' w.heap.size (Rep.blkOf A) A c C.chosen ∧ Ext w w') := by
 have hR := hO.R.has
 have hall := Rv.all_ok hR
 refine calls_W (n := 32) Try.func30 rfl rfl rfl ?_
 refine sg <| bx rfl rfl rfl rfl λ w_1 b_2 x_3 l_4 B_5 => ?_
 have := x_3.size
 have z_1 := eT (Ext.rf w) x_3
 have q_7 := B_5.lt
 refine va rfl <| nK <| sg <| va rfl <| nK <| sq <| sg <| vL (fa eF14 rfl) <| vL (ld rfl (B_5.one eF15 rfl)) <| vL (ln Try.underlying60 rfl) <| vm rfl <| nK <| bk <| ?_
 refine lp (λ mI EI wI => ∃ k : Nat, ∃ Lo : List Int, ∃ AL : Option Addr, ∃ cL : Nat, EI = [(1, .pointer (some ⟨b_2, 0, none⟩)), (2, .slice none 0 0), (3, .slice AL Lo.length cL), (7, .slice a.R a.T.length a.r), (8, .int .i64 (a.T.length : Int)), (9, .int .i64 (k : Int))] ∧ mI = a.T.length - k ∧ Ext w wI ∧ Blk wI b_2 [.slice a.V C.vows.length a.v, .slice a.R a.T.length a.r] 62 (0, 0) ∧ repI.SOwn 3 8 wI w.heap.size (Rep.blkOf AL) AL cL Lo ∧ (k ≤ a.T.length) ∧ (Lo = chL C k) ∧ (∀ q ∈ Rep.blkOf AL, q = b_2 → False)) _ _ ⟨0, ([] : List Int), none, 0, rfl, rfl, z_1, B_5, (Rep.SOwn.nil _), by omega, rfl, (λ q hq hb => by (simp [Rep.blkOf] at hq))⟩ (.cons rfl (.cons rfl (.cons rfl (.cons rfl (.cons rfl (.cons (loI rfl (by first | omega | rfl | (simp <;> omega))) .nil)))))) ?_
 rintro m_10 E_11 w_9 ⟨k, Lo, AL, cL, rfl, rfl, z_9, B_5, OLx, hk, hLo, d_8⟩
 have := z_9.size
 have q_13 := B_5.lt
 have u_14 := λ q hq => (OLx.lt q hq).2
 have hLl : Lo.length ≤ k := by rw [hLo]; exact chL_len
 refine sg <| vL (blt rfl rfl) <| nK <| sq <| ?_
 refine clt rfl (λ h_15 => ?_) (λ h_15 => ?_)
 ·obtain ⟨r, hr⟩ : ∃ r, C.rounds[k]? = some r := ⟨_, List.getElem?_eq_getElem (by rw [← hO.H.len]; omega)⟩
  obtain ⟨Ah, ch, hTk, _⟩ := hO.H.own k r id hr
  have hrv : okI r.v := (hall _ (List.mem_of_getElem? hTk)).2.1
  refine sK <| sq <| bk <| sg <| vL (iA k Try.underlying60 eF0 rfl rfl ((hR.keep z_9).adr (zl k (by omega))) rfl (by omega)) <| vL (ld rfl (Rep.SHas.elt hcRv ((hR.keep z_9).adh (zl k (by omega))) hTk eF11 eF0)) <| al rfl eF53 rfl rfl λ w_16 b_17 x_18 l_19 B_20 => ?_
  have := x_18.size
  have z_16 := eT z_9 x_18
  have q_22 := B_20.lt
  refine st (new := [.int .i64 r.b, .int .u32 (r.p : Int), .slice Ah r.h.length ch, .bool r.asked, .int .i64 r.v, .int .u32 (r.q : Int)]) rfl rfl B_20 rfl eF0 rfl rfl rfl λ w_23 m_24 B_20 => ?_
  have := m_24.size
  have z_23 := Ext.mod z_16 m_24 (ge1 (by omega))
  have := m_24.size
  refine nK <| sq <| ?_
  refine rd [(1, 0), (4, 0), (5, 0), (8, 0)] [0, 1, 2, 3, 4, 5, 6, 7, 8, 9, 10, 11] (by kernel_rfl) (by kernel_rfl) ?_
  refine fw1 rfl (λ _ => fa eF32 rfl) <| fq1 rfl (λ _ x => ld rfl ((B_20.later x).one eF33 rfl)) <| fw1 rfl (λ _ => mv rfl) <| fW rfl rfl rfl rfl rfl rfl (λ hc _ => fa eF40 rfl) rfl <| fQ rfl rfl rfl rfl rfl rfl (λ hc _ x => ld (gt hc rfl) ((B_20.later x).one eF28 rfl)) rfl <| fC rfl rfl rfl rfl rfl rfl eF19 (λ hc => ec (gt hc rfl) rfl) (λ hc _ x => onesS r.q (by have := hC r (List.mem_of_getElem? hr); omega) _) rfl <| fW rfl rfl rfl rfl rfl rfl (λ hc _ => bmu rfl (gt hc rfl) (inI (by have h_ := Vote.cnt_le 32 r.q; unfold Vote.size; omega))) rfl <| fW rfl rfl rfl rfl rfl rfl (λ hc _ => fa eF20 rfl) rfl <| ?_
  have B_5 := B_5.later x_18
  have B_5 := B_5.mod m_24 (nm1 (by omega))
  refine fQ rfl rfl rfl rfl rfl rfl (λ hc _ x => ld (gt hc rfl) ((B_5.later x).one eF21 rfl)) rfl <| fW rfl rfl rfl rfl rfl rfl (λ hc _ => ln Try.underlying59 (gt hc rfl)) rfl <| fW rfl rfl rfl rfl rfl rfl (λ hc _ => bgt (gt hc rfl) (gt hc rfl)) rfl <| fw1 rfl (λ _ => pA rfl rfl rfl rfl) <| fn λ w_27 x_28 => ?_
  have := x_28.size
  have z_27 := eT z_23 x_28
  refine nT <| ?_
  refine cb rfl (λ h_30 => ?_) (λ h_30 => ?_)
  ·have hcb : chosB C.vows.length r = true := by rw [chosB_int]; exact h_30
   refine rg <| vm rfl <| vL (fa eF38 rfl) <| ?_
   have B_20 := B_20.later x_28
   refine vL (ld rfl (B_20.one eF4 rfl)) <| bs (e := 3) (cs := [.int .i64 r.v]) rfl (λ _ => by kernel_rfl) rfl λ w_31 b_32 x_33 l_34 B_35 => ?_
   have := x_33.size
   have z_31 := eT z_27 x_33
   have q_37 := B_35.lt
   have OLx := OLx.later x_18
   have OLx := OLx.mod m_24 (fk1 u_14 (by omega))
   have OLx := OLx.later (eT x_28 x_33)
   refine ap Syc_el_S_int Rep.flat_bare OLx (Blk.has1 (R := repI) (by_ := 8) (q := r.v) B_35 ⟨rfl, hrv⟩ (by decide)) rfl rfl (by simp only [List.length_cons, List.length_nil]; omega) (by simp only [List.length_cons, List.length_nil]; omega) (by omega) rfl λ w_38 A_39 c_40 m_41 O_42 g_43 n_44 => ?_
   have := m_41.size
   have z_38 := Ext.mod z_31 m_41 (λ q hq => Nat.le_trans (by omega) (OLx.lt q hq).1)
   have u_46 := λ q hq => (O_42.lt q hq).2
   have := m_41.size
   refine va rfl <| nl <| nB <| nT <| rg <| vL (bad rfl rfl (inI (by omega))) <| vm rfl <| nl <| ?_
   have B_5 := B_5.later (eT x_28 x_33)
   have B_5 := B_5.mod m_41 (λ hq => d_8 _ hq rfl)
   exact nI _ _ ⟨k + 1, Lo ++ [r.v], A_39, c_40, rfl, rfl, z_38, B_5, O_42, by omega, by rw [chL_snoc hr, if_pos hcb, hLo], (λ q hq hb => by (exact Or.elim (g_43 q hq) (λ k_48 => by (exact d_8 q k_48 hb)) (λ k_48 => by omega)))⟩ (by omega) (.cons rfl (.cons rfl (.cons rfl (.cons rfl (.cons rfl (.cons (loI rfl (by first | omega | rfl | (simp <;> omega))) .nil))))))
  ·have hcb : chosB C.vows.length r = false := by rw [chosB_int]; exact h_30
   refine sk <| nB <| nT <| rg <| vL (bad rfl rfl (inI (by omega))) <| vm rfl <| nl <| ?_
   have B_5 := B_5.later x_28
   have OLx := OLx.later x_18
   have OLx := OLx.mod m_24 (fk1 u_14 (by omega))
   have OLx := OLx.later x_28
   exact nI _ _ ⟨k + 1, Lo, AL, cL, rfl, rfl, z_27, B_5, OLx, by omega, by rw [chL_snoc hr, if_neg (by rw [hcb]; decide), hLo], (λ q hq hb => by (exact d_8 q hq hb))⟩ (by omega) (.cons rfl (.cons rfl (.cons rfl (.cons rfl (.cons rfl (.cons (loI rfl (by first | omega | rfl | (simp <;> omega))) .nil))))))
 ·have ek : k = C.rounds.length := by rw [← hO.H.len]; omega
  refine xt <| xT <| xK <| xB <| nT <| sg <| vm rfl <| va rfl <| nK <| rt <| tR (.tmp rfl .nil) <| ?_
  have he : Lo = C.chosen := by rw [hLo, ek]; exact chL_end
  exact ⟨AL, cL, by rw [← he]; rfl, by rw [← he]; exact OLx, z_9⟩
theorem ballotOf_lv  (w : World) :
  Calls Try.prog 49 #[.int .i64 3, .int .i64 4, .int .i64 77] w (λ e w' => ∃ A c, e = .returned (.slice A 7 c) ∧ Sst.rep.SOwn 72 32 w' w.heap.size (Rep.blkOf A) A c lvS ∧ Ext w w') := by
 refine calls_W (n := 39) Try.func49 rfl rfl rfl ?_
 refine sg <| va rfl <| nK <| sg <| va rfl <| nK <| sq <| sg <| vm rfl <| vm rfl <| nK <| bk <| lu 4 <| lr <| sg <| vL (blt rfl rfl) <| nl <| ?_
 refine nT <| sq <| cT rfl <| sK <| sq <| bk <| sg <| vm rfl <| va rfl <| nK <| rg <| vm rfl <| vm rfl <| vm rfl <| vL (v := .agg #[.int .i64 1, .int .i64 0, .int .i64 4, .int .i64 0]) (bd rfl (by kernel_rfl)) <| bs (e := 72) (cs := [.int .i64 1, .int .i64 0, .int .i64 4, .int .i64 0]) rfl (λ _ => by kernel_rfl) rfl λ w_1 b_2 x_3 l_4 B_5 => ?_
 have := x_3.size
 have z_1 := eT (Ext.rf w) x_3
 have q_7 := B_5.lt
 have O_8 : Sst.rep.SOwn 72 32 w_1 w.heap.size (Rep.blkOf none) none 0 ([] : List Sst) := Rep.SOwn.nil _
 refine ap Syc_el_S_api_Step Rep.flat_bare O_8 (Blk.has1 (R := Sst.rep) (by_ := 32) (q := (⟨1, 0, 4, 0⟩ : Sst)) B_5 ⟨rfl, ⟨okI_iff.2 (by decide), okI_iff.2 (by decide), okI_iff.2 (by decide), okI_iff.2 (by decide)⟩⟩ (by decide)) rfl rfl (by decide) (by decide) z_1.size rfl λ w_9 A_10 c_11 m_12 O_13 g_14 n_15 => ?_
 have := m_12.size
 have z_9 := Ext.mod z_1 m_12 (λ q hq => (O_8.lt q hq).1)
 have u_17 := λ q hq => (O_13.lt q hq).2
 have := m_12.size
 refine va rfl <| nl <| nB <| nT <| rg <| vL (badL (r := 1) rfl rfl (by decide) (by decide)) <| vm rfl <| nl <| nR <| lr <| sg <| vL (blt rfl rfl) <| nK <| sq <| cT rfl <| sK <| sq <| bk <| sg <| vm rfl <| ?_
 refine va rfl <| nK <| rg <| vm rfl <| vm rfl <| vm rfl <| vL (v := .agg #[.int .i64 1, .int .i64 1, .int .i64 4, .int .i64 0]) (bd rfl (by kernel_rfl)) <| bs (e := 72) (cs := [.int .i64 1, .int .i64 1, .int .i64 4, .int .i64 0]) rfl (λ _ => by kernel_rfl) rfl λ w_19 b_20 x_21 l_22 B_23 => ?_
 have := x_21.size
 have z_19 := eT z_9 x_21
 have q_25 := B_23.lt
 have O_13 := O_13.later x_21
 refine ap Syc_el_S_api_Step Rep.flat_bare O_13 (Blk.has1 (R := Sst.rep) (by_ := 32) (q := (⟨1, 1, 4, 0⟩ : Sst)) B_23 ⟨rfl, ⟨okI_iff.2 (by decide), okI_iff.2 (by decide), okI_iff.2 (by decide), okI_iff.2 (by decide)⟩⟩ (by decide)) rfl rfl (by decide) (by decide) z_19.size rfl λ w_26 A_27 c_28 m_29 O_30 g_31 n_32 => ?_
 have := m_29.size
 have z_26 := Ext.mod z_19 m_29 (λ q hq => (O_13.lt q hq).1)
 have u_34 := λ q hq => (O_30.lt q hq).2
 have := m_29.size
 refine va rfl <| nl <| nB <| nT <| rg <| vL (badL (r := 2) rfl rfl (by decide) (by decide)) <| vm rfl <| nl <| nR <| lr <| sg <| vL (blt rfl rfl) <| nK <| sq <| cT rfl <| sK <| sq <| bk <| sg <| vm rfl <| ?_
 refine va rfl <| nK <| rg <| vm rfl <| vm rfl <| vm rfl <| vL (v := .agg #[.int .i64 1, .int .i64 2, .int .i64 4, .int .i64 0]) (bd rfl (by kernel_rfl)) <| bs (e := 72) (cs := [.int .i64 1, .int .i64 2, .int .i64 4, .int .i64 0]) rfl (λ _ => by kernel_rfl) rfl λ w_36 b_37 x_38 l_39 B_40 => ?_
 have := x_38.size
 have z_36 := eT z_26 x_38
 have q_42 := B_40.lt
 have O_30 := O_30.later x_38
 refine ap Syc_el_S_api_Step Rep.flat_bare O_30 (Blk.has1 (R := Sst.rep) (by_ := 32) (q := (⟨1, 2, 4, 0⟩ : Sst)) B_40 ⟨rfl, ⟨okI_iff.2 (by decide), okI_iff.2 (by decide), okI_iff.2 (by decide), okI_iff.2 (by decide)⟩⟩ (by decide)) rfl rfl (by decide) (by decide) z_36.size rfl λ w_43 A_44 c_45 m_46 O_47 g_48 n_49 => ?_
 have := m_46.size
 have z_43 := Ext.mod z_36 m_46 (λ q hq => (O_30.lt q hq).1)
 have u_51 := λ q hq => (O_47.lt q hq).2
 have := m_46.size
 refine va rfl <| nl <| nB <| nT <| rg <| vL (badL (r := 3) rfl rfl (by decide) (by decide)) <| vm rfl <| nl <| nR <| lr <| sg <| vL (blt rfl rfl) <| nK <| sq <| cF rfl <| xt <| xT <| xK <| xB <| nT <| sg <| ?_
 refine vm rfl <| vm rfl <| vm rfl <| vL (v := .agg #[.int .i64 2, .int .i64 0, .int .i64 4, .int .i64 77]) (bd rfl (by kernel_rfl)) <| bs (e := 72) (cs := [.int .i64 2, .int .i64 0, .int .i64 4, .int .i64 77]) rfl (λ _ => by kernel_rfl) rfl λ w_53 b_54 x_55 l_56 B_57 => ?_
 have := x_55.size
 have z_53 := eT z_43 x_55
 have q_59 := B_57.lt
 have O_47 := O_47.later x_55
 refine ap Syc_el_S_api_Step Rep.flat_bare O_47 (Blk.has1 (R := Sst.rep) (by_ := 32) (q := (⟨2, 0, 4, 77⟩ : Sst)) B_57 ⟨rfl, ⟨okI_iff.2 (by decide), okI_iff.2 (by decide), okI_iff.2 (by decide), okI_iff.2 (by decide)⟩⟩ (by decide)) rfl rfl (by decide) (by decide) z_53.size rfl λ w_60 A_61 c_62 m_63 O_64 g_65 n_66 => ?_
 have := m_63.size
 have z_60 := Ext.mod z_53 m_63 (λ q hq => (O_47.lt q hq).1)
 have u_68 := λ q hq => (O_64.lt q hq).2
 have := m_63.size
 refine va rfl <| nK <| sq <| sg <| vm rfl <| vm rfl <| nK <| bk <| lu 4 <| lr <| sg <| vL (blt rfl rfl) <| nK <| sq <| cT rfl <| sK <| sq <| bk <| ?_
 refine sg <| vm rfl <| va rfl <| nK <| rg <| vm rfl <| vm rfl <| vm rfl <| vL (v := .agg #[.int .i64 3, .int .i64 0, .int .i64 4, .int .i64 0]) (bd rfl (by kernel_rfl)) <| bs (e := 72) (cs := [.int .i64 3, .int .i64 0, .int .i64 4, .int .i64 0]) rfl (λ _ => by kernel_rfl) rfl λ w_70 b_71 x_72 l_73 B_74 => ?_
 have := x_72.size
 have z_70 := eT z_60 x_72
 have q_76 := B_74.lt
 have O_64 := O_64.later x_72
 refine ap Syc_el_S_api_Step Rep.flat_bare O_64 (Blk.has1 (R := Sst.rep) (by_ := 32) (q := (⟨3, 0, 4, 0⟩ : Sst)) B_74 ⟨rfl, ⟨okI_iff.2 (by decide), okI_iff.2 (by decide), okI_iff.2 (by decide), okI_iff.2 (by decide)⟩⟩ (by decide)) rfl rfl (by decide) (by decide) z_70.size rfl λ w_77 A_78 c_79 m_80 O_81 g_82 n_83 => ?_
 have := m_80.size
 have z_77 := Ext.mod z_70 m_80 (λ q hq => (O_64.lt q hq).1)
 have u_85 := λ q hq => (O_81.lt q hq).2
 have := m_80.size
 refine va rfl <| nl <| nB <| nT <| rg <| vL (badL (r := 1) rfl rfl (by decide) (by decide)) <| vm rfl <| nl <| nR <| lr <| sg <| vL (blt rfl rfl) <| nK <| sq <| cT rfl <| sK <| sq <| bk <| sg <| vm rfl <| ?_
 refine va rfl <| nK <| rg <| vm rfl <| vm rfl <| vm rfl <| vL (v := .agg #[.int .i64 3, .int .i64 1, .int .i64 4, .int .i64 0]) (bd rfl (by kernel_rfl)) <| bs (e := 72) (cs := [.int .i64 3, .int .i64 1, .int .i64 4, .int .i64 0]) rfl (λ _ => by kernel_rfl) rfl λ w_87 b_88 x_89 l_90 B_91 => ?_
 have := x_89.size
 have z_87 := eT z_77 x_89
 have q_93 := B_91.lt
 have O_81 := O_81.later x_89
 refine ap Syc_el_S_api_Step Rep.flat_bare O_81 (Blk.has1 (R := Sst.rep) (by_ := 32) (q := (⟨3, 1, 4, 0⟩ : Sst)) B_91 ⟨rfl, ⟨okI_iff.2 (by decide), okI_iff.2 (by decide), okI_iff.2 (by decide), okI_iff.2 (by decide)⟩⟩ (by decide)) rfl rfl (by decide) (by decide) z_87.size rfl λ w_94 A_95 c_96 m_97 O_98 g_99 n_100 => ?_
 have := m_97.size
 have z_94 := Ext.mod z_87 m_97 (λ q hq => (O_81.lt q hq).1)
 have u_102 := λ q hq => (O_98.lt q hq).2
 have := m_97.size
 refine va rfl <| nl <| nB <| nT <| rg <| vL (badL (r := 2) rfl rfl (by decide) (by decide)) <| vm rfl <| nl <| nR <| lr <| sg <| vL (blt rfl rfl) <| nK <| sq <| cT rfl <| sK <| sq <| bk <| sg <| vm rfl <| ?_
 refine va rfl <| nK <| rg <| vm rfl <| vm rfl <| vm rfl <| vL (v := .agg #[.int .i64 3, .int .i64 2, .int .i64 4, .int .i64 0]) (bd rfl (by kernel_rfl)) <| bs (e := 72) (cs := [.int .i64 3, .int .i64 2, .int .i64 4, .int .i64 0]) rfl (λ _ => by kernel_rfl) rfl λ w_104 b_105 x_106 l_107 B_108 => ?_
 have := x_106.size
 have z_104 := eT z_94 x_106
 have q_110 := B_108.lt
 have O_98 := O_98.later x_106
 refine ap Syc_el_S_api_Step Rep.flat_bare O_98 (Blk.has1 (R := Sst.rep) (by_ := 32) (q := (⟨3, 2, 4, 0⟩ : Sst)) B_108 ⟨rfl, ⟨okI_iff.2 (by decide), okI_iff.2 (by decide), okI_iff.2 (by decide), okI_iff.2 (by decide)⟩⟩ (by decide)) rfl rfl (by decide) (by decide) z_104.size rfl λ w_111 A_112 c_113 m_114 O_115 g_116 n_117 => ?_
 have := m_114.size
 have z_111 := Ext.mod z_104 m_114 (λ q hq => (O_98.lt q hq).1)
 have u_119 := λ q hq => (O_115.lt q hq).2
 have := m_114.size
 refine va rfl <| nl <| nB <| nT <| rg <| vL (badL (r := 3) rfl rfl (by decide) (by decide)) <| vm rfl <| nl <| nR <| lr <| sg <| vL (blt rfl rfl) <| nK <| sq <| cF rfl <| xt <| xT <| xK <| xB <| nT <| sg <| ?_
 refine vm rfl <| va rfl <| nK <| rt <| tR (.tmp rfl .nil) <| ?_
 exact ⟨A_112, c_113, rfl, O_115, z_111⟩
end
section
open Go.RowKit
def fO (a : SyAt) : List Nat := Rep.blkOf a.V ++ (Rep.blkOf a.R ++ a.T.flatMap λ t => Rep.blkOf t.ha)
theorem SyO.lt {w : World} {Z : Nat} {a : SyAt} {C : Cou} (h : SyO w Z a C) : ∀ q ∈ fO a, Z ≤ q ∧ q < w.heap.size := by
 intro q hq
 unfold fO at hq
 rcases List.mem_append.1 hq with hq | hq
 ·exact h.V.lt q hq
 ·rcases List.mem_append.1 hq with hq | hq
  ·exact h.R.lt q hq
  ·obtain ⟨t, ht, hq⟩ := List.mem_flatMap.1 hq; exact h.H.lt t ht q hq
theorem SyO.mod {w w' : World} {Z : Nat} {a : SyAt} {C : Cou} {S : List Nat} (h : SyO w Z a C) (m : Mod S w w') (hS : ∀ q ∈ fO a, q ∉ S) : SyO w' Z a C :=
 ⟨h.V.mod m λ q hq => hS q (List.mem_append.2 (.inl hq)), h.R.mod m λ q hq => hS q (List.mem_append.2 (.inr (List.mem_append.2 (.inl hq)))), h.H.mod m λ j t _ hj q hq => hS q (List.mem_append.2 (.inr (List.mem_append.2 (.inr (List.mem_flatMap.2 ⟨t, List.mem_of_getElem? hj, hq⟩)))))⟩
theorem lv_E : syE 3 lvS = 0 := by decide +kernel
theorem lv_C : (syR 3 lvS).chosen = [77] := by decide +kernel
theorem lv_R : (syR 3 lvS).rounds.length = 1 := by decide +kernel
theorem syE_ok {n : Int} {l : List Sst} (h : syE n l = 0) : ∃ N : Nat, n = N ∧ 1 ≤ N ∧ N ≤ 15 ∧ l.length ≤ 500 ∧ (∀ x ∈ l, badS n x = false) ∧ syR n l = plyS N l := by
 unfold syE at h
 split at h
 ·omega
 ·split at h
  ·omega
  ·split at h
   ·omega
   ·rename_i h1 h2 h3
    refine ⟨n.toNat, by omega, by omega, by omega, by omega, λ x hx => ?_, ?_⟩
    ·cases hb : badS n x with
     | false => rfl
     | true => exact (h3 (List.any_eq_true.2 ⟨x, hx, hb⟩)).elim
    ·unfold syR syE; rw [if_neg h1, if_neg h2, if_neg h3, if_pos rfl]; rfl
theorem sy_G {n : Int} {l : List Sst} (h : syE n l = 0) : ∃ N : Nat, n = N ∧ SyG N l.length (syR n l) := by
 obtain ⟨N, rfl, h1, h2, h3, h4, h5⟩ := syE_ok h
 refine ⟨N, rfl, ?_⟩
 have := syG_play h2 h4 l.length (Nat.le_refl _)
 rw [List.take_length] at this; rw [h5]; exact this
theorem sy_q (n : Int) (l : List Sst) : ∀ r ∈ (syR n l).rounds, r.q < 32768 := by
 by_cases h : syE n l = 0
 ·obtain ⟨N, _, g⟩ := sy_G h; exact λ r hr => (g.pq r hr).2
 ·rw [syR_bad rfl h]; intro r hr; cases hr
theorem sy_len (n : Int) (l : List Sst) : (syR n l).rounds.length ≤ 500 := by
 by_cases h : syE n l = 0
 ·obtain ⟨N, _, g⟩ := sy_G h
  obtain ⟨_, _, _, _, h3, _⟩ := syE_ok h
  have := g.len; omega
 ·rw [syR_bad rfl h]; exact Nat.zero_le _
theorem chosen_len (n : Int) (l : List Sst) : (syR n l).chosen.length ≤ 500 := by
 unfold Cou.chosen; rw [List.length_map]
 exact Nat.le_trans (List.length_filter_le _ _) (sy_len n l)
theorem synodLives_any  (w : World) :
  Calls Try.prog 25 #[] w (λ e w' => e = .returned (.bool true) ∧ Ext w w') := by
 refine calls_W (n := 22) Try.func25 rfl rfl rfl ?_
 refine sg <| va rfl <| nK <| sg <| ca eF54 rfl rfl ((ballotOf_lv _).mono ?_)
 rintro e w_3 ⟨AB, cB, rfl, OB, x_4⟩
 refine ⟨_, rfl, ?_⟩
 have := x_4.size
 have z_3 := eT (Ext.rf w) x_4
 have u_1 := λ q hq => (OB.lt q hq).2
 have lo_2 := λ q hq => (OB.lt q hq).1
 refine ca eF55 rfl rfl ((play_any 3 lvS _ _ _ OB.has).mono ?_)
 rintro e w_7 ⟨V6, v6, R6, r6, T6, rfl, HO6, x_8⟩
 refine ⟨_, rfl, ?_⟩
 have := x_8.size
 have z_7 := eT z_3 x_8
 have uo6 := λ q hq => (HO6.lt q hq).2
 have tl6 : T6.length = (syR 3 lvS).rounds.length := HO6.H.len
 have tm6 := sy_len 3 lvS
 have kT : ((T6.length : Int) == 1) = true := by have h1_ := lv_R; rw [beq_iff_eq]; have h2_ := tl6; rw [h1_] at h2_; exact congrArg Nat.cast h2_
 refine vm rfl <| vL (ex rfl rfl) <| vL (ex rfl rfl) <| al rfl eF44 rfl rfl λ w_10 b_11 x_12 l_13 B_14 => ?_
 have := x_12.size
 have z_10 := eT z_7 x_12
 have q_16 := B_14.lt
 refine st (new := [.slice V6 ((syR 3 lvS).vows.length) v6, .slice R6 T6.length r6]) rfl rfl B_14 rfl eF45 rfl rfl rfl λ w_17 m_18 B_14 => ?_
 have := m_18.size
 have z_17 := Ext.mod z_10 m_18 (ge1 (by omega))
 have := m_18.size
 refine va rfl <| nK <| sg <| vm rfl <| vL (beq rfl rfl) <| vm (evb rfl (by rw [lv_E]; rfl)) <| ug rfl rfl rfl <| vL (ld rfl (B_14.all eF46 eF45)) <| ug rfl rfl rfl <| ?_
 have HO6 := HO6.later x_12
 have HO6 := HO6.mod m_18 (λ q hq h => by have := uo6 q hq; have := List.mem_singleton.1 h; omega)
 refine ca eF56 rfl rfl ((chosen_any _ ⟨V6, v6, R6, r6, T6⟩ (syR 3 lvS) _ HO6 (sy_q _ _) (by show T6.length ≤ _; omega)).mono ?_)
 rintro e w_24 ⟨A21, c21, rfl, OC21, x_25⟩
 refine ⟨_, rfl, ?_⟩
 have := x_25.size
 have z_24 := eT z_17 x_25
 have u_22 := λ q hq => (OC21.lt q hq).2
 have lo_23 := λ q hq => (OC21.lt q hq).1
 have lc21 := chosen_len 3 lvS
 refine ug rfl rfl rfl <| bs (e := 3) (cs := [.int .i64 77]) rfl (λ _ => by kernel_rfl) rfl λ w_27 b_28 x_29 l_30 B_31 => ?_
 have := x_29.size
 have z_27 := eT z_24 x_29
 have q_33 := B_31.lt
 refine ug rfl rfl rfl <| ?_
 have OC21 := OC21.later x_29
 refine ca eF57 rfl rfl ((equal_I _ _ _ _ _ _ ((syR 3 lvS).chosen) ([77]) _ OC21.has (Blk.hasN (R := repI) (by_ := 8) (k := [77]) B_31 [[.int .i64 77]] rfl (⟨⟨rfl, okI_iff.2 (by decide)⟩, trivial⟩) (by simp) (by simp))).mono ?_)
 rintro e w_34 ⟨rfl, x_35⟩
 refine ⟨_, rfl, ?_⟩
 have := x_35.size
 have z_34 := eT z_27 x_35
 refine vL (pkT rfl (evb rfl (decide_eq_true lv_C))) <| vm rfl <| ug rfl rfl rfl <| vL (fa eF14 rfl) <| ug rfl rfl rfl <| ?_
 have B_14 := B_14.later (eT x_25 (eT x_29 x_35))
 refine vL (ld rfl (B_14.one eF15 rfl)) <| ug rfl rfl rfl <| vL (ln Try.underlying60 rfl) <| ug rfl rfl rfl <| vL (beq rfl rfl) <| vL (pkT rfl (evb rfl kT)) <| va rfl <| nK <| rt <| tR (.tmp rfl .nil) <| ?_
 exact ⟨rfl, z_34⟩
end
section
open Go.RowKit
theorem cnt_full : ∀ (f n : Nat), n ≤ f → Vote.cnt f (2 ^ n - 1) = n
 | 0, 0, _ => rfl
 | f + 1, 0, _ => by
  show (2 ^ 0 - 1) % 2 + Vote.cnt f ((2 ^ 0 - 1) / 2) = 0
  rw [show (2 ^ 0 - 1 : Nat) = 0 from rfl]
  have := cnt_full f 0 (Nat.zero_le _)
  rw [show (2 ^ 0 - 1 : Nat) = 0 from rfl] at this
  simpa using this
 | f + 1, n + 1, h => by
  have h2 : 1 ≤ 2 ^ n := Nat.one_le_two_pow
  show (2 ^ (n + 1) - 1) % 2 + Vote.cnt f ((2 ^ (n + 1) - 1) / 2) = n + 1
  have e : 2 ^ (n + 1) - 1 = 2 * (2 ^ n - 1) + 1 := by rw [Nat.pow_succ]; omega
  rw [e, show (2 * (2 ^ n - 1) + 1) % 2 = 1 by omega, show (2 * (2 ^ n - 1) + 1) / 2 = 2 ^ n - 1 by omega, cnt_full f n (by omega)]; omega
theorem size_le {N a : Nat} (h15 : N ≤ 15) (h : ∀ i, a.testBit i = true → i < N) : Vote.size a ≤ N := by
 have : a &&& (2 ^ N - 1) = a := Nat.eq_of_testBit_eq λ i => by
  rw [Nat.testBit_and, Nat.testBit_two_pow_sub_one]
  cases hb : a.testBit i with
  | false => rfl
  | true => rw [decide_eq_true (h i hb)]; rfl
 have h2 := Vote.cnt_sub 32 a (2 ^ N - 1) this
 rw [cnt_full 32 N (by omega)] at h2; exact h2
theorem meet_most {N a b : Nat} (h15 : N ≤ 15) (ha : ∀ i, a.testBit i = true → i < N) (hb : ∀ i, b.testBit i = true → i < N) (ma : N < 2 * Vote.size a) (mb : N < 2 * Vote.size b) : ∃ i, a.testBit i = true ∧ b.testBit i = true := by
 rcases Classical.em (∃ i, a.testBit i = true ∧ b.testBit i = true) with h | h
 ·exact h
 ·have h0 : a &&& b = 0 := Nat.eq_of_testBit_eq λ i => by
   rw [Nat.testBit_and, Nat.zero_testBit]
   cases hx : a.testBit i with
   | false => rfl
   | true => cases hy : b.testBit i with
    | false => rfl
    | true => exact (h ⟨i, hx, hy⟩).elim
  have h1 := Vote.cnt_disj 32 a b h0
  have h2 : Vote.size (a ||| b) ≤ N := size_le h15 λ i hi => by
   rw [Nat.testBit_or, Bool.or_eq_true] at hi; exact hi.elim (ha i) (hb i)
  unfold Vote.size at *; omega
theorem size_or (a b : Nat) : Vote.size a ≤ Vote.size (a ||| b) := Vote.cnt_sub 32 a (a ||| b) (Nat.eq_of_testBit_eq λ i => by
 rw [Nat.testBit_and, Nat.testBit_or]; cases a.testBit i <;> simp)
theorem or_pow {a k i : Nat} : (a ||| 2 ^ k).testBit i = true ↔ a.testBit i = true ∨ i = k := by
 rw [Nat.testBit_or, Bool.or_eq_true, Nat.testBit_two_pow, decide_eq_true_eq]
 constructor <;> rintro (h | h) <;> first | exact .inl h | exact .inr h.symm
def Ch (N : Nat) (V : List Vow) (s : Rnd) : Prop := ∃ Q : Nat, N < 2 * Vote.size Q ∧ ∀ i, Q.testBit i = true → i < N ∧ (s.q.testBit i = true ∨ ∃ v, V[i]? = some v ∧ v.promised ≤ s.b)
structure Pax (N : Nat) (A : Int → Prop) (V : List Vow) (R : List Rnd) : Prop where
 srt : RSort R
 pos : ∀ r ∈ R, 1 ≤ r.b
 n : V.length = N
 n15 : N ≤ 15
 v0 : ∀ (i : Nat) v, V[i]? = some v → 0 ≤ v.ballot ∧ v.ballot ≤ v.promised
 vr : ∀ (i : Nat) v, V[i]? = some v → v.ballot = 0 ∨ ∃ r ∈ R, r.b = v.ballot ∧ r.asked = true ∧ r.v = v.value
 qa : ∀ r ∈ R, ∀ i, r.q.testBit i = true → i < N ∧ r.asked = true ∧ ∃ v, V[i]? = some v ∧ r.b ≤ v.ballot
 pp : ∀ r ∈ R, ∀ i, r.p.testBit i = true → i < N ∧ ∃ v, V[i]? = some v ∧ r.b ≤ v.promised
 hh : ∀ r ∈ R, ∀ i, r.p.testBit i = true → ∃ h ∈ r.h, ∀ s ∈ R, s.q.testBit i = true → s.b < r.b → s.b ≤ h.ballot
 hv : ∀ r ∈ R, ∀ h ∈ r.h, 0 ≤ h.ballot ∧ h.ballot < r.b ∧ (h.ballot = 0 ∨ ∃ s ∈ R, s.b = h.ballot ∧ s.asked = true ∧ s.v = h.value)
 ask : ∀ r ∈ R, r.asked = true → N < 2 * Vote.size r.p
 sf : ∀ r ∈ R, r.asked = true → ∀ s ∈ R, s.b < r.b → Ch N V s → s.asked = true ∧ s.v = r.v
 sv : ∀ r ∈ R, r.asked = true → A r.v
theorem vset {V : List Vow} {k i : Nat} {u v : Vow} (h : (V.set k u)[i]? = some v) : (k = i ∧ v = u) ∨ (i ≠ k ∧ V[i]? = some v) := by
 by_cases e : k = i
 ·subst e
  have hl := (List.getElem?_eq_some_iff.1 h).1
  rw [List.length_set] at hl
  rw [List.getElem?_set_self hl] at h; exact .inl ⟨rfl, (Option.some.inj h).symm⟩
 ·rw [List.getElem?_set_ne e] at h; exact .inr ⟨λ e' => e e'.symm, h⟩
section
variable {N : Nat} {A : Int → Prop} {V : List Vow} {R : List Rnd} {n : Int}
theorem Pax.ens (h : Pax N A V R) (hn : 1 ≤ n) : Pax N A V (ensR R n) := by
 have old : ∀ {r}, r ∈ ensR R n → (∃ i, r.q.testBit i = true) ∨ (∃ i, r.p.testBit i = true) ∨ r.h ≠ [] ∨ r.asked = true → r ∈ R := fun {r} hr hx => by
  rcases ensR_mem hr with rfl | hr
  ·rcases hx with ⟨i, hi⟩ | ⟨i, hi⟩ | hi | hi
   ·simp [newR] at hi
   ·simp [newR] at hi
   ·exact absurd rfl hi
   ·cases hi
  ·exact hr
 refine ⟨ensR_sort h.srt, λ r hr => ?_, h.n, h.n15, h.v0, λ i v hi => ?_, λ r hr i hi => h.qa r (old hr (.inl ⟨i, hi⟩)) i hi, λ r hr i hi => h.pp r (old hr (.inr (.inl ⟨i, hi⟩))) i hi, λ r hr i hi => ?_, λ r hr x hx => ?_, λ r hr ha => h.ask r (old hr (.inr (.inr (.inr ha)))) ha, λ r hr ha s hs hb hc => ?_, λ r hr ha => h.sv r (old hr (.inr (.inr (.inr ha)))) ha⟩
 ·rcases ensR_mem hr with rfl | hr
  ·exact hn
  ·exact h.pos r hr
 ·exact (h.vr i v hi).imp id λ ⟨r, h1, h2⟩ => ⟨r, mem_ensR h1, h2⟩
 ·obtain ⟨x, hx, h2⟩ := h.hh r (old hr (.inr (.inl ⟨i, hi⟩))) i hi
  exact ⟨x, hx, λ s hs hsi hb => h2 s (old hs (.inl ⟨i, hsi⟩)) hsi hb⟩
 ·obtain ⟨h1, h2, h3⟩ := h.hv r (old hr (.inr (.inr (.inl λ e => by rw [e] at hx; cases hx)))) x hx
  exact ⟨h1, h2, h3.imp id λ ⟨s, h4, h5⟩ => ⟨s, mem_ensR h4, h5⟩⟩
 ·have hrR := old hr (.inr (.inr (.inr ha)))
  rcases ensR_mem hs with rfl | hs
  ·exfalso
   obtain ⟨Q, hQ, hq⟩ := hc
   obtain ⟨i, h1, h2⟩ := meet_most h.n15 (λ i hi => (h.pp r hrR i hi).1) (λ i hi => (hq i hi).1) (h.ask r hrR ha) hQ
   obtain ⟨_, v, hv, hvp⟩ := h.pp r hrR i h1
   rcases (hq i h2).2 with h3 | ⟨u, hu, hup⟩
   ·simp [newR] at h3
   ·rw [hv] at hu; obtain rfl := Option.some.inj hu
    have : (newR n).b = n := rfl
    omega
  ·exact h.sf r hrR ha s hs hb hc
variable {i : Nat} {r r' : Rnd} {k : Nat} {v u : Vow}
theorem upd_mem (h : Pax N A V R) (hr : R[i]? = some r) (hb : r'.b = r.b) {x : Rnd} : x ∈ R.set i r' ↔ x = r' ∨ (x ∈ R ∧ x.b ≠ r.b) := set_mem h.srt hr hb
theorem ch_mono {V' : List Vow} {s s' : Rnd} (hb : s.b = s'.b) (hq : ∀ j, s'.q.testBit j = true → s.q.testBit j = true ∨ ∃ v, V[j]? = some v ∧ v.promised ≤ s.b) (hv : ∀ (j : Nat) (v' : Vow), V'[j]? = some v' → ∃ v, V[j]? = some v ∧ v.promised ≤ v'.promised) (hc : Ch N V' s') : Ch N V s := by
 obtain ⟨Q, h1, h2⟩ := hc
 refine ⟨Q, h1, λ j hj => ⟨(h2 j hj).1, ?_⟩⟩
 rcases (h2 j hj).2 with h3 | ⟨v', h3, h4⟩
 ·exact hq j h3
 ·obtain ⟨v, h5, h6⟩ := hv j v' h3
  exact .inr ⟨v, h5, by omega⟩
theorem Pax.prep (h : Pax N A V R) (hr : R[i]? = some r) (hk : V[k]? = some v) (hp : v.promised < r.b) :
  Pax N A (V.set k ⟨r.b, v.ballot, v.value⟩) (R.set i { r with p := r.p ||| 2 ^ k, h := r.h ++ [v] }) := by
 obtain ⟨r', hr'⟩ : ∃ r', r' = ({ r with p := r.p ||| 2 ^ k, h := r.h ++ [v] } : Rnd) := ⟨_, rfl⟩
 rw [← hr']
 have hb : r'.b = r.b := by rw [hr']
 have M := fun {x} => upd_mem (x := x) h hr hb
 have hrm := List.mem_of_getElem? hr
 have hkN : k < N := by rw [← h.n]; exact (List.getElem?_eq_some_iff.1 hk).1
 -- each round was there, but for what was heard
 have O : ∀ {x}, x ∈ R.set i r' → ∃ y ∈ R, y.b = x.b ∧ y.q = x.q ∧ y.asked = x.asked ∧ y.v = x.v ∧ (x = r' ∧ y = r ∨ x = y) := fun {x} hx => by
  rcases M.1 hx with rfl | ⟨h1, _⟩
  ·exact ⟨r, hrm, by rw [hr'], by rw [hr'], by rw [hr'], by rw [hr'], .inl ⟨rfl, rfl⟩⟩
  ·exact ⟨x, h1, rfl, rfl, rfl, rfl, .inr rfl⟩
 have I : ∀ {y}, y ∈ R → ∃ x ∈ R.set i r', x.b = y.b ∧ x.q = y.q ∧ x.asked = y.asked ∧ x.v = y.v := fun {y} hy => by
  by_cases e : y.b = r.b
  ·obtain rfl := sort_uniq h.srt hy hrm e
   exact ⟨r', M.2 (.inl rfl), by rw [hr'], by rw [hr'], by rw [hr'], by rw [hr']⟩
  ·exact ⟨y, M.2 (.inr ⟨hy, e⟩), rfl, rfl, rfl, rfl⟩
 have VO : ∀ (j : Nat) (v' : Vow), (V.set k ⟨r.b, v.ballot, v.value⟩)[j]? = some v' → ∃ u, V[j]? = some u ∧ u.promised ≤ v'.promised ∧ u.ballot = v'.ballot ∧ u.value = v'.value := λ j v' hj => by
  rcases vset hj with ⟨rfl, rfl⟩ | ⟨_, hj⟩
  ·exact ⟨v, hk, by dsimp only; omega, rfl, rfl⟩
  ·exact ⟨v', hj, Int.le_refl _, rfl, rfl⟩
 have VI : ∀ (j : Nat) (u : Vow), V[j]? = some u → ∃ v', (V.set k ⟨r.b, v.ballot, v.value⟩)[j]? = some v' ∧ u.promised ≤ v'.promised ∧ u.ballot = v'.ballot := λ j u hj => by
  by_cases e : k = j
  ·subst e; rw [hk] at hj; obtain rfl := Option.some.inj hj
   exact ⟨_, List.getElem?_set_self (List.getElem?_eq_some_iff.1 hk).1, by dsimp only; omega, rfl⟩
  ·exact ⟨u, by rw [List.getElem?_set_ne e]; exact hj, Int.le_refl _, rfl⟩
 refine ⟨rsort_map (set_map hr hb).symm h.srt, λ x hx => ?_, by rw [List.length_set]; exact h.n, h.n15, λ j v' hj => ?_, λ j v' hj => ?_, λ x hx j hj => ?_, λ x hx j hj => ?_, λ x hx j hj => ?_, λ x hx y hy => ?_, λ x hx ha => ?_, λ x hx ha s hs hlt hc => ?_, λ x hx ha => ?_⟩
 ·obtain ⟨y, h1, h2, _⟩ := O hx; rw [← h2]; exact h.pos y h1
 ·obtain ⟨u, h1, h2, h3, h4⟩ := VO j v' hj; have := h.v0 j u h1; omega
 ·obtain ⟨u, h1, h2, h3, h4⟩ := VO j v' hj
  rw [← h3, ← h4]
  refine (h.vr j u h1).imp id λ ⟨s, a1, a2, a3, a4⟩ => ?_
  obtain ⟨x, b1, b2, b3, b4, b5⟩ := I a1
  exact ⟨x, b1, by rw [b2, a2], by rw [b4, a3], by rw [b5, a4]⟩
 ·obtain ⟨y, h1, h2, h3, h4, h5, _⟩ := O hx
  rw [← h3] at hj
  obtain ⟨a1, a2, u, a3, a4⟩ := h.qa y h1 j hj
  obtain ⟨v', b1, b2, b3⟩ := VI j u a3
  exact ⟨a1, by rw [← h4]; exact a2, v', b1, by rw [← h2, ← b3]; exact a4⟩
 ·obtain ⟨y, h1, h2, _, _, _, h6⟩ := O hx
  have old : y.p.testBit j = true → j < N ∧ ∃ v', (V.set k ⟨r.b, v.ballot, v.value⟩)[j]? = some v' ∧ x.b ≤ v'.promised := λ hj => by
   obtain ⟨a1, u, a3, a4⟩ := h.pp y h1 j hj
   obtain ⟨v', b1, b2, b3⟩ := VI j u a3
   exact ⟨a1, v', b1, by rw [← h2]; omega⟩
  rcases h6 with ⟨rfl, rfl⟩ | rfl
  ·rw [hr'] at hj
   rcases or_pow.1 hj with hj | rfl
   ·exact old hj
   ·exact ⟨hkN, _, List.getElem?_set_self (List.getElem?_eq_some_iff.1 hk).1, by rw [hb]; exact Int.le_refl _⟩
  ·exact old hj
 ·obtain ⟨y, h1, h2, _, _, _, h6⟩ := O hx
  have old : y.p.testBit j = true → (∀ z ∈ y.h, z ∈ x.h) → ∃ z ∈ x.h, ∀ s ∈ R.set i r', s.q.testBit j = true → s.b < x.b → s.b ≤ z.ballot := λ hj hs => by
   obtain ⟨z, a1, a2⟩ := h.hh y h1 j hj
   refine ⟨z, hs z a1, λ s hs hsj hlt => ?_⟩
   obtain ⟨t, b1, b2, b3, _⟩ := O hs
   rw [← b2]; exact a2 t b1 (by rw [b3]; exact hsj) (by omega)
  rcases h6 with ⟨rfl, rfl⟩ | rfl
  ·rw [hr'] at hj
   rcases or_pow.1 hj with hj | rfl
   ·exact old hj λ z hz => by rw [hr']; exact List.mem_append.2 (.inl hz)
   ·refine ⟨v, by rw [hr']; simp, λ s hs hsj hlt => ?_⟩
    obtain ⟨t, b1, b2, b3, _⟩ := O hs
    obtain ⟨_, _, u, c1, c2⟩ := h.qa t b1 j (by rw [b3]; exact hsj)
    rw [hk] at c1; obtain rfl := Option.some.inj c1
    rw [← b2]; exact c2
  ·exact old hj λ z hz => hz
 ·obtain ⟨t, h1, h2, _, _, _, h6⟩ := O hx
  have key : ∀ z : Vow, (0 ≤ z.ballot ∧ z.ballot < t.b ∧ (z.ballot = 0 ∨ ∃ s ∈ R, s.b = z.ballot ∧ s.asked = true ∧ s.v = z.value)) → (0 ≤ z.ballot ∧ z.ballot < x.b ∧ (z.ballot = 0 ∨ ∃ s ∈ R.set i r', s.b = z.ballot ∧ s.asked = true ∧ s.v = z.value)) := λ z ⟨a1, a2, a3⟩ => by
   refine ⟨a1, by omega, a3.imp id λ ⟨s, c1, c2, c3, c4⟩ => ?_⟩
   obtain ⟨w, b1, b2, b3, b4, b5⟩ := I c1
   exact ⟨w, b1, by rw [b2, c2], by rw [b4, c3], by rw [b5, c4]⟩
  rcases h6 with ⟨rfl, rfl⟩ | rfl
  ·rw [hr'] at hy
   rcases List.mem_append.1 hy with hy | hy
   ·exact key y (h.hv t h1 y hy)
   ·rw [List.mem_singleton.1 hy]
    have := h.v0 k v hk
    exact key v ⟨this.1, by omega, h.vr k v hk⟩
  ·exact key y (h.hv x h1 y hy)
 ·obtain ⟨y, h1, h2, _, h4, _, h6⟩ := O hx
  have := h.ask y h1 (by rw [h4]; exact ha)
  rcases h6 with ⟨rfl, rfl⟩ | rfl
  ·rw [hr']; have := size_or y.p (2 ^ k); dsimp only; omega
  ·exact this
 ·obtain ⟨y, h1, h2, _, h4, h5, _⟩ := O hx
  obtain ⟨t, b1, b2, b3, b4, b5, _⟩ := O hs
  have := h.sf y h1 (by rw [h4]; exact ha) t b1 (by omega) (ch_mono b2 (λ j hj => .inl (by rw [b3]; exact hj)) (λ j v' hj => by obtain ⟨u, c1, c2, _⟩ := VO j v' hj; exact ⟨u, c1, c2⟩) hc)
  exact ⟨by rw [← b4]; exact this.1, by rw [← b5, ← h5]; exact this.2⟩
 ·obtain ⟨y, h1, h2, _, h4, h5, _⟩ := O hx
  rw [← h5]; exact h.sv y h1 (by rw [h4]; exact ha)
theorem fold_best : ∀ (l : List Vow) (b : Vow), b.ballot ≤ (l.foldl betV b).ballot ∧ (∀ z ∈ l, z.ballot ≤ (l.foldl betV b).ballot) ∧ (l.foldl betV b = b ∨ l.foldl betV b ∈ l)
 | [], b => ⟨Int.le_refl _, λ z hz => (nomatch hz), .inl rfl⟩
 | x :: l, b => by
  rw [List.foldl_cons]
  obtain ⟨h1, h2, h3⟩ := fold_best l (betV b x)
  have hb : b.ballot ≤ (betV b x).ballot ∧ x.ballot ≤ (betV b x).ballot ∧ (betV b x = b ∨ betV b x = x) := by unfold betV; split <;> exact ⟨by omega, by omega, by simp⟩
  refine ⟨by omega, λ z hz => ?_, ?_⟩
  ·rcases List.mem_cons.1 hz with rfl | hz
   ·omega
   ·exact h2 z hz
  ·rcases h3 with h3 | h3
   ·rw [h3]; exact hb.2.2.imp id λ e => by rw [e]; exact List.mem_cons_self
   ·exact .inr (List.mem_cons_of_mem _ h3)
theorem best_spec {l : List Vow} (h : 0 < l.length) : bestV l ∈ l ∧ ∀ z ∈ l, z.ballot ≤ (bestV l).ballot := by
 have h0 : l.getD 0 default ∈ l := by rw [List.getD_eq_getElem?_getD, List.getElem?_eq_getElem h, Option.getD_some]; exact List.getElem_mem h
 obtain ⟨_, h2, h3⟩ := fold_best l (l.getD 0 default)
 exact ⟨h3.elim (λ e => by unfold bestV; rw [e]; exact h0) id, h2⟩
theorem Pax.asked (h : Pax N A V R) (hr : R[i]? = some r) (ha : r.asked = false) (hm : N < 2 * Vote.size r.p) (x : Int) (hx : A x) :
  Pax N A V (R.set i { r with asked := true, v := chooseV r.h x }) := by
 obtain ⟨r', hr'⟩ : ∃ r', r' = ({ r with asked := true, v := chooseV r.h x } : Rnd) := ⟨_, rfl⟩
 rw [← hr']
 have hb : r'.b = r.b := by rw [hr']
 have M := fun {x} => upd_mem (x := x) h hr hb
 have hrm := List.mem_of_getElem? hr
 have O : ∀ {x}, x ∈ R.set i r' → ∃ y ∈ R, y.b = x.b ∧ y.q = x.q ∧ y.p = x.p ∧ y.h = x.h ∧ (x = r' ∧ y = r ∨ x = y ∧ x.b ≠ r.b) := fun {x} hx => by
  rcases M.1 hx with rfl | ⟨h1, h2⟩
  ·exact ⟨r, hrm, by rw [hr'], by rw [hr'], by rw [hr'], by rw [hr'], .inl ⟨rfl, rfl⟩⟩
  ·exact ⟨x, h1, rfl, rfl, rfl, rfl, .inr ⟨rfl, h2⟩⟩
 have I : ∀ {y}, y ∈ R → y.asked = true → y ∈ R.set i r' := fun {y} hy hya => M.2 (.inr ⟨hy, λ e => by rw [sort_uniq h.srt hy hrm e, ha] at hya; cases hya⟩)
 have no : ∀ {s}, s ∈ R → Ch N V s → ∀ {t}, t ∈ R → t.asked = true → s.b < t.b → s.asked = true ∧ s.v = t.v := fun {s} hs hc {t} ht hta hlt => h.sf t ht hta s hs hlt hc
 refine ⟨rsort_map (set_map hr hb).symm h.srt, λ x hx => ?_, h.n, h.n15, h.v0, λ j v hj => (h.vr j v hj).imp id λ ⟨s, a1, a2, a3, a4⟩ => ⟨s, I a1 a3, a2, a3, a4⟩, λ y hy j hj => ?_, λ y hy j hj => ?_, λ y hy j hj => ?_, λ y hy z hz => ?_, λ y hy hya => ?_, λ y hy hya s hs hlt hc => ?_, λ y hy hya => ?_⟩
 ·obtain ⟨y, h1, h2, _⟩ := O hx; rw [← h2]; exact h.pos y h1
 ·obtain ⟨t, h1, h2, h3, h4, h5, h6⟩ := O hy
  rw [← h3] at hj
  obtain ⟨a1, a2, a3⟩ := h.qa t h1 j hj
  refine ⟨a1, ?_, by rw [← h2]; exact a3⟩
  rcases h6 with ⟨rfl, rfl⟩ | ⟨rfl, _⟩
  ·rw [hr']
  ·exact a2
 ·obtain ⟨t, h1, h2, h3, h4, h5, h6⟩ := O hy
  rw [← h4] at hj; rw [← h2]; exact h.pp t h1 j hj
 ·obtain ⟨t, h1, h2, h3, h4, h5, h6⟩ := O hy
  rw [← h4] at hj; rw [← h5, ← h2]
  obtain ⟨z, a1, a2⟩ := h.hh t h1 j hj
  refine ⟨z, a1, λ s hs hsj hlt => ?_⟩
  obtain ⟨w, b1, b2, b3, _⟩ := O hs
  rw [← b2]; exact a2 w b1 (by rw [b3]; exact hsj) (by omega)
 ·obtain ⟨t, h1, h2, h3, h4, h5, h6⟩ := O hy
  rw [← h5] at hz; rw [← h2]
  obtain ⟨a1, a2, a3⟩ := h.hv t h1 z hz
  exact ⟨a1, a2, a3.imp id λ ⟨s, c1, c2, c3, c4⟩ => ⟨s, I c1 c3, c2, c3, c4⟩⟩
 ·obtain ⟨t, h1, h2, h3, h4, h5, h6⟩ := O hy
  rw [← h4]
  rcases h6 with ⟨rfl, rfl⟩ | ⟨rfl, _⟩
  ·exact hm
  ·exact h.ask y h1 hya
 ·obtain ⟨t, h1, h2, h3, h4, h5, h6⟩ := O hy
  obtain ⟨w, b1, b2, b3, b4, b5, b6⟩ := O hs
  have hcw : Ch N V w := ch_mono b2 (λ j hj => .inl (by rw [b3]; exact hj)) (λ j v' hj => ⟨v', hj, Int.le_refl _⟩) hc
  rcases h6 with ⟨rfl, rfl⟩ | ⟨rfl, hne⟩
  ·-- the round that is asked now
   rcases b6 with ⟨rfl, rfl⟩ | ⟨rfl, _⟩
   ·omega
   ·obtain ⟨Q, hQ, hq⟩ := hcw
    obtain ⟨j, j1, j2⟩ := meet_most h.n15 (λ j hj => (h.pp t h1 j hj).1) (λ j hj => (hq j hj).1) hm hQ
    obtain ⟨_, v1, hv1, hvp⟩ := h.pp t h1 j j1
    have hsq : s.q.testBit j = true := by
     rcases (hq j j2).2 with h8 | ⟨v2, h8, h9⟩
     ·exact h8
     ·rw [hv1] at h8; obtain rfl := Option.some.inj h8; omega
    obtain ⟨z, z1, z2⟩ := h.hh t h1 j j1
    have z3 := z2 s b1 hsq (by omega)
    have hl : 0 < t.h.length := List.length_pos_of_mem z1
    obtain ⟨m1, m2⟩ := best_spec hl
    have z4 := m2 z z1
    have sp := h.pos s b1
    have hv : y.v = (bestV t.h).value := by rw [hr']; dsimp only; unfold chooseV; rw [if_neg (by omega), if_neg (by omega)]
    obtain ⟨c1, c2, c3⟩ := h.hv t h1 _ m1
    rcases c3 with c3 | ⟨w, d1, d2, d3, d4⟩
    ·omega
    ·rw [hv, ← d4]
     by_cases e : s.b = w.b
     ·obtain rfl := sort_uniq h.srt b1 d1 e; exact ⟨d3, rfl⟩
     ·exact no b1 ⟨Q, hQ, hq⟩ d1 d3 (by omega)
  ·have h7 := no b1 hcw h1 hya (by omega)
   rcases b6 with ⟨rfl, rfl⟩ | ⟨rfl, _⟩
   ·rw [ha] at h7; cases h7.1
   ·exact h7
 ·obtain ⟨t, h1, h2, h3, h4, h5, h6⟩ := O hy
  rcases h6 with ⟨rfl, rfl⟩ | ⟨rfl, _⟩
  ·rw [hr']; dsimp only; unfold chooseV; split
   ·exact hx
   ·split
    ·exact hx
    ·rename_i e1 e2
     obtain ⟨m1, _⟩ := best_spec (l := t.h) (by omega)
     obtain ⟨c1, c2, c3⟩ := h.hv t h1 _ m1
     rcases c3 with c3 | ⟨w, d1, d2, d3, d4⟩
     ·exact (e2 c3).elim
     ·rw [← d4]; exact h.sv w d1 d3
  ·exact h.sv y h1 hya
theorem Pax.acc (h : Pax N A V R) (hr : R[i]? = some r) (ha : r.asked = true) (hk : V[k]? = some v) (hp : v.promised ≤ r.b) :
  Pax N A (V.set k ⟨r.b, r.b, r.v⟩) (R.set i { r with q := r.q ||| 2 ^ k }) := by
 obtain ⟨r', hr'⟩ : ∃ r', r' = ({ r with q := r.q ||| 2 ^ k } : Rnd) := ⟨_, rfl⟩
 rw [← hr']
 have hb : r'.b = r.b := by rw [hr']
 have M := fun {x} => upd_mem (x := x) h hr hb
 have hrm := List.mem_of_getElem? hr
 have hkN : k < N := by rw [← h.n]; exact (List.getElem?_eq_some_iff.1 hk).1
 have hv0 := h.v0 k v hk
 have hr1 := h.pos r hrm
 have O : ∀ {x}, x ∈ R.set i r' → ∃ y ∈ R, y.b = x.b ∧ y.p = x.p ∧ y.h = x.h ∧ y.asked = x.asked ∧ y.v = x.v ∧ (x = r' ∧ y = r ∨ x = y) := fun {x} hx => by
  rcases M.1 hx with rfl | ⟨h1, _⟩
  ·exact ⟨r, hrm, by rw [hr'], by rw [hr'], by rw [hr'], by rw [hr'], by rw [hr'], .inl ⟨rfl, rfl⟩⟩
  ·exact ⟨x, h1, rfl, rfl, rfl, rfl, rfl, .inr rfl⟩
 have I : ∀ {y}, y ∈ R → ∃ x ∈ R.set i r', x.b = y.b ∧ x.asked = y.asked ∧ x.v = y.v := fun {y} hy => by
  by_cases e : y.b = r.b
  ·obtain rfl := sort_uniq h.srt hy hrm e
   exact ⟨r', M.2 (.inl rfl), by rw [hr'], by rw [hr'], by rw [hr']⟩
  ·exact ⟨y, M.2 (.inr ⟨hy, e⟩), rfl, rfl, rfl⟩
 have VO : ∀ (j : Nat) (v' : Vow), (V.set k ⟨r.b, r.b, r.v⟩)[j]? = some v' → ∃ u, V[j]? = some u ∧ u.promised ≤ v'.promised ∧ (k = j ∧ v' = ⟨r.b, r.b, r.v⟩ ∨ j ≠ k ∧ u = v') := λ j v' hj => by
  rcases vset hj with ⟨rfl, rfl⟩ | ⟨hjk, hj⟩
  ·exact ⟨v, hk, by dsimp only; omega, .inl ⟨rfl, rfl⟩⟩
  ·exact ⟨v', hj, Int.le_refl _, .inr ⟨hjk, rfl⟩⟩
 have VI : ∀ (j : Nat) (u : Vow), V[j]? = some u → ∃ v', (V.set k ⟨r.b, r.b, r.v⟩)[j]? = some v' ∧ u.promised ≤ v'.promised ∧ u.ballot ≤ v'.ballot := λ j u hj => by
  by_cases e : k = j
  ·subst e; rw [hk] at hj; obtain rfl := Option.some.inj hj
   exact ⟨_, List.getElem?_set_self (List.getElem?_eq_some_iff.1 hk).1, by dsimp only; omega, by dsimp only; omega⟩
  ·exact ⟨u, by rw [List.getElem?_set_ne e]; exact hj, Int.le_refl _, Int.le_refl _⟩
 -- who accepts now had promised no more
 have Q : ∀ {x y : Rnd} {j : Nat}, (x = r' ∧ y = r ∨ x = y) → x.q.testBit j = true → y.q.testBit j = true ∨ (x = r' ∧ y = r ∧ j = k) := fun {x y j} hxy hj => by
  rcases hxy with ⟨rfl, rfl⟩ | rfl
  ·rw [hr'] at hj
   exact (or_pow.1 hj).imp id λ e => ⟨hr'.symm ▸ rfl, rfl, e⟩
  ·exact .inl hj
 refine ⟨rsort_map (set_map hr hb).symm h.srt, λ x hx => ?_, by rw [List.length_set]; exact h.n, h.n15, λ j v' hj => ?_, λ j v' hj => ?_, λ x hx j hj => ?_, λ x hx j hj => ?_, λ x hx j hj => ?_, λ x hx z hz => ?_, λ x hx hxa => ?_, λ x hx hxa s hs hlt hc => ?_, λ x hx hxa => ?_⟩
 ·obtain ⟨y, h1, h2, _⟩ := O hx; rw [← h2]; exact h.pos y h1
 ·obtain ⟨u, h1, h2, h3⟩ := VO j v' hj
  rcases h3 with ⟨_, rfl⟩ | ⟨_, rfl⟩
  ·exact ⟨by dsimp only; omega, Int.le_refl _⟩
  ·exact h.v0 j u h1
 ·obtain ⟨u, h1, h2, h3⟩ := VO j v' hj
  rcases h3 with ⟨_, rfl⟩ | ⟨_, rfl⟩
  ·exact .inr ⟨r', M.2 (.inl rfl), hb, by rw [hr']; exact ha, by rw [hr']⟩
  ·refine (h.vr j u h1).imp id λ ⟨s, a1, a2, a3, a4⟩ => ?_
   obtain ⟨x, b1, b2, b4, b5⟩ := I a1
   exact ⟨x, b1, by rw [b2, a2], by rw [b4, a3], by rw [b5, a4]⟩
 ·obtain ⟨y, h1, h2, h3, h4, h5, h6, h7⟩ := O hx
  rcases Q h7 hj with hj | ⟨e1, e2, e3⟩
  ·obtain ⟨a1, a2, u, a3, a4⟩ := h.qa y h1 j hj
   obtain ⟨v', b1, b2, b3⟩ := VI j u a3
   exact ⟨a1, by rw [← h5]; exact a2, v', b1, by rw [← h2]; omega⟩
  ·subst e3
   exact ⟨hkN, by rw [← h5, e2]; exact ha, _, List.getElem?_set_self (List.getElem?_eq_some_iff.1 hk).1, by rw [← h2, e2]; exact Int.le_refl _⟩
 ·obtain ⟨y, h1, h2, h3, _⟩ := O hx
  obtain ⟨a1, u, a3, a4⟩ := h.pp y h1 j (by rw [h3]; exact hj)
  obtain ⟨v', b1, b2, b3⟩ := VI j u a3
  exact ⟨a1, v', b1, by rw [← h2]; omega⟩
 ·obtain ⟨y, h1, h2, h3, h4, _⟩ := O hx
  rw [← h3] at hj
  obtain ⟨z, a1, a2⟩ := h.hh y h1 j hj
  refine ⟨z, by rw [← h4]; exact a1, λ s hs hsj hlt => ?_⟩
  obtain ⟨t, b1, b2, b3, b4, b5, b6, b7⟩ := O hs
  rw [← b2]
  rcases Q b7 hsj with hsj | ⟨e1, e2, e3⟩
  ·exact a2 t b1 hsj (by omega)
  ·exfalso
   obtain ⟨_, u, c1, c2⟩ := h.pp y h1 j hj
   rw [e3, hk] at c1; obtain rfl := Option.some.inj c1
   rw [e2] at b2; omega
 ·obtain ⟨y, h1, h2, h3, h4, _⟩ := O hx
  rw [← h4] at hz; rw [← h2]
  obtain ⟨a1, a2, a3⟩ := h.hv y h1 z hz
  refine ⟨a1, a2, a3.imp id λ ⟨s, c1, c2, c3, c4⟩ => ?_⟩
  obtain ⟨w, b1, b2, b4, b5⟩ := I c1
  exact ⟨w, b1, by rw [b2, c2], by rw [b4, c3], by rw [b5, c4]⟩
 ·obtain ⟨y, h1, h2, h3, h4, h5, _⟩ := O hx
  rw [← h3]; exact h.ask y h1 (by rw [h5]; exact hxa)
 ·obtain ⟨y, h1, h2, h3, h4, h5, h6, _⟩ := O hx
  obtain ⟨t, b1, b2, b3, b4, b5, b6, b7⟩ := O hs
  have := h.sf y h1 (by rw [h5]; exact hxa) t b1 (by omega) (ch_mono b2 (λ j hj => (Q b7 hj).imp id λ ⟨e1, e2, e3⟩ => ⟨v, by rw [e3]; exact hk, by rw [e2]; exact hp⟩) (λ j v' hj => by obtain ⟨u, c1, c2, _⟩ := VO j v' hj; exact ⟨u, c1, c2⟩) hc)
  exact ⟨by rw [← b5]; exact this.1, by rw [← b6, ← h6]; exact this.2⟩
 ·obtain ⟨y, h1, h2, h3, h4, h5, h6, _⟩ := O hx
  rw [← h6]; exact h.sv y h1 (by rw [h5]; exact hxa)
theorem Pax.agree (h : Pax N A V R) {x y : Rnd} (hx : x ∈ R) (hy : y ∈ R) (cx : chosB N x = true) (cy : chosB N y = true) : x.v = y.v := by
 have ch : ∀ {z}, z ∈ R → chosB N z = true → z.asked = true ∧ Ch N V z := fun {z} hz hc => by
  unfold chosB at hc; rw [Bool.and_eq_true, decide_eq_true_eq] at hc
  exact ⟨hc.1, z.q, hc.2, λ i hi => ⟨(h.qa z hz i hi).1, .inl hi⟩⟩
 obtain ⟨a1, a2⟩ := ch hx cx
 obtain ⟨b1, b2⟩ := ch hy cy
 rcases Int.lt_trichotomy x.b y.b with e | e | e
 ·exact (h.sf y hy b1 x hx e a2).2
 ·rw [sort_uniq h.srt hx hy e]
 ·exact (h.sf x hx a1 y hy e b2).2.symm
end
theorem Pax.mono {N : Nat} {A B : Int → Prop} {V : List Vow} {R : List Rnd} (h : Pax N A V R) (hA : ∀ x, A x → B x) : Pax N B V R :=
 ⟨h.srt, h.pos, h.n, h.n15, h.v0, h.vr, h.qa, h.pp, h.hh, h.hv, h.ask, h.sf, λ r hr ha => hA _ (h.sv r hr ha)⟩
theorem Pax.step {N : Nat} {A : Int → Prop} {C : Cou} (h : Pax N A C.vows C.rounds) {x : Sst} (hx : badS (N : Int) x = false) (hA : x.kind = 2 → A x.value) : Pax N A (C.step x).vows (C.step x).rounds := by
 obtain ⟨b1, b2, b3, b4, b5, b6⟩ := badS_ok hx
 obtain ⟨r, hr, hrb, hro⟩ := ensR_at (n := x.ballot) h.srt
 have hw : x.who.toNat < C.vows.length := by rw [h.n]; omega
 have hE := h.ens b5
 have hv := List.getElem?_eq_getElem hw
 rcases step_cases C x hr hv with e | ⟨_, hp, e⟩ | ⟨h2, ha, hm, e⟩ | ⟨_, ha, hp, e⟩ <;> rw [e]
 ·exact hE
 ·have := hE.prep hr hv (by unfold prepK at hp; simp at hp; omega)
  rw [hrb] at this; dsimp only; rw [hrb]; exact this
 ·exact hE.asked hr ha (by rw [h.n] at hm; exact hm) _ (hA h2)
 ·have := hE.acc hr ha hv (by unfold accK at hp; simp at hp; omega)
  rw [hrb] at this; dsimp only; rw [hrb]; exact this
theorem Pax.zero {N : Nat} {A : Int → Prop} (h : N ≤ 15) : Pax N A (cou0 N).vows (cou0 N).rounds := by
 have hz : ∀ (i : Nat) v, (cou0 N).vows[i]? = some v → v = ⟨0, 0, 0⟩ := λ i v hi => by
  have := List.mem_of_getElem? hi; unfold cou0 at this; exact (List.mem_replicate.1 this).2
 refine ⟨List.Pairwise.nil, λ r hr => (nomatch hr), by simp [cou0], h, λ i v hi => by rw [hz i v hi]; exact ⟨Int.le_refl _, Int.le_refl _⟩, λ i v hi => .inl (by rw [hz i v hi]), λ r hr => (nomatch hr), λ r hr => (nomatch hr), λ r hr => (nomatch hr), λ r hr => (nomatch hr), λ r hr => (nomatch hr), λ r hr => (nomatch hr), λ r hr => (nomatch hr)⟩
def AskL (l : List Sst) (x : Int) : Prop := ∃ y ∈ l, y.kind = 2 ∧ y.value = x
theorem pax_fold {N : Nat} {A : Int → Prop} : ∀ (l : List Sst) (C : Cou), Pax N A C.vows C.rounds → (∀ x ∈ l, badS (N : Int) x = false) → (∀ x ∈ l, x.kind = 2 → A x.value) → Pax N A (l.foldl Cou.step C).vows (l.foldl Cou.step C).rounds
 | [], C, h, _, _ => h
 | x :: l, C, h, hb, hA => pax_fold l (C.step x) (h.step (hb x List.mem_cons_self) (hA x List.mem_cons_self)) (λ y hy => hb y (List.mem_cons_of_mem _ hy)) λ y hy => hA y (List.mem_cons_of_mem _ hy)
theorem pax_play {N : Nat} {l : List Sst} (h15 : N ≤ 15) (hb : ∀ x ∈ l, badS (N : Int) x = false) : Pax N (AskL l) (plyS N l).vows (plyS N l).rounds :=
 pax_fold l _ (Pax.zero h15) hb λ x hx hk => ⟨x, hx, hk, rfl⟩
end
section
open Go.RowKit
theorem chosen_at {C : Cou} {x : Int} (h : x ∈ C.chosen) : ∃ r ∈ C.rounds, chosB C.vows.length r = true ∧ r.v = x := by
 unfold Cou.chosen at h
 obtain ⟨r, hr, rfl⟩ := List.mem_map.1 h
 exact ⟨r, (List.mem_filter.1 hr).1, (List.mem_filter.1 hr).2, rfl⟩
theorem sy_pax {n : Int} {l : List Sst} (h : syE n l = 0) : ∃ N : Nat, n = N ∧ (syR n l).vows.length = N ∧ Pax N (AskL l) (syR n l).vows (syR n l).rounds := by
 obtain ⟨N, rfl, h1, h2, h3, h4, h5⟩ := syE_ok h
 rw [h5]
 have := pax_play h2 h4
 exact ⟨N, rfl, this.n, this⟩
end
end Go.Proofs.Ytifffjhhammeiaa
