import Derived.Test.YtifffjhhammeiaaGolC
import Derived.Test.YtifffjhhammeiaaSya
set_option linter.unusedVariables false
set_option linter.unusedSimpArgs false
set_option maxRecDepth 100000
set_option maxHeartbeats 4000000
namespace Go.Proofs.Ytifffjhhammeiaa
section
open Go.RowKit
theorem clone_St (A : Option Addr) (c : Nat) (l : List Sst) (w : World) (h : Sst.rep.SHas 32 w A c l) :
  Calls Try.prog 34 #[.slice A l.length c] w λ e w' => ∃ A' c', e = .returned (.slice A' l.length c') ∧ Sst.rep.SOwn 72 32 w' w.heap.size (Rep.blkOf A') A' c' l ∧ (A' = none ↔ A = none) ∧ Below w.heap.size w w' := by
 obtain ⟨i0, hi, hz0, hz1, hz2⟩ := info_parts Sst.info
 have qnil : ∀ (w : World) (a : Option Addr) (n c n' c' : Nat), (binOp .eql 58 (.slice a n c) (.slice none n' c')).run Try.prog w = .ok (.bool a.isNone) w := λ w a n c n' c' => Lib.run_eql_slice_nil w _ _ a n c n' c' Try.underlying58
 cases A with
 | none =>
  obtain rfl : c = 0 := h.2.2.2.1 rfl
  obtain rfl : l = [] := List.eq_nil_of_length_eq_zero (by have := h.1; omega)
  go_enter Try.func34, Try.ntmps34
  go_wp2_with fail
  go_ret
  exact ⟨none, 0, rfl, Rep.SOwn.nil _, by simp, Below.refl _ _⟩
 | some a =>
  have hb0 : Below w.heap.size w (w.alloc (.cells #[] 72)) := (Below.refl _ w).alloc (Nat.le_refl _) _
  obtain ⟨n, HN⟩ : ∃ n, Hid (l.length = n) := ⟨_, Lib.hid rfl⟩
  obtain ⟨h1, h2, h3, h4, ess, h5, h6⟩ := h.keep hb0
  have H5 := Lib.hid h5
  have hone : ∀ u ∈ ess.flatten, u.oneCell' = true := by
   intro u hu
   obtain ⟨y, hy, hu⟩ := List.mem_flatten.1 hu
   obtain ⟨a, ha⟩ := h5.left y hy
   exact Sst.rep.one ha u hu
  have hraw : ∀ (j : Nat) u, ess.flatten[j]? = some u → Sst.rep.raw (j % Sst.rep.size) u := λ j u hu => flat_raw h5 (by decide) hu
  rw [HN.out] at h1 h3 h6
  have HR := Lib.hid h6
  have HE := Lib.hid (Own.empty (e := 72) (size := Sst.rep.size) (G := Sst.rep.raw) w (Nat.le_refl w.heap.size))
  clear h h4 h5 h6
  rw [HN.out]
  go_enter Try.func34, Try.ntmps34
  go_wp2_with (at_builtin; refine wpList_append_all _ rfl _ _ 58 rfl w.heap.size 72 i0 Sst.zero Sst.rep.size 32 Try.underlying58 hi hz0 hz1 hz2 rfl (by decide) Sst.rep.raw Sst.zero_raw _ _ _ rfl HE.out (some a) n c ess.flatten rfl HR.out hone hraw ?qc4 ?qc5 ?qc6 ?_)
  case qc4 => unfold maxLen; omega
  case qc5 => omega
  case qc6 => simp
  intro v' w1 hown hgrow hnil hat
  have hb1 := hb0.grown hgrow (by simp) (by intro k hk; simp [Value.ownBlock] at hk; omega)
  obtain ⟨A1, c1, rfl, hle, _, _, _, hnn⟩ := hown.shape
  have hA1 : A1 ≠ none := by
   intro h
   subst h
   exact hnil (hnn rfl)
  have HO : Hid (Sst.rep.SOwn 72 32 w1 w.heap.size (Rep.blkOf A1) A1 c1 l) := Lib.hid (Rep.SOwn.of_plain Sst.plain H5.out (by rw [HN.out]; exact h3) (by rw [HN.out]; simpa using hown))
  have HA1 := Lib.hid hA1
  clear hgrow hnil hat hown hA1 hnn hone hraw
  go_wp2_with fail
  go_ret
  exact ⟨A1, c1, rfl, HO.out, ⟨λ h => absurd h HA1.out, λ h => by cases h⟩, hb1⟩
theorem play_cont {n : Int} {l m : List Sst} (h1 : syE n l = 0) (h2 : syE n (l ++ m) = 0) : ∃ N : Nat, n = N ∧ syR n (l ++ m) = m.foldl Cou.step (syR n l) ∧ ∀ x ∈ m, badS (N : Int) x = false := by
 obtain ⟨N, rfl, a1, a2, a3, a4, a5⟩ := syE_ok h1
 obtain ⟨M, e, b1, b2, b3, b4, b5⟩ := syE_ok h2
 obtain rfl : N = M := by omega
 exact ⟨N, rfl, by rw [b5, a5, plyS_app], λ x hx => b4 x (List.mem_append.2 (.inr hx))⟩
def Kept (r s : Rnd) : Prop := s.b = r.b ∧ (r.asked = true → s.asked = true ∧ s.v = r.v) ∧ (∀ i, r.q.testBit i = true → s.q.testBit i = true)
theorem Kept.rf (r : Rnd) : Kept r r := ⟨rfl, λ h => ⟨h, rfl⟩, λ _ h => h⟩
theorem Kept.tr {a b c : Rnd} (h : Kept a b) (k : Kept b c) : Kept a c := ⟨k.1.trans h.1, λ q => ⟨(k.2.1 (h.2.1 q).1).1, (k.2.1 (h.2.1 q).1).2.trans (h.2.1 q).2⟩, λ i q => k.2.2 i (h.2.2 i q)⟩
theorem step_kept {N : Nat} {A : Int → Prop} {C : Cou} (P : Pax N A C.vows C.rounds) {x : Sst} (hx : badS (N : Int) x = false) {r : Rnd} (hr : r ∈ C.rounds) : ∃ s ∈ (C.step x).rounds, Kept r s := by
 obtain ⟨b1, b2, b3, b4, b5, b6⟩ := badS_ok hx
 obtain ⟨t, ht, htb, hto⟩ := ensR_at (n := x.ballot) P.srt
 have hw : x.who.toNat < C.vows.length := by rw [P.n]; omega
 have hE := ensR_sort (n := x.ballot) P.srt
 have hrE : r ∈ ensR C.rounds x.ballot := mem_ensR hr
 have key : ∀ t' : Rnd, t'.b = t.b → Kept t t' → ∃ s ∈ (ensR C.rounds x.ballot).set (binR C.rounds x.ballot) t', Kept r s := λ t' e k => by
  by_cases hb : r.b = t.b
  ·obtain rfl := sort_uniq hE hrE (List.mem_of_getElem? ht) hb
   exact ⟨t', (set_mem hE ht e).2 (.inl rfl), k⟩
  ·exact ⟨r, (set_mem hE ht e).2 (.inr ⟨hrE, hb⟩), Kept.rf r⟩
 rcases step_cases C x ht (List.getElem?_eq_getElem hw) with e | ⟨_, _, e⟩ | ⟨_, ha, _, e⟩ | ⟨_, _, _, e⟩ <;> rw [e]
 ·exact ⟨r, hrE, Kept.rf r⟩
 ·exact key _ rfl ⟨rfl, λ h => ⟨h, rfl⟩, λ _ h => h⟩
 ·exact key _ rfl ⟨rfl, λ h => (by rw [ha] at h; cases h), λ _ h => h⟩
 ·exact key _ rfl ⟨rfl, λ h => ⟨h, rfl⟩, λ _ h => or_pow.2 (.inl h)⟩
theorem fold_kept {N : Nat} {A : Int → Prop} : ∀ (m : List Sst) {C : Cou}, Pax N A C.vows C.rounds → (∀ x ∈ m, badS (N : Int) x = false) → (∀ x ∈ m, x.kind = 2 → A x.value) → ∀ {r : Rnd}, r ∈ C.rounds → ∃ s ∈ (m.foldl Cou.step C).rounds, Kept r s
 | [], C, _, _, _, r, hr => ⟨r, hr, Kept.rf r⟩
 | x :: m, C, P, hb, hA, r, hr => by
  obtain ⟨s, hs, k⟩ := step_kept P (hb x List.mem_cons_self) hr
  obtain ⟨t, ht, k2⟩ := fold_kept m (P.step (hb x List.mem_cons_self) (hA x List.mem_cons_self)) (λ y hy => hb y (List.mem_cons_of_mem _ hy)) (λ y hy => hA y (List.mem_cons_of_mem _ hy)) hs
  exact ⟨t, ht, k.tr k2⟩
theorem Kept.chosB {N : Nat} {r s : Rnd} (k : Kept r s) (h : chosB N r = true) : chosB N s = true ∧ s.v = r.v := by
 unfold Go.Proofs.Ytifffjhhammeiaa.chosB at *
 rw [Bool.and_eq_true, decide_eq_true_eq] at *
 have hq : Vote.size r.q ≤ Vote.size s.q := Vote.cnt_sub 32 r.q s.q (Nat.eq_of_testBit_eq λ i => by
  rw [Nat.testBit_and]; cases hb : r.q.testBit i with
  | false => rfl
  | true => rw [k.2.2 i hb]; rfl)
 exact ⟨⟨(k.2.1 h.1).1, by omega⟩, (k.2.1 h.1).2⟩
theorem sort_nodup {l : List Rnd} (h : RSort l) : (l.map (·.b)).Nodup := by
 unfold List.Nodup; rw [List.pairwise_map]; exact h.imp fun {a b} hab e => by omega
theorem nodup_le : ∀ {l m : List Int}, l.Nodup → (∀ x ∈ l, x ∈ m) → l.length ≤ m.length
 | [], _, _, _ => Nat.zero_le _
 | a :: l, m, h, hs => by
  obtain ⟨h1, h2⟩ := List.nodup_cons.1 h
  have h3 := nodup_le (l := l) (m := m.erase a) h2 λ x hx => (List.mem_erase_of_ne λ e => h1 (by rw [← e]; exact hx)).2 (hs x (List.mem_cons_of_mem _ hx))
  have h4 := hs a List.mem_cons_self
  have h5 := List.length_erase_of_mem h4
  have h6 := List.length_pos_of_mem h4
  rw [List.length_cons]; omega
theorem stays {n : Int} {l m : List Sst} (h1 : syE n l = 0) (h2 : syE n (l ++ m) = 0) : (syR n l).chosen.length ≤ (syR n (l ++ m)).chosen.length ∧ ∀ x ∈ (syR n l).chosen, ∀ y ∈ (syR n (l ++ m)).chosen, y = x := by
 obtain ⟨N, hnN, e, hb⟩ := play_cont h1 h2
 obtain ⟨N1, hn1, hv1, P1⟩ := sy_pax h1
 obtain ⟨N2, hn2, hv2, P2⟩ := sy_pax h2
 obtain rfl : N1 = N := by omega
 obtain rfl : N2 = N1 := by omega
 have K : ∀ r ∈ (syR n l).rounds, ∃ s ∈ (syR n (l ++ m)).rounds, Kept r s := λ r hr => by
  rw [e]; exact fold_kept m (P1.mono (B := λ _ => True) λ _ _ => trivial) hb (λ _ _ _ => trivial) hr
 refine ⟨?_, λ x hx y hy => ?_⟩
 ·unfold Cou.chosen
  rw [List.length_map, List.length_map, hv1, hv2]
  have hle := nodup_le (l := ((syR n l).rounds.filter (chosB N2)).map (·.b)) (m := ((syR n (l ++ m)).rounds.filter (chosB N2)).map (·.b)) ?_ ?_
  ·rw [List.length_map, List.length_map] at hle; exact hle
  ·exact (sort_nodup P1.srt).sublist (List.filter_sublist.map _)
  intro b hb
  obtain ⟨r, hr, rfl⟩ := List.mem_map.1 hb
  obtain ⟨hr1, hr2⟩ := List.mem_filter.1 hr
  obtain ⟨s, hs, k⟩ := K r hr1
  exact List.mem_map.2 ⟨s, List.mem_filter.2 ⟨hs, (k.chosB hr2).1⟩, k.1⟩
 ·obtain ⟨r, hr, hc, rfl⟩ := chosen_at hx
  obtain ⟨t, ht, hd, rfl⟩ := chosen_at hy
  rw [hv1] at hc; rw [hv2] at hd
  obtain ⟨s, hs, k⟩ := K r hr
  obtain ⟨c1, c2⟩ := k.chosB hc
  rw [← c2]; exact P2.agree ht hs hd c1
end
section
open Go.RowKit
theorem cnt_step (f a : Nat) : a % 2 + ((List.range f).filter λ i => (a / 2).testBit i).length = ((List.range (f + 1)).filter λ i => a.testBit i).length := by
 rw [List.range_succ_eq_map, List.filter_cons, List.filter_map]
 have e : ((λ i => a.testBit i) ∘ Nat.succ) = λ i => (a / 2).testBit i := by
  funext i; show a.testBit (i + 1) = _; rw [Nat.testBit_succ]
 rw [e]
 rcases Nat.mod_two_eq_zero_or_one a with h | h
 ·rw [if_neg (by rw [Nat.testBit_zero, h]; decide), h, List.length_map]; omega
 ·rw [if_pos (by rw [Nat.testBit_zero, h]; decide), h, List.length_cons, List.length_map]; omega
theorem cnt_filter : ∀ (f a : Nat), Vote.cnt f a = ((List.range f).filter λ i => a.testBit i).length
 | 0, a => rfl
 | f + 1, a => by rw [Vote.cnt, cnt_filter f (a / 2)]; exact cnt_step f a
theorem nodup_leN : ∀ {l m : List Nat}, l.Nodup → (∀ x ∈ l, x ∈ m) → l.length ≤ m.length
 | [], _, _, _ => Nat.zero_le _
 | a :: l, m, h, hs => by
  obtain ⟨h1, h2⟩ := List.nodup_cons.1 h
  have h3 := nodup_leN (l := l) (m := m.erase a) h2 λ x hx => (List.mem_erase_of_ne λ e => h1 (by rw [← e]; exact hx)).2 (hs x (List.mem_cons_of_mem _ hx))
  have h4 := hs a List.mem_cons_self
  have h5 := List.length_erase_of_mem h4
  have h6 := List.length_pos_of_mem h4
  rw [List.length_cons]; omega
theorem size_ge {l : List Nat} {a : Nat} (hl : l.Nodup) (h : ∀ i ∈ l, i < 32 ∧ a.testBit i = true) : l.length ≤ Vote.size a := by
 unfold Vote.size; rw [cnt_filter]
 exact nodup_leN hl λ i hi => List.mem_filter.2 ⟨List.mem_range.2 (h i hi).1, (h i hi).2⟩
theorem ring_inj {N F j k : Nat} (hj : j < N) (hk : k < N) (hF : F < N) (h : (F + j) % N = (F + k) % N) : j = k := by
 have e : ∀ i, i < N → (F + i) % N = if F + i < N then F + i else F + i - N := λ i hi => by
  split
  ·exact Nat.mod_eq_of_lt (by omega)
  ·rw [Nat.mod_eq_sub_mod (by omega)]; exact Nat.mod_eq_of_lt (by omega)
 rw [e j hj, e k hk] at h
 split at h <;> split at h <;> omega
theorem ring_nodup {N F k : Nat} (hk : k ≤ N) (hF : F < N) : ((List.range k).map λ j => (F + j) % N).Nodup := by
 unfold List.Nodup; rw [List.pairwise_map, List.pairwise_iff_getElem]
 intro i j hi hj hij e
 rw [List.length_range] at hi hj
 rw [List.getElem_range, List.getElem_range] at e
 have := ring_inj (by omega) (by omega) hF e; omega
section
variable {C : Cou} {x : Sst} {r : Rnd} {v : Vow}
theorem step_k1 (hr : (ensR C.rounds x.ballot)[binR C.rounds x.ballot]? = some r) (hv : C.vows[x.who.toNat]? = some v) (h1 : x.kind = 1) (h2 : prepK v x.ballot = true) :
  C.step x = ⟨C.vows.set x.who.toNat ⟨x.ballot, v.ballot, v.value⟩, (ensR C.rounds x.ballot).set (binR C.rounds x.ballot) { r with p := r.p ||| 2 ^ x.who.toNat, h := r.h ++ [v] }⟩ := by
 have e1 : (ensR C.rounds x.ballot).getD (binR C.rounds x.ballot) default = r := by rw [List.getD_eq_getElem?_getD, hr]; rfl
 have e2 : C.vows.getD x.who.toNat default = v := by rw [List.getD_eq_getElem?_getD, hv]; rfl
 unfold Cou.step; dsimp only; rw [e1, e2, if_pos h1, if_pos h2]; unfold prepV; rw [if_pos h2]
theorem step_k2 (hr : (ensR C.rounds x.ballot)[binR C.rounds x.ballot]? = some r) (h1 : x.kind = 2) (h2 : r.asked = false) (h3 : C.vows.length < 2 * Vote.size r.p) :
  C.step x = ⟨C.vows, (ensR C.rounds x.ballot).set (binR C.rounds x.ballot) { r with asked := true, v := chooseV r.h x.value }⟩ := by
 have e1 : (ensR C.rounds x.ballot).getD (binR C.rounds x.ballot) default = r := by rw [List.getD_eq_getElem?_getD, hr]; rfl
 unfold Cou.step; dsimp only; rw [e1, if_neg (by omega), if_pos h1, if_pos ⟨h2, h3⟩]
theorem step_k3 (hr : (ensR C.rounds x.ballot)[binR C.rounds x.ballot]? = some r) (hv : C.vows[x.who.toNat]? = some v) (h1 : x.kind = 3) (ha : r.asked = true) (h2 : accK v x.ballot = true) :
  C.step x = ⟨C.vows.set x.who.toNat ⟨x.ballot, x.ballot, r.v⟩, (ensR C.rounds x.ballot).set (binR C.rounds x.ballot) { r with q := r.q ||| 2 ^ x.who.toNat }⟩ := by
 have e1 : (ensR C.rounds x.ballot).getD (binR C.rounds x.ballot) default = r := by rw [List.getD_eq_getElem?_getD, hr]; rfl
 have e2 : C.vows.getD x.who.toNat default = v := by rw [List.getD_eq_getElem?_getD, hv]; rfl
 unfold Cou.step; dsimp only; rw [e1, e2, if_neg (by omega), if_neg (by omega), if_pos h1, if_pos ⟨ha, h2⟩]; unfold accV; rw [if_pos h2]
end
def prS (N F k : Nat) : Sst := ⟨1, ((F + k) % N : Nat), 50, 0⟩
def acS (N F k : Nat) : Sst := ⟨3, ((F + k) % N : Nat), 50, 0⟩
def prL (N F k : Nat) : List Sst := (List.range k).map (prS N F)
def acL (N F k : Nat) : List Sst := (List.range k).map (acS N F)
def moL (N F M : Nat) (x : Int) : List Sst := prL N F M ++ [⟨2, F, 50, x⟩] ++ acL N F M
theorem prL_succ (N F k : Nat) : prL N F (k + 1) = prL N F k ++ [prS N F k] := by unfold prL; rw [List.range_succ, List.map_append]; rfl
theorem acL_succ (N F k : Nat) : acL N F (k + 1) = acL N F k ++ [acS N F k] := by unfold acL; rw [List.range_succ, List.map_append]; rfl
section
variable {N F : Nat}
theorem pr_ok (hN : 1 ≤ N) (k : Nat) : badS (N : Int) (prS N F k) = false := by
 have := Nat.mod_lt (F + k) (show 0 < N by omega)
 unfold badS prS; simp only [Bool.or_eq_false_iff, decide_eq_false_iff_not]
 generalize (F + k) % N = m at *; omega
theorem ac_ok (hN : 1 ≤ N) (k : Nat) : badS (N : Int) (acS N F k) = false := by
 have := Nat.mod_lt (F + k) (show 0 < N by omega)
 unfold badS acS; simp only [Bool.or_eq_false_iff, decide_eq_false_iff_not]
 generalize (F + k) % N = m at *; omega
theorem mo_ok (hN : 1 ≤ N) (hF : F < N) (M : Nat) (x : Int) : ∀ y ∈ moL N F M x, badS (N : Int) y = false := by
 intro y hy
 unfold moL at hy
 rcases List.mem_append.1 hy with hy | hy
 ·rcases List.mem_append.1 hy with hy | hy
  ·obtain ⟨k, _, rfl⟩ := List.mem_map.1 hy; exact pr_ok hN k
  ·rw [List.mem_singleton.1 hy]; unfold badS; simp; omega
 ·obtain ⟨k, _, rfl⟩ := List.mem_map.1 hy; exact ac_ok hN k
structure PI (N F k : Nat) (C : Cou) : Prop where
 P : Pax N (λ _ => True) C.vows C.rounds
 v : ∀ (i : Nat) u, C.vows[i]? = some u → u.promised ≤ 49 ∨ (u.promised ≤ 50 ∧ ∃ j, j < k ∧ i = (F + j) % N)
 a : ∀ r ∈ C.rounds, r.b = 50 → r.asked = false
 p : ∀ j, j < k → ∃ r ∈ C.rounds, r.b = 50 ∧ r.p.testBit ((F + j) % N) = true
theorem PI.step {k : Nat} {C : Cou} (h : PI N F k C) (hN : 1 ≤ N) (hF : F < N) (hk : k < N) : PI N F (k + 1) (C.step (prS N F k)) := by
 have hb := pr_ok (F := F) hN k
 obtain ⟨r, hr, hrb, hro⟩ := ensR_at (n := (prS N F k).ballot) h.P.srt
 have hlt := Nat.mod_lt (F + k) (show 0 < N by omega)
 have hwt : (prS N F k).who.toNat = (F + k) % N := by unfold prS; dsimp only; omega
 obtain ⟨v, hv⟩ : ∃ v, C.vows[(prS N F k).who.toNat]? = some v := ⟨_, List.getElem?_eq_getElem (by rw [hwt, h.P.n]; exact hlt)⟩
 have hvp : v.promised ≤ 49 := by
  rcases h.v _ v hv with h1 | ⟨_, j, h2, h3⟩
  ·exact h1
  ·rw [hwt] at h3; have := ring_inj (by omega) (by omega) hF h3; omega
 have hB : (prS N F k).ballot = 50 := rfl
 have hst := step_k1 hr hv rfl (by unfold prepK balB; rw [hB]; simp; omega)
 have hP := h.P.step hb (A := λ _ => True) (λ _ => trivial)
 have hE := ensR_sort (n := (prS N F k).ballot) h.P.srt
 have hra : r.asked = false := by
  rcases hro with rfl | h1
  ·rfl
  ·exact h.a r (List.mem_of_getElem? h1) (by rw [hrb, hB])
 refine ⟨hP, ?_, ?_, ?_⟩
 ·rw [hst]; intro i u hi
  rcases vset hi with ⟨rfl, rfl⟩ | ⟨_, hi⟩
  ·exact .inr ⟨by rw [hB]; exact Int.le_refl _, k, by omega, hwt⟩
  ·exact (h.v i u hi).imp id λ ⟨a, j, b, c⟩ => ⟨a, j, by omega, c⟩
 ·rw [hst]; intro s hs hsb
  rcases (set_mem (r' := ({ r with p := r.p ||| 2 ^ (prS N F k).who.toNat, h := r.h ++ [v] } : Rnd)) hE hr rfl).1 hs with rfl | ⟨h1, h2⟩
  ·exact hra
  ·rcases ensR_mem h1 with rfl | h1
   ·rfl
   ·exact h.a s h1 hsb
 ·rw [hst]; intro j hj
  by_cases e : j = k
  ·subst e
   exact ⟨_, (set_mem (r' := ({ r with p := r.p ||| 2 ^ (prS N F j).who.toNat, h := r.h ++ [v] } : Rnd)) hE hr rfl).2 (.inl rfl), by rw [← hB, ← hrb], by dsimp only; rw [hwt]; exact or_pow.2 (.inr rfl)⟩
  ·obtain ⟨s, s1, s2, s3⟩ := h.p j (by omega)
   have : s = r := sort_uniq hE (mem_ensR s1) (List.mem_of_getElem? hr) (by rw [s2, hrb, hB])
   subst this
   exact ⟨_, (set_mem (r' := ({ s with p := s.p ||| 2 ^ (prS N F k).who.toNat, h := s.h ++ [v] } : Rnd)) hE hr rfl).2 (.inl rfl), s2, or_pow.2 (.inl s3)⟩
theorem PI.all {C : Cou} (h : PI N F 0 C) (hN : 1 ≤ N) (hF : F < N) : ∀ k, k ≤ N → PI N F k ((prL N F k).foldl Cou.step C)
 | 0, _ => h
 | k + 1, hk => by rw [prL_succ, List.foldl_append]; exact (PI.all h hN hF k (by omega)).step hN hF (by omega)
structure AI (N F k : Nat) (C : Cou) : Prop where
 P : Pax N (λ _ => True) C.vows C.rounds
 v : ∀ (i : Nat) u, C.vows[i]? = some u → u.promised ≤ 50
 q : ∃ r ∈ C.rounds, r.b = 50 ∧ r.asked = true ∧ ∀ j, j < k → r.q.testBit ((F + j) % N) = true
theorem AI.step {k : Nat} {C : Cou} (h : AI N F k C) (hN : 1 ≤ N) : AI N F (k + 1) (C.step (acS N F k)) := by
 have hb := ac_ok (F := F) hN k
 obtain ⟨r, hr, hrb, hro⟩ := ensR_at (n := (acS N F k).ballot) h.P.srt
 have hlt := Nat.mod_lt (F + k) (show 0 < N by omega)
 have hwt : (acS N F k).who.toNat = (F + k) % N := by unfold acS; dsimp only; omega
 obtain ⟨v, hv⟩ : ∃ v, C.vows[(acS N F k).who.toNat]? = some v := ⟨_, List.getElem?_eq_getElem (by rw [hwt, h.P.n]; exact hlt)⟩
 have hB : (acS N F k).ballot = 50 := rfl
 have hE := ensR_sort (n := (acS N F k).ballot) h.P.srt
 obtain ⟨s, s1, s2, s3, s4⟩ := h.q
 have : s = r := sort_uniq hE (mem_ensR s1) (List.mem_of_getElem? hr) (by rw [s2, hrb, hB])
 subst this
 have hvp := h.v _ v hv
 have hst := step_k3 hr hv rfl s3 (by unfold accK balB; rw [hB]; simp; omega)
 have hP := h.P.step hb (A := λ _ => True) (λ _ => trivial)
 refine ⟨hP, ?_, ?_⟩
 ·rw [hst]; intro i u hi
  rcases vset hi with ⟨rfl, rfl⟩ | ⟨_, hi⟩
  ·rw [hB]; exact Int.le_refl _
  ·exact h.v i u hi
 ·rw [hst]
  refine ⟨_, (set_mem (r' := ({ s with q := s.q ||| 2 ^ (acS N F k).who.toNat } : Rnd)) hE hr rfl).2 (.inl rfl), s2, s3, λ j hj => ?_⟩
  dsimp only
  by_cases e : j = k
  ·subst e; rw [hwt]; exact or_pow.2 (.inr rfl)
  ·exact or_pow.2 (.inl (s4 j (by omega)))
theorem AI.all {C : Cou} (h : AI N F 0 C) (hN : 1 ≤ N) : ∀ k, AI N F k ((acL N F k).foldl Cou.step C)
 | 0 => h
 | k + 1 => by rw [acL_succ, List.foldl_append]; exact (AI.all h hN k).step hN
theorem ring_size {a k : Nat} (hN : N ≤ 15) (hF : F < N) (hk : k ≤ N) (h : ∀ j, j < k → a.testBit ((F + j) % N) = true) : k ≤ Vote.size a := by
 have := size_ge (ring_nodup hk hF) (a := a) λ i hi => by
  obtain ⟨j, hj, rfl⟩ := List.mem_map.1 hi
  rw [List.mem_range] at hj
  exact ⟨by have := Nat.mod_lt (F + j) (show 0 < N by omega); omega, h j hj⟩
 rwa [List.length_map, List.length_range] at this
theorem ends_chosen {C : Cou} {M : Nat} (x : Int) (h : PI N F 0 C) (hN : 1 ≤ N) (hF : F < N) (hM : N < 2 * M) (hM2 : M ≤ N) : ∃ r ∈ ((moL N F M x).foldl Cou.step C).rounds, chosB N r = true := by
 have h1 := h.all hN hF M hM2
 unfold moL; rw [List.foldl_append, List.foldl_append]
 obtain ⟨D, hD⟩ : ∃ D, D = (prL N F M).foldl Cou.step C := ⟨_, rfl⟩
 rw [← hD] at h1 ⊢
 have h15 := h1.P.n15
 obtain ⟨r, hr, hrb, hro⟩ := ensR_at (n := (⟨2, F, 50, x⟩ : Sst).ballot) h1.P.srt
 have hE := ensR_sort (n := (⟨2, F, 50, x⟩ : Sst).ballot) h1.P.srt
 have hp : ∀ j, j < M → r.p.testBit ((F + j) % N) = true := λ j hj => by
  obtain ⟨s, s1, s2, s3⟩ := h1.p j hj
  have : s = r := sort_uniq hE (mem_ensR s1) (List.mem_of_getElem? hr) (by rw [s2, hrb])
  rw [← this]; exact s3
 have hra : r.asked = false := by
  rcases hro with rfl | h2
  ·rfl
  ·exact h1.a r (List.mem_of_getElem? h2) hrb
 have hst := step_k2 hr rfl hra (by rw [h1.P.n]; have := ring_size h15 hF hM2 hp; omega)
 have hA : AI N F 0 (D.step ⟨2, F, 50, x⟩) := by
  refine ⟨h1.P.step (by unfold badS; simp; omega) λ _ => trivial, ?_, ?_⟩
  ·rw [hst]; intro i u hi; rcases h1.v i u hi with h2 | ⟨h2, _⟩ <;> omega
  ·rw [hst]; exact ⟨_, (set_mem (r' := ({ r with asked := true, v := chooseV r.h x } : Rnd)) hE hr rfl).2 (.inl rfl), hrb, rfl, λ j hj => by omega⟩
 obtain ⟨s, s1, s2, s3, s4⟩ := (hA.all hN M).q
 refine ⟨s, s1, ?_⟩
 unfold chosB; rw [s3, Bool.true_and, decide_eq_true_eq]
 have := ring_size h15 hF hM2 s4; omega
end
theorem low_step {N : Nat} {A : Int → Prop} {C : Cou} (P : Pax N A C.vows C.rounds) {x : Sst} (hx : badS (N : Int) x = false) (hb : x.ballot ≤ 49) (h : (∀ (i : Nat) u, C.vows[i]? = some u → u.promised ≤ 49) ∧ ∀ r ∈ C.rounds, r.b ≤ 49) :
  (∀ (i : Nat) u, (C.step x).vows[i]? = some u → u.promised ≤ 49) ∧ ∀ r ∈ (C.step x).rounds, r.b ≤ 49 := by
 obtain ⟨b1, b2, b3, b4, b5, b6⟩ := badS_ok hx
 obtain ⟨t, ht, htb, hto⟩ := ensR_at (n := x.ballot) P.srt
 have hw : x.who.toNat < C.vows.length := by rw [P.n]; omega
 have hE := ensR_sort (n := x.ballot) P.srt
 have hR : ∀ r ∈ ensR C.rounds x.ballot, r.b ≤ 49 := λ r hr => by
  rcases ensR_mem hr with rfl | hr
  ·exact hb
  ·exact h.2 r hr
 have hR2 : ∀ t' : Rnd, t'.b = t.b → ∀ r ∈ (ensR C.rounds x.ballot).set (binR C.rounds x.ballot) t', r.b ≤ 49 := λ t' e r hr => by
  rcases (set_mem hE ht e).1 hr with rfl | ⟨h1, _⟩
  ·rw [e, htb]; exact hb
  ·exact hR r h1
 have hV : ∀ u : Vow, u.promised = x.ballot → ∀ (i : Nat) w, (C.vows.set x.who.toNat u)[i]? = some w → w.promised ≤ 49 := λ u e i w hi => by
  rcases vset hi with ⟨_, rfl⟩ | ⟨_, hi⟩
  ·omega
  ·exact h.1 i w hi
 rcases step_cases C x ht (List.getElem?_eq_getElem hw) with e | ⟨_, _, e⟩ | ⟨_, ha, _, e⟩ | ⟨_, _, _, e⟩ <;> rw [e]
 ·exact ⟨h.1, hR⟩
 ·exact ⟨hV _ rfl, hR2 _ rfl⟩
 ·exact ⟨h.1, hR2 _ rfl⟩
 ·exact ⟨hV _ rfl, hR2 _ rfl⟩
theorem low_fold {N : Nat} {A : Int → Prop} : ∀ (l : List Sst) {C : Cou}, Pax N A C.vows C.rounds → (∀ x ∈ l, badS (N : Int) x = false) → (∀ x ∈ l, x.kind = 2 → A x.value) → (∀ x ∈ l, x.ballot ≤ 49) → ((∀ (i : Nat) u, C.vows[i]? = some u → u.promised ≤ 49) ∧ ∀ r ∈ C.rounds, r.b ≤ 49) → ((∀ (i : Nat) u, (l.foldl Cou.step C).vows[i]? = some u → u.promised ≤ 49) ∧ ∀ r ∈ (l.foldl Cou.step C).rounds, r.b ≤ 49)
 | [], C, _, _, _, _, h => h
 | x :: l, C, P, hb, hA, hl, h => low_fold l (P.step (hb x List.mem_cons_self) (hA x List.mem_cons_self)) (λ y hy => hb y (List.mem_cons_of_mem _ hy)) (λ y hy => hA y (List.mem_cons_of_mem _ hy)) (λ y hy => hl y (List.mem_cons_of_mem _ hy)) (low_step P (hb x List.mem_cons_self) (hl x List.mem_cons_self) h)
theorem low_play {N F : Nat} {l : List Sst} (h15 : N ≤ 15) (hb : ∀ x ∈ l, badS (N : Int) x = false) (hl : ∀ x ∈ l, x.ballot ≤ 49) : PI N F 0 (plyS N l) := by
 have P : Pax N (λ _ => True) (plyS N l).vows (plyS N l).rounds := pax_fold l _ (Pax.zero h15) hb λ _ _ _ => trivial
 have L := low_fold (A := λ _ => True) l (Pax.zero h15) hb (λ _ _ _ => trivial) hl ⟨λ i u hi => by
  have := List.mem_of_getElem? hi; unfold cou0 at this; rw [(List.mem_replicate.1 this).2]; decide, λ r hr => (nomatch hr)⟩
 exact ⟨P, λ i u hi => .inl (L.1 i u hi), λ r hr h50 => by have h49 : r.b ≤ 49 := L.2 r hr; omega, λ j hj => by omega⟩
end
section
open Go.RowKit
theorem Sye_el_S_api_Step : ElT Try.prog Sst.rep 58 72 32 := ElT.mk_ (z := Sst.zero) (k := 4) Try.underlying58 Sst.info rfl rfl (by decide) Sst.zero_raw
theorem pr_eq (N F k : Nat) : (⟨1, ((F : Int) + (k : Int)) % (N : Int), 50, 0⟩ : Sst) = prS N F k := by unfold prS; rw [← Int.natCast_add, ← Int.natCast_emod]
theorem ac_eq (N F k : Nat) : (⟨3, ((F : Int) + (k : Int)) % (N : Int), 50, 0⟩ : Sst) = acS N F k := by unfold acS; rw [← Int.natCast_add, ← Int.natCast_emod]
theorem prL_len (N F k : Nat) : (prL N F k).length = k := by simp [prL]
theorem acL_len (N F k : Nat) : (acL N F k).length = k := by simp [acL]
theorem moL_len (N F M : Nat) (x : Int) : (moL N F M x).length = 2 * M + 1 := by unfold moL; rw [List.length_append, List.length_append, prL_len, acL_len]; simp; omega
theorem ends_E {N F M : Nat} {l : List Sst} (x : Int) (h : syE (N : Int) l = 0) (hF : F < N) (hM : M ≤ 9) (hl : l.length ≤ 300) : syE (N : Int) (l ++ moL N F M x) = 0 := by
 obtain ⟨N', e, a1, a2, a3, a4, a5⟩ := syE_ok h
 obtain rfl : N' = N := by omega
 refine syE_0 (by omega) (by rw [List.length_append, moL_len]; omega) ?_
 rw [List.any_eq_false]
 intro y hy
 rcases List.mem_append.1 hy with hy | hy
 ·rw [a4 y hy]; decide
 ·rw [mo_ok a1 hF M x y hy]; decide
theorem ends_pos {N F : Nat} {l : List Sst} (x : Int) (h : syE (N : Int) l = 0) (hF : F < N) (hl : l.length ≤ 300) (hb : ∀ y ∈ l, y.ballot ≤ 49) : 0 < (syR (N : Int) (l ++ moL N F (N / 2 + 1) x)).chosen.length := by
 obtain ⟨N', e, a1, a2, a3, a4, a5⟩ := syE_ok h
 obtain rfl : N' = N := by omega
 have hE := ends_E (M := N' / 2 + 1) x h hF (by omega) hl
 obtain ⟨N2, e2, hv2, P2⟩ := sy_pax hE
 obtain rfl : N2 = N' := by omega
 obtain ⟨M, e3, hc, _⟩ := play_cont h hE
 obtain ⟨r, hr, hrc⟩ := ends_chosen (M := N2 / 2 + 1) x (low_play (F := F) a2 a4 hb) a1 hF (by omega) (by omega)
 rw [← a5, ← hc] at hr
 unfold Cou.chosen
 rw [List.length_map, hv2]
 exact List.length_pos_of_mem (List.mem_filter.2 ⟨hr, hrc⟩)
theorem endX_any (xs : Sst) (w : World) :
  Calls Try.prog 35 #[.agg #[.int .i64 xs.kind, .int .i64 xs.who, .int .i64 xs.ballot, .int .i64 xs.value]] w (λ e w' => e = .returned (.bool (decide (49 < xs.ballot))) ∧ Ext w w') := by
 refine calls_W (n := 6) Try.func35 rfl rfl rfl ?_
 refine sg <| bx rfl rfl rfl rfl λ w_1 b_2 x_3 l_4 B_5 => ?_
 have := x_3.size
 have z_1 := eT (Ext.rf w) x_3
 have q_7 := B_5.lt
 refine va rfl <| nK <| sg <| vL (fa eF22 rfl) <| vL (ld rfl (B_5.one eF4 rfl)) <| vL (bgt rfl rfl) <| va rfl <| nK <| rt <| tR (.tmp rfl .nil) <| ?_
 exact ⟨rfl, z_1⟩
theorem synodEnds_no (n first vx : Int) (l : List Sst) (A : Option Addr) (c : Nat) (w : World) (hl : Sst.rep.SHas 32 w A c l) (hbad : ¬ ((l.length ≤ 300 ∧ l.any (λ xs : Sst => decide (49 < xs.ballot)) = false) ∧ syE n l = 0 ∧ 0 ≤ first ∧ first < n)) :
  Calls Try.prog 11 #[.int .i64 n, .slice A l.length c, .int .i64 vx, .int .i64 first] w (λ e w' => e = .returned (.bool true) ∧ Ext w w') := by
 refine calls_W (n := 121) Try.func11 rfl rfl rfl ?_
 refine sg <| va rfl <| nK <| sq <| sg <| vm rfl <| vL (ln Try.underlying58 rfl) <| vL (bgt rfl rfl) <| vm rfl <| vQ rfl rfl rfl rfl (λ hc => mv rfl) rfl <| vC rfl rfl rfl rfl eF48 (λ hc => ec (gt hc rfl) (ec rfl rfl)) (λ hc => hasF_St 35 [] (λ xs : Sst => decide (49 < xs.ballot)) _ _ l _ (hl.keep (Ext.rf w)) eF58 (λ x hx w' h => endX_any x w')) rfl λ w_1 x_2 => ?_
 have := x_2.size
 have z_1 := eT (Ext.rf w) x_2
 refine vL (pO rfl rfl rfl rfl) <| nK <| ?_
 refine cb rfl (λ h_4 => ?_) (λ h_4 => ?_)
 ·refine sg <| ca eF59 rfl rfl ((synodLives_any _).mono ?_)
  rintro e w_5 ⟨rfl, x_6⟩
  refine ⟨_, rfl, ?_⟩
  have := x_6.size
  have z_5 := eT z_1 x_6
  refine va rfl <| nK <| rt <| tT <| tR (.tmp rfl .nil) <| ?_
  exact ⟨rfl, z_5⟩
 ·refine sK <| sg <| vm rfl <| vm rfl <| ca eF55 rfl rfl ((play_any n l _ _ _ (hl.keep z_1)).mono ?_)
  rintro e w_9 ⟨V8, v8, R8, r8, T8, rfl, HO8, x_10⟩
  refine ⟨_, rfl, ?_⟩
  have := x_10.size
  have z_9 := eT z_1 x_10
  have uo8 := λ q hq => (HO8.lt q hq).2
  have tl8 : T8.length = (syR n l).rounds.length := HO8.H.len
  have tm8 := sy_len n l
  refine vm rfl <| vL (ex rfl rfl) <| vL (ex rfl rfl) <| al rfl eF44 rfl rfl λ w_12 b_13 x_14 l_15 B_16 => ?_
  have := x_14.size
  have z_12 := eT z_9 x_14
  have q_18 := B_16.lt
  refine st (new := [.slice V8 ((syR n l).vows.length) v8, .slice R8 T8.length r8]) rfl rfl B_16 rfl eF45 rfl rfl rfl λ w_19 m_20 B_16 => ?_
  have := m_20.size
  have z_19 := Ext.mod z_12 m_20 (ge1 (by omega))
  have := m_20.size
  refine va rfl <| nK <| sq <| sg <| ca eF59 rfl rfl ((synodLives_any _).mono ?_)
  rintro e w_23 ⟨rfl, x_24⟩
  refine ⟨_, rfl, ?_⟩
  have := x_24.size
  have z_23 := eT z_19 x_24
  refine vL (nt rfl) <| vm rfl <| ug rfl rfl rfl <| vm rfl <| ug rfl rfl rfl <| vL (bne rfl rfl) <| vL (pkF rfl rfl) <| vm rfl <| vQ rfl rfl rfl rfl (λ hc => mv rfl) rfl <| vQ rfl rfl rfl rfl (λ hc => blt (gt hc rfl) rfl) rfl <| vL (pO rfl rfl rfl rfl) <| vm rfl <| vQ rfl rfl rfl rfl (λ hc => mv rfl) rfl <| vQ rfl rfl rfl rfl (λ hc => mv rfl) rfl <| vQ rfl rfl rfl rfl (λ hc => bge (gt hc rfl) (gt hc rfl)) rfl <| vL (pO rfl rfl rfl rfl) <| nK <| ?_
  refine cb rfl (λ h_26 => ?_) (λ h_26 => ?_)
  ·refine sg <| ca eF59 rfl rfl ((synodLives_any _).mono ?_)
   rintro e w_27 ⟨rfl, x_28⟩
   refine ⟨_, rfl, ?_⟩
   have := x_28.size
   have z_27 := eT z_23 x_28
   refine va rfl <| nK <| rt <| tT <| tR (.tmp rfl .nil) <| ?_
   exact ⟨rfl, z_27⟩
  ·exfalso; have h_ := h_26; simp only [Bool.or_eq_false_iff, decide_eq_false_iff_not] at h_; exact hbad ⟨by have h2_ := h_4; rw [Bool.or_eq_false_iff] at h2_; exact ⟨by have := of_decide_eq_false h2_.1; omega, h2_.2⟩, by simpa using h_.1.1, by omega, by omega⟩
theorem synodEnds_ok (N F : Nat) (vx : Int) (l : List Sst) (A : Option Addr) (c : Nat) (w : World) (hl : Sst.rep.SHas 32 w A c l) (wx : okI vx) (hl3 : l.length ≤ 300) (hla : l.any (λ xs : Sst => decide (49 < xs.ballot)) = false) (he : syE (N : Int) l = 0) (hF : F < N) :
  Calls Try.prog 11 #[.int .i64 (N : Int), .slice A l.length c, .int .i64 vx, .int .i64 (F : Int)] w (λ e w' => e = .returned (.bool true) ∧ Ext w w') := by
 obtain ⟨N_, hN_, hN1, hN15, _, _, _⟩ := syE_ok he
 have hN2 : 1 ≤ N ∧ N ≤ 15 := by omega
 have hbl : ∀ y ∈ l, y.ballot ≤ 49 := λ y hy => by rw [List.any_eq_false] at hla; have := hla y hy; simp at this; exact this
 have k1 : (decide (300 < (l.length : Int)) || l.any (λ xs : Sst => decide (49 < xs.ballot))) = false := by rw [hla, Bool.or_false]; exact decide_eq_false (by omega)
 refine calls_W (n := 121) Try.func11 rfl rfl rfl ?_
 refine sg <| va rfl <| nK <| sq <| sg <| vm rfl <| vL (ln Try.underlying58 rfl) <| vL (bgt rfl rfl) <| vm rfl <| vQ rfl rfl rfl rfl (λ hc => mv rfl) rfl <| vC rfl rfl rfl rfl eF48 (λ hc => ec (gt hc rfl) (ec rfl rfl)) (λ hc => hasF_St 35 [] (λ xs : Sst => decide (49 < xs.ballot)) _ _ l _ (hl.keep (Ext.rf w)) eF58 (λ x hx w' h => endX_any x w')) rfl λ w_1 x_2 => ?_
 have := x_2.size
 have z_1 := eT (Ext.rf w) x_2
 refine vL (pO rfl rfl rfl rfl) <| nK <| cF (evb rfl k1) <| sK <| sg <| vm rfl <| vm rfl <| ca eF55 rfl rfl ((play_any (N : Int) l _ _ _ (hl.keep z_1)).mono ?_)
 rintro e w_5 ⟨V4, v4, R4, r4, T4, rfl, HO4, x_6⟩
 refine ⟨_, rfl, ?_⟩
 have := x_6.size
 have z_5 := eT z_1 x_6
 have uo4 := λ q hq => (HO4.lt q hq).2
 have tl4 : T4.length = (syR (N : Int) l).rounds.length := HO4.H.len
 have tm4 := sy_len (N : Int) l
 have k2 : ((((syE (N : Int) l) != 0) || (decide ((F : Int) < 0))) || (decide ((N : Int) ≤ (F : Int)))) = false := by rw [he]; simp; omega
 refine vm rfl <| vL (ex rfl rfl) <| vL (ex rfl rfl) <| al rfl eF44 rfl rfl λ w_8 b_9 x_10 l_11 B_12 => ?_
 have := x_10.size
 have z_8 := eT z_5 x_10
 have q_14 := B_12.lt
 refine st (new := [.slice V4 ((syR (N : Int) l).vows.length) v4, .slice R4 T4.length r4]) rfl rfl B_12 rfl eF45 rfl rfl rfl λ w_15 m_16 B_12 => ?_
 have := m_16.size
 have z_15 := Ext.mod z_8 m_16 (ge1 (by omega))
 have := m_16.size
 refine va rfl <| nK <| sq <| sg <| ca eF59 rfl rfl ((synodLives_any _).mono ?_)
 rintro e w_19 ⟨rfl, x_20⟩
 refine ⟨_, rfl, ?_⟩
 have := x_20.size
 have z_19 := eT z_15 x_20
 refine vL (nt rfl) <| vm rfl <| ug rfl rfl rfl <| vm rfl <| ug rfl rfl rfl <| vL (bne rfl rfl) <| vL (pkF rfl rfl) <| vm rfl <| vQ rfl rfl rfl rfl (λ hc => mv rfl) rfl <| vQ rfl rfl rfl rfl (λ hc => blt (gt hc rfl) rfl) rfl <| vL (pO rfl rfl rfl rfl) <| vm rfl <| vQ rfl rfl rfl rfl (λ hc => mv rfl) rfl <| vQ rfl rfl rfl rfl (λ hc => mv rfl) rfl <| vQ rfl rfl rfl rfl (λ hc => bge (gt hc rfl) (gt hc rfl)) rfl <| vL (pO rfl rfl rfl rfl) <| nK <| cF (evb rfl k2) <| sK <| sg <| vm rfl <| ?_
 refine vL (bqu rfl rfl (by omega) (by omega) (quI (by omega) (by omega) (by omega))) <| vL (bad rfl rfl (inI (by omega))) <| va rfl <| nK <| sg <| va rfl <| nK <| sq <| sg <| vm rfl <| vm rfl <| nK <| bk <| ?_
 have HO4 := HO4.later x_10
 have HO4 := HO4.mod m_16 (λ q hq h => by have := uo4 q hq; have := List.mem_singleton.1 h; omega)
 have HO4 := HO4.later x_20
 have B_12 := B_12.later x_20
 refine lp (λ mI EI wI => ∃ k : Nat, ∃ Lo : List Sst, ∃ AL : Option Addr, ∃ cL : Nat, EI = [(0, .int .i64 (N : Int)), (1, .slice A l.length c), (2, .int .i64 vx), (3, .int .i64 (F : Int)), (8, .bool false), (9, .pointer (some ⟨b_9, 0, none⟩)), (11, .int .i64 (((N : Int) / 2) + 1)), (12, .slice AL Lo.length cL), (52, .int .i64 (((N : Int) / 2) + 1)), (53, .int .i64 (k : Int))] ∧ mI = N / 2 + 1 - k ∧ Ext w wI ∧ SyO wI _ _ _ ∧ Blk wI b_9 [.slice V4 ((syR (N : Int) l).vows.length) v4, .slice R4 T4.length r4] 62 (0, 0) ∧ Sst.rep.SOwn 72 32 wI w_19.heap.size (Rep.blkOf AL) AL cL Lo ∧ (k ≤ N / 2 + 1) ∧ (Lo = prL N F k) ∧ (w_19.heap.size ≤ wI.heap.size) ∧ (∀ q ∈ Rep.blkOf AL, q = b_9 → False)) _ _ ⟨0, ([] : List Sst), none, 0, rfl, rfl, z_19, HO4, B_12, (Rep.SOwn.nil _), by omega, rfl, Nat.le_refl _, (λ q hq hb => by (simp [Rep.blkOf] at hq))⟩ (.cons rfl (.cons rfl (.cons rfl (.cons rfl (.cons rfl (.cons rfl (.cons rfl (.cons rfl (.cons rfl (.cons (loI rfl (by first | omega | rfl | (simp <;> omega))) .nil)))))))))) ?_
 rintro m_24 E_25 w_23 ⟨k, Lo, AL, cL, rfl, rfl, z_23, HO4, B_12, OPx, hk, hLo, hBs1, d_22⟩
 have := z_23.size
 have q_27 := B_12.lt
 have u_28 := λ q hq => (OPx.lt q hq).2
 have hLl1 : Lo.length = k := by rw [hLo]; simp [prL, acL]
 refine sg <| vL (blt rfl rfl) <| nK <| sq <| ?_
 refine clt rfl (λ h_29 => ?_) (λ h_29 => ?_)
 ·refine sK <| sq <| bk <| sg <| vm rfl <| va rfl <| nK <| rg <| vm rfl <| vm rfl <| vm rfl <| vL (bad rfl rfl (inI (by omega))) <| vm rfl <| vL (bre rfl rfl (by omega) (by omega)) <| vL (v := .agg #[.int .i64 1, .int .i64 (((F : Int) + (k : Int)) % (N : Int)), .int .i64 50, .int .i64 0]) (bd rfl (by kernel_rfl)) <| bs (e := 72) (cs := [.int .i64 1, .int .i64 (((F : Int) + (k : Int)) % (N : Int)), .int .i64 50, .int .i64 0]) rfl (λ _ => by kernel_rfl) rfl λ w_30 b_31 x_32 l_33 B_34 => ?_
  have := x_32.size
  have z_30 := eT z_23 x_32
  have q_36 := B_34.lt
  have OPx := OPx.later x_32
  refine ap Sye_el_S_api_Step Rep.flat_bare OPx (Blk.has1 (R := Sst.rep) (by_ := 32) (q := (⟨1, ((F : Int) + (k : Int)) % (N : Int), 50, 0⟩ : Sst)) B_34 ⟨rfl, ⟨okI_iff.2 (by (try dsimp only); decide), okI_iff.2 (by (try dsimp only); have h_ := Int.emod_nonneg ((F : Int) + (k : Int)) (show (N : Int) ≠ 0 by omega); have h2_ := Int.emod_lt_of_pos ((F : Int) + (k : Int)) (show (0 : Int) < N by omega); omega), okI_iff.2 (by (try dsimp only); decide), okI_iff.2 (by (try dsimp only); decide)⟩⟩ (by decide)) rfl rfl (by simp only [List.length_append, prL_len, acL_len, moL_len, List.length_cons, List.length_nil]; omega) (by simp only [List.length_append, prL_len, acL_len, moL_len, List.length_cons, List.length_nil]; omega) (by omega) rfl λ w_37 A_38 c_39 m_40 O_41 g_42 n_43 => ?_
  have := m_40.size
  have z_37 := Ext.mod z_30 m_40 (λ q hq => Nat.le_trans (by omega) (OPx.lt q hq).1)
  have u_45 := λ q hq => (O_41.lt q hq).2
  have := m_40.size
  refine va rfl <| nl <| nB <| nT <| rg <| vL (bad rfl rfl (inI (by omega))) <| vm rfl <| nl <| ?_
  have HO4 := HO4.later x_32
  have HO4 := HO4.mod m_40 (λ q hq h => by have := uo4 q hq; have := (OPx.lt q h).1; omega)
  have B_12 := B_12.later x_32
  have B_12 := B_12.mod m_40 (λ hq => d_22 _ hq rfl)
  exact nI _ _ ⟨k + 1, Lo ++ [(⟨1, ((F : Int) + (k : Int)) % (N : Int), 50, 0⟩ : Sst)], A_38, c_39, rfl, rfl, z_37, HO4, B_12, O_41, by omega, by rw [hLo, prL_succ, ← pr_eq], by omega, (λ q hq hb => by (exact Or.elim (g_42 q hq) (λ k_47 => by (exact d_22 q k_47 hb)) (λ k_47 => by omega)))⟩ (by omega) (.cons rfl (.cons rfl (.cons rfl (.cons rfl (.cons rfl (.cons rfl (.cons rfl (.cons rfl (.cons rfl (.cons (loI rfl (by first | omega | rfl | (simp <;> omega))) .nil))))))))))
 ·have ek1 : k = N / 2 + 1 := by omega
  refine xt <| xT <| xK <| xB <| nT <| sg <| vm rfl <| vm rfl <| vm rfl <| vL (v := .agg #[.int .i64 2, .int .i64 (F : Int), .int .i64 50, .int .i64 vx]) (bd rfl (by kernel_rfl)) <| bs (e := 72) (cs := [.int .i64 2, .int .i64 (F : Int), .int .i64 50, .int .i64 vx]) rfl (λ _ => by kernel_rfl) rfl λ w_48 b_49 x_50 l_51 B_52 => ?_
  have := x_50.size
  have z_48 := eT z_23 x_50
  have q_54 := B_52.lt
  have OPx := OPx.later x_50
  refine ap Sye_el_S_api_Step Rep.flat_bare OPx (Blk.has1 (R := Sst.rep) (by_ := 32) (q := (⟨2, (F : Int), 50, vx⟩ : Sst)) B_52 ⟨rfl, ⟨okI_iff.2 (by (try dsimp only); decide), okI_iff.2 (by (try dsimp only); omega), okI_iff.2 (by (try dsimp only); decide), wx⟩⟩ (by decide)) rfl rfl (by simp only [List.length_append, prL_len, acL_len, moL_len, List.length_cons, List.length_nil]; omega) (by simp only [List.length_append, prL_len, acL_len, moL_len, List.length_cons, List.length_nil]; omega) (by omega) rfl λ w_55 A_56 c_57 m_58 O_59 g_60 n_61 => ?_
  have := m_58.size
  have z_55 := Ext.mod z_48 m_58 (λ q hq => Nat.le_trans (by omega) (OPx.lt q hq).1)
  have u_63 := λ q hq => (O_59.lt q hq).2
  have := m_58.size
  refine va rfl <| nK <| sq <| sg <| vm rfl <| vm rfl <| nK <| bk <| ?_
  have HO4 := HO4.later x_50
  have HO4 := HO4.mod m_58 (λ q hq h => by have := uo4 q hq; have := (OPx.lt q h).1; omega)
  have B_12 := B_12.later x_50
  have B_12 := B_12.mod m_58 (λ hq => d_22 _ hq rfl)
  refine lp (λ mI EI wI => ∃ k : Nat, ∃ L2 : List Sst, ∃ A2 : Option Addr, ∃ c2 : Nat, EI = [(0, .int .i64 (N : Int)), (1, .slice A l.length c), (3, .int .i64 (F : Int)), (8, .bool false), (9, .pointer (some ⟨b_9, 0, none⟩)), (12, .slice A2 L2.length c2), (72, .int .i64 (((N : Int) / 2) + 1)), (73, .int .i64 (k : Int))] ∧ mI = N / 2 + 1 - k ∧ Ext w wI ∧ SyO wI _ _ _ ∧ Blk wI b_9 [.slice V4 ((syR (N : Int) l).vows.length) v4, .slice R4 T4.length r4] 62 (0, 0) ∧ Sst.rep.SOwn 72 32 wI w_19.heap.size (Rep.blkOf A2) A2 c2 L2 ∧ (k ≤ N / 2 + 1) ∧ (L2 = prL N F (N / 2 + 1) ++ [⟨2, F, 50, vx⟩] ++ acL N F k) ∧ (w_55.heap.size ≤ wI.heap.size) ∧ (∀ q ∈ Rep.blkOf A2, q = b_9 → False)) _ _ ⟨0, Lo ++ [(⟨2, (F : Int), 50, vx⟩ : Sst)], A_56, c_57, rfl, rfl, z_55, HO4, B_12, O_59, by omega, by rw [hLo, ek1, show acL N F 0 = [] from rfl, List.append_nil], Nat.le_refl _, (λ q hq hb => by (exact Or.elim (g_60 q hq) (λ k_66 => by (exact d_22 q k_66 hb)) (λ k_66 => by omega)))⟩ (.cons rfl (.cons rfl (.cons rfl (.cons rfl (.cons rfl (.cons rfl (.cons rfl (.cons (loI rfl (by first | omega | rfl | (simp <;> omega))) .nil)))))))) ?_
  rintro m_68 E_69 w_67 ⟨k, L2, A2, c2, rfl, rfl, z_67, HO4, B_12, OQx, hk, hL2, hBs2, d_65⟩
  have := z_67.size
  have q_71 := B_12.lt
  have u_72 := λ q hq => (OQx.lt q hq).2
  have hLl2 : L2.length = N / 2 + 1 + 1 + k := by rw [hL2]; simp [prL, acL]; omega
  refine sg <| vL (blt rfl rfl) <| nK <| sq <| ?_
  refine clt rfl (λ h_73 => ?_) (λ h_73 => ?_)
  ·refine sK <| sq <| bk <| sg <| vm rfl <| va rfl <| nK <| rg <| vm rfl <| vm rfl <| vm rfl <| vL (bad rfl rfl (inI (by omega))) <| vm rfl <| vL (bre rfl rfl (by omega) (by omega)) <| vL (v := .agg #[.int .i64 3, .int .i64 (((F : Int) + (k : Int)) % (N : Int)), .int .i64 50, .int .i64 0]) (bd rfl (by kernel_rfl)) <| bs (e := 72) (cs := [.int .i64 3, .int .i64 (((F : Int) + (k : Int)) % (N : Int)), .int .i64 50, .int .i64 0]) rfl (λ _ => by kernel_rfl) rfl λ w_74 b_75 x_76 l_77 B_78 => ?_
   have := x_76.size
   have z_74 := eT z_67 x_76
   have q_80 := B_78.lt
   have OQx := OQx.later x_76
   refine ap Sye_el_S_api_Step Rep.flat_bare OQx (Blk.has1 (R := Sst.rep) (by_ := 32) (q := (⟨3, ((F : Int) + (k : Int)) % (N : Int), 50, 0⟩ : Sst)) B_78 ⟨rfl, ⟨okI_iff.2 (by (try dsimp only); decide), okI_iff.2 (by (try dsimp only); have h_ := Int.emod_nonneg ((F : Int) + (k : Int)) (show (N : Int) ≠ 0 by omega); have h2_ := Int.emod_lt_of_pos ((F : Int) + (k : Int)) (show (0 : Int) < N by omega); omega), okI_iff.2 (by (try dsimp only); decide), okI_iff.2 (by (try dsimp only); decide)⟩⟩ (by decide)) rfl rfl (by simp only [List.length_append, prL_len, acL_len, moL_len, List.length_cons, List.length_nil]; omega) (by simp only [List.length_append, prL_len, acL_len, moL_len, List.length_cons, List.length_nil]; omega) (by omega) rfl λ w_81 A_82 c_83 m_84 O_85 g_86 n_87 => ?_
   have := m_84.size
   have z_81 := Ext.mod z_74 m_84 (λ q hq => Nat.le_trans (by omega) (OQx.lt q hq).1)
   have u_89 := λ q hq => (O_85.lt q hq).2
   have := m_84.size
   refine va rfl <| nl <| nB <| nT <| rg <| vL (bad rfl rfl (inI (by omega))) <| vm rfl <| nl <| ?_
   have HO4 := HO4.later x_76
   have HO4 := HO4.mod m_84 (λ q hq h => by have := uo4 q hq; have := (OQx.lt q h).1; omega)
   have B_12 := B_12.later x_76
   have B_12 := B_12.mod m_84 (λ hq => d_65 _ hq rfl)
   exact nI _ _ ⟨k + 1, L2 ++ [(⟨3, ((F : Int) + (k : Int)) % (N : Int), 50, 0⟩ : Sst)], A_82, c_83, rfl, rfl, z_81, HO4, B_12, O_85, by omega, by rw [hL2, acL_succ, ← ac_eq, List.append_assoc], by omega, (λ q hq hb => by (exact Or.elim (g_86 q hq) (λ k_91 => by (exact d_65 q k_91 hb)) (λ k_91 => by omega)))⟩ (by omega) (.cons rfl (.cons rfl (.cons rfl (.cons rfl (.cons rfl (.cons rfl (.cons rfl (.cons (loI rfl (by first | omega | rfl | (simp <;> omega))) .nil))))))))
  ·have ek2 : k = N / 2 + 1 := by omega
   refine xt <| xT <| xK <| xB <| nT <| sg <| vm rfl <| vm rfl <| ?_
   have hMo : L2 = moL N F (N / 2 + 1) vx := by rw [hL2, ek2]; rfl
   rw [hMo] at OQx
   have hMl := moL_len N F (N / 2 + 1) vx
   have hL3 : L2.length = (moL N F (N / 2 + 1) vx).length := by rw [hMo]
   rw [hL3]
   refine ca eF60 rfl rfl ((clone_St _ _ l _ (hl.keep z_67)).mono ?_)
   rintro e w_95 ⟨A92, c92, rfl, OK92, hn92, x_96⟩
   refine ⟨_, rfl, ?_⟩
   have := x_96.size
   have z_95 := eT z_67 x_96
   have u_93 := λ q hq => (OK92.lt q hq).2
   have lo_94 := λ q hq => (OK92.lt q hq).1
   refine vm rfl <| ?_
   have OQx := OQx.later x_96
   refine ap Sye_el_S_api_Step Rep.flat_bare OK92 OQx.has rfl rfl (by simp only [List.length_append, prL_len, acL_len, moL_len, List.length_cons, List.length_nil]; omega) (by simp only [List.length_append, prL_len, acL_len, moL_len, List.length_cons, List.length_nil]; omega) (by omega) rfl λ w_98 A_99 c_100 m_101 O_102 g_103 n_104 => ?_
   have := m_101.size
   have z_98 := Ext.mod z_95 m_101 (λ q hq => Nat.le_trans (by omega) (OK92.lt q hq).1)
   have u_106 := λ q hq => (O_102.lt q hq).2
   have := m_101.size
   refine ca eF55 rfl rfl ((play_any (N : Int) (l ++ moL N F (N / 2 + 1) vx) _ _ _ O_102.has).mono ?_)
   rintro e w_109 ⟨V108, v108, R108, r108, T108, rfl, HO108, x_110⟩
   refine ⟨_, rfl, ?_⟩
   have := x_110.size
   have z_109 := eT z_98 x_110
   have uo108 := λ q hq => (HO108.lt q hq).2
   have tl108 : T108.length = (syR (N : Int) (l ++ moL N F (N / 2 + 1) vx)).rounds.length := HO108.H.len
   have tm108 := sy_len (N : Int) (l ++ moL N F (N / 2 + 1) vx)
   have hE2 := ends_E (M := N / 2 + 1) vx he hF (by omega) hl3
   have hps := ends_pos vx he hF hl3 hbl
   obtain ⟨_, hst⟩ := stays he hE2
   have k3 : ((syE (N : Int) (l ++ moL N F (N / 2 + 1) vx)) != 0) = false := by rw [hE2]; rfl
   have k4 : ((((syR (N : Int) (l ++ moL N F (N / 2 + 1) vx)).chosen.length : Nat) : Int) == 0) = false := by rw [beq_eq_false_iff_ne]; omega
   refine vm rfl <| vL (ex rfl rfl) <| vL (ex rfl rfl) <| al rfl eF44 rfl rfl λ w_112 b_113 x_114 l_115 B_116 => ?_
   have := x_114.size
   have z_112 := eT z_109 x_114
   have q_118 := B_116.lt
   refine st (new := [.slice V108 ((syR (N : Int) (l ++ moL N F (N / 2 + 1) vx)).vows.length) v108, .slice R108 T108.length r108]) rfl rfl B_116 rfl eF45 rfl rfl rfl λ w_119 m_120 B_116 => ?_
   have := m_120.size
   have z_119 := Ext.mod z_112 m_120 (ge1 (by omega))
   have := m_120.size
   refine va rfl <| nK <| sq <| ?_
   refine rd [(0, 0), (1, 2), (2, 0), (3, 2)] [0, 2, 1, 3, 4, 5] (by kernel_rfl) (by kernel_rfl) ?_
   have B_12 := B_12.later x_96
   have d_123 : ∀ q ∈ Rep.blkOf A92, q = b_9 → False := λ q hq hb => by (have := lo_94 q hq; omega)
   have B_12 := B_12.mod m_101 (λ hq => d_123 _ hq rfl)
   have B_12 := B_12.later (eT x_110 x_114)
   have B_12 := B_12.mod m_120 (nm1 (by omega))
   refine fq1 rfl (λ _ x => ld rfl ((B_12.later x).all eF46 eF45)) <| fq1 rfl (λ _ x => ld rfl ((B_116.later x).all eF46 eF45)) <| ?_
   have HO4 := HO4.later x_96
   have HO4 := HO4.mod m_101 (λ q hq h => by have := uo4 q hq; have := (OK92.lt q h).1; omega)
   have HO4 := HO4.later (eT x_110 x_114)
   have HO4 := HO4.mod m_120 (λ q hq h => by have := uo4 q hq; have := List.mem_singleton.1 h; omega)
   refine fx rfl rfl rfl λ w_124 x_125 Q hK => ca eF56 rfl rfl ((chosen_any _ ⟨V4, v4, R4, r4, T4⟩ (syR (N : Int) l) _ (HO4.later x_125) (sy_q _ _) (by show T4.length ≤ _; omega)).mono ?_)
   rintro e w_129 ⟨A126, c126, rfl, OC126, x_130⟩
   refine ⟨_, rfl, hK _ _ ⟨eT x_125 x_130, ?_⟩⟩
   have := x_125.size
   have z_124 := eT z_119 x_125
   have := x_130.size
   have z_129 := eT z_124 x_130
   have u_127 := λ q hq => (OC126.lt q hq).2
   have lo_128 := λ q hq => (OC126.lt q hq).1
   have lc126 := chosen_len (N : Int) l
   have HO108 := HO108.later x_114
   have HO108 := HO108.mod m_120 (λ q hq h => by have := uo108 q hq; have := List.mem_singleton.1 h; omega)
   have HO108 := HO108.later (eT x_125 x_130)
   refine fx rfl rfl rfl λ w_133 x_134 Q hK => ca eF56 rfl rfl ((chosen_any _ ⟨V108, v108, R108, r108, T108⟩ (syR (N : Int) (l ++ moL N F (N / 2 + 1) vx)) _ (HO108.later x_134) (sy_q _ _) (by show T108.length ≤ _; omega)).mono ?_)
   rintro e w_138 ⟨A135, c135, rfl, OC135, x_139⟩
   refine ⟨_, rfl, hK _ _ ⟨eT x_134 x_139, ?_⟩⟩
   have := x_134.size
   have z_133 := eT z_129 x_134
   have := x_139.size
   have z_138 := eT z_133 x_139
   have u_136 := λ q hq => (OC135.lt q hq).2
   have lo_137 := λ q hq => (OC135.lt q hq).1
   have lc135 := chosen_len (N : Int) (l ++ moL N F (N / 2 + 1) vx)
   refine fw1 rfl (λ _ => as_ rfl) <| fw1 rfl (λ _ => as_ rfl) <| fn λ w_142 x_143 => ?_
   have := x_143.size
   have z_142 := eT z_138 x_143
   refine nT <| sq <| sg <| vm rfl <| vL (bne rfl rfl) <| vm (evb rfl k3) <| ug rfl rfl rfl <| vm rfl <| ug rfl rfl rfl <| vL (ln Try.underlying34 rfl) <| ug rfl rfl rfl <| vL (beq rfl rfl) <| vL (pkF rfl (evb rfl k4)) <| nK <| cF rfl <| sK <| sq <| ?_
   rcases Nat.eq_zero_or_pos (syR (N : Int) l).chosen.length with hv0 | hv0
   ·have kv : ((((syR (N : Int) l).chosen.length : Nat) : Int) == 0) = true := by rw [hv0]; rfl
    refine rd [(9, 0), (12, 0)] [0, 1, 2, 3, 4, 5, 6, 7, 8, 9, 10, 11, 12, 13, 14, 15] (by kernel_rfl) (by kernel_rfl) ?_
    refine fw1 rfl (λ _ => mv rfl) <| fw1 rfl (λ _ => ln Try.underlying34 rfl) <| fw1 rfl (λ _ => beq rfl rfl) <| fw1 rfl (λ _ => mv (evb rfl kv)) <| fW (v := undef) rfl rfl rfl rfl rfl rfl (λ hc => nomatch hc) rfl <| fW (v := undef) rfl rfl rfl rfl rfl rfl (λ hc => nomatch hc) rfl <| fW (v := undef) rfl rfl rfl rfl rfl rfl (λ hc => nomatch hc) rfl <| fW (v := undef) rfl rfl rfl rfl rfl rfl (λ hc => nomatch hc) rfl <| fW (v := undef) rfl rfl rfl rfl rfl rfl (λ hc => nomatch hc) rfl <| fQ (v := undef) rfl rfl rfl rfl rfl rfl (λ hc => nomatch hc) rfl <| fW (v := undef) rfl rfl rfl rfl rfl rfl (λ hc => nomatch hc) rfl <| fW (v := undef) rfl rfl rfl rfl rfl rfl (λ hc => nomatch hc) rfl <| fQ (v := undef) rfl rfl rfl rfl rfl rfl (λ hc => nomatch hc) rfl <| fW (v := undef) rfl rfl rfl rfl rfl rfl (λ hc => nomatch hc) rfl <| fw1 rfl (λ _ => pkT rfl rfl) <| fw1 rfl (λ _ => as_ rfl) <| fn λ w_145 x_146 => ?_
    have := x_146.size
    have z_145 := eT z_142 x_146
    refine nT <| rt <| tR (.tmp rfl .nil) <| ?_
    exact ⟨rfl, z_145⟩
   ·have kv : ((((syR (N : Int) l).chosen.length : Nat) : Int) == 0) = false := by rw [beq_eq_false_iff_ne]; omega
    obtain ⟨p0, h0⟩ : ∃ p0, (syR (N : Int) l).chosen[0]? = some p0 := ⟨_, List.getElem?_eq_getElem (by omega)⟩
    obtain ⟨pl, hpl⟩ : ∃ pl, (syR (N : Int) (l ++ moL N F (N / 2 + 1) vx)).chosen[((((syR (N : Int) (l ++ moL N F (N / 2 + 1) vx)).chosen.length : Nat) : Int) - 1).toNat]? = some pl := ⟨_, List.getElem?_eq_getElem (by omega)⟩
    have kx : (pl == p0) = true := by rw [hst p0 (List.mem_of_getElem? h0) pl (List.mem_of_getElem? hpl)]; simp
    refine rd [(9, 0), (12, 0)] [0, 1, 2, 3, 4, 5, 6, 7, 8, 9, 10, 11, 12, 13, 14, 15] (by kernel_rfl) (by kernel_rfl) ?_
    refine fw1 rfl (λ _ => mv rfl) <| fw1 rfl (λ _ => ln Try.underlying34 rfl) <| fw1 rfl (λ _ => beq rfl rfl) <| fw1 rfl (λ _ => mv (evb rfl kv)) <| fW rfl rfl rfl rfl rfl rfl (λ hc _ => mv rfl) rfl <| fW rfl rfl rfl rfl rfl rfl (λ hc _ => mv rfl) rfl <| fW rfl rfl rfl rfl rfl rfl (λ hc _ => ln Try.underlying34 rfl) rfl <| fW rfl rfl rfl rfl rfl rfl (λ hc _ => bsu rfl rfl (inI (by (try simp only [bS] at hc); omega))) rfl <| ?_
    have OC135 := OC135.later x_143
    refine fW rfl rfl rfl rfl rfl rfl (λ hc _ => iA ((((((syR (N : Int) (l ++ moL N F (N / 2 + 1) vx)).chosen.length : Nat) : Int)) - 1).toNat) Try.underlying34 eF7 rfl rfl (OC135.has.adr (zl ((((((syR (N : Int) (l ++ moL N F (N / 2 + 1) vx)).chosen.length : Nat) : Int)) - 1).toNat) (by omega))) (by (try simp only [bS] at hc); omega) (by omega)) rfl <| fQ rfl rfl rfl rfl rfl rfl (λ hc _ x => ld rfl (Rep.SHas.one' hcI ((OC135.later x).has.adh (zl ((((((syR (N : Int) (l ++ moL N F (N / 2 + 1) vx)).chosen.length : Nat) : Int)) - 1).toNat) (by omega))) hpl rfl eF4)) rfl <| fW rfl rfl rfl rfl rfl rfl (λ hc _ => mv rfl) rfl <| ?_
    have OC126 := OC126.later (eT x_134 (eT x_139 x_143))
    refine fW rfl rfl rfl rfl rfl rfl (λ hc _ => iA 0 Try.underlying34 eF7 rfl rfl (OC126.has.adr (zl 0 (by omega))) rfl (by omega)) rfl <| fQ rfl rfl rfl rfl rfl rfl (λ hc _ x => ld rfl (Rep.SHas.one' hcI ((OC126.later x).has.adh (zl 0 (by omega))) h0 rfl eF4)) rfl <| fW rfl rfl rfl rfl rfl rfl (λ hc _ => beq rfl rfl) rfl <| fw1 rfl (λ _ => pkF rfl (evb rfl kx)) <| fw1 rfl (λ _ => as_ rfl) <| fn λ w_148 x_149 => ?_
    have := x_149.size
    have z_148 := eT z_142 x_149
    refine nT <| rt <| tR (.tmp rfl .nil) <| ?_
    exact ⟨rfl, z_148⟩
theorem synodEnds_any (a0 : Int) (a1 : Option Addr) (len1 cap1 : Nat) (a2 : Int) (a3 : Int) (w : World) (w0 : (Lit.int .i64 a0).wf = true) (h1 : (.slice (.cons (.int .i64) (.cons (.int .i64) (.cons (.int .i64) (.cons (.int .i64) .nil)))) 32 : Sh).Ok w [.slice a1 len1 cap1]) (w2 : (Lit.int .i64 a2).wf = true) (w3 : (Lit.int .i64 a3).wf = true) :
  Calls Try.prog 11 #[.int .i64 a0, .slice a1 len1 cap1, .int .i64 a2, .int .i64 a3] w λ e w' => e = .returned (.bool true) ∧ Below w.heap.size w w' := by
 obtain ⟨Ax, cx, l, e1, hl1⟩ := Rep.opens_slice (R := Sst.rep) (by_ := 32) Sst.opens rfl (by decide) h1
 injection e1 with e_ _
 injection e_ with q1_ q2_ q3_
 subst q1_ q2_ q3_
 by_cases hg : (l.length ≤ 300 ∧ l.any (λ xs : Sst => decide (49 < xs.ballot)) = false) ∧ syE a0 l = 0 ∧ 0 ≤ a3 ∧ a3 < a0
 ·obtain ⟨⟨g1, g2⟩, g3, g4, g5⟩ := hg
  obtain ⟨N, rfl⟩ : ∃ N : Nat, a0 = N := ⟨a0.toNat, by omega⟩
  obtain ⟨F, rfl⟩ : ∃ F : Nat, a3 = F := ⟨a3.toNat, by omega⟩
  exact synodEnds_ok N F a2 l _ _ w hl1 w2 g1 g2 g3 (by omega)
 ·exact synodEnds_no a0 a3 a2 l _ _ w hl1 hg
end
end Go.Proofs.Ytifffjhhammeiaa
