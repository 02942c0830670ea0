import Derived.Test.YtifffjhhammeiaaFcs
import Derived.Test.YtifffjhhammeiaaFlG
import Derived.RangeFuncNested
import Derived.RangeFuncLeaves
import Derived.OrdersIn
import Derived.TacticsIn
import Derived.LoopNIn
import Derived.Laws.IdiomCopy
set_option linter.unusedVariables false
set_option linter.unusedSimpArgs false
set_option maxRecDepth 100000
set_option maxHeartbeats 4000000
namespace Go.Proofs.Ytifffjhhammeiaa
section
open Go.RowKit Go.Sort Go.Lib Go.Proofs.Ytifffjhhammeiaa.Mt
theorem cmp_any (x y : Int) (w : World) : Calls Try.prog 39 #[.int .i64 x, .int .i64 y] w λ e w' => e = .returned (.int .i64 (Lib.compareInt x y)) ∧ w' = w :=
 AnyG.cmp_Compare_int Try.cmpInt x y w
theorem lessP (x y : Pr) (W : World) : Calls Try.prog 38 #[.agg #[.int .i64 x.a, .int .i64 x.b], .agg #[.int .i64 y.a, .int .i64 y.b]] W λ e w' => e = .returned (.int .i64 (Lib.compareInt x.a y.a)) ∧ ∃ q os', w' = grow (W.drewN q) os' := by
 have hcon := λ W' => cmp_any x.a y.a W'
 generalize Lib.compareInt x.a y.a = r at hcon ⊢
 go_enter Try.func38, Try.ntmps38
 go_wp2_with (go_at_call 39; refine (hcon _).mono ?_; rintro e w' ⟨rfl, rfl⟩)
 go_ret
 exact ⟨rfl, 0, _, by rw [alloc_eq_grow, alloc_eq_grow, grow_grow]; rfl⟩
theorem or_three (x y z : Int) (b : Nat) (w : World) (h0 : w.cell? ⟨b, 0, none⟩ = some (.int .i64 x)) (h1 : w.cell? ⟨b, 1, none⟩ = some (.int .i64 y)) (h2 : w.cell? ⟨b, 2, none⟩ = some (.int .i64 z)) :
  Calls Try.prog 44 #[.slice (some ⟨b, 0, none⟩) 3 3] w λ e w' => e = .returned (.int .i64 (orI x (orI y z))) ∧ w = w' := by
 obtain ⟨r, HR⟩ : ∃ r, Hid (r = orI x (orI y z)) := ⟨_, Lib.hid rfl⟩
 rw [← HR.out]
 go_enter Try.func44, Try.ntmps44
 go_wp2
 go_loop [8] (λ i => ∃ k : Nat, k ≤ 3 ∧ i = .int .i64 k ∧ (0 < k → x = 0) ∧ (1 < k → y = 0) ∧ (2 < k → z = 0)) (λ i => 3 - (intOf i).toNat)
 case atStart => exact ⟨0, by omega, rfl, by omega, by omega, by omega⟩
 case round =>
  obtain ⟨k, hk, rfl, e0, e1, e2⟩ := hrel
  have hk4 : k = 0 ∨ k = 1 ∨ k = 2 ∨ k = 3 := by omega
  rcases hk4 with rfl | rfl | rfl | rfl
  ·by_cases hx : x = 0
   ·have hx' : (x != 0) = false := by simpa using hx
    clear e0 e1 e2
    go_wp2_with fail
    go_round
    case rel => exact ⟨1, by omega, by go_num, λ _ => hx, by omega, by omega⟩
    case measure => simp [intOf]
   ·have hx' : (x != 0) = true := by simpa using hx
    clear e0 e1 e2
    have HX : Hid (r = x) := Lib.hid (by rw [HR.out]; unfold orI; rw [if_pos hx])
    go_wp2_with fail
    go_ret
    exact ⟨by rw [HX.out]; rfl, rfl⟩
  ·have hx := e0 (by omega)
   by_cases hy : y = 0
   ·have hy' : (y != 0) = false := by simpa using hy
    clear e0 e1 e2
    go_wp2_with fail
    go_round
    case rel => exact ⟨2, by omega, by go_num, λ _ => hx, λ _ => hy, by omega⟩
    case measure => simp [intOf]
   ·have hy' : (y != 0) = true := by simpa using hy
    clear e0 e1 e2
    have HX : Hid (r = y) := Lib.hid (by rw [HR.out, hx]; unfold orI; rw [if_neg (by omega), if_pos hy])
    go_wp2_with fail
    go_ret
    exact ⟨by rw [HX.out]; rfl, rfl⟩
  ·have hx := e0 (by omega)
   have hy := e1 (by omega)
   by_cases hz : z = 0
   ·have hz' : (z != 0) = false := by simpa using hz
    clear e0 e1 e2
    go_wp2_with fail
    go_round
    case rel => exact ⟨3, by omega, by go_num, λ _ => hx, λ _ => hy, λ _ => hz⟩
    case measure => simp [intOf]
   ·have hz' : (z != 0) = true := by simpa using hz
    clear e0 e1 e2
    have HX : Hid (r = z) := Lib.hid (by rw [HR.out, hx, hy]; rfl)
    go_wp2_with fail
    go_ret
    exact ⟨by rw [HX.out]; rfl, rfl⟩
  ·have HX : Hid (r = 0) := Lib.hid (by rw [HR.out, e0 (by omega), e1 (by omega), e2 (by omega)]; rfl)
   clear e0 e1 e2
   go_wp2_with fail
   go_ret
   exact ⟨by rw [HX.out]; rfl, rfl⟩
theorem cmpX (x y : Int) (w : World) : Calls Try.prog 39 #[.int .i64 x, .int .i64 y] w λ e w' => e = .returned (.int .i64 (Lib.compareInt x y)) ∧ GX w w' :=
 (cmp_any x y w).mono λ e w' h => ⟨h.1, h.2 ▸ GX.rf w⟩
theorem orX (x y z : Int) (b : Nat) (w : World) (h0 : w.cell? ⟨b, 0, none⟩ = some (.int .i64 x)) (h1 : w.cell? ⟨b, 1, none⟩ = some (.int .i64 y)) (h2 : w.cell? ⟨b, 2, none⟩ = some (.int .i64 z)) :
  Calls Try.prog 44 #[.slice (some ⟨b, 0, none⟩) 3 3] w λ e w' => e = .returned (.int .i64 (orI x (orI y z))) ∧ GX w w' :=
 (or_three x y z b w h0 h1 h2).mono λ e w' h => ⟨h.1, h.2 ▸ GX.rf w⟩
theorem lessS (x y : Sco) (w : World) :
  Calls Try.prog 43 #[.agg #[.int .i64 x.player, .int .i64 x.points, .int .i64 x.won], .agg #[.int .i64 y.player, .int .i64 y.points, .int .i64 y.won]] w (λ e w' => e = .returned (.int .i64 (cfS x y)) ∧ GX w w') := by
 refine calls_W (n := 22) Try.func43 rfl rfl rfl ?_
 refine sg <| bxG rfl rfl rfl rfl λ w_1 b_2 x_3 l_4 B_5 => ?_
 have := x_3.size
 have z_1 := GX.tr (GX.rf w) x_3
 have q_7 := B_5.lt
 refine bxG rfl rfl rfl rfl λ w_8 b_9 x_10 l_11 B_12 => ?_
 have := x_10.size
 have z_8 := GX.tr z_1 x_10
 have q_14 := B_12.lt
 refine va rfl <| nK <| sq <| ?_
 refine rdG [(1, 0), (3, 0), (4, 0), (6, 0), (8, 0), (9, 0), (11, 0), (13, 0), (14, 0), (15, 2), (16, 0)] [0, 1, 2, 3, 4, 5, 6, 7, 8, 9, 10, 11, 12, 13, 14, 15, 16, 17] (by kernel_rfl) (by kernel_rfl) ?_
 refine fwG rfl rfl (λ _ => fa eF10 rfl) rfl <| fqG rfl rfl (λ _ x => ld rfl ((B_12.later x.1).one eF7 rfl)) rfl <| fwG rfl rfl (λ _ => fa eF10 rfl) rfl <| ?_
 have B_5 := B_5.later x_10.1
 refine fqG rfl rfl (λ _ x => ld rfl ((B_5.later x.1).one eF7 rfl)) rfl <| fcG rfl rfl eF12 rfl (λ _ x => cmpX _ _ _) rfl <| fwG rfl rfl (λ _ => fa eF11 rfl) rfl <| fqG rfl rfl (λ _ x => ld rfl ((B_12.later x.1).one eF7 rfl)) rfl <| fwG rfl rfl (λ _ => fa eF11 rfl) rfl <| fqG rfl rfl (λ _ x => ld rfl ((B_5.later x.1).one eF7 rfl)) rfl <| fcG rfl rfl eF12 rfl (λ _ x => cmpX _ _ _) rfl <| fwG rfl rfl (λ _ => fa eF1 rfl) rfl <| fqG rfl rfl (λ _ x => ld rfl ((B_5.later x.1).one eF7 rfl)) rfl <| fwG rfl rfl (λ _ => fa eF1 rfl) rfl <| fqG rfl rfl (λ _ x => ld rfl ((B_12.later x.1).one eF7 rfl)) rfl <| fcG rfl rfl eF12 rfl (λ _ x => cmpX _ _ _) rfl <| fxG rfl rfl rfl λ w_15 x_16 Q hK => bsG (e := 3) (cs := [.int .i64 (Lib.compareInt y.points x.points), .int .i64 (Lib.compareInt y.won x.won), .int .i64 (Lib.compareInt x.player y.player)]) rfl (λ _ => by kernel_rfl) rfl λ w_17 b_18 x_19 l_20 B_21 => hK _ _ ⟨GX.tr x_16 x_19, ?_⟩
 have := x_16.size
 have z_15 := GX.tr z_8 x_16
 have := x_19.size
 have z_17 := GX.tr z_15 x_19
 have q_24 := B_21.lt
 refine fcG rfl rfl eF13 rfl (λ _ x => orX _ _ _ _ _ ((B_21.later x.1).cell 0) ((B_21.later x.1).cell 1) ((B_21.later x.1).cell 2)) rfl <| fwG rfl rfl (λ _ => as_ rfl) rfl <| fnG λ w_25 x_26 => ?_
 have := x_26.size
 have z_25 := GX.tr z_17 x_26
 refine nT <| rt <| tR (.tmp rfl .nil) <| ?_
 exact ⟨rfl, z_25⟩
theorem ltP (x y : Pr) : ltOf (λ x y : Pr => Lib.compareInt x.a y.a) x y = decide (x.a < y.a) := by
 unfold ltOf Lib.compareInt
 by_cases h1 : x.a < y.a
 ·simp [h1]
 ·by_cases h2 : y.a < x.a <;> simp [h1, h2]
theorem swoP : SWO (ltOf λ x y : Pr => Lib.compareInt x.a y.a) where
 irrefl x := by rw [ltP]; simp
 trans x y z h1 h2 := by rw [ltP] at *; simp at *; omega
 ntrans x y z h1 h2 := by rw [ltP] at *; simp at *; omega
theorem swoS : SWO (ltOf cfS) where
 irrefl x := (cf_lt x x).trans (bef_irrefl x)
 trans x y z h1 h2 := (cf_lt x z).trans (bef_trans x y z ((cf_lt x y).symm.trans h1) ((cf_lt y z).symm.trans h2))
 ntrans x y z h1 h2 := (cf_lt x z).trans (bef_ntrans x y z ((cf_lt x y).symm.trans h1) ((cf_lt y z).symm.trans h2))
theorem sortP_any {e B c : Nat} {A : Option Addr} {l : List Pr} (w : World) (h : Pr.rep.SOwn e 16 w B (Rep.blkOf A) A c l) (h0 : 0 < l.length) :
  Calls Try.prog 37 #[.slice A l.length c, .func (.func 38) #[] #[]] w (λ e' w' => ∃ l', e' = .returned (.tuple #[]) ∧ l'.Perm l ∧ Pr.rep.SOwn e 16 w' B (Rep.blkOf A) A c l' ∧ Mod (Rep.blkOf A) w w') := by
 obtain ⟨g, rfl⟩ := own_addr h h0
 obtain ⟨hH, hg, hn, hc⟩ := own_holdsK (by decide) h
 have eg : ∀ args w, (callFunc 38 args).run Try.prog w = .ok (.enter 38 args) w := enters_of Try.func38 (by kernel_rfl) rfl
 have hm : c ≤ 9223372036854775807 := hc
 have hb := h.1
 have hcon := AnyQ.slices_SortFunc Try.sortPr 2 Try.isAgg31 Try.sizeOf31 Pr.cells (λ _ => rfl) Pr.cells_one (λ x y : Pr => Lib.compareInt x.a y.a) swoP 38 #[] g 0 c l.toArray w eg (λ _ _ _ _ x y => lessP x y _) hH hg (by rw [List.size_toArray]; omega)
 rw [List.size_toArray] at hcon
 refine hcon.mono ?_
 rintro e' w' ⟨rfl, d', n, os, hp, hs, rfl⟩
 have hp' := perm_all hp
 exact ⟨d'.toList, rfl, hp', own_sortedK (ts := d'.toList) (by decide) h hp', mod_sortedK d'⟩
theorem sortS_any {e B c : Nat} {A : Option Addr} {l : List Sco} (w : World) (h : Sco.rep.SOwn e 24 w B (Rep.blkOf A) A c l) (h0 : 0 < l.length) :
  Calls Try.prog 42 #[.slice A l.length c, .func (.func 43) #[] #[]] w (λ e' w' => e' = .returned (.tuple #[]) ∧ Sco.rep.SOwn e 24 w' B (Rep.blkOf A) A c (tabS l) ∧ Mod (Rep.blkOf A) w w') := by
 obtain ⟨g, rfl⟩ := own_addr h h0
 obtain ⟨hH, hg, hn, hc⟩ := own_holdsK (by decide) h
 have eg : ∀ args w, (callFunc 43 args).run Try.prog w = .ok (.enter 43 args) w := enters_of Try.func43 (by kernel_rfl) rfl
 have hm : c ≤ 9223372036854775807 := hc
 have hb := h.1
 have hcon := AnyQ.slices_SortFunc Try.sortSc 3 Try.isAgg87 Try.sizeOf87 Sco.cells (λ _ => rfl) Sco.cells_one cfS swoS 43 #[] g 0 c l.toArray w eg (λ _ _ _ _ x y => (lessS x y _).mono λ e w' h => ⟨h.1, h.2.grown⟩) hH hg (by rw [List.size_toArray]; omega)
 rw [List.size_toArray] at hcon
 refine hcon.mono ?_
 rintro e' w' ⟨rfl, d', n, os, hp, hs, rfl⟩
 have hp' := perm_all hp
 have hd : d'.toList = tabS l := tabS_uniq hp' ((sorted_all (by simpa using hp'.length_eq) hs).imp fun {x y} h => (cf_lt y x).symm.trans h)
 refine ⟨rfl, ?_, mod_sortedK d'⟩
 have := own_sortedK (n := n) (os := os) (ts := d'.toList) (by decide) h hp'
 rw [hd] at this
 have e2 : d' = (tabS l).toArray := by rw [← hd]
 rw [e2]; exact this
end
section
open Go.RowKit
structure SV where
 a : Option Addr
 n : Nat
 c : Nat
instance : Inhabited SV := ⟨⟨none, 0, 0⟩⟩
def svRep : Rep SV := Rep.flat 1 (λ v => [.slice v.a v.n v.c]) (λ _ => True) (λ _ u => ∃ a n c, u = .slice a n c) (λ _ => rfl) (by intro a u hu; simp at hu; subst hu; rfl) (by
 intro a j u hu
 cases j with
 | zero => simp at hu; exact ⟨_, _, _, hu.symm⟩
 | succ j => simp at hu)
theorem hcV {w : World} {cs : List Value} {a : SV} (h : svRep.has w cs a) : cs = [.slice a.a a.n a.c] := And.left (show cs = [.slice a.a a.n a.c] ∧ True from h)
theorem raw0V : ∀ (j : Nat) u, (Value.slice none 0 0).cells[j]? = some u → svRep.raw j u := by
 intro j u hu
 have hu : (#[(.slice none 0 0 : Value)] : Array Value)[j]? = some u := hu
 match j, hu with
 | 0, hu => exact ⟨_, _, _, (Option.some.inj hu).symm⟩
 | j + 1, hu => simp at hu
end
section
open Go.RowKit Go.Proofs.Ytifffjhhammeiaa.Mt
theorem rE {P : Program} {E : List (Nat × Value)} {o : Oper} {w w' : World} {v v' : Value} (he : v = v') (h : Runs P E o w v w') : Runs P E o w v' w' := he ▸ h
theorem modE {x : Int} {a M : Nat} (h : x = a) : x % (M : Int) = ((a % M : Nat) : Int) := by rw [h, Int.natCast_emod]
def PT (w : World) (Z ba X : Nat) (T : List SV) (L : List (List Pr)) : Prop := X ≤ w.heap.size ∧ L.length ≤ T.length ∧ ∀ (j : Nat) (l : List Pr), L[j]? = some l → ∃ A k, T[j]? = some ⟨A, l.length, k⟩ ∧ Pr.rep.SOwn 31 16 w Z (Rep.blkOf A) A k l ∧ ∀ q ∈ Rep.blkOf A, q ≠ ba ∧ q < X
section
variable {w w' : World} {Z ba X X' : Nat} {T T' : List SV} {L : List (List Pr)} {S : List Nat} {l : List Pr} {A : Option Addr} {k : Nat}
theorem PT.le (h : PT w Z ba X T L) : X ≤ w.heap.size := h.1
theorem PT.later (h : PT w Z ba X T L) (x : Ext w w') : PT w' Z ba X T L :=
 ⟨Nat.le_trans h.1 x.size, h.2.1, λ j l hj => by obtain ⟨A, k, h1, h2, h3⟩ := h.2.2 j l hj; exact ⟨A, k, h1, h2.later x, h3⟩⟩
theorem PT.mod (h : PT w Z ba X T L) (m : Mod S w w') (hS : ∀ q ∈ S, q = ba ∨ X ≤ q) : PT w' Z ba X T L :=
 ⟨Nat.le_trans h.1 m.size, h.2.1, λ j l hj => by
  obtain ⟨A, k, h1, h2, h3⟩ := h.2.2 j l hj
  exact ⟨A, k, h1, h2.mod m (λ q hq hs => by have := h3 q hq; have := hS q hs; omega), h3⟩⟩
theorem PT.nil (w : World) (Z ba : Nat) (T : List SV) (h : X ≤ w.heap.size) : PT w Z ba X T [] := ⟨h, Nat.zero_le _, λ j l hj => by simp at hj⟩
theorem PT.snoc (h : PT w Z ba X T L) (hT : ∀ j, j ≠ L.length → T'[j]? = T[j]?) (hr : T'[L.length]? = some ⟨A, l.length, k⟩) (hl : Pr.rep.SOwn 31 16 w Z (Rep.blkOf A) A k l) (ha : ∀ q ∈ Rep.blkOf A, q ≠ ba ∧ q < X') (hX : X ≤ X') (hX' : X' ≤ w.heap.size) : PT w Z ba X' T' (L ++ [l]) := by
 refine ⟨hX', ?_, λ j l' hj => ?_⟩
 ·have := (List.getElem?_eq_some_iff.1 hr).1
  rw [List.length_append, List.length_singleton]; exact this
 ·by_cases e : j < L.length
  ·rw [List.getElem?_append_left e] at hj
   obtain ⟨A', k', h1, h2, h3⟩ := h.2.2 j l' hj
   exact ⟨A', k', by rw [hT j (by omega)]; exact h1, h2, λ q hq => ⟨(h3 q hq).1, by have := (h3 q hq).2; omega⟩⟩
  ·rw [List.getElem?_append_right (by omega)] at hj
   cases hd : j - L.length with
   | zero =>
    rw [hd] at hj
    obtain rfl := Option.some.inj hj
    obtain rfl : j = L.length := by omega
    exact ⟨A, k, hr, hl, ha⟩
   | succ n => rw [hd] at hj; cases hj
end
def SzG (Y : Nat) (w : World) : Prop := Y ≤ w.heap.size
theorem SzG.later {Y : Nat} {w w' : World} (h : SzG Y w) (x : Ext w w') : SzG Y w' := Nat.le_trans h x.size
theorem SzG.mod {Y : Nat} {w w' : World} {S : List Nat} (h : SzG Y w) (m : Mod S w w') (_ : True) : SzG Y w' := Nat.le_trans h m.size
theorem app_len_ {n : Nat} {p : Nat × Nat} {l : List Pr} : (app n p l).length = l.length + if p.2 < n then 1 else 0 := by unfold app; split <;> simp
theorem rnd_count {n M r : Nat} (hM : M + 1 = n + n % 2) (h2 : 2 ≤ n) (hr : r < M) : ∀ k, 0 < k → 2 * k ≤ M + 1 → (rndK n M r k).length = k - n % 2
 | 0, h, _ => absurd h (by omega)
 | k + 1, _, hk => by
  rw [rndK, app_len_]
  have h1 := meet_lt (M := M) (r := r) (k := k) hr (by omega)
  by_cases h0 : k = 0
  ·subst h0
   rcases meet_cases (M := M) (r := r) (k := 0) hr (by omega) with ⟨_, e⟩ | ⟨h, _⟩
   ·rw [e]; simp only [rndK, List.length_nil]; split <;> omega
   ·omega
  ·rw [rnd_count hM h2 hr k (by omega) (by omega), if_pos (by omega)]; omega
theorem rnd_full {n M r K : Nat} (hM : M + 1 = n + n % 2) (hK : 2 * K = M + 1) (h2 : 2 ≤ n) (hr : r < M) : (rndK n M r K).length = n / 2 := by
 rw [rnd_count hM h2 hr K (by omega) (by omega)]; omega
def RdR (n : Int) (e : Int) (T : List SV) (L : List (List Pr)) : Prop :=
 (e = 0 ∧ 2 ≤ n ∧ n ≤ 64 ∧ T.length = L.length ∧ ∃ N M K : Nat, n = N ∧ M + 1 = N + N % 2 ∧ 2 * K = M + 1 ∧ L.length = M ∧ ∀ (j : Nat) (l : List Pr), L[j]? = some l → l.Perm (rndK N M j K)) ∨ (e = 1 ∧ (n < 2 ∨ 64 < n) ∧ T = [] ∧ L = [])
end
section
open Go.RowKit
section
variable {F : List Nat} {P : Program} {ops : Array Oper} {Q : Exit → Act → World → Prop} {kd : Nat → Nat}
def QInW (F : List Nat) (P : Program) (ops : Array Oper) (w0 : World) (o : Oper) (v : Value) (a : Act) : Prop :=
  (Region.wanted o (yielded ops a.tmps) = true ∧ ∀ w, Mod F w0 w → qUpon P w v ((execOp a.eval o).run P w)) ∨
  (Region.wanted o (yielded ops a.tmps) = false ∧ v = undef)
theorem QInW.of_same {w0 : World} {o : Oper} {v : Value} {a a' : Act} (h : QInW F P ops w0 o v a) (he : execOp a'.eval o = execOp a.eval o) (hw : Region.wanted o (yielded ops a'.tmps) = Region.wanted o (yielded ops a.tmps)) : QInW F P ops w0 o v a' := by
  unfold QInW at *; rw [he, hw]; exact h
theorem QInW.on {w0 w1 : World} {o : Oper} {v : Value} {a : Act} (h : QInW F P ops w0 o v a) (hx : Mod F w0 w1) : QInW F P ops w1 o v a :=
  h.imp (λ ⟨h1, h2⟩ => ⟨h1, λ w hw => h2 w (hx.trans hw)⟩) id
theorem Yields.qinW {w0 : World} {o : Oper} {v : Value} {a : Act} (h : Yields P ops o v a) : QInW F P ops w0 o v a :=
  h.imp (λ ⟨h1, h2⟩ => ⟨h1, λ w _ => by rw [h2 w]; exact ⟨rfl, rfl⟩⟩) id
def stepFW (F : List Nat) (P : Program) (ops : Array Oper) (Q : Exit → Act → World → Prop) (kd : Nat → Nat) (i : Nat) (K : Act → World → Prop) (a : Act) (w0 : World) : Prop :=
  ∃ o, ops[i]? = some o ∧
    ((kd i ≤ 1 ∧ ∃ v, QInW F P ops w0 o v a ∧ K (a.put o.dst v) w0) ∨
     (1 < kd i ∧ ∀ w, Ext w0 w → wpOp P ops Q i (λ a' w' => (kd i = 2 → Mod F w0 w') ∧ K a' w') a w))
def anyFW (F : List Nat) (P : Program) (ops : Array Oper) (Q : Exit → Act → World → Prop) (kd : Nat → Nat) : Nat → Array Bool → Act → World → Prop
  | 0, l, a, w0 => Region.ready .any ops l = [] ∧ ∀ w, Ext w0 w → Q .normal a w
  | f + 1, l, a, w0 => (Region.ready .any ops l = [] → ∀ w, Ext w0 w → Q .normal a w) ∧ ∀ i ∈ Region.ready .any ops l, stepFW F P ops Q kd i (anyFW F P ops Q kd f (l.setIfInBounds i true)) a w0
theorem any_of_FW : ∀ (f : Nat) (l : Array Bool) (a : Act) (w0 : World), anyFW F P ops Q kd f l a w0 → ∀ w, Ext w0 w → wpAny P .any ops Q f l a w
  | 0, _, _, _, h, w, hw => ⟨h.1, h.2 w hw⟩
  | f + 1, l, a, w0, h, w, hw => ⟨λ h0 => h.1 h0 w hw, λ i hi => by
      obtain ⟨o, ho, h2⟩ := h.2 i hi
      rcases h2 with ⟨_, v, hq, hk⟩ | ⟨_, h2⟩
      · unfold wpOp
        simp only [ho]
        rcases hq with ⟨hw1, hq⟩ | ⟨hw1, rfl⟩
        · rw [if_pos hw1]
          refine .inl ?_
          have hq := hq w (Mod.of_ext hw)
          unfold Oper.wp
          generalize (execOp a.eval o).run P w = r at *
          cases r with
          | ok n w' =>
            cases n <;> simp only [qUpon] at hq <;> simp only [Oper.upon]
            case value u => obtain ⟨rfl, rfl⟩ := hq; exact any_of_FW f _ _ _ hk _ hw
            case skip => obtain ⟨rfl, rfl⟩ := hq; exact any_of_FW f _ _ _ hk _ hw
            case enter f' args => obtain ⟨rfl, hc⟩ := hq; exact hc.mono λ e w'' ⟨he, hx⟩ => by subst he; exact any_of_FW f _ _ _ hk _ (hw.tr hx)
          | halt x w' => simp only [qUpon] at hq
        · rw [if_neg (by rw [hw1]; decide)]
          exact any_of_FW f _ _ _ hk _ hw
      · exact wpOp_mono (λ a' w' h3 => any_of_FW f _ _ _ h3.2 _ (Ext.rf w')) (h2 w hw)⟩
theorem firstFW {i : Nat} {oi : Oper} {v : Value} (hi : ops[i]? = some oi) (hk : kd i ≤ 1) (hsel : ∀ (j : Nat) (o : Oper) cs b, ops[j]? = some o → o.op ≠ .select cs b)
    (hQ : ∀ c a w, ¬ Q (.panic c) a w) (Z : World → Act → Prop) (z1 : ∀ w0 a, Z w0 a → QInW F P ops w0 oi v a)
    (z2 : ∀ w0 a a', Z w0 a → execOp a'.eval oi = execOp a.eval oi → Region.wanted oi (yielded ops a'.tmps) = Region.wanted oi (yielded ops a.tmps) → Z w0 a')
    (z3 : ∀ w0 w1 a, Mod F w0 w1 → Z w0 a → Z w1 a) (R : Nat → Bool) (l0 : Array Bool)
    (hR : ∀ j oj, ops[j]? = some oj → j ≠ i → (∀ e ∈ oj.after, Region.binds .any e = true → R e.on = true) → R j = true)
    (hB : (∀ w0 w1 a, Z w0 a → Z w1 a) ∨ ∀ j, R j = true → 3 ≤ kd j → l0.getD j true = true) :
    ∀ (f : Nat) (l : Array Bool) (a : Act) (w0 : World), (∀ j, l.getD j false = true → R j = true) → (∀ j, l0.getD j true = true → l.getD j true = true) →
      (∀ j oj, ops[j]? = some oj → j ≠ i → l.getD j true = false → (∀ e ∈ oj.after, Region.binds .any e = true → e.on ≠ i) → oi.apart ops oj = true) →
      i ∈ Region.ready .any ops l → Z w0 a → anyFW F P ops Q kd f (l.setIfInBounds i true) (a.put oi.dst v) w0 → anyFW F P ops Q kd (f + 1) l a w0 := by
  intro f
  induction f with
  | zero =>
    intro l a w0 _ _ _ hr hz H
    refine ⟨λ h => (by rw [h] at hr; cases hr), λ j hj => ?_⟩
    by_cases hji : j = i
    · subst hji; exact ⟨oi, hi, .inl ⟨hk, v, z1 _ _ hz, H⟩⟩
    · have := ready_mono hj hji
      rw [H.1] at this
      cases this
  | succ f ih =>
    intro l a w0 hlR hl0 hfree hr hz H
    refine ⟨λ h => (by rw [h] at hr; cases hr), λ j hj => ?_⟩
    by_cases hji : j = i
    · subst hji; exact ⟨oi, hi, .inl ⟨hk, v, z1 _ _ hz, H⟩⟩
    · obtain ⟨oj, hoj, h1⟩ := H.2 j (ready_mono hj hji)
      obtain ⟨hjun, oj', hoj', hall⟩ := mem_ready.1 hj
      obtain rfl : oj' = oj := by rw [hoj] at hoj'; exact (Option.some.inj hoj').symm
      have hnot : ∀ e ∈ oj'.after, Region.binds .any e = true → e.on ≠ i := λ e he hb heq => by
        have h1 := hall e he hb
        have h0 := (mem_ready.1 hr).1
        rw [heq] at h1
        rcases Nat.lt_or_ge i l.size with h' | h'
        · simp [h'] at h0 h1; rw [h0] at h1; cases h1
        · simp [Array.getElem?_eq_none h'] at h1
      have hap := hfree j oj' hoj hji hjun hnot
      obtain ⟨a1, a2, a3⟩ := Oper.apart_spec hap
      have hsi : ∀ cs b, oi.op ≠ .select cs b := λ cs b => hsel i oi cs b hi
      have hsj : ∀ cs b, oj'.op ≠ .select cs b := λ cs b => hsel j oj' cs b hoj
      have keep : ∀ w1 a u, Z w1 a → Z w1 (a.put oj'.dst u) := λ w1 a u hz => z2 _ _ _ hz (execOp_put oi hsi a oj'.dst u a3) (wanted_put oi a oj'.dst u a3)
      have hRj : R j = true := hR j oj' hoj hji λ e he hb => hlR _ (hall e he hb)
      have hlR' : ∀ k, (l.setIfInBounds j true).getD k false = true → R k = true := λ k hk => by
        by_cases hjk : j = k
        · rw [← hjk]; exact hRj
        · rw [getD_set_ne false hjk] at hk; exact hlR k hk
      have hl0' : ∀ k, l0.getD k true = true → (l.setIfInBounds j true).getD k true = true := λ k hk => by
        by_cases hjk : j = k
        · subst hjk
          rcases Nat.lt_or_ge j l.size with h' | h'
          · simp [h']
          · simp [Array.getElem?_eq_none h']
        · rw [getD_set_ne true hjk]; exact hl0 k hk
      have hfree' : ∀ k ok, ops[k]? = some ok → k ≠ i → (l.setIfInBounds j true).getD k true = false →
          (∀ e ∈ ok.after, Region.binds .any e = true → e.on ≠ i) → oi.apart ops ok = true := λ k ok hk hki hun hno => by
        refine hfree k ok hk hki ?_ hno
        by_cases hjk : j = k
        · subst hjk; exact hjun
        · rw [getD_set_ne true hjk] at hun; exact hun
      have hri := ready_mono hr (Ne.symm hji)
      rcases h1 with ⟨hkj, u, hq, hK⟩ | ⟨hkj, h1⟩
      · refine ⟨oj', hoj, .inl ⟨hkj, u, hq.of_same (execOp_put oj' hsj a oi.dst v a1).symm (wanted_put oj' a oi.dst v a1).symm, ?_⟩⟩
        refine ih _ _ _ hlR' hl0' hfree' hri (keep _ _ _ hz) ?_
        rw [Array.setIfInBounds_comm _ _ hji, ← Act.put_comm a v u a2]
        exact hK
      · refine ⟨oj', hoj, .inr ⟨hkj, λ w hw => ?_⟩⟩
        refine wpOp_mono (λ a' w' h3 => ⟨h3.2.1, ?_⟩) (wpOp_putZ (Z := Z w0) hoj a1 a2 hsj hQ (keep w0) (λ a d hz => z2 _ _ _ hz rfl rfl) hz (h1 w hw))
        have hzw : Z w' a' := by
          rcases Nat.lt_or_ge (kd j) 3 with hlt | hge
          · exact z3 _ _ _ (h3.2.1 (by omega)) h3.1
          · rcases hB with hB | hB
            · exact hB _ _ _ h3.1
            · have := hl0 j (hB j hRj hge); rw [hjun] at this; cases this
        refine ih _ _ _ hlR' hl0' hfree' hri hzw ?_
        rw [Array.setIfInBounds_comm _ _ hji]
        exact h3.2.2
def wpFlowW (F : List Nat) (P : Program) (ops : Array Oper) (Q : Exit → Act → World → Prop) (kd : Nat → Nat) : List Nat → Act → World → Prop
  | [], a, w0 => ∀ w, Ext w0 w → Q .normal a w
  | i :: r, a, w0 => ∃ o, ops[i]? = some o ∧
      ((kd i = 0 ∧ ∃ v, QInW F P ops w0 o v a ∧ wpFlowW F P ops Q kd r (a.put o.dst v) w0) ∨
       (kd i = 1 ∧ ∃ v, Yields P ops o v a ∧ wpFlowW F P ops Q kd r (a.put o.dst v) w0) ∨
       (1 < kd i ∧ ∀ w, Ext w0 w → wpOp P ops Q i (λ a' w' => (kd i = 2 → Mod F w0 w') ∧ wpFlowW F P ops Q kd r a' w') a w))
theorem any_of_flowW (hs : Region.noSelect ops = true) (hQ : ∀ c a w, ¬ Q (.panic c) a w) : ∀ (r : List Nat) (l : Array Bool) (a : Act) (w0 : World), l.size = ops.size → flowB ops kd r l = true → wpFlowW F P ops Q kd r a w0 → anyFW F P ops Q kd r.length l a w0
  | [], l, a, w0, _, hB, h => ⟨by simpa [flowB] using hB, h⟩
  | i :: r, l, a, w0, hl, hB, h => by
    obtain ⟨o, ho, h⟩ := h
    have hsel := Region.noSelect_spec hs
    rcases h with ⟨hk, v, hq, hK⟩ | ⟨hk, v, hq, hK⟩ | ⟨hk, h⟩
    · simp only [flowB, hk, Bool.and_eq_true] at hB
      obtain ⟨⟨⟨hf, hr⟩, hb⟩, hB⟩ := hB
      obtain ⟨R, r1, r2, r3⟩ := barOk_spec hl hb
      exact firstFW ho (by omega) hsel hQ (λ w0 a => QInW F P ops w0 o v a) (λ _ _ h => h) (λ _ _ _ h he hw => h.of_same he hw) (λ _ _ _ hx h => h.on hx) R l r1 (.inr r3) _ _ _ _ r2 (λ _ h => h) (Region.free_spec ho hf) (by simpa using hr) hq
        (any_of_flowW hs hQ r _ _ _ (by simpa using hl) hB hK)
    · simp only [flowB, hk, Bool.and_eq_true] at hB
      obtain ⟨⟨hf, hr⟩, hB⟩ := hB
      exact firstFW ho (by omega) hsel hQ (λ _ a => Yields P ops o v a) (λ _ _ h => Yields.qinW h) (λ _ _ _ h he hw => h.of_same he hw) (λ _ _ _ _ h => h) (λ _ => true) l (λ _ _ _ _ _ => rfl) (.inl λ _ _ _ h => h) _ _ _ _ (λ _ _ => rfl) (λ _ h => h) (Region.free_spec ho hf) (by simpa using hr) hq
        (any_of_flowW hs hQ r _ _ _ (by simpa using hl) hB hK)
    · obtain ⟨k, hk2⟩ : ∃ k, kd i = k + 2 := ⟨kd i - 2, by omega⟩
      simp only [flowB, hk2, Bool.and_eq_true, beq_iff_eq] at hB
      obtain ⟨hr, hB⟩ := hB
      refine ⟨λ h0 => (by rw [hr] at h0; cases h0), λ j hj => ?_⟩
      rw [hr] at hj
      obtain rfl : j = i := by simpa using hj
      exact ⟨o, ho, .inr ⟨hk, λ w hw => wpOp_mono (λ a' w' h3 => ⟨h3.1, any_of_flowW hs hQ r _ _ _ (by simpa using hl) hB h3.2⟩) (h w hw)⟩⟩
theorem region_flowW {id : Nat} {a : Act} {w : World} (τ : List Nat) (hm : P.follows .mixedOrders = true) (hB : (Region.noSelect ops && (τ.length == ops.size) && flowB ops kd τ (Array.replicate ops.size false)) = true)
    (h : wpFlowW F P ops (nrm (Q .normal)) kd τ a w) : (Code.region id ops true).wp P Q a w := by
  simp only [Bool.and_eq_true, beq_iff_eq] at hB
  obtain ⟨⟨hs, hl⟩, hB⟩ := hB
  refine wp_mono (wp_region_any hm (Q := nrm (Q .normal)) ?_) (λ e a w hq => by cases e <;> first | exact hq | exact hq.elim)
  have := any_of_flowW (P := P) hs (Q := nrm (Q .normal)) (λ _ _ _ h => h) τ (Array.replicate ops.size false) a w (by simp) hB h
  rw [hl] at this
  exact any_of_FW _ _ _ _ this _ (Below.refl _ w).drew
end
section
variable {F : List Nat} {P : Program} {n : Nat} {E E' : List (Nat × Value)} {a : Act} {w w' w0 w1 : World} {Q : Exit → Act → World → Prop} {ops : Array Oper} {v : Value} {kd : Nat → Nat}
variable {d : Option Nat} {ty : TypeId} {pos : String} {af : Array Edge} {g : Option (Nat × Bool)} {x y z : Operand} {t : TypeId} {rest : List Oper} {τ : List Nat} {i : Nat}
def FLW (F : List Nat) (P : Program) (n : Nat) (ops : Array Oper) (Q : Exit → Act → World → Prop) (kd : Nat → Nat) (τ : List Nat) (E : List (Nat × Value)) (w0 : World) : Prop := ∀ a, Agr n E a → wpFlowW F P ops (nrm (Q .normal)) kd τ a w0
theorem rdW {id : Nat} (F : List Nat) (ks : List (Nat × Nat)) (τ : List Nat) (hm : P.follows .mixedOrders = true) (hB : (Region.noSelect ops && (τ.length == ops.size) && flowB ops (kds ks) τ (Array.replicate ops.size false)) = true)
    (h : FLW F P n ops Q (kds ks) τ E w) : W P n (.region id ops true) Q E w := λ a ha => region_flowW τ hm hB (h a ha)
theorem fnW (h : ∀ w, Ext w0 w → N n Q E w) : FLW F P n ops Q kd [] E w0 := λ a ha w hw => h w hw a ha
theorem fqW {d : Nat} {op : Op} (hi : ops[i]? = some ⟨some d, op, ty, pos, af, none⟩) (hk : kd i = 0) (hr : ∀ w, Mod F w0 w → Runs P E ⟨some d, op, ty, pos, af, none⟩ w v w) (hd : Nat.blt d n = true)
    (h : FLW F P n ops Q kd τ ((d, v) :: E) w0) : FLW F P n ops Q kd (i :: τ) E w0 := λ a ha =>
  ⟨_, hi, .inl ⟨hk, v, .inl ⟨wanted_none rfl, λ w hw => by rw [hr w hw n a ha]; exact ⟨rfl, rfl⟩⟩, h _ (ha.put hd v)⟩⟩
theorem fwW {d : Nat} {op : Op} (hi : ops[i]? = some ⟨some d, op, ty, pos, af, none⟩) (hk : kd i = 1) (hr : ∀ w, Runs P E ⟨some d, op, ty, pos, af, none⟩ w v w) (hd : Nat.blt d n = true)
    (h : FLW F P n ops Q kd τ ((d, v) :: E) w0) : FLW F P n ops Q kd (i :: τ) E w0 := λ a ha =>
  ⟨_, hi, .inr (.inl ⟨hk, v, .inl ⟨wanted_none rfl, λ w => hr w n a ha⟩, h _ (ha.put hd v)⟩)⟩
theorem fxW {o : Oper} (hg : o.guard = none) (hi : ops[i]? = some o) (hk : kd i = 2) (h : ∀ w, Ext w0 w → Stp P n ops o E w λ E' w' => Mod F w0 w' ∧ FLW F P n ops Q kd τ E' w') : FLW F P n ops Q kd (i :: τ) E w0 := λ a ha =>
  ⟨_, hi, .inr (.inr ⟨by omega, λ w hw => stp_op hg hi (h w hw) (λ E' w' a' hk ha' => ⟨λ _ => hk.1, hk.2 a' ha'⟩) ha⟩)⟩
theorem fbW {o : Oper} (hg : o.guard = none) (hi : ops[i]? = some o) (hk : kd i = 3) (h : ∀ w, Ext w0 w → Stp P n ops o E w λ E' w' => FLW F P n ops Q kd τ E' w') : FLW F P n ops Q kd (i :: τ) E w0 := λ a ha =>
  ⟨_, hi, .inr (.inr ⟨by omega, λ w hw => stp_op hg hi (h w hw) (λ E' w' a' hk ha' => ⟨λ h2 => by omega, hk a' ha'⟩) ha⟩)⟩
end
end
section
open Go.RowKit
def fen (ro : Option Nat) : Fence := { Fence.wide with round := ro }
section
variable {P : Program} {ro : Option Nat} {m : Nat} {ops : Array Oper} {Q : Exit → Act → World → Prop} {w : World}
theorem calls_fen {f : FuncId} {args : Array Value} {R : Ending → World → Prop} (h : Calls P f args w R) : CallsIn (fen ro) m P f args w R := (callsIn_wide (n := m)).2 h
theorem rows_fen {row : String} {args : Array Value} {R : Value → World → Prop} (h : Rows P row args w R) : RowsIn (fen ro) m P row args w R := λ c cs _ =>
 let ⟨v, w', r, s⟩ := h c cs; ⟨v, w', r, stepsIn_wide.2 s⟩
def noDefer (o : Oper) : Bool := match o.op with
 | .defer _ => false
 | _ => true
theorem op_in {o : Oper} {a : Act} {K : Act → World → Prop} (hd : noDefer o = true) (h : o.wp P a w K Q) : o.wpIn (fen ro) m P a w K Q := by
 refine ⟨λ _ _ => trivial, ?_⟩
 have hs : o.semAt (fen ro).round a.eval = execOp a.eval o := Oper.semAt_eq _ _ _ (λ c e => by simp [noDefer, e] at hd)
 rw [hs]
 unfold Oper.wp at h
 generalize (execOp a.eval o).run P w = r at *
 cases r with
 | ok x w' =>
  cases x <;> simp only [Oper.upon] at h <;> simp only [Oper.uponIn] <;>
   first
    | exact h
    | exact h.elim
    | exact ⟨λ h => by simp [fen, Fence.wide] at h, calls_fen h⟩
    | exact ⟨λ h => by simp [fen, Fence.wide] at h, rows_fen h⟩
 | halt x w' => cases x <;> simp only [Oper.upon] at h <;> simp only [Oper.uponIn] <;> first | exact h | exact h.elim
theorem list_in : ∀ (l : List Oper) {a : Act} {w : World}, l.all noDefer = true → wpList P ops Q l a w → (∀ c a w, ¬ Q (.panic c) a w) → ¬ LetsOut Q → wpListIn (fen ro) m P ops Q l a w
 | [], a, w, _, h, _, _ => by unfold wpList at h; unfold wpListIn; exact h
 | o :: rest, a, w, hd, h, hp, ho => by
  rw [List.all_cons, Bool.and_eq_true] at hd
  unfold wpList at h
  unfold wpListIn
  split at h
  ·rename_i hw
   rw [if_pos hw]
   rcases h with h | ⟨h, x⟩
   ·exact Oper.wpIn_mono (λ a w h => list_in rest hd.2 h hp ho) (op_in hd.1 h)
   ·exact (ho x).elim
  ·rename_i hw
   rw [if_neg hw]
   exact ⟨λ _ _ => trivial, list_in rest hd.2 h hp ho⟩
theorem wop_in {i : Nat} {K : Act → World → Prop} {a : Act} {w : World} (hd : ops.toList.all noDefer = true) (ho : ¬ LetsOut Q) (h : wpOp P ops Q i K a w) : wpOpIn (fen ro) m P ops Q i K a w := by
 unfold wpOp at h
 unfold wpOpIn
 split at h
 ·rename_i hi; simp only [hi]; exact h
 ·rename_i o hi
  simp only [hi]
  have hdo : noDefer o = true := List.all_eq_true.1 hd o (by rw [Array.mem_toList_iff]; exact Array.mem_of_getElem? hi)
  split at h
  ·rename_i hw
   rw [if_pos hw]
   rcases h with h | ⟨h, x⟩
   ·exact op_in hdo h
   ·exact (ho x).elim
  ·rename_i hw
   rw [if_neg hw]
   exact ⟨λ _ _ => trivial, h⟩
theorem any_in (hd : ops.toList.all noDefer = true) (ho : ¬ LetsOut Q) : ∀ (f : Nat) (l : Array Bool) {a : Act} {w : World}, wpAny P .any ops Q f l a w → wpAnyIn (fen ro) m P .any ops Q f l a w
 | 0, l, a, w, h => h
 | f + 1, l, a, w, h => ⟨h.1, λ i hi => wpOpIn_mono (λ a w h => any_in hd ho f _ h) (wop_in hd ho (h.2 i hi))⟩
end
theorem nrm_np {K : Act → World → Prop} : ∀ c a w, ¬ nrm K (.panic c) a w := λ _ _ _ h => h
theorem nrm_no {K : Act → World → Prop} : ¬ LetsOut (nrm K) := λ ⟨_, _, h⟩ => h
theorem nrm_mono {K : Exit → Act → World → Prop} : ∀ e a w, nrm (K .normal) e a w → K e a w := λ e a w h => by cases e <;> first | exact h | exact h.elim
namespace Rd
section
variable {P : Program} {ro : Option Nat} {m n : Nat} {ops : Array Oper} {Q : Exit → Act → World → Prop} {w w0 : World} {E E' : List (Nat × Value)} {id id' : Nat} {c : Operand} {x y : Code} {i j : Int} {τ : List Nat} {v : Value}
def W (ro : Option Nat) (m : Nat) (P : Program) (n : Nat) (c : Code) (Q : Exit → Act → World → Prop) (E : List (Nat × Value)) (w : World) : Prop := ∀ a, Agr n E a → c.wpIn (fen ro) m P Q a w
abbrev M (n : Nat) (Q : Exit → Act → World → Prop) (E : List (Nat × Value)) (w : World) : Prop := N n (nrm (Q .normal)) E w
abbrev Th (ro : Option Nat) (m : Nat) (P : Program) (y : Code) (Q : Exit → Act → World → Prop) : Exit → Act → World → Prop := Exit.then (λ a w => y.wpIn (fen ro) m P Q a w) Q
theorem sq (h : W ro m P n x (Th ro m P y Q) E w) : W ro m P n (.seq x y) Q E w := λ a ha => wpIn_seq (h a ha)
theorem sk (h : M n Q E w) : W ro m P n .skip Q E w := λ a ha => wpIn_skip (h a ha)
theorem rt (h : T n Q E w) : W ro m P n .ret Q E w := λ a ha => wpIn_ret (h a ha)
theorem xt (h : X n Q id E w) : W ro m P n (.exit id) Q E w := λ a ha => wpIn_exit (h a ha)
theorem bk (h : W ro m P n x (Exit.inBlock id Q) E w) : W ro m P n (.block id x) Q E w := λ a ha => wpIn_block (h a ha)
theorem rg {l : List Oper} (h : WL P n l.toArray (nrm (Q .normal)) l E w) (hd : l.all noDefer = true := by kernel_rfl) : W ro m P n (.region id l.toArray false) Q E w := λ a ha => Go.wpIn_mono (wpIn_region_lit (list_in l hd (h a ha) nrm_np nrm_no)) nrm_mono
theorem cT (hc : ev E c = some (.bool true)) (h : W ro m P n x Q E w) : W ro m P n (.cond c x y) Q E w := λ a ha => wpIn_cond_true (ha.ev hc) (h a ha)
theorem cF (hc : ev E c = some (.bool false)) (h : W ro m P n y Q E w) : W ro m P n (.cond c x y) Q E w := λ a ha => wpIn_cond_false (ha.ev hc) (h a ha)
theorem cb {b : Bool} (hc : ev E c = some (.bool b)) (h1 : b = true → W ro m P n x Q E w) (h2 : b = false → W ro m P n y Q E w) : W ro m P n (.cond c x y) Q E w :=
 λ a ha => wpIn_cond_split (ha.ev hc) (λ h => h1 h a ha) (λ h => h2 h a ha)
theorem clt (hc : ev E c = some (.bool (decide (i < j)))) (h1 : i < j → W ro m P n x Q E w) (h2 : ¬ i < j → W ro m P n y Q E w) : W ro m P n (.cond c x y) Q E w := cb hc (λ h => h1 (of_decide_eq_true h)) (λ h => h2 (of_decide_eq_false h))
theorem cne (hc : ev E c = some (.bool (i != j))) (h1 : ¬ i = j → W ro m P n x Q E w) (h2 : i = j → W ro m P n y Q E w) : W ro m P n (.cond c x y) Q E w := cb hc (λ h => h1 (by simpa using h)) (λ h => h2 (by simpa using h))
theorem nT (h : W ro m P n y Q E w) : M n (Th ro m P y Q) E w := h
theorem ne {fn : Func} {R : Ending → World → Prop} (h : T n (bodyPost P fn R) E w) : M n (bodyPost P fn R) E w := λ a ha => h a ha
theorem nB (h : M n Q E w) : M n (Exit.inBlock id Q) E w := h
theorem xT (h : X n Q id E w) : X n (Th ro m P y Q) id E w := h
theorem xB (h : M n Q E w) : X n (Exit.inBlock id Q) id E w := λ a ha => by simp only [Exit.inBlock, if_true]; exact h a ha
theorem tT (h : T n Q E w) : T n (Th ro m P y Q) E w := h
theorem lp {c : Code} (I : Nat → List (Nat × Value) → World → Prop) (k : Nat) (E' : List (Nat × Value)) (h0 : I k E' w) (hs : Sub E' E)
  (round : ∀ k E w, I k E w → W ro m P n c (Exit.then (LI n I k) Q) E w) : W ro m P n (.loop c) Q E w := λ a ha => by
 intro b kk cs hro hb hr
 have key : ∀ k a w, (∃ E, I k E w ∧ Agr n E a) → ∃ e a' w', Q e a' w' ∧ ArrivesIn (Machine.fenced P (fen ro)) P (lone (b.atR a (.code c :: .inLoop c :: kk)) cs w) b kk cs e a' w' := by
  intro k
  induction k using Nat.strongRecOn with
  | _ k ih =>
   intro a w ⟨E, hI, ha⟩
   obtain ⟨e, a1, w1, hq, harr⟩ := round k E w hI a ha b (.inLoop c :: kk) cs hro hb hr
   cases e with
   | normal =>
    obtain ⟨m', hlt, hI1⟩ := hq
    obtain ⟨e2, a2, w2, hq2, harr2⟩ := ih m' hlt a1 w1 hI1
    exact ⟨e2, a2, w2, hq2, .of_steps (StepsIn.trans harr (.one (fenced_calm hb hr rfl) stepR_inLoop)) harr2⟩
   | exit id => exact ⟨_, a1, w1, hq, .pass (x := .inLoop c) rfl (λ _ _ => .inl (by simp)) harr⟩
   | goto l => exact ⟨_, a1, w1, hq, .pass (x := .inLoop c) rfl (λ _ _ => .inl (by simp)) harr⟩
   | ret => exact ⟨_, a1, w1, hq, .pass (x := .inLoop c) rfl (λ _ _ => .inl (by simp)) harr⟩
   | panic ch => exact ⟨_, a1, w1, hq, .pass (x := .inLoop c) rfl (λ _ _ => .inl (by simp)) harr⟩
   | outgrown => exact ⟨_, a1, w1, hq, .pass (x := .inLoop c) rfl (λ _ _ => .inl (by simp)) harr⟩
 obtain ⟨e, a', w', hq, harr⟩ := key k a w ⟨E', h0, ha.sub hs⟩
 exact ⟨e, a', w', hq, .of_steps (.one (fenced_calm hb hr rfl) stepR_loop) harr⟩
theorem nI {I : Nat → List (Nat × Value) → World → Prop} {k : Nat} (k' : Nat) (E' : List (Nat × Value)) (h : I k' E' w) (hm : k' < k) (hs : Sub E' E) : M n (Exit.then (LI n I k) Q) E w :=
 λ a ha => ⟨k', hm, E', h, ha.sub hs⟩
theorem rd (ks : List (Nat × Nat)) (τ : List Nat) (hm : P.follows .mixedOrders = true) (hB : (Region.noSelect ops && (τ.length == ops.size) && flowB ops (kds ks) τ (Array.replicate ops.size false)) = true)
  (h : FL P n ops (nrm (Q .normal)) (kds ks) τ E w) (hd : ops.toList.all noDefer = true := by kernel_rfl) : W ro m P n (.region id ops true) Q E w := λ a ha => by
 simp only [Bool.and_eq_true, beq_iff_eq] at hB
 obtain ⟨⟨hs, hl⟩, hB⟩ := hB
 refine Go.wpIn_mono (wpIn_region_any hm (Q := nrm (Q .normal)) (any_in hd nrm_no _ _ ?_)) nrm_mono
 have := any_of_flow (P := P) hs (Q := nrm (Q .normal)) nrm_np τ (Array.replicate ops.size false) a w (by simp) hB (h a ha)
 rw [hl] at this
 exact any_of_F _ _ _ _ this _ (Below.refl _ w).drew
theorem agr0 {l : List Value} (hl : Nat.ble l.length n = true) : Agr n (argEnv 0 l) { tmps := l.toArray ++ Array.replicate (n - l.toArray.size) undef, defers := [] } := by
 refine ⟨rfl, ?_, λ t v hv => ?_⟩
 ·have := Nat.le_of_ble_eq_true hl
  simp only [Array.size_append, Array.size_replicate, List.size_toArray]; omega
 ·obtain ⟨j, e, hj⟩ := argEnv_look l 0 t v hv
  have hlt := (List.getElem?_eq_some_iff.1 hj).1
  rw [Array.getElem?_append_left (by simp; omega)]
  simpa [show t = j by omega] using hj
theorem calls_W {f : FuncId} {fn : Func} {c : Code} {l : List Value} {R : Ending → World → Prop} (hf : P.funcs[f]? = some fn) (hb : fn.body = some c) (hn : fn.ntmps = n) (hl : Nat.ble l.length n = true)
  (h : W none m P n c (bodyPostM (fen none) m P fn R) (argEnv 0 l) w) : Calls P f l.toArray w R := by
 have h1 : CallsIn (fen none) m P f l.toArray w R := callsIn_of_wp_marks hf hb trivial (by rw [hn]; exact h _ (agr0 hl)) rfl
 exact (callsIn_wide (n := m)).1 h1
theorem tR {fn : Func} {R : Ending → World → Prop} {vs : List Value} (h : Res P E w fn.results.toList vs) (hR : R (.returned (tup vs)) w) : T n (bodyPostM (fen none) m P fn R) E w :=
 λ a ha => by
  show LeavesInM _ _ _ _ _ _ a.defers _ _
  rw [ha.d]
  exact ⟨_, run_results h ha, hR⟩
end
end Rd
namespace Ri
section
variable {P : Program} {ro : Option Nat} {m n : Nat} {ops : Array Oper} {Q : Exit → Act → World → Prop} {w w' w0 : World} {E E' : List (Nat × Value)} {id : Nat} {v : Value}
variable {d : Option Nat} {ty : TypeId} {pos : String} {af : Array Edge} {g : Option (Nat × Bool)} {x y z : Operand} {t : TypeId} {rest : List Oper}
def WL (ro : Option Nat) (m : Nat) (P : Program) (n : Nat) (ops : Array Oper) (Q : Exit → Act → World → Prop) (l : List Oper) (E : List (Nat × Value)) (w : World) : Prop := ∀ a, Agr n E a → wpListIn (fen ro) m P ops Q l a w
theorem rg {l : List Oper} (h : WL ro m P n l.toArray Q l E w) : Rd.W ro m P n (.region id l.toArray false) Q E w := λ a ha => wpIn_region_lit (h a ha)
theorem nl (h : Rd.M n Q E w) : WL ro m P n ops Q [] E w := h
theorem vl {d : Nat} {op : Op} (hr : Runs P E ⟨some d, op, ty, pos, af, none⟩ w v w') (hd : Nat.blt d n = true) (h : WL ro m P n ops Q rest ((d, v) :: E) w') : WL ro m P n ops Q (⟨some d, op, ty, pos, af, none⟩ :: rest) E w := λ a ha => by
 have hrun := hr n a ha
 unfold wpListIn
 rw [if_pos (by simp [Region.wanted])]
 refine ⟨λ _ _ => trivial, ?_⟩
 have hs : (⟨some d, op, ty, pos, af, none⟩ : Oper).semAt (fen ro).round a.eval = execOp a.eval ⟨some d, op, ty, pos, af, none⟩ := Oper.semAt_eq _ _ _ (λ c e => by
  have e : op = .defer c := e
  subst e
  simp only [execOp, Sem.run_bind, Sem.run_pure] at hrun
  revert hrun
  generalize (resolve a.eval c ty).run P w = r
  cases r <;> simp [Result.andThen])
 rw [hs, hrun]
 exact h _ (ha.put hd v)
end
end Ri
def mark (D : Nat) : List Deferred := [{ target := .collected D, args := #[] }]
def wd (ds : List Deferred) (a : Act) : Act := { a with defers := ds }
theorem wd_put (ds : List Deferred) (a : Act) (d : Option Nat) (v : Value) : (wd ds a).put d v = wd ds (a.put d v) := by cases d <;> rfl
theorem wd_eval (ds : List Deferred) (a : Act) : (wd ds a).eval = a.eval := by funext x; cases x <;> rfl
def DMark (w : World) (D : Nat) : Prop := w.heap[D]? = some (.deferred (some []))
theorem DMark.lt {D : Nat} {w : World} (h : DMark w D) : D < w.heap.size := (Array.getElem?_eq_some_iff.1 h).1
theorem DMark.later {D : Nat} {w w' : World} (h : DMark w D) (x : Ext w w') : DMark w' D := (x.block D h.lt).trans h
theorem DMark.mod {D : Nat} {w w' : World} {S : List Nat} (h : DMark w D) (m : Mod S w w') (hs : D ∉ S) : DMark w' D := (m.block D h.lt hs).trans h
def unmark (w : World) (D : Nat) : World := w.putObj D (.deferred none)
namespace Rt
section
variable {P : Program} {ds : List Deferred} {m n : Nat} {ops : Array Oper} {Q : Exit → Act → World → Prop} {w w' w0 : World} {E E' : List (Nat × Value)} {id : Nat} {v : Value}
variable {d : Option Nat} {ty : TypeId} {pos : String} {af : Array Edge} {g : Option (Nat × Bool)} {x y z : Operand} {t : TypeId} {rest : List Oper} {c : Operand} {cx cy : Code} {i j : Int}
def W (ds : List Deferred) (m : Nat) (P : Program) (n : Nat) (c : Code) (Q : Exit → Act → World → Prop) (E : List (Nat × Value)) (w : World) : Prop := ∀ a, Agr n E a → c.wpIn (fen none) m P Q (wd ds a) w
def N (ds : List Deferred) (n : Nat) (Q : Exit → Act → World → Prop) (E : List (Nat × Value)) (w : World) : Prop := ∀ a, Agr n E a → Q .normal (wd ds a) w
def T (ds : List Deferred) (n : Nat) (Q : Exit → Act → World → Prop) (E : List (Nat × Value)) (w : World) : Prop := ∀ a, Agr n E a → Q .ret (wd ds a) w
def WL (ds : List Deferred) (m : Nat) (P : Program) (n : Nat) (ops : Array Oper) (Q : Exit → Act → World → Prop) (l : List Oper) (E : List (Nat × Value)) (w : World) : Prop := ∀ a, Agr n E a → wpListIn (fen none) m P ops Q l (wd ds a) w
theorem sq (h : W ds m P n cx (Rd.Th none m P cy Q) E w) : W ds m P n (.seq cx cy) Q E w := λ a ha => wpIn_seq (h a ha)
theorem sk (h : N ds n Q E w) : W ds m P n .skip Q E w := λ a ha => wpIn_skip (h a ha)
theorem rt (h : T ds n Q E w) : W ds m P n .ret Q E w := λ a ha => wpIn_ret (h a ha)
theorem rg {l : List Oper} (h : WL ds m P n l.toArray Q l E w) : W ds m P n (.region id l.toArray false) Q E w := λ a ha => wpIn_region_lit (h a ha)
theorem nl (h : N ds n Q E w) : WL ds m P n ops Q [] E w := h
theorem nT (h : W ds m P n cy Q E w) : N ds n (Rd.Th none m P cy Q) E w := h
theorem nB (h : N ds n Q E w) : N ds n (Exit.inBlock id Q) E w := h
theorem tT (h : T ds n Q E w) : T ds n (Rd.Th none m P cy Q) E w := h
theorem cT (hc : ev E c = some (.bool true)) (h : W ds m P n cx Q E w) : W ds m P n (.cond c cx cy) Q E w := λ a ha => wpIn_cond_true (by rw [wd_eval]; exact ha.ev hc) (h a ha)
theorem cF (hc : ev E c = some (.bool false)) (h : W ds m P n cy Q E w) : W ds m P n (.cond c cx cy) Q E w := λ a ha => wpIn_cond_false (by rw [wd_eval]; exact ha.ev hc) (h a ha)
theorem cb {b : Bool} (hc : ev E c = some (.bool b)) (h1 : b = true → W ds m P n cx Q E w) (h2 : b = false → W ds m P n cy Q E w) : W ds m P n (.cond c cx cy) Q E w :=
 λ a ha => wpIn_cond_split (by rw [wd_eval]; exact ha.ev hc) (λ h => h1 h a ha) (λ h => h2 h a ha)
theorem cne (hc : ev E c = some (.bool (i != j))) (h1 : ¬ i = j → W ds m P n cx Q E w) (h2 : i = j → W ds m P n cy Q E w) : W ds m P n (.cond c cx cy) Q E w := cb hc (λ h => h1 (by simpa using h)) (λ h => h2 (by simpa using h))
theorem nodef_of_value {o : Oper} {a : Act} {v : Value} (h : (execOp a.eval o).run P w = .ok (.value v) w') : ∀ c, o.op ≠ .defer c := λ c e => by
 unfold execOp at h
 rw [e] at h
 simp only [Sem.run_bind, Sem.run_pure] at h
 revert h
 generalize (resolve a.eval c o.type).run P w = r
 cases r <;> simp [Result.andThen]
theorem vl {d : Nat} {op : Op} (hr : Runs P E ⟨some d, op, ty, pos, af, none⟩ w v w') (hd : Nat.blt d n = true) (h : WL ds m P n ops Q rest ((d, v) :: E) w') : WL ds m P n ops Q (⟨some d, op, ty, pos, af, none⟩ :: rest) E w := λ a ha => by
 have hrun := hr n a ha
 unfold wpListIn
 rw [if_pos (by simp [Region.wanted])]
 refine ⟨λ _ _ => trivial, ?_⟩
 rw [wd_eval, Oper.semAt_eq _ _ _ (nodef_of_value hrun), hrun]
 show wpListIn _ _ _ _ _ _ _ _
 rw [wd_put]
 exact h _ (ha.put hd v)
theorem ca {d : Nat} {f : FuncId} (hf : Enters P f) {xs : Array Operand} {ts : Array TypeId} {args : List Value} (he : evs E xs.toList = some args) (hd : Nat.blt d n = true)
  (h : Calls P f args.toArray w λ e w' => ∃ v, e = .returned v ∧ WL ds m P n ops Q rest ((d, v) :: E) w') : WL ds m P n ops Q (⟨some d, .call { callee := .value (.func f), args := xs, argTypes := ts }, ty, pos, af, none⟩ :: rest) E w := λ a ha => by
 unfold wpListIn
 rw [if_pos (by simp [Region.wanted])]
 refine ⟨λ _ _ => trivial, ?_⟩
 rw [wd_eval, Oper.semAt_eq _ _ _ (λ c e => by cases e), run_call hf ha he]
 refine ⟨λ h => by simp [fen, Fence.wide] at h, CallsIn.mono (calls_fen h) λ e w' hh => ?_⟩
 obtain ⟨v, rfl, h⟩ := hh
 show wpListIn _ _ _ _ _ _ _ _
 rw [wd_put]
 exact h _ (ha.put hd v)
theorem tR {D : Nat} {fn : Func} {R : Ending → World → Prop} {vs : List Value} (hK : DMark w D) (h : Res P E (unmark w D) fn.results.toList vs) (hR : R (.returned (tup vs)) (unmark w D)) : T (mark D) n (bodyPostM (fen none) m P fn R) E w :=
 λ a ha => by
  have hr := run_results (a := a) h ha
  exact ⟨by simp, .inl ⟨D, _, rfl, run_takeDeferred hK, _, hr, hR⟩⟩
end
end Rt
def Keep2 (b c : Nat) (W W' : World) : Prop := W'.heap[b]? = W.heap[b]? ∧ W'.heap[c]? = W.heap[c]?
theorem Keep2.tr {b c : Nat} {X Y Z : World} (h : Keep2 b c X Y) (k : Keep2 b c Y Z) : Keep2 b c X Z := ⟨k.1.trans h.1, k.2.trans h.2⟩
theorem Mod.keepsFrom {S : List Nat} {W W' : World} {B : Nat} (h : Mod S W W') (hS : ∀ q ∈ S, q < W.heap.size → ∃ cur e fr, W.heap[q]? = some (.cells cur e fr)) : KeepsFrom B W W' :=
 ⟨h.size, λ k o _ hk ho => by
  by_cases hm : k ∈ S
  ·obtain ⟨cur, e, fr, hc⟩ := hS k hm (Array.getElem?_eq_some_iff.1 hk).1
   rw [hc] at hk
   injection hk with hk
   subst hk
   exact nomatch ho
  ·exact (h.block k (Array.getElem?_eq_some_iff.1 hk).1 hm).trans hk⟩
def KF (B : Nat) (w0 w : World) : Prop := KeepsFrom B w0 w
theorem KF.rf (B : Nat) (w : World) : KF B w w := KeepsFrom.refl B w
theorem KF.later {B : Nat} {w0 w w' : World} (h : KF B w0 w) (x : Ext w w') : KF B w0 w' := KeepsFrom.trans h ((Mod.of_ext (S := []) x).keepsFrom λ q hq => nomatch hq)
theorem KF.mod {B : Nat} {w0 w w' : World} {S : List Nat} (h : KF B w0 w) (m : Mod S w w') (hS : ∀ q ∈ S, ∃ cur e fr, w.heap[q]? = some (.cells cur e fr)) : KF B w0 w' := KeepsFrom.trans h (m.keepsFrom λ q hq _ => hS q hq)
structure JAt {α : Type} (B : Nat) (J : List α → World → Prop) (pre : List α) (w : World) : Prop where
 ab : AbidesFrom B J
 at_ : J pre w
theorem JAt.later {α : Type} {B : Nat} {J : List α → World → Prop} {pre : List α} {w w' : World} (h : JAt B J pre w) (x : Ext w w') : JAt B J pre w' :=
 ⟨h.ab, h.ab _ _ _ none h.at_ ⟨x.os, x.tape, x.output, x.size, λ k hk _ => x.block k hk⟩ λ r e => nomatch e⟩
section
variable {P : Program} {n : Nat} {E E' : List (Nat × Value)} {w : World} {d : Option Nat} {ty : TypeId} {pos : String} {af : Array Edge} {g : Option (Nat × Bool)} {x y z u : Operand} {t : TypeId}
end
namespace Rd
theorem rf {α : Type} {P : Program} {m n : Nat} {Q : Exit → Act → World → Prop} {w w0 : World} {E : List (Nat × Value)} {tt p : Nat} {ty : TypeId} {pos : String} {af : Array Edge} {id : Nat} {body : Code} {g : Operand} {gf : Nat} {lb : List Value} {enc : α → Value} {b2 b3 : Nat} {S Sp : List α → Prop} {N0 : Nat}
  (hg : ev E g = some (.func (.func gf) #[] lb.toArray)) (hf : Enters P gf) (hseq : SeqStopsK (fen none) (m - 1) P gf lb.toArray (λ x => #[enc x]) (Keep2 b2 b3) S Sp N0 w0) (hb2 : b2 < w.heap.size) (hb3 : b3 < w.heap.size) (hb0 : Ext w0 w) (h1 : 1 ≤ m) (hp : Nat.blt p n = true) (ht : Nat.blt tt n = true)
  (I : List α → World → Prop) (hI : ∀ s W W' S, I s W → Mod S W W' → (∀ q ∈ S, w.heap.size ≤ q ∧ ∀ cur e fr, W.heap[q]? ≠ some (.cells cur e fr)) → I s W') (h0 : I [] w)
  (hbody : ∀ (l : Nat) (pre : List α) (x : α) (W' : World), I pre W' → pre.length < N0 → W (some l) (m - 1 - 1) P n body (ownPostG w.heap.size (Keep2 b2 b3) I (λ _ _ _ => False) (pre ++ [x]) W') ((tt, enc x) :: (p, enc x) :: E) W')
  (hdone : ∀ (D : Nat) (xs : List α) (W' : World), w.heap.size ≤ D → S xs → I xs W' → DMark W' D → Rt.N (mark D) n Q E W') :
  W none m P n (.rangeFunc g #[p] (.region id #[⟨some tt, .assign (.tmp p), ty, pos, af, none⟩] false) body) Q E w := λ a ha => by
 have hOf : ∀ {β : Type} (J : β → World → Prop), (∀ s W W' S, J s W → Mod S W W' → (∀ q ∈ S, w.heap.size ≤ q ∧ ∀ cur e fr, W.heap[q]? ≠ some (.cells cur e fr)) → J s W') → OwnFrom w.heap.size J := λ J hJ s X Y row hs hgr hr =>
  hJ s X Y row.toList hs (Mod.grown hgr) λ q hq => by
   cases row with
   | none => exact nomatch hq
   | some r =>
    obtain rfl := List.mem_singleton.1 hq
    obtain ⟨hB, o, ho, hc⟩ := hr _ rfl
    exact ⟨hB, λ cur e fr h => by rw [h] at ho; injection ho with ho; subst ho; exact nomatch hc⟩
 obtain ⟨fn, hf1, hf2, hf3⟩ := hf
 obtain ⟨bc, hbc⟩ : ∃ c, fn.body = some c := by
  cases h : fn.body with
  | none => rw [h] at hf3; simp at hf3
  | some c => exact ⟨c, rfl⟩
 refine wpIn_rangeFunc_ownH (F := fen none) rfl h1 (gf := gf) (lb := lb.toArray) (ha.ev hg) trivial (enters_of hf1 hf2 hbc) hseq (λ h k => h.tr k) ?_ hb0 (λ x => rfl) I (λ _ _ _ => False) (hOf I hI) (λ c s A B row hs hg hr => hs.elim) h0
  (λ x a' _ => Agr n ((tt, enc x) :: (p, enc x) :: E) a') (λ x a' s A B row hs hg hr => hs) ?_ ?_ ?_ ?_
 ·intro W' l o o' hl hW _ _
  have hm := Mod.grown (grownBy_putObj' W' l o')
  exact ⟨hm.block b2 (by have := (Array.getElem?_eq_some_iff.1 hW).1; omega) (by simp; omega), hm.block b3 (by have := (Array.getElem?_eq_some_iff.1 hW).1; omega) (by simp; omega)⟩
 ·intro l pre x W' K hi hK
  have hA : Agr n ((p, enc x) :: E) { tmps := (#[p].zip #[enc x]).foldl (λ t (p, v) => t.setIfInBounds p v) a.tmps, defers := [] } := by
   have := ha.put hp (enc x)
   have e : ({ tmps := (#[p].zip #[enc x]).foldl (λ t (p, v) => t.setIfInBounds p v) a.tmps, defers := [] } : Act) = a.put (some p) (enc x) := by
    simp [Act.put, ha.d]
   rw [e]; exact this
  have h2 : W (some l) (m - 1 - 1) P n (.region id [(⟨some tt, .assign (.tmp p), ty, pos, af, none⟩ : Oper)].toArray false) (Exit.then K (λ _ _ _ => False)) ((p, enc x) :: E) W' := by
   refine Ri.rg (Ri.vl (v := enc x) (w' := W') (as_ ?_) ht (Ri.nl λ a' ha' => hK a' W' (KeepsFrom.refl _ _) ⟨rfl, rfl⟩ hi ha'))
   show look ((p, enc x) :: E) p = _
   simp [look]
  exact h2 _ hA
 ·intro l pre x a' W' _ _ hi hx hlen
  exact hbody l pre x W' hi hlen a' hx
 ·intro D xs W' hD hS hi hK
  have := hdone D xs W' hD hS hi hK a ha
  have e : ({ a with defers := { target := .collected D, args := #[] } :: a.defers } : Act) = wd (mark D) a := by simp [wd, mark, ha.d]
  rw [e]; exact this
 ·intro D c pre W' _ _ h _
  exact h.elim
end Rd
end
section
open Go.RowKit
namespace Rep
variable {α : Type} {R : Rep α}
theorem SOwn.fsts {E by_ B c : Nat} {A : Option Addr} {l : List α} {w : World} {ps : List (List Nat × List Value)} (hp : R.Bare) (hall : All2 (λ x a => R.own w B x.1 x.2 a) ps l) : ∀ y ∈ ps, y.1 = [] := λ y hy => by
 obtain ⟨b, hb⟩ := hall.left y hy
 exact hp.2 hb
theorem fst_flat {ps : List (List Nat × List Value)} (h : ∀ y ∈ ps, y.1 = []) : (ps.map (·.1)).flatten = [] := by
 rw [List.flatten_eq_nil_iff]
 intro x hx
 obtain ⟨y, hy, rfl⟩ := List.mem_map.1 hx
 exact h y hy
theorem SOwn.cut {E by_ B c : Nat} {A : Option Addr} {l : List α} {w : World} (h : R.SOwn E by_ w B (blkOf A) A c l) (hp : R.Bare) (k : Nat) (hk : k ≤ l.length) : R.SOwn E by_ w B (blkOf A) A c (l.take k) := by
 obtain ⟨hb, ps, hf, hn, ho, hall⟩ := h
 have hl := olens hall
 have hpl : ps.length = l.length := hall.length
 have h1 := SOwn.fsts (E := E) (by_ := by_) (c := c) (A := A) hp hall
 have hlen : (l.take k).length = k := by rw [List.length_take]; omega
 have hm := Nat.mul_le_mul_right by_ hk
 refine ⟨by rw [hlen]; omega, ps.take k, ?_, hn, ?_, hall.take_ k⟩
 ·rw [fst_flat λ y hy => h1 y (List.mem_of_mem_take hy), List.append_nil]
 ·rw [hlen, List.map_take, flatten_take k hl]
  obtain ⟨hx1, hx2⟩ := ho
  have hle : k * R.size ≤ l.length * R.size := Nat.mul_le_mul_right _ hk
  refine ⟨by rw [List.length_take, hx1]; omega, ?_⟩
  rcases hx2 with ⟨hx2, hx3⟩ | ⟨g, cap, cur, hv, hB, hh, hnc, hcm, hs, ht, hG⟩
  ·injection hx2 with e1 e2 e3
   subst e1 e3
   have : k = 0 := by omega
   subst this
   exact .inl ⟨rfl, rfl⟩
  ·injection hv with e1 e2 e3
   subst e1 e3
   exact .inr ⟨g, c, cur, rfl, hB, hh, by omega, hcm, hs, by rw [← ht, List.take_take, Nat.min_eq_left hle], hG⟩
end Rep
section
variable {P : Program} {n : Nat} {E E' : List (Nat × Value)} {a : Act} {w w' w0 w1 : World} {Q : Exit → Act → World → Prop} {ops : Array Oper} {v : Value}
variable {d : Option Nat} {ty : TypeId} {pos : String} {af : Array Edge} {g : Option (Nat × Bool)} {x y z : Operand} {t : TypeId} {rest : List Oper}
theorem intDiv_quo {k : IntKind} {i j : Int} (h0 : 0 ≤ i) (h1 : 0 < j) (hw : k.wrap (i / j) = i / j) : Op.intDiv .quo k i j = pure (.int k (i / j)) := by
 unfold Op.intDiv
 have e : i.tdiv j = i / j := Int.tdiv_eq_ediv_of_nonneg h0
 rw [if_neg (by omega)]
 simp only [e, hw]
theorem intDiv_rem {k : IntKind} {i j : Int} (h0 : 0 ≤ i) (h1 : 0 < j) : Op.intDiv .rem k i j = pure (.int k (i % j)) := by
 unfold Op.intDiv
 have e : i.tmod j = i % j := Int.tmod_eq_emod_of_nonneg h0
 rw [if_neg (by omega)]
 simp only [e]
section
variable {k : IntKind} {i j : Int} {u : TypeId}
theorem bqu (hx : ev E x = some (.int k i)) (hy : ev E y = some (.int k j)) (h0 : 0 ≤ i) (h1 : 0 < j) (hw : k.wrap (i / j) = i / j) : Runs P E ⟨d, .binOp .quo t x y u, ty, pos, af, g⟩ w (.int k (i / j)) w := run_bin hx hy (binOp_quo t k i j) (by rw [intDiv_quo h0 h1 hw]; rfl)
theorem bre (hx : ev E x = some (.int k i)) (hy : ev E y = some (.int k j)) (h0 : 0 ≤ i) (h1 : 0 < j) : Runs P E ⟨d, .binOp .rem t x y u, ty, pos, af, g⟩ w (.int k (i % j)) w := run_bin hx hy (binOp_rem t k i j) (by rw [intDiv_rem h0 h1]; rfl)
theorem quI {i j : Int} (h0 : 0 ≤ i) (h1 : 0 < j) (h2 : i ≤ 9223372036854775807) : IntKind.i64.wrap (i / j) = i / j := by
 have e1 : 0 ≤ i / j := Int.ediv_nonneg h0 (by omega)
 have e2 : i / j ≤ i := Int.ediv_le_self _ h0
 exact inI ⟨by omega, by omega⟩
end
end
end
section
open Go.RowKit
theorem MtR_el_S_api_Pair : ElT Try.prog Pr.rep 28 31 16 := ElT.mk_ (z := Pr.zero) (k := 2) Try.underlying28 Pr.info rfl rfl (by decide) Pr.zero_raw
open Go.Proofs.Ytifffjhhammeiaa.Mt
theorem info_prs : (Try.prog.info? 28).map (λ i => (i.zero, i.size, i.bytes)) = some (some (.slice none 0 0), 1, 24) := by kernel_rfl
theorem meet_any (n r a b bn bo br ba cO k Z Y : Nat) (x y : Int) (A : Option Addr) (T : List SV) (l : List Pr) (w : World) (hx : x = a) (hy : y = b) (ha : a ≤ 100) (hb : b ≤ 100) (hn : n ≤ 100) (hl : l.length ≤ 100) (Bn : Blk w bn [.int .i64 (n : Int)] 3 (0, 0)) (Bo : Blk w bo [.slice (some ⟨ba, 0, none⟩) T.length cO] 22 (0, 0)) (Br : Blk w br [.int .i64 (r : Int)] 3 (0, 0)) (HT : svRep.SOwn 28 24 w Z (Rep.blkOf (some ⟨ba, 0, none⟩)) (some ⟨ba, 0, none⟩) cO T) (HL : Pr.rep.SOwn 31 16 w Y (Rep.blkOf A) A k l) (hr : r < T.length) (hT : T[r]? = some ⟨A, l.length, k⟩) (h1 : bn < ba) (h2 : ba < bo) (h3 : bo < br) (h4 : br < Y) (hY : Y ≤ w.heap.size) :
  Calls Try.prog 36 #[.int .i64 x, .int .i64 y, .pointer (some ⟨bn, 0, none⟩), .pointer (some ⟨bo, 0, none⟩), .pointer (some ⟨br, 0, none⟩)] w (λ e w' => ∃ A' k' l', e = .returned (.tuple #[]) ∧ (l' : List Pr) = app n (ord (a, b)) l ∧ svRep.SOwn 28 24 w' Z (Rep.blkOf (some ⟨ba, 0, none⟩)) (some ⟨ba, 0, none⟩) cO (T.set r ⟨A', l'.length, k'⟩) ∧ Pr.rep.SOwn 31 16 w' Y (Rep.blkOf A') A' k' l' ∧ (∀ q ∈ Rep.blkOf A', q ∈ Rep.blkOf A ∨ w.heap.size ≤ q) ∧ Mod (Rep.blkOf (some ⟨ba, 0, none⟩) ++ Rep.blkOf A) w w') := by
 have uT := λ q hq => (HT.lt q hq).2
 have loT : ∀ q ∈ Rep.blkOf (some ⟨ba, 0, none⟩), ba ≤ q := λ q hq => Nat.le_of_eq (List.mem_singleton.1 hq).symm
 have eT_ : ∀ q ∈ Rep.blkOf (some ⟨ba, 0, none⟩), q = ba := λ q hq => List.mem_singleton.1 hq
 have uL := λ q hq => (HL.lt q hq).2
 have loL := λ q hq => (HL.lt q hq).1
 refine calls_W (n := 28) Try.func36 rfl rfl rfl ?_
 refine sg <| vm rfl <| vm rfl <| vL (mn rfl rfl) <| vm rfl <| vm rfl <| vL (mx rfl rfl) <| va rfl <| va rfl <| nK <| sg <| vm rfl <| vL (ld rfl (Bn.one eF7 rfl)) <| vL (blt rfl rfl) <| nK <| ?_
 refine clt rfl (λ h_1 => ?_) (λ h_1 => ?_)
 ·have hmx :  max x y < (n : Int) := by omega
  refine rdW (Rep.blkOf A) [(0, 0), (1, 0), (2, 0), (3, 0), (5, 0), (9, 2), (10, 2), (12, 3)] [0, 1, 2, 3, 4, 5, 6, 7, 8, 9, 10, 11, 12] (by kernel_rfl) (by kernel_rfl) ?_
  have d_2 : ∀ q ∈ Rep.blkOf A, q = bo → False := λ q hq hb => by (have := loL q hq; omega)
  refine fqW rfl rfl (λ _ x => ld rfl ((Bo.mod x (λ hq => d_2 _ hq rfl)).one eF14 rfl)) rfl <| ?_
  have d_3 : ∀ q ∈ Rep.blkOf A, q = br → False := λ q hq hb => by (have := loL q hq; omega)
  refine fqW rfl rfl (λ _ x => ld rfl ((Br.mod x (λ hq => d_3 _ hq rfl)).one eF7 rfl)) rfl <| fqW rfl rfl (λ _ x => ld rfl ((Bo.mod x (λ hq => d_2 _ hq rfl)).one eF14 rfl)) rfl <| fqW rfl rfl (λ _ x => ld rfl ((Br.mod x (λ hq => d_3 _ hq rfl)).one eF7 rfl)) rfl <| fwW rfl rfl (λ _ => iA r Try.underlying22 eF15 rfl rfl (HT.has.adr (zl r (by omega))) rfl (by omega)) rfl <| fqW (v := .slice A l.length k) rfl rfl (λ _ x => ld rfl (Rep.SHas.one' hcV ((HT.mod x (λ q hq h => by exfalso; (have := loL q h; (have := eT_ q hq; omega)))).has.adh (zl r (by omega))) hT rfl eF16)) rfl <| fwW rfl rfl (λ _ => mv rfl) rfl <| fwW rfl rfl (λ _ => mv rfl) rfl <| fwW (v := .agg #[.int .i64 (min x y), .int .i64 (max x y)]) rfl rfl (λ _ => bd rfl (by kernel_rfl)) rfl <| fxW rfl rfl rfl λ w_4 x_5 Q hK => bs (e := 31) (cs := [.int .i64 (min x y), .int .i64 (max x y)]) rfl (λ _ => by kernel_rfl) rfl λ w_6 b_7 x_8 l_9 B_10 => hK _ _ ⟨Mod.of_ext (eT x_5 x_8), ?_⟩
  have := x_5.size
  have z_4 := (Mod.rf (Rep.blkOf (some ⟨ba, 0, none⟩) ++ Rep.blkOf A) w).trans (Mod.of_ext x_5)
  have := x_8.size
  have z_6 := z_4.trans (Mod.of_ext x_8)
  have q_13 := B_10.lt
  have HL := HL.later (eT x_5 x_8)
  refine fxW rfl rfl rfl λ w_14 x_15 Q hK => ap MtR_el_S_api_Pair Rep.flat_bare (HL.later x_15) ((Blk.has1 (R := Pr.rep) (by_ := 16) (q := (⟨min x y, max x y⟩ : Pr)) B_10 ⟨rfl, ⟨okI_iff.2 (by dsimp only; omega), okI_iff.2 (by dsimp only; omega)⟩⟩ (by decide)).keep x_15) rfl rfl (by simp only [List.length_cons, List.length_nil]; omega) (by simp only [List.length_cons, List.length_nil]; omega) (by have := x_15.size; omega) rfl λ w_16 A_17 c_18 m_19 O_20 g_21 n_22 => hK _ _ ⟨(Mod.of_ext x_15).trans m_19, ?_⟩
  have := x_15.size
  have z_14 := z_6.trans (Mod.of_ext x_15)
  have := m_19.size
  have z_16 := z_14.md m_19 (λ q hq => .inl (List.mem_append.2 (.inr hq)))
  have u_25 := λ q hq => (O_20.lt q hq).2
  have := m_19.size
  have HT := HT.later (eT x_5 (eT x_8 x_15))
  have HT := HT.mod m_19 (λ q hq h => by exfalso; (have := loL q h; (have := eT_ q hq; omega)))
  refine fwW rfl rfl (λ _ => iA r Try.underlying22 eF15 rfl rfl (HT.has.adr (zl r (by omega))) rfl (by omega)) rfl <| fbW rfl rfl rfl λ w_27 x_28 Q hK => so (q' := (⟨A_17, (l ++ [(⟨min x y, max x y⟩ : Pr)]).length, c_18⟩ : SV)) (j := 0) (i := r) (HT.later x_28) Rep.flat_bare hT rfl rfl rfl rfl (λ _ cs h => by have ok_ := (show _ ∧ _ from h).2; obtain rfl := hcV h; exact ⟨rfl, trivial⟩) rfl rfl eF15 λ w_29 m_30 O_31 => hK _ _ ?_
  have := x_28.size
  have z_27 := z_16.trans (Mod.of_ext x_28)
  have := m_30.size
  have z_29 := z_27.md m_30 (λ q hq => .inl (List.mem_append.2 (.inl hq)))
  have := m_30.size
  refine fnW λ w_35 x_36 => ?_
  have := x_36.size
  have z_35 := z_29.trans (Mod.of_ext x_36)
  refine ne <| tR .nil <| ?_
  have O_31 := O_31.later x_36
  have O_20 := O_20.later x_28
  have O_20 := O_20.mod m_30 (λ q hq h => by exfalso; (exact Or.elim (g_21 q hq) (λ k_38 => by (have := loL q k_38; (have := eT_ q h; omega))) (λ k_38 => by (have := eT_ q h; omega))))
  have O_20 := O_20.later x_36
  exact ⟨A_17, c_18, _, rfl, app_yes hx hy hmx, O_31, O_20, λ q hq => (g_21 q hq).imp id (λ h => by omega), z_35⟩
 ·have hmx : ¬ max x y < (n : Int) := by omega
  refine sk <| ne <| tR .nil <| ?_
  exact ⟨A, k, l, rfl, app_no hx hy hmx, by rw [set_same_ hT]; exact HT, HL, λ q hq => .inl hq, (Mod.rf (Rep.blkOf (some ⟨ba, 0, none⟩) ++ Rep.blkOf A) w)⟩
theorem rounds_bad (n : Int) (w : World) (hn : n < 2 ∨ 64 < n) :
  Calls Try.prog 12 #[.int .i64 n] w (λ e w' => ∃ e' A' c' T L ba X, e = .returned (.tuple #[.slice A' (T : List SV).length c', .int .i64 e']) ∧ RdR n e' T L ∧ svRep.SOwn 28 24 w' w.heap.size (Rep.blkOf A') A' c' T ∧ PT w' w.heap.size ba X T L ∧ Ext w w') := by
 have hkn : (decide (n < 2) || decide (64 < n)) = true := by simpa using hn
 refine calls_W (n := 63) Try.func12 rfl rfl rfl ?_
 refine sg <| bx rfl rfl rfl rfl λ w_1 b_2 x_3 l_4 B_5 => ?_
 have := x_3.size
 have z_1 := eT (Ext.rf w) x_3
 have q_7 := B_5.lt
 refine va rfl <| va rfl <| nK <| sq <| sg <| vL (ld rfl (B_5.one eF7 rfl)) <| vL (blt rfl rfl) <| vm rfl <| vQ rfl rfl rfl rfl (λ hc => ld rfl (B_5.one eF7 rfl)) rfl <| vQ rfl rfl rfl rfl (λ hc => bgt (gt hc rfl) rfl) rfl <| vL (pO rfl rfl rfl rfl) <| nK <| cT (evb rfl hkn) <| sg <| va rfl <| va rfl <| nK <| rt <| tT <| ?_
 refine tR (.tmp rfl (.tmp rfl .nil)) <| ?_
 exact ⟨1, none, 0, [], [], 0, 0, rfl, .inr ⟨rfl, hn, rfl, rfl⟩, Rep.SOwn.nil _, PT.nil _ _ _ _ (Nat.zero_le _), z_1⟩
theorem rounds_nat (N M K : Nat) (w : World) (hN : 2 ≤ N ∧ N ≤ 64) (hM : M + 1 = N + N % 2) (hK : 2 * K = M + 1) :
  Calls Try.prog 12 #[.int .i64 (N : Int)] w (λ e w' => ∃ e' A' c' T L ba X, e = .returned (.tuple #[.slice A' (T : List SV).length c', .int .i64 e']) ∧ RdR (N : Int) e' T L ∧ svRep.SOwn 28 24 w' w.heap.size (Rep.blkOf A') A' c' T ∧ PT w' w.heap.size ba X T L ∧ Ext w w') := by
 have hkn : (decide ((N : Int) < 2) || decide (64 < (N : Int))) = false := by simp; omega
 refine calls_W (n := 63) Try.func12 rfl rfl rfl ?_
 refine sg <| bx rfl rfl rfl rfl λ w_1 b_2 x_3 l_4 B_5 => ?_
 have := x_3.size
 have z_1 := eT (Ext.rf w) x_3
 have q_7 := B_5.lt
 refine va rfl <| va rfl <| nK <| sq <| sg <| vL (ld rfl (B_5.one eF7 rfl)) <| vL (blt rfl rfl) <| vm rfl <| vQ rfl rfl rfl rfl (λ hc => ld rfl (B_5.one eF7 rfl)) rfl <| vQ rfl rfl rfl rfl (λ hc => bgt (gt hc rfl) rfl) rfl <| vL (pO rfl rfl rfl rfl) <| nK <| cF (evb rfl hkn) <| sK <| sg <| vL (ld rfl (B_5.one eF7 rfl)) <| vL (ld rfl (B_5.one eF7 rfl)) <| vL (bre rfl rfl (by omega) (by omega)) <| vL (rE (congrArg (Value.int .i64) (show (N : Int) + (N : Int) % 2 = (M : Int) + 1 from by omega)) (bad rfl rfl (inI (by omega)))) <| ?_
 refine va rfl <| nK <| sg <| vm rfl <| vL (rE (congrArg (Value.int .i64) (show (M : Int) + 1 - 1 = (M : Int) from by omega)) (bsu rfl rfl (inI (by omega)))) <| mO (R := svRep) (by_ := 24) (B := w.heap.size) (c := M) (zv := (.slice none 0 0)) (q := default) Rep.flat_plain Try.underlying22 info_prs rfl rfl (λ j u h => raw0V j u h) (λ _ => ⟨rfl, trivial⟩) rfl rfl rfl (by omega) (by omega) (by omega) λ w_8 b_9 x_10 l_11 O_12 => ?_
 have := x_10.size
 have z_8 := eT z_1 x_10
 have u_14 := λ q hq => (O_12.lt q hq).2
 have lo_15 : ∀ q ∈ Rep.blkOf (some ⟨b_9, 0, none⟩), b_9 ≤ q := λ q hq => Nat.le_of_eq (List.mem_singleton.1 hq).symm
 refine al rfl eF17 rfl rfl λ w_16 b_17 x_18 l_19 B_20 => ?_
 have := x_18.size
 have z_16 := eT z_8 x_18
 have q_22 := B_20.lt
 refine st (new := [.slice (some ⟨b_9, 0, none⟩) M M]) rfl rfl B_20 rfl eF18 rfl rfl rfl λ w_23 m_24 B_20 => ?_
 have := m_24.size
 have z_23 := Ext.mod z_16 m_24 (ge1 (by omega))
 have := m_24.size
 refine nK <| sq <| sg <| vL (ld rfl (B_20.one eF14 rfl)) <| vL (ln Try.underlying22 rfl) <| vm rfl <| nK <| bk <| ?_
 have O_12 := O_12.later x_18
 have O_12 := O_12.mod m_24 (fk1 u_14 (by omega))
 have hba_ := u_14 b_9 (List.mem_singleton.2 rfl)
 have eba : ∀ q ∈ Rep.blkOf (some ⟨b_9, 0, none⟩), q = b_9 := λ q hq => List.mem_singleton.1 hq
 have B_5 := B_5.later (eT x_10 x_18)
 have B_5 := B_5.mod m_24 (nm1 (by omega))
 refine lp (λ mI EI wI => ∃ r : Nat, ∃ T1 : List SV, ∃ L : List (List Pr), ∃ X : Nat, EI = [(1, .pointer (some ⟨b_2, 0, none⟩)), (2, .slice none 0 0), (3, .int .i64 0), (4, .int .i64 ((M : Int) + 1)), (5, .pointer (some ⟨b_17, 0, none⟩)), (23, .int .i64 (M : Int)), (24, .int .i64 (r : Int))] ∧ mI = M - r ∧ Ext w wI ∧ Blk wI b_2 [.int .i64 (N : Int)] 3 (0, 0) ∧ Blk wI b_17 [.slice (some ⟨b_9, 0, none⟩) M M] 22 (0, 0) ∧ svRep.SOwn 28 24 wI w.heap.size (Rep.blkOf (some ⟨b_9, 0, none⟩)) (some ⟨b_9, 0, none⟩) M T1 ∧ PT wI w.heap.size b_9 X T1 L ∧ (r ≤ M) ∧ (T1.length = M) ∧ (∀ j, r ≤ j → j < M → T1[j]? = some ⟨none, 0, 0⟩) ∧ (L.length = r) ∧ (∀ (j : Nat) (l : List Pr), L[j]? = some l → l.Perm (rndK N M j K)) ∧ (∀ q ∈ Rep.blkOf (some ⟨b_9, 0, none⟩), q = b_2 → False) ∧ (∀ q ∈ Rep.blkOf (some ⟨b_9, 0, none⟩), q = b_17 → False)) _ _ ⟨0, List.replicate M default, ([] : List (List Pr)), 0, rfl, rfl, z_23, B_5, B_20, O_12, (PT.nil _ _ _ _ (by omega)), by omega, by simp, λ j _ h2 => by rw [List.getElem?_replicate, if_pos h2]; rfl, rfl, λ j l hj => by simp at hj, (λ q hq hb => by (have := lo_15 q hq; omega)), (λ q hq hb => by (have := u_14 q hq; omega))⟩ (.cons rfl (.cons rfl (.cons rfl (.cons rfl (.cons rfl (.cons rfl (.cons (loI rfl (by first | omega | rfl | (simp <;> omega))) .nil))))))) ?_
 rintro m_30 E_31 w_29 ⟨r, T1, L, X, rfl, rfl, z_29, B_5, B_20, HT1, HP, hr, hTl, hTd, hLL, hLp, d_27, d_28⟩
 have := z_29.size
 have q_33 := B_5.lt
 have q_34 := B_20.lt
 have u_35 := λ q hq => (HT1.lt q hq).2
 have hXle := HP.le
 refine sg <| vL (blt rfl rfl) <| nK <| sq <| ?_
 refine clt rfl (λ h_36 => ?_) (λ h_36 => ?_)
 ·have hrM : r < M := by omega
  refine sK <| sq <| bk <| sg <| vm rfl <| al rfl eF19 rfl rfl λ w_37 b_38 x_39 l_40 B_41 => ?_
  have := x_39.size
  have z_37 := eT z_29 x_39
  have q_43 := B_41.lt
  refine st (new := [.int .i64 (r : Int)]) rfl rfl B_41 rfl eF2 rfl rfl rfl λ w_44 m_45 B_41 => ?_
  have := m_45.size
  have z_44 := Ext.mod z_37 m_45 (ge1 (by omega))
  have := m_45.size
  refine nK <| sg <| vL (mf rfl rfl) <| va rfl <| nK <| sg <| vm rfl <| vm rfl <| vL (rE (congrArg (Value.int .i64) (show (M : Int) + 1 - 1 = (M : Int) from by omega)) (bsu rfl rfl (inI (by omega)))) <| vL (ld rfl (B_41.one eF7 rfl)) <| ?_
  obtain ⟨Y, hY⟩ : ∃ Y, Y = w_44.heap.size := ⟨_, rfl⟩
  have HL0 : Pr.rep.SOwn 31 16 w_44 Y (Rep.blkOf none) none 0 ([] : List Pr) := Rep.SOwn.nil _
  have HP := HP.later x_39
  have HP := HP.mod m_45 (λ q hq => .inr (by have := List.mem_singleton.1 hq; omega))
  have hXY : X ≤ Y := by rw [hY]; exact HP.le
  have hYw : w.heap.size ≤ Y := by rw [hY]; exact (z_44).size
  have HZ : SzG Y w_44 := Nat.le_of_eq hY
  have hLl : ([] : List Pr).length ≤ 0 := Nat.le_refl _
  have B_5 := B_5.later x_39
  have B_5 := B_5.mod m_45 (nm1 (by omega))
  have B_20 := B_20.later x_39
  have B_20 := B_20.mod m_45 (nm1 (by omega))
  have HT1 := HT1.later x_39
  have HT1 := HT1.mod m_45 (λ q hq h => by have hb := List.mem_singleton.1 h; exfalso; (have := eba q hq; omega))
  refine cv eF20 rfl rfl rfl ((meet_any N r M r b_2 b_17 b_38 b_9 M 0 w.heap.size Y _ _ none T1 ([] : List Pr) _ rfl rfl (by omega) (by omega) (by omega) (by simp) B_5 (by rw [hTl]; exact B_20) B_41 HT1 HL0 (by rw [hTl]; exact hrM) (hTd r (Nat.le_refl _) hrM) (by omega) (by omega) (by omega) (by omega) (by have h_ : Y ≤ _ := HZ; omega)).mono ?_)
  rintro e w_50 ⟨A48, k48, l48, rfl, hl48, HT48, HL48, hg48, m_49⟩
  refine ⟨_, rfl, ?_⟩
  have := m_49.size
  have z_50 := Ext.mod z_44 m_49 (λ q hq => (List.mem_append.1 hq).elim (λ h => by have := eba _ h; omega) (λ h => Nat.le_trans (by omega) (HL0.lt q h).1))
  obtain ⟨T48, hT48⟩ : ∃ T_, T1.set r ⟨A48, l48.length, k48⟩ = T_ := ⟨_, rfl⟩
  rw [hT48] at HT48
  have hlT48_ : T48.length = M := by rw [← hT48, List.length_set]; exact hTl
  have hrT48_ : T48[r]? = some ⟨A48, l48.length, k48⟩ := by rw [← hT48]; exact List.getElem?_set_self (by rw [hTl]; exact hrM)
  have hoT48_ : ∀ j, j ≠ r → T48[j]? = T1[j]? := λ j hj => by rw [← hT48, List.getElem?_set_ne (λ e => hj e.symm)]
  have hk48 : l48 = rndK N M r 1 := hl48
  have uL48 := λ q hq => (HL48.lt q hq).2
  have loL48 : ∀ q ∈ Rep.blkOf A48, Y ≤ q := λ q hq => (HL48.lt q hq).1
  have q48_ := m_49.size
  refine nK <| sq <| sg <| va rfl <| nK <| bk <| ?_
  have B_5 := B_5.mod m_49 (λ hq => (List.mem_append.1 hq).elim (λ h => by have := eba _ h; omega) (λ h => by have := (HL0.lt _ h).1; omega))
  have B_20 := B_20.mod m_49 (λ hq => (List.mem_append.1 hq).elim (λ h => by have := eba _ h; omega) (λ h => by have := (HL0.lt _ h).1; omega))
  have HP := HP.mod m_49 (λ q hq => (List.mem_append.1 hq).elim (λ h => .inl (eba _ h)) (λ h => .inr (by have := (HL0.lt _ h).1; omega)))
  have B_41 := B_41.mod m_49 (λ hq => (List.mem_append.1 hq).elim (λ h => by have := eba _ h; omega) (λ h => by have := (HL0.lt _ h).1; omega))
  have HZ := HZ.mod m_49 trivial
  refine lp (λ mI EI wI => ∃ k : Nat, ∃ T2 : List SV, ∃ A2 : Option Addr, ∃ c2 : Nat, ∃ l : List Pr, EI = [(1, .pointer (some ⟨b_2, 0, none⟩)), (2, .slice none 0 0), (3, .int .i64 0), (4, .int .i64 ((M : Int) + 1)), (5, .pointer (some ⟨b_17, 0, none⟩)), (6, .pointer (some ⟨b_38, 0, none⟩)), (7, .func (.func 36) #[] #[.pointer (some ⟨b_2, 0, none⟩), .pointer (some ⟨b_17, 0, none⟩), .pointer (some ⟨b_38, 0, none⟩)]), (8, .int .i64 (k : Int)), (23, .int .i64 (M : Int)), (24, .int .i64 (r : Int)), (25, .bool (decide ((r : Int) < (M : Int)))), (26, .int .i64 (r : Int)), (27, .func (.func 36) #[] #[.pointer (some ⟨b_2, 0, none⟩), .pointer (some ⟨b_17, 0, none⟩), .pointer (some ⟨b_38, 0, none⟩)]), (28, .func (.func 36) #[] #[.pointer (some ⟨b_2, 0, none⟩), .pointer (some ⟨b_17, 0, none⟩), .pointer (some ⟨b_38, 0, none⟩)]), (29, .int .i64 ((M : Int) + 1)), (30, .int .i64 (M : Int)), (31, .int .i64 (r : Int))] ∧ mI = K - k ∧ Ext w wI ∧ Blk wI b_2 [.int .i64 (N : Int)] 3 (0, 0) ∧ Blk wI b_17 [.slice (some ⟨b_9, 0, none⟩) M M] 22 (0, 0) ∧ PT wI w.heap.size b_9 X T1 L ∧ Blk wI b_38 [.int .i64 (r : Int)] 3 (0, 0) ∧ SzG Y wI ∧ svRep.SOwn 28 24 wI w.heap.size (Rep.blkOf (some ⟨b_9, 0, none⟩)) (some ⟨b_9, 0, none⟩) M T2 ∧ Pr.rep.SOwn 31 16 wI Y (Rep.blkOf A2) A2 c2 l ∧ (1 ≤ k ∧ k ≤ K) ∧ (T2.length = M) ∧ (T2[r]? = some ⟨A2, l.length, c2⟩) ∧ (∀ j, j ≠ r → T2[j]? = T1[j]?) ∧ (l = rndK N M r k) ∧ (∀ q ∈ Rep.blkOf (some ⟨b_9, 0, none⟩), q = b_2 → False) ∧ (∀ q ∈ Rep.blkOf (some ⟨b_9, 0, none⟩), q = b_17 → False) ∧ (∀ q ∈ Rep.blkOf (some ⟨b_9, 0, none⟩), q = b_38 → False) ∧ (∀ q ∈ Rep.blkOf A2, q = b_2 → False) ∧ (∀ q ∈ Rep.blkOf A2, q = b_17 → False) ∧ (∀ q ∈ Rep.blkOf A2, q = b_38 → False) ∧ (∀ q ∈ Rep.blkOf A2, q ∈ Rep.blkOf (some ⟨b_9, 0, none⟩) → False)) _ _ ⟨1, T48, A48, k48, l48, rfl, rfl, z_50, B_5, B_20, HP, B_41, HZ, HT48, HL48, by omega, hlT48_, hrT48_, hoT48_, hk48, (λ q hq hb => by (exact d_27 q hq hb)), (λ q hq hb => by (exact d_28 q hq hb)), (λ q hq hb => by (have := eba q hq; omega)), (λ q hq hb => by (have := loL48 q hq; omega)), (λ q hq hb => by (have := loL48 q hq; omega)), (λ q hq hb => by (have := loL48 q hq; omega)), (λ q hq hb => by (have := loL48 q hq; (have := eba q hb; omega)))⟩ (.cons rfl (.cons rfl (.cons rfl (.cons rfl (.cons rfl (.cons rfl (.cons rfl (.cons (loI rfl (by first | omega | rfl | (simp <;> omega))) (sba rfl))))))))) ?_
  rintro m_60 E_61 w_59 ⟨k, T2, A2, c2, l, rfl, rfl, z_59, B_5, B_20, HP, B_41, HZ, HT2, HL2, hk, hTl2, hTr2, hTo2, hlk, d_52, d_53, d_54, d_55, d_56, d_57, d_58⟩
  have := z_59.size
  have q_63 := B_5.lt
  have q_64 := B_20.lt
  have q_65 := B_41.lt
  have u_66 := λ q hq => (HT2.lt q hq).2
  have u_67 := λ q hq => (HL2.lt q hq).2
  refine sq <| sg <| vm rfl <| vm rfl <| vL (rE (congrArg (Value.int .i64) (show ((M : Int) + 1) / 2 = (K : Int) from by omega)) (bqu rfl rfl (by omega) (by omega) (quI (by omega) (by omega) (by omega)))) <| vL (blt rfl rfl) <| nK <| ?_
  refine clt rfl (λ h_68 => ?_) (λ h_68 => ?_)
  ·have hkl : k < K := by omega
   refine sK <| sq <| bk <| ?_
   refine rd [(1, 0), (7, 0), (16, 3)] [0, 1, 2, 3, 4, 5, 6, 7, 8, 9, 10, 11, 12, 13, 14, 15, 16] (by kernel_rfl) (by kernel_rfl) ?_
   refine fw1 rfl (λ _ => mv rfl) <| fq1 rfl (λ _ x => ld rfl ((B_41.later x).one eF7 rfl)) <| fw1 rfl (λ _ => mv rfl) <| fw1 rfl (λ _ => bad rfl rfl (inI (by omega))) <| fw1 rfl (λ _ => mv rfl) <| fw1 rfl (λ _ => rE (congrArg (Value.int .i64) (show (M : Int) + 1 - 1 = (M : Int) from by omega)) (bsu rfl rfl (inI (by omega)))) <| fw1 rfl (λ _ => bre rfl rfl (by omega) (by omega)) <| fq1 rfl (λ _ x => ld rfl ((B_41.later x).one eF7 rfl)) <| fw1 rfl (λ _ => mv rfl) <| fw1 rfl (λ _ => bad rfl rfl (inI (by omega))) <| fw1 rfl (λ _ => bsu rfl rfl (inI (by omega))) <| fw1 rfl (λ _ => mv rfl) <| fw1 rfl (λ _ => bsu rfl rfl (inI (by omega))) <| fw1 rfl (λ _ => mv rfl) <| fw1 rfl (λ _ => rE (congrArg (Value.int .i64) (show (M : Int) + 1 - 1 = (M : Int) from by omega)) (bsu rfl rfl (inI (by omega)))) <| fw1 rfl (λ _ => bre rfl rfl (by omega) (by omega)) <| fb rfl rfl rfl λ w_69 x_70 Q hK => cv eF20 rfl rfl rfl ((meet_any N r ((r + k) % M) ((r + M - k) % M) b_2 b_17 b_38 b_9 M c2 w.heap.size Y _ _ A2 T2 l _ (modE (by omega)) (modE (by omega)) (Nat.le_of_lt (Nat.lt_of_lt_of_le (Nat.mod_lt _ (by omega)) (by omega))) (Nat.le_of_lt (Nat.lt_of_lt_of_le (Nat.mod_lt _ (by omega)) (by omega))) (by omega) (by first | omega | (rw [hlk]; have := rnd_len (n := N) (M := M) (r := r) k; omega)) (B_5.later x_70) (by rw [hTl2]; exact (B_20.later x_70)) (B_41.later x_70) (HT2.later x_70) (HL2.later x_70) (by rw [hTl2]; exact hrM) hTr2 (by omega) (by omega) (by omega) (by omega) (by have h_ : Y ≤ _ := HZ; have h2_ := x_70.size; omega)).mono ?_)
   rintro e w_73 ⟨A71, k71, l71, rfl, hl71, HT71, HL71, hg71, m_72⟩
   refine ⟨_, rfl, hK _ _ ?_⟩
   have := x_70.size
   have z_69 := eT z_59 x_70
   have := m_72.size
   have z_73 := Ext.mod z_69 m_72 (λ q hq => (List.mem_append.1 hq).elim (λ h => by have := eba _ h; omega) (λ h => Nat.le_trans (by omega) (HL2.lt q h).1))
   obtain ⟨T71, hT71⟩ : ∃ T_, T2.set r ⟨A71, l71.length, k71⟩ = T_ := ⟨_, rfl⟩
   rw [hT71] at HT71
   have hlT71_ : T71.length = M := by rw [← hT71, List.length_set]; exact hTl2
   have hrT71_ : T71[r]? = some ⟨A71, l71.length, k71⟩ := by rw [← hT71]; exact List.getElem?_set_self (by rw [hTl2]; exact hrM)
   have hoT71_ : ∀ j, j ≠ r → T71[j]? = T1[j]? := λ j hj => by rw [← hT71, List.getElem?_set_ne (λ e => hj e.symm)]; exact hTo2 j hj
   have hk71 : l71 = rndK N M r (k + 1) := by rw [hl71, hlk, rndK, meetP, rawP, if_neg (by omega)]
   have uL71 := λ q hq => (HL71.lt q hq).2
   have loL71 : ∀ q ∈ Rep.blkOf A71, Y ≤ q := λ q hq => (HL71.lt q hq).1
   have q71_ := m_72.size
   refine fn λ w_76 x_77 => ?_
   have := x_77.size
   have z_76 := eT z_73 x_77
   refine nB <| nT <| rg <| vm rfl <| vL (bad rfl rfl (inI (by omega))) <| va rfl <| nl <| ?_
   have B_5 := B_5.later x_70
   have B_5 := B_5.mod m_72 (λ hq => (List.mem_append.1 hq).elim (λ h => by have := eba _ h; omega) (λ h => by have := (HL2.lt _ h).1; omega))
   have B_5 := B_5.later x_77
   have B_20 := B_20.later x_70
   have B_20 := B_20.mod m_72 (λ hq => (List.mem_append.1 hq).elim (λ h => by have := eba _ h; omega) (λ h => by have := (HL2.lt _ h).1; omega))
   have B_20 := B_20.later x_77
   have HP := HP.later x_70
   have HP := HP.mod m_72 (λ q hq => (List.mem_append.1 hq).elim (λ h => .inl (eba _ h)) (λ h => .inr (by have := (HL2.lt _ h).1; omega)))
   have HP := HP.later x_77
   have B_41 := B_41.later x_70
   have B_41 := B_41.mod m_72 (λ hq => (List.mem_append.1 hq).elim (λ h => by have := eba _ h; omega) (λ h => by have := (HL2.lt _ h).1; omega))
   have B_41 := B_41.later x_77
   have HZ := HZ.later x_70
   have HZ := HZ.mod m_72 trivial
   have HZ := HZ.later x_77
   have HT71 := HT71.later x_77
   have HL71 := HL71.later x_77
   exact nI _ _ ⟨k + 1, T71, A71, k71, l71, rfl, rfl, z_76, B_5, B_20, HP, B_41, HZ, HT71, HL71, by omega, hlT71_, hrT71_, hoT71_, hk71, (λ q hq hb => by (exact d_52 q hq hb)), (λ q hq hb => by (exact d_53 q hq hb)), (λ q hq hb => by (exact d_54 q hq hb)), (λ q hq hb => by (have := loL71 q hq; omega)), (λ q hq hb => by (have := loL71 q hq; omega)), (λ q hq hb => by (have := loL71 q hq; omega)), (λ q hq hb => by (have := loL71 q hq; (have := eba q hb; omega)))⟩ (by omega) (.cons rfl (.cons rfl (.cons rfl (.cons rfl (.cons rfl (.cons rfl (.cons rfl (.cons (loI rfl (by first | omega | rfl | (simp <;> omega))) (sba rfl)))))))))
  ·have hkK : k = K := by omega
   refine xt <| xT <| xK <| xB <| nT <| rg <| vL (ld rfl (B_20.one eF14 rfl)) <| vL (ld rfl (B_41.one eF7 rfl)) <| vL (iA r Try.underlying22 eF15 rfl rfl (HT2.has.adr (zl r (by first | exact hrM | (rw [hTl2]; exact hrM)))) rfl (by first | exact hrM | (rw [hTl2]; exact hrM))) <| vL (v := .slice A2 l.length c2) (ld rfl (Rep.SHas.one' hcV (HT2.has.adh (zl r (by first | exact hrM | (rw [hTl2]; exact hrM)))) hTr2 rfl eF16)) <| ca eF21 rfl rfl ((sortP_any _ HL2 (by rw [hlk, hkK, rnd_full hM hK hN.1 hrM]; omega)).mono ?_)
   rintro e w_81 ⟨l79, rfl, hp79, HL79, m_80⟩
   refine ⟨_, rfl, ?_⟩
   have := m_80.size
   have z_81 := Ext.mod z_59 m_80 (λ q hq => Nat.le_trans (by omega) (HL2.lt q hq).1)
   have hll79 : l79.length = l.length := hp79.length_eq
   have q79_ := m_80.size
   refine nl <| nB <| nT <| rg <| vL (bad rfl rfl (inI (by omega))) <| vm rfl <| nl <| ?_
   have B_5 := B_5.mod m_80 (λ hq => by have := (HL2.lt _ hq).1; omega)
   have B_20 := B_20.mod m_80 (λ hq => by have := (HL2.lt _ hq).1; omega)
   have HT2 := HT2.mod m_80 (λ q hq h => by have := (HL2.lt _ h).1; have := eba _ hq; omega)
   have HP := HP.mod m_80 (λ q hq => .inr (by have := (HL2.lt q hq).1; omega))
   exact nI _ _ ⟨r + 1, T2, L ++ [l79], w_81.heap.size, rfl, rfl, z_81, B_5, B_20, HT2, (PT.snoc (l := l79) HP (by rw [hLL]; exact hTo2) (by rw [hLL, hll79]; exact hTr2) (HL79.down (by omega)) (λ q hq => ⟨by have := (HL79.lt q hq).1; omega, (HL79.lt q hq).2⟩) (by have := HP.le; omega) (Nat.le_refl _)), by omega, hTl2, λ j h1 h2 => by rw [hTo2 j (by omega)]; exact hTd j (by omega) h2, by rw [List.length_append, hLL]; rfl, λ j l hj => by by_cases e : j < L.length; rw [List.getElem?_append_left e] at hj; exact hLp j l hj; (have e2 : j = L.length := by have := (List.getElem?_eq_some_iff.1 hj).1; rw [List.length_append] at this; simp at this; omega); subst e2; rw [List.getElem?_append_right (Nat.le_refl _), Nat.sub_self] at hj; obtain rfl := Option.some.inj hj; rw [hLL]; rw [hlk, hkK] at hp79; exact hp79, (λ q hq hb => by (exact d_52 q hq hb)), (λ q hq hb => by (exact d_53 q hq hb))⟩ (by omega) (.cons rfl (.cons rfl (.cons rfl (.cons rfl (.cons rfl (.cons rfl (.cons (loI rfl (by first | omega | rfl | (simp <;> omega))) .nil)))))))
 ·have er : r = M := by omega
  refine xt <| xT <| xK <| xB <| nT <| sg <| vL (ld rfl (B_20.one eF14 rfl)) <| va rfl <| va rfl <| nK <| rt <| tR (.tmp rfl (.tmp rfl .nil)) <| ?_
  exact ⟨0, some ⟨b_9, 0, none⟩, M, T1, L, b_9, X, by rw [hTl]; rfl, .inl ⟨rfl, by omega, by omega, by rw [hTl, hLL, er], N, M, K, rfl, hM, hK, by rw [hLL, er], hLp⟩, HT1, HP, z_29⟩
theorem rounds_any (n : Int) (w : World) :
  Calls Try.prog 12 #[.int .i64 n] w (λ e w' => ∃ e' A' c' T L ba X, e = .returned (.tuple #[.slice A' (T : List SV).length c', .int .i64 e']) ∧ RdR n e' T L ∧ svRep.SOwn 28 24 w' w.heap.size (Rep.blkOf A') A' c' T ∧ PT w' w.heap.size ba X T L ∧ Ext w w') := by
 by_cases h : n < 2 ∨ 64 < n
 ·exact rounds_bad n w h
 ·obtain ⟨N, rfl⟩ : ∃ N : Nat, n = N := ⟨n.toNat, by omega⟩
  exact rounds_nat N (N + N % 2 - 1) ((N + N % 2) / 2) w (by omega) (by omega) (by omega)
end
end Go.Proofs.Ytifffjhhammeiaa
