/-
  The search on a field: what is kept from round to round, in plain Lean.
-/
import Derived.Test.YtffjpfpbpnhmcaaGra
import Derived.Test.YtffjpfpbpnhmcaaWld
import Derived.Test.YtffjpfpbpnhmcaaFnc
import Derived.Test.YtffjpfpbpnhmcaaLinG
set_option linter.unusedVariables false
set_option linter.unusedSimpArgs false
namespace Go.Proofs.Ytffjpfpbpnhmcaa
open Go.RowKit

def costK (p : Int) : Int := if p = 0 ∨ p = 3 then 2 else if p = 2 then 3 else 0
def costE (p : Int) : Int := if p = 0 ∨ p = 3 then 0 else if p = 2 then 0 else if p = 1 then 9 else 1
def sidesC (c : Cel) : List Cel := [⟨c.x, c.y - 1⟩, ⟨c.x - 1, c.y⟩, ⟨c.x + 1, c.y⟩, ⟨c.x, c.y + 1⟩]
namespace Fld
section
variable {f : Fld} {c d x y b : Cel} {l far : List Int} {v : Int}
def kost (f : Fld) (c : Cel) : Int := if f.place c = 2 then 3 else 2
def adj (f : Fld) (c : Cel) : List Cel := (sidesC c).filter f.ground
def at_ (f : Fld) (c : Cel) : Nat := (c.y * f.wide + c.x).toNat
/-- How far a cell is, by a list of all places. -/
def fr (f : Fld) (far : List Int) (c : Cel) : Int := if f.isIn c then far.getD (f.at_ c) (-1) else -1
def est (b c : Cel) : Int := 2 * (sz (b.x - c.x) + sz (b.y - c.y))
theorem ground_place (h : f.ground c = true) : f.place c ≠ 1 := by unfold ground at h; rw [Bool.and_eq_true] at h; simpa using h.2
theorem ground_mk (h : f.isIn c = true) (h2 : f.place c ≠ 1) : f.ground c = true := by unfold ground; rw [h]; simpa using h2
theorem kost_bd : 2 ≤ f.kost c ∧ f.kost c ≤ 3 := by unfold kost; split <;> omega
theorem mem_adj : y ∈ f.adj x ↔ y ∈ sidesC x ∧ f.ground y = true := by unfold adj; rw [List.mem_filter]
theorem mem_sides : y ∈ sidesC x ↔ (y = ⟨x.x, x.y - 1⟩ ∨ y = ⟨x.x - 1, x.y⟩ ∨ y = ⟨x.x + 1, x.y⟩ ∨ y = ⟨x.x, x.y + 1⟩) := by unfold sidesC; simp
theorem sides_symm (h : y ∈ sidesC x) : x ∈ sidesC y := by
  rw [mem_sides] at h ⊢
  obtain ⟨a, b⟩ := x
  rcases h with rfl | rfl | rfl | rfl
  · right; right; right; simp
  · right; right; left; simp
  · right; left; simp
  · left; simp
theorem sides_ne (h : y ∈ sidesC x) : y ≠ x := by
  rw [mem_sides] at h
  obtain ⟨a, b⟩ := x
  rcases h with rfl | rfl | rfl | rfl <;> simp <;> omega
theorem est_step (b : Cel) (h : y ∈ sidesC x) : est b x ≤ 2 + est b y := by
  rw [mem_sides] at h
  obtain ⟨x1, x2⟩ := x
  have e : ∀ n : Int, sz n ≤ 1 + sz (n + 1) ∧ sz n ≤ 1 + sz (n - 1) := fun n => by
    have h1 := sz_bd n; have h2 := sz_bd (n + 1); have h3 := sz_bd (n - 1)
    rcases (show n < 0 ∨ 0 ≤ n by omega) with hn | hn
    · have := h1.2.2.2 hn
      rcases (show n + 1 < 0 ∨ 0 ≤ n + 1 by omega) with hm | hm
      · have := h2.2.2.2 hm; have := h3.2.2.2 (by omega); omega
      · have := h2.2.2.1 hm; have := h3.2.2.2 (by omega); omega
    · have := h1.2.2.1 hn
      have := h2.2.2.1 (by omega)
      rcases (show n - 1 < 0 ∨ 0 ≤ n - 1 by omega) with hm | hm
      · have := h3.2.2.2 hm; omega
      · have := h3.2.2.1 hm; omega
  unfold est
  rcases h with rfl | rfl | rfl | rfl <;> dsimp only
  · have := (e (b.y - x2)).1; rw [show b.y - (x2 - 1) = b.y - x2 + 1 by omega]; omega
  · have := (e (b.x - x1)).1; rw [show b.x - (x1 - 1) = b.x - x1 + 1 by omega]; omega
  · have := (e (b.x - x1)).2; rw [show b.x - (x1 + 1) = b.x - x1 - 1 by omega]; omega
  · have := (e (b.y - x2)).2; rw [show b.y - (x2 + 1) = b.y - x2 - 1 by omega]; omega
theorem est_nn (b c : Cel) : 0 ≤ est b c := by have := sz_bd (b.x - c.x); have := sz_bd (b.y - c.y); unfold est; omega
theorem est_self (b : Cel) : est b b = 0 := by unfold est; rw [Int.sub_self, Int.sub_self]; rfl
theorem okA (f : Fld) (b : Cel) : Gra.Ok f.adj f.kost (est b) := ⟨fun x y _ => by have := f.kost_bd (c := y); omega, est_nn b, fun x y hy => by
  have := est_step b (mem_adj.1 hy).1; have := f.kost_bd (c := y); omega⟩
theorem okZ (f : Fld) : Gra.Ok f.adj f.kost (fun _ => 0) := ⟨fun x y _ => by have := f.kost_bd (c := y); omega, fun _ => Int.le_refl 0, fun x y hy => by have := f.kost_bd (c := y); omega⟩
theorem at_inj (hf : f.chk = 0) (hc : f.isIn c = true) (hd : f.isIn d = true) (h : f.at_ c = f.at_ d) : c = d := by
  obtain ⟨a0, a1, a2, a3, a4, a5⟩ := idx hf hc
  obtain ⟨b0, b1, b2, b3, b4, b5⟩ := idx hf hd
  unfold at_ at h
  have e : c.y * f.wide + c.x = d.y * f.wide + d.x := by omega
  have e1 : (c.y * f.wide + c.x) % f.wide = c.x := by rw [Int.add_comm, Int.add_mul_emod_self_right, Int.emod_eq_of_lt a2 a3]
  have e2 : (d.y * f.wide + d.x) % f.wide = d.x := by rw [Int.add_comm, Int.add_mul_emod_self_right, Int.emod_eq_of_lt b2 b3]
  have ex : c.x = d.x := by rw [← e1, ← e2, e]
  have ey : c.y * f.wide = d.y * f.wide := by omega
  have ey : c.y = d.y := Int.eq_of_mul_eq_mul_right (by omega) ey
  cases c; cases d; simp at ex ey; rw [ex, ey]
theorem at_lt (hf : f.chk = 0) (hc : f.isIn c = true) : f.at_ c < f.places.length ∧ ((f.at_ c : Nat) : Int) = c.y * f.wide + c.x := by
  obtain ⟨a0, a1, _⟩ := idx hf hc
  unfold at_; omega
theorem fr_in (hc : f.isIn c = true) : f.fr far c = far.getD (f.at_ c) (-1) := by unfold fr; rw [if_pos hc]
theorem fr_out (hc : f.isIn c = false) : f.fr far c = -1 := by unfold fr; rw [if_neg (by rw [hc]; decide)]
theorem fr_isIn (h : 0 ≤ f.fr far c) : f.isIn c = true := by
  cases hc : f.isIn c with
  | true => rfl
  | false => rw [fr_out hc] at h; omega
theorem fr_set (hf : f.chk = 0) (hl : far.length = f.places.length) (hc : f.isIn c = true) : f.fr (far.set (f.at_ c) v) c = v := by
  rw [fr_in hc, List.getD_eq_getElem?_getD, List.getElem?_set_self (by rw [hl]; exact (at_lt hf hc).1)]; rfl
theorem fr_set_ne (hf : f.chk = 0) (hc : f.isIn c = true) (hne : d ≠ c) : f.fr (far.set (f.at_ c) v) d = f.fr far d := by
  cases hd : f.isIn d with
  | false => rw [fr_out hd, fr_out hd]
  | true => rw [fr_in hd, fr_in hd, List.getD_eq_getElem?_getD, List.getD_eq_getElem?_getD, List.getElem?_set_ne (fun e => hne (at_inj hf hd hc e.symm))]
end
end Fld
/-- How many are not known yet. -/
def und : List Int → Nat
  | [] => 0
  | x :: r => (if x < 0 then 1 else 0) + und r
theorem und_le : ∀ l : List Int, und l ≤ l.length
  | [] => Nat.le_refl _
  | x :: r => by have := und_le r; rw [und, List.length_cons]; split <;> omega
theorem und_set {v : Int} (hv : 0 ≤ v) : ∀ (l : List Int) (i : Nat), i < l.length → l.getD i (-1) < 0 → und (l.set i v) + 1 = und l
  | [], i, h, _ => by simp at h
  | x :: r, 0, _, h => by
    have h : x < 0 := h
    rw [List.set_cons_zero, und, und, if_neg (by omega), if_pos h]; omega
  | x :: r, i + 1, h, h2 => by
    have := und_set hv r i (by simpa using h) (by simpa using h2)
    rw [List.set_cons_succ, und, und]; omega
theorem und_all {n : Nat} : und (List.replicate n (-1)) = n := by
  induction n with
  | zero => rfl
  | succ n ih => rw [List.replicate_succ, und, ih]; simp; omega
/-- What a search keeps: β is what waits in its heap. -/
structure SI {β : Type} [Inhabited β] (cel : β → Cel) (fa ky : β → Int) (f : Fld) (h : Cel → Int) (src : Cel → Prop) (far : List Int) (l : List β) (x0 : Cel) (rest : List Cel) : Prop where
  len : far.length = f.places.length
  inv : Gra.Inv f.adj f.kost h src (f.fr far) (l.map fun n => (cel n, fa n)) x0 rest
  hp : Hp.Heap ky l.length l
  all : ∀ n ∈ l, ky n = fa n + h (cel n) ∧ f.ground (cel n) = true
  bd : ∀ c, f.fr far c + 3 * (und far : Int) ≤ 3 * (f.places.length : Int)
  gr : ∀ c, 0 ≤ f.fr far c → f.ground c = true
section
variable {β : Type} [Inhabited β] {cel : β → Cel} {fa ky : β → Int} {f : Fld} {h : Cel → Int} {src : Cel → Prop} {far : List Int} {l : List β} {x0 y : Cel} {rest : List Cel} {n : β} {j : Nat}
theorem SI.fa_bd (s : SI cel fa ky f h src far l x0 rest) (o : Gra.Ok f.adj f.kost h) (hn : n ∈ l) : 0 ≤ fa n ∧ fa n + 3 * (und far : Int) ≤ 3 * (f.places.length : Int) + 3 := by
  have hm : (cel n, fa n) ∈ l.map fun n => (cel n, fa n) := List.mem_map.2 ⟨n, hn, rfl⟩
  have hr := s.inv.rch hm
  refine ⟨hr.nn o, ?_⟩
  have hu := und_le far
  have := s.len
  rcases s.inv.q _ hm with ⟨_, h2⟩ | ⟨p, h1, h2, h3⟩
  · have h2 : fa n = 0 := h2; omega
  · have h3 : fa n = f.fr far p + f.kost (cel n) := h3
    have := s.bd p
    have := f.kost_bd (c := cel n); omega
theorem SI.perm0 (h0 : 0 < l.length) : (l.map fun n => (cel n, fa n)).Perm ((cel (l.getD 0 default), fa (l.getD 0 default)) :: (Hp.popL ky l).map fun n => (cel n, fa n)) :=
  ((Hp.popL_perm (key := ky) h0).symm.map _)
theorem SI.least (s : SI cel fa ky f h src far l x0 rest) (h0 : 0 < l.length) : ∀ e ∈ l.map fun n => (cel n, fa n), fa (l.getD 0 default) + h (cel (l.getD 0 default)) ≤ e.2 + h e.1 := by
  intro e he
  obtain ⟨n, hn, rfl⟩ := List.mem_map.1 he
  have h1 := s.hp.least n hn
  rw [(s.all n hn).1, (s.all _ (mem_dd h0)).1] at h1
  exact h1
theorem SI.sub (h0 : 0 < l.length) (hn : n ∈ Hp.popL ky l) : n ∈ l := (Hp.popL_perm (key := ky) h0).subset (List.mem_cons_of_mem _ hn)
theorem SI.skip0 (s : SI cel fa ky f h src far l x0 []) (h0 : 0 < l.length) (hd : 0 ≤ f.fr far (cel (l.getD 0 default))) : SI cel fa ky f h src far (Hp.popL ky l) x0 [] :=
  ⟨s.len, s.inv.popSkip (SI.perm0 h0) hd, Hp.popL_heap s.hp h0, fun n hn => s.all n (SI.sub h0 hn), s.bd, s.gr⟩
theorem SI.new (s : SI cel fa ky f h src far l x0 []) (hf : f.chk = 0) (o : Gra.Ok f.adj f.kost h) (h0 : 0 < l.length) (hd : f.fr far (cel (l.getD 0 default)) < 0) :
    SI cel fa ky f h src (far.set (f.at_ (cel (l.getD 0 default))) (fa (l.getD 0 default))) (Hp.popL ky l) (cel (l.getD 0 default)) (f.adj (cel (l.getD 0 default))) ∧ und (far.set (f.at_ (cel (l.getD 0 default))) (fa (l.getD 0 default))) + 1 = und far := by
  have hg := (s.all _ (mem_dd h0 (d := default))).2
  have hi := Fld.ground_in hg
  have hb := s.fa_bd o (mem_dd h0 (d := default))
  have hu : und (far.set (f.at_ (cel (l.getD 0 default))) (fa (l.getD 0 default))) + 1 = und far := und_set hb.1 far _ (by rw [s.len]; exact (Fld.at_lt hf hi).1) (by rw [Fld.fr_in hi] at hd; exact hd)
  refine ⟨⟨by rw [List.length_set]; exact s.len, (s.inv.popNew o (SI.perm0 h0) hd (s.least h0) (Fld.fr_set hf s.len hi) (fun z hz => Fld.fr_set_ne hf hi hz)).1, Hp.popL_heap s.hp h0, fun n hn => s.all n (SI.sub h0 hn), fun c => ?_, fun c hc => ?_⟩, hu⟩
  · by_cases e : c = cel (l.getD 0 default)
    · rw [e, Fld.fr_set hf s.len hi]; omega
    · rw [Fld.fr_set_ne hf hi e]; have := s.bd c; omega
  · by_cases e : c = cel (l.getD 0 default)
    · rw [e]; exact hg
    · rw [Fld.fr_set_ne hf hi e] at hc; exact s.gr c hc
theorem SI.push (s : SI cel fa ky f h src far l x0 (y :: rest)) (o : Gra.Ok f.adj f.kost h) (hg : f.ground y = true) (h1 : cel n = y) (h2 : fa n = f.fr far x0 + f.kost y) (h3 : ky n = fa n + h y) : SI cel fa ky f h src far (Hp.push ky l n) x0 rest := by
  refine ⟨s.len, s.inv.push o ?_, Hp.push_heap s.hp, fun m hm => ?_, s.bd, s.gr⟩
  · have := (Hp.push_perm (key := ky) (l := l) (x := n)).map fun n => (cel n, fa n)
    rw [List.map_cons, h1, h2] at this; exact this
  · rcases List.mem_cons.1 ((Hp.push_perm (key := ky)).subset hm) with rfl | hm
    · rw [h1]; exact ⟨h3, hg⟩
    · exact s.all m hm
theorem SI.pass (s : SI cel fa ky f h src far l x0 (y :: rest)) (hy : 0 ≤ f.fr far y) : SI cel fa ky f h src far l x0 rest := ⟨s.len, s.inv.skip hy, s.hp, s.all, s.bd, s.gr⟩
/-- One of the four sides is looked at. -/
theorem sides_drop {f : Fld} {x : Cel} {j : Nat} (hj : j < 4) : ((sidesC x).drop j).filter f.ground = if f.ground ((sidesC x).getD j default) then (sidesC x).getD j default :: ((sidesC x).drop (j + 1)).filter f.ground else ((sidesC x).drop (j + 1)).filter f.ground := by
  have hl : (sidesC x).length = 4 := rfl
  rw [List.drop_eq_getElem_cons (by omega), List.filter_cons, getD_dd (by omega)]
theorem SI.look_out (s : SI cel fa ky f h src far l x0 (((sidesC x0).drop j).filter f.ground)) (hj : j < 4) (hg : f.ground ((sidesC x0).getD j default) = false) : SI cel fa ky f h src far l x0 (((sidesC x0).drop (j + 1)).filter f.ground) := by
  rw [sides_drop hj, if_neg (by rw [hg]; decide)] at s; exact s
theorem SI.look_known (s : SI cel fa ky f h src far l x0 (((sidesC x0).drop j).filter f.ground)) (hj : j < 4) (hy : 0 ≤ f.fr far ((sidesC x0).getD j default)) (hg : f.ground ((sidesC x0).getD j default) = true) : SI cel fa ky f h src far l x0 (((sidesC x0).drop (j + 1)).filter f.ground) := by
  rw [sides_drop hj, if_pos hg] at s; exact s.pass hy
theorem SI.look_new (s : SI cel fa ky f h src far l x0 (((sidesC x0).drop j).filter f.ground)) (o : Gra.Ok f.adj f.kost h) (hj : j < 4) (hg : f.ground ((sidesC x0).getD j default) = true) (h1 : cel n = (sidesC x0).getD j default) (h2 : fa n = f.fr far x0 + f.kost ((sidesC x0).getD j default)) (h3 : ky n = fa n + h ((sidesC x0).getD j default)) :
    SI cel fa ky f h src far (Hp.push ky l n) x0 (((sidesC x0).drop (j + 1)).filter f.ground) := by
  rw [sides_drop hj, if_pos hg] at s; exact s.push o hg h1 h2 h3
end
end Go.Proofs.Ytffjpfpbpnhmcaa
