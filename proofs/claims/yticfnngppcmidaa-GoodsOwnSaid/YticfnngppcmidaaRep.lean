/-
  How data lie in cells, told by a codec: read ('has') or held by the call alone ('own', with the blocks that it takes).
-/
import Derived.Test.YticfnngppcmidaaMem
import Derived.Test.YticfnngppcmidaaOpen
set_option linter.unusedVariables false
namespace Go.Proofs.Yticfnngppcmidaa
open Go.RowKit

/-- Two lists, thing by thing. -/
def All2 {β α : Type} (P : β → α → Prop) : List β → List α → Prop
  | [], [] => True
  | b :: bs, a :: m => P b a ∧ All2 P bs m
  | _, _ => False
section
variable {β α : Type} {P Q : β → α → Prop}
theorem All2.length : ∀ {l : List β} {m : List α}, All2 P l m → l.length = m.length
  | [], [], _ => rfl
  | _ :: _, _ :: _, h => by rw [List.length_cons, List.length_cons, All2.length h.2]
  | [], _ :: _, h => h.elim
  | _ :: _, [], h => h.elim
theorem All2.imp {l : List β} (hi : ∀ b a, b ∈ l → P b a → Q b a) : ∀ {m : List α}, All2 P l m → All2 Q l m := by
  induction l with
  | nil => intro m h; cases m with | nil => trivial | cons => exact h
  | cons b r ih =>
    intro m h
    cases m with
    | nil => exact h
    | cons a s => exact ⟨hi b a (by simp) h.1, ih (fun b a hb => hi b a (by simp [hb])) h.2⟩
theorem All2.app : ∀ {l : List β} {m : List α} {l' : List β} {m' : List α}, All2 P l m → All2 P l' m' → All2 P (l ++ l') (m ++ m')
  | [], [], _, _, _, h => h
  | _ :: _, _ :: _, _, _, h, h' => ⟨h.1, All2.app h.2 h'⟩
  | [], _ :: _, _, _, h, _ => h.elim
  | _ :: _, [], _, _, h, _ => h.elim
theorem All2.at_ : ∀ {l : List β} {m : List α} {i : Nat} {a : α}, All2 P l m → m[i]? = some a → ∃ b, l[i]? = some b ∧ P b a
  | [], [], _, _, _, h => by simp at h
  | b :: _, _ :: _, 0, _, h, e => ⟨b, rfl, by simp at e; subst e; exact h.1⟩
  | _ :: _, _ :: _, i + 1, _, h, e => by
    obtain ⟨b, h1, h2⟩ := All2.at_ (i := i) h.2 (by simpa using e)
    exact ⟨b, by simpa using h1, h2⟩
  | [], _ :: _, _, _, h, _ => h.elim
  | _ :: _, [], _, _, h, _ => h.elim
theorem All2.set_ : ∀ {l : List β} {m : List α} {i : Nat} {b : β} {a : α}, All2 P l m → P b a → All2 P (l.set i b) (m.set i a)
  | [], [], _, _, _, _, _ => trivial
  | _ :: _, _ :: _, 0, _, _, h, e => ⟨e, h.2⟩
  | _ :: _, _ :: _, _ + 1, _, _, h, e => ⟨h.1, All2.set_ h.2 e⟩
  | [], _ :: _, _, _, _, h, _ => h.elim
  | _ :: _, [], _, _, _, h, _ => h.elim
theorem All2.take_ : ∀ {l : List β} {m : List α} (k : Nat), All2 P l m → All2 P (l.take k) (m.take k)
  | [], [], _, _ => by simp [All2]
  | _ :: _, _ :: _, 0, _ => trivial
  | _ :: _, _ :: _, k + 1, h => ⟨h.1, All2.take_ k h.2⟩
  | [], _ :: _, _, h => h.elim
  | _ :: _, [], _, h => h.elim
theorem All2.drop_ : ∀ {l : List β} {m : List α} (k : Nat), All2 P l m → All2 P (l.drop k) (m.drop k)
  | [], [], _, _ => by simp [All2]
  | _ :: _, _ :: _, 0, h => h
  | _ :: _, _ :: _, k + 1, h => All2.drop_ k h.2
  | [], _ :: _, _, h => h.elim
  | _ :: _, [], _, h => h.elim
theorem All2.left : ∀ {l : List β} {m : List α}, All2 P l m → ∀ b ∈ l, ∃ a, P b a
  | [], _, _, b, hb => by simp at hb
  | c :: _, [], h, _, _ => h.elim
  | c :: _, a :: _, h, b, hb => by
    rcases List.mem_cons.1 hb with rfl | hb
    · exact ⟨a, h.1⟩
    · exact All2.left h.2 b hb
end
/-- Rows of one width, laid flat. -/
theorem flat_len {k : Nat} : ∀ {l : List (List Value)}, (∀ x ∈ l, x.length = k) → l.flatten.length = l.length * k
  | [], _ => by simp
  | x :: r, h => by rw [List.flatten_cons, List.length_append, h x (by simp), flat_len (l := r) (fun y hy => h y (by simp [hy])), List.length_cons, Nat.add_mul]; omega
theorem flat_get {k : Nat} : ∀ {l : List (List Value)} {i j : Nat} {es : List Value}, (∀ x ∈ l, x.length = k) → l[i]? = some es → j < k → l.flatten[i * k + j]? = es[j]?
  | [], _, _, _, _, h, _ => by simp at h
  | x :: r, 0, j, es, h, e, hj => by
    have e : x = es := by simpa using e
    subst e
    rw [List.flatten_cons, Nat.zero_mul, Nat.zero_add, List.getElem?_append_left (by rw [h x (by simp)]; exact hj)]
  | x :: r, i + 1, j, es, h, e, hj => by
    have hx := h x (by simp)
    rw [List.flatten_cons, List.getElem?_append_right (by rw [hx, Nat.add_mul]; omega), hx, show (i + 1) * k + j - k = i * k + j from by rw [Nat.add_mul]; omega]
    exact flat_get (fun y hy => h y (by simp [hy])) (by simpa using e) hj
theorem flat_set {k : Nat} : ∀ {l : List (List Value)} {i j : Nat} {es : List Value} (u : Value), (∀ x ∈ l, x.length = k) → l[i]? = some es → j < k → l.flatten.set (i * k + j) u = (l.set i (es.set j u)).flatten
  | [], _, _, _, _, _, h, _ => by simp at h
  | x :: r, 0, j, es, u, h, e, hj => by
    have e : x = es := by simpa using e
    subst e
    rw [List.flatten_cons, Nat.zero_mul, Nat.zero_add, List.set_append_left _ _ (by rw [h x (by simp)]; exact hj)]
    rfl
  | x :: r, i + 1, j, es, u, h, e, hj => by
    have hx := h x (by simp)
    rw [List.flatten_cons, List.set_append_right _ _ (by rw [hx, Nat.add_mul]; omega), hx, show (i + 1) * k + j - k = i * k + j from by rw [Nat.add_mul]; omega, flat_set u (fun y hy => h y (by simp [hy])) (by simpa using e) hj]
    rfl
theorem flat_take {k : Nat} : ∀ {l : List (List Value)} (i : Nat), (∀ x ∈ l, x.length = k) → l.flatten.take (i * k) = (l.take i).flatten
  | [], _, _ => by simp
  | x :: r, 0, _ => by simp
  | x :: r, i + 1, h => by
    have hx := h x (by simp)
    rw [List.flatten_cons, List.take_succ_cons, List.flatten_cons, List.take_append, hx, List.take_of_length_le (by rw [hx, Nat.add_mul]; omega), show (i + 1) * k - k = i * k from by rw [Nat.add_mul]; omega, flat_take i (fun y hy => h y (by simp [hy]))]
theorem flat_drop {k : Nat} : ∀ {l : List (List Value)} (i : Nat), (∀ x ∈ l, x.length = k) → l.flatten.drop (i * k) = (l.drop i).flatten
  | [], _, _ => by simp
  | x :: r, 0, _ => by simp
  | x :: r, i + 1, h => by
    have hx := h x (by simp)
    rw [List.flatten_cons, List.drop_succ_cons, List.drop_append, hx, List.drop_of_length_le (by rw [hx, Nat.add_mul]; omega), show (i + 1) * k - k = i * k from by rw [Nat.add_mul]; omega, flat_drop i (fun y hy => h y (by simp [hy])), List.nil_append]

/-- How data of a kind lie in cells. -/
structure Rep (α : Type) where
  size : Nat
  has : World → List Value → α → Prop
  own : World → Nat → List Nat → List Value → α → Prop
  raw : Nat → Value → Prop
  len : ∀ {w cs a}, has w cs a → cs.length = size
  one : ∀ {w cs a}, has w cs a → ∀ u ∈ cs, u.oneCell' = true
  raw_ : ∀ {w cs a}, has w cs a → ∀ (j : Nat) u, cs[j]? = some u → raw j u
  keep : ∀ {w w' cs a}, has w cs a → Below w.heap.size w w' → has w' cs a
  ohas : ∀ {w B f cs a}, own w B f cs a → has w cs a
  okeep : ∀ {w w' B f cs a}, own w B f cs a → (∀ g ∈ f, w'.heap[g]? = w.heap[g]?) → own w' B f cs a
  olt : ∀ {w B f cs a}, own w B f cs a → ∀ g ∈ f, B ≤ g ∧ g < w.heap.size
  odown : ∀ {w B B' f cs a}, own w B f cs a → B' ≤ B → own w B' f cs a
theorem rd_row (w : World) (cs : Array Value) (t : TypeId) (size n : Nat) (h : cs.size = n * size) : Rd (w.alloc (.cells cs t)) size (some ⟨w.heap.size, 0, none⟩) n cs.toList :=
  ⟨by simpa using h, fun _ => ⟨w.heap.size, 0, rfl, fun j u hu => by
    rw [Nat.zero_add, cell_of_row _ _ j cs t (0, 0) (heap_alloc_new w _), ← Array.getElem?_toList]
    exact hu⟩⟩
theorem rd_one (w : World) (v : Value) (t : TypeId) : Rd (w.alloc (.cells #[v] t)) 1 (some ⟨w.heap.size, 0, none⟩) 1 [v] := rd_row w #[v] t 1 1 rfl
namespace Rep
variable {α β : Type} {w w' : World} {B B' : Nat} {f : List Nat} {cs : List Value} {a : α}
theorem olen (R : Rep α) (h : R.own w B f cs a) : cs.length = R.size := R.len (R.ohas h)
theorem olater (R : Rep α) (h : R.own w B f cs a) (hb : Below w.heap.size w w') : R.own w' B f cs a := R.okeep h fun g hg => hb.block g (R.olt h g hg).2
theorem odrewN (R : Rep α) (h : R.own w B f cs a) (k : Nat) : R.own (w.drewN k) B f cs a := R.okeep h fun _ _ => rfl
theorem hdrewN (R : Rep α) (h : R.has w cs a) (k : Nat) : R.has (w.drewN k) cs a := R.keep h (below_drewN (Below.refl _ w) k)
/-- A store into a block that is none of these. -/
theorem oother (R : Rep α) (h : R.own w B f cs a) {p : Addr} (hp : p.block ∉ f) (u : Value) : R.own (w.setCell p u) B f cs a :=
  R.okeep h fun g hg => heap_setCell_other _ _ _ _ (fun e => hp (e ▸ hg))
/-- Cells that point nowhere. -/
def flat (size : Nat) (cells : α → List Value) (ok : α → Prop) (raw : Nat → Value → Prop) (hl : ∀ a, (cells a).length = size) (h1 : ∀ a, ∀ u ∈ cells a, u.oneCell' = true) (hr : ∀ a (j : Nat) u, (cells a)[j]? = some u → raw j u) : Rep α where
  size := size
  has := fun _ cs a => cs = cells a ∧ ok a
  own := fun _ _ f cs a => f = [] ∧ cs = cells a ∧ ok a
  raw := raw
  len := by rintro w cs a ⟨rfl, _⟩; exact hl a
  one := by rintro w cs a ⟨rfl, _⟩; exact h1 a
  raw_ := by rintro w cs a ⟨rfl, _⟩; exact hr a
  keep := fun h _ => h
  ohas := fun h => h.2
  okeep := fun h _ => h
  olt := by rintro w B f cs a ⟨rfl, _⟩ g hg; simp at hg
  odown := fun h _ => h
/-- One thing behind another one. -/
def pair (R : Rep α) (S : Rep β) : Rep (α × β) where
  size := R.size + S.size
  has := fun w cs p => ∃ xs ys, cs = xs ++ ys ∧ R.has w xs p.1 ∧ S.has w ys p.2
  own := fun w B f cs p => ∃ xs ys f1 f2, cs = xs ++ ys ∧ f = f1 ++ f2 ∧ R.own w B f1 xs p.1 ∧ S.own w B f2 ys p.2
  raw := fun j u => if j < R.size then R.raw j u else S.raw (j - R.size) u
  len := by rintro w cs p ⟨xs, ys, rfl, h1, h2⟩; rw [List.length_append, R.len h1, S.len h2]
  one := by
    rintro w cs p ⟨xs, ys, rfl, h1, h2⟩ u hu
    rcases List.mem_append.1 hu with hu | hu
    · exact R.one h1 u hu
    · exact S.one h2 u hu
  raw_ := by
    rintro w cs p ⟨xs, ys, rfl, h1, h2⟩ j u hu
    by_cases hj : j < R.size
    · rw [if_pos hj]; rw [List.getElem?_append_left (by rw [R.len h1]; exact hj)] at hu; exact R.raw_ h1 j u hu
    · rw [if_neg hj]; rw [List.getElem?_append_right (by rw [R.len h1]; omega), R.len h1] at hu; exact S.raw_ h2 _ u hu
  keep := by rintro w w' cs p ⟨xs, ys, rfl, h1, h2⟩ hb; exact ⟨xs, ys, rfl, R.keep h1 hb, S.keep h2 hb⟩
  ohas := by rintro w B f cs p ⟨xs, ys, f1, f2, rfl, rfl, h1, h2⟩; exact ⟨xs, ys, rfl, R.ohas h1, S.ohas h2⟩
  okeep := by
    rintro w w' B f cs p ⟨xs, ys, f1, f2, rfl, rfl, h1, h2⟩ hk
    exact ⟨xs, ys, f1, f2, rfl, rfl, R.okeep h1 (fun g hg => hk g (by simp [hg])), S.okeep h2 (fun g hg => hk g (by simp [hg]))⟩
  olt := by
    rintro w B f cs p ⟨xs, ys, f1, f2, rfl, rfl, h1, h2⟩ g hg
    rcases List.mem_append.1 hg with hg | hg
    · exact R.olt h1 g hg
    · exact S.olt h2 g hg
  odown := by
    rintro w B B' f cs p ⟨xs, ys, f1, f2, rfl, rfl, h1, h2⟩ hb
    exact ⟨xs, ys, f1, f2, rfl, rfl, R.odown h1 hb, S.odown h2 hb⟩
/-- Told by another kind. -/
def via (R : Rep α) (g : β → α) : Rep β where
  size := R.size
  has := fun w cs b => R.has w cs (g b)
  own := fun w B f cs b => R.own w B f cs (g b)
  raw := R.raw
  len := fun h => R.len h
  one := fun h => R.one h
  raw_ := fun h => R.raw_ h
  keep := fun h hb => R.keep h hb
  ohas := fun h => R.ohas h
  okeep := fun h hk => R.okeep h hk
  olt := fun h => R.olt h
  odown := fun h hb => R.odown h hb

/-- The block of a slice's array. -/
def blkOf : Option Addr → List Nat
  | none => []
  | some a => [a.block]
theorem mem_blkOf {A : Option Addr} {g : Nat} : g ∈ blkOf A ↔ ∃ a, A = some a ∧ a.block = g := by
  cases A with
  | none => simp [blkOf]
  | some a => simp [blkOf, eq_comm]
/-- A slice that is read. -/
def SHas (R : Rep α) (by_ : Nat) (w : World) (A : Option Addr) (c : Nat) (l : List α) : Prop :=
  l.length ≤ c ∧ c ≤ 9223372036854775807 ∧ l.length * by_ ≤ 140737488355328 ∧ (A = none → c = 0) ∧
  ∃ ess, All2 (fun es a => R.has w es a) ess l ∧ Rd w R.size A l.length ess.flatten
/-- A slice that the call alone holds. -/
def SOwn (R : Rep α) (E : TypeId) (by_ : Nat) (w : World) (B : Nat) (f : List Nat) (A : Option Addr) (c : Nat) (l : List α) : Prop :=
  l.length * by_ ≤ 140737488355328 ∧
  ∃ ps : List (List Nat × List Value), f = blkOf A ++ (ps.map (·.1)).flatten ∧ f.Nodup ∧ Own w B E R.size R.raw (.slice A l.length c) l.length (ps.map (·.2)).flatten ∧
    All2 (fun x a => R.own w B x.1 x.2 a) ps l
theorem SHas.keep {R : Rep α} {by_ : Nat} {A : Option Addr} {c : Nat} {l : List α} (h : R.SHas by_ w A c l) (hb : Below w.heap.size w w') : R.SHas by_ w' A c l := by
  obtain ⟨h1, h2, h3, h4, ess, h5, h6⟩ := h
  exact ⟨h1, h2, h3, h4, ess, h5.imp (fun es a _ h => R.keep h hb), h6.later hb⟩
theorem SHas.drewN {R : Rep α} {by_ : Nat} {A : Option Addr} {c : Nat} {l : List α} (h : R.SHas by_ w A c l) (k : Nat) : R.SHas by_ (w.drewN k) A c l := h.keep (below_drewN (Below.refl _ w) k)
theorem All2.map_ {β γ α : Type} (g : β → γ) {P : γ → α → Prop} : ∀ {l : List β} {m : List α}, All2 (fun b a => P (g b) a) l m → All2 P (l.map g) m
  | [], [], _ => trivial
  | _ :: _, _ :: _, h => ⟨h.1, All2.map_ g h.2⟩
  | [], _ :: _, h => h.elim
  | _ :: _, [], h => h.elim
theorem SOwn.has {R : Rep α} {E : TypeId} {by_ : Nat} {A : Option Addr} {c : Nat} {l : List α} (h : R.SOwn E by_ w B f A c l) : R.SHas by_ w A c l := by
  obtain ⟨h1, ps, rfl, h3, h4, h5⟩ := h
  obtain ⟨A', c', e, hle, hmx, hrd, _, hnn⟩ := h4.shape
  injection e with e1 _ e2
  subst e1; subst e2
  refine ⟨hle, by unfold maxLen at hmx; omega, h1, fun hn => by have := hnn hn; injection this, _, All2.map_ (fun x : List Nat × List Value => x.2) (h5.imp fun x a _ h => R.ohas h), hrd⟩
theorem SOwn.keep {R : Rep α} {E : TypeId} {by_ : Nat} {A : Option Addr} {c : Nat} {l : List α} (h : R.SOwn E by_ w B f A c l) (hk : ∀ g ∈ f, w'.heap[g]? = w.heap[g]?) : R.SOwn E by_ w' B f A c l := by
  obtain ⟨h1, ps, rfl, h3, h4, h5⟩ := h
  refine ⟨h1, ps, rfl, h3, h4.of_block (B := 0) fun g hg => hk g ?_, h5.imp fun x a hx h => R.okeep h fun g hg => hk g ?_⟩
  · cases A with
    | none => cases hg
    | some a => injection hg with hg; simp [blkOf, hg]
  · exact List.mem_append.2 (.inr (List.mem_flatten.2 ⟨x.1, List.mem_map.2 ⟨x, hx, rfl⟩, hg⟩))
theorem SOwn.lt {R : Rep α} {E : TypeId} {by_ : Nat} {A : Option Addr} {c : Nat} {l : List α} (h : R.SOwn E by_ w B f A c l) : ∀ g ∈ f, B ≤ g ∧ g < w.heap.size := by
  obtain ⟨h1, ps, rfl, h3, h4, h5⟩ := h
  intro g hg
  rcases List.mem_append.1 hg with hg | hg
  · obtain ⟨a, rfl, rfl⟩ := mem_blkOf.1 hg
    exact h4.row.lt _ rfl
  · obtain ⟨y, hy, hg⟩ := List.mem_flatten.1 hg
    obtain ⟨x, hx, rfl⟩ := List.mem_map.1 hy
    obtain ⟨a, ha⟩ := h5.left x hx
    exact R.olt ha g hg
theorem SOwn.later {R : Rep α} {E : TypeId} {by_ : Nat} {A : Option Addr} {c : Nat} {l : List α} (h : R.SOwn E by_ w B f A c l) (hb : Below w.heap.size w w') : R.SOwn E by_ w' B f A c l := h.keep fun g hg => hb.block g (h.lt g hg).2
theorem SOwn.nil_c {R : Rep α} {E : TypeId} {by_ : Nat} {c : Nat} {l : List α} (h : R.SOwn E by_ w B f none c l) : l = [] ∧ c = 0 := by
  have h1 := h.has
  have := h1.2.2.2.1 rfl
  have h2 := h1.1
  exact ⟨List.eq_nil_of_length_eq_zero (by omega), this⟩
theorem SOwn.nodup {R : Rep α} {E : TypeId} {by_ : Nat} {A : Option Addr} {c : Nat} {l : List α} (h : R.SOwn E by_ w B f A c l) : f.Nodup := by
  obtain ⟨_, ps, rfl, h3, _⟩ := h
  exact h3
theorem SOwn.own_ge {R : Rep α} {E : TypeId} {by_ : Nat} {A : Option Addr} {c : Nat} {l : List α} (h : R.SOwn E by_ w B f A c l) {q n d B' : Nat} (hq : (Value.slice A n d).ownBlock = some q) (hB : B' ≤ B) : B' ≤ q := by
  obtain ⟨_, ps, rfl, h3, h4, _⟩ := h
  cases A with
  | none => cases hq
  | some a =>
    injection hq with hq
    have := (h4.row.lt a.block rfl).1
    omega
theorem SOwn.down {R : Rep α} {E : TypeId} {by_ : Nat} {A : Option Addr} {c : Nat} {l : List α} (h : R.SOwn E by_ w B f A c l) (hb : B' ≤ B) : R.SOwn E by_ w B' f A c l := by
  obtain ⟨h1, ps, rfl, h3, h4, h5⟩ := h
  exact ⟨h1, ps, rfl, h3, h4.mono hb, h5.imp fun x a _ h => R.odown h hb⟩
/-- A slice of things. -/
def slice (R : Rep α) (E : TypeId) (by_ : Nat) : Rep (List α) where
  size := 1
  has := fun w cs l => ∃ A c, cs = [.slice A l.length c] ∧ R.SHas by_ w A c l
  own := fun w B f cs l => ∃ A c, cs = [.slice A l.length c] ∧ R.SOwn E by_ w B f A c l
  raw := fun _ u => ∃ A n c, u = .slice A n c
  len := by rintro w cs l ⟨A, c, rfl, _⟩; rfl
  one := by rintro w cs l ⟨A, c, rfl, _⟩ u hu; simp at hu; subst hu; rfl
  raw_ := by
    rintro w cs l ⟨A, c, rfl, _⟩ j u hu
    cases j with
    | zero => simp at hu; exact ⟨_, _, _, hu.symm⟩
    | succ j => simp at hu
  keep := by rintro w w' cs l ⟨A, c, rfl, h⟩ hb; exact ⟨A, c, rfl, h.keep hb⟩
  ohas := by rintro w B f cs l ⟨A, c, rfl, h⟩; exact ⟨A, c, rfl, h.has⟩
  okeep := by rintro w w' B f cs l ⟨A, c, rfl, h⟩ hk; exact ⟨A, c, rfl, h.keep hk⟩
  olt := by rintro w B f cs l ⟨A, c, rfl, h⟩; exact h.lt
  odown := by rintro w B B' f cs l ⟨A, c, rfl, h⟩ hb; exact ⟨A, c, rfl, h.down hb⟩
theorem All2.of_get {β α : Type} {P : β → α → Prop} : ∀ {l : List β} {m : List α}, l.length = m.length → (∀ (k : Nat) b a, l[k]? = some b → m[k]? = some a → P b a) → All2 P l m
  | [], [], _, _ => trivial
  | b :: l, a :: m, hl, h => ⟨h 0 b a rfl rfl, All2.of_get (by simpa using hl) (fun k b a h1 h2 => h (k + 1) b a (by simpa using h1) (by simpa using h2))⟩
  | [], _ :: _, hl, _ => by simp at hl
  | _ :: _, [], hl, _ => by simp at hl
theorem split_at {β : Type} : ∀ {l : List β} {i : Nat} {b : β}, l[i]? = some b → ∃ p q, l = p ++ b :: q ∧ p.length = i
  | [], _, _, h => by simp at h
  | x :: r, 0, b, h => ⟨[], r, by simpa using h, rfl⟩
  | x :: r, i + 1, b, h => by
    obtain ⟨p, q, e, hl⟩ := split_at (l := r) (i := i) (b := b) (by simpa using h)
    exact ⟨x :: p, q, by rw [e]; rfl, by rw [List.length_cons, hl]⟩
theorem set_mid {β : Type} (p q : List β) (b b' : β) : (p ++ b :: q).set p.length b' = p ++ b' :: q := by
  induction p with
  | nil => rfl
  | cons x r ih => rw [List.cons_append, List.length_cons, List.set_cons_succ, ih]; rfl
section
variable {R : Rep α} {E : TypeId} {by_ : Nat} {A : Option Addr} {c : Nat} {l : List α}
theorem lens {ess : List (List Value)} (h : All2 (fun es a => R.has w es a) ess l) : ∀ x ∈ ess, x.length = R.size := fun x hx => by
  obtain ⟨a, ha⟩ := h.left x hx
  exact R.len ha
/-- Cells of a slice that is read. -/
theorem SHas.at_ (h : R.SHas by_ w A c l) (h0 : 0 < l.length) : ∃ b o, A = some ⟨b, o, none⟩ ∧ ∀ (i : Nat) a, l[i]? = some a → ∃ es, R.has w es a ∧ ∀ (j : Nat) u, es[j]? = some u → w.cell? ⟨b, o + (i * R.size + j), none⟩ = some u := by
  obtain ⟨_, _, _, _, ess, h5, h6, h7⟩ := h
  obtain ⟨b, o, e, hc⟩ := h7 h0
  refine ⟨b, o, e, fun i a ha => ?_⟩
  obtain ⟨es, h8, h9⟩ := h5.at_ ha
  refine ⟨es, h9, fun j u hu => hc _ u ?_⟩
  have hj := (List.getElem?_eq_some_iff.1 hu).1
  rw [R.len h9] at hj
  rw [flat_get (lens h5) h8 hj]
  exact hu
theorem SHas.all_ {Q : α → Prop} (hq : ∀ {w cs a}, R.has w cs a → Q a) (h : R.SHas by_ w A c l) : ∀ a ∈ l, Q a := by
  obtain ⟨_, _, _, _, ess, h5, _⟩ := h
  intro a ha
  obtain ⟨i, hi, rfl⟩ := List.mem_iff_getElem.1 ha
  obtain ⟨es, _, he⟩ := h5.at_ (List.getElem?_eq_getElem hi)
  exact hq he
/-- An argument's slice, opened. -/
theorem opens_slice {e : Sh} (he : ∀ w cs, e.Ok w cs → ∃ a, R.has w cs a) (hs : e.size = R.size) (h0 : 0 < R.size) {cs : List Value} (h : (Sh.slice e by_).Ok w cs) : ∃ A c l, cs = [.slice A (List.length l) c] ∧ R.SHas by_ w A c l := by
  rcases h with rfl | ⟨a, len, cap, rfl, hl, hm, hr, hi⟩
  · exact ⟨none, 0, [], rfl, Nat.le_refl _, by simp, by simp, fun _ => rfl, [], trivial, Rd.zero w R.size none⟩
  · obtain ⟨ess, hlen, hes⟩ := list_of len (fun i es => List.length es = e.size ∧ (∀ j v, es[j]? = some v → w.cell? (a.add (i * e.size + j)) = some v) ∧ e.Ok w es) (fun i hi' => hi i (by omega))
    obtain ⟨l, hl2, hla⟩ := list_of len (fun i x => ∃ es, ess[i]? = some es ∧ R.has w es x) (fun i hi' => by
      obtain ⟨x, hx⟩ := he w (ess[i]'(by omega)) (hes i (by omega)).2.2
      exact ⟨x, _, List.getElem?_eq_getElem _, hx⟩)
    have hall : All2 (fun es x => R.has w es x) ess l := by
      refine All2.of_get (by omega) fun k es x h1 h2 => ?_
      have hk := (List.getElem?_eq_some_iff.1 h2)
      obtain ⟨hk1, hk2⟩ := hk
      obtain ⟨es', h3, h4⟩ := hla k hk1
      rw [h1] at h3
      obtain rfl := Option.some.inj h3
      rw [← hk2]; exact h4
    refine ⟨some a, cap, l, by rw [hl2], by omega, by unfold maxLen at hm; omega, ?_, fun h => (by cases h), ess, hall, by rw [flat_len (lens hall), hall.length], fun h0' => ?_⟩
    · have := Nat.mul_le_mul_right by_ hl
      rw [hl2]; omega
    · obtain ⟨b, off, spot⟩ := a
      have hc0 := (hes 0 (by omega)).2.1 0
      obtain ⟨v, hv⟩ : ∃ v, (ess[0]'(by omega))[0]? = some v := by
        have := (hes 0 (by omega)).1
        exact ⟨_, List.getElem?_eq_getElem (by omega)⟩
      have hc1 := hc0 v hv
      have hspot : spot = none := by simpa [Addr.add] using World.cell?_spot hc1
      subst hspot
      refine ⟨b, off, rfl, fun j u hu => ?_⟩
      have hlt := (List.getElem?_eq_some_iff.1 hu).1
      rw [flat_len (lens hall)] at hlt
      have hj : j % R.size < R.size := Nat.mod_lt _ h0
      have hd : j / R.size < ess.length := by rw [Nat.div_lt_iff_lt_mul h0]; exact hlt
      have hsum : j / R.size * R.size + j % R.size = j := by rw [Nat.mul_comm]; exact Nat.div_add_mod j R.size
      have h6 := flat_get (j := j % R.size) (lens hall) (i := j / R.size) (es := ess[j / R.size]'hd) (List.getElem?_eq_getElem hd) hj
      rw [hsum, hu] at h6
      have h7 := (hes (j / R.size) hd).2.1 _ u h6.symm
      rw [addAt, hs, hsum] at h7
      exact h7
theorem SHas.len_le {A : Option Addr} {c : Nat} {l : List α} {by_ : Nat} {R : Rep α} (h : R.SHas by_ w A c l) : l.length ≤ 9223372036854775807 := Nat.le_trans h.1 h.2.1
theorem SHas.take_ {A : Option Addr} {c : Nat} {l : List α} {by_ : Nat} {R : Rep α} (h : R.SHas by_ w A c l) (k : Nat) : R.SHas by_ w A c (l.take k) := by
  obtain ⟨h1, h2, h3, h4, ess, h5, h6⟩ := h
  have hl : (l.take k).length ≤ l.length := by rw [List.length_take]; omega
  have hm := Nat.mul_le_mul_right by_ hl
  have h7 := h5.take_ k
  refine ⟨by omega, h2, by omega, h4, ess.take k, h7, by rw [flat_len (lens h7), h7.length], fun h0 => ?_⟩
  obtain ⟨b, o, e, hc⟩ := h6.2 (by omega)
  refine ⟨b, o, e, fun j u hu => hc j u ?_⟩
  rw [← flat_take k (lens h5), List.getElem?_take] at hu
  split at hu
  · exact hu
  · cases hu
theorem SHas.nil (w : World) : R.SHas by_ w none 0 [] := ⟨Nat.le_refl _, by simp, by simp, fun _ => rfl, [], trivial, Rd.zero w R.size none⟩
theorem SOwn.nil (w : World) : R.SOwn E by_ w B [] none 0 [] := ⟨by simp, [], rfl, List.nodup_nil, Own.nil w B E R.size R.raw, trivial⟩
theorem slice_nil (w : World) : (R.slice E by_).own w B [] [.slice none 0 0] [] := ⟨none, 0, rfl, SOwn.nil w⟩
end

/-- A slice of one's own of which one thing stands open: its cells are es, the blocks that it takes are not among fr. -/
def SHole (R : Rep α) (E : TypeId) (by_ : Nat) (w : World) (B : Nat) (fr : List Nat) (g c : Nat) (l : List α) (i : Nat) (es : List Value) : Prop :=
  l.length * by_ ≤ 140737488355328 ∧ 
  ∃ ps : List (List Nat × List Value), fr = g :: (ps.map (·.1)).flatten ∧ fr.Nodup ∧ Own w B E R.size R.raw (.slice (some ⟨g, 0, none⟩) l.length c) l.length (ps.map (·.2)).flatten ∧
    ps[i]? = some ([], es) ∧ es.length = R.size ∧ ps.length = l.length ∧ ∀ k a, k ≠ i → l[k]? = some a → ∃ x, ps[k]? = some x ∧ R.own w B x.1 x.2 a
section
variable {R : Rep α} {E : TypeId} {by_ : Nat} {A : Option Addr} {c : Nat} {l : List α} {g i : Nat} {es : List Value} {fr : List Nat}
theorem olens {ps : List (List Nat × List Value)} (h : All2 (fun x a => R.own w B x.1 x.2 a) ps l) : ∀ x ∈ ps.map (·.2), x.length = R.size := fun x hx => by
  obtain ⟨y, hy, rfl⟩ := List.mem_map.1 hx
  obtain ⟨a, ha⟩ := h.left y hy
  exact R.olen ha
theorem SOwn.block (h : R.SOwn E by_ w B f A c l) (h0 : 0 < l.length) : ∃ g, A = some ⟨g, 0, none⟩ := by
  obtain ⟨_, ps, _, _, h4, _⟩ := h
  obtain ⟨_, h5⟩ := h4
  rcases h5 with ⟨_, h5⟩ | ⟨g, cap, cur, hv, _⟩
  · omega
  · injection hv with hv; exact ⟨g, hv⟩
theorem SOwn.open_ (h : R.SOwn E by_ w B f (some ⟨g, 0, none⟩) c l) (hi : l[i]? = some a) :
    ∃ fr fi es, R.SHole E by_ w B fr g c l i es ∧ R.own w B fi es a ∧ fi.Nodup ∧ (∀ x ∈ fi, x ∉ fr) ∧ (∀ x, x ∈ f ↔ x ∈ fr ∨ x ∈ fi) := by
  obtain ⟨h1, ps, rfl, h3, h4, h5⟩ := h
  obtain ⟨⟨fi, es⟩, hx, ho⟩ := h5.at_ hi
  obtain ⟨p, q, hps, hpl⟩ := split_at hx
  have hset : ps.set i ([], es) = p ++ ([], es) :: q := by rw [hps, ← hpl, set_mid]
  have hnd : (g :: ((p.map (·.1)).flatten ++ fi ++ (q.map (·.1)).flatten)).Nodup := by
    have := h3
    rw [hps] at this
    simpa [blkOf, List.map_append, List.flatten_append] using this
  rw [List.nodup_cons, List.nodup_append, List.nodup_append] at hnd
  obtain ⟨n1, ⟨n2, n3, n4⟩, n5, n6⟩ := hnd
  refine ⟨g :: ((ps.set i ([], es)).map (·.1)).flatten, fi, es, ⟨h1, ps.set i ([], es), rfl, ?_, ?_, ?_, R.olen ho, ?_, ?_⟩, ho, n3, ?_, ?_⟩
  · rw [hset, List.map_append, List.map_cons, List.flatten_append, List.flatten_cons, List.nil_append, List.nodup_cons, List.nodup_append]
    refine ⟨fun hg => n1 ?_, n2, n5, fun a ha b hb => n6 a (List.mem_append_left _ ha) b hb⟩
    rcases List.mem_append.1 hg with hg | hg
    · exact List.mem_append_left _ (List.mem_append_left _ hg)
    · exact List.mem_append_right _ hg
  · have e : (ps.set i ([], es)).map (·.2) = ps.map (·.2) := by
      rw [hset, hps]; simp
    rw [e]; exact h4
  · have hlt : i < ps.length := (List.getElem?_eq_some_iff.1 hx).1
    rw [List.getElem?_set_self hlt]
  · rw [List.length_set]; exact h5.length
  · intro k b hk hb
    rw [List.getElem?_set_ne (Ne.symm hk)]
    exact h5.at_ hb
  · intro x hx hg
    rw [hset, List.map_append, List.map_cons, List.flatten_append, List.flatten_cons, List.nil_append] at hg
    rcases List.mem_cons.1 hg with rfl | hg
    · exact n1 (List.mem_append_left _ (List.mem_append_right _ hx))
    · rcases List.mem_append.1 hg with hg | hg
      · exact n4 x hg x hx rfl
      · exact n6 x (List.mem_append_right _ hx) x hg rfl
  · intro x
    rw [hset, hps]
    simp only [blkOf, List.map_append, List.map_cons, List.flatten_append, List.flatten_cons, List.nil_append, List.mem_append, List.mem_cons, List.not_mem_nil, or_false]
    constructor
    · rintro (h | h | h | h)
      · exact .inl (.inl h)
      · exact .inl (.inr (.inl h))
      · exact .inr h
      · exact .inl (.inr (.inr h))
    · rintro ((h | h | h) | h)
      · exact .inl h
      · exact .inr (.inl h)
      · exact .inr (.inr (.inr h))
      · exact .inr (.inr (.inl h))
theorem SHole.lens (h : R.SHole E by_ w B fr g c l i es) : ∃ ps : List (List Nat × List Value), fr = g :: (ps.map (·.1)).flatten ∧ fr.Nodup ∧ Own w B E R.size R.raw (.slice (some ⟨g, 0, none⟩) l.length c) l.length (ps.map (·.2)).flatten ∧
    ps[i]? = some ([], es) ∧ es.length = R.size ∧ ps.length = l.length ∧ (∀ k a, k ≠ i → l[k]? = some a → ∃ x, ps[k]? = some x ∧ R.own w B x.1 x.2 a) ∧ ∀ x ∈ ps.map (·.2), x.length = R.size := by
  obtain ⟨_, ps, h2, h3, h4, h5, h6, h7, h8⟩ := h
  refine ⟨ps, h2, h3, h4, h5, h6, h7, h8, fun x hx => ?_⟩
  obtain ⟨k, hk, rfl⟩ := List.mem_iff_getElem.1 hx
  rw [List.length_map] at hk
  rw [List.getElem_map]
  by_cases hki : k = i
  · subst hki
    rw [List.getElem?_eq_getElem hk] at h5
    rw [Option.some.inj h5]; exact h6
  · obtain ⟨y, hy, ho⟩ := h8 k (l[k]'(by omega)) hki (List.getElem?_eq_getElem _)
    rw [List.getElem?_eq_getElem hk] at hy
    rw [Option.some.inj hy]
    exact R.olen ho
theorem SHole.keep (h : R.SHole E by_ w B fr g c l i es) (hk : ∀ x ∈ fr, w'.heap[x]? = w.heap[x]?) : R.SHole E by_ w' B fr g c l i es := by
  obtain ⟨h1, ps, h2, h3, h4, h5, h6, h7, h8⟩ := h
  refine ⟨h1, ps, h2, h3, h4.of_block (B := 0) (fun x hx => hk x ?_), h5, h6, h7, fun k a hki ha => ?_⟩
  · injection hx with hx; rw [h2, ← hx]; simp
  · obtain ⟨x, hx, ho⟩ := h8 k a hki ha
    refine ⟨x, hx, R.okeep ho fun y hy => hk y ?_⟩
    rw [h2]
    exact List.mem_cons_of_mem _ (List.mem_flatten.2 ⟨x.1, List.mem_map.2 ⟨x, List.mem_of_getElem? hx, rfl⟩, hy⟩)
theorem SHole.cell (h : R.SHole E by_ w B fr g c l i es) (hi : i < l.length) {j : Nat} {u : Value} (hu : es[j]? = some u) : w.cell? ⟨g, i * R.size + j, none⟩ = some u := by
  obtain ⟨ps, h2, h3, h4, h5, h6, h7, h8, hl⟩ := h.lens
  have hj : j < R.size := by rw [← h6]; exact (List.getElem?_eq_some_iff.1 hu).1
  have := h4.cell (i * R.size + j) (by
    have : (i + 1) * R.size ≤ l.length * R.size := Nat.mul_le_mul_right _ hi
    rw [Nat.add_mul] at this; omega)
  rw [this, flat_get hl (by rw [List.getElem?_map, h5]; rfl) hj]
  exact hu
theorem SHole.free (h : R.SHole E by_ w B fr g c l i es) (j : Nat) : w.frozen? ⟨g, j, none⟩ = false := by
  obtain ⟨_, ps, h2, h3, h4, _⟩ := h
  exact h4.free j
theorem SHole.lt (h : R.SHole E by_ w B fr g c l i es) : ∀ x ∈ fr, B ≤ x ∧ x < w.heap.size := by
  obtain ⟨h1, ps, h2, h3, h4, h5, h6, h7, h8⟩ := h
  intro x hx
  rw [h2] at hx
  rcases List.mem_cons.1 hx with rfl | hx
  · exact h4.row.lt _ rfl
  · obtain ⟨y, hy, hg⟩ := List.mem_flatten.1 hx
    obtain ⟨z, hz, rfl⟩ := List.mem_map.1 hy
    obtain ⟨k, hk, rfl⟩ := List.mem_iff_getElem.1 hz
    by_cases hki : k = i
    · subst hki
      rw [List.getElem?_eq_getElem hk] at h5
      rw [Option.some.inj h5] at hg
      simp at hg
    · obtain ⟨y, hy, ho⟩ := h8 k (l[k]'(by omega)) hki (List.getElem?_eq_getElem _)
      rw [List.getElem?_eq_getElem hk] at hy
      rw [Option.some.inj hy] at hg
      exact R.olt ho x hg
theorem SHole.g_in (h : R.SHole E by_ w B fr g c l i es) : g ∈ fr := by
  obtain ⟨_, ps, h2, _⟩ := h
  rw [h2]; simp
theorem SHole.store (h : R.SHole E by_ w B fr g c l i es) (hi : i < l.length) (j : Nat) (u : Value) (hj : j < R.size) (hu : R.raw j u) : R.SHole E by_ (w.setCell ⟨g, i * R.size + j, none⟩ u) B fr g c l i (es.set j u) := by
  obtain ⟨ps, h2, h3, h4, h5, h6, h7, h8, hl⟩ := h.lens
  have hlt : i < ps.length := by omega
  have h9 := h4.stored (i * R.size + j) u (by
    rw [Nat.mul_comm, Nat.mul_add_mod, Nat.mod_eq_of_lt hj]; exact hu)
  rw [flat_set u hl (i := i) (es := es) (by rw [List.getElem?_map, h5]; rfl) hj] at h9
  obtain ⟨p, q, hps, hpl⟩ := split_at h5
  have hset : ps.set i ([], es.set j u) = p ++ ([], es.set j u) :: q := by rw [hps, ← hpl, set_mid]
  have e1 : (ps.set i ([], es.set j u)).map (·.1) = ps.map (·.1) := by rw [hset, hps]; simp
  have e2 : (ps.set i ([], es.set j u)).map (·.2) = (ps.map (·.2)).set i (es.set j u) := by rw [List.map_set]
  refine ⟨h.1, ps.set i ([], es.set j u), by rw [e1]; exact h2, h3, by rw [e2]; exact h9, List.getElem?_set_self hlt, by rw [List.length_set]; exact h6, by rw [List.length_set]; exact h7, fun k a hki ha => ?_⟩
  obtain ⟨x, hx, ho⟩ := h8 k a hki ha
  refine ⟨x, by rw [List.getElem?_set_ne (Ne.symm hki)]; exact hx, R.okeep ho fun y hy => heap_setCell_other _ _ _ _ fun e => ?_⟩
  rw [h2, List.nodup_cons] at h3
  refine h3.1 (List.mem_flatten.2 ⟨x.1, List.mem_map.2 ⟨x, List.mem_of_getElem? hx, rfl⟩, ?_⟩)
  have e : y = g := e
  rw [← e]; exact hy
theorem SHole.close {fi : List Nat} {b : α} (h : R.SHole E by_ w B fr g c l i es) (hi : i < l.length) (ho : R.own w B fi es b) (hn : fi.Nodup) (hd : ∀ x ∈ fi, x ∉ fr) :
    ∃ f', R.SOwn E by_ w B f' (some ⟨g, 0, none⟩) c (l.set i b) ∧ ∀ x, x ∈ f' ↔ x ∈ fr ∨ x ∈ fi := by
  obtain ⟨ps, h2, h3, h4, h5, h6, h7, h8, hl⟩ := h.lens
  obtain ⟨p, q, hps, hpl⟩ := split_at h5
  have hset : ps.set i (fi, es) = p ++ (fi, es) :: q := by rw [hps, ← hpl, set_mid]
  have e2 : (ps.set i (fi, es)).map (·.2) = ps.map (·.2) := by rw [hset, hps]; simp
  have hfr : fr = g :: ((p.map (·.1)).flatten ++ (q.map (·.1)).flatten) := by rw [h2, hps]; simp
  have hlt : i < ps.length := by omega
  rw [hfr, List.nodup_cons, List.nodup_append] at h3
  obtain ⟨n1, n2, n3, n4⟩ := h3
  refine ⟨g :: ((ps.set i (fi, es)).map (·.1)).flatten, ⟨by rw [List.length_set]; exact h.1, ps.set i (fi, es), rfl, ?_, by rw [List.length_set, e2]; exact h4, ?_⟩, ?_⟩
  · rw [hset]
    simp only [List.map_append, List.map_cons, List.flatten_append, List.flatten_cons]
    rw [List.nodup_cons, List.nodup_append, List.nodup_append]
    refine ⟨fun hg => ?_, n2, ⟨hn, n3, fun a ha b hb e => ?_⟩, fun a ha b hb e => ?_⟩
    · rcases List.mem_append.1 hg with hg | hg
      · exact n1 (List.mem_append_left _ hg)
      · rcases List.mem_append.1 hg with hg | hg
        · exact hd _ hg (by rw [hfr]; simp)
        · exact n1 (List.mem_append_right _ hg)
    · subst e
      exact hd _ ha (by rw [hfr]; exact List.mem_cons_of_mem _ (List.mem_append_right _ hb))
    · subst e
      rcases List.mem_append.1 hb with hb | hb
      · exact hd _ hb (by rw [hfr]; exact List.mem_cons_of_mem _ (List.mem_append_left _ ha))
      · exact n4 a ha a hb rfl
  · refine All2.of_get (by rw [List.length_set, List.length_set]; exact h7) fun k x a hx ha => ?_
    by_cases hki : i = k
    · subst hki
      rw [List.getElem?_set_self hlt] at hx
      rw [List.getElem?_set_self hi] at ha
      obtain rfl := Option.some.inj hx
      obtain rfl := Option.some.inj ha
      exact ho
    · rw [List.getElem?_set_ne hki] at hx ha
      obtain ⟨y, hy, hyo⟩ := h8 k a (Ne.symm hki) ha
      rw [hx] at hy
      obtain rfl := Option.some.inj hy
      exact hyo
  · intro x
    rw [hset, hfr]
    simp only [List.map_append, List.map_cons, List.flatten_append, List.flatten_cons, List.mem_append, List.mem_cons]
    constructor
    · rintro (h | h | h | h)
      · exact .inl (.inl h)
      · exact .inl (.inr (.inl h))
      · exact .inr h
      · exact .inl (.inr (.inr h))
    · rintro ((h | h | h) | h)
      · exact .inl h
      · exact .inr (.inl h)
      · exact .inr (.inr (.inr h))
      · exact .inr (.inr (.inl h))
theorem SOwn.g_in (h : R.SOwn E by_ w B f (some ⟨g, 0, none⟩) c l) : g ∈ f := by
  obtain ⟨_, ps, rfl, _⟩ := h
  simp [blkOf]
theorem SOwn.free (h : R.SOwn E by_ w B f (some ⟨g, 0, none⟩) c l) (j : Nat) : w.frozen? ⟨g, j, none⟩ = false := by
  obtain ⟨_, ps, rfl, _, h4, _⟩ := h
  exact h4.free j
end

section
variable {P : Program} {R : Rep α} {by_ : Nat}
theorem own_blk (A : Option Addr) (n c : Nat) : (Value.slice A n c).ownBlock.toList = blkOf A := by cases A <;> rfl
theorem run_append_rep (ty : TypeId) (base : Nat) (t e : TypeId) (i : TypeInfo) (z : Value) (ht : P.underlying t = some (.slice e)) (hi : P.info? e = some i) (hz : i.zero = some z)
    (hsize : i.size = R.size) (hby : i.bytes = by_) (hzs : z.cells.size = R.size) (hsz : 0 < R.size) (hzG : ∀ (j : Nat) u, z.cells[j]? = some u → R.raw j u)
    (f : List Nat) (A : Option Addr) (c : Nat) (l : List α) (h : R.SOwn e by_ w base f A c l)
    (A2 : Option Addr) (m c2 : Nat) (k : List α) (qs : List (List Nat × List Value)) (hq : All2 (fun x a => R.own w base x.1 x.2 a) qs k) (hm : k.length = m) (hr : Rd w R.size A2 m (qs.map (·.2)).flatten)
    (hnd : (f ++ (qs.map (·.1)).flatten).Nodup) (h63 : l.length + m ≤ 9223372036854775807) (hbytes : (l.length + m) * by_ ≤ 140737488355328) (hbase : base ≤ w.heap.size) :
    ∃ A' c' f' w', (Builtin.append_ #[t, t] ty #[.slice A l.length c, .slice A2 m c2]).run P w = .ok (.slice A' (l.length + m) c') w' ∧ R.SOwn e by_ w' base f' A' c' (l ++ k) ∧ w.grownBy w' (Value.slice A l.length c).ownBlock ∧ (A' = A ∨ ∃ a, A' = some a ∧ a.block = w.heap.size) ∧ (∀ x ∈ f', x ∈ f ∨ x ∈ (qs.map (·.1)).flatten ∨ x = w.heap.size) ∧ (A' = none ↔ A = none ∧ m = 0) ∧ base ≤ w'.heap.size := by
  obtain ⟨h1, ps, rfl, h3, h4, h5⟩ := h
  have hnews : ∀ (j : Nat) u, (qs.map (·.2)).flatten[j]? = some u → R.raw (j % R.size) u := by
    intro j u hu
    have hl := olens hq
    have hlt := (List.getElem?_eq_some_iff.1 hu).1
    rw [flat_len hl, List.length_map] at hlt
    have hj : j % R.size < R.size := Nat.mod_lt _ hsz
    have hd : j / R.size < qs.length := by rw [Nat.div_lt_iff_lt_mul hsz]; exact hlt
    have hqg : qs[j / R.size]? = some (qs[j / R.size]'hd) := List.getElem?_eq_getElem hd
    have hkg : k[j / R.size]? = some (k[j / R.size]'(by rw [← hq.length]; exact hd)) := List.getElem?_eq_getElem _
    obtain ⟨x, hx, ho⟩ := hq.at_ hkg
    have := flat_get (j := j % R.size) hl (i := j / R.size) (es := x.2) (by rw [List.getElem?_map, hx]; rfl) hj
    rw [show j / R.size * R.size + j % R.size = j from by rw [Nat.mul_comm]; exact Nat.div_add_mod j R.size, hu] at this
    exact R.raw_ (R.ohas ho) _ u this.symm
  have hone : ∀ u ∈ (qs.map (·.2)).flatten, u.oneCell' = true := by
    intro u hu
    obtain ⟨y, hy, hu⟩ := List.mem_flatten.1 hu
    obtain ⟨x, hx, rfl⟩ := List.mem_map.1 hy
    obtain ⟨a, ha⟩ := hq.left x hx
    exact R.one (R.ohas ha) u hu
  obtain ⟨v', w', hrun, hown, hgrow, hnil, hat⟩ := run_append_all (P := P) w base t ty e i z R.size by_ ht hi hz hsize hby hzs hsz R.raw hzG _ _ _ h4 A2 m c2 _ hr hone hnews (by unfold maxLen; omega) hbytes hbase
  obtain ⟨A', c', rfl, hle, hmx, hrd, hbl, hnn⟩ := hown.shape
  have hlt4 : ∀ x, (Value.slice A l.length c).ownBlock = some x → x ∈ blkOf A := fun x hx => by rw [← own_blk A l.length c, hx]; simp
  have hA : ∀ x ∈ blkOf A', x ∈ blkOf A ∨ x = w.heap.size := by
    intro x hx
    rw [← own_blk A' (l.length + m) c'] at hx
    rcases hat with hat | hat
    · rw [hat, own_blk] at hx; exact .inl hx
    · rw [hat] at hx; simp at hx; exact .inr hx
  have hps : ∀ x ∈ ps, ∀ y ∈ x.1, y < w.heap.size ∧ y ∉ blkOf A := by
    intro x hx y hy
    obtain ⟨a, ha⟩ := h5.left x hx
    refine ⟨(R.olt ha y hy).2, fun hb => ?_⟩
    rw [List.nodup_append] at h3
    exact h3.2.2 y hb y (List.mem_flatten.2 ⟨x.1, List.mem_map.2 ⟨x, hx, rfl⟩, hy⟩) rfl
  have hqs : ∀ x ∈ qs, ∀ y ∈ x.1, y < w.heap.size ∧ y ∉ blkOf A := by
    intro x hx y hy
    obtain ⟨a, ha⟩ := hq.left x hx
    refine ⟨(R.olt ha y hy).2, fun hb => ?_⟩
    rw [List.nodup_append] at hnd
    exact hnd.2.2 y (List.mem_append_left _ hb) y (List.mem_flatten.2 ⟨x.1, List.mem_map.2 ⟨x, hx, rfl⟩, hy⟩) rfl
  have hblk : ∀ y, y < w.heap.size → y ∉ blkOf A → w'.heap[y]? = w.heap[y]? := fun y hy hn => hgrow.block y hy fun e => hn (hlt4 y e.symm)
  have hkeep : ∀ x ∈ ps ++ qs, ∀ y ∈ x.1, y < w.heap.size ∧ y ∉ blkOf A := fun x hx => by
    rcases List.mem_append.1 hx with hx | hx
    · exact hps x hx
    · exact hqs x hx
  refine ⟨A', c', blkOf A' ++ ((ps ++ qs).map (·.1)).flatten, w', hrun, ⟨by rw [List.length_append, hm]; exact hbytes, ps ++ qs, rfl, ?_, ?_, ?_⟩, hgrow, ?_, ?_, ?_, Nat.le_trans hbase hgrow.size⟩
  · rw [List.append_assoc, ← List.flatten_append, ← List.map_append, List.nodup_append] at hnd
    rw [List.nodup_append]
    refine ⟨by cases A' <;> simp [blkOf], hnd.2.1, fun x hx y hy e => ?_⟩
    subst e
    obtain ⟨z, hz, hy⟩ := List.mem_flatten.1 hy
    obtain ⟨v, hv, rfl⟩ := List.mem_map.1 hz
    have h6 := hkeep v hv x hy
    rcases hA x hx with h7 | h7
    · exact h6.2 h7
    · omega
  · rw [List.map_append, List.flatten_append, List.length_append, hm]; exact hown
  · exact (h5.app hq).imp fun x a hx ho => R.okeep ho fun y hy => hblk y (hkeep x hx y hy).1 (hkeep x hx y hy).2
  · rcases hat with hat | hat
    · cases A' with
      | none =>
        cases A with
        | none => exact .inl rfl
        | some a => cases hat
      | some a' =>
        cases A with
        | none => cases hat
        | some a =>
          obtain ⟨_, h6⟩ := h4
          obtain ⟨_, h7⟩ := hown
          rcases h6 with ⟨h6, _⟩ | ⟨g, cap, cur, h6, _⟩
          · cases h6
          rcases h7 with ⟨h7, _⟩ | ⟨g', cap', cur', h7, _⟩
          · cases h7
          injection h6 with h6
          injection h7 with h7
          rw [h6, h7] at hat ⊢
          injection hat with hat
          have hat : g' = g := hat
          left; rw [hat]
    · cases A' with
      | none => cases hat
      | some a' => injection hat with hat; exact .inr ⟨a', rfl, hat⟩
  · intro x hx
    rcases List.mem_append.1 hx with hx | hx
    · rcases hA x hx with h | h
      · exact .inl (List.mem_append_left _ h)
      · exact .inr (.inr h)
    · rw [List.map_append, List.flatten_append] at hx
      rcases List.mem_append.1 hx with hx | hx
      · exact .inl (List.mem_append_right _ hx)
      · exact .inr (.inl hx)
  · have hA0 : A = none → Value.slice A l.length c = .slice none 0 0 := fun e => by
      obtain ⟨_, _, e4, _, _, _, _, hn4⟩ := h4.shape
      injection e4 with e1 _ e2
      subst e1; subst e2; exact hn4 e
    constructor
    · intro e
      obtain ⟨h6, h7⟩ := hnil.1 (hnn e)
      injection h6 with h6
      exact ⟨h6, h7⟩
    · rintro ⟨e, h0⟩
      have := hnil.2 ⟨hA0 e, h0⟩
      injection this
theorem wp_append_rep {o : Oper} {a : Act} {K : Act → World → Prop} {Q : Exit → Act → World → Prop} (s x : Operand) (base : Nat) (t e : TypeId) (i : TypeInfo) (z : Value) (ht : P.underlying t = some (.slice e)) (hi : P.info? e = some i) (hz : i.zero = some z)
    (hsize : i.size = R.size) (hby : i.bytes = by_) (hzs : z.cells.size = R.size) (hsz : 0 < R.size) (hzG : ∀ (j : Nat) u, z.cells[j]? = some u → R.raw j u)
    (f : List Nat) (A : Option Addr) (c : Nat) (l : List α) (h : R.SOwn e by_ w base f A c l)
    (A2 : Option Addr) (m c2 : Nat) (k : List α) (qs : List (List Nat × List Value)) (hq : All2 (fun x a => R.own w base x.1 x.2 a) qs k) (hm : k.length = m) (hr : Rd w R.size A2 m (qs.map (·.2)).flatten)
    (hnd : (f ++ (qs.map (·.1)).flatten).Nodup) (h63 : l.length + m ≤ 9223372036854775807) (hbytes : (l.length + m) * by_ ≤ 140737488355328) (hbase : base ≤ w.heap.size)
    (ho : o.op = .call { callee := .builtin .append, args := #[s, x], argTypes := #[t, t] }) (hs : a.eval s = .slice A l.length c) (hx : a.eval x = .slice A2 m c2)
    (hK : ∀ A' c' f' w', R.SOwn e by_ w' base f' A' c' (l ++ k) ∧ w.grownBy w' (Value.slice A l.length c).ownBlock ∧ (A' = A ∨ ∃ a, A' = some a ∧ a.block = w.heap.size) ∧ (∀ x ∈ f', x ∈ f ∨ x ∈ (qs.map (·.1)).flatten ∨ x = w.heap.size) ∧ (A' = none ↔ A = none ∧ m = 0) ∧ base ≤ w'.heap.size → K (a.put o.dst (.slice A' (l.length + m) c')) w') : o.wp P a w K Q := by
  obtain ⟨A', c', f', w', hrun, h2⟩ := run_append_rep (P := P) (w := w) o.type base t e i z ht hi hz hsize hby hzs hsz hzG f A c l h A2 m c2 k qs hq hm hr hnd h63 hbytes hbase
  unfold Oper.wp execOp
  simp only [ho, resolve, invoke, builtin, Sem.run_bind, Sem.run_pure, Result.andThen_ok, List.map_toArray, List.map_cons, List.map_nil, hs, hx, hrun]
  exact hK A' c' f' w' h2
theorem wpList_append_rep {ops : Array Oper} {rest : List Oper} {o : Oper} {a : Act} {Q : Exit → Act → World → Prop} (hgd : o.guard = none) (s x : Operand) (base : Nat) (t e : TypeId) (i : TypeInfo) (z : Value) (ht : P.underlying t = some (.slice e)) (hi : P.info? e = some i) (hz : i.zero = some z)
    (hsize : i.size = R.size) (hby : i.bytes = by_) (hzs : z.cells.size = R.size) (hsz : 0 < R.size) (hzG : ∀ (j : Nat) u, z.cells[j]? = some u → R.raw j u)
    (f : List Nat) (A : Option Addr) (c : Nat) (l : List α) (h : R.SOwn e by_ w base f A c l)
    (A2 : Option Addr) (m c2 : Nat) (k : List α) (qs : List (List Nat × List Value)) (hq : All2 (fun x a => R.own w base x.1 x.2 a) qs k) (hm : k.length = m) (hr : Rd w R.size A2 m (qs.map (·.2)).flatten)
    (hnd : (f ++ (qs.map (·.1)).flatten).Nodup) (h63 : l.length + m ≤ 9223372036854775807) (hbytes : (l.length + m) * by_ ≤ 140737488355328) (hbase : base ≤ w.heap.size)
    (ho : o.op = .call { callee := .builtin .append, args := #[s, x], argTypes := #[t, t] }) (hs : a.eval s = .slice A l.length c) (hx : a.eval x = .slice A2 m c2)
    (hK : ∀ A' c' f' w', R.SOwn e by_ w' base f' A' c' (l ++ k) ∧ w.grownBy w' (Value.slice A l.length c).ownBlock ∧ (A' = A ∨ ∃ a, A' = some a ∧ a.block = w.heap.size) ∧ (∀ x ∈ f', x ∈ f ∨ x ∈ (qs.map (·.1)).flatten ∨ x = w.heap.size) ∧ (A' = none ↔ A = none ∧ m = 0) ∧ base ≤ w'.heap.size → wpList P ops Q rest (a.put o.dst (.slice A' (l.length + m) c')) w') : wpList P ops Q (o :: rest) a w :=
  wpList_plain hgd fun _ hK2 => wp_append_rep s x base t e i z ht hi hz hsize hby hzs hsz hzG f A c l h A2 m c2 k qs hq hm hr hnd h63 hbytes hbase ho hs hx fun A' c' f' w' h2 => hK2 _ _ (hK A' c' f' w' h2)
theorem step_append_rep {ops : Array Oper} {o : Oper} {a : Act} {K : Act → World → Prop} {Q : Exit → Act → World → Prop} {E : Prop} (hgd : o.guard = none) (s x : Operand) (base : Nat) (t e : TypeId) (i : TypeInfo) (z : Value) (ht : P.underlying t = some (.slice e)) (hi : P.info? e = some i) (hz : i.zero = some z)
    (hsize : i.size = R.size) (hby : i.bytes = by_) (hzs : z.cells.size = R.size) (hsz : 0 < R.size) (hzG : ∀ (j : Nat) u, z.cells[j]? = some u → R.raw j u)
    (f : List Nat) (A : Option Addr) (c : Nat) (l : List α) (h : R.SOwn e by_ w base f A c l)
    (A2 : Option Addr) (m c2 : Nat) (k : List α) (qs : List (List Nat × List Value)) (hq : All2 (fun x a => R.own w base x.1 x.2 a) qs k) (hm : k.length = m) (hr : Rd w R.size A2 m (qs.map (·.2)).flatten)
    (hnd : (f ++ (qs.map (·.1)).flatten).Nodup) (h63 : l.length + m ≤ 9223372036854775807) (hbytes : (l.length + m) * by_ ≤ 140737488355328) (hbase : base ≤ w.heap.size)
    (ho : o.op = .call { callee := .builtin .append, args := #[s, x], argTypes := #[t, t] }) (hs : a.eval s = .slice A l.length c) (hx : a.eval x = .slice A2 m c2)
    (hK : ∀ A' c' f' w', R.SOwn e by_ w' base f' A' c' (l ++ k) ∧ w.grownBy w' (Value.slice A l.length c).ownBlock ∧ (A' = A ∨ ∃ a, A' = some a ∧ a.block = w.heap.size) ∧ (∀ x ∈ f', x ∈ f ∨ x ∈ (qs.map (·.1)).flatten ∨ x = w.heap.size) ∧ (A' = none ↔ A = none ∧ m = 0) ∧ base ≤ w'.heap.size → K (a.put o.dst (.slice A' (l.length + m) c')) w') :
    if Region.wanted o (yielded ops a.tmps) = true then Oper.wp P o a w K Q else E := by
  have hw : Region.wanted o (yielded ops a.tmps) = true := by simp [Region.wanted, hgd]
  rw [if_pos hw]
  exact wp_append_rep s x base t e i z ht hi hz hsize hby hzs hsz hzG f A c l h A2 m c2 k qs hq hm hr hnd h63 hbytes hbase ho hs hx hK
/-- Cells that point nowhere are no one's. -/
def Plain (R : Rep α) : Prop := ∀ {w B cs a}, R.has w cs a → R.own w B [] cs a
theorem flat_plain {size : Nat} {cells : α → List Value} {ok : α → Prop} {raw : Nat → Value → Prop} {hl h1 hr} : (flat size cells ok raw hl h1 hr).Plain := fun h => ⟨rfl, h⟩
theorem All2.plain {ess : List (List Value)} {l : List α} (hp : R.Plain) (h : All2 (fun es a => R.has w es a) ess l) : All2 (fun x a => R.own w B x.1 x.2 a) (ess.map fun es => (([] : List Nat), es)) l :=
  All2.map_ (P := fun (x : List Nat × List Value) a => R.own w B x.1 x.2 a) (fun es => (([] : List Nat), es)) (h.imp fun _ _ _ h => hp h)
theorem plain_map (ess : List (List Value)) : ((ess.map fun es => (([] : List Nat), es)).map (·.1)).flatten = [] ∧ (ess.map fun es => (([] : List Nat), es)).map (·.2) = ess := by
  constructor
  · induction ess with
    | nil => rfl
    | cons x r ih => simp
  · rw [List.map_map]
    exact List.map_id' ess
theorem SOwn.of_plain {E : TypeId} {A : Option Addr} {c : Nat} {l : List α} (hp : R.Plain) {ess : List (List Value)} (h : All2 (fun es a => R.has w es a) ess l) (hb : l.length * by_ ≤ 140737488355328) (ho : Own w B E R.size R.raw (.slice A l.length c) l.length ess.flatten) : R.SOwn E by_ w B (blkOf A) A c l := by
  obtain ⟨e1, e2⟩ := plain_map ess
  exact ⟨hb, _, by rw [e1, List.append_nil], by cases A <;> simp [blkOf], by rw [e2]; exact ho, All2.plain hp h⟩
theorem SOwn.fp {E : TypeId} {A : Option Addr} {c : Nat} {l : List α} (hp : ∀ {w B f cs a}, R.own w B f cs a → f = []) (h : R.SOwn E by_ w B f A c l) : f = blkOf A := by
  obtain ⟨_, ps, rfl, _, _, h5⟩ := h
  have : (ps.map (·.1)).flatten = [] := by
    rw [List.flatten_eq_nil_iff]
    intro x hx
    obtain ⟨y, hy, rfl⟩ := List.mem_map.1 hx
    obtain ⟨a, ha⟩ := h5.left y hy
    exact hp ha
  rw [this, List.append_nil]
end
end Rep
end Go.Proofs.Yticfnngppcmidaa
