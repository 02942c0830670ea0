/-
  Cells, troops, fields, worlds.
-/
import Derived.Test.YtffjpfpbpnhmcaaBas
import Derived.Test.YtffjpfpbpnhmcaaProg
import Derived.Test.YtffjpfpbpnhmcaaGol
/-! XCel -/
set_option linter.unusedVariables false
set_option linter.unusedSimpArgs false
namespace Go.Proofs.Ytffjpfpbpnhmcaa
open Go.RowKit

structure Cel where
  x : Int
  y : Int
  deriving DecidableEq, Inhabited
namespace Cel
def cells (a : Cel) : List Value := [.int .i64 (a.x), .int .i64 (a.y)]
/-- Each number is one of its kind. -/
def ok (a : Cel) : Prop := (Lit.int .i64 a.x).wf = true ∧ (Lit.int .i64 a.y).wf = true
def raw (j : Nat) (u : Value) : Prop := match j with
  | 0 => ∃ n : Int, u = .int .i64 n
  | 1 => ∃ n : Int, u = .int .i64 n
  | _ => True
theorem cells_raw (a : Cel) : ∀ (j : Nat) u, a.cells[j]? = some u → raw j u := by
  intro j u hu
  match j, hu with
  | 0, hu => exact ⟨_, (Option.some.inj hu).symm⟩
  | 1, hu => exact ⟨_, (Option.some.inj hu).symm⟩
  | j + 2, hu => exact trivial
theorem cells_one (a : Cel) : ∀ u ∈ a.cells, u.oneCell' = true := by
  intro u hu
  unfold cells at hu
  simp only [List.mem_cons, List.not_mem_nil, or_false] at hu
  rcases hu with rfl | rfl <;> rfl
def rep : Rep Cel := Rep.flat 2 cells ok raw (fun _ => rfl) cells_one cells_raw
theorem plain : rep.Plain := Rep.flat_plain
def zero : Value := .agg #[.int .i64 0, .int .i64 0]
theorem zero_raw : ∀ (j : Nat) u, zero.cells[j]? = some u → rep.raw j u := by
  intro j u hu
  have hu : (#[(.int .i64 0 : Value), (.int .i64 0 : Value)] : Array Value)[j]? = some u := hu
  match j, hu with
  | 0, hu => exact ⟨_, (Option.some.inj hu).symm⟩
  | 1, hu => exact ⟨_, (Option.some.inj hu).symm⟩
  | j + 2, hu => cases hu
theorem info : (Try.prog.info? 32).map (fun i => (i.zero, i.size, i.bytes)) = some (some zero, 2, 16) := by kernel_rfl
/-- The cells of a slice of such. -/
theorem at_ {by_ : Nat} {w : World} {A : Option Addr} {c : Nat} {l : List Cel} (h : rep.SHas by_ w A c l) (h0 : 0 < l.length) :
    ∃ b o, A = some ⟨b, o, none⟩ ∧ ∀ (i : Nat) (a : Cel), l[i]? = some a → w.cell? ⟨b, o + i * 2, none⟩ = some (.int .i64 (a.x)) ∧ w.cell? ⟨b, o + i * 2 + 1, none⟩ = some (.int .i64 (a.y)) := by
  obtain ⟨b, o, e, hc⟩ := h.at_ h0
  refine ⟨b, o, e, fun i a ha => ?_⟩
  obtain ⟨es, ⟨rfl, _⟩, hj⟩ := hc i a ha
  exact ⟨hj 0 _ rfl, hj 1 _ rfl⟩
theorem all_ok {by_ : Nat} {w : World} {A : Option Addr} {c : Nat} {l : List Cel} (h : rep.SHas by_ w A c l) : ∀ a ∈ l, a.ok := Rep.SHas.all_ (R := rep) (Q := ok) (fun {w cs a} (h : rep.has w cs a) => (show cs = a.cells ∧ a.ok from h).2) h
theorem blk {w : World} {g : Nat} {t : TypeId} {fr : Nat × Nat} {a : Cel} (h : Blk w g a.cells t fr) : w.cell? ⟨g, 0, none⟩ = some (.int .i64 (a.x)) ∧ w.cell? ⟨g, 1, none⟩ = some (.int .i64 (a.y)) :=
  ⟨h.cell 0, h.cell 1⟩
def sh : Sh := (.cons (.int .i64) (.cons (.int .i64) .nil))
theorem opens (w : World) (cs : List Value) (h : sh.Ok w cs) : ∃ a, rep.has w cs a := by
  obtain ⟨_, _, rfl, _, _, ⟨x0, rfl, k0⟩, ⟨_, _, rfl, _, _, ⟨x1, rfl, k1⟩, rfl⟩⟩ := h
  exact ⟨⟨x0, x1⟩, rfl, k0, k1⟩
end Cel
theorem hcC {w : World} {cs : List Value} {a : Cel} (h : Cel.rep.has w cs a) : cs = a.cells := And.left (show cs = a.cells ∧ a.ok from h)
end Go.Proofs.Ytffjpfpbpnhmcaa
/-! XTrp -/
set_option linter.unusedVariables false
set_option linter.unusedSimpArgs false
namespace Go.Proofs.Ytffjpfpbpnhmcaa
open Go.RowKit

structure Trp where
  id : Int
  owner : Int
  kind : Int
  spot : Cel
  life : Int
  load : Int
  deriving DecidableEq, Inhabited
namespace Trp
def cells (a : Trp) : List Value := [.int .i64 (a.id), .int .i64 (a.owner), .int .i64 (a.kind), .int .i64 (a.spot.x), .int .i64 (a.spot.y), .int .i64 (a.life), .int .i64 (a.load)]
/-- Each number is one of its kind. -/
def ok (a : Trp) : Prop := (Lit.int .i64 a.id).wf = true ∧ (Lit.int .i64 a.owner).wf = true ∧ (Lit.int .i64 a.kind).wf = true ∧ (Lit.int .i64 a.spot.x).wf = true ∧ (Lit.int .i64 a.spot.y).wf = true ∧ (Lit.int .i64 a.life).wf = true ∧ (Lit.int .i64 a.load).wf = true
def raw (j : Nat) (u : Value) : Prop := match j with
  | 0 => ∃ n : Int, u = .int .i64 n
  | 1 => ∃ n : Int, u = .int .i64 n
  | 2 => ∃ n : Int, u = .int .i64 n
  | 3 => ∃ n : Int, u = .int .i64 n
  | 4 => ∃ n : Int, u = .int .i64 n
  | 5 => ∃ n : Int, u = .int .i64 n
  | 6 => ∃ n : Int, u = .int .i64 n
  | _ => True
theorem cells_raw (a : Trp) : ∀ (j : Nat) u, a.cells[j]? = some u → raw j u := by
  intro j u hu
  match j, hu with
  | 0, hu => exact ⟨_, (Option.some.inj hu).symm⟩
  | 1, hu => exact ⟨_, (Option.some.inj hu).symm⟩
  | 2, hu => exact ⟨_, (Option.some.inj hu).symm⟩
  | 3, hu => exact ⟨_, (Option.some.inj hu).symm⟩
  | 4, hu => exact ⟨_, (Option.some.inj hu).symm⟩
  | 5, hu => exact ⟨_, (Option.some.inj hu).symm⟩
  | 6, hu => exact ⟨_, (Option.some.inj hu).symm⟩
  | j + 7, hu => exact trivial
theorem cells_one (a : Trp) : ∀ u ∈ a.cells, u.oneCell' = true := by
  intro u hu
  unfold cells at hu
  simp only [List.mem_cons, List.not_mem_nil, or_false] at hu
  rcases hu with rfl | rfl | rfl | rfl | rfl | rfl | rfl <;> rfl
def rep : Rep Trp := Rep.flat 7 cells ok raw (fun _ => rfl) cells_one cells_raw
theorem plain : rep.Plain := Rep.flat_plain
def zero : Value := .agg #[.int .i64 0, .int .i64 0, .int .i64 0, .int .i64 0, .int .i64 0, .int .i64 0, .int .i64 0]
theorem zero_raw : ∀ (j : Nat) u, zero.cells[j]? = some u → rep.raw j u := by
  intro j u hu
  have hu : (#[(.int .i64 0 : Value), (.int .i64 0 : Value), (.int .i64 0 : Value), (.int .i64 0 : Value), (.int .i64 0 : Value), (.int .i64 0 : Value), (.int .i64 0 : Value)] : Array Value)[j]? = some u := hu
  match j, hu with
  | 0, hu => exact ⟨_, (Option.some.inj hu).symm⟩
  | 1, hu => exact ⟨_, (Option.some.inj hu).symm⟩
  | 2, hu => exact ⟨_, (Option.some.inj hu).symm⟩
  | 3, hu => exact ⟨_, (Option.some.inj hu).symm⟩
  | 4, hu => exact ⟨_, (Option.some.inj hu).symm⟩
  | 5, hu => exact ⟨_, (Option.some.inj hu).symm⟩
  | 6, hu => exact ⟨_, (Option.some.inj hu).symm⟩
  | j + 7, hu => cases hu
theorem info : (Try.prog.info? 65).map (fun i => (i.zero, i.size, i.bytes)) = some (some zero, 7, 56) := by kernel_rfl
/-- The cells of a slice of such. -/
theorem at_ {by_ : Nat} {w : World} {A : Option Addr} {c : Nat} {l : List Trp} (h : rep.SHas by_ w A c l) (h0 : 0 < l.length) :
    ∃ b o, A = some ⟨b, o, none⟩ ∧ ∀ (i : Nat) (a : Trp), l[i]? = some a → w.cell? ⟨b, o + i * 7, none⟩ = some (.int .i64 (a.id)) ∧ w.cell? ⟨b, o + i * 7 + 1, none⟩ = some (.int .i64 (a.owner)) ∧ w.cell? ⟨b, o + i * 7 + 2, none⟩ = some (.int .i64 (a.kind)) ∧ w.cell? ⟨b, o + i * 7 + 3, none⟩ = some (.int .i64 (a.spot.x)) ∧ w.cell? ⟨b, o + i * 7 + 4, none⟩ = some (.int .i64 (a.spot.y)) ∧ w.cell? ⟨b, o + i * 7 + 5, none⟩ = some (.int .i64 (a.life)) ∧ w.cell? ⟨b, o + i * 7 + 6, none⟩ = some (.int .i64 (a.load)) := by
  obtain ⟨b, o, e, hc⟩ := h.at_ h0
  refine ⟨b, o, e, fun i a ha => ?_⟩
  obtain ⟨es, ⟨rfl, _⟩, hj⟩ := hc i a ha
  exact ⟨hj 0 _ rfl, hj 1 _ rfl, hj 2 _ rfl, hj 3 _ rfl, hj 4 _ rfl, hj 5 _ rfl, hj 6 _ rfl⟩
theorem all_ok {by_ : Nat} {w : World} {A : Option Addr} {c : Nat} {l : List Trp} (h : rep.SHas by_ w A c l) : ∀ a ∈ l, a.ok := Rep.SHas.all_ (R := rep) (Q := ok) (fun {w cs a} (h : rep.has w cs a) => (show cs = a.cells ∧ a.ok from h).2) h
theorem blk {w : World} {g : Nat} {t : TypeId} {fr : Nat × Nat} {a : Trp} (h : Blk w g a.cells t fr) : w.cell? ⟨g, 0, none⟩ = some (.int .i64 (a.id)) ∧ w.cell? ⟨g, 1, none⟩ = some (.int .i64 (a.owner)) ∧ w.cell? ⟨g, 2, none⟩ = some (.int .i64 (a.kind)) ∧ w.cell? ⟨g, 3, none⟩ = some (.int .i64 (a.spot.x)) ∧ w.cell? ⟨g, 4, none⟩ = some (.int .i64 (a.spot.y)) ∧ w.cell? ⟨g, 5, none⟩ = some (.int .i64 (a.life)) ∧ w.cell? ⟨g, 6, none⟩ = some (.int .i64 (a.load)) :=
  ⟨h.cell 0, h.cell 1, h.cell 2, h.cell 3, h.cell 4, h.cell 5, h.cell 6⟩
def sh : Sh := (.cons (.int .i64) (.cons (.int .i64) (.cons (.int .i64) (.cons (.cons (.int .i64) (.cons (.int .i64) .nil)) (.cons (.int .i64) (.cons (.int .i64) .nil))))))
theorem opens (w : World) (cs : List Value) (h : sh.Ok w cs) : ∃ a, rep.has w cs a := by
  obtain ⟨_, _, rfl, _, _, ⟨x0, rfl, k0⟩, ⟨_, _, rfl, _, _, ⟨x1, rfl, k1⟩, ⟨_, _, rfl, _, _, ⟨x2, rfl, k2⟩, ⟨_, _, rfl, _, _, ⟨_, _, rfl, _, _, ⟨x3, rfl, k3⟩, ⟨_, _, rfl, _, _, ⟨x4, rfl, k4⟩, rfl⟩⟩, ⟨_, _, rfl, _, _, ⟨x5, rfl, k5⟩, ⟨_, _, rfl, _, _, ⟨x6, rfl, k6⟩, rfl⟩⟩⟩⟩⟩⟩ := h
  exact ⟨⟨x0, x1, x2, ⟨x3, x4⟩, x5, x6⟩, rfl, k0, k1, k2, k3, k4, k5, k6⟩
end Trp
end Go.Proofs.Ytffjpfpbpnhmcaa
/-! XWd -/
set_option linter.unusedVariables false
set_option linter.unusedSimpArgs false
namespace Go.Proofs.Ytffjpfpbpnhmcaa
open Go.RowKit

structure Fld where
  wide : Int
  high : Int
  places : List Int
  deriving DecidableEq, Inhabited
structure Wd where
  field : Fld
  bases : List Cel
  stocks : List Int
  mines : List Int
  troops : List Trp
  next : Int
  now : Int
  deriving DecidableEq, Inhabited
namespace Fld
def placeOk (p : Int) : Bool := inB p 0 3
def chk (f : Fld) : Int :=
  if inB f.wide 1 40 && inB f.high 1 40 then (if decide ((f.places.length : Int) = f.wide * f.high) && f.places.all placeOk then 0 else 4) else 1
def isIn (f : Fld) (c : Cel) : Bool := inB c.x 0 (f.wide - 1) && inB c.y 0 (f.high - 1)
def place (f : Fld) (c : Cel) : Int := f.places.getD (c.y * f.wide + c.x).toNat 0
/-- No rock, and of the field. -/
def ground (f : Fld) (c : Cel) : Bool := f.isIn c && f.place c != 1
theorem good {f : Fld} (h : f.chk = 0) : 1 ≤ f.wide ∧ f.wide ≤ 40 ∧ 1 ≤ f.high ∧ f.high ≤ 40 ∧ (f.places.length : Int) = f.wide * f.high ∧ ∀ p ∈ f.places, 0 ≤ p ∧ p ≤ 3 := by
  unfold chk at h
  split at h
  · rename_i h1
    rw [Bool.and_eq_true] at h1
    have a := inB_true h1.1
    have b := inB_true h1.2
    split at h
    · rename_i h2
      rw [Bool.and_eq_true, List.all_eq_true] at h2
      exact ⟨a.1, a.2, b.1, b.2, by simpa using h2.1, fun p hp => inB_true (h2.2 p hp)⟩
    · cases h
  · cases h
theorem chk_one {f : Fld} (h : (inB f.wide 1 40 && inB f.high 1 40) = false) : f.chk = 1 := by unfold chk; rw [h]; rfl
theorem idx {f : Fld} (h : f.chk = 0) {c : Cel} (hc : f.isIn c = true) : 0 ≤ c.y * f.wide + c.x ∧ c.y * f.wide + c.x < (f.places.length : Int) ∧ 0 ≤ c.x ∧ c.x < f.wide ∧ 0 ≤ c.y ∧ c.y < f.high := by
  obtain ⟨g1, g2, g3, g4, g5, _⟩ := good h
  unfold isIn at hc
  rw [Bool.and_eq_true] at hc
  have a := inB_true hc.1
  have b := inB_true hc.2
  have e1 : 0 ≤ c.y * f.wide := Int.mul_nonneg b.1 (by omega)
  have e2 : c.y * f.wide ≤ (f.high - 1) * f.wide := Int.mul_le_mul_of_nonneg_right b.2 (by omega)
  have e3 : (f.high - 1) * f.wide = f.wide * f.high - f.wide := by rw [Int.sub_mul, Int.one_mul, Int.mul_comm]
  rw [g5]
  omega
theorem len_le {f : Fld} (h : f.chk = 0) : f.places.length ≤ 1600 := by
  obtain ⟨g1, g2, g3, g4, g5, _⟩ := good h
  have e2 : f.wide * f.high ≤ 40 * 40 := Int.mul_le_mul g2 g4 (by omega) (by omega)
  omega
end Fld
namespace Fld
def atE (f : Fld) (c : Cel) : Int := if f.chk ≠ 0 then f.chk else if f.isIn c then 0 else 7
def atV (f : Fld) (c : Cel) : Int := if f.chk ≠ 0 then 0 else if f.isIn c then f.place c else 0
theorem at_bad {f : Fld} {c : Cel} (h : f.chk ≠ 0) : f.atE c = f.chk ∧ f.atV c = 0 := by unfold atE atV; rw [if_pos h, if_pos h]; exact ⟨rfl, rfl⟩
theorem at_out {f : Fld} {c : Cel} (h : f.chk = 0) (h2 : f.isIn c = false) : f.atE c = 7 ∧ f.atV c = 0 := by unfold atE atV; simp [h, h2]
theorem at_in {f : Fld} {c : Cel} (h : f.chk = 0) (h2 : f.isIn c = true) : f.atE c = 0 ∧ f.atV c = f.place c := by unfold atE atV; simp [h, h2]
theorem isIn_out {f : Fld} {c : Cel} (h : c.x < 0 ∨ f.wide ≤ c.x ∨ c.y < 0 ∨ f.high ≤ c.y) : f.isIn c = false := by
  unfold isIn
  rcases h with h | h | h | h
  · rw [inB_not (.inl h)]; rfl
  · rw [inB_not (n := c.x) (.inr (by omega))]; rfl
  · rw [inB_not (n := c.y) (.inl h), Bool.and_false]
  · rw [inB_not (n := c.y) (.inr (by omega)), Bool.and_false]
theorem isIn_mk {f : Fld} {c : Cel} (h1 : 0 ≤ c.x) (h2 : c.x < f.wide) (h3 : 0 ≤ c.y) (h4 : c.y < f.high) : f.isIn c = true := by
  unfold isIn
  rw [inB_mk h1 (by omega), inB_mk h3 (by omega)]; rfl
end Fld
/-- A kind of troops: Life, Reach, Harm, Price. -/
def kindOf (k : Int) : Option (Int × Int × Int × Int) := if k = 1 then some (10, 1, 1, 5) else if k = 2 then some (20, 2, 4, 12) else none
namespace Wd
def okBase (W : Wd) (i : Nat) : Bool := W.field.ground (W.bases.getD i default) && !(W.bases.take i).contains (W.bases.getD i default) && inB (W.stocks.getD i 0) 0 1000000
def players (W : Wd) : Bool := decide (W.stocks.length = W.bases.length) && (List.range W.bases.length).all W.okBase
def okMine (W : Wd) (i : Nat) : Bool := inB (W.mines.getD i 0) 0 1000000 && (decide (W.mines.getD i 0 ≤ 0) || W.field.places.getD i 0 == 3)
def minesOk (W : Wd) : Bool := decide (W.mines.length = W.field.places.length) && (List.range W.mines.length).all W.okMine
def lastId (W : Wd) (i : Nat) : Int := if i = 0 then 0 else (W.troops.getD (i - 1) default).id
def lifeOf (k : Int) : Int := if k = 1 then 10 else if k = 2 then 20 else 0
def mostOf (k : Int) : Int := if k = 1 then 5 else 0
/-- A troop that is right, but for who stands where it stands; its number from lx to nx. -/
def okOne (W : Wd) (lx nx : Int) (t : Trp) : Bool :=
  inB t.kind 1 2 && inB t.id lx nx && inB t.owner 0 ((W.bases.length : Int) - 1) && W.field.ground t.spot && inB t.life 1 (lifeOf t.kind) && inB t.load 0 (mostOf t.kind)
def spots (W : Wd) (k : Nat) : List Cel := (W.troops.take k).map (·.spot)
def okTroop (W : Wd) (i : Nat) : Bool := W.okOne (wrap64 (W.lastId i + 1)) (wrap64 (W.next - 1)) (W.troops.getD i default) && !(W.spots i).contains (W.troops.getD i default).spot
def troopsOk (W : Wd) : Bool := (List.range W.troops.length).all W.okTroop && (inB W.next 1 1000000 && inB W.now 0 1000000)
def chk (W : Wd) : Int :=
  if W.field.chk ≠ 0 then W.field.chk else if 8 < W.bases.length ∨ 100 < W.troops.length then 2 else if W.players && W.minesOk && W.troopsOk then 0 else 4
/-- Where a world's lists lie. -/
structure At where
  P : Option Addr
  B : Option Addr
  S : Option Addr
  M : Option Addr
  T : Option Addr
  p : Nat
  b : Nat
  s : Nat
  m : Nat
  t : Nat
def fcells (A : Option Addr) (c : Nat) (f : Fld) : List Value := [.int .i64 f.wide, .int .i64 f.high, .slice A f.places.length c]
def cells (h : At) (W : Wd) : List Value :=
  [.int .i64 W.field.wide, .int .i64 W.field.high, .slice h.P W.field.places.length h.p, .slice h.B W.bases.length h.b, .slice h.S W.stocks.length h.s, .slice h.M W.mines.length h.m, .slice h.T W.troops.length h.t, .int .i64 W.next, .int .i64 W.now]
structure Has (w : World) (h : At) (W : Wd) : Prop where
  P : repI.SHas 8 w h.P h.p W.field.places
  B : Cel.rep.SHas 16 w h.B h.b W.bases
  S : repI.SHas 8 w h.S h.s W.stocks
  M : repI.SHas 8 w h.M h.m W.mines
  T : Trp.rep.SHas 56 w h.T h.t W.troops
  nums : okI W.field.wide ∧ okI W.field.high ∧ okI W.next ∧ okI W.now
theorem Has.keep {w w' : World} {h : At} {W : Wd} (hw : Has w h W) (hb : Below w.heap.size w w') : Has w' h W :=
  ⟨hw.P.keep hb, hw.B.keep hb, hw.S.keep hb, hw.M.keep hb, hw.T.keep hb, hw.nums⟩
def fsh : Sh := .cons (.int .i64) (.cons (.int .i64) (.cons (.slice (.int .i64) 8) .nil))
def sh : Sh := .cons fsh (.cons (.slice Cel.sh 16) (.cons (.slice (.int .i64) 8) (.cons (.slice (.int .i64) 8) (.cons (.slice Trp.sh 56) (.cons (.int .i64) (.cons (.int .i64) .nil))))))
theorem opens (w : World) (cs : List Value) (h : sh.Ok w cs) : ∃ h W, cs = cells h W ∧ Has w h W := by
  obtain ⟨_, _, rfl, _, _, ⟨_, _, rfl, _, _, ⟨x0, rfl, k0⟩, _, _, rfl, _, _, ⟨x1, rfl, k1⟩, _, _, rfl, _, _, hP, rfl⟩, _, _, rfl, _, _, hB, _, _, rfl, _, _, hS, _, _, rfl, _, _, hM, _, _, rfl, _, _, hT, _, _, rfl, _, _, ⟨x2, rfl, k2⟩, _, _, rfl, _, _, ⟨x3, rfl, k3⟩, rfl⟩ := h
  obtain ⟨aP, cP, lP, rfl, HP⟩ := Rep.opens_slice (R := repI) repI_opens rfl (by decide) hP
  obtain ⟨aB, cB, lB, rfl, HB⟩ := Rep.opens_slice (R := Cel.rep) Cel.opens rfl (by decide) hB
  obtain ⟨aS, cS, lS, rfl, HS⟩ := Rep.opens_slice (R := repI) repI_opens rfl (by decide) hS
  obtain ⟨aM, cM, lM, rfl, HM⟩ := Rep.opens_slice (R := repI) repI_opens rfl (by decide) hM
  obtain ⟨aT, cT, lT, rfl, HT⟩ := Rep.opens_slice (R := Trp.rep) Trp.opens rfl (by decide) hT
  exact ⟨⟨aP, aB, aS, aM, aT, cP, cB, cS, cM, cT⟩, ⟨⟨x0, x1, lP⟩, lB, lS, lM, lT, x2, x3⟩, rfl, HP, HB, HS, HM, HT, k0, k1, k2, k3⟩
theorem fblk {w : World} {g : Nat} {t : TypeId} {fr : Nat × Nat} {A : Option Addr} {c : Nat} {f : Fld} (h : Blk w g (fcells A c f) t fr) :
    w.cell? ⟨g, 0, none⟩ = some (.int .i64 f.wide) ∧ w.cell? ⟨g, 1, none⟩ = some (.int .i64 f.high) ∧ w.cell? ⟨g, 2, none⟩ = some (.slice A f.places.length c) := ⟨h.cell 0, h.cell 1, h.cell 2⟩
end Wd
end Go.Proofs.Ytffjpfpbpnhmcaa
/-! XWdP -/
set_option linter.unusedVariables false
set_option linter.unusedSimpArgs false
namespace Go.Proofs.Ytffjpfpbpnhmcaa
open Go.RowKit

theorem Fld.ground_in {f : Fld} {c : Cel} (h : f.ground c = true) : f.isIn c = true := by
  unfold Fld.ground at h
  rw [Bool.and_eq_true] at h
  exact h.1
namespace Wd
theorem chk_all {W : Wd} (h : W.field.chk = 0) (h2 : ¬ (8 < W.bases.length ∨ 100 < W.troops.length)) : W.chk = if W.players && W.minesOk && W.troopsOk then 0 else 4 := by unfold chk; rw [if_neg (by simpa using h), if_neg h2]
end Wd
theorem Wd.players_ok {W : Wd} (h : W.stocks.length = W.bases.length) (ha : ∀ k, k < W.bases.length → W.okBase k = true) : W.players = true := by
  unfold Wd.players
  rw [decide_eq_true h, Bool.true_and, List.all_eq_true]
  exact fun k hk => ha k (List.mem_range.1 hk)
theorem Wd.mines_ok {W : Wd} (h : W.mines.length = W.field.places.length) (ha : ∀ k, k < W.mines.length → W.okMine k = true) : W.minesOk = true := by
  unfold Wd.minesOk
  rw [decide_eq_true h, Bool.true_and, List.all_eq_true]
  exact fun k hk => ha k (List.mem_range.1 hk)
def isId (id : Int) (t : Trp) : Bool := t.id == id
def isAt (p : Cel) (t : Trp) : Bool := decide (t.spot = p)
def whichI (W : Wd) (p : Trp → Bool) : Int := if W.chk = 0 then max (idxI p W.troops) 0 else 0
def whichB (W : Wd) (p : Trp → Bool) : Bool := decide (W.chk = 0) && decide (0 ≤ idxI p W.troops)
def nearT (c : Cel) (r : Int) (t : Trp) : Bool := inB c.x (t.spot.x - r) (t.spot.x + r) && inB c.y (t.spot.y - r) (t.spot.y + r)
def nearIds (W : Wd) (c : Cel) (r : Int) : List Int := (W.troops.filter (nearT c r)).map (·.id)
def nearE (W : Wd) (r : Int) : Int := if W.chk ≠ 0 then W.chk else if inB r 0 12 then 0 else 1
end Go.Proofs.Ytffjpfpbpnhmcaa
/-! XTroP -/
set_option linter.unusedVariables false
set_option linter.unusedSimpArgs false
namespace Go.Proofs.Ytffjpfpbpnhmcaa
open Go.RowKit

theorem wrap_small {x : Int} (h1 : -1000 ≤ x) (h2 : x ≤ 2000000) : wrap64 x = x := by
  have h := IntKind.wrap_i64 x
  unfold wrap64
  first | (rw [h]; omega) | omega
end Go.Proofs.Ytffjpfpbpnhmcaa
/-! XGood -/
set_option linter.unusedVariables false
set_option linter.unusedSimpArgs false
namespace Go.Proofs.Ytffjpfpbpnhmcaa
open Go.RowKit

/-- A troop that is right by itself. -/
structure TroopOk (f : Fld) (nb : Nat) (t : Trp) : Prop where
  kind : t.kind = 1 ∨ t.kind = 2
  owner : 0 ≤ t.owner ∧ t.owner < (nb : Int)
  ground : f.ground t.spot = true
  life : 1 ≤ t.life ∧ t.life ≤ Wd.lifeOf t.kind
  load : 0 ≤ t.load ∧ t.load ≤ Wd.mostOf t.kind
structure Good (W : Wd) : Prop where
  field : W.field.chk = 0
  nb : W.bases.length ≤ 8
  nt : W.troops.length ≤ 100
  sl : W.stocks.length = W.bases.length
  bases : ∀ (i : Nat) c, W.bases[i]? = some c → W.field.ground c = true ∧ (W.bases.take i).contains c = false
  stocks : ∀ (i : Nat) s, W.stocks[i]? = some s → 0 ≤ s ∧ s ≤ 1000000
  ml : W.mines.length = W.field.places.length
  mines : ∀ (i : Nat) m, W.mines[i]? = some m → 0 ≤ m ∧ m ≤ 1000000 ∧ (m ≤ 0 ∨ W.field.places.getD i 0 = 3)
  troops : ∀ (i : Nat) t, W.troops[i]? = some t → TroopOk W.field W.bases.length t
  ids : ∀ (i : Nat) t, W.troops[i]? = some t → W.lastId i < t.id ∧ t.id < W.next ∧ 0 ≤ W.lastId i
  spots : ∀ (i : Nat) t, W.troops[i]? = some t → (W.spots i).contains t.spot = false
  next : 1 ≤ W.next ∧ W.next ≤ 1000000
  now : 0 ≤ W.now ∧ W.now ≤ 1000000
theorem Good.chk {W : Wd} (h : Good W) : W.chk = 0 := by
  have hp : W.players = true := Wd.players_ok h.sl fun k hk => by
    obtain ⟨c, hc⟩ := get_of hk
    obtain ⟨s, hs⟩ := get_of (l := W.stocks) (i := k) (by rw [h.sl]; exact hk)
    unfold Wd.okBase
    rw [List.getD_eq_getElem?_getD, hc, List.getD_eq_getElem?_getD, hs]
    have h1 := h.bases k c hc
    have h2 := h.stocks k s hs
    simp only [Option.getD_some]
    rw [h1.1, h1.2, inB_mk h2.1 h2.2]; rfl
  have hm : W.minesOk = true := Wd.mines_ok h.ml fun k hk => by
    obtain ⟨m, hm⟩ := get_of hk
    have h1 := h.mines k m hm
    unfold Wd.okMine
    rw [List.getD_eq_getElem?_getD, hm]
    simp only [Option.getD_some]
    rw [inB_mk h1.1 h1.2.1, Bool.true_and, Bool.or_eq_true]
    rcases h1.2.2 with h3 | h3
    · exact .inl (by simpa using h3)
    · exact .inr (by simpa using h3)
  have ht : W.troopsOk = true := by
    unfold Wd.troopsOk
    rw [inB_mk h.next.1 h.next.2, inB_mk h.now.1 h.now.2, Bool.and_true, Bool.and_true, List.all_eq_true]
    intro k hk
    obtain ⟨t, ht⟩ := get_of (List.mem_range.1 hk)
    have h1 := h.troops k t ht
    have h2 := h.ids k t ht
    have h3 := h.spots k t ht
    have hn := h.next
    unfold Wd.okTroop Wd.okOne
    rw [List.getD_eq_getElem?_getD, ht]
    simp only [Option.getD_some]
    have k1 : inB t.kind 1 2 = true := by
      rcases h1.kind with h | h
      · exact inB_mk (by omega) (by omega)
      · exact inB_mk (by omega) (by omega)
    have k2 : inB t.id (W.lastId k + 1) (W.next - 1) = true := inB_mk (by omega) (by omega)
    have k3 : inB t.owner 0 ((W.bases.length : Int) - 1) = true := inB_mk h1.owner.1 (by have := h1.owner.2; omega)
    rw [wrap_small (by omega) (by omega), wrap_small (by omega) (by omega), k1, k2, k3, h3, h1.ground, inB_mk h1.life.1 h1.life.2, inB_mk h1.load.1 h1.load.2]
    rfl
  rw [Wd.chk_all h.field (by have := h.nb; have := h.nt; omega), hp, hm, ht]
  rfl
end Go.Proofs.Ytffjpfpbpnhmcaa
/-! XWOwnM -/
set_option linter.unusedVariables false
set_option linter.unusedSimpArgs false
namespace Go.Proofs.Ytffjpfpbpnhmcaa
open Go.RowKit

/-- A world whose lists are the call's own, each in a block by itself. -/
structure WOwn (w : World) (Z : Nat) (a : Wd.At) (W : Wd) : Prop where
  P : repI.SOwn 3 8 w Z (Rep.blkOf a.P) a.P a.p W.field.places
  B : Cel.rep.SOwn 32 16 w Z (Rep.blkOf a.B) a.B a.b W.bases
  S : repI.SOwn 3 8 w Z (Rep.blkOf a.S) a.S a.s W.stocks
  M : repI.SOwn 3 8 w Z (Rep.blkOf a.M) a.M a.m W.mines
  T : Trp.rep.SOwn 65 56 w Z (Rep.blkOf a.T) a.T a.t W.troops
  apart : (Rep.blkOf a.P ++ Rep.blkOf a.B ++ Rep.blkOf a.S ++ Rep.blkOf a.M ++ Rep.blkOf a.T).Nodup
  nums : okI W.field.wide ∧ okI W.field.high ∧ okI W.next ∧ okI W.now
theorem WOwn.has {w : World} {B : Nat} {a : Wd.At} {W : Wd} (h : WOwn w B a W) : Wd.Has w a W := ⟨h.P.has, h.B.has, h.S.has, h.M.has, h.T.has, h.nums⟩
theorem WOwn.later {w w' : World} {B : Nat} {a : Wd.At} {W : Wd} (h : WOwn w B a W) (hb : Below w.heap.size w w') : WOwn w' B a W := ⟨h.P.later hb, h.B.later hb, h.S.later hb, h.M.later hb, h.T.later hb, h.apart, h.nums⟩
def WOwn.foot (a : Wd.At) : List Nat := Rep.blkOf a.P ++ Rep.blkOf a.B ++ Rep.blkOf a.S ++ Rep.blkOf a.M ++ Rep.blkOf a.T
theorem WOwn.lt {w : World} {B : Nat} {a : Wd.At} {W : Wd} (h : WOwn w B a W) : ∀ g ∈ WOwn.foot a, B ≤ g ∧ g < w.heap.size := by
  intro g hg
  unfold WOwn.foot at hg
  simp only [List.mem_append] at hg
  rcases hg with (((hg | hg) | hg) | hg) | hg
  · exact h.P.lt g hg
  · exact h.B.lt g hg
  · exact h.S.lt g hg
  · exact h.M.lt g hg
  · exact h.T.lt g hg
/-- Amid the copying: places, bases and stocks are one's own. -/
def Half (w wx : World) (pA : Option Addr) (pC : Nat) (W : Wd) (aM : Option Addr) (kM : Nat) (aT : Option Addr) (kT n2 : Nat) : Prop :=
  ∃ (bA : Option Addr) (bC : Nat) (sA : Option Addr) (sC n3 n4 : Nat), Blk wx w.heap.size [.int .i64 W.field.wide, .int .i64 W.field.high, .slice pA W.field.places.length pC, .slice bA W.bases.length bC, .slice sA W.stocks.length sC, .slice aM W.mines.length kM, .slice aT W.troops.length kT, .int .i64 W.next, .int .i64 W.now] 49 (0, 0) ∧
    Blk wx (w.heap.size + 1) [.int .i64 0, .int .i64 0, .slice none 0 0, .slice none 0 0, .slice none 0 0, .slice none 0 0, .slice none 0 0, .int .i64 0, .int .i64 0] 49 (0, 0) ∧ repI.SOwn 3 8 wx w.heap.size (Rep.blkOf pA) pA pC W.field.places ∧ Cel.rep.SOwn 32 16 wx n2 (Rep.blkOf bA) bA bC W.bases ∧ repI.SOwn 3 8 wx n3 (Rep.blkOf sA) sA sC W.stocks ∧
    (∀ g ∈ Rep.blkOf bA, n2 ≤ g ∧ g < n3) ∧ (∀ g ∈ Rep.blkOf sA, n3 ≤ g ∧ g < n4) ∧ Below w.heap.size w wx ∧ n2 ≤ n3 ∧ n3 ≤ n4 ∧ n4 = wx.heap.size
end Go.Proofs.Ytffjpfpbpnhmcaa
