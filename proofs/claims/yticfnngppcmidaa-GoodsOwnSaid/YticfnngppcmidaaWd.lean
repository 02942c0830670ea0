/-
  Fields and worlds of players: as plain mathematics, and how they lie in cells.
-/
import Derived.Test.YticfnngppcmidaaNum
import Derived.Test.YticfnngppcmidaaTrp
import Derived.Test.YticfnngppcmidaaInB
set_option linter.unusedVariables false
namespace Go.Proofs.Yticfnngppcmidaa
open Go.RowKit

structure Fld where
  wide : Int
  high : Int
  places : List Int
  deriving DecidableEq, Inhabited
structure Wd where
  field : Fld
  bases : List Cel
  stocks : List Int
  mines : List Int
  troops : List Trp
  next : Int
  now : Int
  deriving DecidableEq, Inhabited
namespace Fld
def placeOk (p : Int) : Bool := inB p 0 3
def chk (f : Fld) : Int :=
  if inB f.wide 1 40 && inB f.high 1 40 then (if decide ((f.places.length : Int) = f.wide * f.high) && f.places.all placeOk then 0 else 4) else 1
def isIn (f : Fld) (c : Cel) : Bool := inB c.x 0 (f.wide - 1) && inB c.y 0 (f.high - 1)
def place (f : Fld) (c : Cel) : Int := f.places.getD (c.y * f.wide + c.x).toNat 0
/-- No rock, and of the field. -/
def ground (f : Fld) (c : Cel) : Bool := f.isIn c && f.place c != 1
theorem chk_cases (f : Fld) : f.chk = 0 ∨ f.chk = 1 ∨ f.chk = 4 := by unfold chk; split <;> (try split) <;> simp
theorem good {f : Fld} (h : f.chk = 0) : 1 ≤ f.wide ∧ f.wide ≤ 40 ∧ 1 ≤ f.high ∧ f.high ≤ 40 ∧ (f.places.length : Int) = f.wide * f.high ∧ ∀ p ∈ f.places, 0 ≤ p ∧ p ≤ 3 := by
  unfold chk at h
  split at h
  · rename_i h1
    rw [Bool.and_eq_true] at h1
    have a := inB_true h1.1
    have b := inB_true h1.2
    split at h
    · rename_i h2
      rw [Bool.and_eq_true, List.all_eq_true] at h2
      exact ⟨a.1, a.2, b.1, b.2, by simpa using h2.1, fun p hp => inB_true (h2.2 p hp)⟩
    · cases h
  · cases h
theorem chk_one {f : Fld} (h : (inB f.wide 1 40 && inB f.high 1 40) = false) : f.chk = 1 := by unfold chk; rw [h]; rfl
theorem idx {f : Fld} (h : f.chk = 0) {c : Cel} (hc : f.isIn c = true) : 0 ≤ c.y * f.wide + c.x ∧ c.y * f.wide + c.x < (f.places.length : Int) ∧ 0 ≤ c.x ∧ c.x < f.wide ∧ 0 ≤ c.y ∧ c.y < f.high := by
  obtain ⟨g1, g2, g3, g4, g5, _⟩ := good h
  unfold isIn at hc
  rw [Bool.and_eq_true] at hc
  have a := inB_true hc.1
  have b := inB_true hc.2
  have e1 : 0 ≤ c.y * f.wide := Int.mul_nonneg b.1 (by omega)
  have e2 : c.y * f.wide ≤ (f.high - 1) * f.wide := Int.mul_le_mul_of_nonneg_right b.2 (by omega)
  have e3 : (f.high - 1) * f.wide = f.wide * f.high - f.wide := by rw [Int.sub_mul, Int.one_mul, Int.mul_comm]
  rw [g5]
  omega
theorem len_le {f : Fld} (h : f.chk = 0) : f.places.length ≤ 1600 := by
  obtain ⟨g1, g2, g3, g4, g5, _⟩ := good h
  have e2 : f.wide * f.high ≤ 40 * 40 := Int.mul_le_mul g2 g4 (by omega) (by omega)
  omega
end Fld
namespace Fld
def atE (f : Fld) (c : Cel) : Int := if f.chk ≠ 0 then f.chk else if f.isIn c then 0 else 7
def atV (f : Fld) (c : Cel) : Int := if f.chk ≠ 0 then 0 else if f.isIn c then f.place c else 0
theorem at_bad {f : Fld} {c : Cel} (h : f.chk ≠ 0) : f.atE c = f.chk ∧ f.atV c = 0 := by unfold atE atV; rw [if_pos h, if_pos h]; exact ⟨rfl, rfl⟩
theorem at_out {f : Fld} {c : Cel} (h : f.chk = 0) (h2 : f.isIn c = false) : f.atE c = 7 ∧ f.atV c = 0 := by unfold atE atV; simp [h, h2]
theorem at_in {f : Fld} {c : Cel} (h : f.chk = 0) (h2 : f.isIn c = true) : f.atE c = 0 ∧ f.atV c = f.place c := by unfold atE atV; simp [h, h2]
theorem isIn_out {f : Fld} {c : Cel} (h : c.x < 0 ∨ f.wide ≤ c.x ∨ c.y < 0 ∨ f.high ≤ c.y) : f.isIn c = false := by
  unfold isIn
  rcases h with h | h | h | h
  · rw [inB_not (.inl h)]; rfl
  · rw [inB_not (n := c.x) (.inr (by omega))]; rfl
  · rw [inB_not (n := c.y) (.inl h), Bool.and_false]
  · rw [inB_not (n := c.y) (.inr (by omega)), Bool.and_false]
theorem isIn_mk {f : Fld} {c : Cel} (h1 : 0 ≤ c.x) (h2 : c.x < f.wide) (h3 : 0 ≤ c.y) (h4 : c.y < f.high) : f.isIn c = true := by
  unfold isIn
  rw [inB_mk h1 (by omega), inB_mk h3 (by omega)]; rfl
end Fld
/-- A kind of troops: Life, Reach, Harm, Price. -/
def kindOf (k : Int) : Option (Int × Int × Int × Int) := if k = 1 then some (10, 1, 1, 5) else if k = 2 then some (20, 2, 4, 12) else none
namespace Wd
def okBase (W : Wd) (i : Nat) : Bool := W.field.ground (W.bases.getD i default) && !(W.bases.take i).contains (W.bases.getD i default) && inB (W.stocks.getD i 0) 0 1000000
def players (W : Wd) : Bool := decide (W.stocks.length = W.bases.length) && (List.range W.bases.length).all W.okBase
def okMine (W : Wd) (i : Nat) : Bool := inB (W.mines.getD i 0) 0 1000000 && (decide (W.mines.getD i 0 ≤ 0) || W.field.places.getD i 0 == 3)
def minesOk (W : Wd) : Bool := decide (W.mines.length = W.field.places.length) && (List.range W.mines.length).all W.okMine
def lastId (W : Wd) (i : Nat) : Int := if i = 0 then 0 else (W.troops.getD (i - 1) default).id
def lifeOf (k : Int) : Int := if k = 1 then 10 else if k = 2 then 20 else 0
def mostOf (k : Int) : Int := if k = 1 then 5 else 0
/-- A troop that is right, but for who stands where it stands; its number from lx to nx. -/
def okOne (W : Wd) (lx nx : Int) (t : Trp) : Bool :=
  inB t.kind 1 2 && inB t.id lx nx && inB t.owner 0 ((W.bases.length : Int) - 1) && W.field.ground t.spot && inB t.life 1 (lifeOf t.kind) && inB t.load 0 (mostOf t.kind)
def spots (W : Wd) (k : Nat) : List Cel := (W.troops.take k).map (·.spot)
def okTroop (W : Wd) (i : Nat) : Bool := W.okOne (wrap64 (W.lastId i + 1)) (wrap64 (W.next - 1)) (W.troops.getD i default) && !(W.spots i).contains (W.troops.getD i default).spot
def troopsOk (W : Wd) : Bool := (List.range W.troops.length).all W.okTroop && (inB W.next 1 1000000 && inB W.now 0 1000000)
def chk (W : Wd) : Int :=
  if W.field.chk ≠ 0 then W.field.chk else if 8 < W.bases.length ∨ 100 < W.troops.length then 2 else if W.players && W.minesOk && W.troopsOk then 0 else 4
/-- Where a world's lists lie. -/
structure At where
  P : Option Addr
  B : Option Addr
  S : Option Addr
  M : Option Addr
  T : Option Addr
  p : Nat
  b : Nat
  s : Nat
  m : Nat
  t : Nat
def fcells (A : Option Addr) (c : Nat) (f : Fld) : List Value := [.int .i64 f.wide, .int .i64 f.high, .slice A f.places.length c]
def cells (h : At) (W : Wd) : List Value :=
  [.int .i64 W.field.wide, .int .i64 W.field.high, .slice h.P W.field.places.length h.p, .slice h.B W.bases.length h.b, .slice h.S W.stocks.length h.s, .slice h.M W.mines.length h.m, .slice h.T W.troops.length h.t, .int .i64 W.next, .int .i64 W.now]
theorem cells_eq (h : At) (W : Wd) : (cells h W).toArray = #[.int .i64 W.field.wide, .int .i64 W.field.high, .slice h.P W.field.places.length h.p, .slice h.B W.bases.length h.b, .slice h.S W.stocks.length h.s, .slice h.M W.mines.length h.m, .slice h.T W.troops.length h.t, .int .i64 W.next, .int .i64 W.now] := rfl
structure Has (w : World) (h : At) (W : Wd) : Prop where
  P : repI.SHas 8 w h.P h.p W.field.places
  B : Cel.rep.SHas 16 w h.B h.b W.bases
  S : repI.SHas 8 w h.S h.s W.stocks
  M : repI.SHas 8 w h.M h.m W.mines
  T : Trp.rep.SHas 56 w h.T h.t W.troops
  nums : okI W.field.wide ∧ okI W.field.high ∧ okI W.next ∧ okI W.now
theorem Has.keep {w w' : World} {h : At} {W : Wd} (hw : Has w h W) (hb : Below w.heap.size w w') : Has w' h W :=
  ⟨hw.P.keep hb, hw.B.keep hb, hw.S.keep hb, hw.M.keep hb, hw.T.keep hb, hw.nums⟩
def fsh : Sh := .cons (.int .i64) (.cons (.int .i64) (.cons (.slice (.int .i64) 8) .nil))
def sh : Sh := .cons fsh (.cons (.slice Cel.sh 16) (.cons (.slice (.int .i64) 8) (.cons (.slice (.int .i64) 8) (.cons (.slice Trp.sh 56) (.cons (.int .i64) (.cons (.int .i64) .nil))))))
theorem opens (w : World) (cs : List Value) (h : sh.Ok w cs) : ∃ h W, cs = cells h W ∧ Has w h W := by
  obtain ⟨_, _, rfl, _, _, ⟨_, _, rfl, _, _, ⟨x0, rfl, k0⟩, _, _, rfl, _, _, ⟨x1, rfl, k1⟩, _, _, rfl, _, _, hP, rfl⟩, _, _, rfl, _, _, hB, _, _, rfl, _, _, hS, _, _, rfl, _, _, hM, _, _, rfl, _, _, hT, _, _, rfl, _, _, ⟨x2, rfl, k2⟩, _, _, rfl, _, _, ⟨x3, rfl, k3⟩, rfl⟩ := h
  obtain ⟨aP, cP, lP, rfl, HP⟩ := Rep.opens_slice (R := repI) repI_opens rfl (by decide) hP
  obtain ⟨aB, cB, lB, rfl, HB⟩ := Rep.opens_slice (R := Cel.rep) Cel.opens rfl (by decide) hB
  obtain ⟨aS, cS, lS, rfl, HS⟩ := Rep.opens_slice (R := repI) repI_opens rfl (by decide) hS
  obtain ⟨aM, cM, lM, rfl, HM⟩ := Rep.opens_slice (R := repI) repI_opens rfl (by decide) hM
  obtain ⟨aT, cT, lT, rfl, HT⟩ := Rep.opens_slice (R := Trp.rep) Trp.opens rfl (by decide) hT
  exact ⟨⟨aP, aB, aS, aM, aT, cP, cB, cS, cM, cT⟩, ⟨⟨x0, x1, lP⟩, lB, lS, lM, lT, x2, x3⟩, rfl, HP, HB, HS, HM, HT, k0, k1, k2, k3⟩
theorem fblk {w : World} {g : Nat} {t : TypeId} {fr : Nat × Nat} {A : Option Addr} {c : Nat} {f : Fld} (h : Blk w g (fcells A c f) t fr) :
    w.cell? ⟨g, 0, none⟩ = some (.int .i64 f.wide) ∧ w.cell? ⟨g, 1, none⟩ = some (.int .i64 f.high) ∧ w.cell? ⟨g, 2, none⟩ = some (.slice A f.places.length c) := ⟨h.cell 0, h.cell 1, h.cell 2⟩
theorem wblk {w : World} {g : Nat} {t : TypeId} {fr : Nat × Nat} {a : At} {W : Wd} (h : Blk w g (cells a W) t fr) :
    w.cell? ⟨g, 0, none⟩ = some (.int .i64 W.field.wide) ∧ w.cell? ⟨g, 1, none⟩ = some (.int .i64 W.field.high) ∧ w.cell? ⟨g, 2, none⟩ = some (.slice a.P W.field.places.length a.p) ∧
    w.cell? ⟨g, 3, none⟩ = some (.slice a.B W.bases.length a.b) ∧ w.cell? ⟨g, 4, none⟩ = some (.slice a.S W.stocks.length a.s) ∧ w.cell? ⟨g, 5, none⟩ = some (.slice a.M W.mines.length a.m) ∧ w.cell? ⟨g, 6, none⟩ = some (.slice a.T W.troops.length a.t) ∧
    w.cell? ⟨g, 7, none⟩ = some (.int .i64 W.next) ∧ w.cell? ⟨g, 8, none⟩ = some (.int .i64 W.now) := ⟨h.cell 0, h.cell 1, h.cell 2, h.cell 3, h.cell 4, h.cell 5, h.cell 6, h.cell 7, h.cell 8⟩
end Wd
end Go.Proofs.Yticfnngppcmidaa
