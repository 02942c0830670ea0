import Derived.Test.YtmpkaphcpaigdaaGolC
import Derived.Test.YtmpkaphcpaigdaaBas
import Derived.Test.YtmpkaphcpaigdaaProg
import Derived.Test.YtmpkaphcpaigdaaGol
import Derived.Lib.BitFns
import Derived.Test.YtmpkaphcpaigdaaShelf
set_option linter.unusedVariables false
set_option linter.unusedSimpArgs false
set_option maxRecDepth 100000
set_option maxHeartbeats 4000000
namespace Go.Proofs.Ytmpkaphcpaigdaa
end Go.Proofs.Ytmpkaphcpaigdaa
set_option linter.unusedVariables false
set_option linter.unusedSimpArgs false
namespace Go.Proofs.Ytmpkaphcpaigdaa
open Go.RowKit

structure Cel where
 x : Int
 y : Int
 deriving DecidableEq, Inhabited
namespace Cel
def cells (a : Cel) : List Value := [.int .i64 (a.x), .int .i64 (a.y)]
def ok (a : Cel) : Prop := (Lit.int .i64 a.x).wf = true ∧ (Lit.int .i64 a.y).wf = true
def raw (j : Nat) (u : Value) : Prop := match j with
 | 0 => ∃ n : Int, u = .int .i64 n
 | 1 => ∃ n : Int, u = .int .i64 n
 | _ => True
theorem cells_raw (a : Cel) : ∀ (j : Nat) u, a.cells[j]? = some u → raw j u := by
 intro j u hu
 match j, hu with
 | 0, hu => exact ⟨_, (Option.some.inj hu).symm⟩
 | 1, hu => exact ⟨_, (Option.some.inj hu).symm⟩
 | j + 2, hu => exact trivial
theorem cells_one (a : Cel) : ∀ u ∈ a.cells, u.oneCell' = true := by
 intro u hu
 unfold cells at hu
 simp only [List.mem_cons, List.not_mem_nil, or_false] at hu
 rcases hu with rfl | rfl <;> rfl
def rep : Rep Cel := Rep.flat 2 cells ok raw (λ _ => rfl) cells_one cells_raw
theorem plain : rep.Plain := Rep.flat_plain
def zero : Value := .agg #[.int .i64 0, .int .i64 0]
theorem zero_raw : ∀ (j : Nat) u, zero.cells[j]? = some u → rep.raw j u := by
 intro j u hu
 have hu : (#[(.int .i64 0 : Value), (.int .i64 0 : Value)] : Array Value)[j]? = some u := hu
 match j, hu with
 | 0, hu => exact ⟨_, (Option.some.inj hu).symm⟩
 | 1, hu => exact ⟨_, (Option.some.inj hu).symm⟩
 | j + 2, hu => cases hu
theorem info : (Try.prog.info? 35).map (λ i => (i.zero, i.size, i.bytes)) = some (some zero, 2, 16) := by kernel_rfl
theorem at_ {by_ : Nat} {w : World} {A : Option Addr} {c : Nat} {l : List Cel} (h : rep.SHas by_ w A c l) (h0 : 0 < l.length) :
  ∃ b o, A = some ⟨b, o, none⟩ ∧ ∀ (i : Nat) (a : Cel), l[i]? = some a → w.cell? ⟨b, o + i * 2, none⟩ = some (.int .i64 (a.x)) ∧ w.cell? ⟨b, o + i * 2 + 1, none⟩ = some (.int .i64 (a.y)) := by
 obtain ⟨b, o, e, hc⟩ := h.at_ h0
 refine ⟨b, o, e, λ i a ha => ?_⟩
 obtain ⟨es, ⟨rfl, _⟩, hj⟩ := hc i a ha
 exact ⟨hj 0 _ rfl, hj 1 _ rfl⟩
theorem all_ok {by_ : Nat} {w : World} {A : Option Addr} {c : Nat} {l : List Cel} (h : rep.SHas by_ w A c l) : ∀ a ∈ l, a.ok := Rep.SHas.all_ (R := rep) (Q := ok) (fun {w cs a} (h : rep.has w cs a) => (show cs = a.cells ∧ a.ok from h).2) h
theorem blk {w : World} {g : Nat} {t : TypeId} {fr : Nat × Nat} {a : Cel} (h : Blk w g a.cells t fr) : w.cell? ⟨g, 0, none⟩ = some (.int .i64 (a.x)) ∧ w.cell? ⟨g, 1, none⟩ = some (.int .i64 (a.y)) :=
 ⟨h.cell 0, h.cell 1⟩
def sh : Sh := (.cons (.int .i64) (.cons (.int .i64) .nil))
theorem opens (w : World) (cs : List Value) (h : sh.Ok w cs) : ∃ a, rep.has w cs a := by
 obtain ⟨_, _, rfl, _, _, ⟨x0, rfl, k0⟩, ⟨_, _, rfl, _, _, ⟨x1, rfl, k1⟩, rfl⟩⟩ := h
 exact ⟨⟨x0, x1⟩, rfl, k0, k1⟩
end Cel
theorem hcC {w : World} {cs : List Value} {a : Cel} (h : Cel.rep.has w cs a) : cs = a.cells := And.left (show cs = a.cells ∧ a.ok from h)
end Go.Proofs.Ytmpkaphcpaigdaa
set_option linter.unusedVariables false
set_option linter.unusedSimpArgs false
namespace Go.Proofs.Ytmpkaphcpaigdaa
open Go.RowKit

structure Trp where
 id : Int
 owner : Int
 kind : Int
 spot : Cel
 life : Int
 load : Int
 deriving DecidableEq, Inhabited
namespace Trp
def cells (a : Trp) : List Value := [.int .i64 (a.id), .int .i64 (a.owner), .int .i64 (a.kind), .int .i64 (a.spot.x), .int .i64 (a.spot.y), .int .i64 (a.life), .int .i64 (a.load)]
def ok (a : Trp) : Prop := (Lit.int .i64 a.id).wf = true ∧ (Lit.int .i64 a.owner).wf = true ∧ (Lit.int .i64 a.kind).wf = true ∧ (Lit.int .i64 a.spot.x).wf = true ∧ (Lit.int .i64 a.spot.y).wf = true ∧ (Lit.int .i64 a.life).wf = true ∧ (Lit.int .i64 a.load).wf = true
def raw (j : Nat) (u : Value) : Prop := match j with
 | 0 => ∃ n : Int, u = .int .i64 n
 | 1 => ∃ n : Int, u = .int .i64 n
 | 2 => ∃ n : Int, u = .int .i64 n
 | 3 => ∃ n : Int, u = .int .i64 n
 | 4 => ∃ n : Int, u = .int .i64 n
 | 5 => ∃ n : Int, u = .int .i64 n
 | 6 => ∃ n : Int, u = .int .i64 n
 | _ => True
theorem cells_raw (a : Trp) : ∀ (j : Nat) u, a.cells[j]? = some u → raw j u := by
 intro j u hu
 match j, hu with
 | 0, hu => exact ⟨_, (Option.some.inj hu).symm⟩
 | 1, hu => exact ⟨_, (Option.some.inj hu).symm⟩
 | 2, hu => exact ⟨_, (Option.some.inj hu).symm⟩
 | 3, hu => exact ⟨_, (Option.some.inj hu).symm⟩
 | 4, hu => exact ⟨_, (Option.some.inj hu).symm⟩
 | 5, hu => exact ⟨_, (Option.some.inj hu).symm⟩
 | 6, hu => exact ⟨_, (Option.some.inj hu).symm⟩
 | j + 7, hu => exact trivial
theorem cells_one (a : Trp) : ∀ u ∈ a.cells, u.oneCell' = true := by
 intro u hu
 unfold cells at hu
 simp only [List.mem_cons, List.not_mem_nil, or_false] at hu
 rcases hu with rfl | rfl | rfl | rfl | rfl | rfl | rfl <;> rfl
def rep : Rep Trp := Rep.flat 7 cells ok raw (λ _ => rfl) cells_one cells_raw
theorem plain : rep.Plain := Rep.flat_plain
def zero : Value := .agg #[.int .i64 0, .int .i64 0, .int .i64 0, .int .i64 0, .int .i64 0, .int .i64 0, .int .i64 0]
theorem zero_raw : ∀ (j : Nat) u, zero.cells[j]? = some u → rep.raw j u := by
 intro j u hu
 have hu : (#[(.int .i64 0 : Value), (.int .i64 0 : Value), (.int .i64 0 : Value), (.int .i64 0 : Value), (.int .i64 0 : Value), (.int .i64 0 : Value), (.int .i64 0 : Value)] : Array Value)[j]? = some u := hu
 match j, hu with
 | 0, hu => exact ⟨_, (Option.some.inj hu).symm⟩
 | 1, hu => exact ⟨_, (Option.some.inj hu).symm⟩
 | 2, hu => exact ⟨_, (Option.some.inj hu).symm⟩
 | 3, hu => exact ⟨_, (Option.some.inj hu).symm⟩
 | 4, hu => exact ⟨_, (Option.some.inj hu).symm⟩
 | 5, hu => exact ⟨_, (Option.some.inj hu).symm⟩
 | 6, hu => exact ⟨_, (Option.some.inj hu).symm⟩
 | j + 7, hu => cases hu
theorem info : (Try.prog.info? 37).map (λ i => (i.zero, i.size, i.bytes)) = some (some zero, 7, 56) := by kernel_rfl
theorem at_ {by_ : Nat} {w : World} {A : Option Addr} {c : Nat} {l : List Trp} (h : rep.SHas by_ w A c l) (h0 : 0 < l.length) :
  ∃ b o, A = some ⟨b, o, none⟩ ∧ ∀ (i : Nat) (a : Trp), l[i]? = some a → w.cell? ⟨b, o + i * 7, none⟩ = some (.int .i64 (a.id)) ∧ w.cell? ⟨b, o + i * 7 + 1, none⟩ = some (.int .i64 (a.owner)) ∧ w.cell? ⟨b, o + i * 7 + 2, none⟩ = some (.int .i64 (a.kind)) ∧ w.cell? ⟨b, o + i * 7 + 3, none⟩ = some (.int .i64 (a.spot.x)) ∧ w.cell? ⟨b, o + i * 7 + 4, none⟩ = some (.int .i64 (a.spot.y)) ∧ w.cell? ⟨b, o + i * 7 + 5, none⟩ = some (.int .i64 (a.life)) ∧ w.cell? ⟨b, o + i * 7 + 6, none⟩ = some (.int .i64 (a.load)) := by
 obtain ⟨b, o, e, hc⟩ := h.at_ h0
 refine ⟨b, o, e, λ i a ha => ?_⟩
 obtain ⟨es, ⟨rfl, _⟩, hj⟩ := hc i a ha
 exact ⟨hj 0 _ rfl, hj 1 _ rfl, hj 2 _ rfl, hj 3 _ rfl, hj 4 _ rfl, hj 5 _ rfl, hj 6 _ rfl⟩
theorem all_ok {by_ : Nat} {w : World} {A : Option Addr} {c : Nat} {l : List Trp} (h : rep.SHas by_ w A c l) : ∀ a ∈ l, a.ok := Rep.SHas.all_ (R := rep) (Q := ok) (fun {w cs a} (h : rep.has w cs a) => (show cs = a.cells ∧ a.ok from h).2) h
theorem blk {w : World} {g : Nat} {t : TypeId} {fr : Nat × Nat} {a : Trp} (h : Blk w g a.cells t fr) : w.cell? ⟨g, 0, none⟩ = some (.int .i64 (a.id)) ∧ w.cell? ⟨g, 1, none⟩ = some (.int .i64 (a.owner)) ∧ w.cell? ⟨g, 2, none⟩ = some (.int .i64 (a.kind)) ∧ w.cell? ⟨g, 3, none⟩ = some (.int .i64 (a.spot.x)) ∧ w.cell? ⟨g, 4, none⟩ = some (.int .i64 (a.spot.y)) ∧ w.cell? ⟨g, 5, none⟩ = some (.int .i64 (a.life)) ∧ w.cell? ⟨g, 6, none⟩ = some (.int .i64 (a.load)) :=
 ⟨h.cell 0, h.cell 1, h.cell 2, h.cell 3, h.cell 4, h.cell 5, h.cell 6⟩
def sh : Sh := (.cons (.int .i64) (.cons (.int .i64) (.cons (.int .i64) (.cons (.cons (.int .i64) (.cons (.int .i64) .nil)) (.cons (.int .i64) (.cons (.int .i64) .nil))))))
theorem opens (w : World) (cs : List Value) (h : sh.Ok w cs) : ∃ a, rep.has w cs a := by
 obtain ⟨_, _, rfl, _, _, ⟨x0, rfl, k0⟩, ⟨_, _, rfl, _, _, ⟨x1, rfl, k1⟩, ⟨_, _, rfl, _, _, ⟨x2, rfl, k2⟩, ⟨_, _, rfl, _, _, ⟨_, _, rfl, _, _, ⟨x3, rfl, k3⟩, ⟨_, _, rfl, _, _, ⟨x4, rfl, k4⟩, rfl⟩⟩, ⟨_, _, rfl, _, _, ⟨x5, rfl, k5⟩, ⟨_, _, rfl, _, _, ⟨x6, rfl, k6⟩, rfl⟩⟩⟩⟩⟩⟩ := h
 exact ⟨⟨x0, x1, x2, ⟨x3, x4⟩, x5, x6⟩, rfl, k0, k1, k2, k3, k4, k5, k6⟩
end Trp
theorem hcT {w : World} {cs : List Value} {a : Trp} (h : Trp.rep.has w cs a) : cs = a.cells := And.left (show cs = a.cells ∧ a.ok from h)
end Go.Proofs.Ytmpkaphcpaigdaa
set_option linter.unusedVariables false
set_option linter.unusedSimpArgs false
namespace Go.Proofs.Ytmpkaphcpaigdaa
open Go.RowKit

structure Fld where
 wide : Int
 high : Int
 places : List Int
 deriving DecidableEq, Inhabited
structure Wd where
 field : Fld
 bases : List Cel
 stocks : List Int
 mines : List Int
 troops : List Trp
 next : Int
 now : Int
 deriving DecidableEq, Inhabited
namespace Fld
def placeOk (p : Int) : Bool := inB p 0 3
def chk (f : Fld) : Int :=
 if inB f.wide 1 40 && inB f.high 1 40 then (if decide ((f.places.length : Int) = f.wide * f.high) && f.places.all placeOk then 0 else 4) else 1
def isIn (f : Fld) (c : Cel) : Bool := inB c.x 0 (f.wide - 1) && inB c.y 0 (f.high - 1)
def place (f : Fld) (c : Cel) : Int := f.places.getD (c.y * f.wide + c.x).toNat 0
def ground (f : Fld) (c : Cel) : Bool := f.isIn c && f.place c != 1
theorem good {f : Fld} (h : f.chk = 0) : 1 ≤ f.wide ∧ f.wide ≤ 40 ∧ 1 ≤ f.high ∧ f.high ≤ 40 ∧ (f.places.length : Int) = f.wide * f.high ∧ ∀ p ∈ f.places, 0 ≤ p ∧ p ≤ 3 := by
 unfold chk at h
 split at h
 ·rename_i h1
  rw [Bool.and_eq_true] at h1
  have a := inB_true h1.1
  have b := inB_true h1.2
  split at h
  ·rename_i h2
   rw [Bool.and_eq_true, List.all_eq_true] at h2
   exact ⟨a.1, a.2, b.1, b.2, by simpa using h2.1, λ p hp => inB_true (h2.2 p hp)⟩
  ·cases h
 ·cases h
theorem chk_one {f : Fld} (h : (inB f.wide 1 40 && inB f.high 1 40) = false) : f.chk = 1 := by unfold chk; rw [h]; rfl
theorem idx {f : Fld} (h : f.chk = 0) {c : Cel} (hc : f.isIn c = true) : 0 ≤ c.y * f.wide + c.x ∧ c.y * f.wide + c.x < (f.places.length : Int) ∧ 0 ≤ c.x ∧ c.x < f.wide ∧ 0 ≤ c.y ∧ c.y < f.high := by
 obtain ⟨g1, g2, g3, g4, g5, _⟩ := good h
 unfold isIn at hc
 rw [Bool.and_eq_true] at hc
 have a := inB_true hc.1
 have b := inB_true hc.2
 have e1 : 0 ≤ c.y * f.wide := Int.mul_nonneg b.1 (by omega)
 have e2 : c.y * f.wide ≤ (f.high - 1) * f.wide := Int.mul_le_mul_of_nonneg_right b.2 (by omega)
 have e3 : (f.high - 1) * f.wide = f.wide * f.high - f.wide := by rw [Int.sub_mul, Int.one_mul, Int.mul_comm]
 rw [g5]
 omega
theorem len_le {f : Fld} (h : f.chk = 0) : f.places.length ≤ 1600 := by
 obtain ⟨g1, g2, g3, g4, g5, _⟩ := good h
 have e2 : f.wide * f.high ≤ 40 * 40 := Int.mul_le_mul g2 g4 (by omega) (by omega)
 omega
end Fld
namespace Fld
def atE (f : Fld) (c : Cel) : Int := if f.chk ≠ 0 then f.chk else if f.isIn c then 0 else 7
def atV (f : Fld) (c : Cel) : Int := if f.chk ≠ 0 then 0 else if f.isIn c then f.place c else 0
theorem at_bad {f : Fld} {c : Cel} (h : f.chk ≠ 0) : f.atE c = f.chk ∧ f.atV c = 0 := by unfold atE atV; rw [if_pos h, if_pos h]; exact ⟨rfl, rfl⟩
theorem at_out {f : Fld} {c : Cel} (h : f.chk = 0) (h2 : f.isIn c = false) : f.atE c = 7 ∧ f.atV c = 0 := by unfold atE atV; simp [h, h2]
theorem at_in {f : Fld} {c : Cel} (h : f.chk = 0) (h2 : f.isIn c = true) : f.atE c = 0 ∧ f.atV c = f.place c := by unfold atE atV; simp [h, h2]
theorem isIn_out {f : Fld} {c : Cel} (h : c.x < 0 ∨ f.wide ≤ c.x ∨ c.y < 0 ∨ f.high ≤ c.y) : f.isIn c = false := by
 unfold isIn
 rcases h with h | h | h | h
 ·rw [inB_not (.inl h)]; rfl
 ·rw [inB_not (n := c.x) (.inr (by omega))]; rfl
 ·rw [inB_not (n := c.y) (.inl h), Bool.and_false]
 ·rw [inB_not (n := c.y) (.inr (by omega)), Bool.and_false]
theorem isIn_mk {f : Fld} {c : Cel} (h1 : 0 ≤ c.x) (h2 : c.x < f.wide) (h3 : 0 ≤ c.y) (h4 : c.y < f.high) : f.isIn c = true := by
 unfold isIn
 rw [inB_mk h1 (by omega), inB_mk h3 (by omega)]; rfl
end Fld
def kindOf (k : Int) : Option (Int × Int × Int × Int) := if k = 1 then some (10, 1, 1, 5) else if k = 2 then some (20, 2, 4, 12) else none
namespace Wd
def okBase (W : Wd) (i : Nat) : Bool := W.field.ground (W.bases.getD i default) && !(W.bases.take i).contains (W.bases.getD i default) && inB (W.stocks.getD i 0) 0 1000000
def players (W : Wd) : Bool := decide (W.stocks.length = W.bases.length) && (List.range W.bases.length).all W.okBase
def okMine (W : Wd) (i : Nat) : Bool := inB (W.mines.getD i 0) 0 1000000 && (decide (W.mines.getD i 0 ≤ 0) || W.field.places.getD i 0 == 3)
def minesOk (W : Wd) : Bool := decide (W.mines.length = W.field.places.length) && (List.range W.mines.length).all W.okMine
def lastId (W : Wd) (i : Nat) : Int := if i = 0 then 0 else (W.troops.getD (i - 1) default).id
def lifeOf (k : Int) : Int := if k = 1 then 10 else if k = 2 then 20 else 0
def mostOf (k : Int) : Int := if k = 1 then 5 else 0
def okOne (W : Wd) (lx nx : Int) (t : Trp) : Bool :=
 inB t.kind 1 2 && inB t.id lx nx && inB t.owner 0 ((W.bases.length : Int) - 1) && W.field.ground t.spot && inB t.life 1 (lifeOf t.kind) && inB t.load 0 (mostOf t.kind)
def spots (W : Wd) (k : Nat) : List Cel := (W.troops.take k).map (·.spot)
def okTroop (W : Wd) (i : Nat) : Bool := W.okOne (wrap64 (W.lastId i + 1)) (wrap64 (W.next - 1)) (W.troops.getD i default) && !(W.spots i).contains (W.troops.getD i default).spot
def troopsOk (W : Wd) : Bool := (List.range W.troops.length).all W.okTroop && (inB W.next 1 1000000 && inB W.now 0 1000000)
def chk (W : Wd) : Int :=
 if W.field.chk ≠ 0 then W.field.chk else if 8 < W.bases.length ∨ 100 < W.troops.length then 2 else if W.players && W.minesOk && W.troopsOk then 0 else 4
structure At where
 P : Option Addr
 B : Option Addr
 S : Option Addr
 M : Option Addr
 T : Option Addr
 p : Nat
 b : Nat
 s : Nat
 m : Nat
 t : Nat
def fcells (A : Option Addr) (c : Nat) (f : Fld) : List Value := [.int .i64 f.wide, .int .i64 f.high, .slice A f.places.length c]
def cells (h : At) (W : Wd) : List Value :=
 [.int .i64 W.field.wide, .int .i64 W.field.high, .slice h.P W.field.places.length h.p, .slice h.B W.bases.length h.b, .slice h.S W.stocks.length h.s, .slice h.M W.mines.length h.m, .slice h.T W.troops.length h.t, .int .i64 W.next, .int .i64 W.now]
theorem cells_eq (h : At) (W : Wd) : (cells h W).toArray = #[.int .i64 W.field.wide, .int .i64 W.field.high, .slice h.P W.field.places.length h.p, .slice h.B W.bases.length h.b, .slice h.S W.stocks.length h.s, .slice h.M W.mines.length h.m, .slice h.T W.troops.length h.t, .int .i64 W.next, .int .i64 W.now] := rfl
structure Has (w : World) (h : At) (W : Wd) : Prop where
 P : repI.SHas 8 w h.P h.p W.field.places
 B : Cel.rep.SHas 16 w h.B h.b W.bases
 S : repI.SHas 8 w h.S h.s W.stocks
 M : repI.SHas 8 w h.M h.m W.mines
 T : Trp.rep.SHas 56 w h.T h.t W.troops
 nums : okI W.field.wide ∧ okI W.field.high ∧ okI W.next ∧ okI W.now
theorem Has.keep {w w' : World} {h : At} {W : Wd} (hw : Has w h W) (hb : Below w.heap.size w w') : Has w' h W :=
 ⟨hw.P.keep hb, hw.B.keep hb, hw.S.keep hb, hw.M.keep hb, hw.T.keep hb, hw.nums⟩
def fsh : Sh := .cons (.int .i64) (.cons (.int .i64) (.cons (.slice (.int .i64) 8) .nil))
def sh : Sh := .cons fsh (.cons (.slice Cel.sh 16) (.cons (.slice (.int .i64) 8) (.cons (.slice (.int .i64) 8) (.cons (.slice Trp.sh 56) (.cons (.int .i64) (.cons (.int .i64) .nil))))))
theorem opens (w : World) (cs : List Value) (h : sh.Ok w cs) : ∃ h W, cs = cells h W ∧ Has w h W := by
 obtain ⟨_, _, rfl, _, _, ⟨_, _, rfl, _, _, ⟨x0, rfl, k0⟩, _, _, rfl, _, _, ⟨x1, rfl, k1⟩, _, _, rfl, _, _, hP, rfl⟩, _, _, rfl, _, _, hB, _, _, rfl, _, _, hS, _, _, rfl, _, _, hM, _, _, rfl, _, _, hT, _, _, rfl, _, _, ⟨x2, rfl, k2⟩, _, _, rfl, _, _, ⟨x3, rfl, k3⟩, rfl⟩ := h
 obtain ⟨aP, cP, lP, rfl, HP⟩ := Rep.opens_slice (R := repI) repI_opens rfl (by decide) hP
 obtain ⟨aB, cB, lB, rfl, HB⟩ := Rep.opens_slice (R := Cel.rep) Cel.opens rfl (by decide) hB
 obtain ⟨aS, cS, lS, rfl, HS⟩ := Rep.opens_slice (R := repI) repI_opens rfl (by decide) hS
 obtain ⟨aM, cM, lM, rfl, HM⟩ := Rep.opens_slice (R := repI) repI_opens rfl (by decide) hM
 obtain ⟨aT, cT, lT, rfl, HT⟩ := Rep.opens_slice (R := Trp.rep) Trp.opens rfl (by decide) hT
 exact ⟨⟨aP, aB, aS, aM, aT, cP, cB, cS, cM, cT⟩, ⟨⟨x0, x1, lP⟩, lB, lS, lM, lT, x2, x3⟩, rfl, HP, HB, HS, HM, HT, k0, k1, k2, k3⟩
theorem fblk {w : World} {g : Nat} {t : TypeId} {fr : Nat × Nat} {A : Option Addr} {c : Nat} {f : Fld} (h : Blk w g (fcells A c f) t fr) :
  w.cell? ⟨g, 0, none⟩ = some (.int .i64 f.wide) ∧ w.cell? ⟨g, 1, none⟩ = some (.int .i64 f.high) ∧ w.cell? ⟨g, 2, none⟩ = some (.slice A f.places.length c) := ⟨h.cell 0, h.cell 1, h.cell 2⟩
theorem wblk {w : World} {g : Nat} {t : TypeId} {fr : Nat × Nat} {a : At} {W : Wd} (h : Blk w g (cells a W) t fr) :
  w.cell? ⟨g, 0, none⟩ = some (.int .i64 W.field.wide) ∧ w.cell? ⟨g, 1, none⟩ = some (.int .i64 W.field.high) ∧ w.cell? ⟨g, 2, none⟩ = some (.slice a.P W.field.places.length a.p) ∧
  w.cell? ⟨g, 3, none⟩ = some (.slice a.B W.bases.length a.b) ∧ w.cell? ⟨g, 4, none⟩ = some (.slice a.S W.stocks.length a.s) ∧ w.cell? ⟨g, 5, none⟩ = some (.slice a.M W.mines.length a.m) ∧ w.cell? ⟨g, 6, none⟩ = some (.slice a.T W.troops.length a.t) ∧
  w.cell? ⟨g, 7, none⟩ = some (.int .i64 W.next) ∧ w.cell? ⟨g, 8, none⟩ = some (.int .i64 W.now) := ⟨h.cell 0, h.cell 1, h.cell 2, h.cell 3, h.cell 4, h.cell 5, h.cell 6, h.cell 7, h.cell 8⟩
end Wd
end Go.Proofs.Ytmpkaphcpaigdaa
set_option linter.unusedVariables false
set_option linter.unusedSimpArgs false
namespace Go.Proofs.Ytmpkaphcpaigdaa
open Go.RowKit

theorem Fld.ground_in {f : Fld} {c : Cel} (h : f.ground c = true) : f.isIn c = true := by
 unfold Fld.ground at h
 rw [Bool.and_eq_true] at h
 exact h.1
namespace Wd
theorem chk_field {W : Wd} (h : W.field.chk ≠ 0) : W.chk = W.field.chk := by unfold chk; rw [if_pos h]
theorem chk_large {W : Wd} (h : W.field.chk = 0) (h2 : 8 < W.bases.length ∨ 100 < W.troops.length) : W.chk = 2 := by unfold chk; rw [if_neg (by simpa using h), if_pos h2]
theorem chk_all {W : Wd} (h : W.field.chk = 0) (h2 : ¬ (8 < W.bases.length ∨ 100 < W.troops.length)) : W.chk = if W.players && W.minesOk && W.troopsOk then 0 else 4 := by unfold chk; rw [if_neg (by simpa using h), if_neg h2]
end Wd
theorem Wd.players_no {W : Wd} (h : ¬ W.stocks.length = W.bases.length) : W.players = false := by unfold Wd.players; rw [decide_eq_false h]; rfl
theorem Wd.players_bad {W : Wd} {k : Nat} (hk : k < W.bases.length) (h : W.okBase k = false) : W.players = false := by
 unfold Wd.players
 rw [Bool.and_eq_false_iff]; right
 rw [List.all_eq_false]
 exact ⟨k, List.mem_range.2 hk, by rw [h]; simp⟩
theorem Wd.players_ok {W : Wd} (h : W.stocks.length = W.bases.length) (ha : ∀ k, k < W.bases.length → W.okBase k = true) : W.players = true := by
 unfold Wd.players
 rw [decide_eq_true h, Bool.true_and, List.all_eq_true]
 exact λ k hk => ha k (List.mem_range.1 hk)
theorem Wd.mines_no {W : Wd} (h : ¬ W.mines.length = W.field.places.length) : W.minesOk = false := by unfold Wd.minesOk; rw [decide_eq_false h]; rfl
theorem Wd.mines_bad {W : Wd} {k : Nat} (hk : k < W.mines.length) (h : W.okMine k = false) : W.minesOk = false := by
 unfold Wd.minesOk
 rw [Bool.and_eq_false_iff]; right
 rw [List.all_eq_false]
 exact ⟨k, List.mem_range.2 hk, by rw [h]; simp⟩
theorem Wd.mines_ok {W : Wd} (h : W.mines.length = W.field.places.length) (ha : ∀ k, k < W.mines.length → W.okMine k = true) : W.minesOk = true := by
 unfold Wd.minesOk
 rw [decide_eq_true h, Bool.true_and, List.all_eq_true]
 exact λ k hk => ha k (List.mem_range.1 hk)
theorem Wd.troops_bad {W : Wd} {k : Nat} (hk : k < W.troops.length) (h : W.okTroop k = false) : W.troopsOk = false := by
 unfold Wd.troopsOk
 rw [Bool.and_eq_false_iff]; left
 rw [List.all_eq_false]
 exact ⟨k, List.mem_range.2 hk, by rw [h]; simp⟩
def isId (id : Int) (t : Trp) : Bool := t.id == id
def isAt (p : Cel) (t : Trp) : Bool := decide (t.spot = p)
def whichI (W : Wd) (p : Trp → Bool) : Int := if W.chk = 0 then max (idxI p W.troops) 0 else 0
def whichB (W : Wd) (p : Trp → Bool) : Bool := decide (W.chk = 0) && decide (0 ≤ idxI p W.troops)
theorem which_ok {W : Wd} (h : W.chk = 0) (p : Trp → Bool) : whichI W p = max (idxI p W.troops) 0 ∧ whichB W p = decide (0 ≤ idxI p W.troops) := by
 unfold whichI whichB
 rw [if_pos h, decide_eq_true h]
 exact ⟨rfl, rfl⟩
theorem which_bad {W : Wd} (h : ¬ W.chk = 0) (p : Trp → Bool) : whichI W p = 0 ∧ whichB W p = false := by
 unfold whichI whichB
 rw [if_neg h, decide_eq_false h]
 exact ⟨rfl, rfl⟩
def nearT (c : Cel) (r : Int) (t : Trp) : Bool := inB c.x (t.spot.x - r) (t.spot.x + r) && inB c.y (t.spot.y - r) (t.spot.y + r)
def nearIds (W : Wd) (c : Cel) (r : Int) : List Int := (W.troops.filter (nearT c r)).map (·.id)
def nearE (W : Wd) (r : Int) : Int := if W.chk ≠ 0 then W.chk else if inB r 0 12 then 0 else 1
theorem good_spots {W : Wd} (h : W.chk = 0) : W.field.chk = 0 ∧ W.bases.length ≤ 8 ∧ W.troops.length ≤ 100 ∧ W.players = true ∧ W.minesOk = true ∧ W.troopsOk = true := by
 by_cases h1 : W.field.chk = 0
 ·by_cases h2 : 8 < W.bases.length ∨ 100 < W.troops.length
  ·rw [Wd.chk_large h1 h2] at h; cases h
  ·rw [Wd.chk_all h1 h2] at h
   split at h
   ·rename_i h3
    rw [Bool.and_eq_true, Bool.and_eq_true] at h3
    exact ⟨h1, by omega, by omega, h3.1.1, h3.1.2, h3.2⟩
   ·cases h
 ·rw [Wd.chk_field h1] at h; exact absurd h h1
theorem good_troop {W : Wd} (h : W.chk = 0) {k : Nat} {t : Trp} (ht : W.troops[k]? = some t) : W.field.ground t.spot = true ∧ inB t.kind 1 2 = true ∧ inB t.owner 0 ((W.bases.length : Int) - 1) = true ∧ inB t.life 1 (Wd.lifeOf t.kind) = true ∧ inB t.load 0 (Wd.mostOf t.kind) = true ∧ (W.spots k).contains t.spot = false ∧ inB t.id (wrap64 (W.lastId k + 1)) (wrap64 (W.next - 1)) = true := by
 obtain ⟨h0, _, _, _, _, h6⟩ := good_spots h
 unfold Wd.troopsOk at h6
 rw [Bool.and_eq_true, List.all_eq_true] at h6
 have hk := (List.getElem?_eq_some_iff.1 ht).1
 have h7 := h6.1 k (List.mem_range.2 hk)
 unfold Wd.okTroop Wd.okOne at h7
 rw [List.getD_eq_getElem?_getD, ht] at h7
 simp only [Option.getD_some, Bool.and_eq_true, Bool.not_eq_true'] at h7
 obtain ⟨⟨⟨⟨⟨⟨a1, a2⟩, a3⟩, a4⟩, a5⟩, a6⟩, a7⟩ := h7
 exact ⟨a4, a1, a3, a5, a6, a7, a2⟩
end Go.Proofs.Ytmpkaphcpaigdaa
set_option linter.unusedVariables false
set_option linter.unusedSimpArgs false
namespace Go.Proofs.Ytmpkaphcpaigdaa
open Go.RowKit

theorem next_ok {W : Wd} (h : W.chk = 0) : 1 ≤ W.next ∧ W.next ≤ 1000000 ∧ 0 ≤ W.now ∧ W.now ≤ 1000000 := by
 obtain ⟨_, _, _, _, _, h6⟩ := good_spots h
 unfold Wd.troopsOk at h6
 rw [Bool.and_eq_true, Bool.and_eq_true] at h6
 have a := inB_true h6.2.1
 have b := inB_true h6.2.2
 exact ⟨a.1, a.2, b.1, b.2⟩
theorem wrap_small {x : Int} (h1 : -1000 ≤ x) (h2 : x ≤ 2000000) : wrap64 x = x := by
 have h := IntKind.wrap_i64 x
 unfold wrap64
 first | (rw [h]; omega) | omega
theorem id_step {W : Wd} (h : W.chk = 0) : ∀ (k : Nat) (t : Trp), W.troops[k]? = some t → W.lastId k < t.id ∧ t.id < W.next ∧ 0 ≤ W.lastId k := by
 obtain ⟨n1, n2, _, _⟩ := next_ok h
 intro k
 induction k with
 | zero =>
  intro t ht
  have h7 := inB_true (good_troop h ht).2.2.2.2.2.2
  have e : W.lastId 0 = 0 := rfl
  rw [e] at h7 ⊢
  rw [wrap_small (by omega) (by omega), wrap_small (by omega) (by omega)] at h7
  omega
 | succ k ih =>
  intro t ht
  have hlt := (List.getElem?_eq_some_iff.1 ht).1
  obtain ⟨u, hu⟩ := get_of (l := W.troops) (i := k) (by omega)
  have h8 := ih u hu
  have h7 := inB_true (good_troop h ht).2.2.2.2.2.2
  have e : W.lastId (k + 1) = u.id := by
   unfold Wd.lastId
   rw [if_neg (by omega), List.getD_eq_getElem?_getD, Nat.add_sub_cancel, hu]; rfl
  rw [e] at h7 ⊢
  rw [wrap_small (by omega) (by omega), wrap_small (by omega) (by omega)] at h7
  omega
end Go.Proofs.Ytmpkaphcpaigdaa
set_option linter.unusedVariables false
set_option linter.unusedSimpArgs false
namespace Go.Proofs.Ytmpkaphcpaigdaa
open Go.RowKit
structure TroopOk (f : Fld) (nb : Nat) (t : Trp) : Prop where
 kind : t.kind = 1 ∨ t.kind = 2
 owner : 0 ≤ t.owner ∧ t.owner < (nb : Int)
 ground : f.ground t.spot = true
 life : 1 ≤ t.life ∧ t.life ≤ Wd.lifeOf t.kind
 load : 0 ≤ t.load ∧ t.load ≤ Wd.mostOf t.kind
structure Good (W : Wd) : Prop where
 field : W.field.chk = 0
 nb : W.bases.length ≤ 8
 nt : W.troops.length ≤ 100
 sl : W.stocks.length = W.bases.length
 bases : ∀ (i : Nat) c, W.bases[i]? = some c → W.field.ground c = true ∧ (W.bases.take i).contains c = false
 stocks : ∀ (i : Nat) s, W.stocks[i]? = some s → 0 ≤ s ∧ s ≤ 1000000
 ml : W.mines.length = W.field.places.length
 mines : ∀ (i : Nat) m, W.mines[i]? = some m → 0 ≤ m ∧ m ≤ 1000000 ∧ (m ≤ 0 ∨ W.field.places.getD i 0 = 3)
 troops : ∀ (i : Nat) t, W.troops[i]? = some t → TroopOk W.field W.bases.length t
 ids : ∀ (i : Nat) t, W.troops[i]? = some t → W.lastId i < t.id ∧ t.id < W.next ∧ 0 ≤ W.lastId i
 spots : ∀ (i : Nat) t, W.troops[i]? = some t → (W.spots i).contains t.spot = false
 next : 1 ≤ W.next ∧ W.next ≤ 1000000
 now : 0 ≤ W.now ∧ W.now ≤ 1000000
theorem Good.of_chk {W : Wd} (h : W.chk = 0) : Good W := by
 obtain ⟨h0, h8, h100, hp, hm, ht⟩ := good_spots h
 obtain ⟨n1, n2, n3, n4⟩ := next_ok h
 unfold Wd.players at hp
 unfold Wd.minesOk at hm
 rw [Bool.and_eq_true, List.all_eq_true] at hp hm
 have hsl : W.stocks.length = W.bases.length := by simpa using hp.1
 have hml : W.mines.length = W.field.places.length := by simpa using hm.1
 refine ⟨h0, h8, h100, hsl, λ i c hc => ?_, λ i s hs => ?_, hml, λ i m hi => ?_, λ i t hi => ?_, λ i t hi => id_step h i t hi, λ i t hi => (good_troop h hi).2.2.2.2.2.1, ⟨n1, n2⟩, ⟨n3, n4⟩⟩
 ·have hlt := (List.getElem?_eq_some_iff.1 hc).1
  have := hp.2 i (List.mem_range.2 hlt)
  unfold Wd.okBase at this
  rw [List.getD_eq_getElem?_getD, hc] at this
  simp only [Option.getD_some, Bool.and_eq_true, Bool.not_eq_true'] at this
  exact ⟨this.1.1, this.1.2⟩
 ·have hlt := (List.getElem?_eq_some_iff.1 hs).1
  have := hp.2 i (List.mem_range.2 (by omega))
  unfold Wd.okBase at this
  rw [Bool.and_eq_true] at this
  have h2 := inB_true this.2
  rw [List.getD_eq_getElem?_getD, hs] at h2
  exact h2
 ·have hlt := (List.getElem?_eq_some_iff.1 hi).1
  have := hm.2 i (List.mem_range.2 hlt)
  unfold Wd.okMine at this
  rw [List.getD_eq_getElem?_getD, hi, Bool.and_eq_true, Bool.or_eq_true] at this
  have h2 := inB_true this.1
  refine ⟨h2.1, h2.2, ?_⟩
  rcases this.2 with h3 | h3
  ·exact .inl (by simpa using h3)
  ·exact .inr (by simpa using h3)
 ·obtain ⟨a1, a2, a3, a4, a5, _, _⟩ := good_troop h hi
  have b2 := inB_true a2
  have b3 := inB_true a3
  have b4 := inB_true a4
  have b5 := inB_true a5
  exact ⟨by omega, ⟨b3.1, by omega⟩, a1, b4, b5⟩
theorem Good.chk {W : Wd} (h : Good W) : W.chk = 0 := by
 have hp : W.players = true := Wd.players_ok h.sl λ k hk => by
  obtain ⟨c, hc⟩ := get_of hk
  obtain ⟨s, hs⟩ := get_of (l := W.stocks) (i := k) (by rw [h.sl]; exact hk)
  unfold Wd.okBase
  rw [List.getD_eq_getElem?_getD, hc, List.getD_eq_getElem?_getD, hs]
  have h1 := h.bases k c hc
  have h2 := h.stocks k s hs
  simp only [Option.getD_some]
  rw [h1.1, h1.2, inB_mk h2.1 h2.2]; rfl
 have hm : W.minesOk = true := Wd.mines_ok h.ml λ k hk => by
  obtain ⟨m, hm⟩ := get_of hk
  have h1 := h.mines k m hm
  unfold Wd.okMine
  rw [List.getD_eq_getElem?_getD, hm]
  simp only [Option.getD_some]
  rw [inB_mk h1.1 h1.2.1, Bool.true_and, Bool.or_eq_true]
  rcases h1.2.2 with h3 | h3
  ·exact .inl (by simpa using h3)
  ·exact .inr (by simpa using h3)
 have ht : W.troopsOk = true := by
  unfold Wd.troopsOk
  rw [inB_mk h.next.1 h.next.2, inB_mk h.now.1 h.now.2, Bool.and_true, Bool.and_true, List.all_eq_true]
  intro k hk
  obtain ⟨t, ht⟩ := get_of (List.mem_range.1 hk)
  have h1 := h.troops k t ht
  have h2 := h.ids k t ht
  have h3 := h.spots k t ht
  have hn := h.next
  unfold Wd.okTroop Wd.okOne
  rw [List.getD_eq_getElem?_getD, ht]
  simp only [Option.getD_some]
  have k1 : inB t.kind 1 2 = true := by
   rcases h1.kind with h | h
   ·exact inB_mk (by omega) (by omega)
   ·exact inB_mk (by omega) (by omega)
  have k2 : inB t.id (W.lastId k + 1) (W.next - 1) = true := inB_mk (by omega) (by omega)
  have k3 : inB t.owner 0 ((W.bases.length : Int) - 1) = true := inB_mk h1.owner.1 (by have := h1.owner.2; omega)
  rw [wrap_small (by omega) (by omega), wrap_small (by omega) (by omega), k1, k2, k3, h3, h1.ground, inB_mk h1.life.1 h1.life.2, inB_mk h1.load.1 h1.load.2]
  rfl
 rw [Wd.chk_all h.field (by have := h.nb; have := h.nt; omega), hp, hm, ht]
 rfl
end Go.Proofs.Ytmpkaphcpaigdaa
set_option linter.unusedVariables false
set_option linter.unusedSimpArgs false
namespace Go.Proofs.Ytmpkaphcpaigdaa
open Go.RowKit
structure WOwn (w : World) (Z : Nat) (a : Wd.At) (W : Wd) : Prop where
 P : repI.SOwn 3 8 w Z (Rep.blkOf a.P) a.P a.p W.field.places
 B : Cel.rep.SOwn 35 16 w Z (Rep.blkOf a.B) a.B a.b W.bases
 S : repI.SOwn 3 8 w Z (Rep.blkOf a.S) a.S a.s W.stocks
 M : repI.SOwn 3 8 w Z (Rep.blkOf a.M) a.M a.m W.mines
 T : Trp.rep.SOwn 37 56 w Z (Rep.blkOf a.T) a.T a.t W.troops
 apart : (Rep.blkOf a.P ++ Rep.blkOf a.B ++ Rep.blkOf a.S ++ Rep.blkOf a.M ++ Rep.blkOf a.T).Nodup
 nums : okI W.field.wide ∧ okI W.field.high ∧ okI W.next ∧ okI W.now
theorem WOwn.has {w : World} {B : Nat} {a : Wd.At} {W : Wd} (h : WOwn w B a W) : Wd.Has w a W := ⟨h.P.has, h.B.has, h.S.has, h.M.has, h.T.has, h.nums⟩
theorem WOwn.later {w w' : World} {B : Nat} {a : Wd.At} {W : Wd} (h : WOwn w B a W) (hb : Below w.heap.size w w') : WOwn w' B a W := ⟨h.P.later hb, h.B.later hb, h.S.later hb, h.M.later hb, h.T.later hb, h.apart, h.nums⟩
def WOwn.foot (a : Wd.At) : List Nat := Rep.blkOf a.P ++ Rep.blkOf a.B ++ Rep.blkOf a.S ++ Rep.blkOf a.M ++ Rep.blkOf a.T
theorem WOwn.lt {w : World} {B : Nat} {a : Wd.At} {W : Wd} (h : WOwn w B a W) : ∀ g ∈ WOwn.foot a, B ≤ g ∧ g < w.heap.size := by
 intro g hg
 unfold WOwn.foot at hg
 simp only [List.mem_append] at hg
 rcases hg with (((hg | hg) | hg) | hg) | hg
 ·exact h.P.lt g hg
 ·exact h.B.lt g hg
 ·exact h.S.lt g hg
 ·exact h.M.lt g hg
 ·exact h.T.lt g hg
theorem WOwn.other {w : World} {B : Nat} {a : Wd.At} {W : Wd} (h : WOwn w B a W) {p : Addr} (hp : p.block ∉ WOwn.foot a) (u : Value) : WOwn (w.setCell p u) B a W := by
 unfold WOwn.foot at hp
 simp only [List.mem_append, not_or] at hp
 exact ⟨h.P.other hp.1.1.1.1 u, h.B.other hp.1.1.1.2 u, h.S.other hp.1.1.2 u, h.M.other hp.1.2 u, h.T.other hp.2 u, h.apart, h.nums⟩
def Half (w wx : World) (pA : Option Addr) (pC : Nat) (W : Wd) (aM : Option Addr) (kM : Nat) (aT : Option Addr) (kT n2 : Nat) : Prop :=
 ∃ (bA : Option Addr) (bC : Nat) (sA : Option Addr) (sC n3 n4 : Nat), Blk wx w.heap.size [.int .i64 W.field.wide, .int .i64 W.field.high, .slice pA W.field.places.length pC, .slice bA W.bases.length bC, .slice sA W.stocks.length sC, .slice aM W.mines.length kM, .slice aT W.troops.length kT, .int .i64 W.next, .int .i64 W.now] 28 (0, 0) ∧
  Blk wx (w.heap.size + 1) [.int .i64 0, .int .i64 0, .slice none 0 0, .slice none 0 0, .slice none 0 0, .slice none 0 0, .slice none 0 0, .int .i64 0, .int .i64 0] 28 (0, 0) ∧ repI.SOwn 3 8 wx w.heap.size (Rep.blkOf pA) pA pC W.field.places ∧ Cel.rep.SOwn 35 16 wx n2 (Rep.blkOf bA) bA bC W.bases ∧ repI.SOwn 3 8 wx n3 (Rep.blkOf sA) sA sC W.stocks ∧
  (∀ g ∈ Rep.blkOf bA, n2 ≤ g ∧ g < n3) ∧ (∀ g ∈ Rep.blkOf sA, n3 ≤ g ∧ g < n4) ∧ Below w.heap.size w wx ∧ n2 ≤ n3 ∧ n3 ≤ n4 ∧ n4 = wx.heap.size
end Go.Proofs.Ytmpkaphcpaigdaa
namespace Go.Proofs.Ytmpkaphcpaigdaa
end Go.Proofs.Ytmpkaphcpaigdaa
namespace Go.Proofs.Ytmpkaphcpaigdaa.Mark
open Go.Proofs.Ytmpkaphcpaigdaa.Bv

abbrev B64 := BitVec 64
abbrev W := BitVec 64
def xs (k : Nat) (x : B64) : B64 := x ^^^ x >>> k
def c1 : B64 := 13787848793156543929#64
def c2 : B64 := 10723151780598845931#64
def gold : B64 := 11400714819323198485#64
def mix (n : B64) : B64 := xs 31 (xs 27 (xs 30 (n + gold) * c1) * c2)
def down (k : Nat) (x : B64) : B64 := xs (2 * k) (xs k x)
def newton (x y : B64) : B64 := y * (2#64 - x * y)
def other (x : B64) : B64 := newton x (newton x (newton x (newton x (newton x (newton x x)))))
def back (n : B64) : B64 := down 30 (down 27 (down 31 n * other c2) * other c1) - gold
section
variable (f : B64 → B64)
def turnF (m n : B64) : B64 := m ^^^ f n
def allF (l : List B64) (m : B64) : B64 := l.foldl (turnF f) m
def ofF (l : List B64) : B64 := allF f l 0#64
theorem allF_cons (x : B64) (l : List B64) (m : B64) : allF f (x :: l) m = allF f l (turnF f m x) := rfl
theorem allF_snoc (l : List B64) (x : B64) (m : B64) : allF f (l ++ [x]) m = turnF f (allF f l m) x := by unfold allF; rw [List.foldl_append]; rfl
theorem allF_xor (l : List B64) (m : B64) : allF f l m = m ^^^ ofF f l := by
 unfold ofF
 induction l generalizing m with
 | nil => simp [allF]
 | cons x l ih =>
  rw [allF_cons, allF_cons, ih (turnF f m x), ih (turnF f 0#64 x)]
  unfold turnF
  rw [BitVec.zero_xor, BitVec.xor_assoc]
theorem allF_append (l k : List B64) (m : B64) : allF f (l ++ k) m = allF f k (allF f l m) := by unfold allF; rw [List.foldl_append]
theorem ofF_append (l k : List B64) : ofF f (l ++ k) = ofF f l ^^^ ofF f k := by
 have h := allF_append f l k 0#64
 have h2 := allF_xor f k (allF f l 0#64)
 unfold ofF at *
 rw [h, h2]
theorem ofF_one (x : B64) : ofF f [x] = f x := by simp [ofF, allF, turnF]
theorem ofF_cons (x : B64) (l : List B64) : ofF f (x :: l) = f x ^^^ ofF f l := by
 have h := ofF_append f [x] l
 rw [ofF_one] at h
 exact h
end
end Go.Proofs.Ytmpkaphcpaigdaa.Mark
namespace Go.Proofs.Ytmpkaphcpaigdaa
end Go.Proofs.Ytmpkaphcpaigdaa
set_option linter.unusedVariables false
set_option linter.unusedSimpArgs false
namespace Go.Proofs.Ytmpkaphcpaigdaa.Mark
open Go.RowKit Go.Proofs.Ytmpkaphcpaigdaa.Bv

theorem ret_u64 {a b : Int} (h : a = b) : Ending.returned (.int .u64 a) = .returned (.int .u64 b) := by rw [h]

theorem wrap_u (x : Int) : IntKind.u64.wrap x = U (BitVec.ofInt 64 x) := by
 refine eq64 ?_ ?_ (of_wrap64 x)
 ·rw [IntKind.wrap_u64]; omega
 ·rw [IntKind.wrap_u64]; omega
theorem add_num (a : B64) : IntKind.u64.wrap (U a + 11400714819323198485) = U (a + gold) := by
 rw [wrap_u, of_add, of_U]; rfl
theorem mul1_num (a : B64) : IntKind.u64.wrap (U a * 13787848793156543929) = U (a * c1) := by
 rw [wrap_u, of_mul, of_U]; rfl
theorem mul2_num (a : B64) : IntKind.u64.wrap (U a * 10723151780598845931) = U (a * c2) := by
 rw [wrap_u, of_mul, of_U]; rfl
theorem xs_num (k : Nat) (a : B64) : bits BinOp.xor IntKind.u64 (U a) (U a / 2 ^ k) = U (xs k a) := by
 refine eq64 (bits64_nonneg _ _ _) (bits64_lt _ _ _) ?_
 rw [of_xor64, of_shr (n := 64) (U a) k (U_nonneg a) (by have := U64_lt a; omega), of_U]
 rfl
theorem xs30 (a : B64) : bits BinOp.xor IntKind.u64 (U a) (U a / 1073741824) = U (xs 30 a) := xs_num 30 a
theorem xs27 (a : B64) : bits BinOp.xor IntKind.u64 (U a) (U a / 134217728) = U (xs 27 a) := xs_num 27 a
theorem xs31 (a : B64) : bits BinOp.xor IntKind.u64 (U a) (U a / 2147483648) = U (xs 31 a) := xs_num 31 a
theorem mix_any (x : Int) (n : B64) (hx : x = U n) (w : World) :
  Calls Try.prog 76 #[.int .u64 x] w fun e w' => e = .returned (.int .u64 (U (mix n))) ∧ w = w' := by
 subst hx
 go_enter Try.func76, Try.ntmps76
 go_wp2
 go_ret
 refine ⟨ret_u64 ?_, rfl⟩
 rw [add_num, xs30, mul1_num, xs27, mul2_num, xs31]
 rfl

end Go.Proofs.Ytmpkaphcpaigdaa.Mark
namespace Go.Proofs.Ytmpkaphcpaigdaa
end Go.Proofs.Ytmpkaphcpaigdaa
set_option linter.unusedVariables false
set_option linter.unusedSimpArgs false
namespace Go.Proofs.Ytmpkaphcpaigdaa.Mark
open Go.RowKit Go.Proofs.Ytmpkaphcpaigdaa.Bv


theorem turn_any (x y : Int) (m n : B64) (hx : x = U m) (hy : y = U n) (w : World) :
  Calls Try.prog 77 #[.int .u64 x, .int .u64 y] w fun e w' => e = .returned (.int .u64 (U (turnF mix m n))) ∧ w = w' := by
 subst hx hy
 go_enter Try.func77, Try.ntmps77
 go_wp2_with (go_at_call 76; refine (mix_any _ n rfl _).mono ?_; rintro e w' ⟨rfl, rfl⟩)
 go_ret
 exact ⟨ret_u64 (by refine eq64 (bits64_nonneg _ _ _) (bits64_lt _ _ _) ?_; rw [of_xor64, of_U, of_U]; rfl), rfl⟩
def Sl (w : World) (a : Option Addr) (n : Nat) (zs : List B64) : Prop :=
 n = zs.length ∧ n ≤ 9223372036854775807 ∧ (zs = [] ∨ ∃ b off, a = some ⟨b, off, none⟩ ∧ ∀ i (h : i < zs.length), w.cell? ⟨b, off + i, none⟩ = some (.int .u64 (U zs[i])))

def alls (zss : List (List B64)) (m : B64) : B64 := zss.foldl (fun m l => allF mix l m) m
theorem alls_snoc (zss : List (List B64)) (l : List B64) (m : B64) : alls (zss ++ [l]) m = allF mix l (alls zss m) := by unfold alls; rw [List.foldl_append]; rfl
theorem take_snoc {α : Type} (l : List α) (k : Nat) (h : k < l.length) : l.take (k + 1) = l.take k ++ [l[k]] := List.take_succ_eq_append_getElem h

theorem all_any (b c : Nat) (vs : List (Option Addr × Nat × Nat)) (zss : List (List B64)) (w : World) (hn : vs.length = zss.length) (hc : c ≤ 100) (hcv : vs.length ≤ 100)
  (hcell : ∀ i (h : i < vs.length), w.cell? ⟨b, i, none⟩ = some (.slice vs[i].1 vs[i].2.1 vs[i].2.2)) (hsl : ∀ i (h : i < vs.length) (h' : i < zss.length), Sl w vs[i].1 vs[i].2.1 zss[i]) :
  Calls Try.prog 50 #[.slice (some ⟨b, 0, none⟩) vs.length c] w fun e w' => e = .returned (.int .u64 (U (alls zss 0#64))) ∧ w = w' := by
 obtain ⟨N, HN⟩ : ∃ N, Hid (N = vs.length) := ⟨_, Lib.hid rfl⟩
 have HC := Lib.hid hcell
 have HS := Lib.hid hsl
 have HL := Lib.hid hn
 rw [← HN.out] at hcv ⊢
 clear hcell hsl hn
 go_enter Try.func50, Try.ntmps50
 go_wp2
 go_loop [3, 10] (fun v i => ∃ k : Nat, k ≤ N ∧ i = .int .i64 k ∧ v = .int .u64 (U (alls (zss.take k) 0#64))) (fun _ i => N - (intOf i).toNat)
 case atStart => exact ⟨0, Nat.zero_le _, rfl, rfl⟩
 case round =>
  obtain ⟨k, hk, rfl, rfl⟩ := hrel
  by_cases hlt : k < N
  ·have hkv : k < vs.length := by have := HN.out; omega
   have hkz : k < zss.length := by have := HL.out; omega
   have h1 := HC.out k hkv
   have h2 := HS.out k hkv hkz
   obtain ⟨l, HZ⟩ : ∃ l, Hid (zss[k] = l) := ⟨_, Lib.hid rfl⟩
   rw [HZ.out] at h2
   generalize vs[k].1 = a at h1 h2
   generalize vs[k].2.1 = n at h1 h2
   generalize vs[k].2.2 = c' at h1 h2
   obtain ⟨h3, h4, h5⟩ := h2
   have HE := Lib.hid h3
   clear h3
   generalize hM : alls (zss.take k) 0#64 = M
   have hM' : alls (zss.take (k + 1)) 0#64 = allF mix l M := by rw [take_snoc _ _ hkz, alls_snoc, hM, HZ.out]
   have HM := Lib.hid hM'
   clear hM hM'
   rcases h5 with hnil | ⟨b', off, rfl, hcl⟩
   ·have hn0 : n = 0 := by rw [HE.out, hnil]; rfl
    have HNil := Lib.hid hnil
    subst hn0
    clear hnil
    go_wp2_with fail
    refine wp_loop_rounds 1 ?_
    rw [rounds_succ]
    go_wp2_with fail
    go_round
    case rel => exact ⟨k + 1, by omega, by go_num, by rw [HM.out, HNil.out]; rfl⟩
    case measure => simp [intOf]; omega
   ·have HCL := Lib.hid hcl
    clear hcl
    go_wp2_with fail
    go_loop [3, 16] (fun v i => ∃ q : Nat, q ≤ n ∧ i = .int .i64 q ∧ v = .int .u64 (U (allF mix (l.take q) M))) (fun _ i => n - (intOf i).toNat)
    case atStart => exact ⟨0, Nat.zero_le _, rfl, rfl⟩
    case round =>
     obtain ⟨q, hq, rfl, rfl⟩ := hrel
     by_cases hqn : q < n
     ·have hql : q < l.length := by have := HE.out; omega
      have hcq := HCL.out q hql
      generalize hZ : l[q] = z at hcq
      generalize hM2 : allF mix (l.take q) M = M2
      have HM2 := Lib.hid (show allF mix (l.take (q + 1)) M = turnF mix M2 z by rw [take_snoc _ _ hql, allF_snoc, hM2, hZ])
      clear hZ hM2 h1
      go_wp2_with (go_at_call 77; (with_reducible refine (turn_any _ _ M2 z rfl rfl _).mono ?_); rintro e w' ⟨rfl, rfl⟩)
      go_round
      case rel => exact ⟨q + 1, by omega, by go_num, by rw [HM2.out]⟩
      case measure => simp [intOf]; omega
     ·have hqn' : n = q := by omega
      subst hqn'
      have hl : l.take n = l := List.take_of_length_le (by have := HE.out; omega)
      rw [hl, ← HM.out]
      clear hl h1
      go_wp2_with fail
      go_round
      case rel => exact ⟨k + 1, by omega, by go_num, rfl⟩
      case measure => simp [intOf]; omega
  ·have hkn : N = k := by omega
   subst hkn
   have e : zss.take N = zss := List.take_of_length_le (by have := HL.out; have := HN.out; omega)
   rw [e]
   clear e
   go_wp2_with fail
   go_ret
   exact ⟨rfl, rfl⟩

theorem Sl.later {w w' : World} {a : Option Addr} {n : Nat} {zs : List B64} (h : Sl w a n zs) (hb : Below w.heap.size w w') : Sl w' a n zs := by
 obtain ⟨h1, h2, h3⟩ := h
 refine ⟨h1, h2, ?_⟩
 rcases h3 with h3 | ⟨b, off, ha, hc⟩
 ·exact .inl h3
 ·refine .inr ⟨b, off, ha, fun i hi => ?_⟩
  rw [hb.cell (World.block_lt_of_cell? w _ (hc i hi))]
  exact hc i hi

theorem all_one (b n c : Nat) (a : Option Addr) (l : List B64) (w : World) (h : w.cell? ⟨b, 0, none⟩ = some (.slice a n c)) (hs : Sl w a n l) :
  Calls Try.prog 50 #[.slice (some ⟨b, 0, none⟩) 1 1] w fun e w' => e = .returned (.int .u64 (U (ofF mix l))) ∧ w = w' := by
 refine (all_any b 1 [(a, n, c)] [l] w rfl (by decide) (by simp) ?_ ?_).mono fun e w' h => h
 ·intro i hi
  match i, hi with
  | 0, _ => exact h
 ·intro i hi _
  match i, hi with
  | 0, _ => exact hs
theorem of_any (a : Option Addr) (n c : Nat) (l : List B64) (w : World) (hs : Sl w a n l) :
  Calls Try.prog 24 #[.slice a n c] w fun e w' => e = .returned (.int .u64 (U (ofF mix l))) ∧ Below w.heap.size w w' := by
 have hb := (Below.refl w.heap.size w).alloc (Nat.le_refl _) (.cells #[.slice a n c] 57)
 have hs2 := hs.later hb
 go_enter Try.func24, Try.ntmps24
 go_wp2_with fail
 refine (all_one _ n c a l _ (by simp [World.cell?_alloc_new]) hs2).mono ?_
 rintro e w' ⟨rfl, rfl⟩
 go_wp2_with fail
 go_ret
 exact ⟨rfl, hb⟩

end Go.Proofs.Ytmpkaphcpaigdaa.Mark
namespace Go.Proofs.Ytmpkaphcpaigdaa
end Go.Proofs.Ytmpkaphcpaigdaa
set_option linter.unusedVariables false
set_option linter.unusedSimpArgs false
namespace Go.Proofs.Ytmpkaphcpaigdaa.Tree
open Go.Proofs.Ytmpkaphcpaigdaa.Bv Go.Proofs.Ytmpkaphcpaigdaa.Mark

def leafF (s : List UInt8) : B64 := s.foldl (fun m b => mix (m ^^^ BitVec.ofNat 64 b.toNat)) (mix (BitVec.ofNat 64 s.length))
def rot32 (b : B64) : B64 := b <<< 32 ||| b >>> 32
def pairF (a b : B64) : B64 := mix (mix (a ^^^ rot32 b ^^^ 1#64) ^^^ b)
def splitN (n : Nat) : Nat := 2 ^ Nat.log2 (n - 1)
def rootF : Nat → List (List UInt8) → B64
 | 0, _ => 0#64
 | f + 1, l => match l with
  | [] => 0#64
  | [s] => leafF s
  | a :: b :: r => pairF (rootF f ((a :: b :: r).take (splitN (r.length + 2)))) (rootF f ((a :: b :: r).drop (splitN (r.length + 2))))
def rootL (l : List (List UInt8)) : B64 := rootF l.length l
end Go.Proofs.Ytmpkaphcpaigdaa.Tree
namespace Go.Proofs.Ytmpkaphcpaigdaa
end Go.Proofs.Ytmpkaphcpaigdaa
set_option linter.unusedVariables false
set_option linter.unusedSimpArgs false
namespace Go.Proofs.Ytmpkaphcpaigdaa.Tree
open Go.RowKit Go.Proofs.Ytmpkaphcpaigdaa Go.Proofs.Ytmpkaphcpaigdaa.Bv Go.Proofs.Ytmpkaphcpaigdaa.Mark

theorem xor_num (a b : B64) : bits .xor .u64 (U a) (U b) = U (a ^^^ b) := by
 refine eq64 (bits64_nonneg _ _ _) (bits64_lt _ _ _) ?_
 rw [of_xor64, of_U, of_U]
theorem leaf_step (l : List UInt8) (n : Nat) (b : UInt8) (m : B64) : (l ++ [b]).foldl (fun m b => mix (m ^^^ BitVec.ofNat 64 b.toNat)) m = mix (l.foldl (fun m b => mix (m ^^^ BitVec.ofNat 64 b.toNat)) m ^^^ BitVec.ofNat 64 b.toNat) := by rw [List.foldl_append]; rfl
def upto (s : ByteArray) (k : Nat) : B64 := (s.data.toList.take k).foldl (fun m b => mix (m ^^^ BitVec.ofNat 64 b.toNat)) (mix (BitVec.ofNat 64 s.size))
theorem upto_succ (s : ByteArray) (k : Nat) (h : k < s.size) : upto s (k + 1) = mix (upto s k ^^^ BitVec.ofNat 64 s[k].toNat) := by
 unfold upto
 have hk : k < s.data.toList.length := by simpa using h
 rw [List.take_succ_eq_append_getElem hk, leaf_step _ k]
 rfl
theorem upto_all (s : ByteArray) : upto s s.size = leafF s.data.toList := by
 unfold upto leafF
 rw [List.take_of_length_le (by simp)]
 rfl
theorem U_nat (n : Nat) (h : n < 18446744073709551616) : ((n : Nat) : Int) = U (BitVec.ofNat 64 n) := by
 unfold U
 rw [BitVec.toNat_ofNat, Nat.mod_eq_of_lt h]
theorem leaf_any (s : ByteArray) (hs : s.size ≤ 9223372036854775807) (w : World) : Calls Try.prog 49 #[.string s] w fun e w' => e = .returned (.int .u64 (U (leafF s.data.toList))) ∧ ∃ q, w' = w.drewN q := by
 have h0 : upto s 0 = mix (BitVec.ofNat 64 s.size) := rfl
 have hU := U_nat s.size (by omega)
 have hm := mix_any _ (BitVec.ofNat 64 s.size) hU
 have hall := Lib.hid (upto_all s)
 rw [← h0] at hm
 have H0 := Lib.hid h0
 have hw : IntKind.u64.wrap (s.size : Int) = (s.size : Int) := by rw [IntKind.wrap_u64]; omega
 clear hU h0
 go_enter Try.func49, Try.ntmps49
 go_wp2_with fail
 refine (hm _).mono ?_
 rintro e w' ⟨rfl, rfl⟩
 clear hw
 go_wp2_with fail
 go_loop [3, 11] (fun m i => ∃ k : Nat, k ≤ s.size ∧ i = .int .i64 (k : Int) ∧ m = .int .u64 (U (upto s k))) (fun _ i => s.size - (intOf i).toNat)
 case atStart => exact ⟨0, Nat.zero_le _, rfl, rfl⟩
 case round =>
  obtain ⟨k, hk, rfl, rfl⟩ := hrel
  by_cases hlt : k < s.size
  ·have hsu := upto_succ s k hlt
   have hx := xor_num (upto s k) (BitVec.ofNat 64 s[k].toNat)
   rw [← U_nat s[k].toNat (by have := s[k].toNat_lt; omega)] at hx
   have hm := mix_any _ (upto s k ^^^ BitVec.ofNat 64 s[k].toNat) rfl
   rw [← hsu] at hm
   have HS := Lib.hid hsu
   clear hsu
   have hwb : IntKind.u64.wrap (s[k].toNat : Int) = (s[k].toNat : Int) := by have := s[k].toNat_lt; rw [IntKind.wrap_u64]; omega
   obtain ⟨m2, HM2⟩ : ∃ m2, Hid (upto s (k + 1) = m2) := ⟨_, Lib.hid rfl⟩
   rw [HM2.out] at hm
   clear HS
   generalize upto s k ^^^ BitVec.ofNat 64 s[k].toNat = x at *
   generalize upto s k = m1 at *
   go_wp2_with fail
   refine (hm _).mono ?_
   rintro e w' ⟨rfl, rfl⟩
   go_wp2_with fail
   go_round
   case rel => exact ⟨k + 1, by omega, by go_num, by rw [HM2.out]⟩
   case measure => simp [intOf]; omega
  ·obtain rfl : k = s.size := by omega
   rw [hall.out]
   go_wp2_with fail
   go_ret
   exact ⟨rfl, 0, rfl⟩
def cellsS (l : List ByteArray) : List Value := l.map Value.string
theorem cellsS_len (l : List ByteArray) : (cellsS l).length = l.length := by unfold cellsS; simp
def lists (l : List ByteArray) : List (List UInt8) := l.map fun s => s.data.toList
def Short (l : List ByteArray) : Prop := ∀ s ∈ l, s.size ≤ 9223372036854775807
theorem Rd.cut {w : World} {b o n : Nat} {l : List ByteArray} (h : Rd w 1 (some ⟨b, o, none⟩) n (cellsS l)) (k : Nat) (hk : k ≤ n) :
  Rd w 1 (some ⟨b, o, none⟩) k (cellsS (l.take k)) ∧ Rd w 1 (some ⟨b, o + k, none⟩) (n - k) (cellsS (l.drop k)) := by
 have hl : l.length = n := by have := h.1; rw [cellsS_len] at this; omega
 refine ⟨⟨by rw [cellsS_len, List.length_take]; omega, fun h0 => ?_⟩, ⟨by rw [cellsS_len, List.length_drop]; omega, fun h0 => ?_⟩⟩
 ·obtain ⟨b', o', e, hc⟩ := h.2 (by omega)
  refine ⟨b', o', e, fun j u hu => hc j u ?_⟩
  unfold cellsS at hu ⊢
  rw [List.getElem?_map, List.getElem?_take] at hu
  rw [List.getElem?_map]
  split at hu
  ·exact hu
  ·cases hu
 ·obtain ⟨b', o', e, hc⟩ := h.2 (by omega)
  injection e with e
  injection e with e1 e2
  subst e1; subst e2
  refine ⟨b, o + k, rfl, fun j u hu => ?_⟩
  rw [Nat.add_assoc]
  refine hc (k + j) u ?_
  unfold cellsS at hu ⊢
  rw [List.getElem?_map, List.getElem?_drop] at hu
  rw [List.getElem?_map]
  exact hu
end Go.Proofs.Ytmpkaphcpaigdaa.Tree
namespace Go.Proofs.Ytmpkaphcpaigdaa
end Go.Proofs.Ytmpkaphcpaigdaa
namespace Go.Proofs.Ytmpkaphcpaigdaa.Pack
open Go.Proofs.Ytmpkaphcpaigdaa.Bv
def putF : Nat → Nat → List UInt8
  | 0, n => [UInt8.ofNat n]
  | k + 1, n => if n < 128 then [UInt8.ofNat n] else UInt8.ofNat (n % 128 + 128) :: putF k (n / 128)
def putL (n : Nat) : List UInt8 := putF 9 n
def val : List UInt8 → Nat
  | [] => 0
  | b :: l => b.toNat % 128 + 128 * val l

theorem putF_lt {k n : Nat} (h : n < 128) : putF k n = [UInt8.ofNat n] := by
  cases k with
  | zero => rfl
  | succ k => unfold putF; rw [if_pos h]
theorem putF_ge {k n : Nat} (h : ¬ n < 128) : putF (k + 1) n = UInt8.ofNat (n % 128 + 128) :: putF k (n / 128) := by
  rw [putF]; rw [if_neg h]
theorem putF_len (k n : Nat) : (putF k n).length ≤ k + 1 ∧ 1 ≤ (putF k n).length := by
  induction k generalizing n with
  | zero => simp [putF]
  | succ k ih =>
    by_cases h : n < 128
    · rw [putF_lt h]; simp
    · rw [putF_ge h]; have := ih (n / 128); simp; omega
theorem putL_len (n : Nat) : (putL n).length ≤ 10 ∧ 1 ≤ (putL n).length := putF_len 9 n

theorem pow_lt_div {n k : Nat} (h : n < 128 ^ (k + 2)) : n / 128 < 128 ^ (k + 1) := by
  rw [Nat.pow_succ] at h
  exact Nat.div_lt_of_lt_mul (by rw [Nat.mul_comm]; exact h)
theorem val_putF (k n : Nat) (h : n < 128 ^ (k + 1)) : val (putF k n) = n := by
  induction k generalizing n with
  | zero =>
    have h1 : n < 128 := by simpa using h
    simp only [putF, val, UInt8.toNat_ofNat']
    omega
  | succ k ih =>
    by_cases h1 : n < 128
    · rw [putF_lt h1]
      simp only [val, UInt8.toNat_ofNat']
      omega
    · rw [putF_ge h1]
      simp only [val, UInt8.toNat_ofNat']
      rw [ih (n / 128) (pow_lt_div h)]
      omega
theorem lt_pow {n : Nat} (h : n < 18446744073709551616) : n < 128 ^ (9 + 1) := Nat.lt_of_lt_of_le h (by decide)
theorem val_putL (n : Nat) (h : n < 18446744073709551616) : val (putL n) = n := val_putF 9 n (lt_pow h)
theorem putF_high (k n i : Nat) (hn : n < 128 ^ (k + 1)) (h : i + 1 < (putF k n).length) (hi : i < (putF k n).length) : 128 ≤ ((putF k n)[i]).toNat := by
  induction k generalizing n i with
  | zero => simp [putF] at h
  | succ k ih =>
    by_cases h1 : n < 128
    · simp [putF_lt h1] at h
    · simp only [putF_ge h1] at h hi ⊢
      cases i with
      | zero => simp only [List.getElem_cons_zero, UInt8.toNat_ofNat']; omega
      | succ i =>
        simp only [List.getElem_cons_succ]
        exact ih (n / 128) i (pow_lt_div hn) (by simpa using h) (by simpa using hi)
theorem putF_last (k n : Nat) (hn : n < 128 ^ (k + 1)) (i : Nat) (hi : i < (putF k n).length) (hl : i + 1 = (putF k n).length) : ((putF k n)[i]).toNat < 128 := by
  induction k generalizing n i with
  | zero =>
    have h1 : n < 128 := by simpa using hn
    simp only [putF, List.getElem_singleton, UInt8.toNat_ofNat']
    omega
  | succ k ih =>
    by_cases h1 : n < 128
    · simp only [putF_lt h1, List.getElem_singleton, UInt8.toNat_ofNat']
      omega
    · simp only [putF_ge h1] at hl hi ⊢
      cases i with
      | zero =>
        have h2 := (putF_len k (n / 128)).2
        rw [List.length_cons] at hl
        omega
      | succ i =>
        simp only [List.getElem_cons_succ]
        exact ih (n / 128) (pow_lt_div hn) i (by simpa using hi) (by simpa using hl)
def GetIs (l : List UInt8) (n : Nat) (rest : List UInt8) (e : Int) : Prop :=
  (∃ k, k < 10 ∧ k < l.length ∧ (∀ i (h : i < l.length), i < k → 128 ≤ l[i].toNat) ∧ (∀ h : k < l.length, l[k].toNat < 128) ∧
    ((putL (val (l.take (k + 1)) % 18446744073709551616) = l.take (k + 1) ∧ n = val (l.take (k + 1)) % 18446744073709551616 ∧ rest = l.drop (k + 1) ∧ e = 0) ∨
     (putL (val (l.take (k + 1)) % 18446744073709551616) ≠ l.take (k + 1) ∧ n = 0 ∧ rest = [] ∧ e = 4))) ∨
  (l.length < 10 ∧ (∀ i (h : i < l.length), 128 ≤ l[i].toNat) ∧ n = 0 ∧ rest = [] ∧ e = 3) ∨
  (10 ≤ l.length ∧ (∀ i (h : i < l.length), i < 10 → 128 ≤ l[i].toNat) ∧ n = 0 ∧ rest = [] ∧ e = 4)
def foldN (x : Int) : Nat := if 0 ≤ x then (2 * x).toNat else (-2 * x - 1).toNat
end Go.Proofs.Ytmpkaphcpaigdaa.Pack
namespace Go.Proofs.Ytmpkaphcpaigdaa
end Go.Proofs.Ytmpkaphcpaigdaa
