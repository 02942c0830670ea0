import Derived.Test.YtccankldeogdlaaGolC
import Derived.Test.YtccankldeogdlaaBas
import Derived.Test.YtccankldeogdlaaProg
import Derived.Test.YtccankldeogdlaaGol
import Derived.Handy
set_option linter.unusedVariables false
set_option linter.unusedSimpArgs false
set_option maxRecDepth 100000
set_option maxHeartbeats 4000000
namespace Go.Proofs.Ytccankldeogdlaa
end Go.Proofs.Ytccankldeogdlaa
set_option linter.unusedVariables false
set_option linter.unusedSimpArgs false
namespace Go.Proofs.Ytccankldeogdlaa
open Go.RowKit

structure Cel where
 x : Int
 y : Int
 deriving DecidableEq, Inhabited
namespace Cel
def cells (a : Cel) : List Value := [.int .i64 (a.x), .int .i64 (a.y)]
def ok (a : Cel) : Prop := (Lit.int .i64 a.x).wf = true ∧ (Lit.int .i64 a.y).wf = true
def raw (j : Nat) (u : Value) : Prop := match j with
 | 0 => ∃ n : Int, u = .int .i64 n
 | 1 => ∃ n : Int, u = .int .i64 n
 | _ => True
theorem cells_raw (a : Cel) : ∀ (j : Nat) u, a.cells[j]? = some u → raw j u := by
 intro j u hu
 match j, hu with
 | 0, hu => exact ⟨_, (Option.some.inj hu).symm⟩
 | 1, hu => exact ⟨_, (Option.some.inj hu).symm⟩
 | j + 2, hu => exact trivial
theorem cells_one (a : Cel) : ∀ u ∈ a.cells, u.oneCell' = true := by
 intro u hu
 unfold cells at hu
 simp only [List.mem_cons, List.not_mem_nil, or_false] at hu
 rcases hu with rfl | rfl <;> rfl
def rep : Rep Cel := Rep.flat 2 cells ok raw (λ _ => rfl) cells_one cells_raw
theorem plain : rep.Plain := Rep.flat_plain
def zero : Value := .agg #[.int .i64 0, .int .i64 0]
theorem zero_raw : ∀ (j : Nat) u, zero.cells[j]? = some u → rep.raw j u := by
 intro j u hu
 have hu : (#[(.int .i64 0 : Value), (.int .i64 0 : Value)] : Array Value)[j]? = some u := hu
 match j, hu with
 | 0, hu => exact ⟨_, (Option.some.inj hu).symm⟩
 | 1, hu => exact ⟨_, (Option.some.inj hu).symm⟩
 | j + 2, hu => cases hu
theorem info : (Try.prog.info? 70).map (λ i => (i.zero, i.size, i.bytes)) = some (some zero, 2, 16) := by kernel_rfl
theorem at_ {by_ : Nat} {w : World} {A : Option Addr} {c : Nat} {l : List Cel} (h : rep.SHas by_ w A c l) (h0 : 0 < l.length) :
  ∃ b o, A = some ⟨b, o, none⟩ ∧ ∀ (i : Nat) (a : Cel), l[i]? = some a → w.cell? ⟨b, o + i * 2, none⟩ = some (.int .i64 (a.x)) ∧ w.cell? ⟨b, o + i * 2 + 1, none⟩ = some (.int .i64 (a.y)) := by
 obtain ⟨b, o, e, hc⟩ := h.at_ h0
 refine ⟨b, o, e, λ i a ha => ?_⟩
 obtain ⟨es, ⟨rfl, _⟩, hj⟩ := hc i a ha
 exact ⟨hj 0 _ rfl, hj 1 _ rfl⟩
theorem all_ok {by_ : Nat} {w : World} {A : Option Addr} {c : Nat} {l : List Cel} (h : rep.SHas by_ w A c l) : ∀ a ∈ l, a.ok := Rep.SHas.all_ (R := rep) (Q := ok) (fun {w cs a} (h : rep.has w cs a) => (show cs = a.cells ∧ a.ok from h).2) h
theorem blk {w : World} {g : Nat} {t : TypeId} {fr : Nat × Nat} {a : Cel} (h : Blk w g a.cells t fr) : w.cell? ⟨g, 0, none⟩ = some (.int .i64 (a.x)) ∧ w.cell? ⟨g, 1, none⟩ = some (.int .i64 (a.y)) :=
 ⟨h.cell 0, h.cell 1⟩
def sh : Sh := (.cons (.int .i64) (.cons (.int .i64) .nil))
theorem opens (w : World) (cs : List Value) (h : sh.Ok w cs) : ∃ a, rep.has w cs a := by
 obtain ⟨_, _, rfl, _, _, ⟨x0, rfl, k0⟩, ⟨_, _, rfl, _, _, ⟨x1, rfl, k1⟩, rfl⟩⟩ := h
 exact ⟨⟨x0, x1⟩, rfl, k0, k1⟩
end Cel
theorem hcC {w : World} {cs : List Value} {a : Cel} (h : Cel.rep.has w cs a) : cs = a.cells := And.left (show cs = a.cells ∧ a.ok from h)
end Go.Proofs.Ytccankldeogdlaa
set_option linter.unusedVariables false
set_option linter.unusedSimpArgs false
namespace Go.Proofs.Ytccankldeogdlaa
open Go.RowKit

structure Trp where
 id : Int
 owner : Int
 kind : Int
 spot : Cel
 life : Int
 load : Int
 deriving DecidableEq, Inhabited
namespace Trp
def cells (a : Trp) : List Value := [.int .i64 (a.id), .int .i64 (a.owner), .int .i64 (a.kind), .int .i64 (a.spot.x), .int .i64 (a.spot.y), .int .i64 (a.life), .int .i64 (a.load)]
def ok (a : Trp) : Prop := (Lit.int .i64 a.id).wf = true ∧ (Lit.int .i64 a.owner).wf = true ∧ (Lit.int .i64 a.kind).wf = true ∧ (Lit.int .i64 a.spot.x).wf = true ∧ (Lit.int .i64 a.spot.y).wf = true ∧ (Lit.int .i64 a.life).wf = true ∧ (Lit.int .i64 a.load).wf = true
def raw (j : Nat) (u : Value) : Prop := match j with
 | 0 => ∃ n : Int, u = .int .i64 n
 | 1 => ∃ n : Int, u = .int .i64 n
 | 2 => ∃ n : Int, u = .int .i64 n
 | 3 => ∃ n : Int, u = .int .i64 n
 | 4 => ∃ n : Int, u = .int .i64 n
 | 5 => ∃ n : Int, u = .int .i64 n
 | 6 => ∃ n : Int, u = .int .i64 n
 | _ => True
theorem cells_raw (a : Trp) : ∀ (j : Nat) u, a.cells[j]? = some u → raw j u := by
 intro j u hu
 match j, hu with
 | 0, hu => exact ⟨_, (Option.some.inj hu).symm⟩
 | 1, hu => exact ⟨_, (Option.some.inj hu).symm⟩
 | 2, hu => exact ⟨_, (Option.some.inj hu).symm⟩
 | 3, hu => exact ⟨_, (Option.some.inj hu).symm⟩
 | 4, hu => exact ⟨_, (Option.some.inj hu).symm⟩
 | 5, hu => exact ⟨_, (Option.some.inj hu).symm⟩
 | 6, hu => exact ⟨_, (Option.some.inj hu).symm⟩
 | j + 7, hu => exact trivial
theorem cells_one (a : Trp) : ∀ u ∈ a.cells, u.oneCell' = true := by
 intro u hu
 unfold cells at hu
 simp only [List.mem_cons, List.not_mem_nil, or_false] at hu
 rcases hu with rfl | rfl | rfl | rfl | rfl | rfl | rfl <;> rfl
def rep : Rep Trp := Rep.flat 7 cells ok raw (λ _ => rfl) cells_one cells_raw
theorem plain : rep.Plain := Rep.flat_plain
def zero : Value := .agg #[.int .i64 0, .int .i64 0, .int .i64 0, .int .i64 0, .int .i64 0, .int .i64 0, .int .i64 0]
theorem zero_raw : ∀ (j : Nat) u, zero.cells[j]? = some u → rep.raw j u := by
 intro j u hu
 have hu : (#[(.int .i64 0 : Value), (.int .i64 0 : Value), (.int .i64 0 : Value), (.int .i64 0 : Value), (.int .i64 0 : Value), (.int .i64 0 : Value), (.int .i64 0 : Value)] : Array Value)[j]? = some u := hu
 match j, hu with
 | 0, hu => exact ⟨_, (Option.some.inj hu).symm⟩
 | 1, hu => exact ⟨_, (Option.some.inj hu).symm⟩
 | 2, hu => exact ⟨_, (Option.some.inj hu).symm⟩
 | 3, hu => exact ⟨_, (Option.some.inj hu).symm⟩
 | 4, hu => exact ⟨_, (Option.some.inj hu).symm⟩
 | 5, hu => exact ⟨_, (Option.some.inj hu).symm⟩
 | 6, hu => exact ⟨_, (Option.some.inj hu).symm⟩
 | j + 7, hu => cases hu
theorem info : (Try.prog.info? 80).map (λ i => (i.zero, i.size, i.bytes)) = some (some zero, 7, 56) := by kernel_rfl
theorem at_ {by_ : Nat} {w : World} {A : Option Addr} {c : Nat} {l : List Trp} (h : rep.SHas by_ w A c l) (h0 : 0 < l.length) :
  ∃ b o, A = some ⟨b, o, none⟩ ∧ ∀ (i : Nat) (a : Trp), l[i]? = some a → w.cell? ⟨b, o + i * 7, none⟩ = some (.int .i64 (a.id)) ∧ w.cell? ⟨b, o + i * 7 + 1, none⟩ = some (.int .i64 (a.owner)) ∧ w.cell? ⟨b, o + i * 7 + 2, none⟩ = some (.int .i64 (a.kind)) ∧ w.cell? ⟨b, o + i * 7 + 3, none⟩ = some (.int .i64 (a.spot.x)) ∧ w.cell? ⟨b, o + i * 7 + 4, none⟩ = some (.int .i64 (a.spot.y)) ∧ w.cell? ⟨b, o + i * 7 + 5, none⟩ = some (.int .i64 (a.life)) ∧ w.cell? ⟨b, o + i * 7 + 6, none⟩ = some (.int .i64 (a.load)) := by
 obtain ⟨b, o, e, hc⟩ := h.at_ h0
 refine ⟨b, o, e, λ i a ha => ?_⟩
 obtain ⟨es, ⟨rfl, _⟩, hj⟩ := hc i a ha
 exact ⟨hj 0 _ rfl, hj 1 _ rfl, hj 2 _ rfl, hj 3 _ rfl, hj 4 _ rfl, hj 5 _ rfl, hj 6 _ rfl⟩
theorem all_ok {by_ : Nat} {w : World} {A : Option Addr} {c : Nat} {l : List Trp} (h : rep.SHas by_ w A c l) : ∀ a ∈ l, a.ok := Rep.SHas.all_ (R := rep) (Q := ok) (fun {w cs a} (h : rep.has w cs a) => (show cs = a.cells ∧ a.ok from h).2) h
theorem blk {w : World} {g : Nat} {t : TypeId} {fr : Nat × Nat} {a : Trp} (h : Blk w g a.cells t fr) : w.cell? ⟨g, 0, none⟩ = some (.int .i64 (a.id)) ∧ w.cell? ⟨g, 1, none⟩ = some (.int .i64 (a.owner)) ∧ w.cell? ⟨g, 2, none⟩ = some (.int .i64 (a.kind)) ∧ w.cell? ⟨g, 3, none⟩ = some (.int .i64 (a.spot.x)) ∧ w.cell? ⟨g, 4, none⟩ = some (.int .i64 (a.spot.y)) ∧ w.cell? ⟨g, 5, none⟩ = some (.int .i64 (a.life)) ∧ w.cell? ⟨g, 6, none⟩ = some (.int .i64 (a.load)) :=
 ⟨h.cell 0, h.cell 1, h.cell 2, h.cell 3, h.cell 4, h.cell 5, h.cell 6⟩
def sh : Sh := (.cons (.int .i64) (.cons (.int .i64) (.cons (.int .i64) (.cons (.cons (.int .i64) (.cons (.int .i64) .nil)) (.cons (.int .i64) (.cons (.int .i64) .nil))))))
theorem opens (w : World) (cs : List Value) (h : sh.Ok w cs) : ∃ a, rep.has w cs a := by
 obtain ⟨_, _, rfl, _, _, ⟨x0, rfl, k0⟩, ⟨_, _, rfl, _, _, ⟨x1, rfl, k1⟩, ⟨_, _, rfl, _, _, ⟨x2, rfl, k2⟩, ⟨_, _, rfl, _, _, ⟨_, _, rfl, _, _, ⟨x3, rfl, k3⟩, ⟨_, _, rfl, _, _, ⟨x4, rfl, k4⟩, rfl⟩⟩, ⟨_, _, rfl, _, _, ⟨x5, rfl, k5⟩, ⟨_, _, rfl, _, _, ⟨x6, rfl, k6⟩, rfl⟩⟩⟩⟩⟩⟩ := h
 exact ⟨⟨x0, x1, x2, ⟨x3, x4⟩, x5, x6⟩, rfl, k0, k1, k2, k3, k4, k5, k6⟩
end Trp
theorem hcT {w : World} {cs : List Value} {a : Trp} (h : Trp.rep.has w cs a) : cs = a.cells := And.left (show cs = a.cells ∧ a.ok from h)
end Go.Proofs.Ytccankldeogdlaa
set_option linter.unusedVariables false
set_option linter.unusedSimpArgs false
namespace Go.Proofs.Ytccankldeogdlaa
open Go.RowKit

structure Fld where
 wide : Int
 high : Int
 places : List Int
 deriving DecidableEq, Inhabited
structure Wd where
 field : Fld
 bases : List Cel
 stocks : List Int
 mines : List Int
 troops : List Trp
 next : Int
 now : Int
 deriving DecidableEq, Inhabited
namespace Fld
def placeOk (p : Int) : Bool := inB p 0 3
def chk (f : Fld) : Int :=
 if inB f.wide 1 40 && inB f.high 1 40 then (if decide ((f.places.length : Int) = f.wide * f.high) && f.places.all placeOk then 0 else 4) else 1
def isIn (f : Fld) (c : Cel) : Bool := inB c.x 0 (f.wide - 1) && inB c.y 0 (f.high - 1)
def place (f : Fld) (c : Cel) : Int := f.places.getD (c.y * f.wide + c.x).toNat 0
def ground (f : Fld) (c : Cel) : Bool := f.isIn c && f.place c != 1
theorem good {f : Fld} (h : f.chk = 0) : 1 ≤ f.wide ∧ f.wide ≤ 40 ∧ 1 ≤ f.high ∧ f.high ≤ 40 ∧ (f.places.length : Int) = f.wide * f.high ∧ ∀ p ∈ f.places, 0 ≤ p ∧ p ≤ 3 := by
 unfold chk at h
 split at h
 ·rename_i h1
  rw [Bool.and_eq_true] at h1
  have a := inB_true h1.1
  have b := inB_true h1.2
  split at h
  ·rename_i h2
   rw [Bool.and_eq_true, List.all_eq_true] at h2
   exact ⟨a.1, a.2, b.1, b.2, by simpa using h2.1, λ p hp => inB_true (h2.2 p hp)⟩
  ·cases h
 ·cases h
theorem chk_one {f : Fld} (h : (inB f.wide 1 40 && inB f.high 1 40) = false) : f.chk = 1 := by unfold chk; rw [h]; rfl
theorem idx {f : Fld} (h : f.chk = 0) {c : Cel} (hc : f.isIn c = true) : 0 ≤ c.y * f.wide + c.x ∧ c.y * f.wide + c.x < (f.places.length : Int) ∧ 0 ≤ c.x ∧ c.x < f.wide ∧ 0 ≤ c.y ∧ c.y < f.high := by
 obtain ⟨g1, g2, g3, g4, g5, _⟩ := good h
 unfold isIn at hc
 rw [Bool.and_eq_true] at hc
 have a := inB_true hc.1
 have b := inB_true hc.2
 have e1 : 0 ≤ c.y * f.wide := Int.mul_nonneg b.1 (by omega)
 have e2 : c.y * f.wide ≤ (f.high - 1) * f.wide := Int.mul_le_mul_of_nonneg_right b.2 (by omega)
 have e3 : (f.high - 1) * f.wide = f.wide * f.high - f.wide := by rw [Int.sub_mul, Int.one_mul, Int.mul_comm]
 rw [g5]
 omega
theorem len_le {f : Fld} (h : f.chk = 0) : f.places.length ≤ 1600 := by
 obtain ⟨g1, g2, g3, g4, g5, _⟩ := good h
 have e2 : f.wide * f.high ≤ 40 * 40 := Int.mul_le_mul g2 g4 (by omega) (by omega)
 omega
end Fld
namespace Fld
def atE (f : Fld) (c : Cel) : Int := if f.chk ≠ 0 then f.chk else if f.isIn c then 0 else 7
def atV (f : Fld) (c : Cel) : Int := if f.chk ≠ 0 then 0 else if f.isIn c then f.place c else 0
theorem at_bad {f : Fld} {c : Cel} (h : f.chk ≠ 0) : f.atE c = f.chk ∧ f.atV c = 0 := by unfold atE atV; rw [if_pos h, if_pos h]; exact ⟨rfl, rfl⟩
theorem at_out {f : Fld} {c : Cel} (h : f.chk = 0) (h2 : f.isIn c = false) : f.atE c = 7 ∧ f.atV c = 0 := by unfold atE atV; simp [h, h2]
theorem at_in {f : Fld} {c : Cel} (h : f.chk = 0) (h2 : f.isIn c = true) : f.atE c = 0 ∧ f.atV c = f.place c := by unfold atE atV; simp [h, h2]
theorem isIn_out {f : Fld} {c : Cel} (h : c.x < 0 ∨ f.wide ≤ c.x ∨ c.y < 0 ∨ f.high ≤ c.y) : f.isIn c = false := by
 unfold isIn
 rcases h with h | h | h | h
 ·rw [inB_not (.inl h)]; rfl
 ·rw [inB_not (n := c.x) (.inr (by omega))]; rfl
 ·rw [inB_not (n := c.y) (.inl h), Bool.and_false]
 ·rw [inB_not (n := c.y) (.inr (by omega)), Bool.and_false]
theorem isIn_mk {f : Fld} {c : Cel} (h1 : 0 ≤ c.x) (h2 : c.x < f.wide) (h3 : 0 ≤ c.y) (h4 : c.y < f.high) : f.isIn c = true := by
 unfold isIn
 rw [inB_mk h1 (by omega), inB_mk h3 (by omega)]; rfl
end Fld
def kindOf (k : Int) : Option (Int × Int × Int × Int) := if k = 1 then some (10, 1, 1, 5) else if k = 2 then some (20, 2, 4, 12) else none
namespace Wd
def okBase (W : Wd) (i : Nat) : Bool := W.field.ground (W.bases.getD i default) && !(W.bases.take i).contains (W.bases.getD i default) && inB (W.stocks.getD i 0) 0 1000000
def players (W : Wd) : Bool := decide (W.stocks.length = W.bases.length) && (List.range W.bases.length).all W.okBase
def okMine (W : Wd) (i : Nat) : Bool := inB (W.mines.getD i 0) 0 1000000 && (decide (W.mines.getD i 0 ≤ 0) || W.field.places.getD i 0 == 3)
def minesOk (W : Wd) : Bool := decide (W.mines.length = W.field.places.length) && (List.range W.mines.length).all W.okMine
def lastId (W : Wd) (i : Nat) : Int := if i = 0 then 0 else (W.troops.getD (i - 1) default).id
def lifeOf (k : Int) : Int := if k = 1 then 10 else if k = 2 then 20 else 0
def mostOf (k : Int) : Int := if k = 1 then 5 else 0
def okOne (W : Wd) (lx nx : Int) (t : Trp) : Bool :=
 inB t.kind 1 2 && inB t.id lx nx && inB t.owner 0 ((W.bases.length : Int) - 1) && W.field.ground t.spot && inB t.life 1 (lifeOf t.kind) && inB t.load 0 (mostOf t.kind)
def spots (W : Wd) (k : Nat) : List Cel := (W.troops.take k).map (·.spot)
def okTroop (W : Wd) (i : Nat) : Bool := W.okOne (wrap64 (W.lastId i + 1)) (wrap64 (W.next - 1)) (W.troops.getD i default) && !(W.spots i).contains (W.troops.getD i default).spot
def troopsOk (W : Wd) : Bool := (List.range W.troops.length).all W.okTroop && (inB W.next 1 1000000 && inB W.now 0 1000000)
def chk (W : Wd) : Int :=
 if W.field.chk ≠ 0 then W.field.chk else if 8 < W.bases.length ∨ 100 < W.troops.length then 2 else if W.players && W.minesOk && W.troopsOk then 0 else 4
structure At where
 P : Option Addr
 B : Option Addr
 S : Option Addr
 M : Option Addr
 T : Option Addr
 p : Nat
 b : Nat
 s : Nat
 m : Nat
 t : Nat
def fcells (A : Option Addr) (c : Nat) (f : Fld) : List Value := [.int .i64 f.wide, .int .i64 f.high, .slice A f.places.length c]
def cells (h : At) (W : Wd) : List Value :=
 [.int .i64 W.field.wide, .int .i64 W.field.high, .slice h.P W.field.places.length h.p, .slice h.B W.bases.length h.b, .slice h.S W.stocks.length h.s, .slice h.M W.mines.length h.m, .slice h.T W.troops.length h.t, .int .i64 W.next, .int .i64 W.now]
theorem cells_eq (h : At) (W : Wd) : (cells h W).toArray = #[.int .i64 W.field.wide, .int .i64 W.field.high, .slice h.P W.field.places.length h.p, .slice h.B W.bases.length h.b, .slice h.S W.stocks.length h.s, .slice h.M W.mines.length h.m, .slice h.T W.troops.length h.t, .int .i64 W.next, .int .i64 W.now] := rfl
structure Has (w : World) (h : At) (W : Wd) : Prop where
 P : repI.SHas 8 w h.P h.p W.field.places
 B : Cel.rep.SHas 16 w h.B h.b W.bases
 S : repI.SHas 8 w h.S h.s W.stocks
 M : repI.SHas 8 w h.M h.m W.mines
 T : Trp.rep.SHas 56 w h.T h.t W.troops
 nums : okI W.field.wide ∧ okI W.field.high ∧ okI W.next ∧ okI W.now
theorem Has.keep {w w' : World} {h : At} {W : Wd} (hw : Has w h W) (hb : Below w.heap.size w w') : Has w' h W :=
 ⟨hw.P.keep hb, hw.B.keep hb, hw.S.keep hb, hw.M.keep hb, hw.T.keep hb, hw.nums⟩
def fsh : Sh := .cons (.int .i64) (.cons (.int .i64) (.cons (.slice (.int .i64) 8) .nil))
def sh : Sh := .cons fsh (.cons (.slice Cel.sh 16) (.cons (.slice (.int .i64) 8) (.cons (.slice (.int .i64) 8) (.cons (.slice Trp.sh 56) (.cons (.int .i64) (.cons (.int .i64) .nil))))))
theorem opens (w : World) (cs : List Value) (h : sh.Ok w cs) : ∃ h W, cs = cells h W ∧ Has w h W := by
 obtain ⟨_, _, rfl, _, _, ⟨_, _, rfl, _, _, ⟨x0, rfl, k0⟩, _, _, rfl, _, _, ⟨x1, rfl, k1⟩, _, _, rfl, _, _, hP, rfl⟩, _, _, rfl, _, _, hB, _, _, rfl, _, _, hS, _, _, rfl, _, _, hM, _, _, rfl, _, _, hT, _, _, rfl, _, _, ⟨x2, rfl, k2⟩, _, _, rfl, _, _, ⟨x3, rfl, k3⟩, rfl⟩ := h
 obtain ⟨aP, cP, lP, rfl, HP⟩ := Rep.opens_slice (R := repI) repI_opens rfl (by decide) hP
 obtain ⟨aB, cB, lB, rfl, HB⟩ := Rep.opens_slice (R := Cel.rep) Cel.opens rfl (by decide) hB
 obtain ⟨aS, cS, lS, rfl, HS⟩ := Rep.opens_slice (R := repI) repI_opens rfl (by decide) hS
 obtain ⟨aM, cM, lM, rfl, HM⟩ := Rep.opens_slice (R := repI) repI_opens rfl (by decide) hM
 obtain ⟨aT, cT, lT, rfl, HT⟩ := Rep.opens_slice (R := Trp.rep) Trp.opens rfl (by decide) hT
 exact ⟨⟨aP, aB, aS, aM, aT, cP, cB, cS, cM, cT⟩, ⟨⟨x0, x1, lP⟩, lB, lS, lM, lT, x2, x3⟩, rfl, HP, HB, HS, HM, HT, k0, k1, k2, k3⟩
theorem fblk {w : World} {g : Nat} {t : TypeId} {fr : Nat × Nat} {A : Option Addr} {c : Nat} {f : Fld} (h : Blk w g (fcells A c f) t fr) :
  w.cell? ⟨g, 0, none⟩ = some (.int .i64 f.wide) ∧ w.cell? ⟨g, 1, none⟩ = some (.int .i64 f.high) ∧ w.cell? ⟨g, 2, none⟩ = some (.slice A f.places.length c) := ⟨h.cell 0, h.cell 1, h.cell 2⟩
theorem wblk {w : World} {g : Nat} {t : TypeId} {fr : Nat × Nat} {a : At} {W : Wd} (h : Blk w g (cells a W) t fr) :
  w.cell? ⟨g, 0, none⟩ = some (.int .i64 W.field.wide) ∧ w.cell? ⟨g, 1, none⟩ = some (.int .i64 W.field.high) ∧ w.cell? ⟨g, 2, none⟩ = some (.slice a.P W.field.places.length a.p) ∧
  w.cell? ⟨g, 3, none⟩ = some (.slice a.B W.bases.length a.b) ∧ w.cell? ⟨g, 4, none⟩ = some (.slice a.S W.stocks.length a.s) ∧ w.cell? ⟨g, 5, none⟩ = some (.slice a.M W.mines.length a.m) ∧ w.cell? ⟨g, 6, none⟩ = some (.slice a.T W.troops.length a.t) ∧
  w.cell? ⟨g, 7, none⟩ = some (.int .i64 W.next) ∧ w.cell? ⟨g, 8, none⟩ = some (.int .i64 W.now) := ⟨h.cell 0, h.cell 1, h.cell 2, h.cell 3, h.cell 4, h.cell 5, h.cell 6, h.cell 7, h.cell 8⟩
end Wd
end Go.Proofs.Ytccankldeogdlaa
set_option linter.unusedVariables false
set_option linter.unusedSimpArgs false
namespace Go.Proofs.Ytccankldeogdlaa
open Go.RowKit

theorem Fld.ground_in {f : Fld} {c : Cel} (h : f.ground c = true) : f.isIn c = true := by
 unfold Fld.ground at h
 rw [Bool.and_eq_true] at h
 exact h.1
namespace Wd
theorem chk_field {W : Wd} (h : W.field.chk ≠ 0) : W.chk = W.field.chk := by unfold chk; rw [if_pos h]
theorem chk_large {W : Wd} (h : W.field.chk = 0) (h2 : 8 < W.bases.length ∨ 100 < W.troops.length) : W.chk = 2 := by unfold chk; rw [if_neg (by simpa using h), if_pos h2]
theorem chk_all {W : Wd} (h : W.field.chk = 0) (h2 : ¬ (8 < W.bases.length ∨ 100 < W.troops.length)) : W.chk = if W.players && W.minesOk && W.troopsOk then 0 else 4 := by unfold chk; rw [if_neg (by simpa using h), if_neg h2]
end Wd
theorem Wd.players_no {W : Wd} (h : ¬ W.stocks.length = W.bases.length) : W.players = false := by unfold Wd.players; rw [decide_eq_false h]; rfl
theorem Wd.players_bad {W : Wd} {k : Nat} (hk : k < W.bases.length) (h : W.okBase k = false) : W.players = false := by
 unfold Wd.players
 rw [Bool.and_eq_false_iff]; right
 rw [List.all_eq_false]
 exact ⟨k, List.mem_range.2 hk, by rw [h]; simp⟩
theorem Wd.players_ok {W : Wd} (h : W.stocks.length = W.bases.length) (ha : ∀ k, k < W.bases.length → W.okBase k = true) : W.players = true := by
 unfold Wd.players
 rw [decide_eq_true h, Bool.true_and, List.all_eq_true]
 exact λ k hk => ha k (List.mem_range.1 hk)
theorem Wd.mines_no {W : Wd} (h : ¬ W.mines.length = W.field.places.length) : W.minesOk = false := by unfold Wd.minesOk; rw [decide_eq_false h]; rfl
theorem Wd.mines_bad {W : Wd} {k : Nat} (hk : k < W.mines.length) (h : W.okMine k = false) : W.minesOk = false := by
 unfold Wd.minesOk
 rw [Bool.and_eq_false_iff]; right
 rw [List.all_eq_false]
 exact ⟨k, List.mem_range.2 hk, by rw [h]; simp⟩
theorem Wd.mines_ok {W : Wd} (h : W.mines.length = W.field.places.length) (ha : ∀ k, k < W.mines.length → W.okMine k = true) : W.minesOk = true := by
 unfold Wd.minesOk
 rw [decide_eq_true h, Bool.true_and, List.all_eq_true]
 exact λ k hk => ha k (List.mem_range.1 hk)
theorem Wd.troops_bad {W : Wd} {k : Nat} (hk : k < W.troops.length) (h : W.okTroop k = false) : W.troopsOk = false := by
 unfold Wd.troopsOk
 rw [Bool.and_eq_false_iff]; left
 rw [List.all_eq_false]
 exact ⟨k, List.mem_range.2 hk, by rw [h]; simp⟩
def isId (id : Int) (t : Trp) : Bool := t.id == id
def isAt (p : Cel) (t : Trp) : Bool := decide (t.spot = p)
def whichI (W : Wd) (p : Trp → Bool) : Int := if W.chk = 0 then max (idxI p W.troops) 0 else 0
def whichB (W : Wd) (p : Trp → Bool) : Bool := decide (W.chk = 0) && decide (0 ≤ idxI p W.troops)
def nearT (c : Cel) (r : Int) (t : Trp) : Bool := inB c.x (t.spot.x - r) (t.spot.x + r) && inB c.y (t.spot.y - r) (t.spot.y + r)
def nearIds (W : Wd) (c : Cel) (r : Int) : List Int := (W.troops.filter (nearT c r)).map (·.id)
def nearE (W : Wd) (r : Int) : Int := if W.chk ≠ 0 then W.chk else if inB r 0 12 then 0 else 1
theorem good_spots {W : Wd} (h : W.chk = 0) : W.field.chk = 0 ∧ W.bases.length ≤ 8 ∧ W.troops.length ≤ 100 ∧ W.players = true ∧ W.minesOk = true ∧ W.troopsOk = true := by
 by_cases h1 : W.field.chk = 0
 ·by_cases h2 : 8 < W.bases.length ∨ 100 < W.troops.length
  ·rw [Wd.chk_large h1 h2] at h; cases h
  ·rw [Wd.chk_all h1 h2] at h
   split at h
   ·rename_i h3
    rw [Bool.and_eq_true, Bool.and_eq_true] at h3
    exact ⟨h1, by omega, by omega, h3.1.1, h3.1.2, h3.2⟩
   ·cases h
 ·rw [Wd.chk_field h1] at h; exact absurd h h1
theorem good_troop {W : Wd} (h : W.chk = 0) {k : Nat} {t : Trp} (ht : W.troops[k]? = some t) : W.field.ground t.spot = true ∧ inB t.kind 1 2 = true ∧ inB t.owner 0 ((W.bases.length : Int) - 1) = true ∧ inB t.life 1 (Wd.lifeOf t.kind) = true ∧ inB t.load 0 (Wd.mostOf t.kind) = true ∧ (W.spots k).contains t.spot = false ∧ inB t.id (wrap64 (W.lastId k + 1)) (wrap64 (W.next - 1)) = true := by
 obtain ⟨h0, _, _, _, _, h6⟩ := good_spots h
 unfold Wd.troopsOk at h6
 rw [Bool.and_eq_true, List.all_eq_true] at h6
 have hk := (List.getElem?_eq_some_iff.1 ht).1
 have h7 := h6.1 k (List.mem_range.2 hk)
 unfold Wd.okTroop Wd.okOne at h7
 rw [List.getD_eq_getElem?_getD, ht] at h7
 simp only [Option.getD_some, Bool.and_eq_true, Bool.not_eq_true'] at h7
 obtain ⟨⟨⟨⟨⟨⟨a1, a2⟩, a3⟩, a4⟩, a5⟩, a6⟩, a7⟩ := h7
 exact ⟨a4, a1, a3, a5, a6, a7, a2⟩
end Go.Proofs.Ytccankldeogdlaa
set_option linter.unusedVariables false
set_option linter.unusedSimpArgs false
namespace Go.Proofs.Ytccankldeogdlaa
open Go.RowKit

theorem next_ok {W : Wd} (h : W.chk = 0) : 1 ≤ W.next ∧ W.next ≤ 1000000 ∧ 0 ≤ W.now ∧ W.now ≤ 1000000 := by
 obtain ⟨_, _, _, _, _, h6⟩ := good_spots h
 unfold Wd.troopsOk at h6
 rw [Bool.and_eq_true, Bool.and_eq_true] at h6
 have a := inB_true h6.2.1
 have b := inB_true h6.2.2
 exact ⟨a.1, a.2, b.1, b.2⟩
theorem wrap_small {x : Int} (h1 : -1000 ≤ x) (h2 : x ≤ 2000000) : wrap64 x = x := by
 have h := IntKind.wrap_i64 x
 unfold wrap64
 first | (rw [h]; omega) | omega
theorem id_step {W : Wd} (h : W.chk = 0) : ∀ (k : Nat) (t : Trp), W.troops[k]? = some t → W.lastId k < t.id ∧ t.id < W.next ∧ 0 ≤ W.lastId k := by
 obtain ⟨n1, n2, _, _⟩ := next_ok h
 intro k
 induction k with
 | zero =>
  intro t ht
  have h7 := inB_true (good_troop h ht).2.2.2.2.2.2
  have e : W.lastId 0 = 0 := rfl
  rw [e] at h7 ⊢
  rw [wrap_small (by omega) (by omega), wrap_small (by omega) (by omega)] at h7
  omega
 | succ k ih =>
  intro t ht
  have hlt := (List.getElem?_eq_some_iff.1 ht).1
  obtain ⟨u, hu⟩ := get_of (l := W.troops) (i := k) (by omega)
  have h8 := ih u hu
  have h7 := inB_true (good_troop h ht).2.2.2.2.2.2
  have e : W.lastId (k + 1) = u.id := by
   unfold Wd.lastId
   rw [if_neg (by omega), List.getD_eq_getElem?_getD, Nat.add_sub_cancel, hu]; rfl
  rw [e] at h7 ⊢
  rw [wrap_small (by omega) (by omega), wrap_small (by omega) (by omega)] at h7
  omega
theorem id_lt {W : Wd} (h : W.chk = 0) {i j : Nat} {t u : Trp} (hi : W.troops[i]? = some t) (hj : W.troops[j]? = some u) (hij : i < j) : t.id < u.id := by
 induction j generalizing u with
 | zero => omega
 | succ j ih =>
  have hlt := (List.getElem?_eq_some_iff.1 hj).1
  obtain ⟨v, hv⟩ := get_of (l := W.troops) (i := j) (by omega)
  have h8 := id_step h _ _ hj
  have e : W.lastId (j + 1) = v.id := by
   unfold Wd.lastId
   rw [if_neg (by omega), List.getD_eq_getElem?_getD, Nat.add_sub_cancel, hv]; rfl
  rw [e] at h8
  rcases Nat.lt_or_eq_of_le (Nat.le_of_lt_succ hij) with h9 | rfl
  ·have := ih hv h9; omega
  ·rw [hi] at hv
   obtain rfl := Option.some.inj hv
   omega
theorem id_inj {W : Wd} (h : W.chk = 0) {i j : Nat} {t u : Trp} (hi : W.troops[i]? = some t) (hj : W.troops[j]? = some u) (he : t.id = u.id) : i = j := by
 rcases Nat.lt_trichotomy i j with hlt | rfl | hlt
 ·have := id_lt h hi hj hlt; omega
 ·rfl
 ·have := id_lt h hj hi hlt; omega
end Go.Proofs.Ytccankldeogdlaa
set_option linter.unusedVariables false
set_option linter.unusedSimpArgs false
namespace Go.Proofs.Ytccankldeogdlaa
open Go.RowKit
structure TroopOk (f : Fld) (nb : Nat) (t : Trp) : Prop where
 kind : t.kind = 1 ∨ t.kind = 2
 owner : 0 ≤ t.owner ∧ t.owner < (nb : Int)
 ground : f.ground t.spot = true
 life : 1 ≤ t.life ∧ t.life ≤ Wd.lifeOf t.kind
 load : 0 ≤ t.load ∧ t.load ≤ Wd.mostOf t.kind
structure Good (W : Wd) : Prop where
 field : W.field.chk = 0
 nb : W.bases.length ≤ 8
 nt : W.troops.length ≤ 100
 sl : W.stocks.length = W.bases.length
 bases : ∀ (i : Nat) c, W.bases[i]? = some c → W.field.ground c = true ∧ (W.bases.take i).contains c = false
 stocks : ∀ (i : Nat) s, W.stocks[i]? = some s → 0 ≤ s ∧ s ≤ 1000000
 ml : W.mines.length = W.field.places.length
 mines : ∀ (i : Nat) m, W.mines[i]? = some m → 0 ≤ m ∧ m ≤ 1000000 ∧ (m ≤ 0 ∨ W.field.places.getD i 0 = 3)
 troops : ∀ (i : Nat) t, W.troops[i]? = some t → TroopOk W.field W.bases.length t
 ids : ∀ (i : Nat) t, W.troops[i]? = some t → W.lastId i < t.id ∧ t.id < W.next ∧ 0 ≤ W.lastId i
 spots : ∀ (i : Nat) t, W.troops[i]? = some t → (W.spots i).contains t.spot = false
 next : 1 ≤ W.next ∧ W.next ≤ 1000000
 now : 0 ≤ W.now ∧ W.now ≤ 1000000
theorem Good.of_chk {W : Wd} (h : W.chk = 0) : Good W := by
 obtain ⟨h0, h8, h100, hp, hm, ht⟩ := good_spots h
 obtain ⟨n1, n2, n3, n4⟩ := next_ok h
 unfold Wd.players at hp
 unfold Wd.minesOk at hm
 rw [Bool.and_eq_true, List.all_eq_true] at hp hm
 have hsl : W.stocks.length = W.bases.length := by simpa using hp.1
 have hml : W.mines.length = W.field.places.length := by simpa using hm.1
 refine ⟨h0, h8, h100, hsl, λ i c hc => ?_, λ i s hs => ?_, hml, λ i m hi => ?_, λ i t hi => ?_, λ i t hi => id_step h i t hi, λ i t hi => (good_troop h hi).2.2.2.2.2.1, ⟨n1, n2⟩, ⟨n3, n4⟩⟩
 ·have hlt := (List.getElem?_eq_some_iff.1 hc).1
  have := hp.2 i (List.mem_range.2 hlt)
  unfold Wd.okBase at this
  rw [List.getD_eq_getElem?_getD, hc] at this
  simp only [Option.getD_some, Bool.and_eq_true, Bool.not_eq_true'] at this
  exact ⟨this.1.1, this.1.2⟩
 ·have hlt := (List.getElem?_eq_some_iff.1 hs).1
  have := hp.2 i (List.mem_range.2 (by omega))
  unfold Wd.okBase at this
  rw [Bool.and_eq_true] at this
  have h2 := inB_true this.2
  rw [List.getD_eq_getElem?_getD, hs] at h2
  exact h2
 ·have hlt := (List.getElem?_eq_some_iff.1 hi).1
  have := hm.2 i (List.mem_range.2 hlt)
  unfold Wd.okMine at this
  rw [List.getD_eq_getElem?_getD, hi, Bool.and_eq_true, Bool.or_eq_true] at this
  have h2 := inB_true this.1
  refine ⟨h2.1, h2.2, ?_⟩
  rcases this.2 with h3 | h3
  ·exact .inl (by simpa using h3)
  ·exact .inr (by simpa using h3)
 ·obtain ⟨a1, a2, a3, a4, a5, _, _⟩ := good_troop h hi
  have b2 := inB_true a2
  have b3 := inB_true a3
  have b4 := inB_true a4
  have b5 := inB_true a5
  exact ⟨by omega, ⟨b3.1, by omega⟩, a1, b4, b5⟩
theorem Good.chk {W : Wd} (h : Good W) : W.chk = 0 := by
 have hp : W.players = true := Wd.players_ok h.sl λ k hk => by
  obtain ⟨c, hc⟩ := get_of hk
  obtain ⟨s, hs⟩ := get_of (l := W.stocks) (i := k) (by rw [h.sl]; exact hk)
  unfold Wd.okBase
  rw [List.getD_eq_getElem?_getD, hc, List.getD_eq_getElem?_getD, hs]
  have h1 := h.bases k c hc
  have h2 := h.stocks k s hs
  simp only [Option.getD_some]
  rw [h1.1, h1.2, inB_mk h2.1 h2.2]; rfl
 have hm : W.minesOk = true := Wd.mines_ok h.ml λ k hk => by
  obtain ⟨m, hm⟩ := get_of hk
  have h1 := h.mines k m hm
  unfold Wd.okMine
  rw [List.getD_eq_getElem?_getD, hm]
  simp only [Option.getD_some]
  rw [inB_mk h1.1 h1.2.1, Bool.true_and, Bool.or_eq_true]
  rcases h1.2.2 with h3 | h3
  ·exact .inl (by simpa using h3)
  ·exact .inr (by simpa using h3)
 have ht : W.troopsOk = true := by
  unfold Wd.troopsOk
  rw [inB_mk h.next.1 h.next.2, inB_mk h.now.1 h.now.2, Bool.and_true, Bool.and_true, List.all_eq_true]
  intro k hk
  obtain ⟨t, ht⟩ := get_of (List.mem_range.1 hk)
  have h1 := h.troops k t ht
  have h2 := h.ids k t ht
  have h3 := h.spots k t ht
  have hn := h.next
  unfold Wd.okTroop Wd.okOne
  rw [List.getD_eq_getElem?_getD, ht]
  simp only [Option.getD_some]
  have k1 : inB t.kind 1 2 = true := by
   rcases h1.kind with h | h
   ·exact inB_mk (by omega) (by omega)
   ·exact inB_mk (by omega) (by omega)
  have k2 : inB t.id (W.lastId k + 1) (W.next - 1) = true := inB_mk (by omega) (by omega)
  have k3 : inB t.owner 0 ((W.bases.length : Int) - 1) = true := inB_mk h1.owner.1 (by have := h1.owner.2; omega)
  rw [wrap_small (by omega) (by omega), wrap_small (by omega) (by omega), k1, k2, k3, h3, h1.ground, inB_mk h1.life.1 h1.life.2, inB_mk h1.load.1 h1.load.2]
  rfl
 rw [Wd.chk_all h.field (by have := h.nb; have := h.nt; omega), hp, hm, ht]
 rfl
end Go.Proofs.Ytccankldeogdlaa
set_option linter.unusedVariables false
set_option linter.unusedSimpArgs false
namespace Go.Proofs.Ytccankldeogdlaa
open Go.RowKit
structure WOwn (w : World) (Z : Nat) (a : Wd.At) (W : Wd) : Prop where
 P : repI.SOwn 3 8 w Z (Rep.blkOf a.P) a.P a.p W.field.places
 B : Cel.rep.SOwn 70 16 w Z (Rep.blkOf a.B) a.B a.b W.bases
 S : repI.SOwn 3 8 w Z (Rep.blkOf a.S) a.S a.s W.stocks
 M : repI.SOwn 3 8 w Z (Rep.blkOf a.M) a.M a.m W.mines
 T : Trp.rep.SOwn 80 56 w Z (Rep.blkOf a.T) a.T a.t W.troops
 apart : (Rep.blkOf a.P ++ Rep.blkOf a.B ++ Rep.blkOf a.S ++ Rep.blkOf a.M ++ Rep.blkOf a.T).Nodup
 nums : okI W.field.wide ∧ okI W.field.high ∧ okI W.next ∧ okI W.now
theorem WOwn.has {w : World} {B : Nat} {a : Wd.At} {W : Wd} (h : WOwn w B a W) : Wd.Has w a W := ⟨h.P.has, h.B.has, h.S.has, h.M.has, h.T.has, h.nums⟩
theorem WOwn.later {w w' : World} {B : Nat} {a : Wd.At} {W : Wd} (h : WOwn w B a W) (hb : Below w.heap.size w w') : WOwn w' B a W := ⟨h.P.later hb, h.B.later hb, h.S.later hb, h.M.later hb, h.T.later hb, h.apart, h.nums⟩
def WOwn.foot (a : Wd.At) : List Nat := Rep.blkOf a.P ++ Rep.blkOf a.B ++ Rep.blkOf a.S ++ Rep.blkOf a.M ++ Rep.blkOf a.T
theorem WOwn.lt {w : World} {B : Nat} {a : Wd.At} {W : Wd} (h : WOwn w B a W) : ∀ g ∈ WOwn.foot a, B ≤ g ∧ g < w.heap.size := by
 intro g hg
 unfold WOwn.foot at hg
 simp only [List.mem_append] at hg
 rcases hg with (((hg | hg) | hg) | hg) | hg
 ·exact h.P.lt g hg
 ·exact h.B.lt g hg
 ·exact h.S.lt g hg
 ·exact h.M.lt g hg
 ·exact h.T.lt g hg
theorem WOwn.other {w : World} {B : Nat} {a : Wd.At} {W : Wd} (h : WOwn w B a W) {p : Addr} (hp : p.block ∉ WOwn.foot a) (u : Value) : WOwn (w.setCell p u) B a W := by
 unfold WOwn.foot at hp
 simp only [List.mem_append, not_or] at hp
 exact ⟨h.P.other hp.1.1.1.1 u, h.B.other hp.1.1.1.2 u, h.S.other hp.1.1.2 u, h.M.other hp.1.2 u, h.T.other hp.2 u, h.apart, h.nums⟩
theorem nin {w : World} {B : Nat} {A : Option Addr} {α : Type} {R : Rep α} {E by_ c : Nat} {l : List α} (h : R.SOwn E by_ w B (Rep.blkOf A) A c l) {g : Nat} (hg : g < B) : g ∉ Rep.blkOf A := λ hm => by have := h.lt g hm; omega
theorem wcells {w : World} {g : Nat} {x0 x1 x2 x3 x4 x5 x6 x7 x8 : Value} {t : TypeId} {fr : Nat × Nat} (h : Blk w g [x0, x1, x2, x3, x4, x5, x6, x7, x8] t fr) : w.cell? ⟨g, 0, none⟩ = some x0 ∧ w.cell? ⟨g, 1, none⟩ = some x1 ∧ w.cell? ⟨g, 2, none⟩ = some x2 ∧ w.cell? ⟨g, 3, none⟩ = some x3 ∧ w.cell? ⟨g, 4, none⟩ = some x4 ∧ w.cell? ⟨g, 5, none⟩ = some x5 ∧ w.cell? ⟨g, 6, none⟩ = some x6 ∧ w.cell? ⟨g, 7, none⟩ = some x7 ∧ w.cell? ⟨g, 8, none⟩ = some x8 :=
 ⟨h.cell 0, h.cell 1, h.cell 2, h.cell 3, h.cell 4, h.cell 5, h.cell 6, h.cell 7, h.cell 8⟩
theorem app_nodup {l1 l2 : List Nat} {n m : Nat} (h1 : l1.Nodup ∧ ∀ g ∈ l1, g < n) (h2 : l2.Nodup) (h3 : ∀ g ∈ l2, n ≤ g ∧ g < m) (hnm : n ≤ m) : (l1 ++ l2).Nodup ∧ ∀ g ∈ l1 ++ l2, g < m := by
 refine ⟨List.nodup_append.2 ⟨h1.1, h2, λ a ha b hb e => ?_⟩, λ g hg => ?_⟩
 ·have := h1.2 a ha
  have := (h3 b hb).1
  omega
 ·rcases List.mem_append.1 hg with hg | hg
  ·have := h1.2 g hg; omega
  ·exact (h3 g hg).2
theorem blk_nodup (A : Option Addr) : (Rep.blkOf A).Nodup := by cases A <;> simp [Rep.blkOf]
theorem nine_blk {w : World} {g : Nat} {z0 z1 z2 z3 z4 z5 z6 z7 z8 : Value} {t : TypeId} {fr : Nat × Nat} (h : Blk w g [z0, z1, z2, z3, z4, z5, z6, z7, z8] t fr) (x0 x1 x2 x3 x4 x5 x6 x7 x8 : Value) : Blk (((((((((w.setCell ⟨g, 0, none⟩ x0).setCell ⟨g, 1, none⟩ x1).setCell ⟨g, 2, none⟩ x2).setCell ⟨g, 3, none⟩ x3).setCell ⟨g, 4, none⟩ x4).setCell ⟨g, 5, none⟩ x5).setCell ⟨g, 6, none⟩ x6).setCell ⟨g, 7, none⟩ x7).setCell ⟨g, 8, none⟩ x8) g [x0, x1, x2, x3, x4, x5, x6, x7, x8] t fr :=
 (((((((((h.set 0 x0).set 1 x1).set 2 x2).set 3 x3).set 4 x4).set 5 x5).set 6 x6).set 7 x7).set 8 x8)
theorem WOwn.nine {w : World} {Z : Nat} {a : Wd.At} {W : Wd} {g : Nat} (h : WOwn w Z a W) (hg : g ∉ WOwn.foot a) (x0 x1 x2 x3 x4 x5 x6 x7 x8 : Value) : WOwn (((((((((w.setCell ⟨g, 0, none⟩ x0).setCell ⟨g, 1, none⟩ x1).setCell ⟨g, 2, none⟩ x2).setCell ⟨g, 3, none⟩ x3).setCell ⟨g, 4, none⟩ x4).setCell ⟨g, 5, none⟩ x5).setCell ⟨g, 6, none⟩ x6).setCell ⟨g, 7, none⟩ x7).setCell ⟨g, 8, none⟩ x8) Z a W :=
 (((((((((h.other (p := ⟨g, 0, none⟩) hg x0).other (p := ⟨g, 1, none⟩) hg x1).other (p := ⟨g, 2, none⟩) hg x2).other (p := ⟨g, 3, none⟩) hg x3).other (p := ⟨g, 4, none⟩) hg x4).other (p := ⟨g, 5, none⟩) hg x5).other (p := ⟨g, 6, none⟩) hg x6).other (p := ⟨g, 7, none⟩) hg x7).other (p := ⟨g, 8, none⟩) hg x8)
theorem below_nine {w0 w : World} {Z g : Nat} (h : Below Z w0 w) (hg : Z ≤ g) (x0 x1 x2 x3 x4 x5 x6 x7 x8 : Value) : Below Z w0 (((((((((w.setCell ⟨g, 0, none⟩ x0).setCell ⟨g, 1, none⟩ x1).setCell ⟨g, 2, none⟩ x2).setCell ⟨g, 3, none⟩ x3).setCell ⟨g, 4, none⟩ x4).setCell ⟨g, 5, none⟩ x5).setCell ⟨g, 6, none⟩ x6).setCell ⟨g, 7, none⟩ x7).setCell ⟨g, 8, none⟩ x8) :=
 (((((((((h.setCell (p := ⟨g, 0, none⟩) hg x0).setCell (p := ⟨g, 1, none⟩) hg x1).setCell (p := ⟨g, 2, none⟩) hg x2).setCell (p := ⟨g, 3, none⟩) hg x3).setCell (p := ⟨g, 4, none⟩) hg x4).setCell (p := ⟨g, 5, none⟩) hg x5).setCell (p := ⟨g, 6, none⟩) hg x6).setCell (p := ⟨g, 7, none⟩) hg x7).setCell (p := ⟨g, 8, none⟩) hg x8)
def Half (w wx : World) (pA : Option Addr) (pC : Nat) (W : Wd) (aM : Option Addr) (kM : Nat) (aT : Option Addr) (kT n2 : Nat) : Prop :=
 ∃ (bA : Option Addr) (bC : Nat) (sA : Option Addr) (sC n3 n4 : Nat), Blk wx w.heap.size [.int .i64 W.field.wide, .int .i64 W.field.high, .slice pA W.field.places.length pC, .slice bA W.bases.length bC, .slice sA W.stocks.length sC, .slice aM W.mines.length kM, .slice aT W.troops.length kT, .int .i64 W.next, .int .i64 W.now] 58 (0, 0) ∧
  Blk wx (w.heap.size + 1) [.int .i64 0, .int .i64 0, .slice none 0 0, .slice none 0 0, .slice none 0 0, .slice none 0 0, .slice none 0 0, .int .i64 0, .int .i64 0] 58 (0, 0) ∧ repI.SOwn 3 8 wx w.heap.size (Rep.blkOf pA) pA pC W.field.places ∧ Cel.rep.SOwn 70 16 wx n2 (Rep.blkOf bA) bA bC W.bases ∧ repI.SOwn 3 8 wx n3 (Rep.blkOf sA) sA sC W.stocks ∧
  (∀ g ∈ Rep.blkOf bA, n2 ≤ g ∧ g < n3) ∧ (∀ g ∈ Rep.blkOf sA, n3 ≤ g ∧ g < n4) ∧ Below w.heap.size w wx ∧ n2 ≤ n3 ∧ n3 ≤ n4 ∧ n4 = wx.heap.size
end Go.Proofs.Ytccankldeogdlaa
namespace Go.Proofs.Ytccankldeogdlaa
section
open Go.RowKit
section
variable {α : Type} {p : α → Bool} {l L : List α} {d : α} {i j k : Nat}
theorem mem_dd (h : k < l.length) : l.getD k d ∈ l := by rw [List.getD_eq_getElem?_getD, List.getElem?_eq_getElem h]; exact List.getElem_mem h
theorem getD_dd (h : k < l.length) : l.getD k d = l[k] := by rw [List.getD_eq_getElem?_getD, List.getElem?_eq_getElem h]; rfl
theorem idx_none_dd (h : ∀ i, i < l.length → p (l.getD i d) = false) : idxI p l = -1 := idxI_none λ j hj => by rw [← getD_dd (d := d) hj]; exact h j hj
theorem idx_some_dd (hk : k < l.length) (h1 : p (l.getD k d) = true) (h : ∀ i, i < k → p (l.getD i d) = false) : idxI p l = (k : Int) :=
 idxI_some hk (by rw [← getD_dd (d := d) hk]; exact h1) λ j hj => by rw [← getD_dd (d := d) (by omega : j < l.length)]; exact h j hj
theorem take_succ_dd (h : k < l.length) : l.take (k + 1) = l.take k ++ [l.getD k d] := by rw [List.take_succ_eq_append_getElem h, getD_dd h]
theorem idx_nofilter (h : idxI p l = -1) : (l.filter λ x => !p x) = l := by
 rcases idxI_cases p l with ⟨_, hn⟩ | ⟨k, hk, e, _⟩
 ·exact List.filter_eq_self.2 λ x hx => by rw [hn x hx]; rfl
 ·omega
theorem idx_first (h : ¬ idxI p l = -1) : ∃ k, k < l.length ∧ idxI p l = (k : Int) ∧ l.take k = (l.take (k + 1)).filter λ x => !p x := by
 rcases idxI_cases p l with ⟨e, _⟩ | ⟨k, hk, e, hp, hn⟩
 ·exact absurd e h
 ·refine ⟨k, hk, e, ?_⟩
  rw [take_succ_dd (d := l[k]) hk, List.filter_append, getD_dd hk, List.filter_cons, hp]
  simp only [Bool.not_true, Bool.false_eq_true, if_false, List.filter_nil, List.append_nil]
  refine (List.filter_eq_self.2 λ x hx => ?_).symm
  obtain ⟨j, hj, rfl⟩ := List.mem_iff_getElem.1 hx
  rw [List.length_take] at hj
  rw [List.getElem_take, hn j (by omega)]; rfl
theorem suf_get (hL : j < L.length) (hj : j < l.length) (h : L.drop j = l.drop j) : L[j]? = some (l.getD j d) := by
 rw [getD_dd hj, List.getElem?_eq_getElem hL]
 have := congrArg List.head? h
 simp only [List.head?_drop, List.getElem?_eq_getElem hL, List.getElem?_eq_getElem hj] at this
 exact this
theorem drop_succ (h : L.drop j = l.drop j) : L.drop (j + 1) = l.drop (j + 1) := by
 have := congrArg (List.drop 1) h
 rwa [List.drop_drop, List.drop_drop] at this
theorem del_suf {x : α} (hi : i < j) (h : L.drop j = l.drop j) : (L.set i x).drop (j + 1) = l.drop (j + 1) := by
 rw [List.drop_set_of_lt (by omega)]; exact drop_succ h
theorem del_drop (hj : j < l.length) (h : L.take i = (l.take j).filter λ x => !p x) (hp : (!p (l.getD j d)) = false) : L.take i = (l.take (j + 1)).filter λ x => !p x := by
 rw [take_succ_dd (d := d) hj, List.filter_append, ← h, List.filter_cons, hp]; simp
theorem del_keep (hL : L.length = l.length) (hi : i < j) (hj : j < l.length) (h : L.take i = (l.take j).filter λ x => !p x) (hp : (!p (l.getD j d)) = true) : (L.set i (l.getD j d)).take (i + 1) = (l.take (j + 1)).filter λ x => !p x := by
 rw [take_succ_dd (d := d) hj, List.filter_append, ← h, List.filter_cons, hp]
 simp only [if_true, List.filter_nil]
 rw [List.take_succ_eq_append_getElem (by rw [List.length_set]; omega), List.take_set_of_le (by omega), List.getElem_set_self]
end
theorem idxF_T (fC : FuncId) (cs : List Value) (p : Trp → Bool) (A : Option Addr) (c : Nat) (l : List Trp) (w : World) (hl : Trp.rep.SHas 56 w A c l) (hE : Enters Try.prog fC) (hC : ∀ x ∈ l, ∀ w', Ext w w' → Calls Try.prog fC (([.agg #[.int .i64 x.id, .int .i64 x.owner, .int .i64 x.kind, .int .i64 x.spot.x, .int .i64 x.spot.y, .int .i64 x.life, .int .i64 x.load]] : List Value) ++ cs).toArray w' λ e w'' => e = .returned (.bool (p x)) ∧ Ext w' w'') :
  Calls Try.prog 109 #[.slice A l.length c, .func (.func fC) #[] cs.toArray] w (λ e w' => e = .returned (.int .i64 (idxI p l)) ∧ Ext w w') := by
 have hll := hl.len_le
 refine calls_W (n := 19) Try.func109 rfl rfl rfl ?_
 refine sg <| va rfl <| nK <| sq <| sg <| vm rfl <| vL (ln Try.underlying56 rfl) <| vm rfl <| nK <| bk <| ?_
 refine lp (λ mI EI wI => ∃ k : Nat, EI = [(0, .slice A l.length c), (1, .func (.func fC) #[] cs.toArray), (7, .int .i64 (l.length : Int)), (8, .int .i64 (k : Int))] ∧ mI = l.length - k ∧ Ext w wI ∧ (k ≤ l.length) ∧ (∀ i, i < k → p (l.getD i default) = false)) _ _ ⟨0, rfl, rfl, (Ext.rf w), by omega, λ i hi => by omega⟩ (.cons rfl (.cons rfl (.cons rfl (.cons (loI rfl (by first | omega | rfl | (simp <;> omega))) .nil)))) ?_
 rintro m_2 E_3 w_1 ⟨k, rfl, rfl, z_1, hk, hg⟩
 have := z_1.size
 refine sg <| vL (blt rfl rfl) <| nK <| sq <| ?_
 refine clt rfl (λ h_5 => ?_) (λ h_5 => ?_)
 ·refine sK <| sq <| bk <| sg <| vm rfl <| va rfl <| nK <| sg <| vm rfl <| vm rfl <| vm rfl <| vL (iA k Try.underlying56 eF0 rfl rfl ((hl.keep z_1).adr (zl k (by omega))) rfl (by omega)) <| vL (ld rfl (Rep.SHas.elt hcT ((hl.keep z_1).adh (zl k (by omega))) (get_d (l := l) (u := default) (by omega)) eF1 eF0)) <| cv hE rfl rfl rfl ((hC (l.getD k default) (mem_dd (by omega)) _ z_1).mono ?_)
  rintro e w_6 ⟨rfl, x_7⟩
  refine ⟨_, rfl, ?_⟩
  have := x_7.size
  have z_6 := eT z_1 x_7
  refine nK <| ?_
  refine cb rfl (λ h_9 => ?_) (λ h_9 => ?_)
  ·refine sg <| vm rfl <| va rfl <| nK <| rt <| tB <| tT <| tK <| tB <| tT <| tR (.tmp rfl .nil) <| ?_
   exact ⟨by have e := idx_some_dd (p := p) (l := l) (d := default) (k := k) (by omega) h_9 hg; rw [e]; rfl, z_6⟩
  ·refine sk <| nB <| nT <| rg <| vL (bad rfl rfl (inI (by omega))) <| vm rfl <| nl <| ?_
   exact nI _ _ ⟨k + 1, rfl, rfl, z_6, by omega, lt_succ_all hg h_9⟩ (by omega) (.cons rfl (.cons rfl (.cons rfl (.cons (loI rfl (by first | omega | rfl | (simp <;> omega))) .nil))))
 ·refine xt <| xT <| xK <| xB <| nT <| sg <| va rfl <| nK <| rt <| tR (.tmp rfl .nil) <| ?_
  exact ⟨by have e := idx_none_dd (p := p) (l := l) (d := default) (λ i hi => hg i (by omega)); rw [e]; rfl, z_1⟩
theorem delF_T (w0 : World) (fC : FuncId) (cs : List Value) (p : Trp → Bool) (A : Option Addr) (c : Nat) (l : List Trp) (w : World) (hx0 : Ext w0 w) (hO : Trp.rep.SOwn 80 56 w w0.heap.size (Rep.blkOf A) A c l) (hE : Enters Try.prog fC) (hC : ∀ x ∈ l, ∀ w', Ext w0 w' → Calls Try.prog fC (([.agg #[.int .i64 x.id, .int .i64 x.owner, .int .i64 x.kind, .int .i64 x.spot.x, .int .i64 x.spot.y, .int .i64 x.life, .int .i64 x.load]] : List Value) ++ cs).toArray w' λ e w'' => e = .returned (.bool (p x)) ∧ Ext w' w'') :
  Calls Try.prog 106 #[.slice A l.length c, .func (.func fC) #[] cs.toArray] w (λ e w' => e = .returned (.slice A (l.filter λ x => !p x).length c) ∧ Trp.rep.SOwn 80 56 w' w0.heap.size (Rep.blkOf A) A c (l.filter λ x => !p x) ∧ Mod (Rep.blkOf A) w w') := by
 have hl0 := hO.has
 have hll := hl0.len_le
 have hlc := hl0.1
 have uA := λ q hq => (hO.lt q hq).2
 have lA := λ q hq => (hO.lt q hq).1
 have lA2 : ∀ q ∈ Rep.blkOf A, w0.heap.size ≤ q := lA
 have hx0s := hx0.size
 refine calls_W (n := 42) Try.func106 rfl rfl rfl ?_
 refine sg <| va rfl <| nK <| sg <| vm rfl <| vm rfl <| ca eF2 rfl rfl ((idxF_T fC cs p _ _ l _ hO.has hE (λ x hx w' h => hC x hx w' (eT (Ext.mod hx0 (Mod.rf (Rep.blkOf A) w) lA) h))).mono ?_)
 rintro e w_1 ⟨rfl, x_2⟩
 refine ⟨_, rfl, ?_⟩
 have := x_2.size
 have z_1 := (Mod.rf (Rep.blkOf A) w).trans (Mod.of_ext x_2)
 refine va rfl <| nK <| sq <| sg <| vm rfl <| vL (beq rfl rfl) <| nK <| ?_
 refine ceq rfl (λ h_4 => ?_) (λ h_4 => ?_)
 ·refine sg <| vm rfl <| va rfl <| nK <| rt <| tT <| tR (.tmp rfl .nil) <| ?_
  have hO := hO.later x_2
  have e1 := idx_nofilter (by simpa using h_4)
  exact ⟨by rw [e1]; rfl, by rw [e1]; exact hO, z_1⟩
 ·obtain ⟨k0, hk0, e0, hm0⟩ := idx_first h_4
  refine sK <| sq <| sg <| vm rfl <| vL (bad rfl rfl (inI (by omega))) <| va rfl <| nK <| bk <| ?_
  have hO := hO.later x_2
  refine lp (λ mI EI wI => ∃ L : List Trp, ∃ i : Nat, ∃ j : Nat, EI = [(0, .slice A l.length c), (1, .func (.func fC) #[] cs.toArray), (4, .slice none 0 0), (5, .int .i64 (i : Int)), (6, .int .i64 (j : Int))] ∧ mI = l.length - j ∧ Mod (Rep.blkOf A) w wI ∧ Trp.rep.SOwn 80 56 wI w0.heap.size (Rep.blkOf A) A c (L) ∧ (L.length = l.length) ∧ (i < j) ∧ (j ≤ l.length) ∧ (L.take i = (l.take j).filter λ x => !p x) ∧ (L.drop j = l.drop j)) _ _ ⟨l, k0, k0 + 1, rfl, rfl, z_1, hO, rfl, by omega, by omega, hm0, rfl⟩ (.cons rfl (.cons rfl (.cons rfl (.cons (loI rfl (by first | omega | rfl | (simp <;> omega))) (.cons (loI rfl (by first | omega | rfl | (simp <;> omega))) .nil))))) ?_
  rintro m_6 E_7 w_5 ⟨L, i, j, rfl, rfl, z_5, O1, hL, hi, hj, hpre, hsuf⟩
  have := z_5.size
  have u_9 := λ q hq => (O1.lt q hq).2
  refine sq <| sg <| vm rfl <| vm rfl <| vL (ln Try.underlying56 rfl) <| vL (blt rfl rfl) <| nK <| ?_
  refine clt rfl (λ h_10 => ?_) (λ h_10 => ?_)
  ·refine sK <| sq <| bk <| sg <| vm rfl <| vm rfl <| vL (iA j Try.underlying56 eF0 rfl rfl (O1.has.adr (zl j (by omega))) rfl (by omega)) <| vL (ld rfl (Rep.SHas.elt hcT (O1.has.adh (zl j (by omega))) (suf_get (d := default) (by omega) (by omega) hsuf) eF1 eF0)) <| al rfl eF3 rfl rfl λ w_11 b_12 x_13 l_14 B_15 => ?_
   have := x_13.size
   have z_11 := z_5.trans (Mod.of_ext x_13)
   have q_17 := B_15.lt
   refine st (new := [.int .i64 ((l.getD j default).id), .int .i64 ((l.getD j default).owner), .int .i64 ((l.getD j default).kind), .int .i64 ((l.getD j default).spot.x), .int .i64 ((l.getD j default).spot.y), .int .i64 ((l.getD j default).life), .int .i64 ((l.getD j default).load)]) rfl rfl B_15 rfl eF0 rfl rfl rfl λ w_18 m_19 B_15 => ?_
   have := m_19.size
   have z_18 := z_11.md m_19 (λ q hq => .inr (by have := List.mem_singleton.1 hq; omega))
   have := m_19.size
   refine nK <| sg <| vm rfl <| vL (ld rfl (B_15.all eF1 eF0)) <| cv hE rfl rfl rfl ((hC (l.getD j default) (mem_dd (by omega)) _ (Ext.mod hx0 z_18 lA)).mono ?_)
   rintro e w_22 ⟨rfl, x_23⟩
   refine ⟨_, rfl, ?_⟩
   have := x_23.size
   have z_22 := z_18.trans (Mod.of_ext x_23)
   refine vL (nt rfl) <| nK <| ?_
   refine cb rfl (λ h_25 => ?_) (λ h_25 => ?_)
   ·refine sg <| vm rfl <| vm rfl <| ?_
    have B_15 := B_15.later x_23
    refine vL (ld rfl (B_15.all eF1 eF0)) <| ?_
    have O1 := O1.later x_13
    have O1 := O1.mod m_19 (fk1 u_9 (by omega))
    have O1 := O1.later x_23
    refine vL (iA i Try.underlying56 eF0 rfl rfl (O1.has.adr (zl i (by omega))) rfl (by omega)) <| soE (q' := l.getD j default) (i := i) (es := [.int .i64 ((l.getD j default).id), .int .i64 ((l.getD j default).owner), .int .i64 ((l.getD j default).kind), .int .i64 ((l.getD j default).spot.x), .int .i64 ((l.getD j default).spot.y), .int .i64 ((l.getD j default).life), .int .i64 ((l.getD j default).load)]) O1 Rep.flat_bare (by omega) rfl rfl rfl rfl (λ _ => ⟨rfl, (Trp.all_ok hl0 _ (mem_dd (by omega)))⟩) eF0 λ w_26 m_27 O_28 => ?_
    have := m_27.size
    have z_26 := z_22.md m_27 (λ q hq => .inl hq)
    have := m_27.size
    refine nK <| rg <| vm rfl <| vL (bad rfl rfl (inI (by omega))) <| va rfl <| nl <| nB <| nT <| rg <| vm rfl <| vL (bad rfl rfl (inI (by omega))) <| va rfl <| nl <| ?_
    exact nI _ _ ⟨(L).set i (l.getD j default), i + 1, j + 1, rfl, rfl, z_26, O_28, by rw [List.length_set]; exact hL, by omega, by omega, del_keep hL (by omega) (by omega) hpre h_25, del_suf (by omega) hsuf⟩ (by omega) (.cons rfl (.cons rfl (.cons rfl (.cons (loI rfl (by first | omega | rfl | (simp <;> omega))) (.cons (loI rfl (by first | omega | rfl | (simp <;> omega))) .nil)))))
   ·refine sk <| nB <| nT <| rg <| vm rfl <| vL (bad rfl rfl (inI (by omega))) <| va rfl <| nl <| ?_
    have O1 := O1.later x_13
    have O1 := O1.mod m_19 (fk1 u_9 (by omega))
    have O1 := O1.later x_23
    exact nI _ _ ⟨L, i, j + 1, rfl, rfl, z_22, O1, hL, by omega, by omega, del_drop (by omega) hpre h_25, drop_succ hsuf⟩ (by omega) (.cons rfl (.cons rfl (.cons rfl (.cons rfl (.cons (loI rfl (by first | omega | rfl | (simp <;> omega))) .nil)))))
  ·refine xt <| xT <| xK <| xB <| nT <| sg <| vm rfl <| vm rfl <| vL (sT i Try.underlying56 eF0 rfl rfl rfl (by omega)) <| cl (k := i) (q := l.length - i) (z := Trp.zero) (m := 7) Try.underlying56 Trp.info rfl (by decide) rfl (by decide) Trp.zero_raw (show Trp.rep.SOwn _ _ _ _ _ _ _ L from O1) Rep.flat_bare (by omega) (by omega) (by omega) (hO.block (by omega)) rfl λ w_31 m_32 O_33 => ?_
   have := m_32.size
   have z_31 := z_5.md m_32 (λ q hq => .inl hq)
   refine nK <| sg <| vm rfl <| vm rfl <| vL (sP i i Try.underlying56 eF0 rfl rfl rfl (by omega) rfl) <| va rfl <| nK <| rt <| tR (.tmp rfl .nil) <| ?_
   obtain rfl : j = l.length := by omega
   rw [List.take_length] at hpre
   have hli : (l.filter λ x => !p x).length = i := by rw [← hpre, List.length_take]; omega
   exact ⟨by rw [hli]; rfl, by rw [← hpre]; exact O_33, z_31⟩
end
section
open Go.RowKit
theorem ret_bool {a b : Bool} (h : a = b) : Ending.returned (.bool a) = .returned (.bool b) := by rw [h]
theorem below_alloc0 (w : World) (o : Obj) : Below w.heap.size w (w.alloc o) := (Below.refl _ w).alloc (Nat.le_refl _) o
end
section
open Go.RowKit
theorem LinG_el_S_api_Cell : ElT Try.prog Cel.rep 55 70 16 := ElT.mk_ (z := Cel.zero) (k := 2) Try.underlying55 Cel.info rfl rfl (by decide) Cel.zero_raw
def sgn (n : Int) : Int := if n < 0 then -1 else if 0 < n then 1 else 0
def sz (n : Int) : Int := if n < 0 then -n else if 0 < n then n else 0
theorem sz_bd (n : Int) : 0 ≤ sz n ∧ (-2000 ≤ n ∧ n ≤ 2000 → sz n ≤ 2000) ∧ (0 ≤ n → sz n = n) ∧ (n < 0 → sz n = -n) := by unfold sz; split <;> (try split) <;> omega
theorem sgn_bd (n : Int) : -1 ≤ sgn n ∧ sgn n ≤ 1 := by unfold sgn; split <;> (try split) <;> omega
def far (a b : Cel) : Int := max (sz (b.x - a.x)) (sz (b.y - a.y))
def nar (a b : Cel) : Int := min (sz (b.x - a.x)) (sz (b.y - a.y))
def lstep (a b : Cel) (s : Int × Cel) : Int × Cel :=
  (if decide (far a b ≤ s.1 + 2 * nar a b) then s.1 + 2 * nar a b - 2 * far a b else s.1 + 2 * nar a b,
   ⟨if !decide (sz (b.x - a.x) < sz (b.y - a.y)) || decide (far a b ≤ s.1 + 2 * nar a b) then s.2.x + sgn (b.x - a.x) else s.2.x,
    if decide (sz (b.x - a.x) < sz (b.y - a.y)) || decide (far a b ≤ s.1 + 2 * nar a b) then s.2.y + sgn (b.y - a.y) else s.2.y⟩)
def lst (a b : Cel) : Nat → Int × Cel
  | 0 => (0, a)
  | k + 1 => lstep a b (lst a b k)
def pts (a b : Cel) (k : Nat) : List Cel := (List.range (k + 1)).map λ i => (lst a b i).2
def lineC (a b : Cel) : List Cel := pts a b (far a b).toNat
theorem pts_succ (a b : Cel) (k : Nat) : pts a b (k + 1) = pts a b k ++ [(lst a b (k + 1)).2] := by unfold pts; rw [List.range_succ, List.map_append]; rfl
theorem pts_len (a b : Cel) (k : Nat) : (pts a b k).length = k + 1 := by simp [pts]
theorem far_bd (a b : Cel) : 0 ≤ nar a b ∧ nar a b ≤ far a b := by
  have h1 := sz_bd (b.x - a.x); have h2 := sz_bd (b.y - a.y)
  unfold nar far; omega
theorem lst_bd (a b : Cel) (k : Nat) : -far a b ≤ (lst a b k).1 ∧ (lst a b k).1 ≤ far a b := by
  have hf := far_bd a b
  induction k with
  | zero => show -far a b ≤ 0 ∧ 0 ≤ far a b; omega
  | succ k ih =>
    show -far a b ≤ (lstep a b (lst a b k)).1 ∧ (lstep a b (lst a b k)).1 ≤ far a b
    unfold lstep
    simp only [decide_eq_true_eq]
    split <;> omega
theorem lst_pos (a b : Cel) (k : Nat) : a.x - k ≤ (lst a b k).2.x ∧ (lst a b k).2.x ≤ a.x + k ∧ a.y - k ≤ (lst a b k).2.y ∧ (lst a b k).2.y ≤ a.y + k := by
  have h1 := sgn_bd (b.x - a.x); have h2 := sgn_bd (b.y - a.y)
  induction k with
  | zero => show a.x - _ ≤ a.x ∧ a.x ≤ a.x + _ ∧ a.y - _ ≤ a.y ∧ a.y ≤ a.y + _; omega
  | succ k ih =>
    show a.x - _ ≤ (lstep a b (lst a b k)).2.x ∧ (lstep a b (lst a b k)).2.x ≤ a.x + _ ∧ a.y - _ ≤ (lstep a b (lst a b k)).2.y ∧ (lstep a b (lst a b k)).2.y ≤ a.y + _
    unfold lstep
    simp only
    split <;> split <;> omega
theorem near_in (c : Cel) (w : World) (h : -1000 ≤ c.x ∧ c.x ≤ 1000 ∧ -1000 ≤ c.y ∧ c.y ≤ 1000) :
    Calls Try.prog 167 #[.agg #[.int .i64 c.x, .int .i64 c.y]] w (λ e w' => e = .returned (.bool true) ∧ Ext w w') := by
  refine calls_W (n := 23) Try.func167 rfl rfl rfl ?_
  refine sg <| bx rfl rfl rfl rfl λ w_1 b_2 x_3 l_4 B_5 => ?_
  have := x_3.size
  have z_1 := eT (Ext.rf w) x_3
  have q_7 := B_5.lt
  refine va rfl <| nK <| sg <| vL (fa eF4 rfl) <| vL (ld rfl (B_5.one eF5 rfl)) <| vL (fa eF4 rfl) <| vL (ld rfl (B_5.one eF5 rfl)) <| vL (ng rfl (inI (by omega))) <| vL (fa eF6 rfl) <| vL (ld rfl (B_5.one eF5 rfl)) <| vL (fa eF6 rfl) <| vL (ld rfl (B_5.one eF5 rfl)) <| vL (ng rfl (inI (by omega))) <| vL (mX rfl rfl rfl rfl) <| vL (ble rfl rfl) <| vm rfl <| vQ rfl rfl rfl rfl (λ hc => fa eF4 rfl) rfl <| vQ rfl rfl rfl rfl (λ hc => ld (gt hc rfl) (B_5.one eF5 rfl)) rfl <| vQ rfl rfl rfl rfl (λ hc => fa eF6 rfl) rfl <| vQ rfl rfl rfl rfl (λ hc => ld (gt hc rfl) (B_5.one eF5 rfl)) rfl <| vQ rfl rfl rfl rfl (λ hc => mn (gt hc rfl) (gt hc rfl)) rfl <| vQ rfl rfl rfl rfl (λ hc => bge (gt hc rfl) rfl) rfl <| ?_
  refine vL (pA rfl rfl rfl rfl) <| va rfl <| nK <| rt <| tR (.tmp rfl .nil) <| ?_
  exact ⟨ret_true (by simp only [Bool.and_eq_true, decide_eq_true_eq]; omega), z_1⟩
theorem sign_in (n : Int) (w : World) (h : -2000 ≤ n ∧ n ≤ 2000) :
    Calls Try.prog 168 #[.int .i64 n] w (λ e w' => e = .returned (.tuple #[.int .i64 (sgn n), .int .i64 (sz n)]) ∧ Ext w w') := by
  refine calls_W (n := 13) Try.func168 rfl rfl rfl ?_
  refine sg <| va rfl <| va rfl <| nK <| sq <| bk <| sg <| vm rfl <| vL (blt rfl rfl) <| va rfl <| nK <| ?_
  refine clt rfl (λ h_1 => ?_) (λ h_1 => ?_)
  · refine sg <| vm rfl <| vL (ng rfl (inI (by omega))) <| va rfl <| va rfl <| nK <| rt <| tB <| tT <| tR (.tmp rfl (.tmp rfl .nil)) <| ?_
    exact ⟨by unfold sgn sz; simp only [*, if_true, if_false]; try rfl, (Ext.rf w)⟩
  · refine sg <| vm rfl <| vL (bgt rfl rfl) <| va rfl <| nK <| ?_
    refine clt rfl (λ h_2 => ?_) (λ h_2 => ?_)
    · refine sg <| vm rfl <| va rfl <| va rfl <| nK <| rt <| tB <| tT <| tR (.tmp rfl (.tmp rfl .nil)) <| ?_
      exact ⟨by unfold sgn sz; simp only [*, if_true, if_false]; try rfl, (Ext.rf w)⟩
    · refine sk <| nB <| nT <| sg <| va rfl <| va rfl <| nK <| rt <| tR (.tmp rfl (.tmp rfl .nil)) <| ?_
      exact ⟨by unfold sgn sz; simp only [*, if_true, if_false]; try rfl, (Ext.rf w)⟩
theorem apart_in (a b : Cel) (w : World) (h : -1000 ≤ a.x ∧ a.x ≤ 1000 ∧ -1000 ≤ a.y ∧ a.y ≤ 1000) (h2 : -1000 ≤ b.x ∧ b.x ≤ 1000 ∧ -1000 ≤ b.y ∧ b.y ≤ 1000) :
    Calls Try.prog 154 #[.agg #[.int .i64 a.x, .int .i64 a.y], .agg #[.int .i64 b.x, .int .i64 b.y]] w (λ e w' => e = .returned (.tuple #[.int .i64 (far a b), .int .i64 (sz (b.x - a.x) + sz (b.y - a.y)), .int .i64 0]) ∧ Ext w w') := by
  refine calls_W (n := 43) Try.func154 rfl rfl rfl ?_
  refine sg <| bx rfl rfl rfl rfl λ w_1 b_2 x_3 l_4 B_5 => ?_
  have := x_3.size
  have z_1 := eT (Ext.rf w) x_3
  have q_7 := B_5.lt
  refine bx rfl rfl rfl rfl λ w_8 b_9 x_10 l_11 B_12 => ?_
  have := x_10.size
  have z_8 := eT z_1 x_10
  have q_14 := B_12.lt
  refine va rfl <| va rfl <| va rfl <| nK <| sq <| sg <| ?_
  have B_5 := B_5.later x_10
  refine vL (ld rfl (B_5.all eF7 eF8)) <| ca eF9 rfl rfl ((near_in a _ (by omega)).mono ?_)
  rintro e w_15 ⟨rfl, x_16⟩
  refine ⟨_, rfl, ?_⟩
  have := x_16.size
  have z_15 := eT z_8 x_16
  refine vL (nt rfl) <| vm rfl <| ug rfl rfl rfl <| ?_
  have B_12 := B_12.later x_16
  refine vL (ld rfl (B_12.all eF7 eF8)) <| ug rfl rfl rfl <| ca eF9 rfl rfl ((near_in b _ (by omega)).mono ?_)
  rintro e w_18 ⟨rfl, x_19⟩
  refine ⟨_, rfl, ?_⟩
  have := x_19.size
  have z_18 := eT z_15 x_19
  refine ug rfl rfl rfl <| vL (nt rfl) <| vL (pkF rfl rfl) <| nK <| cF rfl <| sK <| sg <| vL (fa eF4 rfl) <| ?_
  have B_12 := B_12.later x_19
  refine vL (ld rfl (B_12.one eF5 rfl)) <| vL (fa eF4 rfl) <| ?_
  have B_5 := B_5.later (eT x_16 x_19)
  refine vL (ld rfl (B_5.one eF5 rfl)) <| vL (bsu rfl rfl (inI (by have := sz_bd (b.x - a.x); have := sz_bd (b.y - a.y); omega))) <| ca eF10 rfl rfl ((sign_in (b.x - a.x) _ (by omega)).mono ?_)
  rintro e w_21 ⟨rfl, x_22⟩
  refine ⟨_, rfl, ?_⟩
  have := x_22.size
  have z_21 := eT z_18 x_22
  refine vm rfl <| vL (ex rfl rfl) <| vL (ex rfl rfl) <| va rfl <| va rfl <| nK <| sg <| vL (fa eF6 rfl) <| ?_
  have B_12 := B_12.later x_22
  refine vL (ld rfl (B_12.one eF5 rfl)) <| vL (fa eF6 rfl) <| ?_
  have B_5 := B_5.later x_22
  refine vL (ld rfl (B_5.one eF5 rfl)) <| vL (bsu rfl rfl (inI (by have := sz_bd (b.x - a.x); have := sz_bd (b.y - a.y); omega))) <| ca eF10 rfl rfl ((sign_in (b.y - a.y) _ (by omega)).mono ?_)
  rintro e w_24 ⟨rfl, x_25⟩
  refine ⟨_, rfl, ?_⟩
  have := x_25.size
  have z_24 := eT z_21 x_25
  refine vm rfl <| vL (ex rfl rfl) <| vL (ex rfl rfl) <| va rfl <| va rfl <| nK <| sg <| vm rfl <| vm rfl <| vL (mx rfl rfl) <| vm rfl <| vm rfl <| vL (bad rfl rfl (inI (by have := sz_bd (b.x - a.x); have := sz_bd (b.y - a.y); omega))) <| va rfl <| va rfl <| va rfl <| nK <| rt <| tR (.tmp rfl (.tmp rfl (.tmp rfl .nil))) <| ?_
  exact ⟨rfl, z_24⟩
theorem cells_in (a b : Cel) (w : World) (h : -1000 ≤ a.x ∧ a.x ≤ 1000 ∧ -1000 ≤ a.y ∧ a.y ≤ 1000) (h2 : -1000 ≤ b.x ∧ b.x ≤ 1000 ∧ -1000 ≤ b.y ∧ b.y ≤ 1000) :
    Calls Try.prog 175 #[.agg #[.int .i64 a.x, .int .i64 a.y], .agg #[.int .i64 b.x, .int .i64 b.y]] w (λ e w' => ∃ A c, e = .returned (.tuple #[.slice A (lineC a b).length c, .int .i64 0]) ∧ Cel.rep.SOwn 70 16 w' w.heap.size (Rep.blkOf A) A c (lineC a b) ∧ Ext w w') := by
  refine calls_W (n := 93) Try.func175 rfl rfl rfl ?_
  refine sg <| bx rfl rfl rfl rfl λ w_1 b_2 x_3 l_4 B_5 => ?_
  have := x_3.size
  have z_1 := eT (Ext.rf w) x_3
  have q_7 := B_5.lt
  refine bx rfl rfl rfl rfl λ w_8 b_9 x_10 l_11 B_12 => ?_
  have := x_10.size
  have z_8 := eT z_1 x_10
  have q_14 := B_12.lt
  refine va rfl <| va rfl <| nK <| sq <| sg <| ?_
  have B_5 := B_5.later x_10
  refine vL (ld rfl (B_5.all eF7 eF8)) <| ca eF9 rfl rfl ((near_in a _ (by omega)).mono ?_)
  rintro e w_15 ⟨rfl, x_16⟩
  refine ⟨_, rfl, ?_⟩
  have := x_16.size
  have z_15 := eT z_8 x_16
  refine vL (nt rfl) <| vm rfl <| ug rfl rfl rfl <| ?_
  have B_12 := B_12.later x_16
  refine vL (ld rfl (B_12.all eF7 eF8)) <| ug rfl rfl rfl <| ca eF9 rfl rfl ((near_in b _ (by omega)).mono ?_)
  rintro e w_18 ⟨rfl, x_19⟩
  refine ⟨_, rfl, ?_⟩
  have := x_19.size
  have z_18 := eT z_15 x_19
  refine ug rfl rfl rfl <| vL (nt rfl) <| vL (pkF rfl rfl) <| nK <| cF rfl <| sK <| sg <| vL (fa eF4 rfl) <| ?_
  have B_12 := B_12.later x_19
  refine vL (ld rfl (B_12.one eF5 rfl)) <| vL (fa eF4 rfl) <| ?_
  have B_5 := B_5.later (eT x_16 x_19)
  refine vL (ld rfl (B_5.one eF5 rfl)) <| vL (bsu rfl rfl (inI (by omega))) <| ca eF10 rfl rfl ((sign_in (b.x - a.x) _ (by omega)).mono ?_)
  rintro e w_21 ⟨rfl, x_22⟩
  refine ⟨_, rfl, ?_⟩
  have := x_22.size
  have z_21 := eT z_18 x_22
  refine vm rfl <| vL (ex rfl rfl) <| vL (ex rfl rfl) <| va rfl <| va rfl <| nK <| sg <| vL (fa eF6 rfl) <| ?_
  have B_12 := B_12.later x_22
  refine vL (ld rfl (B_12.one eF5 rfl)) <| vL (fa eF6 rfl) <| ?_
  have B_5 := B_5.later x_22
  refine vL (ld rfl (B_5.one eF5 rfl)) <| vL (bsu rfl rfl (inI (by omega))) <| ca eF10 rfl rfl ((sign_in (b.y - a.y) _ (by omega)).mono ?_)
  rintro e w_24 ⟨rfl, x_25⟩
  refine ⟨_, rfl, ?_⟩
  have := x_25.size
  have z_24 := eT z_21 x_25
  refine vm rfl <| vL (ex rfl rfl) <| vL (ex rfl rfl) <| va rfl <| va rfl <| nK <| sg <| vm rfl <| vm rfl <| va rfl <| va rfl <| nK <| sq <| sg <| vm rfl <| vm rfl <| vL (bgt rfl rfl) <| nK <| ?_
  refine clt rfl (λ h_27 => ?_) (λ h_27 => ?_)
  · have hl1 := sz_bd (b.x - a.x)
    have hl2 := sz_bd (b.y - a.y)
    have hfar : far a b = sz (b.y - a.y) := by unfold far; omega
    have hnar : nar a b = sz (b.x - a.x) := by unfold nar; omega
    have hdec : decide (sz (b.x - a.x) < sz (b.y - a.y)) = true := by exact decide_eq_true h_27
    refine rg <| vm rfl <| vm rfl <| va rfl <| va rfl <| nK <| sg <| ?_
    have B_5 := B_5.later x_25
    refine vL (ld rfl (B_5.all eF7 eF8)) <| bs (e := 70) (cs := [.int .i64 a.x, .int .i64 a.y]) rfl (λ _ => by kernel_rfl) rfl λ w_28 b_29 x_30 l_31 B_32 => ?_
    have := x_30.size
    have z_28 := eT z_24 x_30
    have q_34 := B_32.lt
    refine va rfl <| nK <| sg <| va rfl <| nK <| sq <| sg <| vm rfl <| vm rfl <| nK <| bk <| ?_
    have B_5 := B_5.later x_30
    have lo_35 : ∀ q ∈ Rep.blkOf (some ⟨b_29, 0, none⟩), b_29 ≤ q := λ q hq => Nat.le_of_eq (List.mem_singleton.1 hq).symm
    refine lp (λ mI EI wI => ∃ k : Nat, ∃ Ao : Option Addr, ∃ co : Nat, EI = [(2, .pointer (some ⟨b_2, 0, none⟩)), (4, .slice none 0 0), (5, .int .i64 0), (6, .int .i64 (sgn (b.x - a.x))), (7, .int .i64 (sz (b.x - a.x))), (8, .int .i64 (sgn (b.y - a.y))), (9, .int .i64 (sz (b.y - a.y))), (10, .int .i64 (sz (b.y - a.y))), (11, .int .i64 (sz (b.x - a.x))), (12, .slice Ao ((pts a b k).length) co), (13, .int .i64 ((lst a b k).1)), (50, .int .i64 (sz (b.y - a.y))), (51, .int .i64 (k : Int))] ∧ mI = (sz (b.y - a.y)).toNat - k ∧ Ext w wI ∧ Blk wI b_2 [.int .i64 ((lst a b k).2.x), .int .i64 ((lst a b k).2.y)] 70 (0, 0) ∧ Cel.rep.SOwn 70 16 wI w.heap.size (Rep.blkOf Ao) Ao co (pts a b k) ∧ ((k : Int) ≤ sz (b.y - a.y)) ∧ (∀ q ∈ Rep.blkOf Ao, q = b_2 → False)) _ _ ⟨0, some ⟨b_29, 0, none⟩, 1, rfl, rfl, z_28, B_5, (Blk.ownN (R := Cel.rep) (by_ := 16) (B := w.heap.size) (k := [a]) B_32 [[.int .i64 a.x, .int .i64 a.y]] rfl ⟨⟨rfl, okI_iff.2 (by omega), okI_iff.2 (by omega)⟩, trivial⟩ (by simp) (by simp) (by decide) (by omega)), (by have := sz_bd (b.y - a.y); have := sz_bd (b.x - a.x); omega), (λ q hq hb => by (have := lo_35 q hq; omega))⟩ (.cons rfl (.cons rfl (.cons rfl (.cons rfl (.cons rfl (.cons rfl (.cons rfl (.cons rfl (.cons rfl (.cons rfl (.cons (loI rfl (by first | omega | rfl | (simp <;> omega))) (.cons rfl (.cons (loI rfl (by first | omega | rfl | (simp <;> omega))) .nil))))))))))))) ?_
    rintro m_38 E_39 w_37 ⟨k, Ao, co, rfl, rfl, z_37, BL, OO, hk, d_36⟩
    have := z_37.size
    have q_41 := BL.lt
    have u_42 := λ q hq => (OO.lt q hq).2
    have hb := lst_bd a b k
    have hp := lst_pos a b k
    have hs1 := sgn_bd (b.x - a.x)
    have hs2 := sgn_bd (b.y - a.y)
    have hl1 := sz_bd (b.x - a.x)
    have hl2 := sz_bd (b.y - a.y)
    have hpl := pts_len a b k
    refine sg <| vL (blt rfl rfl) <| nK <| sq <| ?_
    refine clt rfl (λ h_43 => ?_) (λ h_43 => ?_)
    · refine sK <| sq <| bk <| sg <| vm rfl <| vm rfl <| vL (bmu rfl rfl (inI (by omega))) <| vL (bad rfl rfl (inI (by omega))) <| va rfl <| nK <| sg <| vm rfl <| vm rfl <| vL (bge rfl rfl) <| va rfl <| nK <| sq <| sg <| ?_
      refine vm rfl <| nK <| ?_
      refine cle rfl (λ h_44 => ?_) (λ h_44 => ?_)
      · rw [hfar] at hb
        have hasd : decide (sz (b.y - a.y) ≤ ((lst a b k).1) + (2 * (sz (b.x - a.x)))) = true := by exact decide_eq_true h_44
        refine rg <| vm rfl <| vm rfl <| vL (bmu rfl rfl (inI (by omega))) <| vL (bsu rfl rfl (inI (by omega))) <| va rfl <| nK <| sq <| sg <| vm rfl <| vm rfl <| vL (bge rfl rfl) <| vm rfl <| vQ rfl rfl rfl rfl (λ hc => mv rfl) rfl <| vL (pO rfl rfl rfl rfl) <| nK <| ?_
        have h_45 : ((decide (sz (b.y - a.y) ≤ sz (b.x - a.x))) || (decide (sz (b.y - a.y) ≤ ((lst a b k).1) + (2 * (sz (b.x - a.x)))))) = true := by simp only [Bool.or_eq_true, decide_eq_true_eq]; omega
        refine cT (by rw [← h_45]; rfl) <| rg <| vL (fa eF4 rfl) <| vL (ld rfl (BL.one eF5 rfl)) <| vm rfl <| vL (bad rfl rfl (inI (by omega))) <| vL (fa eF4 rfl) <| st (new := [.int .i64 (((lst a b k).2.x) + (sgn (b.x - a.x))), .int .i64 ((lst a b k).2.y)]) rfl rfl BL rfl eF11 rfl rfl rfl λ w_46 m_47 BL => ?_
        have := m_47.size
        have z_46 := Ext.mod z_37 m_47 (ge1 (by omega))
        have := m_47.size
        refine nK <| sq <| sg <| vm rfl <| vm rfl <| vL (bgt rfl rfl) <| vm rfl <| vQ rfl rfl rfl rfl (λ hc => mv rfl) rfl <| vL (pO rfl rfl rfl rfl) <| nK <| ?_
        have h_50 : ((decide (sz (b.x - a.x) < sz (b.y - a.y))) || (decide (sz (b.y - a.y) ≤ ((lst a b k).1) + (2 * (sz (b.x - a.x)))))) = true := by simp only [Bool.or_eq_true, decide_eq_true_eq]; omega
        refine cT (by rw [← h_50]; rfl) <| rg <| vL (fa eF6 rfl) <| vL (ld rfl (BL.one eF5 rfl)) <| vm rfl <| vL (bad rfl rfl (inI (by omega))) <| vL (fa eF6 rfl) <| st (new := [.int .i64 (((lst a b k).2.x) + (sgn (b.x - a.x))), .int .i64 (((lst a b k).2.y) + (sgn (b.y - a.y)))]) rfl rfl BL rfl eF11 rfl rfl rfl λ w_51 m_52 BL => ?_
        have := m_52.size
        have z_51 := Ext.mod z_46 m_52 (ge1 (by omega))
        have := m_52.size
        refine nK <| rg <| vm rfl <| vL (ld rfl (BL.all eF7 eF8)) <| bs (e := 70) (cs := [.int .i64 (((lst a b k).2.x) + (sgn (b.x - a.x))), .int .i64 (((lst a b k).2.y) + (sgn (b.y - a.y)))]) rfl (λ _ => by kernel_rfl) rfl λ w_55 b_56 x_57 l_58 B_59 => ?_
        have := x_57.size
        have z_55 := eT z_51 x_57
        have q_61 := B_59.lt
        have OO := OO.mod m_47 (λ q hq h => by have hb := List.mem_singleton.1 h; exfalso; (exact d_36 q hq hb))
        have OO := OO.mod m_52 (λ q hq h => by have hb := List.mem_singleton.1 h; exfalso; (exact d_36 q hq hb))
        have OO := OO.later x_57
        refine ap LinG_el_S_api_Cell Rep.flat_bare OO (Blk.has1 (R := Cel.rep) (by_ := 16) (q := (⟨((lst a b k).2.x) + (sgn (b.x - a.x)), ((lst a b k).2.y) + (sgn (b.y - a.y))⟩ : Cel)) B_59 ⟨rfl, ⟨okI_iff.2 (by (try dsimp only); omega), okI_iff.2 (by (try dsimp only); omega)⟩⟩ (by decide)) rfl rfl (by simp only [List.length_cons, List.length_nil]; omega) (by simp only [List.length_cons, List.length_nil]; omega) z_55.size rfl λ w_62 A_63 c_64 m_65 O_66 g_67 n_68 => ?_
        have := m_65.size
        have z_62 := Ext.mod z_55 m_65 (λ q hq => (OO.lt q hq).1)
        have u_70 := λ q hq => (O_66.lt q hq).2
        have := m_65.size
        refine va rfl <| nl <| nB <| nT <| rg <| vL (bad rfl rfl (inI (by omega))) <| vm rfl <| nl <| ?_
        have e1 : lst a b (k + 1) = ((((lst a b k).1) + (2 * (sz (b.x - a.x)))) - (2 * (sz (b.y - a.y))), ⟨((lst a b k).2.x) + (sgn (b.x - a.x)), ((lst a b k).2.y) + (sgn (b.y - a.y))⟩) := by
          show lstep a b (lst a b k) = _
          unfold lstep
          simp only [hfar, hnar, hdec, hasd, if_true, if_false, Bool.or_true, Bool.true_or, Bool.or_false, Bool.false_or, Bool.false_eq_true, decide_true, decide_false, Bool.not_true, Bool.not_false]
        have e2 := pts_succ a b k
        rw [e1] at e2
        have e3 : (pts a b (k + 1)).length = k + 2 := pts_len a b (k + 1)
        have BL := BL.later x_57
        have BL := BL.mod m_65 (λ hq => d_36 _ hq rfl)
        exact nI _ _ ⟨k + 1, A_63, c_64, rfl, rfl, z_62, (by rw [e1]; exact BL), (by rw [e2]; exact O_66), by omega, (λ q hq hb => by (exact Or.elim (g_67 q hq) (λ k_72 => by (exact d_36 q k_72 hb)) (λ k_72 => by omega)))⟩ (by omega) (.cons rfl (.cons rfl (.cons rfl (.cons rfl (.cons rfl (.cons rfl (.cons rfl (.cons rfl (.cons rfl (.cons (by rw [e2]; rfl) (.cons (loI rfl (by rw [e1])) (.cons rfl (.cons (loI rfl (by first | omega | rfl | (simp <;> omega))) .nil)))))))))))))
      · rw [hfar] at hb
        have hasd : decide (sz (b.y - a.y) ≤ ((lst a b k).1) + (2 * (sz (b.x - a.x)))) = false := by exact decide_eq_false h_44
        refine sK <| sq <| sg <| vm rfl <| vm rfl <| vL (bge rfl rfl) <| vm rfl <| vQ rfl rfl rfl rfl (λ hc => mv rfl) rfl <| vL (pO rfl rfl rfl rfl) <| nK <| ?_
        have h_73 : ((decide (sz (b.y - a.y) ≤ sz (b.x - a.x))) || (decide (sz (b.y - a.y) ≤ ((lst a b k).1) + (2 * (sz (b.x - a.x)))))) = false := by simp only [Bool.or_eq_false_iff, decide_eq_false_iff_not]; omega
        refine cF (by rw [← h_73]; rfl) <| sK <| sq <| sg <| vm rfl <| vm rfl <| vL (bgt rfl rfl) <| vm rfl <| vQ rfl rfl rfl rfl (λ hc => mv rfl) rfl <| vL (pO rfl rfl rfl rfl) <| nK <| ?_
        have h_74 : ((decide (sz (b.x - a.x) < sz (b.y - a.y))) || (decide (sz (b.y - a.y) ≤ ((lst a b k).1) + (2 * (sz (b.x - a.x)))))) = true := by simp only [Bool.or_eq_true, decide_eq_true_eq]; omega
        refine cT (by rw [← h_74]; rfl) <| rg <| vL (fa eF6 rfl) <| vL (ld rfl (BL.one eF5 rfl)) <| vm rfl <| vL (bad rfl rfl (inI (by omega))) <| vL (fa eF6 rfl) <| st (new := [.int .i64 ((lst a b k).2.x), .int .i64 (((lst a b k).2.y) + (sgn (b.y - a.y)))]) rfl rfl BL rfl eF11 rfl rfl rfl λ w_75 m_76 BL => ?_
        have := m_76.size
        have z_75 := Ext.mod z_37 m_76 (ge1 (by omega))
        have := m_76.size
        refine nK <| rg <| vm rfl <| vL (ld rfl (BL.all eF7 eF8)) <| bs (e := 70) (cs := [.int .i64 ((lst a b k).2.x), .int .i64 (((lst a b k).2.y) + (sgn (b.y - a.y)))]) rfl (λ _ => by kernel_rfl) rfl λ w_79 b_80 x_81 l_82 B_83 => ?_
        have := x_81.size
        have z_79 := eT z_75 x_81
        have q_85 := B_83.lt
        have OO := OO.mod m_76 (λ q hq h => by have hb := List.mem_singleton.1 h; exfalso; (exact d_36 q hq hb))
        have OO := OO.later x_81
        refine ap LinG_el_S_api_Cell Rep.flat_bare OO (Blk.has1 (R := Cel.rep) (by_ := 16) (q := (⟨(lst a b k).2.x, ((lst a b k).2.y) + (sgn (b.y - a.y))⟩ : Cel)) B_83 ⟨rfl, ⟨okI_iff.2 (by (try dsimp only); omega), okI_iff.2 (by (try dsimp only); omega)⟩⟩ (by decide)) rfl rfl (by simp only [List.length_cons, List.length_nil]; omega) (by simp only [List.length_cons, List.length_nil]; omega) z_79.size rfl λ w_86 A_87 c_88 m_89 O_90 g_91 n_92 => ?_
        have := m_89.size
        have z_86 := Ext.mod z_79 m_89 (λ q hq => (OO.lt q hq).1)
        have u_94 := λ q hq => (O_90.lt q hq).2
        have := m_89.size
        refine va rfl <| nl <| nB <| nT <| rg <| vL (bad rfl rfl (inI (by omega))) <| vm rfl <| nl <| ?_
        have e1 : lst a b (k + 1) = (((lst a b k).1) + (2 * (sz (b.x - a.x))), ⟨(lst a b k).2.x, ((lst a b k).2.y) + (sgn (b.y - a.y))⟩) := by
          show lstep a b (lst a b k) = _
          unfold lstep
          simp only [hfar, hnar, hdec, hasd, if_true, if_false, Bool.or_true, Bool.true_or, Bool.or_false, Bool.false_or, Bool.false_eq_true, decide_true, decide_false, Bool.not_true, Bool.not_false]
        have e2 := pts_succ a b k
        rw [e1] at e2
        have e3 : (pts a b (k + 1)).length = k + 2 := pts_len a b (k + 1)
        have BL := BL.later x_81
        have BL := BL.mod m_89 (λ hq => d_36 _ hq rfl)
        exact nI _ _ ⟨k + 1, A_87, c_88, rfl, rfl, z_86, (by rw [e1]; exact BL), (by rw [e2]; exact O_90), by omega, (λ q hq hb => by (exact Or.elim (g_91 q hq) (λ k_96 => by (exact d_36 q k_96 hb)) (λ k_96 => by omega)))⟩ (by omega) (.cons rfl (.cons rfl (.cons rfl (.cons rfl (.cons rfl (.cons rfl (.cons rfl (.cons rfl (.cons rfl (.cons (by rw [e2]; rfl) (.cons (loI rfl (by rw [e1])) (.cons rfl (.cons (loI rfl (by first | omega | rfl | (simp <;> omega))) .nil)))))))))))))
    · refine xt <| xT <| xK <| xB <| nT <| sg <| vm rfl <| va rfl <| va rfl <| nK <| rt <| tR (.tmp rfl (.tmp rfl .nil)) <| ?_
      have hkk : k = (far a b).toNat := by omega
      subst hkk
      exact ⟨Ao, co, rfl, OO, z_37⟩
  · have hl1 := sz_bd (b.x - a.x)
    have hl2 := sz_bd (b.y - a.y)
    have hfar : far a b = sz (b.x - a.x) := by unfold far; omega
    have hnar : nar a b = sz (b.y - a.y) := by unfold nar; omega
    have hdec : decide (sz (b.x - a.x) < sz (b.y - a.y)) = false := by exact decide_eq_false h_27
    refine sK <| sg <| ?_
    have B_5 := B_5.later x_25
    refine vL (ld rfl (B_5.all eF7 eF8)) <| bs (e := 70) (cs := [.int .i64 a.x, .int .i64 a.y]) rfl (λ _ => by kernel_rfl) rfl λ w_97 b_98 x_99 l_100 B_101 => ?_
    have := x_99.size
    have z_97 := eT z_24 x_99
    have q_103 := B_101.lt
    refine va rfl <| nK <| sg <| va rfl <| nK <| sq <| sg <| vm rfl <| vm rfl <| nK <| bk <| ?_
    have B_5 := B_5.later x_99
    have lo_104 : ∀ q ∈ Rep.blkOf (some ⟨b_98, 0, none⟩), b_98 ≤ q := λ q hq => Nat.le_of_eq (List.mem_singleton.1 hq).symm
    refine lp (λ mI EI wI => ∃ k : Nat, ∃ Ao : Option Addr, ∃ co : Nat, EI = [(2, .pointer (some ⟨b_2, 0, none⟩)), (4, .slice none 0 0), (5, .int .i64 0), (6, .int .i64 (sgn (b.x - a.x))), (7, .int .i64 (sz (b.x - a.x))), (8, .int .i64 (sgn (b.y - a.y))), (9, .int .i64 (sz (b.y - a.y))), (10, .int .i64 (sz (b.x - a.x))), (11, .int .i64 (sz (b.y - a.y))), (12, .slice Ao ((pts a b k).length) co), (13, .int .i64 ((lst a b k).1)), (50, .int .i64 (sz (b.x - a.x))), (51, .int .i64 (k : Int))] ∧ mI = (sz (b.x - a.x)).toNat - k ∧ Ext w wI ∧ Blk wI b_2 [.int .i64 ((lst a b k).2.x), .int .i64 ((lst a b k).2.y)] 70 (0, 0) ∧ Cel.rep.SOwn 70 16 wI w.heap.size (Rep.blkOf Ao) Ao co (pts a b k) ∧ ((k : Int) ≤ sz (b.x - a.x)) ∧ (∀ q ∈ Rep.blkOf Ao, q = b_2 → False)) _ _ ⟨0, some ⟨b_98, 0, none⟩, 1, rfl, rfl, z_97, B_5, (Blk.ownN (R := Cel.rep) (by_ := 16) (B := w.heap.size) (k := [a]) B_101 [[.int .i64 a.x, .int .i64 a.y]] rfl ⟨⟨rfl, okI_iff.2 (by omega), okI_iff.2 (by omega)⟩, trivial⟩ (by simp) (by simp) (by decide) (by omega)), (by have := sz_bd (b.y - a.y); have := sz_bd (b.x - a.x); omega), (λ q hq hb => by (have := lo_104 q hq; omega))⟩ (.cons rfl (.cons rfl (.cons rfl (.cons rfl (.cons rfl (.cons rfl (.cons rfl (.cons rfl (.cons rfl (.cons rfl (.cons (loI rfl (by first | omega | rfl | (simp <;> omega))) (.cons rfl (.cons (loI rfl (by first | omega | rfl | (simp <;> omega))) .nil))))))))))))) ?_
    rintro m_107 E_108 w_106 ⟨k, Ao, co, rfl, rfl, z_106, BL, OO, hk, d_105⟩
    have := z_106.size
    have q_110 := BL.lt
    have u_111 := λ q hq => (OO.lt q hq).2
    have hb := lst_bd a b k
    have hp := lst_pos a b k
    have hs1 := sgn_bd (b.x - a.x)
    have hs2 := sgn_bd (b.y - a.y)
    have hl1 := sz_bd (b.x - a.x)
    have hl2 := sz_bd (b.y - a.y)
    have hpl := pts_len a b k
    refine sg <| vL (blt rfl rfl) <| nK <| sq <| ?_
    refine clt rfl (λ h_112 => ?_) (λ h_112 => ?_)
    · refine sK <| sq <| bk <| sg <| vm rfl <| vm rfl <| vL (bmu rfl rfl (inI (by omega))) <| vL (bad rfl rfl (inI (by omega))) <| va rfl <| nK <| sg <| vm rfl <| vm rfl <| vL (bge rfl rfl) <| va rfl <| nK <| sq <| sg <| ?_
      refine vm rfl <| nK <| ?_
      refine cle rfl (λ h_113 => ?_) (λ h_113 => ?_)
      · rw [hfar] at hb
        have hasd : decide (sz (b.x - a.x) ≤ ((lst a b k).1) + (2 * (sz (b.y - a.y)))) = true := by exact decide_eq_true h_113
        refine rg <| vm rfl <| vm rfl <| vL (bmu rfl rfl (inI (by omega))) <| vL (bsu rfl rfl (inI (by omega))) <| va rfl <| nK <| sq <| sg <| vm rfl <| vm rfl <| vL (bge rfl rfl) <| vm rfl <| vQ rfl rfl rfl rfl (λ hc => mv rfl) rfl <| vL (pO rfl rfl rfl rfl) <| nK <| ?_
        have h_114 : ((decide (sz (b.y - a.y) ≤ sz (b.x - a.x))) || (decide (sz (b.x - a.x) ≤ ((lst a b k).1) + (2 * (sz (b.y - a.y)))))) = true := by simp only [Bool.or_eq_true, decide_eq_true_eq]; omega
        refine cT (by rw [← h_114]; rfl) <| rg <| vL (fa eF4 rfl) <| vL (ld rfl (BL.one eF5 rfl)) <| vm rfl <| vL (bad rfl rfl (inI (by omega))) <| vL (fa eF4 rfl) <| st (new := [.int .i64 (((lst a b k).2.x) + (sgn (b.x - a.x))), .int .i64 ((lst a b k).2.y)]) rfl rfl BL rfl eF11 rfl rfl rfl λ w_115 m_116 BL => ?_
        have := m_116.size
        have z_115 := Ext.mod z_106 m_116 (ge1 (by omega))
        have := m_116.size
        refine nK <| sq <| sg <| vm rfl <| vm rfl <| vL (bgt rfl rfl) <| vm rfl <| vQ rfl rfl rfl rfl (λ hc => mv rfl) rfl <| vL (pO rfl rfl rfl rfl) <| nK <| ?_
        have h_119 : ((decide (sz (b.x - a.x) < sz (b.y - a.y))) || (decide (sz (b.x - a.x) ≤ ((lst a b k).1) + (2 * (sz (b.y - a.y)))))) = true := by simp only [Bool.or_eq_true, decide_eq_true_eq]; omega
        refine cT (by rw [← h_119]; rfl) <| rg <| vL (fa eF6 rfl) <| vL (ld rfl (BL.one eF5 rfl)) <| vm rfl <| vL (bad rfl rfl (inI (by omega))) <| vL (fa eF6 rfl) <| st (new := [.int .i64 (((lst a b k).2.x) + (sgn (b.x - a.x))), .int .i64 (((lst a b k).2.y) + (sgn (b.y - a.y)))]) rfl rfl BL rfl eF11 rfl rfl rfl λ w_120 m_121 BL => ?_
        have := m_121.size
        have z_120 := Ext.mod z_115 m_121 (ge1 (by omega))
        have := m_121.size
        refine nK <| rg <| vm rfl <| vL (ld rfl (BL.all eF7 eF8)) <| bs (e := 70) (cs := [.int .i64 (((lst a b k).2.x) + (sgn (b.x - a.x))), .int .i64 (((lst a b k).2.y) + (sgn (b.y - a.y)))]) rfl (λ _ => by kernel_rfl) rfl λ w_124 b_125 x_126 l_127 B_128 => ?_
        have := x_126.size
        have z_124 := eT z_120 x_126
        have q_130 := B_128.lt
        have OO := OO.mod m_116 (λ q hq h => by have hb := List.mem_singleton.1 h; exfalso; (exact d_105 q hq hb))
        have OO := OO.mod m_121 (λ q hq h => by have hb := List.mem_singleton.1 h; exfalso; (exact d_105 q hq hb))
        have OO := OO.later x_126
        refine ap LinG_el_S_api_Cell Rep.flat_bare OO (Blk.has1 (R := Cel.rep) (by_ := 16) (q := (⟨((lst a b k).2.x) + (sgn (b.x - a.x)), ((lst a b k).2.y) + (sgn (b.y - a.y))⟩ : Cel)) B_128 ⟨rfl, ⟨okI_iff.2 (by (try dsimp only); omega), okI_iff.2 (by (try dsimp only); omega)⟩⟩ (by decide)) rfl rfl (by simp only [List.length_cons, List.length_nil]; omega) (by simp only [List.length_cons, List.length_nil]; omega) z_124.size rfl λ w_131 A_132 c_133 m_134 O_135 g_136 n_137 => ?_
        have := m_134.size
        have z_131 := Ext.mod z_124 m_134 (λ q hq => (OO.lt q hq).1)
        have u_139 := λ q hq => (O_135.lt q hq).2
        have := m_134.size
        refine va rfl <| nl <| nB <| nT <| rg <| vL (bad rfl rfl (inI (by omega))) <| vm rfl <| nl <| ?_
        have e1 : lst a b (k + 1) = ((((lst a b k).1) + (2 * (sz (b.y - a.y)))) - (2 * (sz (b.x - a.x))), ⟨((lst a b k).2.x) + (sgn (b.x - a.x)), ((lst a b k).2.y) + (sgn (b.y - a.y))⟩) := by
          show lstep a b (lst a b k) = _
          unfold lstep
          simp only [hfar, hnar, hdec, hasd, if_true, if_false, Bool.or_true, Bool.true_or, Bool.or_false, Bool.false_or, Bool.false_eq_true, decide_true, decide_false, Bool.not_true, Bool.not_false]
        have e2 := pts_succ a b k
        rw [e1] at e2
        have e3 : (pts a b (k + 1)).length = k + 2 := pts_len a b (k + 1)
        have BL := BL.later x_126
        have BL := BL.mod m_134 (λ hq => d_105 _ hq rfl)
        exact nI _ _ ⟨k + 1, A_132, c_133, rfl, rfl, z_131, (by rw [e1]; exact BL), (by rw [e2]; exact O_135), by omega, (λ q hq hb => by (exact Or.elim (g_136 q hq) (λ k_141 => by (exact d_105 q k_141 hb)) (λ k_141 => by omega)))⟩ (by omega) (.cons rfl (.cons rfl (.cons rfl (.cons rfl (.cons rfl (.cons rfl (.cons rfl (.cons rfl (.cons rfl (.cons (by rw [e2]; rfl) (.cons (loI rfl (by rw [e1])) (.cons rfl (.cons (loI rfl (by first | omega | rfl | (simp <;> omega))) .nil)))))))))))))
      · rw [hfar] at hb
        have hasd : decide (sz (b.x - a.x) ≤ ((lst a b k).1) + (2 * (sz (b.y - a.y)))) = false := by exact decide_eq_false h_113
        refine sK <| sq <| sg <| vm rfl <| vm rfl <| vL (bge rfl rfl) <| vm rfl <| vQ rfl rfl rfl rfl (λ hc => mv rfl) rfl <| vL (pO rfl rfl rfl rfl) <| nK <| ?_
        have h_142 : ((decide (sz (b.y - a.y) ≤ sz (b.x - a.x))) || (decide (sz (b.x - a.x) ≤ ((lst a b k).1) + (2 * (sz (b.y - a.y)))))) = true := by simp only [Bool.or_eq_true, decide_eq_true_eq]; omega
        refine cT (by rw [← h_142]; rfl) <| rg <| vL (fa eF4 rfl) <| vL (ld rfl (BL.one eF5 rfl)) <| vm rfl <| vL (bad rfl rfl (inI (by omega))) <| vL (fa eF4 rfl) <| st (new := [.int .i64 (((lst a b k).2.x) + (sgn (b.x - a.x))), .int .i64 ((lst a b k).2.y)]) rfl rfl BL rfl eF11 rfl rfl rfl λ w_143 m_144 BL => ?_
        have := m_144.size
        have z_143 := Ext.mod z_106 m_144 (ge1 (by omega))
        have := m_144.size
        refine nK <| sq <| sg <| vm rfl <| vm rfl <| vL (bgt rfl rfl) <| vm rfl <| vQ rfl rfl rfl rfl (λ hc => mv rfl) rfl <| vL (pO rfl rfl rfl rfl) <| nK <| ?_
        have h_147 : ((decide (sz (b.x - a.x) < sz (b.y - a.y))) || (decide (sz (b.x - a.x) ≤ ((lst a b k).1) + (2 * (sz (b.y - a.y)))))) = false := by simp only [Bool.or_eq_false_iff, decide_eq_false_iff_not]; omega
        refine cF (by rw [← h_147]; rfl) <| sK <| rg <| vm rfl <| vL (ld rfl (BL.all eF7 eF8)) <| bs (e := 70) (cs := [.int .i64 (((lst a b k).2.x) + (sgn (b.x - a.x))), .int .i64 ((lst a b k).2.y)]) rfl (λ _ => by kernel_rfl) rfl λ w_148 b_149 x_150 l_151 B_152 => ?_
        have := x_150.size
        have z_148 := eT z_143 x_150
        have q_154 := B_152.lt
        have OO := OO.mod m_144 (λ q hq h => by have hb := List.mem_singleton.1 h; exfalso; (exact d_105 q hq hb))
        have OO := OO.later x_150
        refine ap LinG_el_S_api_Cell Rep.flat_bare OO (Blk.has1 (R := Cel.rep) (by_ := 16) (q := (⟨((lst a b k).2.x) + (sgn (b.x - a.x)), (lst a b k).2.y⟩ : Cel)) B_152 ⟨rfl, ⟨okI_iff.2 (by (try dsimp only); omega), okI_iff.2 (by (try dsimp only); omega)⟩⟩ (by decide)) rfl rfl (by simp only [List.length_cons, List.length_nil]; omega) (by simp only [List.length_cons, List.length_nil]; omega) z_148.size rfl λ w_155 A_156 c_157 m_158 O_159 g_160 n_161 => ?_
        have := m_158.size
        have z_155 := Ext.mod z_148 m_158 (λ q hq => (OO.lt q hq).1)
        have u_163 := λ q hq => (O_159.lt q hq).2
        have := m_158.size
        refine va rfl <| nl <| nB <| nT <| rg <| vL (bad rfl rfl (inI (by omega))) <| vm rfl <| nl <| ?_
        have e1 : lst a b (k + 1) = (((lst a b k).1) + (2 * (sz (b.y - a.y))), ⟨((lst a b k).2.x) + (sgn (b.x - a.x)), (lst a b k).2.y⟩) := by
          show lstep a b (lst a b k) = _
          unfold lstep
          simp only [hfar, hnar, hdec, hasd, if_true, if_false, Bool.or_true, Bool.true_or, Bool.or_false, Bool.false_or, Bool.false_eq_true, decide_true, decide_false, Bool.not_true, Bool.not_false]
        have e2 := pts_succ a b k
        rw [e1] at e2
        have e3 : (pts a b (k + 1)).length = k + 2 := pts_len a b (k + 1)
        have BL := BL.later x_150
        have BL := BL.mod m_158 (λ hq => d_105 _ hq rfl)
        exact nI _ _ ⟨k + 1, A_156, c_157, rfl, rfl, z_155, (by rw [e1]; exact BL), (by rw [e2]; exact O_159), by omega, (λ q hq hb => by (exact Or.elim (g_160 q hq) (λ k_165 => by (exact d_105 q k_165 hb)) (λ k_165 => by omega)))⟩ (by omega) (.cons rfl (.cons rfl (.cons rfl (.cons rfl (.cons rfl (.cons rfl (.cons rfl (.cons rfl (.cons rfl (.cons (by rw [e2]; rfl) (.cons (loI rfl (by rw [e1])) (.cons rfl (.cons (loI rfl (by first | omega | rfl | (simp <;> omega))) .nil)))))))))))))
    · refine xt <| xT <| xK <| xB <| nT <| sg <| vm rfl <| va rfl <| va rfl <| nK <| rt <| tR (.tmp rfl (.tmp rfl .nil)) <| ?_
      have hkk : k = (far a b).toNat := by omega
      subst hkk
      exact ⟨Ao, co, rfl, OO, z_106⟩
end
end Go.Proofs.Ytccankldeogdlaa
