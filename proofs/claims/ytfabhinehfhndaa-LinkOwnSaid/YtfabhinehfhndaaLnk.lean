/-
  Texts and links: how they lie in cells.
-/
import Derived.Test.YtfabhinehfhndaaFnd
import Derived.Test.YtfabhinehfhndaaWOwn2
set_option linter.unusedVariables false
set_option linter.unusedSimpArgs false
namespace Go.Proofs.Ytfabhinehfhndaa
open Go.RowKit

theorem hcS {w : World} {cs : List Value} {a : ByteArray} (h : repS.has w cs a) : cs = [.string a] := And.left (show cs = [.string a] ∧ a.size ≤ 140737488351232 from h)
theorem raw0S : ∀ (j : Nat) u, (Value.string .empty).cells[j]? = some u → repS.raw j u := by
  intro j u hu
  have hu : (#[(Value.string .empty : Value)] : Array Value)[j]? = some u := hu
  match j, hu with
  | 0, hu => exact ⟨_, (Option.some.inj hu).symm, by decide⟩
  | j + 1, hu => cases hu
theorem info_str : (Try.prog.info? 9).map (fun i => (i.zero, i.size, i.bytes)) = some (some (.string .empty), 1, 16) := by kernel_rfl
structure Lnk where
  window : Int
  sent : List ByteArray
  base : Int
  next : Int
  way : List Int
  acks : List Int
  got : List ByteArray
  held : List Int
  deriving DecidableEq, Inhabited
namespace Lnk
structure At where
  S : Option Addr
  W : Option Addr
  K : Option Addr
  G : Option Addr
  H : Option Addr
  s : Nat
  w : Nat
  k : Nat
  g : Nat
  h : Nat
def cells (a : At) (L : Lnk) : List Value := [.int .i64 L.window, .slice a.S L.sent.length a.s, .int .i64 L.base, .int .i64 L.next, .slice a.W L.way.length a.w, .slice a.K L.acks.length a.k, .slice a.G L.got.length a.g, .slice a.H L.held.length a.h]
structure Has (w : World) (a : At) (L : Lnk) : Prop where
  S : repS.SHas 16 w a.S a.s L.sent
  W : repI.SHas 8 w a.W a.w L.way
  K : repI.SHas 8 w a.K a.k L.acks
  G : repS.SHas 16 w a.G a.g L.got
  H : repI.SHas 8 w a.H a.h L.held
  nums : okI L.window ∧ okI L.base ∧ okI L.next
theorem Has.keep {w w' : World} {a : At} {L : Lnk} (h : Has w a L) (x : Ext w w') : Has w' a L := ⟨h.S.keep x, h.W.keep x, h.K.keep x, h.G.keep x, h.H.keep x, h.nums⟩
def sh : Sh := (.cons (.int .i64) (.cons (.slice .str 16) (.cons (.int .i64) (.cons (.int .i64) (.cons (.slice (.int .i64) 8) (.cons (.slice (.int .i64) 8) (.cons (.slice .str 16) (.cons (.slice (.int .i64) 8) .nil))))))))
end Lnk
/-- A link's five lists, one's own. -/
structure LOwn (w : World) (Z : Nat) (a : Lnk.At) (L : Lnk) : Prop where
  S : repS.SOwn 9 16 w Z (Rep.blkOf a.S) a.S a.s L.sent
  W : repI.SOwn 3 8 w Z (Rep.blkOf a.W) a.W a.w L.way
  K : repI.SOwn 3 8 w Z (Rep.blkOf a.K) a.K a.k L.acks
  G : repS.SOwn 9 16 w Z (Rep.blkOf a.G) a.G a.g L.got
  H : repI.SOwn 3 8 w Z (Rep.blkOf a.H) a.H a.h L.held
  dWS : ∀ q ∈ Rep.blkOf a.W, q ∈ Rep.blkOf a.S → False
  dKS : ∀ q ∈ Rep.blkOf a.K, q ∈ Rep.blkOf a.S → False
  dKW : ∀ q ∈ Rep.blkOf a.K, q ∈ Rep.blkOf a.W → False
  dGS : ∀ q ∈ Rep.blkOf a.G, q ∈ Rep.blkOf a.S → False
  dGW : ∀ q ∈ Rep.blkOf a.G, q ∈ Rep.blkOf a.W → False
  dGK : ∀ q ∈ Rep.blkOf a.G, q ∈ Rep.blkOf a.K → False
  dHS : ∀ q ∈ Rep.blkOf a.H, q ∈ Rep.blkOf a.S → False
  dHW : ∀ q ∈ Rep.blkOf a.H, q ∈ Rep.blkOf a.W → False
  dHK : ∀ q ∈ Rep.blkOf a.H, q ∈ Rep.blkOf a.K → False
  dHG : ∀ q ∈ Rep.blkOf a.H, q ∈ Rep.blkOf a.G → False
  nums : okI L.window ∧ okI L.base ∧ okI L.next
theorem LOwn.has {w : World} {Z : Nat} {a : Lnk.At} {L : Lnk} (h : LOwn w Z a L) : Lnk.Has w a L := ⟨h.S.has, h.W.has, h.K.has, h.G.has, h.H.has, h.nums⟩
/-- What was laid from some size of the heap on. -/
def above (Z : Nat) (w : World) : List Nat := (List.range w.heap.size).filter fun q => decide (Z ≤ q)
end Go.Proofs.Ytfabhinehfhndaa
