import Derived.Test.YtffjpfpbpnhmcaaBas
import Derived.Test.YtffjpfpbpnhmcaaWOwn2
import Derived.Test.YtffjpfpbpnhmcaaGol
import Derived.Test.YtffjpfpbpnhmcaaWld
import Derived.Test.YtffjpfpbpnhmcaaAsp
import Derived.Test.YtffjpfpbpnhmcaaProg
set_option linter.unusedVariables false
set_option linter.unusedSimpArgs false
namespace Go.Proofs.Ytffjpfpbpnhmcaa
open Go.RowKit

set_option maxRecDepth 100000 in
set_option maxHeartbeats 1000000 in
theorem clone_I (A : Option Addr) (c : Nat) (l : List Int) (w : World) (h : repI.SHas 8 w A c l) :
    Calls Try.prog 41 #[.slice A l.length c] w fun e w' => ∃ A' c', e = .returned (.slice A' l.length c') ∧ repI.SOwn 3 8 w' w.heap.size (Rep.blkOf A') A' c' l ∧ (A' = none ↔ A = none) ∧ Below w.heap.size w w' := by
  obtain ⟨i0, hi, hz0, hz1, hz2⟩ := info_parts info_int
  have qnil : ∀ (w : World) (a : Option Addr) (n c n' c' : Nat), (binOp .eql 22 (.slice a n c) (.slice none n' c')).run Try.prog w = .ok (.bool a.isNone) w := fun w a n c n' c' => Lib.run_eql_slice_nil w _ _ a n c n' c' Try.underlying22
  cases A with
  | none =>
    obtain rfl : c = 0 := h.2.2.2.1 rfl
    obtain rfl : l = [] := List.eq_nil_of_length_eq_zero (by have := h.1; omega)
    go_enter Try.func41, Try.ntmps41
    go_wp2_with fail
    go_ret
    exact ⟨none, 0, rfl, Rep.SOwn.nil _, by simp, Below.refl _ _⟩
  | some a =>
    have hb0 : Below w.heap.size w (w.alloc (.cells #[] 3)) := (Below.refl _ w).alloc (Nat.le_refl _) _
    obtain ⟨n, HN⟩ : ∃ n, Hid (l.length = n) := ⟨_, Lib.hid rfl⟩
    obtain ⟨h1, h2, h3, h4, ess, h5, h6⟩ := h.keep hb0
    have H5 := Lib.hid h5
    have hone : ∀ u ∈ ess.flatten, u.oneCell' = true := by
      intro u hu
      obtain ⟨y, hy, hu⟩ := List.mem_flatten.1 hu
      obtain ⟨a, ha⟩ := h5.left y hy
      exact repI.one ha u hu
    have hraw : ∀ (j : Nat) u, ess.flatten[j]? = some u → repI.raw (j % repI.size) u := fun j u hu => flat_raw h5 (by decide) hu
    rw [HN.out] at h1 h3 h6
    have HR := Lib.hid h6
    have HE := Lib.hid (Own.empty (e := 3) (size := repI.size) (G := repI.raw) w (Nat.le_refl w.heap.size))
    clear h h4 h5 h6
    rw [HN.out]
    go_enter Try.func41, Try.ntmps41
    go_wp2_with (at_builtin; refine wpList_append_all _ rfl _ _ 22 rfl w.heap.size 3 i0 (.int .i64 0) repI.size 8 Try.underlying22 hi hz0 hz1 hz2 rfl (by decide) repI.raw zI _ _ _ rfl HE.out (some a) n c ess.flatten rfl HR.out hone hraw ?qc4 ?qc5 ?qc6 ?_)
    case qc4 => unfold maxLen; omega
    case qc5 => omega
    case qc6 => simp
    intro v' w1 hown hgrow hnil hat
    have hb1 := hb0.grown hgrow (by simp) (by intro k hk; simp [Value.ownBlock] at hk; omega)
    obtain ⟨A1, c1, rfl, hle, _, _, _, hnn⟩ := hown.shape
    have hA1 : A1 ≠ none := by
      intro h
      subst h
      exact hnil (hnn rfl)
    have HO : Hid (repI.SOwn 3 8 w1 w.heap.size (Rep.blkOf A1) A1 c1 l) := Lib.hid (Rep.SOwn.of_plain repI_plain H5.out (by rw [HN.out]; exact h3) (by rw [HN.out]; simpa using hown))
    have HA1 := Lib.hid hA1
    clear hgrow hnil hat hown hA1 hnn hone hraw
    go_wp2_with fail
    go_ret
    exact ⟨A1, c1, rfl, HO.out, ⟨fun h => absurd h HA1.out, fun h => by cases h⟩, hb1⟩
set_option maxRecDepth 100000 in
set_option maxHeartbeats 1000000 in
theorem clone_C (A : Option Addr) (c : Nat) (l : List Cel) (w : World) (h : Cel.rep.SHas 16 w A c l) :
    Calls Try.prog 19 #[.slice A l.length c] w fun e w' => ∃ A' c', e = .returned (.slice A' l.length c') ∧ Cel.rep.SOwn 32 16 w' w.heap.size (Rep.blkOf A') A' c' l ∧ (A' = none ↔ A = none) ∧ Below w.heap.size w w' := by
  obtain ⟨i0, hi, hz0, hz1, hz2⟩ := info_parts Cel.info
  have qnil : ∀ (w : World) (a : Option Addr) (n c n' c' : Nat), (binOp .eql 25 (.slice a n c) (.slice none n' c')).run Try.prog w = .ok (.bool a.isNone) w := fun w a n c n' c' => Lib.run_eql_slice_nil w _ _ a n c n' c' Try.underlying25
  cases A with
  | none =>
    obtain rfl : c = 0 := h.2.2.2.1 rfl
    obtain rfl : l = [] := List.eq_nil_of_length_eq_zero (by have := h.1; omega)
    go_enter Try.func19, Try.ntmps19
    go_wp2_with fail
    go_ret
    exact ⟨none, 0, rfl, Rep.SOwn.nil _, by simp, Below.refl _ _⟩
  | some a =>
    have hb0 : Below w.heap.size w (w.alloc (.cells #[] 32)) := (Below.refl _ w).alloc (Nat.le_refl _) _
    obtain ⟨n, HN⟩ : ∃ n, Hid (l.length = n) := ⟨_, Lib.hid rfl⟩
    obtain ⟨h1, h2, h3, h4, ess, h5, h6⟩ := h.keep hb0
    have H5 := Lib.hid h5
    have hone : ∀ u ∈ ess.flatten, u.oneCell' = true := by
      intro u hu
      obtain ⟨y, hy, hu⟩ := List.mem_flatten.1 hu
      obtain ⟨a, ha⟩ := h5.left y hy
      exact Cel.rep.one ha u hu
    have hraw : ∀ (j : Nat) u, ess.flatten[j]? = some u → Cel.rep.raw (j % Cel.rep.size) u := fun j u hu => flat_raw h5 (by decide) hu
    rw [HN.out] at h1 h3 h6
    have HR := Lib.hid h6
    have HE := Lib.hid (Own.empty (e := 32) (size := Cel.rep.size) (G := Cel.rep.raw) w (Nat.le_refl w.heap.size))
    clear h h4 h5 h6
    rw [HN.out]
    go_enter Try.func19, Try.ntmps19
    go_wp2_with (at_builtin; refine wpList_append_all _ rfl _ _ 25 rfl w.heap.size 32 i0 Cel.zero Cel.rep.size 16 Try.underlying25 hi hz0 hz1 hz2 rfl (by decide) Cel.rep.raw Cel.zero_raw _ _ _ rfl HE.out (some a) n c ess.flatten rfl HR.out hone hraw ?qc4 ?qc5 ?qc6 ?_)
    case qc4 => unfold maxLen; omega
    case qc5 => omega
    case qc6 => simp
    intro v' w1 hown hgrow hnil hat
    have hb1 := hb0.grown hgrow (by simp) (by intro k hk; simp [Value.ownBlock] at hk; omega)
    obtain ⟨A1, c1, rfl, hle, _, _, _, hnn⟩ := hown.shape
    have hA1 : A1 ≠ none := by
      intro h
      subst h
      exact hnil (hnn rfl)
    have HO : Hid (Cel.rep.SOwn 32 16 w1 w.heap.size (Rep.blkOf A1) A1 c1 l) := Lib.hid (Rep.SOwn.of_plain Cel.plain H5.out (by rw [HN.out]; exact h3) (by rw [HN.out]; simpa using hown))
    have HA1 := Lib.hid hA1
    clear hgrow hnil hat hown hA1 hnn hone hraw
    go_wp2_with fail
    go_ret
    exact ⟨A1, c1, rfl, HO.out, ⟨fun h => absurd h HA1.out, fun h => by cases h⟩, hb1⟩
set_option maxRecDepth 100000 in
set_option maxHeartbeats 1000000 in
theorem clone_T (A : Option Addr) (c : Nat) (l : List Trp) (w : World) (h : Trp.rep.SHas 56 w A c l) :
    Calls Try.prog 40 #[.slice A l.length c] w fun e w' => ∃ A' c', e = .returned (.slice A' l.length c') ∧ Trp.rep.SOwn 65 56 w' w.heap.size (Rep.blkOf A') A' c' l ∧ (A' = none ↔ A = none) ∧ Below w.heap.size w w' := by
  obtain ⟨i0, hi, hz0, hz1, hz2⟩ := info_parts Trp.info
  have qnil : ∀ (w : World) (a : Option Addr) (n c n' c' : Nat), (binOp .eql 47 (.slice a n c) (.slice none n' c')).run Try.prog w = .ok (.bool a.isNone) w := fun w a n c n' c' => Lib.run_eql_slice_nil w _ _ a n c n' c' Try.underlying47
  cases A with
  | none =>
    obtain rfl : c = 0 := h.2.2.2.1 rfl
    obtain rfl : l = [] := List.eq_nil_of_length_eq_zero (by have := h.1; omega)
    go_enter Try.func40, Try.ntmps40
    go_wp2_with fail
    go_ret
    exact ⟨none, 0, rfl, Rep.SOwn.nil _, by simp, Below.refl _ _⟩
  | some a =>
    have hb0 : Below w.heap.size w (w.alloc (.cells #[] 65)) := (Below.refl _ w).alloc (Nat.le_refl _) _
    obtain ⟨n, HN⟩ : ∃ n, Hid (l.length = n) := ⟨_, Lib.hid rfl⟩
    obtain ⟨h1, h2, h3, h4, ess, h5, h6⟩ := h.keep hb0
    have H5 := Lib.hid h5
    have hone : ∀ u ∈ ess.flatten, u.oneCell' = true := by
      intro u hu
      obtain ⟨y, hy, hu⟩ := List.mem_flatten.1 hu
      obtain ⟨a, ha⟩ := h5.left y hy
      exact Trp.rep.one ha u hu
    have hraw : ∀ (j : Nat) u, ess.flatten[j]? = some u → Trp.rep.raw (j % Trp.rep.size) u := fun j u hu => flat_raw h5 (by decide) hu
    rw [HN.out] at h1 h3 h6
    have HR := Lib.hid h6
    have HE := Lib.hid (Own.empty (e := 65) (size := Trp.rep.size) (G := Trp.rep.raw) w (Nat.le_refl w.heap.size))
    clear h h4 h5 h6
    rw [HN.out]
    go_enter Try.func40, Try.ntmps40
    go_wp2_with (at_builtin; refine wpList_append_all _ rfl _ _ 47 rfl w.heap.size 65 i0 Trp.zero Trp.rep.size 56 Try.underlying47 hi hz0 hz1 hz2 rfl (by decide) Trp.rep.raw Trp.zero_raw _ _ _ rfl HE.out (some a) n c ess.flatten rfl HR.out hone hraw ?qc4 ?qc5 ?qc6 ?_)
    case qc4 => unfold maxLen; omega
    case qc5 => omega
    case qc6 => simp
    intro v' w1 hown hgrow hnil hat
    have hb1 := hb0.grown hgrow (by simp) (by intro k hk; simp [Value.ownBlock] at hk; omega)
    obtain ⟨A1, c1, rfl, hle, _, _, _, hnn⟩ := hown.shape
    have hA1 : A1 ≠ none := by
      intro h
      subst h
      exact hnil (hnn rfl)
    have HO : Hid (Trp.rep.SOwn 65 56 w1 w.heap.size (Rep.blkOf A1) A1 c1 l) := Lib.hid (Rep.SOwn.of_plain Trp.plain H5.out (by rw [HN.out]; exact h3) (by rw [HN.out]; simpa using hown))
    have HA1 := Lib.hid hA1
    clear hgrow hnil hat hown hA1 hnn hone hraw
    go_wp2_with fail
    go_ret
    exact ⟨A1, c1, rfl, HO.out, ⟨fun h => absurd h HA1.out, fun h => by cases h⟩, hb1⟩
end Go.Proofs.Ytffjpfpbpnhmcaa
set_option linter.unusedVariables false
set_option linter.unusedSimpArgs false
namespace Go.Proofs.Ytffjpfpbpnhmcaa
open Go.RowKit

/-- Neither rock nor wood. -/
def Fld.clear (f : Fld) (c : Cel) : Bool := !(f.atV c == 1 || f.atV c == 2)
def bareC (f : Fld) (a b : Cel) : Bool := decide ((lineC a b).length < 3) || (((lineC a b).drop 1).take ((lineC a b).length - 1 - 1)).all f.clear
def seesE (f : Fld) (a b : Cel) : Int := if f.atE a ≠ 0 then f.atE a else f.atE b
def seesV (f : Fld) (a b : Cel) : Bool := if seesE f a b ≠ 0 then false else bareC f a b || bareC f b a
def seesR (f : Fld) (a b : Cel) : Value := .tuple #[.bool (seesV f a b), .int .i64 (seesE f a b)]
end Go.Proofs.Ytffjpfpbpnhmcaa
set_option linter.unusedVariables false
set_option linter.unusedSimpArgs false
namespace Go.Proofs.Ytffjpfpbpnhmcaa
open Go.RowKit

structure Blw where
  who : Int
  whom : Int
  deriving DecidableEq, Inhabited
namespace Blw
def cells (a : Blw) : List Value := [.int .i64 (a.who), .int .i64 (a.whom)]
/-- Each number is one of its kind. -/
def ok (a : Blw) : Prop := (Lit.int .i64 a.who).wf = true ∧ (Lit.int .i64 a.whom).wf = true
def raw (j : Nat) (u : Value) : Prop := match j with
  | 0 => ∃ n : Int, u = .int .i64 n
  | 1 => ∃ n : Int, u = .int .i64 n
  | _ => True
theorem cells_raw (a : Blw) : ∀ (j : Nat) u, a.cells[j]? = some u → raw j u := by
  intro j u hu
  match j, hu with
  | 0, hu => exact ⟨_, (Option.some.inj hu).symm⟩
  | 1, hu => exact ⟨_, (Option.some.inj hu).symm⟩
  | j + 2, hu => exact trivial
theorem cells_one (a : Blw) : ∀ u ∈ a.cells, u.oneCell' = true := by
  intro u hu
  unfold cells at hu
  simp only [List.mem_cons, List.not_mem_nil, or_false] at hu
  rcases hu with rfl | rfl <;> rfl
def rep : Rep Blw := Rep.flat 2 cells ok raw (fun _ => rfl) cells_one cells_raw
theorem plain : rep.Plain := Rep.flat_plain
def zero : Value := .agg #[.int .i64 0, .int .i64 0]
theorem zero_raw : ∀ (j : Nat) u, zero.cells[j]? = some u → rep.raw j u := by
  intro j u hu
  have hu : (#[(.int .i64 0 : Value), (.int .i64 0 : Value)] : Array Value)[j]? = some u := hu
  match j, hu with
  | 0, hu => exact ⟨_, (Option.some.inj hu).symm⟩
  | 1, hu => exact ⟨_, (Option.some.inj hu).symm⟩
  | j + 2, hu => cases hu
/-- The cells of a slice of such. -/
theorem at_ {by_ : Nat} {w : World} {A : Option Addr} {c : Nat} {l : List Blw} (h : rep.SHas by_ w A c l) (h0 : 0 < l.length) :
    ∃ b o, A = some ⟨b, o, none⟩ ∧ ∀ (i : Nat) (a : Blw), l[i]? = some a → w.cell? ⟨b, o + i * 2, none⟩ = some (.int .i64 (a.who)) ∧ w.cell? ⟨b, o + i * 2 + 1, none⟩ = some (.int .i64 (a.whom)) := by
  obtain ⟨b, o, e, hc⟩ := h.at_ h0
  refine ⟨b, o, e, fun i a ha => ?_⟩
  obtain ⟨es, ⟨rfl, _⟩, hj⟩ := hc i a ha
  exact ⟨hj 0 _ rfl, hj 1 _ rfl⟩
theorem all_ok {by_ : Nat} {w : World} {A : Option Addr} {c : Nat} {l : List Blw} (h : rep.SHas by_ w A c l) : ∀ a ∈ l, a.ok := Rep.SHas.all_ (R := rep) (Q := ok) (fun {w cs a} (h : rep.has w cs a) => (show cs = a.cells ∧ a.ok from h).2) h
theorem blk {w : World} {g : Nat} {t : TypeId} {fr : Nat × Nat} {a : Blw} (h : Blk w g a.cells t fr) : w.cell? ⟨g, 0, none⟩ = some (.int .i64 (a.who)) ∧ w.cell? ⟨g, 1, none⟩ = some (.int .i64 (a.whom)) :=
  ⟨h.cell 0, h.cell 1⟩
def sh : Sh := (.cons (.int .i64) (.cons (.int .i64) .nil))
theorem opens (w : World) (cs : List Value) (h : sh.Ok w cs) : ∃ a, rep.has w cs a := by
  obtain ⟨_, _, rfl, _, _, ⟨x0, rfl, k0⟩, ⟨_, _, rfl, _, _, ⟨x1, rfl, k1⟩, rfl⟩⟩ := h
  exact ⟨⟨x0, x1⟩, rfl, k0, k1⟩
end Blw
end Go.Proofs.Ytffjpfpbpnhmcaa
set_option linter.unusedVariables false
set_option linter.unusedSimpArgs false
namespace Go.Proofs.Ytffjpfpbpnhmcaa
open Go.RowKit

set_option maxRecDepth 100000 in
set_option maxHeartbeats 4000000 in
theorem players_any (a : Wd.At) (W : Wd) (w : World) (hW : Wd.Has w a W) (h0 : W.field.chk = 0) (h8 : W.bases.length ≤ 8) :
    Calls Try.prog 66 #[.agg (Wd.cells a W).toArray] w fun e w' => e = .returned (.bool W.players) ∧ Below w.heap.size w w' := by
  obtain ⟨aP, aB, aS, aM, aT, kP, kB, kS, kM, kT⟩ := a
  show Calls _ _ #[.agg #[.int .i64 W.field.wide, .int .i64 W.field.high, .slice aP W.field.places.length kP, .slice aB W.bases.length kB, .slice aS W.stocks.length kS, .slice aM W.mines.length kM, .slice aT W.troops.length kT, .int .i64 W.next, .int .i64 W.now]] _ _
  obtain ⟨nb, HNB⟩ : ∃ n, Hid (W.bases.length = n) := ⟨_, Lib.hid rfl⟩
  obtain ⟨ns, HNS⟩ : ∃ n, Hid (W.stocks.length = n) := ⟨_, Lib.hid rfl⟩
  have h8 : nb ≤ 8 := by rw [← HNB.out]; exact h8
  have hb0 := below_alloc0 w (.cells (Wd.cells ⟨aP, aB, aS, aM, aT, kP, kB, kS, kM, kT⟩ W).toArray 49)
  have HA := Lib.hid (Blk.new w (Wd.cells ⟨aP, aB, aS, aM, aT, kP, kB, kS, kM, kT⟩ W) 49 (0, 0))
  have HH := Lib.hid (hW.keep hb0)
  have H0 := Lib.hid h0
  obtain ⟨w0, HW0⟩ : ∃ w0, Hid (w.alloc (.cells (Wd.cells ⟨aP, aB, aS, aM, aT, kP, kB, kS, kM, kT⟩ W).toArray 49) = w0) := ⟨_, Lib.hid rfl⟩
  rw [HW0.out] at hb0 HH
  have HA : Hid (Blk w0 w.heap.size (Wd.cells ⟨aP, aB, aS, aM, aT, kP, kB, kS, kM, kT⟩ W) 49 (0, 0)) := by rw [← HW0.out]; exact HA
  have HW1 : Hid (w.alloc (.cells #[.int .i64 W.field.wide, .int .i64 W.field.high, .slice aP W.field.places.length kP, .slice aB nb kB, .slice aS ns kS, .slice aM W.mines.length kM, .slice aT W.troops.length kT, .int .i64 W.next, .int .i64 W.now] 49) = w0) := by rw [← HW0.out, ← HNB.out, ← HNS.out]; rfl
  obtain ⟨c0, c1, c2, c3, c4, c5, c6, c7, c8⟩ := Wd.wblk HA.out
  rw [HNB.out] at c3
  rw [HNS.out] at c4
  clear hW h0
  by_cases hlen : ns = nb
  · subst hlen
    have HOK : Hid (∀ j, j < 0 → W.okBase j = true) := Lib.hid fun j hj => absurd hj (by omega)
    go_enter Try.func66, Try.ntmps66
    rw [HNB.out, HNS.out]
    go_wp2_with fail
    rw [HW1.out]
    go_loopw [3, 4, 15] (fun _ _ iv wr => ∃ k : Nat, k ≤ ns ∧ iv = .int .i64 (k : Int) ∧ Hid (∀ j, j < k → W.okBase j = true) ∧ Below w0.heap.size w0 wr) (fun _ _ iv _ => ns - (intOf iv).toNat)
    case atStart => exact ⟨0, Nat.zero_le _, rfl, HOK, Below.refl _ _⟩
    case round =>
      clear HOK c0 c1 c2 c3 c4 c5 c6 c7 c8
      obtain ⟨k, hk, rfl, HK, hb⟩ := hrel
      by_cases hlt : k < ns
      · obtain ⟨p, hp⟩ := get_of (l := W.bases) (i := k) (by rw [HNB.out]; exact hlt)
        obtain ⟨st, hs⟩ := get_of (l := W.stocks) (i := k) (by rw [HNS.out]; exact hlt)
        have hHr := HH.out.keep hb
        have hAr := HA.out.later hb
        have hHB : Cel.rep.SHas 16 wr aB kB W.bases := hHr.B
        have hHP : repI.SHas 8 wr aP kP W.field.places := hHr.P
        have hHS : repI.SHas 8 wr aS kS W.stocks := hHr.S
        have hcap : (ns : Int) ≤ (kB : Int) := by have := hHB.1; rw [HNB.out] at this; omega
        obtain ⟨b, o, rfl, hcell⟩ := Cel.at_ hHB (by rw [HNB.out]; omega)
        obtain ⟨p0, p1⟩ := hcell k p hp
        obtain ⟨bs, os, rfl, hcells⟩ := repI_at hHS (by rw [HNS.out]; omega)
        have s0 := hcells k st hs
        obtain ⟨c0, c1, c2, c3, c4, c5, c6, c7, c8⟩ := Wd.wblk hAr
        rw [HNB.out] at c3
        rw [HNS.out] at c4
        have hok : W.okBase k = (W.field.ground p && !(W.bases.take k).contains p && inB st 0 1000000) := by
          unfold Wd.okBase
          rw [List.getD_eq_getElem?_getD, hp, List.getD_eq_getElem?_getD, hs]; rfl
        have hb1 := below_alloc0 wr (.cells #[.int .i64 p.x, .int .i64 p.y] 32)
        have hBC := Blk.new wr p.cells 32 (0, 0)
        obtain ⟨w1, HWA⟩ : ∃ w1, Hid (wr.alloc (.cells #[.int .i64 p.x, .int .i64 p.y] 32) = w1) := ⟨_, Lib.hid rfl⟩
        rw [HWA.out] at hb1
        have hBC : Blk w1 wr.heap.size p.cells 32 (0, 0) := by rw [← HWA.out]; exact hBC
        obtain ⟨r0, r1⟩ := Cel.blk hBC
        have HG := Lib.hid (fun (V : World) (h : Below w1.heap.size w1 V) => ground_any W.field p aP kP V ((hHP.keep hb1).keep h) H0.out)
        have HC := Lib.hid (fun (V : World) (h : Below w1.heap.size w1 V) => has_cell p (some ⟨b, o, none⟩) kB (W.bases.take k) V (((hHB.take_ k).keep hb1).keep h))
        have hkl : (W.bases.take k).length = k := by rw [List.length_take, HNB.out]; omega
        rw [hkl] at HC
        have HI := Lib.hid (fun (V : World) => within_any st 0 1000000 V)
        have HOKE := Lib.hid hok
        have hbr := Below.refl w1.heap.size w1
        have hbB := hb.trans (hb1.mono hb.size)
        have hki : (k : Int) < (ns : Int) := by omega
        have hk0 : (0 : Int) ≤ (k : Int) := by omega
        have hkc : (k : Int) ≤ (kB : Int) := by omega
        have hkn : k ≤ kB := by omega
        clear hHr hAr hcell hcells hp hs hok hkl hHB hHP hHS
        go_wp2_with fail
        rw [HWA.out]
        have c0 := cell_later hb1 c0; have c1 := cell_later hb1 c1; have c2 := cell_later hb1 c2; have c3 := cell_later hb1 c3; have c4 := cell_later hb1 c4; have s0 := cell_later hb1 s0
        have HS := Lib.hid (fun (wx : World) (h : Below w1.heap.size w1 wx) => (⟨trivial, cell_later h c0, cell_later h c1, cell_later h c2, cell_later h c3, cell_later h c4, cell_later h r0, cell_later h r1, cell_later h s0⟩ : True ∧ wx.cell? ⟨w.heap.size, 0, none⟩ = some (.int .i64 W.field.wide) ∧ wx.cell? ⟨w.heap.size, 1, none⟩ = some (.int .i64 W.field.high) ∧ wx.cell? ⟨w.heap.size, 2, none⟩ = some (.slice aP W.field.places.length kP) ∧ wx.cell? ⟨w.heap.size, 3, none⟩ = some (.slice (some ⟨b, o, none⟩) ns kB) ∧ wx.cell? ⟨w.heap.size, 4, none⟩ = some (.slice (some ⟨bs, os, none⟩) ns kS) ∧ wx.cell? ⟨wr.heap.size, 0, none⟩ = some (.int .i64 p.x) ∧ wx.cell? ⟨wr.heap.size, 1, none⟩ = some (.int .i64 p.y) ∧ wx.cell? ⟨bs, os + k, none⟩ = some (.int .i64 st)))
        clear p0 p1 c5 c6 c7 c8 hBC
        cases h1 : W.field.ground p with
        | false =>
          rw [h1] at HG
          have HF : Hid (W.players = false) := Wd.players_bad (k := k) (by rw [HNB.out]; exact hlt) (by rw [HOKE.out, h1]; rfl)
          clear h1
          refine wp_region_below (by kernel_rfl) (by kernel_rfl) ?_
          repeat (first
            | go_big_quiet_skip
            | (go_big_quiet_want
               first
               | (go_big_quiet_op; go_big_quiet_on)
               | (apply Exists.intro
                  refine ⟨fun wq hq => ?_, ?_⟩
                  · first
                    | (obtain ⟨_, qq0, qq1, qq2, qq3, qq4, qq5, qq6, qq7⟩ := HS.out wq hq
                       apply quiet_val2
                       · (go_simp; rfl)
                       · rfl)
                    | (apply quiet_call2
                       · (go_simp; rfl)
                       · rfl
                       · first
                         | (with_reducible refine (HG.out _ hq).mono ?_; rintro e w2 ⟨rfl, hb2⟩; exact ⟨rfl, below_on hq hb2⟩)
                         | (with_reducible refine (HC.out _ hq).mono ?_; rintro e w2 ⟨rfl, hb2⟩; exact ⟨rfl, below_on hq hb2⟩)
                         | (with_reducible refine (HI.out _).mono ?_; rintro e w2 ⟨rfl, rfl⟩; exact ⟨rfl, hq⟩)
                       )
                  go_big_quiet_on
                  simp only [Act.put, List.setIfInBounds_toArray, List.set_cons_zero, List.set_cons_succ])))
          refine wpQuiet_nil ?_
          intro wz hz
          go_wp2_with fail
          go_ret
          exact ⟨ret_bool HF.out.symm, hb0.trans ((hbB.trans (Below.mono hz hbB.size)).mono hb0.size)⟩
        | true =>
          rw [h1] at HG
          cases h2 : (W.bases.take k).contains p with
          | true =>
            rw [h2] at HC
            have HF : Hid (W.players = false) := Wd.players_bad (k := k) (by rw [HNB.out]; exact hlt) (by rw [HOKE.out, h1, h2]; rfl)
            clear h1 h2
            refine wp_region_below (by kernel_rfl) (by kernel_rfl) ?_
            repeat (first
              | go_big_quiet_skip
              | (go_big_quiet_want
                 first
                 | (go_big_quiet_op; go_big_quiet_on)
                 | (apply Exists.intro
                    refine ⟨fun wq hq => ?_, ?_⟩
                    · first
                      | (obtain ⟨_, qq0, qq1, qq2, qq3, qq4, qq5, qq6, qq7⟩ := HS.out wq hq
                         apply quiet_val2
                         · (go_simp; rfl)
                         · rfl)
                      | (apply quiet_call2
                         · (go_simp; rfl)
                         · rfl
                         · first
                           | (with_reducible refine (HG.out _ hq).mono ?_; rintro e w2 ⟨rfl, hb2⟩; exact ⟨rfl, below_on hq hb2⟩)
                           | (with_reducible refine (HC.out _ hq).mono ?_; rintro e w2 ⟨rfl, hb2⟩; exact ⟨rfl, below_on hq hb2⟩)
                           | (with_reducible refine (HI.out _).mono ?_; rintro e w2 ⟨rfl, rfl⟩; exact ⟨rfl, hq⟩)
                         )
                    go_big_quiet_on
                    simp only [Act.put, List.setIfInBounds_toArray, List.set_cons_zero, List.set_cons_succ])))
            refine wpQuiet_nil ?_
            intro wz hz
            go_wp2_with fail
            go_ret
            exact ⟨ret_bool HF.out.symm, hb0.trans ((hbB.trans (Below.mono hz hbB.size)).mono hb0.size)⟩
          | false =>
            rw [h2] at HC
            cases h3 : inB st 0 1000000 with
            | false =>
              rw [h3] at HI
              have HF : Hid (W.players = false) := Wd.players_bad (k := k) (by rw [HNB.out]; exact hlt) (by rw [HOKE.out, h3, Bool.and_false])
              clear h1 h2 h3
              refine wp_region_below (by kernel_rfl) (by kernel_rfl) ?_
              repeat (first
                | go_big_quiet_skip
                | (go_big_quiet_want
                   first
                   | (go_big_quiet_op; go_big_quiet_on)
                   | (apply Exists.intro
                      refine ⟨fun wq hq => ?_, ?_⟩
                      · first
                        | (obtain ⟨_, qq0, qq1, qq2, qq3, qq4, qq5, qq6, qq7⟩ := HS.out wq hq
                           apply quiet_val2
                           · (go_simp; rfl)
                           · rfl)
                        | (apply quiet_call2
                           · (go_simp; rfl)
                           · rfl
                           · first
                             | (with_reducible refine (HG.out _ hq).mono ?_; rintro e w2 ⟨rfl, hb2⟩; exact ⟨rfl, below_on hq hb2⟩)
                             | (with_reducible refine (HC.out _ hq).mono ?_; rintro e w2 ⟨rfl, hb2⟩; exact ⟨rfl, below_on hq hb2⟩)
                             | (with_reducible refine (HI.out _).mono ?_; rintro e w2 ⟨rfl, rfl⟩; exact ⟨rfl, hq⟩)
                           )
                      go_big_quiet_on
                      simp only [Act.put, List.setIfInBounds_toArray, List.set_cons_zero, List.set_cons_succ])))
              refine wpQuiet_nil ?_
              intro wz hz
              go_wp2_with fail
              go_ret
              exact ⟨ret_bool HF.out.symm, hb0.trans ((hbB.trans (Below.mono hz hbB.size)).mono hb0.size)⟩
            | true =>
              rw [h3] at HI
              have HK2 : Hid (∀ j, j < k + 1 → W.okBase j = true) := by
                intro j hj
                by_cases hjk : j < k
                · exact HK.out j hjk
                · obtain rfl : j = k := by omega
                  rw [HOKE.out, h1, h2, h3]; rfl
              clear h1 h2 h3
              refine wp_region_below (by kernel_rfl) (by kernel_rfl) ?_
              repeat (first
                | go_big_quiet_skip
                | (go_big_quiet_want
                   first
                   | (go_big_quiet_op; go_big_quiet_on)
                   | (apply Exists.intro
                      refine ⟨fun wq hq => ?_, ?_⟩
                      · first
                        | (obtain ⟨_, qq0, qq1, qq2, qq3, qq4, qq5, qq6, qq7⟩ := HS.out wq hq
                           apply quiet_val2
                           · (go_simp; rfl)
                           · rfl)
                        | (apply quiet_call2
                           · (go_simp; rfl)
                           · rfl
                           · first
                             | (with_reducible refine (HG.out _ hq).mono ?_; rintro e w2 ⟨rfl, hb2⟩; exact ⟨rfl, below_on hq hb2⟩)
                             | (with_reducible refine (HC.out _ hq).mono ?_; rintro e w2 ⟨rfl, hb2⟩; exact ⟨rfl, below_on hq hb2⟩)
                             | (with_reducible refine (HI.out _).mono ?_; rintro e w2 ⟨rfl, rfl⟩; exact ⟨rfl, hq⟩)
                           )
                      go_big_quiet_on
                      simp only [Act.put, List.setIfInBounds_toArray, List.set_cons_zero, List.set_cons_succ])))
              refine wpQuiet_nil ?_
              intro wz hz
              go_wp2_with fail
              go_roundw
              case rel => exact ⟨k + 1, by omega, by go_num, HK2, hbB.trans (Below.mono hz hbB.size)⟩
              case measure => simp [intOf]; omega
      · have HT : Hid (W.players = true) := Wd.players_ok (by rw [HNS.out, HNB.out]) fun j hj => HK.out j (by rw [HNB.out] at hj; omega)
        clear HK
        go_wp2_with fail
        go_ret
        exact ⟨ret_bool HT.out.symm, hb0.trans (hb.mono hb0.size)⟩
  · have HT : Hid (W.players = false) := Wd.players_no (by rw [HNS.out, HNB.out]; exact hlen)
    have hd : ((ns : Int) != (nb : Int)) = true := by simp; omega
    rw [HT.out]
    go_enter Try.func66, Try.ntmps66
    rw [HNB.out, HNS.out]
    go_wp2_with fail
    go_ret
    rw [HW1.out]
    exact ⟨rfl, hb0⟩
end Go.Proofs.Ytffjpfpbpnhmcaa
set_option linter.unusedVariables false
set_option linter.unusedSimpArgs false
namespace Go.Proofs.Ytffjpfpbpnhmcaa
open Go.RowKit

set_option maxRecDepth 100000 in
set_option maxHeartbeats 4000000 in
theorem mines_any (a : Wd.At) (W : Wd) (w : World) (hW : Wd.Has w a W) :
    Calls Try.prog 67 #[.agg (Wd.cells a W).toArray] w fun e w' => e = .returned (.bool W.minesOk) ∧ Below w.heap.size w w' := by
  obtain ⟨aP, aB, aS, aM, aT, kP, kB, kS, kM, kT⟩ := a
  show Calls _ _ #[.agg #[.int .i64 W.field.wide, .int .i64 W.field.high, .slice aP W.field.places.length kP, .slice aB W.bases.length kB, .slice aS W.stocks.length kS, .slice aM W.mines.length kM, .slice aT W.troops.length kT, .int .i64 W.next, .int .i64 W.now]] _ _
  have hb0 := below_alloc0 w (.cells (Wd.cells ⟨aP, aB, aS, aM, aT, kP, kB, kS, kM, kT⟩ W).toArray 49)
  have HA := Lib.hid (Blk.new w (Wd.cells ⟨aP, aB, aS, aM, aT, kP, kB, kS, kM, kT⟩ W) 49 (0, 0))
  have HH := Lib.hid (hW.keep hb0)
  obtain ⟨w0, HW0⟩ : ∃ w0, Hid (w.alloc (.cells (Wd.cells ⟨aP, aB, aS, aM, aT, kP, kB, kS, kM, kT⟩ W).toArray 49) = w0) := ⟨_, Lib.hid rfl⟩
  rw [HW0.out] at hb0 HH
  have HA : Hid (Blk w0 w.heap.size (Wd.cells ⟨aP, aB, aS, aM, aT, kP, kB, kS, kM, kT⟩ W) 49 (0, 0)) := by rw [← HW0.out]; exact HA
  obtain ⟨nm, HNM⟩ : ∃ n, Hid (W.mines.length = n) := ⟨_, Lib.hid rfl⟩
  obtain ⟨np, HNP⟩ : ∃ n, Hid (W.field.places.length = n) := ⟨_, Lib.hid rfl⟩
  have hle : nm ≤ 9223372036854775807 := by have := hW.M.len_le; rw [HNM.out] at this; exact this
  have HW1 : Hid (w.alloc (.cells #[.int .i64 W.field.wide, .int .i64 W.field.high, .slice aP np kP, .slice aB W.bases.length kB, .slice aS W.stocks.length kS, .slice aM nm kM, .slice aT W.troops.length kT, .int .i64 W.next, .int .i64 W.now] 49) = w0) := by rw [← HW0.out, ← HNM.out, ← HNP.out]; rfl
  obtain ⟨c0, c1, c2, c3, c4, c5, c6, c7, c8⟩ := Wd.wblk HA.out
  rw [HNP.out] at c2
  rw [HNM.out] at c5
  clear hW
  by_cases hlen : nm = np
  · subst hlen
    have HOK : Hid (∀ j, j < 0 → W.okMine j = true) := Lib.hid fun j hj => absurd hj (by omega)
    go_enter Try.func67, Try.ntmps67
    rw [HNP.out, HNM.out]
    go_wp2_with fail
    rw [HW1.out]
    go_loopw [3, 4, 16] (fun _ _ iv wr => ∃ k : Nat, k ≤ nm ∧ iv = .int .i64 (k : Int) ∧ Hid (∀ j, j < k → W.okMine j = true) ∧ Hid (wr = w0)) (fun _ _ iv _ => nm - (intOf iv).toNat)
    case atStart => exact ⟨0, Nat.zero_le _, rfl, HOK, rfl⟩
    case round =>
      clear HOK c0 c1 c2 c3 c4 c5 c6 c7 c8
      obtain ⟨k, hk, rfl, HK, HWR⟩ := hrel
      obtain ⟨c0, c1, c2, c3, c4, c5, c6, c7, c8⟩ := Wd.wblk (show Blk wr w.heap.size (Wd.cells ⟨aP, aB, aS, aM, aT, kP, kB, kS, kM, kT⟩ W) 49 (0, 0) by rw [HWR.out]; exact HA.out)
      rw [HNP.out] at c2
      rw [HNM.out] at c5
      have hbw : Below w.heap.size w wr := by rw [HWR.out]; exact hb0
      by_cases hlt : k < nm
      · obtain ⟨p, hp⟩ := get_of (l := W.field.places) (i := k) (by rw [HNP.out]; exact hlt)
        obtain ⟨m, hm⟩ := get_of (l := W.mines) (i := k) (by rw [HNM.out]; exact hlt)
        have hHP : repI.SHas 8 wr aP kP W.field.places := by rw [HWR.out]; exact HH.out.P
        have hHM : repI.SHas 8 wr aM kM W.mines := by rw [HWR.out]; exact HH.out.M
        obtain ⟨b, o, rfl, hcell⟩ := repI_at hHP (by rw [HNP.out]; omega)
        have p0 := hcell k p hp
        obtain ⟨bm, om, rfl, hcellm⟩ := repI_at hHM (by rw [HNM.out]; omega)
        have m0 := hcellm k m hm
        have hok : W.okMine k = (inB m 0 1000000 && (decide (m ≤ 0) || p == 3)) := by
          unfold Wd.okMine
          rw [List.getD_eq_getElem?_getD, hm, List.getD_eq_getElem?_getD, hp]; rfl
        have HI := Lib.hid (fun (V : World) => within_any m 0 1000000 V)
        have HOKE := Lib.hid hok
        have hki : (k : Int) < (nm : Int) := by omega
        have hk0 : (0 : Int) ≤ (k : Int) := by omega
        clear hHP hHM hcell hcellm hp hm hok
        cases h1 : inB m 0 1000000 with
        | false =>
          rw [h1] at HI
          have HF : Hid (W.minesOk = false) := Wd.mines_bad (k := k) (by rw [HNM.out]; exact hlt) (by rw [HOKE.out, h1]; rfl)
          clear h1
          go_wp2_with fail
          refine (HI.out _).mono ?_; rintro e w' ⟨rfl, rfl⟩
          go_wp2_with fail
          go_ret
          exact ⟨ret_bool HF.out.symm, hbw⟩
        | true =>
          rw [h1] at HI
          by_cases h2 : m ≤ 0
          · have hd : decide (0 < m) = false := by simp; omega
            have HK2 : Hid (∀ j, j < k + 1 → W.okMine j = true) := by
              intro j hj
              by_cases hjk : j < k
              · exact HK.out j hjk
              · obtain rfl : j = k := by omega
                rw [HOKE.out, h1, decide_eq_true h2]; rfl
            clear h1
            go_wp2_with fail
            refine (HI.out _).mono ?_; rintro e w' ⟨rfl, rfl⟩
            go_wp2_with fail
            go_roundw
            case rel => exact ⟨k + 1, by omega, by go_num, HK2, HWR⟩
            case measure => simp [intOf]; omega
          · have hd : decide (0 < m) = true := by simp; omega
            by_cases h3 : p = 3
            · subst h3
              have HK2 : Hid (∀ j, j < k + 1 → W.okMine j = true) := by
                intro j hj
                by_cases hjk : j < k
                · exact HK.out j hjk
                · obtain rfl : j = k := by omega
                  rw [HOKE.out, h1]; simp
              clear h1 h2
              go_wp2_with fail
              refine (HI.out _).mono ?_; rintro e w' ⟨rfl, rfl⟩
              go_wp2_with fail
              go_roundw
              case rel => exact ⟨k + 1, by omega, by go_num, HK2, HWR⟩
              case measure => simp [intOf]; omega
            · have HF : Hid (W.minesOk = false) := Wd.mines_bad (k := k) (by rw [HNM.out]; exact hlt) (by rw [HOKE.out, decide_eq_false h2, beq_false_of_ne h3]; simp)
              have hd2 : (p == 3) = false := by simpa using h3
              clear h1 h2 h3
              go_wp2_with fail
              refine (HI.out _).mono ?_; rintro e w' ⟨rfl, rfl⟩
              go_wp2_with fail
              go_ret
              exact ⟨ret_bool HF.out.symm, hbw⟩
      · have HT : Hid (W.minesOk = true) := Wd.mines_ok (by rw [HNM.out, HNP.out]) fun j hj => HK.out j (by rw [HNM.out] at hj; omega)
        clear HK
        go_wp2_with fail
        go_ret
        exact ⟨ret_bool HT.out.symm, hbw⟩
  · have HT : Hid (W.minesOk = false) := Wd.mines_no (by rw [HNM.out, HNP.out]; exact hlen)
    have hd : ((nm : Int) != (np : Int)) = true := by simp; omega
    rw [HT.out]
    go_enter Try.func67, Try.ntmps67
    rw [HNP.out, HNM.out]
    go_wp2_with fail
    go_ret
    rw [HW1.out]
    exact ⟨rfl, hb0⟩
end Go.Proofs.Ytffjpfpbpnhmcaa
