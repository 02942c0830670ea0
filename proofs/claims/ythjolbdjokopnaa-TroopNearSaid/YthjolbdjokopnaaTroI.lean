/-
  troop.which, Find, On. (Printed by bin/troI.py.)
-/
import Derived.Test.YthjolbdjokopnaaTroH
set_option linter.unusedVariables false
namespace Go.Proofs.Ythjolbdjokopnaa
open Go.RowKit

def whichI (W : Wd) (p : Trp → Bool) : Int := if W.chk = 0 then max (idxI p W.troops) 0 else 0
def whichB (W : Wd) (p : Trp → Bool) : Bool := decide (W.chk = 0) && decide (0 ≤ idxI p W.troops)
theorem which_ok {W : Wd} (h : W.chk = 0) (p : Trp → Bool) : whichI W p = max (idxI p W.troops) 0 ∧ whichB W p = decide (0 ≤ idxI p W.troops) := by
  unfold whichI whichB
  rw [if_pos h, decide_eq_true h]
  exact ⟨rfl, rfl⟩
theorem which_bad {W : Wd} (h : ¬ W.chk = 0) (p : Trp → Bool) : whichI W p = 0 ∧ whichB W p = false := by
  unfold whichI whichB
  rw [if_neg h, decide_eq_false h]
  exact ⟨rfl, rfl⟩
theorem ret_three {k k' : IntKind} {a a' : Int} {b b' : Bool} {c c' : Int} (h1 : a = a') (h2 : b = b') (h3 : c = c') : Ending.returned (.tuple #[.int k a, .bool b, .int k' c]) = .returned (.tuple #[.int k a', .bool b', .int k' c']) := by rw [h1, h2, h3]
set_option maxRecDepth 100000 in
set_option maxHeartbeats 4000000 in
theorem which_any (fv : Value) (p : Trp → Bool) (a : Wd.At) (W : Wd) (w : World) (hW : Wd.Has w a W)
    (hidx : ∀ V, Below w.heap.size w V → Calls Try.prog 70 #[.slice a.T W.troops.length a.t, fv] V fun e w' => e = .returned (.int .i64 (idxI p W.troops)) ∧ Below V.heap.size V w') :
    Calls Try.prog 53 #[.agg (Wd.cells a W).toArray, fv] w fun e w' => e = .returned (.tuple #[.int .i64 (whichI W p), .bool (whichB W p), .int .i64 W.chk]) ∧ Below w.heap.size w w' := by
  have hch := fun V (h : Wd.Has V a W) => check_any a W V h
  obtain ⟨aP, aB, aS, aM, aT, kP, kB, kS, kM, kT⟩ := a
  show Calls _ _ #[.agg #[.int .i64 W.field.wide, .int .i64 W.field.high, .slice aP W.field.places.length kP, .slice aB W.bases.length kB, .slice aS W.stocks.length kS, .slice aM W.mines.length kM, .slice aT W.troops.length kT, .int .i64 W.next, .int .i64 W.now], fv] _ _
  have hb0 := below_alloc0 w (.cells (Wd.cells ⟨aP, aB, aS, aM, aT, kP, kB, kS, kM, kT⟩ W).toArray 81)
  have HA := Lib.hid (Blk.new w (Wd.cells ⟨aP, aB, aS, aM, aT, kP, kB, kS, kM, kT⟩ W) 81 (0, 0))
  have HH := Lib.hid (hW.keep hb0)
  obtain ⟨w0, HW0⟩ : ∃ w0, Hid (w.alloc (.cells (Wd.cells ⟨aP, aB, aS, aM, aT, kP, kB, kS, kM, kT⟩ W).toArray 81) = w0) := ⟨_, Lib.hid rfl⟩
  rw [HW0.out] at hb0 HH
  have HA : Hid (Blk w0 w.heap.size (Wd.cells ⟨aP, aB, aS, aM, aT, kP, kB, kS, kM, kT⟩ W) 81 (0, 0)) := by rw [← HW0.out]; exact HA
  have HCH := Lib.hid (hch w0 HH.out)
  rw [Wd.cells_eq] at HCH
  have HCH : Hid (Calls Try.prog 57 #[.agg #[.int .i64 W.field.wide, .int .i64 W.field.high, .slice aP W.field.places.length kP, .slice aB W.bases.length kB, .slice aS W.stocks.length kS, .slice aM W.mines.length kM, .slice aT W.troops.length kT, .int .i64 W.next, .int .i64 W.now]] w0 fun e w' => e = .returned (.int .i64 W.chk) ∧ Below w0.heap.size w0 w') := HCH
  have HIX : Hid (∀ V, Below w.heap.size w V → Calls Try.prog 70 #[.slice aT W.troops.length kT, fv] V fun e w' => e = .returned (.int .i64 (idxI p W.troops)) ∧ Below V.heap.size V w') := Lib.hid hidx
  have HW1 : Hid (w.alloc (.cells #[.int .i64 W.field.wide, .int .i64 W.field.high, .slice aP W.field.places.length kP, .slice aB W.bases.length kB, .slice aS W.stocks.length kS, .slice aM W.mines.length kM, .slice aT W.troops.length kT, .int .i64 W.next, .int .i64 W.now] 81) = w0) := by rw [← HW0.out]; rfl
  obtain ⟨c0, c1, c2, c3, c4, c5, c6, c7, c8⟩ := Wd.wblk HA.out
  clear hW hch hidx
  by_cases h0 : W.chk = 0
  · obtain ⟨e1, e2⟩ := which_ok h0 p
    rw [e1, e2]
    rw [h0] at HCH ⊢
    clear e1 e2 h0
    have hr : -1 ≤ idxI p W.troops ∧ idxI p W.troops ≤ (W.troops.length : Int) := by
      rcases idxI_cases p W.troops with ⟨h, _⟩ | ⟨k, hk, h, _⟩
      · omega
      · omega
    generalize idxI p W.troops = r at *
    generalize W.field.places.length = np at *
    generalize W.bases.length = nb at *
    generalize W.stocks.length = ns at *
    generalize W.mines.length = nm at *
    generalize W.troops.length = nt at *
    clear hr
    go_enter Try.func53, Try.ntmps53
    go_wp2_with fail
    rw [HW1.out]
    go_wp2_with fail
    refine HCH.out.mono ?_; rintro e w2 ⟨rfl, hb2⟩
    have d6 := cell_later hb2 c6
    clear c0 c1 c2 c3 c4 c5 c6 c7 c8
    have hb02 := hb0.trans (hb2.mono hb0.size)
    go_wp2_with fail
    refine (HIX.out _ hb02).mono ?_; rintro e w3 ⟨rfl, hb3⟩
    go_wp2_with fail
    go_ret3
    exact ⟨rfl, hb02.trans (hb3.mono hb02.size)⟩
  · obtain ⟨e1, e2⟩ := which_bad h0 p
    have hd : (W.chk == 0) = false := by simpa using h0
    have hd2 : (W.chk != 0) = true := by simpa using h0
    rw [e1, e2]
    clear e1 e2 h0
    generalize W.chk = k at *
    generalize W.field.places.length = np at *
    generalize W.bases.length = nb at *
    generalize W.stocks.length = ns at *
    generalize W.mines.length = nm at *
    generalize W.troops.length = nt at *
    go_enter Try.func53, Try.ntmps53
    go_wp2_with fail
    rw [HW1.out]
    go_wp2_with fail
    refine HCH.out.mono ?_; rintro e w2 ⟨rfl, hb2⟩
    go_wp2_with fail
    go_ret3
    exact ⟨rfl, hb0.trans (hb2.mono hb0.size)⟩
def FindPost (W : Wd) (p : Trp → Bool) (w : World) (e : Ending) (w' : World) : Prop := e = .returned (.tuple #[.int .i64 (whichI W p), .bool (whichB W p), .int .i64 W.chk]) ∧ Below w.heap.size w w'
set_option maxRecDepth 100000 in
set_option maxHeartbeats 4000000 in
theorem find_any (id : Int) (a : Wd.At) (W : Wd) (w : World) (hW : Wd.Has w a W) :
    Calls Try.prog 37 #[.agg (Wd.cells a W).toArray, .int .i64 id] w (FindPost W (isId id) w) := by
  have hch := fun fv V (h : Wd.Has V a W) hi => which_any fv (isId id) a W V h hi
  obtain ⟨aP, aB, aS, aM, aT, kP, kB, kS, kM, kT⟩ := a
  show Calls _ _ #[.agg #[.int .i64 W.field.wide, .int .i64 W.field.high, .slice aP W.field.places.length kP, .slice aB W.bases.length kB, .slice aS W.stocks.length kS, .slice aM W.mines.length kM, .slice aT W.troops.length kT, .int .i64 W.next, .int .i64 W.now], .int .i64 id] _ _
  have hb0 := below_alloc0 w (.cells (Wd.cells ⟨aP, aB, aS, aM, aT, kP, kB, kS, kM, kT⟩ W).toArray 81)
  have HA := Lib.hid (Blk.new w (Wd.cells ⟨aP, aB, aS, aM, aT, kP, kB, kS, kM, kT⟩ W) 81 (0, 0))
  have HH := Lib.hid (hW.keep hb0)
  obtain ⟨w0, HW0⟩ : ∃ w0, Hid (w.alloc (.cells (Wd.cells ⟨aP, aB, aS, aM, aT, kP, kB, kS, kM, kT⟩ W).toArray 81) = w0) := ⟨_, Lib.hid rfl⟩
  rw [HW0.out] at hb0 HH
  have HA : Hid (Blk w0 w.heap.size (Wd.cells ⟨aP, aB, aS, aM, aT, kP, kB, kS, kM, kT⟩ W) 81 (0, 0)) := by rw [← HW0.out]; exact HA
  have hbB := below_alloc0 w0 (.cells #[.int .i64 id] 3)
  have hBB := Blk.new w0 [.int .i64 id] 3 (0, 0)
  have hsz0 : w0.heap.size = w.heap.size + 1 := by rw [← HW0.out]; simp
  rw [hsz0] at hBB
  obtain ⟨w1, HWB⟩ : ∃ w1, Hid (w0.alloc (.cells #[.int .i64 id] 3) = w1) := ⟨_, Lib.hid rfl⟩
  rw [HWB.out] at hbB
  have hBB : Blk w1 (w.heap.size + 1) [.int .i64 id] 3 (0, 0) := by rw [← HWB.out]; exact hBB
  have HT : Hid (Trp.rep.SHas 56 w1 aT kT W.troops) := Lib.hid (HH.out.T.keep hbB)
  have HBB := Lib.hid hBB
  have HA1 := HA.out.later hbB
  have HCH := Lib.hid (hch (.func (.func 54) #[] #[.pointer (some ⟨w.heap.size + 1, 0, none⟩)]) w1 (HH.out.keep hbB) (fun V hV => idx_id id (w.heap.size + 1) aT kT W.troops V (HT.out.keep hV) (cell_later hV (HBB.out.cell 0))))
  rw [Wd.cells_eq] at HCH
  have HCH : Hid (Calls Try.prog 53 #[.agg #[.int .i64 W.field.wide, .int .i64 W.field.high, .slice aP W.field.places.length kP, .slice aB W.bases.length kB, .slice aS W.stocks.length kS, .slice aM W.mines.length kM, .slice aT W.troops.length kT, .int .i64 W.next, .int .i64 W.now], .func (.func 54) #[] #[.pointer (some ⟨w.heap.size + 1, 0, none⟩)]] w1 fun e w' => e = .returned (.tuple #[.int .i64 (whichI W (isId id)), .bool (whichB W (isId id)), .int .i64 W.chk]) ∧ Below w1.heap.size w1 w') := HCH
  have HW1 : Hid (w.alloc (.cells #[.int .i64 W.field.wide, .int .i64 W.field.high, .slice aP W.field.places.length kP, .slice aB W.bases.length kB, .slice aS W.stocks.length kS, .slice aM W.mines.length kM, .slice aT W.troops.length kT, .int .i64 W.next, .int .i64 W.now] 81) = w0) := by rw [← HW0.out]; rfl
  obtain ⟨c0, c1, c2, c3, c4, c5, c6, c7, c8⟩ := Wd.wblk HA1
  have hb01 := hb0.trans (hbB.mono hb0.size)
  unfold FindPost
  clear hW hch hBB HA1
  generalize whichI W (isId id) = r1 at *
  generalize whichB W (isId id) = r2 at *
  generalize W.chk = r3 at *
  go_enter Try.func37, Try.ntmps37
  go_wp2_with fail
  rw [HW1.out, HWB.out]
  go_wp2_with fail
  refine HCH.out.mono ?_; rintro e w2 ⟨rfl, hb2⟩
  go_wp2_with fail
  go_ret3
  exact ⟨rfl, hb01.trans (hb2.mono hb01.size)⟩
set_option maxRecDepth 100000 in
set_option maxHeartbeats 4000000 in
theorem on_any (p : Cel) (a : Wd.At) (W : Wd) (w : World) (hW : Wd.Has w a W) :
    Calls Try.prog 39 #[.agg (Wd.cells a W).toArray, .agg #[.int .i64 p.x, .int .i64 p.y]] w (FindPost W (isAt p) w) := by
  have hch := fun fv V (h : Wd.Has V a W) hi => which_any fv (isAt p) a W V h hi
  obtain ⟨aP, aB, aS, aM, aT, kP, kB, kS, kM, kT⟩ := a
  show Calls _ _ #[.agg #[.int .i64 W.field.wide, .int .i64 W.field.high, .slice aP W.field.places.length kP, .slice aB W.bases.length kB, .slice aS W.stocks.length kS, .slice aM W.mines.length kM, .slice aT W.troops.length kT, .int .i64 W.next, .int .i64 W.now], .agg #[.int .i64 p.x, .int .i64 p.y]] _ _
  have hb0 := below_alloc0 w (.cells (Wd.cells ⟨aP, aB, aS, aM, aT, kP, kB, kS, kM, kT⟩ W).toArray 81)
  have HA := Lib.hid (Blk.new w (Wd.cells ⟨aP, aB, aS, aM, aT, kP, kB, kS, kM, kT⟩ W) 81 (0, 0))
  have HH := Lib.hid (hW.keep hb0)
  obtain ⟨w0, HW0⟩ : ∃ w0, Hid (w.alloc (.cells (Wd.cells ⟨aP, aB, aS, aM, aT, kP, kB, kS, kM, kT⟩ W).toArray 81) = w0) := ⟨_, Lib.hid rfl⟩
  rw [HW0.out] at hb0 HH
  have HA : Hid (Blk w0 w.heap.size (Wd.cells ⟨aP, aB, aS, aM, aT, kP, kB, kS, kM, kT⟩ W) 81 (0, 0)) := by rw [← HW0.out]; exact HA
  have hbB := below_alloc0 w0 (.cells #[.int .i64 p.x, .int .i64 p.y] 85)
  have hBB := Blk.new w0 [.int .i64 p.x, .int .i64 p.y] 85 (0, 0)
  have hsz0 : w0.heap.size = w.heap.size + 1 := by rw [← HW0.out]; simp
  rw [hsz0] at hBB
  obtain ⟨w1, HWB⟩ : ∃ w1, Hid (w0.alloc (.cells #[.int .i64 p.x, .int .i64 p.y] 85) = w1) := ⟨_, Lib.hid rfl⟩
  rw [HWB.out] at hbB
  have hBB : Blk w1 (w.heap.size + 1) [.int .i64 p.x, .int .i64 p.y] 85 (0, 0) := by rw [← HWB.out]; exact hBB
  have HT : Hid (Trp.rep.SHas 56 w1 aT kT W.troops) := Lib.hid (HH.out.T.keep hbB)
  have HBB := Lib.hid hBB
  have HA1 := HA.out.later hbB
  have HCH := Lib.hid (hch (.func (.func 56) #[] #[.pointer (some ⟨w.heap.size + 1, 0, none⟩)]) w1 (HH.out.keep hbB) (fun V hV => idx_at p (w.heap.size + 1) aT kT W.troops V (HT.out.keep hV) ⟨cell_later hV (HBB.out.cell 0), cell_later hV (HBB.out.cell 1)⟩))
  rw [Wd.cells_eq] at HCH
  have HCH : Hid (Calls Try.prog 53 #[.agg #[.int .i64 W.field.wide, .int .i64 W.field.high, .slice aP W.field.places.length kP, .slice aB W.bases.length kB, .slice aS W.stocks.length kS, .slice aM W.mines.length kM, .slice aT W.troops.length kT, .int .i64 W.next, .int .i64 W.now], .func (.func 56) #[] #[.pointer (some ⟨w.heap.size + 1, 0, none⟩)]] w1 fun e w' => e = .returned (.tuple #[.int .i64 (whichI W (isAt p)), .bool (whichB W (isAt p)), .int .i64 W.chk]) ∧ Below w1.heap.size w1 w') := HCH
  have HW1 : Hid (w.alloc (.cells #[.int .i64 W.field.wide, .int .i64 W.field.high, .slice aP W.field.places.length kP, .slice aB W.bases.length kB, .slice aS W.stocks.length kS, .slice aM W.mines.length kM, .slice aT W.troops.length kT, .int .i64 W.next, .int .i64 W.now] 81) = w0) := by rw [← HW0.out]; rfl
  obtain ⟨c0, c1, c2, c3, c4, c5, c6, c7, c8⟩ := Wd.wblk HA1
  have hb01 := hb0.trans (hbB.mono hb0.size)
  unfold FindPost
  clear hW hch hBB HA1
  generalize whichI W (isAt p) = r1 at *
  generalize whichB W (isAt p) = r2 at *
  generalize W.chk = r3 at *
  go_enter Try.func39, Try.ntmps39
  go_wp2_with fail
  rw [HW1.out, HWB.out]
  go_wp2_with fail
  refine HCH.out.mono ?_; rintro e w2 ⟨rfl, hb2⟩
  go_wp2_with fail
  go_ret3
  exact ⟨rfl, hb01.trans (hb2.mono hb01.size)⟩
end Go.Proofs.Ythjolbdjokopnaa
