/-
  Writing into a shop: a mine, a stock, a troop's load.
-/
import Derived.Test.YticfnngppcmidaaGooA
set_option linter.unusedVariables false
set_option linter.unusedSimpArgs false
namespace Go.Proofs.Yticfnngppcmidaa
open Go.RowKit

theorem repI_bare : repI.Bare := Rep.flat_bare
theorem trp_bare : Trp.rep.Bare := Rep.flat_bare
theorem WOwn.disj {w : World} {Z : Nat} {a : Wd.At} {W : Wd} (h : WOwn w Z a W) :
    (∀ x ∈ Rep.blkOf a.M, x ∉ Rep.blkOf a.P ∧ x ∉ Rep.blkOf a.B ∧ x ∉ Rep.blkOf a.S ∧ x ∉ Rep.blkOf a.T) ∧
    (∀ x ∈ Rep.blkOf a.T, x ∉ Rep.blkOf a.P ∧ x ∉ Rep.blkOf a.B ∧ x ∉ Rep.blkOf a.S ∧ x ∉ Rep.blkOf a.M) ∧
    (∀ x ∈ Rep.blkOf a.S, x ∉ Rep.blkOf a.P ∧ x ∉ Rep.blkOf a.B ∧ x ∉ Rep.blkOf a.M ∧ x ∉ Rep.blkOf a.T) := by
  have hn := h.apart
  rw [List.nodup_append, List.nodup_append, List.nodup_append, List.nodup_append] at hn
  obtain ⟨⟨⟨⟨_, _, n1⟩, _, n2⟩, _, n3⟩, _, n4⟩ := hn
  refine ⟨fun x hx => ⟨fun hp => ?_, fun hp => ?_, fun hp => ?_, fun hp => ?_⟩, fun x hx => ⟨fun hp => ?_, fun hp => ?_, fun hp => ?_, fun hp => ?_⟩, fun x hx => ⟨fun hp => ?_, fun hp => ?_, fun hp => ?_, fun hp => ?_⟩⟩
  · exact n3 x (by simp [hp]) x hx rfl
  · exact n3 x (by simp [hp]) x hx rfl
  · exact n3 x (by simp [hp]) x hx rfl
  · exact n4 x (by simp [hx]) x hp rfl
  · exact n4 x (by simp [hp]) x hx rfl
  · exact n4 x (by simp [hp]) x hx rfl
  · exact n4 x (by simp [hp]) x hx rfl
  · exact n4 x (by simp [hp]) x hx rfl
  · exact n2 x (by simp [hp]) x hx rfl
  · exact n2 x (by simp [hp]) x hx rfl
  · exact n3 x (by simp [hx]) x hp rfl
  · exact n4 x (by simp [hx]) x hp rfl
theorem foot_mem {a : Wd.At} {g : Nat} : g ∈ WOwn.foot a ↔ g ∈ Rep.blkOf a.P ∨ g ∈ Rep.blkOf a.B ∨ g ∈ Rep.blkOf a.S ∨ g ∈ Rep.blkOf a.M ∨ g ∈ Rep.blkOf a.T := by
  unfold WOwn.foot
  simp only [List.mem_append]
  constructor
  · rintro ((((h | h) | h) | h) | h) <;> simp [h]
  · rintro (h | h | h | h | h) <;> simp [h]
theorem Blk.far_ {w : World} {S : Nat} {cs : List Value} {t : TypeId} {g : Nat} (h : Blk w S cs t (0, 0)) (hne : S ≠ g) (j : Nat) (u : Value) : Blk (w.setCell ⟨g, j, none⟩ u) S cs t (0, 0) := h.other hne j u
/-- A mine is written. -/
theorem Shop.setMine {w : World} {Z S : Nat} {a : Wd.At} {W : Wd} (h : Shop w Z S a W) {g : Nat} (hg : a.M = some ⟨g, 0, none⟩) {i : Nat} (hi : i < W.mines.length) {m : Int} (hm : okI m) :
    Shop (w.setCell ⟨g, i, none⟩ (.int .i64 m)) Z S a { W with mines := W.mines.set i m } := by
  have hgm : g ∈ Rep.blkOf a.M := by rw [hg]; simp [Rep.blkOf]
  obtain ⟨d1, d2, d3⟩ := h.own.disj
  obtain ⟨q1, q2, q3, q4⟩ := d1 g hgm
  have hSg : S ≠ g := fun e => h.far (foot_mem.2 (by rw [e]; simp [hgm]))
  obtain ⟨x, hx⟩ := get_of hi
  have hM := h.own.M
  rw [hg] at hM
  have hs := hM.setj repI_bare (i := i) (j := 0) (a := x) (a' := m) (u := .int .i64 m) hx (by decide) (fun cs hc => by
    obtain ⟨rfl, _⟩ : cs = [.int .i64 x] ∧ okI x := hc
    exact ⟨rfl, hm⟩)
  have e : i * repI.size + 0 = i := by show i * 1 + 0 = i; omega
  rw [e] at hs
  refine ⟨?_, ⟨h.own.P.other q1 _, h.own.B.other q2 _, h.own.S.other q3 _, by rw [hg]; exact hs, h.own.T.other q4 _, h.own.apart, h.own.nums⟩, h.far, h.low⟩
  have hb := h.blk.far_ hSg i (.int .i64 m)
  have ec : Wd.cells a { W with mines := W.mines.set i m } = Wd.cells a W := by simp [Wd.cells]
  rw [ec]; exact hb
/-- A stock is written. -/
theorem Shop.setStock {w : World} {Z S : Nat} {a : Wd.At} {W : Wd} (h : Shop w Z S a W) {g : Nat} (hg : a.S = some ⟨g, 0, none⟩) {i : Nat} (hi : i < W.stocks.length) {m : Int} (hm : okI m) :
    Shop (w.setCell ⟨g, i, none⟩ (.int .i64 m)) Z S a { W with stocks := W.stocks.set i m } := by
  have hgm : g ∈ Rep.blkOf a.S := by rw [hg]; simp [Rep.blkOf]
  obtain ⟨d1, d2, d3⟩ := h.own.disj
  obtain ⟨q1, q2, q3, q4⟩ := d3 g hgm
  have hSg : S ≠ g := fun e => h.far (foot_mem.2 (by rw [e]; simp [hgm]))
  obtain ⟨x, hx⟩ := get_of hi
  have hM := h.own.S
  rw [hg] at hM
  have hs := hM.setj repI_bare (i := i) (j := 0) (a := x) (a' := m) (u := .int .i64 m) hx (by decide) (fun cs hc => by
    obtain ⟨rfl, _⟩ : cs = [.int .i64 x] ∧ okI x := hc
    exact ⟨rfl, hm⟩)
  have e : i * repI.size + 0 = i := by show i * 1 + 0 = i; omega
  rw [e] at hs
  refine ⟨?_, ⟨h.own.P.other q1 _, h.own.B.other q2 _, by rw [hg]; exact hs, h.own.M.other q3 _, h.own.T.other q4 _, h.own.apart, h.own.nums⟩, h.far, h.low⟩
  have hb := h.blk.far_ hSg i (.int .i64 m)
  have ec : Wd.cells a { W with stocks := W.stocks.set i m } = Wd.cells a W := by simp [Wd.cells]
  rw [ec]; exact hb
/-- A load is written. -/
theorem Shop.setLoad {w : World} {Z S : Nat} {a : Wd.At} {W : Wd} (h : Shop w Z S a W) {g : Nat} (hg : a.T = some ⟨g, 0, none⟩) {k : Nat} {t : Trp} (ht : W.troops[k]? = some t) {n : Int} (hm : okI (t.load + n)) :
    Shop (w.setCell ⟨g, k * 7 + 6, none⟩ (.int .i64 (t.load + n))) Z S a { W with troops := W.troops.set k (Wd.addLoad t n) } := by
  have hgm : g ∈ Rep.blkOf a.T := by rw [hg]; simp [Rep.blkOf]
  obtain ⟨d1, d2, d3⟩ := h.own.disj
  obtain ⟨q1, q2, q3, q4⟩ := d2 g hgm
  have hSg : S ≠ g := fun e => h.far (foot_mem.2 (by rw [e]; simp [hgm]))
  have hT := h.own.T
  rw [hg] at hT
  have hs := hT.setj trp_bare (i := k) (j := 6) (a := t) (a' := Wd.addLoad t n) (u := .int .i64 (t.load + n)) ht (by decide) (fun cs hc => by
    obtain ⟨rfl, hok⟩ : cs = t.cells ∧ t.ok := hc
    obtain ⟨o1, o2, o3, o4, o5, o6, o7⟩ := hok
    exact ⟨rfl, o1, o2, o3, o4, o5, o6, hm⟩)
  refine ⟨?_, ⟨h.own.P.other q1 _, h.own.B.other q2 _, h.own.S.other q3 _, h.own.M.other q4 _, by rw [hg]; exact hs, h.own.apart, h.own.nums⟩, h.far, h.low⟩
  have hb := h.blk.far_ hSg (k * 7 + 6) (.int .i64 (t.load + n))
  have ec : Wd.cells a { W with troops := W.troops.set k (Wd.addLoad t n) } = Wd.cells a W := by simp [Wd.cells]
  rw [ec]; exact hb
end Go.Proofs.Yticfnngppcmidaa
