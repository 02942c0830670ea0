/-
  Right worlds, told limb by limb.
-/
import Derived.Test.YticfnngppcmidaaTroP
set_option linter.unusedVariables false
namespace Go.Proofs.Yticfnngppcmidaa
open Go.RowKit

/-- A troop that is right by itself. -/
structure TroopOk (f : Fld) (nb : Nat) (t : Trp) : Prop where
  kind : t.kind = 1 ∨ t.kind = 2
  owner : 0 ≤ t.owner ∧ t.owner < (nb : Int)
  ground : f.ground t.spot = true
  life : 1 ≤ t.life ∧ t.life ≤ Wd.lifeOf t.kind
  load : 0 ≤ t.load ∧ t.load ≤ Wd.mostOf t.kind
structure Good (W : Wd) : Prop where
  field : W.field.chk = 0
  nb : W.bases.length ≤ 8
  nt : W.troops.length ≤ 100
  sl : W.stocks.length = W.bases.length
  bases : ∀ (i : Nat) c, W.bases[i]? = some c → W.field.ground c = true ∧ (W.bases.take i).contains c = false
  stocks : ∀ (i : Nat) s, W.stocks[i]? = some s → 0 ≤ s ∧ s ≤ 1000000
  ml : W.mines.length = W.field.places.length
  mines : ∀ (i : Nat) m, W.mines[i]? = some m → 0 ≤ m ∧ m ≤ 1000000 ∧ (m ≤ 0 ∨ W.field.places.getD i 0 = 3)
  troops : ∀ (i : Nat) t, W.troops[i]? = some t → TroopOk W.field W.bases.length t
  ids : ∀ (i : Nat) t, W.troops[i]? = some t → W.lastId i < t.id ∧ t.id < W.next ∧ 0 ≤ W.lastId i
  spots : ∀ (i : Nat) t, W.troops[i]? = some t → (W.spots i).contains t.spot = false
  next : 1 ≤ W.next ∧ W.next ≤ 1000000
  now : 0 ≤ W.now ∧ W.now ≤ 1000000
theorem Good.of_chk {W : Wd} (h : W.chk = 0) : Good W := by
  obtain ⟨h0, h8, h100, hp, hm, ht⟩ := good_spots h
  obtain ⟨n1, n2, n3, n4⟩ := next_ok h
  unfold Wd.players at hp
  unfold Wd.minesOk at hm
  rw [Bool.and_eq_true, List.all_eq_true] at hp hm
  have hsl : W.stocks.length = W.bases.length := by simpa using hp.1
  have hml : W.mines.length = W.field.places.length := by simpa using hm.1
  refine ⟨h0, h8, h100, hsl, fun i c hc => ?_, fun i s hs => ?_, hml, fun i m hi => ?_, fun i t hi => ?_, fun i t hi => id_step h i t hi, fun i t hi => (good_troop h hi).2.2.2.2.2.1, ⟨n1, n2⟩, ⟨n3, n4⟩⟩
  · have hlt := (List.getElem?_eq_some_iff.1 hc).1
    have := hp.2 i (List.mem_range.2 hlt)
    unfold Wd.okBase at this
    rw [List.getD_eq_getElem?_getD, hc] at this
    simp only [Option.getD_some, Bool.and_eq_true, Bool.not_eq_true'] at this
    exact ⟨this.1.1, this.1.2⟩
  · have hlt := (List.getElem?_eq_some_iff.1 hs).1
    have := hp.2 i (List.mem_range.2 (by omega))
    unfold Wd.okBase at this
    rw [Bool.and_eq_true] at this
    have h2 := inB_true this.2
    rw [List.getD_eq_getElem?_getD, hs] at h2
    exact h2
  · have hlt := (List.getElem?_eq_some_iff.1 hi).1
    have := hm.2 i (List.mem_range.2 hlt)
    unfold Wd.okMine at this
    rw [List.getD_eq_getElem?_getD, hi, Bool.and_eq_true, Bool.or_eq_true] at this
    have h2 := inB_true this.1
    refine ⟨h2.1, h2.2, ?_⟩
    rcases this.2 with h3 | h3
    · exact .inl (by simpa using h3)
    · exact .inr (by simpa using h3)
  · obtain ⟨a1, a2, a3, a4, a5, _, _⟩ := good_troop h hi
    have b2 := inB_true a2
    have b3 := inB_true a3
    have b4 := inB_true a4
    have b5 := inB_true a5
    exact ⟨by omega, ⟨b3.1, by omega⟩, a1, b4, b5⟩
theorem Good.chk {W : Wd} (h : Good W) : W.chk = 0 := by
  have hp : W.players = true := Wd.players_ok h.sl fun k hk => by
    obtain ⟨c, hc⟩ := get_of hk
    obtain ⟨s, hs⟩ := get_of (l := W.stocks) (i := k) (by rw [h.sl]; exact hk)
    unfold Wd.okBase
    rw [List.getD_eq_getElem?_getD, hc, List.getD_eq_getElem?_getD, hs]
    have h1 := h.bases k c hc
    have h2 := h.stocks k s hs
    simp only [Option.getD_some]
    rw [h1.1, h1.2, inB_mk h2.1 h2.2]; rfl
  have hm : W.minesOk = true := Wd.mines_ok h.ml fun k hk => by
    obtain ⟨m, hm⟩ := get_of hk
    have h1 := h.mines k m hm
    unfold Wd.okMine
    rw [List.getD_eq_getElem?_getD, hm]
    simp only [Option.getD_some]
    rw [inB_mk h1.1 h1.2.1, Bool.true_and, Bool.or_eq_true]
    rcases h1.2.2 with h3 | h3
    · exact .inl (by simpa using h3)
    · exact .inr (by simpa using h3)
  have ht : W.troopsOk = true := by
    unfold Wd.troopsOk
    rw [inB_mk h.next.1 h.next.2, inB_mk h.now.1 h.now.2, Bool.and_true, Bool.and_true, List.all_eq_true]
    intro k hk
    obtain ⟨t, ht⟩ := get_of (List.mem_range.1 hk)
    have h1 := h.troops k t ht
    have h2 := h.ids k t ht
    have h3 := h.spots k t ht
    have hn := h.next
    unfold Wd.okTroop Wd.okOne
    rw [List.getD_eq_getElem?_getD, ht]
    simp only [Option.getD_some]
    have k1 : inB t.kind 1 2 = true := by
      rcases h1.kind with h | h
      · exact inB_mk (by omega) (by omega)
      · exact inB_mk (by omega) (by omega)
    have k2 : inB t.id (W.lastId k + 1) (W.next - 1) = true := inB_mk (by omega) (by omega)
    have k3 : inB t.owner 0 ((W.bases.length : Int) - 1) = true := inB_mk h1.owner.1 (by have := h1.owner.2; omega)
    rw [wrap_small (by omega) (by omega), wrap_small (by omega) (by omega), k1, k2, k3, h3, h1.ground, inB_mk h1.life.1 h1.life.2, inB_mk h1.load.1 h1.load.2]
    rfl
  rw [Wd.chk_all h.field (by have := h.nb; have := h.nt; omega), hp, hm, ht]
  rfl
end Go.Proofs.Yticfnngppcmidaa
