import Derived.Test.YtifffjhhammeiaaFcs
import Derived.Test.YtifffjhhammeiaaFlG
import Derived.Test.YtifffjhhammeiaaMtR
import Derived.Test.YtifffjhhammeiaaBas
import Derived.Handy
import Derived.Test.YtifffjhhammeiaaProg
set_option linter.unusedVariables false
set_option linter.unusedSimpArgs false
set_option maxRecDepth 100000
set_option maxHeartbeats 4000000
namespace Go.Proofs.Ytifffjhhammeiaa
section
open Go.RowKit
theorem MtL_el_S_int : ElT Try.prog repI 34 3 8 := ElT.mk_ (z := .int .i64 0) (k := 1) Try.underlying34 info_int rfl rfl (by decide) (λ j u h => raw0I j u h)
open Go.Proofs.Ytifffjhhammeiaa.Mt
theorem table_any (n : Int) (l : List Gam) (A : Option Addr) (c : Nat) (w : World) (hl : Gam.rep.SHas 24 w A c l) :
  Calls Try.prog 15 #[.int .i64 n, .slice A l.length c] w (λ e w' => ∃ e' A' c' L, e = .returned (.tuple #[.slice A' (L : List Int).length c', .int .i64 e']) ∧ (e' = mtE n l ∧ L = tbR n l) ∧ repI.SOwn 3 8 w' w.heap.size (Rep.blkOf A') A' c' L ∧ Ext w w') := by
 refine calls_W (n := 35) Try.func15 rfl rfl rfl ?_
 refine sg <| va rfl <| va rfl <| nK <| sg <| vm rfl <| vm rfl <| ca eF22 rfl rfl ((scores_any n l _ _ _ (hl.keep (Ext.rf w))).mono ?_)
 rintro e w_4 ⟨e1, A1, c1, L1, rfl, ⟨he1, hL1⟩, HS1, x_5⟩
 refine ⟨_, rfl, ?_⟩
 have := x_5.size
 have z_4 := eT (Ext.rf w) x_5
 have u_2 := λ q hq => (HS1.lt q hq).2
 have lo_3 := λ q hq => (HS1.lt q hq).1
 refine vm rfl <| vL (ex rfl rfl) <| vL (ex rfl rfl) <| va rfl <| va rfl <| nK <| sq <| sg <| vm rfl <| vL (bne rfl rfl) <| nK <| ?_
 refine cne rfl (λ h_7 => ?_) (λ h_7 => ?_)
 ·have h0 : e1 ≠ 0 := by first | exact h_7 | simpa using h_7
  refine sg <| vm rfl <| va rfl <| va rfl <| nK <| rt <| tT <| tR (.tmp rfl (.tmp rfl .nil)) <| ?_
  exact ⟨e1, none, 0, [], rfl, ⟨he1, tbR_bad he1 h0⟩, Rep.SOwn.nil _, z_4⟩
 ·have h0 : e1 = 0 := by first | exact h_7 | simpa using h_7
  refine sK <| sg <| vm rfl <| ca eF25 rfl rfl ((sortS_any _ HS1 (by rw [hL1]; exact scR_pos he1 h0)).mono ?_)
  rintro e w_9 ⟨rfl, HT1, m_8⟩
  refine ⟨_, rfl, ?_⟩
  have := m_8.size
  have z_9 := Ext.mod z_4 m_8 (λ q hq => (HS1.lt q hq).1)
  have hTl : (tabS L1).length = L1.length := (tabS_perm _).length_eq
  refine nK <| sg <| va rfl <| nK <| sq <| sg <| vm rfl <| vL (ln Try.underlying83 rfl) <| vm rfl <| nK <| bk <| ?_
  have hsl : (tabS L1).length ≤ 64 := by rw [hTl]; rw [hL1, scR_len he1 h0]; have h_ := mtE_ok (he1.symm.trans h0); omega
  refine lp (λ mI EI wI => ∃ k : Nat, ∃ Lo : List Int, ∃ AL : Option Addr, ∃ cL : Nat, EI = [(4, .slice none 0 0), (5, .int .i64 0), (8, .slice AL Lo.length cL), (22, .slice A1 L1.length c1), (23, .int .i64 (L1.length : Int)), (24, .int .i64 (k : Int))] ∧ mI = (tabS L1).length - k ∧ Ext w wI ∧ Sco.rep.SOwn 87 24 wI w.heap.size (Rep.blkOf A1) A1 c1 (tabS L1) ∧ repI.SOwn 3 8 wI w.heap.size (Rep.blkOf AL) AL cL Lo ∧ (k ≤ (tabS L1).length) ∧ (Lo = ((tabS L1).take k).map (·.player)) ∧ (∀ q ∈ Rep.blkOf AL, q ∈ Rep.blkOf A1 → False) ∧ (∀ q ∈ Rep.blkOf AL, q ∈ Rep.blkOf A1 → False)) _ _ ⟨0, ([] : List Int), none, 0, rfl, rfl, z_9, HT1, (Rep.SOwn.nil _), by omega, rfl, λ q hq => by simp [Rep.blkOf] at hq, (λ q hq hb => by (simp [Rep.blkOf] at hq))⟩ (.cons rfl (.cons rfl (.cons rfl (.cons rfl (.cons rfl (.cons (loI rfl (by first | omega | rfl | (simp <;> omega))) .nil)))))) ?_
  rintro m_13 E_14 w_12 ⟨k, Lo, AL, cL, rfl, rfl, z_12, HSx, OLx, hk, hLo, dOS, d_11⟩
  have := z_12.size
  have u_16 := λ q hq => (HSx.lt q hq).2
  have u_17 := λ q hq => (OLx.lt q hq).2
  have hLol : Lo.length = k := by rw [hLo, List.length_map, List.length_take]; omega
  refine sg <| vL (blt rfl rfl) <| nK <| sq <| ?_
  refine clt rfl (λ h_18 => ?_) (λ h_18 => ?_)
  ·obtain ⟨s0, hs0⟩ : ∃ s0, (tabS L1)[k]? = some s0 := ⟨_, List.getElem?_eq_getElem (by omega)⟩
   obtain ⟨o1, o2, o3⟩ := Sco.all_ok HSx.has s0 (List.mem_of_getElem? hs0)
   refine sK <| sq <| bk <| sg <| vL (iA k Try.underlying83 eF0 rfl rfl (HSx.has.adr (zl k (by omega))) rfl (by omega)) <| vL (ld rfl (Rep.SHas.elt Mt.hcS (HSx.has.adh (zl k (by omega))) hs0 eF23 eF0)) <| al rfl eF24 rfl rfl λ w_19 b_20 x_21 l_22 B_23 => ?_
   have := x_21.size
   have z_19 := eT z_12 x_21
   have q_25 := B_23.lt
   refine st (new := [.int .i64 s0.player, .int .i64 s0.points, .int .i64 s0.won]) rfl rfl B_23 rfl eF0 rfl rfl rfl λ w_26 m_27 B_23 => ?_
   have := m_27.size
   have z_26 := Ext.mod z_19 m_27 (ge1 (by omega))
   have := m_27.size
   refine nK <| rg <| vm rfl <| vL (fa eF1 rfl) <| vL (ld rfl (B_23.one eF7 rfl)) <| bs (e := 3) (cs := [.int .i64 s0.player]) rfl (λ _ => by kernel_rfl) rfl λ w_30 b_31 x_32 l_33 B_34 => ?_
   have := x_32.size
   have z_30 := eT z_26 x_32
   have q_36 := B_34.lt
   have OLx := OLx.later x_21
   have OLx := OLx.mod m_27 (fk1 u_17 (by omega))
   have OLx := OLx.later x_32
   refine ap MtL_el_S_int Rep.flat_bare OLx (Blk.has1 (R := repI) (by_ := 8) (q := s0.player) B_34 ⟨rfl, o1⟩ (by decide)) rfl rfl (by simp only [List.length_cons, List.length_nil]; omega) (by simp only [List.length_cons, List.length_nil]; omega) (by omega) rfl λ w_37 A_38 c_39 m_40 O_41 g_42 n_43 => ?_
   have := m_40.size
   have z_37 := Ext.mod z_30 m_40 (λ q hq => Nat.le_trans (by omega) (OLx.lt q hq).1)
   have u_45 := λ q hq => (O_41.lt q hq).2
   have := m_40.size
   refine va rfl <| nl <| nB <| nT <| rg <| vL (bad rfl rfl (inI (by omega))) <| vm rfl <| nl <| ?_
   have HSx := HSx.later x_21
   have HSx := HSx.mod m_27 (fk1 u_16 (by omega))
   have HSx := HSx.later x_32
   have HSx := HSx.mod m_40 (λ q hq h => by exfalso; (exact d_11 q h hq))
   exact nI _ _ ⟨k + 1, Lo ++ [s0.player], A_38, c_39, rfl, rfl, z_37, HSx, O_41, by omega, by rw [hLo]; exact (map_snoc _ hs0).symm, λ q hq hb => by exfalso; (exact Or.elim (g_42 q hq) (λ k_47 => by (exact d_11 q k_47 hb)) (λ k_47 => by (have := u_16 q hb; omega))), (λ q hq hb => by (exact Or.elim (g_42 q hq) (λ k_48 => by (exact d_11 q k_48 hb)) (λ k_48 => by (have := u_16 q hb; omega))))⟩ (by omega) (.cons rfl (.cons rfl (.cons rfl (.cons rfl (.cons rfl (.cons (loI rfl (by first | omega | rfl | (simp <;> omega))) .nil))))))
  ·have ek : k = (tabS L1).length := by omega
   rw [ek, List.take_length] at hLo
   refine xt <| xT <| xK <| xB <| nT <| sg <| vm rfl <| va rfl <| va rfl <| nK <| rt <| tR (.tmp rfl (.tmp rfl .nil)) <| ?_
   exact ⟨0, AL, cL, Lo, rfl, ⟨h0.symm.trans he1, by rw [hLo, hL1]; rfl⟩, OLx, z_12⟩
end
section
open Go.RowKit
theorem ret_bool {a b : Bool} (h : a = b) : Ending.returned (.bool a) = .returned (.bool b) := by rw [h]
theorem equal_I (A B : Option Addr) (c d b1 b2 : Nat) (l m : List Int) (w : World) (h1 : repI.SHas b1 w A c l) (h2 : repI.SHas b2 w B d m) :
  Calls Try.prog 40 #[.slice A l.length c, .slice B m.length d] w λ e w' => e = .returned (.bool (decide (l = m))) ∧ Below w.heap.size w w' := by
 obtain ⟨n, HN⟩ : ∃ n, Hid (l.length = n) := ⟨_, Lib.hid rfl⟩
 obtain ⟨n2, HM⟩ : ∃ n, Hid (m.length = n) := ⟨_, Lib.hid rfl⟩
 have hle : n ≤ 9223372036854775807 := by have := h1.len_le; rw [HN.out] at this; exact this
 have H1 := Lib.hid h1
 have H2 := Lib.hid h2
 clear h1 h2
 rw [HN.out, HM.out]
 by_cases hnn : n = n2
 ·subst hnn
  have hd : ((n : Int) != (n : Int)) = false := by simp
  go_enter Try.func40, Try.ntmps40
  go_wp2_with fail
  clear hd
  go_loopw [5, 13] (λ _ iv wr => ∃ (k q : Nat), k ≤ n ∧ iv = .int .i64 (k : Int) ∧ Hid (l.take k = m.take k) ∧ Hid (wr = w.drewN q)) (λ _ iv _ => n - (intOf iv).toNat)
  case atStart => exact ⟨0, 0, Nat.zero_le _, rfl, (by show _ = _; simp), rfl⟩
  case round =>
   obtain ⟨k, q, hk, rfl, HK, HW⟩ := hrel
   have hbr : Below w.heap.size w wr := by rw [HW.out]; exact below_drewN (Below.refl _ w) q
   by_cases hlt : k < n
   ·obtain ⟨x, hx⟩ := get_of (l := l) (i := k) (by rw [HN.out]; exact hlt)
    obtain ⟨y, hy⟩ := get_of (l := m) (i := k) (by rw [HM.out]; exact hlt)
    obtain ⟨b1, o1, rfl, hc1⟩ := repI_at (H1.out.keep hbr) (by rw [HN.out]; omega)
    obtain ⟨b2, o2, rfl, hc2⟩ := repI_at (H2.out.keep hbr) (by rw [HM.out]; omega)
    have q0 := hc1 k x hx
    have r0 := hc2 k y hy
    have hki : (k : Int) < (n : Int) := by omega
    have hk0 : (0 : Int) ≤ (k : Int) := by omega
    have htl : l.take (k + 1) = l.take k ++ [x] := by rw [List.take_add_one, hx]; rfl
    have htm : m.take (k + 1) = m.take k ++ [y] := by rw [List.take_add_one, hy]; rfl
    have HTL := Lib.hid htl
    have HTM := Lib.hid htm
    have HX := Lib.hid hx
    have HY := Lib.hid hy
    clear hc1 hc2 htl htm hx hy
    by_cases hxy : x = y
    ·subst hxy
     have HK2 : Hid (l.take (k + 1) = m.take (k + 1)) := Lib.hid (by rw [HTL.out, HTM.out, HK.out])
     go_wp2_with fail
     go_quiet (fail)
     go_wp2_with fail
     go_roundw
     case rel => exact ⟨k + 1, _, by omega, by go_num, HK2, by show _ = _; rw [HW.out]; simp; rfl⟩
     case measure => simp [intOf]; omega
    ·have HF : Hid (decide (l = m) = false) := Lib.hid (decide_eq_false λ e => hxy (by have h1 := HX.out; rw [e, HY.out] at h1; exact (Option.some.inj h1).symm))
     have hne : (x == y) = false := by simpa using hxy
     have hne2 : (x != y) = true := by simpa using hxy
     clear hxy
     go_wp2_with fail
     go_quiet (fail)
     go_wp2_with fail
     go_ret
     exact ⟨ret_bool HF.out.symm, below_drewN hbr _⟩
   ·have HT : Hid (decide (l = m) = true) := Lib.hid (decide_eq_true (by have := HK.out; rw [List.take_of_length_le (by rw [HN.out]; omega), List.take_of_length_le (by rw [HM.out]; omega)] at this; exact this))
    clear HK
    go_wp2_with fail
    go_ret
    exact ⟨ret_bool HT.out.symm, hbr⟩
 ·have HF : Hid (decide (l = m) = false) := Lib.hid (decide_eq_false λ e => hnn (by rw [← HN.out, ← HM.out, e]))
  have hd : ((n : Int) != (n2 : Int)) = true := by simp; omega
  rw [HF.out]
  go_enter Try.func40, Try.ntmps40
  go_wp2_with fail
  go_ret
  exact ⟨rfl, Below.refl _ _⟩
end
end Go.Proofs.Ytifffjhhammeiaa
set_option linter.unusedVariables false
set_option linter.unusedSimpArgs false
namespace Go.Proofs.Ytifffjhhammeiaa
open Go.RowKit

structure Cel where
 x : Int
 y : Int
 deriving DecidableEq, Inhabited
namespace Cel
def cells (a : Cel) : List Value := [.int .i64 (a.x), .int .i64 (a.y)]
def ok (a : Cel) : Prop := (Lit.int .i64 a.x).wf = true ∧ (Lit.int .i64 a.y).wf = true
def raw (j : Nat) (u : Value) : Prop := match j with
 | 0 => ∃ n : Int, u = .int .i64 n
 | 1 => ∃ n : Int, u = .int .i64 n
 | _ => True
theorem cells_raw (a : Cel) : ∀ (j : Nat) u, a.cells[j]? = some u → raw j u := by
 intro j u hu
 match j, hu with
 | 0, hu => exact ⟨_, (Option.some.inj hu).symm⟩
 | 1, hu => exact ⟨_, (Option.some.inj hu).symm⟩
 | j + 2, hu => exact trivial
theorem cells_one (a : Cel) : ∀ u ∈ a.cells, u.oneCell' = true := by
 intro u hu
 unfold cells at hu
 simp only [List.mem_cons, List.not_mem_nil, or_false] at hu
 rcases hu with rfl | rfl <;> rfl
def rep : Rep Cel := Rep.flat 2 cells ok raw (λ _ => rfl) cells_one cells_raw
theorem plain : rep.Plain := Rep.flat_plain
def zero : Value := .agg #[.int .i64 0, .int .i64 0]
theorem all_ok {by_ : Nat} {w : World} {A : Option Addr} {c : Nat} {l : List Cel} (h : rep.SHas by_ w A c l) : ∀ a ∈ l, a.ok := Rep.SHas.all_ (R := rep) (Q := ok) (fun {w cs a} (h : rep.has w cs a) => (show cs = a.cells ∧ a.ok from h).2) h
theorem blk {w : World} {g : Nat} {t : TypeId} {fr : Nat × Nat} {a : Cel} (h : Blk w g a.cells t fr) : w.cell? ⟨g, 0, none⟩ = some (.int .i64 (a.x)) ∧ w.cell? ⟨g, 1, none⟩ = some (.int .i64 (a.y)) :=
 ⟨h.cell 0, h.cell 1⟩
def sh : Sh := (.cons (.int .i64) (.cons (.int .i64) .nil))
theorem opens (w : World) (cs : List Value) (h : sh.Ok w cs) : ∃ a, rep.has w cs a := by
 obtain ⟨_, _, rfl, _, _, ⟨x0, rfl, k0⟩, ⟨_, _, rfl, _, _, ⟨x1, rfl, k1⟩, rfl⟩⟩ := h
 exact ⟨⟨x0, x1⟩, rfl, k0, k1⟩
end Cel
end Go.Proofs.Ytifffjhhammeiaa
set_option linter.unusedVariables false
set_option linter.unusedSimpArgs false
namespace Go.Proofs.Ytifffjhhammeiaa
open Go.RowKit

structure Trp where
 id : Int
 owner : Int
 kind : Int
 spot : Cel
 life : Int
 load : Int
 deriving DecidableEq, Inhabited
namespace Trp
def cells (a : Trp) : List Value := [.int .i64 (a.id), .int .i64 (a.owner), .int .i64 (a.kind), .int .i64 (a.spot.x), .int .i64 (a.spot.y), .int .i64 (a.life), .int .i64 (a.load)]
def ok (a : Trp) : Prop := (Lit.int .i64 a.id).wf = true ∧ (Lit.int .i64 a.owner).wf = true ∧ (Lit.int .i64 a.kind).wf = true ∧ (Lit.int .i64 a.spot.x).wf = true ∧ (Lit.int .i64 a.spot.y).wf = true ∧ (Lit.int .i64 a.life).wf = true ∧ (Lit.int .i64 a.load).wf = true
def raw (j : Nat) (u : Value) : Prop := match j with
 | 0 => ∃ n : Int, u = .int .i64 n
 | 1 => ∃ n : Int, u = .int .i64 n
 | 2 => ∃ n : Int, u = .int .i64 n
 | 3 => ∃ n : Int, u = .int .i64 n
 | 4 => ∃ n : Int, u = .int .i64 n
 | 5 => ∃ n : Int, u = .int .i64 n
 | 6 => ∃ n : Int, u = .int .i64 n
 | _ => True
theorem cells_raw (a : Trp) : ∀ (j : Nat) u, a.cells[j]? = some u → raw j u := by
 intro j u hu
 match j, hu with
 | 0, hu => exact ⟨_, (Option.some.inj hu).symm⟩
 | 1, hu => exact ⟨_, (Option.some.inj hu).symm⟩
 | 2, hu => exact ⟨_, (Option.some.inj hu).symm⟩
 | 3, hu => exact ⟨_, (Option.some.inj hu).symm⟩
 | 4, hu => exact ⟨_, (Option.some.inj hu).symm⟩
 | 5, hu => exact ⟨_, (Option.some.inj hu).symm⟩
 | 6, hu => exact ⟨_, (Option.some.inj hu).symm⟩
 | j + 7, hu => exact trivial
theorem cells_one (a : Trp) : ∀ u ∈ a.cells, u.oneCell' = true := by
 intro u hu
 unfold cells at hu
 simp only [List.mem_cons, List.not_mem_nil, or_false] at hu
 rcases hu with rfl | rfl | rfl | rfl | rfl | rfl | rfl <;> rfl
def rep : Rep Trp := Rep.flat 7 cells ok raw (λ _ => rfl) cells_one cells_raw
theorem plain : rep.Plain := Rep.flat_plain
def zero : Value := .agg #[.int .i64 0, .int .i64 0, .int .i64 0, .int .i64 0, .int .i64 0, .int .i64 0, .int .i64 0]
theorem all_ok {by_ : Nat} {w : World} {A : Option Addr} {c : Nat} {l : List Trp} (h : rep.SHas by_ w A c l) : ∀ a ∈ l, a.ok := Rep.SHas.all_ (R := rep) (Q := ok) (fun {w cs a} (h : rep.has w cs a) => (show cs = a.cells ∧ a.ok from h).2) h
theorem blk {w : World} {g : Nat} {t : TypeId} {fr : Nat × Nat} {a : Trp} (h : Blk w g a.cells t fr) : w.cell? ⟨g, 0, none⟩ = some (.int .i64 (a.id)) ∧ w.cell? ⟨g, 1, none⟩ = some (.int .i64 (a.owner)) ∧ w.cell? ⟨g, 2, none⟩ = some (.int .i64 (a.kind)) ∧ w.cell? ⟨g, 3, none⟩ = some (.int .i64 (a.spot.x)) ∧ w.cell? ⟨g, 4, none⟩ = some (.int .i64 (a.spot.y)) ∧ w.cell? ⟨g, 5, none⟩ = some (.int .i64 (a.life)) ∧ w.cell? ⟨g, 6, none⟩ = some (.int .i64 (a.load)) :=
 ⟨h.cell 0, h.cell 1, h.cell 2, h.cell 3, h.cell 4, h.cell 5, h.cell 6⟩
def sh : Sh := (.cons (.int .i64) (.cons (.int .i64) (.cons (.int .i64) (.cons (.cons (.int .i64) (.cons (.int .i64) .nil)) (.cons (.int .i64) (.cons (.int .i64) .nil))))))
theorem opens (w : World) (cs : List Value) (h : sh.Ok w cs) : ∃ a, rep.has w cs a := by
 obtain ⟨_, _, rfl, _, _, ⟨x0, rfl, k0⟩, ⟨_, _, rfl, _, _, ⟨x1, rfl, k1⟩, ⟨_, _, rfl, _, _, ⟨x2, rfl, k2⟩, ⟨_, _, rfl, _, _, ⟨_, _, rfl, _, _, ⟨x3, rfl, k3⟩, ⟨_, _, rfl, _, _, ⟨x4, rfl, k4⟩, rfl⟩⟩, ⟨_, _, rfl, _, _, ⟨x5, rfl, k5⟩, ⟨_, _, rfl, _, _, ⟨x6, rfl, k6⟩, rfl⟩⟩⟩⟩⟩⟩ := h
 exact ⟨⟨x0, x1, x2, ⟨x3, x4⟩, x5, x6⟩, rfl, k0, k1, k2, k3, k4, k5, k6⟩
end Trp
end Go.Proofs.Ytifffjhhammeiaa
set_option linter.unusedVariables false
set_option linter.unusedSimpArgs false
namespace Go.Proofs.Ytifffjhhammeiaa
open Go.RowKit

structure Fld where
 wide : Int
 high : Int
 places : List Int
 deriving DecidableEq, Inhabited
structure Wd where
 field : Fld
 bases : List Cel
 stocks : List Int
 mines : List Int
 troops : List Trp
 next : Int
 now : Int
 deriving DecidableEq, Inhabited
namespace Fld
def placeOk (p : Int) : Bool := inB p 0 3
def chk (f : Fld) : Int :=
 if inB f.wide 1 40 && inB f.high 1 40 then (if decide ((f.places.length : Int) = f.wide * f.high) && f.places.all placeOk then 0 else 4) else 1
def isIn (f : Fld) (c : Cel) : Bool := inB c.x 0 (f.wide - 1) && inB c.y 0 (f.high - 1)
def place (f : Fld) (c : Cel) : Int := f.places.getD (c.y * f.wide + c.x).toNat 0
def ground (f : Fld) (c : Cel) : Bool := f.isIn c && f.place c != 1
theorem good {f : Fld} (h : f.chk = 0) : 1 ≤ f.wide ∧ f.wide ≤ 40 ∧ 1 ≤ f.high ∧ f.high ≤ 40 ∧ (f.places.length : Int) = f.wide * f.high ∧ ∀ p ∈ f.places, 0 ≤ p ∧ p ≤ 3 := by
 unfold chk at h
 split at h
 ·rename_i h1
  rw [Bool.and_eq_true] at h1
  have a := inB_true h1.1
  have b := inB_true h1.2
  split at h
  ·rename_i h2
   rw [Bool.and_eq_true, List.all_eq_true] at h2
   exact ⟨a.1, a.2, b.1, b.2, by simpa using h2.1, λ p hp => inB_true (h2.2 p hp)⟩
  ·cases h
 ·cases h
theorem idx {f : Fld} (h : f.chk = 0) {c : Cel} (hc : f.isIn c = true) : 0 ≤ c.y * f.wide + c.x ∧ c.y * f.wide + c.x < (f.places.length : Int) ∧ 0 ≤ c.x ∧ c.x < f.wide ∧ 0 ≤ c.y ∧ c.y < f.high := by
 obtain ⟨g1, g2, g3, g4, g5, _⟩ := good h
 unfold isIn at hc
 rw [Bool.and_eq_true] at hc
 have a := inB_true hc.1
 have b := inB_true hc.2
 have e1 : 0 ≤ c.y * f.wide := Int.mul_nonneg b.1 (by omega)
 have e2 : c.y * f.wide ≤ (f.high - 1) * f.wide := Int.mul_le_mul_of_nonneg_right b.2 (by omega)
 have e3 : (f.high - 1) * f.wide = f.wide * f.high - f.wide := by rw [Int.sub_mul, Int.one_mul, Int.mul_comm]
 rw [g5]
 omega
end Fld
namespace Fld
def atE (f : Fld) (c : Cel) : Int := if f.chk ≠ 0 then f.chk else if f.isIn c then 0 else 7
def atV (f : Fld) (c : Cel) : Int := if f.chk ≠ 0 then 0 else if f.isIn c then f.place c else 0
end Fld
def kindOf (k : Int) : Option (Int × Int × Int × Int) := if k = 1 then some (10, 1, 1, 5) else if k = 2 then some (20, 2, 4, 12) else none
namespace Wd
def okBase (W : Wd) (i : Nat) : Bool := W.field.ground (W.bases.getD i default) && !(W.bases.take i).contains (W.bases.getD i default) && inB (W.stocks.getD i 0) 0 1000000
def players (W : Wd) : Bool := decide (W.stocks.length = W.bases.length) && (List.range W.bases.length).all W.okBase
def okMine (W : Wd) (i : Nat) : Bool := inB (W.mines.getD i 0) 0 1000000 && (decide (W.mines.getD i 0 ≤ 0) || W.field.places.getD i 0 == 3)
def minesOk (W : Wd) : Bool := decide (W.mines.length = W.field.places.length) && (List.range W.mines.length).all W.okMine
def lastId (W : Wd) (i : Nat) : Int := if i = 0 then 0 else (W.troops.getD (i - 1) default).id
def lifeOf (k : Int) : Int := if k = 1 then 10 else if k = 2 then 20 else 0
def mostOf (k : Int) : Int := if k = 1 then 5 else 0
def okOne (W : Wd) (lx nx : Int) (t : Trp) : Bool :=
 inB t.kind 1 2 && inB t.id lx nx && inB t.owner 0 ((W.bases.length : Int) - 1) && W.field.ground t.spot && inB t.life 1 (lifeOf t.kind) && inB t.load 0 (mostOf t.kind)
def spots (W : Wd) (k : Nat) : List Cel := (W.troops.take k).map (·.spot)
def okTroop (W : Wd) (i : Nat) : Bool := W.okOne (wrap64 (W.lastId i + 1)) (wrap64 (W.next - 1)) (W.troops.getD i default) && !(W.spots i).contains (W.troops.getD i default).spot
def troopsOk (W : Wd) : Bool := (List.range W.troops.length).all W.okTroop && (inB W.next 1 1000000 && inB W.now 0 1000000)
def chk (W : Wd) : Int :=
 if W.field.chk ≠ 0 then W.field.chk else if 8 < W.bases.length ∨ 100 < W.troops.length then 2 else if W.players && W.minesOk && W.troopsOk then 0 else 4
structure At where
 P : Option Addr
 B : Option Addr
 S : Option Addr
 M : Option Addr
 T : Option Addr
 p : Nat
 b : Nat
 s : Nat
 m : Nat
 t : Nat
def fcells (A : Option Addr) (c : Nat) (f : Fld) : List Value := [.int .i64 f.wide, .int .i64 f.high, .slice A f.places.length c]
def cells (h : At) (W : Wd) : List Value :=
 [.int .i64 W.field.wide, .int .i64 W.field.high, .slice h.P W.field.places.length h.p, .slice h.B W.bases.length h.b, .slice h.S W.stocks.length h.s, .slice h.M W.mines.length h.m, .slice h.T W.troops.length h.t, .int .i64 W.next, .int .i64 W.now]
structure Has (w : World) (h : At) (W : Wd) : Prop where
 P : repI.SHas 8 w h.P h.p W.field.places
 B : Cel.rep.SHas 16 w h.B h.b W.bases
 S : repI.SHas 8 w h.S h.s W.stocks
 M : repI.SHas 8 w h.M h.m W.mines
 T : Trp.rep.SHas 56 w h.T h.t W.troops
 nums : okI W.field.wide ∧ okI W.field.high ∧ okI W.next ∧ okI W.now
theorem Has.keep {w w' : World} {h : At} {W : Wd} (hw : Has w h W) (hb : Below w.heap.size w w') : Has w' h W :=
 ⟨hw.P.keep hb, hw.B.keep hb, hw.S.keep hb, hw.M.keep hb, hw.T.keep hb, hw.nums⟩
def fsh : Sh := .cons (.int .i64) (.cons (.int .i64) (.cons (.slice (.int .i64) 8) .nil))
def sh : Sh := .cons fsh (.cons (.slice Cel.sh 16) (.cons (.slice (.int .i64) 8) (.cons (.slice (.int .i64) 8) (.cons (.slice Trp.sh 56) (.cons (.int .i64) (.cons (.int .i64) .nil))))))
theorem opens (w : World) (cs : List Value) (h : sh.Ok w cs) : ∃ h W, cs = cells h W ∧ Has w h W := by
 obtain ⟨_, _, rfl, _, _, ⟨_, _, rfl, _, _, ⟨x0, rfl, k0⟩, _, _, rfl, _, _, ⟨x1, rfl, k1⟩, _, _, rfl, _, _, hP, rfl⟩, _, _, rfl, _, _, hB, _, _, rfl, _, _, hS, _, _, rfl, _, _, hM, _, _, rfl, _, _, hT, _, _, rfl, _, _, ⟨x2, rfl, k2⟩, _, _, rfl, _, _, ⟨x3, rfl, k3⟩, rfl⟩ := h
 obtain ⟨aP, cP, lP, rfl, HP⟩ := Rep.opens_slice (R := repI) repI_opens rfl (by decide) hP
 obtain ⟨aB, cB, lB, rfl, HB⟩ := Rep.opens_slice (R := Cel.rep) Cel.opens rfl (by decide) hB
 obtain ⟨aS, cS, lS, rfl, HS⟩ := Rep.opens_slice (R := repI) repI_opens rfl (by decide) hS
 obtain ⟨aM, cM, lM, rfl, HM⟩ := Rep.opens_slice (R := repI) repI_opens rfl (by decide) hM
 obtain ⟨aT, cT, lT, rfl, HT⟩ := Rep.opens_slice (R := Trp.rep) Trp.opens rfl (by decide) hT
 exact ⟨⟨aP, aB, aS, aM, aT, cP, cB, cS, cM, cT⟩, ⟨⟨x0, x1, lP⟩, lB, lS, lM, lT, x2, x3⟩, rfl, HP, HB, HS, HM, HT, k0, k1, k2, k3⟩
end Wd
end Go.Proofs.Ytifffjhhammeiaa
set_option linter.unusedVariables false
set_option linter.unusedSimpArgs false
namespace Go.Proofs.Ytifffjhhammeiaa
open Go.RowKit

namespace Wd
theorem chk_all {W : Wd} (h : W.field.chk = 0) (h2 : ¬ (8 < W.bases.length ∨ 100 < W.troops.length)) : W.chk = if W.players && W.minesOk && W.troopsOk then 0 else 4 := by unfold chk; rw [if_neg (by simpa using h), if_neg h2]
end Wd
theorem Wd.players_ok {W : Wd} (h : W.stocks.length = W.bases.length) (ha : ∀ k, k < W.bases.length → W.okBase k = true) : W.players = true := by
 unfold Wd.players
 rw [decide_eq_true h, Bool.true_and, List.all_eq_true]
 exact λ k hk => ha k (List.mem_range.1 hk)
theorem Wd.mines_ok {W : Wd} (h : W.mines.length = W.field.places.length) (ha : ∀ k, k < W.mines.length → W.okMine k = true) : W.minesOk = true := by
 unfold Wd.minesOk
 rw [decide_eq_true h, Bool.true_and, List.all_eq_true]
 exact λ k hk => ha k (List.mem_range.1 hk)
def isId (id : Int) (t : Trp) : Bool := t.id == id
def isAt (p : Cel) (t : Trp) : Bool := decide (t.spot = p)
def whichI (W : Wd) (p : Trp → Bool) : Int := if W.chk = 0 then max (idxI p W.troops) 0 else 0
def whichB (W : Wd) (p : Trp → Bool) : Bool := decide (W.chk = 0) && decide (0 ≤ idxI p W.troops)
def nearT (c : Cel) (r : Int) (t : Trp) : Bool := inB c.x (t.spot.x - r) (t.spot.x + r) && inB c.y (t.spot.y - r) (t.spot.y + r)
def nearIds (W : Wd) (c : Cel) (r : Int) : List Int := (W.troops.filter (nearT c r)).map (·.id)
def nearE (W : Wd) (r : Int) : Int := if W.chk ≠ 0 then W.chk else if inB r 0 12 then 0 else 1
end Go.Proofs.Ytifffjhhammeiaa
set_option linter.unusedVariables false
set_option linter.unusedSimpArgs false
namespace Go.Proofs.Ytifffjhhammeiaa
open Go.RowKit

theorem wrap_small {x : Int} (h1 : -1000 ≤ x) (h2 : x ≤ 2000000) : wrap64 x = x := by
 have h := IntKind.wrap_i64 x
 unfold wrap64
 first | (rw [h]; omega) | omega
end Go.Proofs.Ytifffjhhammeiaa
set_option linter.unusedVariables false
set_option linter.unusedSimpArgs false
namespace Go.Proofs.Ytifffjhhammeiaa
open Go.RowKit
structure TroopOk (f : Fld) (nb : Nat) (t : Trp) : Prop where
 kind : t.kind = 1 ∨ t.kind = 2
 owner : 0 ≤ t.owner ∧ t.owner < (nb : Int)
 ground : f.ground t.spot = true
 life : 1 ≤ t.life ∧ t.life ≤ Wd.lifeOf t.kind
 load : 0 ≤ t.load ∧ t.load ≤ Wd.mostOf t.kind
structure Good (W : Wd) : Prop where
 field : W.field.chk = 0
 nb : W.bases.length ≤ 8
 nt : W.troops.length ≤ 100
 sl : W.stocks.length = W.bases.length
 bases : ∀ (i : Nat) c, W.bases[i]? = some c → W.field.ground c = true ∧ (W.bases.take i).contains c = false
 stocks : ∀ (i : Nat) s, W.stocks[i]? = some s → 0 ≤ s ∧ s ≤ 1000000
 ml : W.mines.length = W.field.places.length
 mines : ∀ (i : Nat) m, W.mines[i]? = some m → 0 ≤ m ∧ m ≤ 1000000 ∧ (m ≤ 0 ∨ W.field.places.getD i 0 = 3)
 troops : ∀ (i : Nat) t, W.troops[i]? = some t → TroopOk W.field W.bases.length t
 ids : ∀ (i : Nat) t, W.troops[i]? = some t → W.lastId i < t.id ∧ t.id < W.next ∧ 0 ≤ W.lastId i
 spots : ∀ (i : Nat) t, W.troops[i]? = some t → (W.spots i).contains t.spot = false
 next : 1 ≤ W.next ∧ W.next ≤ 1000000
 now : 0 ≤ W.now ∧ W.now ≤ 1000000
theorem Good.chk {W : Wd} (h : Good W) : W.chk = 0 := by
 have hp : W.players = true := Wd.players_ok h.sl λ k hk => by
  obtain ⟨c, hc⟩ := get_of hk
  obtain ⟨s, hs⟩ := get_of (l := W.stocks) (i := k) (by rw [h.sl]; exact hk)
  unfold Wd.okBase
  rw [List.getD_eq_getElem?_getD, hc, List.getD_eq_getElem?_getD, hs]
  have h1 := h.bases k c hc
  have h2 := h.stocks k s hs
  simp only [Option.getD_some]
  rw [h1.1, h1.2, inB_mk h2.1 h2.2]; rfl
 have hm : W.minesOk = true := Wd.mines_ok h.ml λ k hk => by
  obtain ⟨m, hm⟩ := get_of hk
  have h1 := h.mines k m hm
  unfold Wd.okMine
  rw [List.getD_eq_getElem?_getD, hm]
  simp only [Option.getD_some]
  rw [inB_mk h1.1 h1.2.1, Bool.true_and, Bool.or_eq_true]
  rcases h1.2.2 with h3 | h3
  ·exact .inl (by simpa using h3)
  ·exact .inr (by simpa using h3)
 have ht : W.troopsOk = true := by
  unfold Wd.troopsOk
  rw [inB_mk h.next.1 h.next.2, inB_mk h.now.1 h.now.2, Bool.and_true, Bool.and_true, List.all_eq_true]
  intro k hk
  obtain ⟨t, ht⟩ := get_of (List.mem_range.1 hk)
  have h1 := h.troops k t ht
  have h2 := h.ids k t ht
  have h3 := h.spots k t ht
  have hn := h.next
  unfold Wd.okTroop Wd.okOne
  rw [List.getD_eq_getElem?_getD, ht]
  simp only [Option.getD_some]
  have k1 : inB t.kind 1 2 = true := by
   rcases h1.kind with h | h
   ·exact inB_mk (by omega) (by omega)
   ·exact inB_mk (by omega) (by omega)
  have k2 : inB t.id (W.lastId k + 1) (W.next - 1) = true := inB_mk (by omega) (by omega)
  have k3 : inB t.owner 0 ((W.bases.length : Int) - 1) = true := inB_mk h1.owner.1 (by have := h1.owner.2; omega)
  rw [wrap_small (by omega) (by omega), wrap_small (by omega) (by omega), k1, k2, k3, h3, h1.ground, inB_mk h1.life.1 h1.life.2, inB_mk h1.load.1 h1.load.2]
  rfl
 rw [Wd.chk_all h.field (by have := h.nb; have := h.nt; omega), hp, hm, ht]
 rfl
end Go.Proofs.Ytifffjhhammeiaa
set_option linter.unusedVariables false
set_option linter.unusedSimpArgs false
namespace Go.Proofs.Ytifffjhhammeiaa
open Go.RowKit

def WOwn.foot (a : Wd.At) : List Nat := Rep.blkOf a.P ++ Rep.blkOf a.B ++ Rep.blkOf a.S ++ Rep.blkOf a.M ++ Rep.blkOf a.T
end Go.Proofs.Ytifffjhhammeiaa
namespace Go.Proofs.Ytifffjhhammeiaa
end Go.Proofs.Ytifffjhhammeiaa
set_option linter.unusedVariables false
set_option linter.unusedSimpArgs false
namespace Go.Proofs.Ytifffjhhammeiaa
open Go.RowKit

def Fld.badPlace (p : Int) : Bool := !Fld.placeOk p
end Go.Proofs.Ytifffjhhammeiaa
set_option linter.unusedVariables false
set_option linter.unusedSimpArgs false
namespace Go.Proofs.Ytifffjhhammeiaa
open Go.RowKit

end Go.Proofs.Ytifffjhhammeiaa
set_option linter.unusedVariables false
set_option linter.unusedSimpArgs false
namespace Go.Proofs.Ytifffjhhammeiaa
open Go.RowKit

def AtPost (f : Fld) (c : Cel) (w : World) (e : Ending) (w' : World) : Prop := e = .returned (.tuple #[.int .i64 (f.atV c), .int .i64 (f.atE c)]) ∧ Below w.heap.size w w'
end Go.Proofs.Ytifffjhhammeiaa
set_option linter.unusedVariables false
set_option linter.unusedSimpArgs false
namespace Go.Proofs.Ytifffjhhammeiaa
open Go.RowKit

def Cel.is (p x : Cel) : Bool := decide (x = p)
end Go.Proofs.Ytifffjhhammeiaa
namespace Go.Proofs.Ytifffjhhammeiaa
section
open Go.RowKit
namespace Wd
def priceOf (k : Int) : Int := if k = 1 then 5 else if k = 2 then 12 else 0
end Wd
theorem Below.ext {Z : Nat} {w w1 w2 : World} (h : Below Z w w1) (x : Ext w1 w2) (hZ : Z ≤ w1.heap.size) : Below Z w w2 := Go.RowKit.Below.trans h (Go.RowKit.Below.mono x hZ)
def reachOf (k : Int) : Int := if k = 1 then 1 else if k = 2 then 2 else 0
def harmOf (k : Int) : Int := if k = 1 then 1 else if k = 2 then 4 else 0
def kindE (k : Int) : Int := if k = 1 then 0 else if k = 2 then 0 else 1
def Wd.zero : Wd := ⟨⟨0, 0, []⟩, [], [], [], [], 0, 0⟩
structure Pairs (a : Wd.At) : Prop where
 PS : ∀ q ∈ Rep.blkOf a.P, q ∈ Rep.blkOf a.S → False
 PM : ∀ q ∈ Rep.blkOf a.P, q ∈ Rep.blkOf a.M → False
 PB : ∀ q ∈ Rep.blkOf a.P, q ∈ Rep.blkOf a.B → False
 PT : ∀ q ∈ Rep.blkOf a.P, q ∈ Rep.blkOf a.T → False
 SM : ∀ q ∈ Rep.blkOf a.S, q ∈ Rep.blkOf a.M → False
 SB : ∀ q ∈ Rep.blkOf a.S, q ∈ Rep.blkOf a.B → False
 ST : ∀ q ∈ Rep.blkOf a.S, q ∈ Rep.blkOf a.T → False
 MB : ∀ q ∈ Rep.blkOf a.M, q ∈ Rep.blkOf a.B → False
 MT : ∀ q ∈ Rep.blkOf a.M, q ∈ Rep.blkOf a.T → False
 BT : ∀ q ∈ Rep.blkOf a.B, q ∈ Rep.blkOf a.T → False
end
section
open Go.RowKit
structure Ded where
 kind : Int
 who : Int
 spot : Cel
 what : Int
 deriving DecidableEq, Inhabited
namespace Ded
def cells (a : Ded) : List Value := [.int .i64 (a.kind), .int .i64 (a.who), .int .i64 (a.spot.x), .int .i64 (a.spot.y), .int .i64 (a.what)]
def ok (a : Ded) : Prop := (Lit.int .i64 a.kind).wf = true ∧ (Lit.int .i64 a.who).wf = true ∧ (Lit.int .i64 a.spot.x).wf = true ∧ (Lit.int .i64 a.spot.y).wf = true ∧ (Lit.int .i64 a.what).wf = true
def raw (j : Nat) (u : Value) : Prop := match j with
 | 0 => ∃ n : Int, u = .int .i64 n
 | 1 => ∃ n : Int, u = .int .i64 n
 | 2 => ∃ n : Int, u = .int .i64 n
 | 3 => ∃ n : Int, u = .int .i64 n
 | 4 => ∃ n : Int, u = .int .i64 n
 | _ => True
theorem cells_raw (a : Ded) : ∀ (j : Nat) u, a.cells[j]? = some u → raw j u := by
 intro j u hu
 match j, hu with
 | 0, hu => exact ⟨_, (Option.some.inj hu).symm⟩
 | 1, hu => exact ⟨_, (Option.some.inj hu).symm⟩
 | 2, hu => exact ⟨_, (Option.some.inj hu).symm⟩
 | 3, hu => exact ⟨_, (Option.some.inj hu).symm⟩
 | 4, hu => exact ⟨_, (Option.some.inj hu).symm⟩
 | j + 5, hu => exact trivial
theorem cells_one (a : Ded) : ∀ u ∈ a.cells, u.oneCell' = true := by
 intro u hu
 unfold cells at hu
 simp only [List.mem_cons, List.not_mem_nil, or_false] at hu
 rcases hu with rfl | rfl | rfl | rfl | rfl <;> rfl
def rep : Rep Ded := Rep.flat 5 cells ok raw (λ _ => rfl) cells_one cells_raw
theorem plain : rep.Plain := Rep.flat_plain
def zero : Value := .agg #[.int .i64 0, .int .i64 0, .int .i64 0, .int .i64 0, .int .i64 0]
theorem all_ok {by_ : Nat} {w : World} {A : Option Addr} {c : Nat} {l : List Ded} (h : rep.SHas by_ w A c l) : ∀ a ∈ l, a.ok := Rep.SHas.all_ (R := rep) (Q := ok) (fun {w cs a} (h : rep.has w cs a) => (show cs = a.cells ∧ a.ok from h).2) h
theorem blk {w : World} {g : Nat} {t : TypeId} {fr : Nat × Nat} {a : Ded} (h : Blk w g a.cells t fr) : w.cell? ⟨g, 0, none⟩ = some (.int .i64 (a.kind)) ∧ w.cell? ⟨g, 1, none⟩ = some (.int .i64 (a.who)) ∧ w.cell? ⟨g, 2, none⟩ = some (.int .i64 (a.spot.x)) ∧ w.cell? ⟨g, 3, none⟩ = some (.int .i64 (a.spot.y)) ∧ w.cell? ⟨g, 4, none⟩ = some (.int .i64 (a.what)) :=
 ⟨h.cell 0, h.cell 1, h.cell 2, h.cell 3, h.cell 4⟩
def sh : Sh := (.cons (.int .i64) (.cons (.int .i64) (.cons (.cons (.int .i64) (.cons (.int .i64) .nil)) (.cons (.int .i64) .nil))))
theorem opens (w : World) (cs : List Value) (h : sh.Ok w cs) : ∃ a, rep.has w cs a := by
 obtain ⟨_, _, rfl, _, _, ⟨x0, rfl, k0⟩, ⟨_, _, rfl, _, _, ⟨x1, rfl, k1⟩, ⟨_, _, rfl, _, _, ⟨_, _, rfl, _, _, ⟨x2, rfl, k2⟩, ⟨_, _, rfl, _, _, ⟨x3, rfl, k3⟩, rfl⟩⟩, ⟨_, _, rfl, _, _, ⟨x4, rfl, k4⟩, rfl⟩⟩⟩⟩ := h
 exact ⟨⟨x0, x1, ⟨x2, x3⟩, x4⟩, rfl, k0, k1, k2, k3, k4⟩
end Ded
end
section
open Go.RowKit
def beside (a b : Cel) : Bool := inB b.x (a.x - 1) (a.x + 1) && inB b.y (a.y - 1) (a.y + 1)
namespace Wd
def place (W : Wd) (c : Cel) : Nat := (c.y * W.field.wide + c.x).toNat
def addLoad (t : Trp) (n : Int) : Trp := { t with load := t.load + n }
def mine (W : Wd) (d : Ded) : Option Wd :=
 match W.troops.findIdx? (isId d.who) with
 | none => none
 | some k =>
  let t := W.troops.getD k default
  let m := W.mines.getD (W.place d.spot) 0
  if t.kind == 1 && decide (t.load < 5) && beside t.spot d.spot && W.field.isIn d.spot && m != 0 then
   some { W with mines := W.mines.set (W.place d.spot) (m - 1), troops := W.troops.set k (addLoad t 1) }
  else none
def drop (W : Wd) (d : Ded) : Option Wd :=
 match W.troops.findIdx? (isId d.who) with
 | none => none
 | some k =>
  let t := W.troops.getD k default
  let o := t.owner.toNat
  let s := W.stocks.getD o 0
  let n := min t.load (1000000 - s)
  if t.load != 0 && beside (W.bases.getD o default) t.spot && decide (0 < n) then
   some { W with stocks := W.stocks.set o (s + n), troops := W.troops.set k (addLoad t (-n)) }
  else none
def around (c : Cel) : List Cel :=
 [c, ⟨c.x - 1, c.y - 1⟩, ⟨c.x, c.y - 1⟩, ⟨c.x + 1, c.y - 1⟩, ⟨c.x - 1, c.y⟩, ⟨c.x, c.y⟩, ⟨c.x + 1, c.y⟩, ⟨c.x - 1, c.y + 1⟩, ⟨c.x, c.y + 1⟩, ⟨c.x + 1, c.y + 1⟩]
def openTo (W : Wd) (c : Cel) : Bool := W.field.ground c && !W.troops.any (isAt c)
def free (W : Wd) (c : Cel) : Option Cel := (around c).find? W.openTo
def hire (W : Wd) (d : Ded) : Option Wd :=
 let s := W.stocks.getD d.who.toNat 0
 if inB d.who 0 ((W.bases.length : Int) - 1) && inB d.what 1 2 && decide (priceOf d.what ≤ s) && decide (W.troops.length < 100) && decide (W.next < 1000000) then
  match W.free (W.bases.getD d.who.toNat default) with
  | none => none
  | some c => some { W with troops := W.troops ++ [⟨W.next, d.who, d.what, c, lifeOf d.what, 0⟩], next := W.next + 1, stocks := W.stocks.set d.who.toNat (s - priceOf d.what) }
 else none
def deed (W : Wd) (d : Ded) : Option Wd := if d.kind = 1 then W.mine d else if d.kind = 2 then W.drop d else if d.kind = 3 then W.hire d else none
def deeds (W : Wd) : List Ded → Wd × List Bool
 | [] => (W, [])
 | d :: l => match W.deed d with
  | some V => ((V.deeds l).1, true :: (V.deeds l).2)
  | none => ((W.deeds l).1, false :: (W.deeds l).2)
end Wd
theorem findId {l : List Trp} {id : Int} {k : Nat} (h : l.findIdx? (isId id) = some k) : ∃ t, l[k]? = some t ∧ t.id = id ∧ l.getD k default = t := by
 obtain ⟨h1, h2, _⟩ := List.findIdx?_eq_some_iff_getElem.1 h
 exact ⟨l[k], List.getElem?_eq_getElem h1, by simpa [isId] using h2, by rw [List.getD_eq_getElem?_getD, List.getElem?_eq_getElem h1]; rfl⟩
theorem spots_set {W V : Wd} {k : Nat} {t u : Trp} (hV : V.troops = W.troops.set k u) (ht : W.troops[k]? = some t) (hs : u.spot = t.spot) (i : Nat) : V.spots i = W.spots i := by
 unfold Wd.spots
 rw [hV, List.take_set, List.map_set]
 by_cases hki : k < i
 ·have h1 : ((W.troops.take i).map (·.spot))[k]? = some t.spot := by rw [List.getElem?_map, List.getElem?_take, if_pos hki, ht]; rfl
  obtain ⟨h2, h3⟩ := List.getElem?_eq_some_iff.1 h1
  rw [hs, ← h3]
  exact List.set_getElem_self _
 ·rw [List.set_eq_of_length_le (by rw [List.length_map, List.length_take]; omega)]
theorem last_set {W V : Wd} {k : Nat} {t u : Trp} (hV : V.troops = W.troops.set k u) (ht : W.troops[k]? = some t) (hs : u.id = t.id) (i : Nat) : V.lastId i = W.lastId i := by
 unfold Wd.lastId
 by_cases hi : i = 0
 ·rw [if_pos hi, if_pos hi]
 ·rw [if_neg hi, if_neg hi, hV, List.getD_eq_getElem?_getD, List.getD_eq_getElem?_getD]
  by_cases hk : k = i - 1
  ·subst hk
   rw [List.getElem?_set_self (List.getElem?_eq_some_iff.1 ht).1, ht]
   exact hs
  ·rw [List.getElem?_set_ne hk]
theorem at_set {W V : Wd} {k : Nat} {t u : Trp} (hV : V.troops = W.troops.set k u) (ht : W.troops[k]? = some t) {i : Nat} {x : Trp} (hx : V.troops[i]? = some x) : (i = k ∧ x = u) ∨ (i ≠ k ∧ W.troops[i]? = some x) := by
 rw [hV] at hx
 by_cases hk : k = i
 ·subst hk
  rw [List.getElem?_set_self (List.getElem?_eq_some_iff.1 ht).1] at hx
  exact .inl ⟨rfl, (Option.some.inj hx).symm⟩
 ·rw [List.getElem?_set_ne hk] at hx
  exact .inr ⟨Ne.symm hk, hx⟩
theorem Good.turned {W V : Wd} (h : Good W) {k : Nat} {t : Trp} {n : Int} (ht : W.troops[k]? = some t) (hV : V.troops = W.troops.set k (Wd.addLoad t n)) (hl : 0 ≤ t.load + n ∧ t.load + n ≤ Wd.mostOf t.kind)
  (hf : V.field = W.field) (hb : V.bases = W.bases) (hn : V.next = W.next) (hw : V.now = W.now)
  (hsl : V.stocks.length = W.stocks.length) (hs : ∀ (i : Nat) s, V.stocks[i]? = some s → 0 ≤ s ∧ s ≤ 1000000)
  (hml : V.mines.length = W.mines.length) (hm : ∀ (i : Nat) m, V.mines[i]? = some m → 0 ≤ m ∧ m ≤ 1000000 ∧ (m ≤ 0 ∨ W.field.places.getD i 0 = 3)) : Good V := by
 have h1 := h.troops k t ht
 have hlen : V.troops.length = W.troops.length := by rw [hV, List.length_set]
 refine ⟨by rw [hf]; exact h.field, by rw [hb]; exact h.nb, by rw [hlen]; exact h.nt, by rw [hsl, hb]; exact h.sl, ?_, hs, by rw [hml, hf]; exact h.ml, by rw [hf]; exact hm, λ i x hx => ?_, λ i x hx => ?_, λ i x hx => ?_, by rw [hn]; exact h.next, by rw [hw]; exact h.now⟩
 ·rw [hb, hf]; exact h.bases
 ·rw [hf, hb]
  rcases at_set hV ht hx with ⟨rfl, rfl⟩ | ⟨_, hx⟩
  ·exact ⟨h1.kind, h1.owner, h1.ground, h1.life, hl⟩
  ·exact h.troops i x hx
 ·rw [last_set hV ht rfl, hn]
  rcases at_set hV ht hx with ⟨rfl, rfl⟩ | ⟨_, hx⟩
  ·exact h.ids i t ht
  ·exact h.ids i x hx
 ·rw [spots_set hV ht rfl]
  rcases at_set hV ht hx with ⟨rfl, rfl⟩ | ⟨_, hx⟩
  ·exact h.spots i t ht
  ·exact h.spots i x hx
theorem mine_some {W V : Wd} {d : Ded} (h : W.mine d = some V) : ∃ (k : Nat) (t : Trp), W.troops.findIdx? (isId d.who) = some k ∧ W.troops[k]? = some t ∧ t.id = d.who ∧ t.kind = 1 ∧ t.load < 5 ∧ beside t.spot d.spot = true ∧ W.field.isIn d.spot = true ∧ W.mines.getD (W.place d.spot) 0 ≠ 0 ∧
  V = { W with mines := W.mines.set (W.place d.spot) (W.mines.getD (W.place d.spot) 0 - 1), troops := W.troops.set k (Wd.addLoad t 1) } := by
 unfold Wd.mine at h
 cases hf : W.troops.findIdx? (isId d.who) with
 | none => rw [hf] at h; cases h
 | some k =>
  rw [hf] at h
  obtain ⟨t, ht, hid, hg⟩ := findId hf
  simp only [hg] at h
  split at h
  ·rename_i hc
   simp only [Bool.and_eq_true, decide_eq_true_eq, bne_iff_ne, beq_iff_eq] at hc
   exact ⟨k, t, rfl, ht, hid, hc.1.1.1.1, hc.1.1.1.2, hc.1.1.2, hc.1.2, hc.2, (Option.some.inj h).symm⟩
  ·cases h
theorem drop_some {W V : Wd} {d : Ded} (h : W.drop d = some V) : ∃ (k : Nat) (t : Trp) (n : Int), W.troops.findIdx? (isId d.who) = some k ∧ W.troops[k]? = some t ∧ t.id = d.who ∧ t.load ≠ 0 ∧ beside (W.bases.getD t.owner.toNat default) t.spot = true ∧ n = min t.load (1000000 - W.stocks.getD t.owner.toNat 0) ∧ 0 < n ∧
  V = { W with stocks := W.stocks.set t.owner.toNat (W.stocks.getD t.owner.toNat 0 + n), troops := W.troops.set k (Wd.addLoad t (-n)) } := by
 unfold Wd.drop at h
 cases hf : W.troops.findIdx? (isId d.who) with
 | none => rw [hf] at h; cases h
 | some k =>
  rw [hf] at h
  obtain ⟨t, ht, hid, hg⟩ := findId hf
  simp only [hg] at h
  split at h
  ·rename_i hc
   simp only [Bool.and_eq_true, decide_eq_true_eq, bne_iff_ne] at hc
   exact ⟨k, t, _, rfl, ht, hid, hc.1.1, hc.1.2, rfl, hc.2, (Option.some.inj h).symm⟩
  ·cases h
theorem hire_some {W V : Wd} {d : Ded} (h : W.hire d = some V) : ∃ c : Cel, W.free (W.bases.getD d.who.toNat default) = some c ∧ 0 ≤ d.who ∧ d.who < (W.bases.length : Int) ∧ (d.what = 1 ∨ d.what = 2) ∧ Wd.priceOf d.what ≤ W.stocks.getD d.who.toNat 0 ∧ W.troops.length < 100 ∧ W.next < 1000000 ∧
  V = { W with troops := W.troops ++ [⟨W.next, d.who, d.what, c, Wd.lifeOf d.what, 0⟩], next := W.next + 1, stocks := W.stocks.set d.who.toNat (W.stocks.getD d.who.toNat 0 - Wd.priceOf d.what) } := by
 unfold Wd.hire at h
 simp only at h
 split at h
 ·rename_i hc
  simp only [Bool.and_eq_true, decide_eq_true_eq] at hc
  have a := inB_true hc.1.1.1.1
  have b := inB_true hc.1.1.1.2
  split at h
  ·cases h
  ·rename_i c hfr
   exact ⟨c, hfr, a.1, by omega, by omega, hc.1.1.2, hc.1.2, hc.2, (Option.some.inj h).symm⟩
 ·cases h
theorem price_pos (k : Int) : 0 ≤ Wd.priceOf k := by unfold Wd.priceOf; split <;> (try split) <;> omega
theorem Good.mine {W V : Wd} {d : Ded} (h : Good W) (hd : W.mine d = some V) : Good V := by
 obtain ⟨k, t, _, ht, _, hk, hl, _, hin, hm0, rfl⟩ := mine_some hd
 have h1 := h.troops k t ht
 have hmo : Wd.mostOf t.kind = 5 := by rw [hk]; rfl
 obtain ⟨i1, i2, _⟩ := Fld.idx h.field hin
 have hlt : W.place d.spot < W.mines.length := by rw [h.ml]; unfold Wd.place; omega
 obtain ⟨m, hm⟩ := get_of hlt
 have h2 := h.mines _ m hm
 have hg : W.mines.getD (W.place d.spot) 0 = m := by rw [List.getD_eq_getElem?_getD, hm]; rfl
 rw [hg] at hm0 ⊢
 refine h.turned ht rfl (by have := h1.load; omega) rfl rfl rfl rfl rfl h.stocks (by simp) λ i x hx => ?_
 simp only at hx
 by_cases hi : W.place d.spot = i
 ·subst hi
  rw [List.getElem?_set_self hlt] at hx
  obtain rfl := Option.some.inj hx
  refine ⟨by omega, by omega, ?_⟩
  rcases h2.2.2 with h3 | h3
  ·omega
  ·exact .inr h3
 ·rw [List.getElem?_set_ne hi] at hx
  exact h.mines i x hx
theorem Good.drop {W V : Wd} {d : Ded} (h : Good W) (hd : W.drop d = some V) : Good V := by
 obtain ⟨k, t, n, _, ht, _, hl, _, hn, hn0, rfl⟩ := drop_some hd
 have h1 := h.troops k t ht
 have hlt : t.owner.toNat < W.stocks.length := by rw [h.sl]; have := h1.owner; omega
 obtain ⟨s, hs⟩ := get_of hlt
 have h2 := h.stocks _ s hs
 have hg : W.stocks.getD t.owner.toNat 0 = s := by rw [List.getD_eq_getElem?_getD, hs]; rfl
 rw [hg] at hn ⊢
 refine h.turned ht rfl (by have := h1.load; omega) rfl rfl rfl rfl (by simp) (λ i x hx => ?_) rfl h.mines
 simp only at hx
 by_cases hi : t.owner.toNat = i
 ·subst hi
  rw [List.getElem?_set_self hlt] at hx
  obtain rfl := Option.some.inj hx
  omega
 ·rw [List.getElem?_set_ne hi] at hx
  exact h.stocks i x hx
theorem Good.hire {W V : Wd} {d : Ded} (h : Good W) (hd : W.hire d = some V) : Good V := by
 obtain ⟨c, hfr, hw0, hw1, hk, hp, hnt, hnx, rfl⟩ := hire_some hd
 have hop := List.find?_some hfr
 unfold Wd.openTo at hop
 rw [Bool.and_eq_true] at hop
 have hany : ∀ t ∈ W.troops, t.spot ≠ c := λ t ht he => by
  have := hop.2
  rw [Bool.not_eq_true', List.any_eq_false] at this
  exact this t ht (by simp [isAt, he])
 have hlt : d.who.toNat < W.stocks.length := by rw [h.sl]; omega
 obtain ⟨s, hs⟩ := get_of hlt
 have h2 := h.stocks _ s hs
 have hg : W.stocks.getD d.who.toNat 0 = s := by rw [List.getD_eq_getElem?_getD, hs]; rfl
 rw [hg] at hp ⊢
 have hpp := price_pos d.what
 have hn := h.next
 have hsp : ∀ i, i ≤ W.troops.length → Wd.spots { W with troops := W.troops ++ [⟨W.next, d.who, d.what, c, Wd.lifeOf d.what, 0⟩], next := W.next + 1, stocks := W.stocks.set d.who.toNat (s - Wd.priceOf d.what) } i = W.spots i := λ i hi => by
  unfold Wd.spots
  simp only
  rw [List.take_append_of_le_length hi]
 have hla : ∀ i, i ≤ W.troops.length → Wd.lastId { W with troops := W.troops ++ [⟨W.next, d.who, d.what, c, Wd.lifeOf d.what, 0⟩], next := W.next + 1, stocks := W.stocks.set d.who.toNat (s - Wd.priceOf d.what) } i = W.lastId i := λ i hi => by
  unfold Wd.lastId
  simp only
  by_cases h0 : i = 0
  ·rw [if_pos h0, if_pos h0]
  ·rw [if_neg h0, if_neg h0, List.getD_eq_getElem?_getD, List.getD_eq_getElem?_getD, List.getElem?_append_left (by omega)]
 have hat : ∀ (i : Nat) x, (W.troops ++ [(⟨W.next, d.who, d.what, c, Wd.lifeOf d.what, 0⟩ : Trp)])[i]? = some x → (i < W.troops.length ∧ W.troops[i]? = some x) ∨ (i = W.troops.length ∧ x = ⟨W.next, d.who, d.what, c, Wd.lifeOf d.what, 0⟩) := λ i x hx => by
  by_cases hi : i < W.troops.length
  ·rw [List.getElem?_append_left hi] at hx; exact .inl ⟨hi, hx⟩
  ·rw [List.getElem?_append_right (by omega)] at hx
   have h0 : i - W.troops.length = 0 := by
    have := (List.getElem?_eq_some_iff.1 hx).1
    simp at this; omega
   rw [h0] at hx
   exact .inr ⟨by omega, by simpa using hx.symm⟩
 have hlast : W.lastId W.troops.length < W.next ∧ 0 ≤ W.lastId W.troops.length := by
  by_cases h0 : W.troops.length = 0
  ·rw [h0]; exact ⟨by show (0 : Int) < _; omega, Int.le_refl _⟩
  ·obtain ⟨t, ht⟩ := get_of (l := W.troops) (i := W.troops.length - 1) (by omega)
   have h4 := h.ids _ t ht
   have e : W.lastId W.troops.length = t.id := by
    unfold Wd.lastId
    rw [if_neg h0, List.getD_eq_getElem?_getD, ht]; rfl
   rw [e]; omega
 refine ⟨h.field, h.nb, by simp; omega, by simp; exact h.sl, h.bases, λ i x hx => ?_, h.ml, h.mines, λ i x hx => ?_, λ i x hx => ?_, λ i x hx => ?_, by simp only; omega, h.now⟩
 ·simp only at hx
  by_cases hi : d.who.toNat = i
  ·subst hi
   rw [List.getElem?_set_self hlt] at hx
   obtain rfl := Option.some.inj hx
   omega
  ·rw [List.getElem?_set_ne hi] at hx
   exact h.stocks i x hx
 ·rcases hat i x hx with ⟨_, hx⟩ | ⟨_, rfl⟩
  ·exact h.troops i x hx
  ·exact ⟨hk, ⟨hw0, hw1⟩, hop.1, by simp only; rcases hk with h | h <;> rw [h] <;> decide, by simp only; rcases hk with h | h <;> rw [h] <;> decide⟩
 ·rcases hat i x hx with ⟨hi, hx⟩ | ⟨rfl, rfl⟩
  ·rw [hla i (by omega)]
   have := h.ids i x hx
   simp only; omega
  ·rw [hla _ (Nat.le_refl _)]
   simp only; omega
 ·rcases hat i x hx with ⟨hi, hx⟩ | ⟨rfl, rfl⟩
  ·rw [hsp i (by omega)]; exact h.spots i x hx
  ·rw [hsp _ (Nat.le_refl _)]
   simp only
   cases hc : (W.spots W.troops.length).contains c with
   | false => rfl
   | true =>
    rw [List.contains_iff_mem] at hc
    unfold Wd.spots at hc
    obtain ⟨t, ht, he⟩ := List.mem_map.1 hc
    exact absurd he (hany t (List.mem_of_mem_take ht))
theorem Good.deed {W V : Wd} {d : Ded} (h : Good W) (hd : W.deed d = some V) : Good V := by
 unfold Wd.deed at hd
 split at hd
 ·exact h.mine hd
 ·split at hd
  ·exact h.drop hd
  ·split at hd
   ·exact h.hire hd
   ·cases hd
theorem Good.deeds {W : Wd} (h : Good W) : ∀ l : List Ded, Good (W.deeds l).1 := by
 intro l
 induction l generalizing W with
 | nil => exact h
 | cons d l ih =>
  unfold Wd.deeds
  cases hd : W.deed d with
  | none => exact ih h
  | some V => exact ih (h.deed hd)
end
section
open Go.RowKit
def trAt (a : Wd.At) (k : Nat) : Option Addr := a.T.map λ x => ⟨x.block, k * 7, none⟩
def trOf (a : Wd.At) (W : Wd) (id : Int) : Option Addr := match W.troops.findIdx? (isId id) with | none => none | some k => trAt a k
end
section
open Go.RowKit Go.Maps
namespace Cel
def key (c : Cel) : Value := .agg #[.int .i64 c.x, .int .i64 c.y]
end Cel
end
section
open Go.RowKit
def Wd.doE (W : Wd) (l : List Ded) : Int := if W.chk ≠ 0 then W.chk else if 200 < l.length then 2 else 0
def Wd.doW (W : Wd) (l : List Ded) : Wd := if W.doE l = 0 then (W.deeds l).1 else Wd.zero
def Wd.doB (W : Wd) (l : List Ded) : List Bool := if W.doE l = 0 then (W.deeds l).2 else []
end
section
open Go.RowKit
def wt (t : Trp) : Int := t.load + Wd.priceOf t.kind
def Wd.total (W : Wd) : Int := W.mines.sum + W.stocks.sum + (W.troops.map wt).sum
def Wd.worth (W : Wd) : Int := if W.chk = 0 then W.total else 0
end
section
open Go.RowKit
def smallW : Wd := ⟨⟨3, 1, [0, 0, 3]⟩, [⟨0, 0⟩], [20], [0, 0, 9], [⟨1, 0, 1, ⟨1, 0⟩, 10, 0⟩], 2, 0⟩
def smallL : List Ded := [(⟨1, 1, ⟨2, 0⟩, 0⟩ : Ded), (⟨3, 0, ⟨0, 0⟩, 2⟩ : Ded)]
def smallV : Wd := smallW.doW smallL
end
section
open Go.RowKit
open Go.Proofs.Ytifffjhhammeiaa.Mt
theorem rounds_three (w : World) : Calls Try.prog 12 #[.int .i64 3] w (λ e w' => ∃ A c T A0 k0, e = .returned (.tuple #[.slice A 3 c, .int .i64 0]) ∧ ((T : List SV).length = 3 ∧ T[0]? = some ⟨A0, 1, k0⟩) ∧ svRep.SOwn 28 24 w' w.heap.size (Rep.blkOf A) A c T ∧ Ext w w') := by
 refine (rounds_any 3 w).mono ?_
 rintro e w' ⟨e', A, c, T, L, ba, X, rfl, hR, hT, hP, hx⟩
 rcases hR with ⟨rfl, h2, h3, h4, N, M, K, hN, hM, hK, hL, hl⟩ | ⟨_, h, _⟩
 ·obtain rfl : N = 3 := by omega
  obtain rfl : M = 3 := by omega
  obtain rfl : K = 2 := by omega
  have h0 : L[0]? = some (L[0]'(by omega)) := List.getElem?_eq_getElem (by omega)
  obtain ⟨A0, k0, g1, g2, g3⟩ := hP.2.2 0 _ h0
  have hlen := (hl 0 _ h0).length_eq
  rw [rnd_full (by omega) (by omega) (by omega) (by omega)] at hlen
  rw [hlen] at g1
  exact ⟨A, c, T, A0, k0, by rw [h4, hL], ⟨by omega, g1⟩, hT, hx⟩
 ·omega
theorem table_two (A : Option Addr) (c : Nat) (w : World) (h : Gam.rep.SHas 24 w A c [(⟨0, 1, 1⟩ : Gam)]) : Calls Try.prog 15 #[.int .i64 2, .slice A 1 c] w (λ e w' => ∃ A' c', e = .returned (.tuple #[.slice A' 2 c', .int .i64 0]) ∧ repI.SOwn 3 8 w' w.heap.size (Rep.blkOf A') A' c' ([1, 0] : List Int) ∧ Ext w w') := by
 refine (table_any 2 [⟨0, 1, 1⟩] A c w h).mono ?_
 rintro e w' ⟨e', A', c', L, rfl, ⟨h1, h2⟩, h3, h4⟩
 have e1 : mtE 2 [⟨0, 1, 1⟩] = 0 := by decide
 have e2 : tbR 2 [⟨0, 1, 1⟩] = [1, 0] := by
  have e3 : scR 2 [⟨0, 1, 1⟩] = [⟨0, 0, 0⟩, ⟨1, 3, 1⟩] := by decide
  unfold tbR
  rw [e3, ← tabS_uniq (T := [⟨1, 3, 1⟩, ⟨0, 0, 0⟩]) (List.Perm.swap _ _ _) (by decide)]; rfl
 rw [e2] at h2
 rw [e1] at h1
 subst h1 h2
 exact ⟨A', c', rfl, h3, h4⟩
theorem matchLives_any  (w : World) :
  Calls Try.prog 13 #[] w (λ e w' => e = .returned (.bool true) ∧ Ext w w') := by
 refine calls_W (n := 38) Try.func13 rfl rfl rfl ?_
 refine sg <| va rfl <| nK <| sg <| ca eF26 rfl rfl ((rounds_three _).mono ?_)
 rintro e w_4 ⟨A1, c1, T1, B1, k1, rfl, hT1, HT1, x_5⟩
 refine ⟨_, rfl, ?_⟩
 have := x_5.size
 have z_4 := eT (Ext.rf w) x_5
 have u_2 := λ q hq => (HT1.lt q hq).2
 have lo_3 := λ q hq => (HT1.lt q hq).1
 refine vm rfl <| vL (ex rfl rfl) <| vL (ex rfl rfl) <| va rfl <| va rfl <| nK <| sg <| vL (v := .agg #[.int .i64 0, .int .i64 1, .int .i64 1]) (bd rfl (by kernel_rfl)) <| bs (e := 38) (cs := [.int .i64 0, .int .i64 1, .int .i64 1]) rfl (λ _ => by kernel_rfl) rfl λ w_7 b_8 x_9 l_10 B_11 => ?_
 have := x_9.size
 have z_7 := eT z_4 x_9
 have q_13 := B_11.lt
 refine ca eF27 rfl rfl ((table_two _ _ _ (Blk.hasN (R := Gam.rep) (by_ := 24) (k := [(⟨0, 1, 1⟩ : Gam)]) B_11 [[.int .i64 0, .int .i64 1, .int .i64 1]] rfl (⟨⟨rfl, ⟨okI_iff.2 (by decide), okI_iff.2 (by decide), okI_iff.2 (by decide)⟩⟩, trivial⟩) (by simp) (by simp))).mono ?_)
 rintro e w_17 ⟨A14, c14, rfl, HI14, x_18⟩
 refine ⟨_, rfl, ?_⟩
 have := x_18.size
 have z_17 := eT z_7 x_18
 have u_15 := λ q hq => (HI14.lt q hq).2
 have lo_16 := λ q hq => (HI14.lt q hq).1
 refine vm rfl <| vL (ex rfl rfl) <| vL (ex rfl rfl) <| va rfl <| va rfl <| nK <| sg <| vm rfl <| vL (beq rfl rfl) <| vm rfl <| ug rfl rfl rfl <| vm rfl <| ug rfl rfl rfl <| vL (beq rfl rfl) <| vL (pkT rfl rfl) <| vm rfl <| ug rfl rfl rfl <| vm rfl <| ug rfl rfl rfl <| vL (ln Try.underlying22 rfl) <| ug rfl rfl rfl <| vL (beq rfl rfl) <| ?_
 refine vL (pkT rfl rfl) <| vm rfl <| ug rfl rfl rfl <| vm rfl <| ug rfl rfl rfl <| ?_
 have HT1 := HT1.later (eT x_9 x_18)
 refine vL (iA 0 Try.underlying22 eF15 rfl rfl (HT1.has.adr (zl 0 (by first | omega | (rw [hT1.1]; omega)))) rfl (by first | omega | (rw [hT1.1]; omega))) <| ug rfl rfl rfl <| vL (v := .slice B1 1 k1) (ld rfl (Rep.SHas.one' hcV (HT1.has.adh (zl 0 (by first | omega | (rw [hT1.1]; omega)))) hT1.2 rfl eF16)) <| ug rfl rfl rfl <| vL (ln Try.underlying28 rfl) <| ug rfl rfl rfl <| vL (beq rfl rfl) <| vL (pkT rfl rfl) <| vm rfl <| ug rfl rfl rfl <| vm rfl <| ug rfl rfl rfl <| bs (e := 3) (cs := [.int .i64 1, .int .i64 0]) rfl (λ _ => by kernel_rfl) rfl λ w_20 b_21 x_22 l_23 B_24 => ?_
 have := x_22.size
 have z_20 := eT z_17 x_22
 have q_26 := B_24.lt
 refine ug rfl rfl rfl <| ?_
 have HI14 := HI14.later x_22
 refine ca eF28 rfl rfl ((equal_I _ _ _ _ _ _ ([1, 0] : List Int) ([1, 0]) _ HI14.has (Blk.hasN (R := repI) (by_ := 8) (k := [1, 0]) B_24 [[.int .i64 1], [.int .i64 0]] rfl (⟨⟨rfl, okI_iff.2 (by decide)⟩, ⟨⟨rfl, okI_iff.2 (by decide)⟩, trivial⟩⟩) (by simp) (by simp))).mono ?_)
 rintro e w_27 ⟨rfl, x_28⟩
 refine ⟨_, rfl, ?_⟩
 have := x_28.size
 have z_27 := eT z_20 x_28
 refine vL (pkT rfl rfl) <| va rfl <| nK <| rt <| tR (.tmp rfl .nil) <| ?_
 exact ⟨ret_true (by decide), z_27⟩
end
end Go.Proofs.Ytifffjhhammeiaa
