import Derived.Test.YtccankldeogdlaaGolC
import Derived.Test.YtccankldeogdlaaRvC
import Derived.Test.YtccankldeogdlaaBas
import Derived.Test.YtccankldeogdlaaProg
import Derived.Test.YtccankldeogdlaaFldR
import Derived.Test.YtccankldeogdlaaMis
set_option linter.unusedVariables false
set_option linter.unusedSimpArgs false
set_option maxRecDepth 100000
set_option maxHeartbeats 4000000
namespace Go.Proofs.Ytccankldeogdlaa
section
open Go.RowKit
theorem Ptf_eqs_api_Cell : EqS Try.prog Cel.cells 70 := by
 intro a b w
 obtain ⟨a0, a1⟩ := a
 obtain ⟨b0, b1⟩ := b
 simp only [Cel.cells, Cel.mk.injEq]
 constructor
 ·go_simp
  repeat' split
  all_goals simp_all
 ·go_simp
  repeat' split
  all_goals simp_all
theorem Ptf_eqg_api_Cell : (Try.prog).eqGuardType (Try.prog).depth 70 = false := by kernel_rfl
theorem Ptf_el_S_api_Cell : ElT Try.prog Cel.rep 55 70 16 := ElT.mk_ (z := Cel.zero) (k := 2) Try.underlying55 Cel.info rfl rfl (by decide) Cel.zero_raw
section
variable {f : Fld} {a b c nd : Cel} {fr : Cel → Int} {out L : List Cel} {j : Nat}
theorem b4a_ (p q r : Bool) : p = false ∨ (p = true ∧ q = false) ∨ (p = true ∧ q = true ∧ r = false) ∨ (p = true ∧ q = true ∧ r = true) := by cases p <;> cases q <;> cases r <;> simp
theorem prev_none (h : ∀ i, i < 4 → (f.ground ((sidesC c).getD i default) && decide (0 ≤ fr ((sidesC c).getD i default)) && decide (fr ((sidesC c).getD i default) + f.kost c = fr c)) = false) : prevF f fr c = c := by
 have h0 := h 0 (by decide); have h1 := h 1 (by decide); have h2 := h 2 (by decide); have h3 := h 3 (by decide)
 have e : (sidesC c).find? (λ n => f.ground n && decide (0 ≤ fr n) && decide (fr n + f.kost c = fr c)) = none := by
  rw [List.find?_eq_none]
  intro x hx
  obtain ⟨i, hi, rfl⟩ := List.mem_iff_getElem.1 hx
  have := h i hi
  rw [getD_dd hi] at this; rw [this]; decide
 unfold prevF; rw [e]; rfl
theorem prev_at (hj : j < 4) (h : ∀ i, i < j → (f.ground ((sidesC c).getD i default) && decide (0 ≤ fr ((sidesC c).getD i default)) && decide (fr ((sidesC c).getD i default) + f.kost c = fr c)) = false) (hp : (f.ground ((sidesC c).getD j default) && decide (0 ≤ fr ((sidesC c).getD j default)) && decide (fr ((sidesC c).getD j default) + f.kost c = fr c)) = true) : prevF f fr c = (sidesC c).getD j default := by
 have e : (sidesC c).find? (λ n => f.ground n && decide (0 ≤ fr n) && decide (fr n + f.kost c = fr c)) = some ((sidesC c).getD j default) := by
  have hl : (sidesC c).length = 4 := rfl
  rw [List.find?_eq_some_iff_getElem]
  refine ⟨hp, j, by omega, (getD_dd (by omega)).symm, λ i hi => ?_⟩
  have := h i hi
  rw [getD_dd (by omega)] at this; simp only [this]; rfl
 unfold prevF; rw [e]; rfl
theorem way_head (f : Fld) (fr : Cel → Int) (a : Cel) (n : Nat) (c : Cel) : [c] ++ (backF f fr a n c).tail = backF f fr a n c := by
 cases n with
 | zero => rfl
 | succ n => unfold backF; split <;> rfl
theorem way_app (h : out ++ (wayB f fr a c).tail = L) (h2 : wayB f fr a c = c :: wayB f fr a nd) : (out ++ [nd]) ++ (wayB f fr a nd).tail = L := by
 rw [h2, List.tail_cons] at h
 rw [List.append_assoc, show [nd] ++ (wayB f fr a nd).tail = wayB f fr a nd from way_head _ _ _ _ _]; exact h
theorem way_len (h : Frs f a fr) : ∀ {c : Cel}, 0 ≤ fr c → ((wayB f fr a c).length : Int) ≤ fr c + 1 := by
 have key : ∀ n : Nat, ∀ c, 0 ≤ fr c → (fr c).toNat = n → ((wayB f fr a c).length : Int) ≤ fr c + 1 := by
  intro n
  induction n using Nat.strongRecOn with
  | ind n ih =>
   intro c hc hn
   by_cases hne : c = a
   ·subst hne; rw [wayB_self h, h.zero]; simp
   ·obtain ⟨p1, p2, p3, p4⟩ := h.prev hc hne
    have hk := f.kost_bd (c := c)
    have := ih (fr (prevF f fr c)).toNat (by omega) _ p3 rfl
    rw [wayB_step h hc hne, List.length_cons]; omega
 exact fun {c} hc => key _ c hc rfl
end
theorem pfind_no (f : Fld) (a b : Cel) (P : Option Addr) (pc : Nat) (w : World) (hP : repI.SHas 8 w P pc f.places) (he : findE f a b ≠ 0) :
  Calls Try.prog 136 #[.agg #[.int .i64 f.wide, .int .i64 f.high, .slice P f.places.length pc], .agg #[.int .i64 a.x, .int .i64 a.y], .agg #[.int .i64 b.x, .int .i64 b.y]] w (λ e w' => e = .returned (.tuple #[.slice none 0 0, .int .i64 0, .int .i64 (findE f a b)]) ∧ Ext w w') := by
 have kE : (findE f a b != 0) = true := by simpa using he
 refine calls_W (n := 107) Try.func136 rfl rfl rfl ?_
 refine sg <| bx rfl rfl rfl rfl λ w_1 b_2 x_3 l_4 B_5 => ?_
 have := x_3.size
 have z_1 := eT (Ext.rf w) x_3
 have q_7 := B_5.lt
 refine bx rfl rfl rfl rfl λ w_8 b_9 x_10 l_11 B_12 => ?_
 have := x_10.size
 have z_8 := eT z_1 x_10
 have q_14 := B_12.lt
 refine bx rfl rfl rfl rfl λ w_15 b_16 x_17 l_18 B_19 => ?_
 have := x_17.size
 have z_15 := eT z_8 x_17
 have q_21 := B_19.lt
 refine va rfl <| va rfl <| va rfl <| nK <| sg <| ?_
 have B_5 := B_5.later (eT x_10 x_17)
 refine vL (ld rfl (B_5.all eF14 eF15)) <| ?_
 have B_12 := B_12.later x_17
 refine vL (ld rfl (B_12.all eF7 eF8)) <| vL (ld rfl (B_19.all eF7 eF8)) <| ca eF120 rfl rfl ((psearched_no f a b P pc _ (hP.keep z_15) he).mono ?_)
 rintro e w_22 ⟨rfl, x_23⟩
 refine ⟨_, rfl, ?_⟩
 have := x_23.size
 have z_22 := eT z_15 x_23
 refine vm rfl <| vL (ex rfl rfl) <| vL (ex rfl rfl) <| va rfl <| va rfl <| nK <| sq <| sg <| vm rfl <| vL (bne rfl rfl) <| nK <| cT (evb rfl kE) <| sg <| vm rfl <| va rfl <| va rfl <| va rfl <| nK <| rt <| ?_
 refine tT <| tR (.tmp rfl (.tmp rfl (.tmp rfl .nil))) <| ?_
 exact ⟨rfl, z_22⟩
theorem pfind_ok (f : Fld) (a b : Cel) (P : Option Addr) (pc : Nat) (w : World) (hP : repI.SHas 8 w P pc f.places) (hf : f.chk = 0) (ga : f.ground a = true) (gb : f.ground b = true) (hfr : 0 ≤ frF f a b b) :
  Calls Try.prog 136 #[.agg #[.int .i64 f.wide, .int .i64 f.high, .slice P f.places.length pc], .agg #[.int .i64 a.x, .int .i64 a.y], .agg #[.int .i64 b.x, .int .i64 b.y]] w (λ e w' => ∃ A c, e = .returned (.tuple #[.slice A (wayB f (frF f a b) a b).reverse.length c, .int .i64 (frF f a b b), .int .i64 0]) ∧ Cel.rep.SOwn 70 16 w' w.heap.size (Rep.blkOf A) A c (wayB f (frF f a b) a b).reverse ∧ Ext w w') := by
 obtain ⟨g1, g2, g3, g4, g5, g6⟩ := Fld.good hf
 have hl16 := Fld.len_le hf
 have hib := Fld.ground_in gb
 obtain ⟨_, _, b1, b2, b3, b4⟩ := Fld.idx hf hib
 refine calls_W (n := 107) Try.func136 rfl rfl rfl ?_
 refine sg <| bx rfl rfl rfl rfl λ w_1 b_2 x_3 l_4 B_5 => ?_
 have := x_3.size
 have z_1 := eT (Ext.rf w) x_3
 have q_7 := B_5.lt
 refine bx rfl rfl rfl rfl λ w_8 b_9 x_10 l_11 B_12 => ?_
 have := x_10.size
 have z_8 := eT z_1 x_10
 have q_14 := B_12.lt
 refine bx rfl rfl rfl rfl λ w_15 b_16 x_17 l_18 B_19 => ?_
 have := x_17.size
 have z_15 := eT z_8 x_17
 have q_21 := B_19.lt
 refine va rfl <| va rfl <| va rfl <| nK <| sg <| ?_
 have B_5 := B_5.later (eT x_10 x_17)
 refine vL (ld rfl (B_5.all eF14 eF15)) <| ?_
 have B_12 := B_12.later x_17
 refine vL (ld rfl (B_12.all eF7 eF8)) <| vL (ld rfl (B_19.all eF7 eF8)) <| ca eF120 rfl rfl ((psearched_some f a b P pc _ (hP.keep z_15) hf ga gb hfr).mono ?_)
 rintro e w_22 ⟨p, F, A, cf, c, far, l, rfl, hpe, HB, hpb, HF, hdF, x_23⟩
 refine ⟨_, rfl, ?_⟩
 have := x_23.size
 have z_22 := eT z_15 x_23
 have qB := HB.lt
 have uHF := λ q hq => (HF.lt q hq).2
 have loHF := λ q hq => (HF.lt q hq).1
 obtain ⟨bl1, bl2, bl3⟩ := fr_lt hf hpe.len hib
 have hbl := λ c => hpe.bdF c
 have hFr := Frs.ofF hpe hfr
 refine vm rfl <| vL (ex rfl rfl) <| vL (ex rfl rfl) <| va rfl <| va rfl <| nK <| sq <| sg <| vm rfl <| vL (bne rfl rfl) <| nK <| cF rfl <| sK <| sg <| ?_
 have B_19 := B_19.later x_23
 refine vL (ld rfl (B_19.all eF7 eF8)) <| bs (e := 70) (cs := [.int .i64 b.x, .int .i64 b.y]) rfl (λ _ => by kernel_rfl) rfl λ w_25 b_26 x_27 l_28 B_29 => ?_
 have := x_27.size
 have z_25 := eT z_22 x_27
 have q_31 := B_29.lt
 refine va rfl <| nK <| sq <| sg <| ?_
 have B_19 := B_19.later x_27
 refine vL (ld rfl (B_19.all eF7 eF8)) <| al rfl eF13 rfl rfl λ w_32 b_33 x_34 l_35 B_36 => ?_
 have := x_34.size
 have z_32 := eT z_25 x_34
 have q_38 := B_36.lt
 refine st (new := [.int .i64 b.x, .int .i64 b.y]) rfl rfl B_36 rfl eF8 rfl rfl rfl λ w_39 m_40 B_36 => ?_
 have := m_40.size
 have z_39 := Ext.mod z_32 m_40 (ge1 (by omega))
 have := m_40.size
 refine nK <| bk <| ?_
 have B_29 := B_29.later x_34
 have B_29 := B_29.mod m_40 (nm1 (by omega))
 have OL0 := Blk.ownN (R := Cel.rep) (by_ := 16) (B := w.heap.size) (k := [b]) B_29 [b.cells] rfl ⟨⟨rfl, okI_iff.2 (by omega), okI_iff.2 (by omega)⟩, trivial⟩ (by simp) (by simp) (by decide) (by omega)
 have eL0 : ∀ q ∈ Rep.blkOf (some ⟨b_26, 0, none⟩), q = b_26 := λ q hq => List.mem_singleton.1 hq
 have B_12 := B_12.later (eT x_23 (eT x_27 x_34))
 have B_12 := B_12.mod m_40 (nm1 (by omega))
 have B_19 := B_19.later x_34
 have B_19 := B_19.mod m_40 (nm1 (by omega))
 have HB := HB.later (eT x_27 x_34)
 have HB := HB.mod m_40 (nm1 (by omega))
 have HF := HF.later (eT x_27 x_34)
 have HF := HF.mod m_40 (fk1 uHF (by omega))
 refine lp (λ mI EI wI => ∃ c1 : Cel, ∃ bc : Nat, ∃ out : List Cel, ∃ AL : Option Addr, ∃ cL : Nat, EI = [(4, .pointer (some ⟨b_9, 0, none⟩)), (5, .pointer (some ⟨b_16, 0, none⟩)), (6, .slice none 0 0), (7, .int .i64 0), (8, .int .i64 0), (9, .pointer (some ⟨p, 0, none⟩)), (11, .slice AL out.length cL), (12, .pointer (some ⟨bc, 0, none⟩))] ∧ mI = (frF f a b c1).toNat ∧ Ext w wI ∧ Blk wI b_9 [.int .i64 a.x, .int .i64 a.y] 70 (0, 0) ∧ Blk wI b_16 [.int .i64 b.x, .int .i64 b.y] 70 (0, 0) ∧ Blk wI p [.int .i64 f.wide, .int .i64 f.high, .slice P f.places.length pc, .int .i64 b.x, .int .i64 b.y, .slice F far.length cf, .slice A ((l : List Nod).length) c] 229 (0, 0) ∧ repI.SOwn 3 8 wI w_15.heap.size (Rep.blkOf F) F cf far ∧ Blk wI bc [.int .i64 c1.x, .int .i64 c1.y] 70 (0, 0) ∧ Cel.rep.SOwn 70 16 wI w.heap.size (Rep.blkOf AL) AL cL out ∧ (b_2 < bc) ∧ (b_9 < bc) ∧ (b_16 < bc) ∧ (p < bc) ∧ (∀ q ∈ Rep.blkOf F, q < bc) ∧ (0 ≤ frF f a b c1) ∧ (out ++ (wayB f (frF f a b) a c1).tail = wayB f (frF f a b) a b) ∧ (w.heap.size ≤ bc) ∧ (∀ q ∈ Rep.blkOf AL, q = b_9 → False) ∧ (∀ q ∈ Rep.blkOf AL, q = b_16 → False) ∧ (∀ q ∈ Rep.blkOf AL, q = p → False) ∧ (∀ q ∈ Rep.blkOf AL, q = bc → False) ∧ (∀ q ∈ Rep.blkOf AL, q ∈ Rep.blkOf F → False)) _ _ ⟨b, b_33, [b], some ⟨b_26, 0, none⟩, 1, rfl, rfl, z_39, B_12, B_19, HB, HF, B_36, OL0, (by omega), (by omega), (by omega), (by omega), (λ q hq => by have := uHF q hq; omega), hfr, (by unfold wayB; exact way_head _ _ _ _ _), (by omega), (λ q hq hb => by (have := eL0 q hq; omega)), (λ q hq hb => by (have := eL0 q hq; omega)), (λ q hq hb => by (have := eL0 q hq; omega)), (λ q hq hb => by (have := eL0 q hq; omega)), (λ q hq hb => by (have := eL0 q hq; (have := uHF q hb; omega)))⟩ (sba rfl) ?_
 rintro m_49 E_50 w_48 ⟨c1, bc, out, AL, cL, rfl, rfl, z_48, B_12, B_19, HB, HF, HC1, OL1, hx_b_2, hx_b_9, hx_b_16, hx_p, hbF, hc0, hw1, hbw, d_43, d_44, d_45, d_46, d_47⟩
 have := z_48.size
 have q_52 := B_12.lt
 have q_53 := B_19.lt
 have q_54 := HB.lt
 have u_55 := λ q hq => (HF.lt q hq).2
 have q_56 := HC1.lt
 have u_57 := λ q hq => (OL1.lt q hq).2
 have hbFd : ∀ q ∈ Rep.blkOf F, q = bc → False := λ q hq hb => by have := hbF q hq; omega
 have hci := Fld.ground_in (hFr.gr c1 hc0)
 have hgc := hFr.gr c1 hc0
 obtain ⟨_, _, c1a, c1b, c1c, c1d⟩ := Fld.idx hf hci
 have hkc := f.kost_bd (c := c1)
 have hkk := pcK_ground hf hgc
 have hbc1 := hbl c1
 have hlen1 : out.length ≤ 4801 := by have h1 := congrArg List.length hw1; rw [List.length_append] at h1; have h2 := way_len hFr hfr; have h3 := hbl b; omega
 refine sq <| sg <| vL (ld rfl (HC1.all eF7 eF8)) <| vL (ld rfl (B_12.all eF7 eF8)) <| vL (bnS Ptf_eqs_api_Cell Ptf_eqg_api_Cell (p := c1) (q := a) rfl rfl) <| nK <| ?_
 refine cb rfl (λ h_58 => ?_) (λ h_58 => ?_)
 ·have hca : c1 ≠ a := by simpa using h_58
  obtain ⟨p1, p2, p3, p4⟩ := hFr.prev hc0 hca
  have hpw := wayB_step hFr hc0 hca
  refine sK <| sq <| bk <| sg <| vm rfl <| vL (ld rfl (HC1.all eF7 eF8)) <| ca eF115 rfl rfl ((pcost_any w f P F A pc cf c p far l b c1 _ z_48 hf hP HB).mono ?_)
  rintro e w_59 ⟨rfl, x_60⟩
  refine ⟨_, rfl, ?_⟩
  have := x_60.size
  have z_59 := eT z_48 x_60
  refine vm rfl <| vL (ex rfl rfl) <| vL (ex rfl rfl) <| va rfl <| va rfl <| nK <| sq <| sg <| ?_
  have HC1 := HC1.later x_60
  refine vL (ld rfl (HC1.all eF7 eF8)) <| ca eF114 rfl rfl ((psides_any c1 _ (by first | omega | (dsimp only; omega))).mono ?_)
  rintro e w_62 ⟨rfl, x_63⟩
  refine ⟨_, rfl, ?_⟩
  have := x_63.size
  have z_62 := eT z_59 x_63
  refine vm rfl <| nK <| bk <| ?_
  have B_12 := B_12.later (eT x_60 x_63)
  have B_19 := B_19.later (eT x_60 x_63)
  have HB := HB.later (eT x_60 x_63)
  have HF := HF.later (eT x_60 x_63)
  have HC1 := HC1.later x_63
  have OL1 := OL1.later (eT x_60 x_63)
  refine lp (λ mI EI wI => ∃ j : Nat, EI = [(4, .pointer (some ⟨b_9, 0, none⟩)), (5, .pointer (some ⟨b_16, 0, none⟩)), (6, .slice none 0 0), (7, .int .i64 0), (8, .int .i64 0), (9, .pointer (some ⟨p, 0, none⟩)), (11, .slice AL out.length cL), (12, .pointer (some ⟨bc, 0, none⟩)), (13, .int .i64 (pcK f c1)), (32, .agg #[.int .i64 c1.x, .int .i64 c1.y]), (33, .agg #[.int .i64 a.x, .int .i64 a.y]), (34, .bool (!decide (c1 = a))), (35, .tuple #[.int .i64 (pcK f c1), .bool (f.ground c1)]), (36, .pointer (some ⟨p, 0, none⟩)), (37, .agg #[.int .i64 c1.x, .int .i64 c1.y]), (38, .tuple #[.int .i64 (pcK f c1), .bool (f.ground c1)]), (39, .int .i64 (pcK f c1)), (40, .bool (f.ground c1)), (41, .agg #[.int .i64 c1.x, .int .i64 c1.y]), (42, .agg #[.int .i64 c1.x, .int .i64 (c1.y - 1), .int .i64 (c1.x - 1), .int .i64 c1.y, .int .i64 (c1.x + 1), .int .i64 c1.y, .int .i64 c1.x, .int .i64 (c1.y + 1)]), (43, .int .i64 (j : Int))] ∧ mI = 4 - j ∧ Ext w wI ∧ Blk wI b_9 [.int .i64 a.x, .int .i64 a.y] 70 (0, 0) ∧ Blk wI b_16 [.int .i64 b.x, .int .i64 b.y] 70 (0, 0) ∧ Blk wI p [.int .i64 f.wide, .int .i64 f.high, .slice P f.places.length pc, .int .i64 b.x, .int .i64 b.y, .slice F far.length cf, .slice A ((l : List Nod).length) c] 229 (0, 0) ∧ repI.SOwn 3 8 wI w_15.heap.size (Rep.blkOf F) F cf far ∧ Blk wI bc [.int .i64 c1.x, .int .i64 c1.y] 70 (0, 0) ∧ Cel.rep.SOwn 70 16 wI w.heap.size (Rep.blkOf AL) AL cL out ∧ (j ≤ 4) ∧ (∀ i, i < j → (f.ground ((sidesC c1).getD i default) && decide (0 ≤ frF f a b ((sidesC c1).getD i default)) && decide (frF f a b ((sidesC c1).getD i default) + f.kost c1 = frF f a b c1)) = false)) _ _ ⟨0, rfl, rfl, z_62, B_12, B_19, HB, HF, HC1, OL1, by omega, λ i hi => by omega⟩ (.cons rfl (.cons rfl (.cons rfl (.cons rfl (.cons rfl (.cons rfl (.cons rfl (.cons rfl (.cons rfl (.cons rfl (.cons rfl (.cons rfl (.cons rfl (.cons rfl (.cons rfl (.cons rfl (.cons rfl (.cons rfl (.cons rfl (.cons rfl (.cons (loI rfl (by first | omega | rfl | (simp <;> omega))) .nil))))))))))))))))))))) ?_
  rintro m_66 E_67 w_65 ⟨j, rfl, rfl, z_65, B_12, B_19, HB, HF, HC1, OL1, hj, hno⟩
  have := z_65.size
  have q_69 := B_12.lt
  have q_70 := B_19.lt
  have q_71 := HB.lt
  have u_72 := λ q hq => (HF.lt q hq).2
  have q_73 := HC1.lt
  have u_74 := λ q hq => (OL1.lt q hq).2
  refine sg <| vL (blt rfl rfl) <| nK <| sq <| ?_
  refine clt rfl (λ h_75 => ?_) (λ h_75 => ?_)
  ·refine sK <| sq <| bk <| sg <| ?_
   obtain ⟨nd, hnd⟩ : ∃ nd, (sidesC c1).getD j default = nd := ⟨_, rfl⟩
   have hnb := sides_bd (c := c1) (j := j) (by omega)
   rw [hnd] at hnb
   refine vL (ixk rfl rfl (psides_ix c1 j (by omega) hnd _)) <| al rfl eF13 rfl rfl λ w_76 b_77 x_78 l_79 B_80 => ?_
   have := x_78.size
   have z_76 := eT z_65 x_78
   have q_82 := B_80.lt
   refine st (new := [.int .i64 nd.x, .int .i64 nd.y]) rfl rfl B_80 rfl eF8 rfl rfl rfl λ w_83 m_84 B_80 => ?_
   have := m_84.size
   have z_83 := Ext.mod z_76 m_84 (ge1 (by omega))
   have := m_84.size
   refine nK <| sg <| vm rfl <| vL (ld rfl (B_80.all eF7 eF8)) <| ?_
   have HB := HB.later x_78
   have HB := HB.mod m_84 (nm1 (by omega))
   refine ca eF115 rfl rfl ((pcost_any w f P F A pc cf c p far l b nd _ z_83 hf hP HB).mono ?_)
   rintro e w_87 ⟨rfl, x_88⟩
   refine ⟨_, rfl, ?_⟩
   have := x_88.size
   have z_87 := eT z_83 x_88
   refine vm rfl <| vL (ex rfl rfl) <| vL (ex rfl rfl) <| va rfl <| va rfl <| nK <| sq <| ?_
   rcases b4a_ (f.ground nd) (decide (0 ≤ frF f a b nd)) (((frF f a b nd) + (pcK f c1)) == (frF f a b c1)) with c0 | ⟨c0, k1_⟩ | ⟨c0, k1_, k2_⟩ | ⟨c0, k1_, k2_⟩
   ·have hn1 : (f.ground nd && decide (0 ≤ frF f a b nd) && decide (frF f a b nd + f.kost c1 = frF f a b c1)) = false := by rw [c0]; rfl
    refine rd [(5, 0), (7, 0), (8, 0), (10, 0), (17, 0), (19, 0), (20, 0), (22, 0), (28, 0), (30, 0), (31, 0), (33, 0)] [0, 1, 2, 3, 4, 5, 6, 7, 8, 9, 10, 11, 12, 13, 14, 15, 16, 17, 18, 19, 20, 21, 22, 23, 24, 25, 26, 27, 28, 29, 30, 31, 32, 33, 34, 35] (by kernel_rfl) (by kernel_rfl) ?_
    refine fw1 rfl (λ _ => mv (evb rfl c0)) <| fw1 rfl (λ _ => mv rfl) <| fW (v := undef) rfl rfl rfl rfl rfl rfl (λ hc => nomatch hc) rfl <| fW (v := undef) rfl rfl rfl rfl rfl rfl (λ hc => nomatch hc) rfl <| fW (v := undef) rfl rfl rfl rfl rfl rfl (λ hc => nomatch hc) rfl <| fQ (v := undef) rfl rfl rfl rfl rfl rfl (λ hc => nomatch hc) rfl <| fW (v := undef) rfl rfl rfl rfl rfl rfl (λ hc => nomatch hc) rfl <| fQ (v := undef) rfl rfl rfl rfl rfl rfl (λ hc => nomatch hc) rfl <| fC (v := undef) (args := []) rfl rfl rfl rfl rfl rfl eF109 (λ hc => nomatch hc) (λ hc => nomatch hc) rfl <| fW (v := undef) rfl rfl rfl rfl rfl rfl (λ hc => nomatch hc) rfl <| fQ (v := undef) rfl rfl rfl rfl rfl rfl (λ hc => nomatch hc) rfl <| fW (v := undef) rfl rfl rfl rfl rfl rfl (λ hc => nomatch hc) rfl <| fw1 rfl (λ _ => pkF rfl rfl) <| fw1 rfl (λ _ => mv rfl) <| fW (v := undef) rfl rfl rfl rfl rfl rfl (λ hc => nomatch hc) rfl <| fW (v := undef) rfl rfl rfl rfl rfl rfl (λ hc => nomatch hc) rfl <| fW (v := undef) rfl rfl rfl rfl rfl rfl (λ hc => nomatch hc) rfl <| fQ (v := undef) rfl rfl rfl rfl rfl rfl (λ hc => nomatch hc) rfl <| fW (v := undef) rfl rfl rfl rfl rfl rfl (λ hc => nomatch hc) rfl <| fQ (v := undef) rfl rfl rfl rfl rfl rfl (λ hc => nomatch hc) rfl <| fC (v := undef) (args := []) rfl rfl rfl rfl rfl rfl eF109 (λ hc => nomatch hc) (λ hc => nomatch hc) rfl <| fW (v := undef) rfl rfl rfl rfl rfl rfl (λ hc => nomatch hc) rfl <| fQ (v := undef) rfl rfl rfl rfl rfl rfl (λ hc => nomatch hc) rfl <| fW (v := undef) rfl rfl rfl rfl rfl rfl (λ hc => nomatch hc) rfl <| ?_
    refine fW (v := undef) rfl rfl rfl rfl rfl rfl (λ hc => nomatch hc) rfl <| fW (v := undef) rfl rfl rfl rfl rfl rfl (λ hc => nomatch hc) rfl <| fW (v := undef) rfl rfl rfl rfl rfl rfl (λ hc => nomatch hc) rfl <| fW (v := undef) rfl rfl rfl rfl rfl rfl (λ hc => nomatch hc) rfl <| fQ (v := undef) rfl rfl rfl rfl rfl rfl (λ hc => nomatch hc) rfl <| fW (v := undef) rfl rfl rfl rfl rfl rfl (λ hc => nomatch hc) rfl <| fQ (v := undef) rfl rfl rfl rfl rfl rfl (λ hc => nomatch hc) rfl <| fC (v := undef) (args := []) rfl rfl rfl rfl rfl rfl eF109 (λ hc => nomatch hc) (λ hc => nomatch hc) rfl <| fW (v := undef) rfl rfl rfl rfl rfl rfl (λ hc => nomatch hc) rfl <| fQ (v := undef) rfl rfl rfl rfl rfl rfl (λ hc => nomatch hc) rfl <| fW (v := undef) rfl rfl rfl rfl rfl rfl (λ hc => nomatch hc) rfl <| fw1 rfl (λ _ => pkF rfl rfl) <| fn λ w_90 x_91 => ?_
    have := x_91.size
    have z_90 := eT z_87 x_91
    refine nT <| cF rfl <| sk <| nB <| nT <| rg <| vL (bad rfl rfl (inI (by omega))) <| vm rfl <| nl <| ?_
    have B_12 := B_12.later x_78
    have B_12 := B_12.mod m_84 (nm1 (by omega))
    have B_12 := B_12.later (eT x_88 x_91)
    have B_19 := B_19.later x_78
    have B_19 := B_19.mod m_84 (nm1 (by omega))
    have B_19 := B_19.later (eT x_88 x_91)
    have HB := HB.later (eT x_88 x_91)
    have HF := HF.later x_78
    have HF := HF.mod m_84 (λ q hq h => by have hb := List.mem_singleton.1 h; exfalso; (have := u_72 q hq; have := uHF q hq; have := u_55 q hq; omega))
    have HF := HF.later (eT x_88 x_91)
    have HC1 := HC1.later x_78
    have HC1 := HC1.mod m_84 (nm1 (by omega))
    have HC1 := HC1.later (eT x_88 x_91)
    have OL1 := OL1.later x_78
    have OL1 := OL1.mod m_84 (λ q hq h => by have hb := List.mem_singleton.1 h; exfalso; (have := u_74 q hq; have := u_57 q hq; omega))
    have OL1 := OL1.later (eT x_88 x_91)
    exact nI _ _ ⟨j + 1, rfl, rfl, z_90, B_12, B_19, HB, HF, HC1, OL1, by omega, lt_succ_all hno (by rw [hnd]; exact hn1)⟩ (by omega) (.cons rfl (.cons rfl (.cons rfl (.cons rfl (.cons rfl (.cons rfl (.cons rfl (.cons rfl (.cons rfl (.cons rfl (.cons rfl (.cons rfl (.cons rfl (.cons rfl (.cons rfl (.cons rfl (.cons rfl (.cons rfl (.cons rfl (.cons rfl (.cons (loI rfl (by first | omega | rfl | (simp <;> omega))) .nil)))))))))))))))))))))
   ·have hni := Fld.ground_in c0
    obtain ⟨nl1, nl2, nl3⟩ := fr_lt hf hpe.len hni
    have hn1 : (f.ground nd && decide (0 ≤ frF f a b nd) && decide (frF f a b nd + f.kost c1 = frF f a b c1)) = false := by rw [c0, k1_]; rfl
    refine rd [(5, 0), (7, 0), (8, 0), (10, 0), (17, 0), (19, 0), (20, 0), (22, 0), (28, 0), (30, 0), (31, 0), (33, 0)] [0, 1, 2, 3, 4, 5, 6, 7, 8, 9, 10, 11, 12, 13, 14, 15, 16, 17, 18, 19, 20, 21, 22, 23, 24, 25, 26, 27, 28, 29, 30, 31, 32, 33, 34, 35] (by kernel_rfl) (by kernel_rfl) ?_
    refine fw1 rfl (λ _ => mv (evb rfl c0)) <| fw1 rfl (λ _ => mv rfl) <| fW rfl rfl rfl rfl rfl rfl (λ hc _ => mv rfl) rfl <| fW rfl rfl rfl rfl rfl rfl (λ hc _ => nc rfl) rfl <| fW rfl rfl rfl rfl rfl rfl (λ hc _ => fa eF110 rfl) rfl <| ?_
    have HB := HB.later x_88
    refine fQ rfl rfl rfl rfl rfl rfl (λ hc _ x => ld rfl ((HB.later x).one eF30 rfl)) rfl <| fW rfl rfl rfl rfl rfl rfl (λ hc _ => mv rfl) rfl <| ?_
    have B_80 := B_80.later x_88
    refine fQ rfl rfl rfl rfl rfl rfl (λ hc _ x => ld rfl ((B_80.later x).all eF7 eF8)) rfl <| fC rfl rfl rfl rfl rfl rfl eF109 (λ hc => rfl) (λ hc _ x => pindex_any w f P F A pc cf c p far l b nd _ (eT z_87 x) hf hP (HB.later x) (by first | omega | (dsimp only; omega))) rfl <| ?_
    have HF := HF.later x_78
    have HF := HF.mod m_84 (λ q hq h => by have hb := List.mem_singleton.1 h; exfalso; (have := u_72 q hq; have := uHF q hq; have := u_55 q hq; omega))
    have HF := HF.later x_88
    refine fW rfl rfl rfl rfl rfl rfl (λ hc _ => iA ((nd.y * f.wide + nd.x).toNat) Try.underlying42 eF11 rfl rfl (HF.has.adr (zl ((nd.y * f.wide + nd.x).toNat) (by have h_ := (fr_lt hf hpe.len hni).1; omega))) (by (try simp only [bS] at hc); omega) (by have h_ := (fr_lt hf hpe.len hni).1; omega)) rfl <| fQ rfl rfl rfl rfl rfl rfl (λ hc _ x => ld rfl (Rep.SHas.one' hcI ((HF.later x).has.adh (zl ((nd.y * f.wide + nd.x).toNat) (by have h_ := (fr_lt hf hpe.len hni).1; omega))) (hpe.get hf hni) rfl eF5)) rfl <| fW rfl rfl rfl rfl rfl rfl (λ hc _ => bge rfl rfl) rfl <| fw1 rfl (λ _ => pkT rfl (evb rfl k1_)) <| fw1 rfl (λ _ => mv rfl) <| fW (v := undef) rfl rfl rfl rfl rfl rfl (λ hc => nomatch hc) rfl <| fW (v := undef) rfl rfl rfl rfl rfl rfl (λ hc => nomatch hc) rfl <| fW (v := undef) rfl rfl rfl rfl rfl rfl (λ hc => nomatch hc) rfl <| fQ (v := undef) rfl rfl rfl rfl rfl rfl (λ hc => nomatch hc) rfl <| fW (v := undef) rfl rfl rfl rfl rfl rfl (λ hc => nomatch hc) rfl <| fQ (v := undef) rfl rfl rfl rfl rfl rfl (λ hc => nomatch hc) rfl <| fC (v := undef) (args := []) rfl rfl rfl rfl rfl rfl eF109 (λ hc => nomatch hc) (λ hc => nomatch hc) rfl <| fW (v := undef) rfl rfl rfl rfl rfl rfl (λ hc => nomatch hc) rfl <| fQ (v := undef) rfl rfl rfl rfl rfl rfl (λ hc => nomatch hc) rfl <| fW (v := undef) rfl rfl rfl rfl rfl rfl (λ hc => nomatch hc) rfl <| fW (v := undef) rfl rfl rfl rfl rfl rfl (λ hc => nomatch hc) rfl <| fW (v := undef) rfl rfl rfl rfl rfl rfl (λ hc => nomatch hc) rfl <| fW (v := undef) rfl rfl rfl rfl rfl rfl (λ hc => nomatch hc) rfl <| fW (v := undef) rfl rfl rfl rfl rfl rfl (λ hc => nomatch hc) rfl <| fQ (v := undef) rfl rfl rfl rfl rfl rfl (λ hc => nomatch hc) rfl <| fW (v := undef) rfl rfl rfl rfl rfl rfl (λ hc => nomatch hc) rfl <| fQ (v := undef) rfl rfl rfl rfl rfl rfl (λ hc => nomatch hc) rfl <| fC (v := undef) (args := []) rfl rfl rfl rfl rfl rfl eF109 (λ hc => nomatch hc) (λ hc => nomatch hc) rfl <| fW (v := undef) rfl rfl rfl rfl rfl rfl (λ hc => nomatch hc) rfl <| ?_
    refine fQ (v := undef) rfl rfl rfl rfl rfl rfl (λ hc => nomatch hc) rfl <| fW (v := undef) rfl rfl rfl rfl rfl rfl (λ hc => nomatch hc) rfl <| fw1 rfl (λ _ => pkF rfl rfl) <| fn λ w_93 x_94 => ?_
    have := x_94.size
    have z_93 := eT z_87 x_94
    refine nT <| cF rfl <| sk <| nB <| nT <| rg <| vL (bad rfl rfl (inI (by omega))) <| vm rfl <| nl <| ?_
    have B_12 := B_12.later x_78
    have B_12 := B_12.mod m_84 (nm1 (by omega))
    have B_12 := B_12.later (eT x_88 x_94)
    have B_19 := B_19.later x_78
    have B_19 := B_19.mod m_84 (nm1 (by omega))
    have B_19 := B_19.later (eT x_88 x_94)
    have HB := HB.later x_94
    have HF := HF.later x_94
    have HC1 := HC1.later x_78
    have HC1 := HC1.mod m_84 (nm1 (by omega))
    have HC1 := HC1.later (eT x_88 x_94)
    have OL1 := OL1.later x_78
    have OL1 := OL1.mod m_84 (λ q hq h => by have hb := List.mem_singleton.1 h; exfalso; (have := u_74 q hq; have := u_57 q hq; omega))
    have OL1 := OL1.later (eT x_88 x_94)
    exact nI _ _ ⟨j + 1, rfl, rfl, z_93, B_12, B_19, HB, HF, HC1, OL1, by omega, lt_succ_all hno (by rw [hnd]; exact hn1)⟩ (by omega) (.cons rfl (.cons rfl (.cons rfl (.cons rfl (.cons rfl (.cons rfl (.cons rfl (.cons rfl (.cons rfl (.cons rfl (.cons rfl (.cons rfl (.cons rfl (.cons rfl (.cons rfl (.cons rfl (.cons rfl (.cons rfl (.cons rfl (.cons rfl (.cons (loI rfl (by first | omega | rfl | (simp <;> omega))) .nil)))))))))))))))))))))
   ·have hni := Fld.ground_in c0
    obtain ⟨nl1, nl2, nl3⟩ := fr_lt hf hpe.len hni
    obtain ⟨ml1, ml2, ml3⟩ := fr_lt hf hpe.len hci
    have hbn1 := hbl nd
    have hnn := of_decide_eq_true k1_
    have hn1 : (f.ground nd && decide (0 ≤ frF f a b nd) && decide (frF f a b nd + f.kost c1 = frF f a b c1)) = false := by rw [hkk, beq_eq_false_iff_ne] at k2_; rw [c0, k1_, decide_eq_false k2_]; rfl
    refine rd [(5, 0), (7, 0), (8, 0), (10, 0), (17, 0), (19, 0), (20, 0), (22, 0), (28, 0), (30, 0), (31, 0), (33, 0)] [0, 1, 2, 3, 4, 5, 6, 7, 8, 9, 10, 11, 12, 13, 14, 15, 16, 17, 18, 19, 20, 21, 22, 23, 24, 25, 26, 27, 28, 29, 30, 31, 32, 33, 34, 35] (by kernel_rfl) (by kernel_rfl) ?_
    refine fw1 rfl (λ _ => mv (evb rfl c0)) <| fw1 rfl (λ _ => mv rfl) <| fW rfl rfl rfl rfl rfl rfl (λ hc _ => mv rfl) rfl <| fW rfl rfl rfl rfl rfl rfl (λ hc _ => nc rfl) rfl <| fW rfl rfl rfl rfl rfl rfl (λ hc _ => fa eF110 rfl) rfl <| ?_
    have HB := HB.later x_88
    refine fQ rfl rfl rfl rfl rfl rfl (λ hc _ x => ld rfl ((HB.later x).one eF30 rfl)) rfl <| fW rfl rfl rfl rfl rfl rfl (λ hc _ => mv rfl) rfl <| ?_
    have B_80 := B_80.later x_88
    refine fQ rfl rfl rfl rfl rfl rfl (λ hc _ x => ld rfl ((B_80.later x).all eF7 eF8)) rfl <| fC rfl rfl rfl rfl rfl rfl eF109 (λ hc => rfl) (λ hc _ x => pindex_any w f P F A pc cf c p far l b nd _ (eT z_87 x) hf hP (HB.later x) (by first | omega | (dsimp only; omega))) rfl <| ?_
    have HF := HF.later x_78
    have HF := HF.mod m_84 (λ q hq h => by have hb := List.mem_singleton.1 h; exfalso; (have := u_72 q hq; have := uHF q hq; have := u_55 q hq; omega))
    have HF := HF.later x_88
    refine fW rfl rfl rfl rfl rfl rfl (λ hc _ => iA ((nd.y * f.wide + nd.x).toNat) Try.underlying42 eF11 rfl rfl (HF.has.adr (zl ((nd.y * f.wide + nd.x).toNat) (by have h_ := (fr_lt hf hpe.len hni).1; omega))) (by (try simp only [bS] at hc); omega) (by have h_ := (fr_lt hf hpe.len hni).1; omega)) rfl <| fQ rfl rfl rfl rfl rfl rfl (λ hc _ x => ld rfl (Rep.SHas.one' hcI ((HF.later x).has.adh (zl ((nd.y * f.wide + nd.x).toNat) (by have h_ := (fr_lt hf hpe.len hni).1; omega))) (hpe.get hf hni) rfl eF5)) rfl <| fW rfl rfl rfl rfl rfl rfl (λ hc _ => bge rfl rfl) rfl <| fw1 rfl (λ _ => pkT rfl (evb rfl k1_)) <| fw1 rfl (λ _ => mv rfl) <| fW rfl rfl rfl rfl rfl rfl (λ hc _ => mv rfl) rfl <| fW rfl rfl rfl rfl rfl rfl (λ hc _ => nc rfl) rfl <| fW rfl rfl rfl rfl rfl rfl (λ hc _ => fa eF110 rfl) rfl <| fQ rfl rfl rfl rfl rfl rfl (λ hc _ x => ld rfl ((HB.later x).one eF30 rfl)) rfl <| fW rfl rfl rfl rfl rfl rfl (λ hc _ => mv rfl) rfl <| fQ rfl rfl rfl rfl rfl rfl (λ hc _ x => ld rfl ((B_80.later x).all eF7 eF8)) rfl <| fC rfl rfl rfl rfl rfl rfl eF109 (λ hc => rfl) (λ hc _ x => pindex_any w f P F A pc cf c p far l b nd _ (eT z_87 x) hf hP (HB.later x) (by first | omega | (dsimp only; omega))) rfl <| fW rfl rfl rfl rfl rfl rfl (λ hc _ => iA ((nd.y * f.wide + nd.x).toNat) Try.underlying42 eF11 rfl rfl (HF.has.adr (zl ((nd.y * f.wide + nd.x).toNat) (by have h_ := (fr_lt hf hpe.len hni).1; omega))) (by (try simp only [bS] at hc); omega) (by have h_ := (fr_lt hf hpe.len hni).1; omega)) rfl <| fQ rfl rfl rfl rfl rfl rfl (λ hc _ x => ld rfl (Rep.SHas.one' hcI ((HF.later x).has.adh (zl ((nd.y * f.wide + nd.x).toNat) (by have h_ := (fr_lt hf hpe.len hni).1; omega))) (hpe.get hf hni) rfl eF5)) rfl <| fW rfl rfl rfl rfl rfl rfl (λ hc _ => mv rfl) rfl <| fW rfl rfl rfl rfl rfl rfl (λ hc _ => bad rfl rfl (inI (by (try simp only [bS] at hc); omega))) rfl <| fW rfl rfl rfl rfl rfl rfl (λ hc _ => mv rfl) rfl <| fW rfl rfl rfl rfl rfl rfl (λ hc _ => nc rfl) rfl <| fW rfl rfl rfl rfl rfl rfl (λ hc _ => fa eF110 rfl) rfl <| fQ rfl rfl rfl rfl rfl rfl (λ hc _ x => ld rfl ((HB.later x).one eF30 rfl)) rfl <| fW rfl rfl rfl rfl rfl rfl (λ hc _ => mv rfl) rfl <| ?_
    have HC1 := HC1.later x_78
    have HC1 := HC1.mod m_84 (nm1 (by omega))
    have HC1 := HC1.later x_88
    refine fQ rfl rfl rfl rfl rfl rfl (λ hc _ x => ld rfl ((HC1.later x).all eF7 eF8)) rfl <| fC rfl rfl rfl rfl rfl rfl eF109 (λ hc => rfl) (λ hc _ x => pindex_any w f P F A pc cf c p far l b c1 _ (eT z_87 x) hf hP (HB.later x) (by first | omega | (dsimp only; omega))) rfl <| fW rfl rfl rfl rfl rfl rfl (λ hc _ => iA ((c1.y * f.wide + c1.x).toNat) Try.underlying42 eF11 rfl rfl (HF.has.adr (zl ((c1.y * f.wide + c1.x).toNat) (by have h_ := (fr_lt hf hpe.len hci).1; omega))) (by (try simp only [bS] at hc); omega) (by have h_ := (fr_lt hf hpe.len hci).1; omega)) rfl <| fQ rfl rfl rfl rfl rfl rfl (λ hc _ x => ld rfl (Rep.SHas.one' hcI ((HF.later x).has.adh (zl ((c1.y * f.wide + c1.x).toNat) (by have h_ := (fr_lt hf hpe.len hci).1; omega))) (hpe.get hf hci) rfl eF5)) rfl <| fW rfl rfl rfl rfl rfl rfl (λ hc _ => beq rfl rfl) rfl <| fw1 rfl (λ _ => pkT rfl (evb rfl k2_)) <| fn λ w_96 x_97 => ?_
    have := x_97.size
    have z_96 := eT z_87 x_97
    refine nT <| cF rfl <| sk <| nB <| nT <| rg <| vL (bad rfl rfl (inI (by omega))) <| vm rfl <| nl <| ?_
    have B_12 := B_12.later x_78
    have B_12 := B_12.mod m_84 (nm1 (by omega))
    have B_12 := B_12.later (eT x_88 x_97)
    have B_19 := B_19.later x_78
    have B_19 := B_19.mod m_84 (nm1 (by omega))
    have B_19 := B_19.later (eT x_88 x_97)
    have HB := HB.later x_97
    have HF := HF.later x_97
    have HC1 := HC1.later x_97
    have OL1 := OL1.later x_78
    have OL1 := OL1.mod m_84 (λ q hq h => by have hb := List.mem_singleton.1 h; exfalso; (have := u_74 q hq; have := u_57 q hq; omega))
    have OL1 := OL1.later (eT x_88 x_97)
    exact nI _ _ ⟨j + 1, rfl, rfl, z_96, B_12, B_19, HB, HF, HC1, OL1, by omega, lt_succ_all hno (by rw [hnd]; exact hn1)⟩ (by omega) (.cons rfl (.cons rfl (.cons rfl (.cons rfl (.cons rfl (.cons rfl (.cons rfl (.cons rfl (.cons rfl (.cons rfl (.cons rfl (.cons rfl (.cons rfl (.cons rfl (.cons rfl (.cons rfl (.cons rfl (.cons rfl (.cons rfl (.cons rfl (.cons (loI rfl (by first | omega | rfl | (simp <;> omega))) .nil)))))))))))))))))))))
   ·have hni := Fld.ground_in c0
    obtain ⟨nl1, nl2, nl3⟩ := fr_lt hf hpe.len hni
    obtain ⟨ml1, ml2, ml3⟩ := fr_lt hf hpe.len hci
    have hbn1 := hbl nd
    have hnn := of_decide_eq_true k1_
    have hpv : prevF f (frF f a b) c1 = nd := by rw [hkk, beq_iff_eq] at k2_; rw [← hnd]; exact prev_at (by omega) hno (by rw [hnd, c0, k1_, decide_eq_true k2_]; rfl)
    rw [hpv] at p1 p2 p3 p4 hpw
    obtain ⟨_, _, n1a, n1b, n1c, n1d⟩ := Fld.idx hf hni
    have hw2 := way_app hw1 hpw
    refine rd [(5, 0), (7, 0), (8, 0), (10, 0), (17, 0), (19, 0), (20, 0), (22, 0), (28, 0), (30, 0), (31, 0), (33, 0)] [0, 1, 2, 3, 4, 5, 6, 7, 8, 9, 10, 11, 12, 13, 14, 15, 16, 17, 18, 19, 20, 21, 22, 23, 24, 25, 26, 27, 28, 29, 30, 31, 32, 33, 34, 35] (by kernel_rfl) (by kernel_rfl) ?_
    refine fw1 rfl (λ _ => mv (evb rfl c0)) <| fw1 rfl (λ _ => mv rfl) <| fW rfl rfl rfl rfl rfl rfl (λ hc _ => mv rfl) rfl <| fW rfl rfl rfl rfl rfl rfl (λ hc _ => nc rfl) rfl <| fW rfl rfl rfl rfl rfl rfl (λ hc _ => fa eF110 rfl) rfl <| ?_
    have HB := HB.later x_88
    refine fQ rfl rfl rfl rfl rfl rfl (λ hc _ x => ld rfl ((HB.later x).one eF30 rfl)) rfl <| fW rfl rfl rfl rfl rfl rfl (λ hc _ => mv rfl) rfl <| ?_
    have B_80 := B_80.later x_88
    refine fQ rfl rfl rfl rfl rfl rfl (λ hc _ x => ld rfl ((B_80.later x).all eF7 eF8)) rfl <| fC rfl rfl rfl rfl rfl rfl eF109 (λ hc => rfl) (λ hc _ x => pindex_any w f P F A pc cf c p far l b nd _ (eT z_87 x) hf hP (HB.later x) (by first | omega | (dsimp only; omega))) rfl <| ?_
    have HF := HF.later x_78
    have HF := HF.mod m_84 (λ q hq h => by have hb := List.mem_singleton.1 h; exfalso; (have := u_72 q hq; have := uHF q hq; have := u_55 q hq; omega))
    have HF := HF.later x_88
    refine fW rfl rfl rfl rfl rfl rfl (λ hc _ => iA ((nd.y * f.wide + nd.x).toNat) Try.underlying42 eF11 rfl rfl (HF.has.adr (zl ((nd.y * f.wide + nd.x).toNat) (by have h_ := (fr_lt hf hpe.len hni).1; omega))) (by (try simp only [bS] at hc); omega) (by have h_ := (fr_lt hf hpe.len hni).1; omega)) rfl <| fQ rfl rfl rfl rfl rfl rfl (λ hc _ x => ld rfl (Rep.SHas.one' hcI ((HF.later x).has.adh (zl ((nd.y * f.wide + nd.x).toNat) (by have h_ := (fr_lt hf hpe.len hni).1; omega))) (hpe.get hf hni) rfl eF5)) rfl <| fW rfl rfl rfl rfl rfl rfl (λ hc _ => bge rfl rfl) rfl <| fw1 rfl (λ _ => pkT rfl (evb rfl k1_)) <| fw1 rfl (λ _ => mv rfl) <| fW rfl rfl rfl rfl rfl rfl (λ hc _ => mv rfl) rfl <| fW rfl rfl rfl rfl rfl rfl (λ hc _ => nc rfl) rfl <| fW rfl rfl rfl rfl rfl rfl (λ hc _ => fa eF110 rfl) rfl <| fQ rfl rfl rfl rfl rfl rfl (λ hc _ x => ld rfl ((HB.later x).one eF30 rfl)) rfl <| fW rfl rfl rfl rfl rfl rfl (λ hc _ => mv rfl) rfl <| fQ rfl rfl rfl rfl rfl rfl (λ hc _ x => ld rfl ((B_80.later x).all eF7 eF8)) rfl <| fC rfl rfl rfl rfl rfl rfl eF109 (λ hc => rfl) (λ hc _ x => pindex_any w f P F A pc cf c p far l b nd _ (eT z_87 x) hf hP (HB.later x) (by first | omega | (dsimp only; omega))) rfl <| fW rfl rfl rfl rfl rfl rfl (λ hc _ => iA ((nd.y * f.wide + nd.x).toNat) Try.underlying42 eF11 rfl rfl (HF.has.adr (zl ((nd.y * f.wide + nd.x).toNat) (by have h_ := (fr_lt hf hpe.len hni).1; omega))) (by (try simp only [bS] at hc); omega) (by have h_ := (fr_lt hf hpe.len hni).1; omega)) rfl <| fQ rfl rfl rfl rfl rfl rfl (λ hc _ x => ld rfl (Rep.SHas.one' hcI ((HF.later x).has.adh (zl ((nd.y * f.wide + nd.x).toNat) (by have h_ := (fr_lt hf hpe.len hni).1; omega))) (hpe.get hf hni) rfl eF5)) rfl <| fW rfl rfl rfl rfl rfl rfl (λ hc _ => mv rfl) rfl <| fW rfl rfl rfl rfl rfl rfl (λ hc _ => bad rfl rfl (inI (by (try simp only [bS] at hc); omega))) rfl <| fW rfl rfl rfl rfl rfl rfl (λ hc _ => mv rfl) rfl <| fW rfl rfl rfl rfl rfl rfl (λ hc _ => nc rfl) rfl <| fW rfl rfl rfl rfl rfl rfl (λ hc _ => fa eF110 rfl) rfl <| fQ rfl rfl rfl rfl rfl rfl (λ hc _ x => ld rfl ((HB.later x).one eF30 rfl)) rfl <| fW rfl rfl rfl rfl rfl rfl (λ hc _ => mv rfl) rfl <| ?_
    have HC1 := HC1.later x_78
    have HC1 := HC1.mod m_84 (nm1 (by omega))
    have HC1 := HC1.later x_88
    refine fQ rfl rfl rfl rfl rfl rfl (λ hc _ x => ld rfl ((HC1.later x).all eF7 eF8)) rfl <| fC rfl rfl rfl rfl rfl rfl eF109 (λ hc => rfl) (λ hc _ x => pindex_any w f P F A pc cf c p far l b c1 _ (eT z_87 x) hf hP (HB.later x) (by first | omega | (dsimp only; omega))) rfl <| fW rfl rfl rfl rfl rfl rfl (λ hc _ => iA ((c1.y * f.wide + c1.x).toNat) Try.underlying42 eF11 rfl rfl (HF.has.adr (zl ((c1.y * f.wide + c1.x).toNat) (by have h_ := (fr_lt hf hpe.len hci).1; omega))) (by (try simp only [bS] at hc); omega) (by have h_ := (fr_lt hf hpe.len hci).1; omega)) rfl <| fQ rfl rfl rfl rfl rfl rfl (λ hc _ x => ld rfl (Rep.SHas.one' hcI ((HF.later x).has.adh (zl ((c1.y * f.wide + c1.x).toNat) (by have h_ := (fr_lt hf hpe.len hci).1; omega))) (hpe.get hf hci) rfl eF5)) rfl <| fW rfl rfl rfl rfl rfl rfl (λ hc _ => beq rfl rfl) rfl <| fw1 rfl (λ _ => pkT rfl (evb rfl k2_)) <| fn λ w_99 x_100 => ?_
    have := x_100.size
    have z_99 := eT z_87 x_100
    refine nT <| cT rfl <| sg <| ?_
    have B_80 := B_80.later x_100
    refine vL (ld rfl (B_80.all eF7 eF8)) <| ?_
    have HC1 := HC1.later x_100
    refine st (new := [.int .i64 nd.x, .int .i64 nd.y]) rfl rfl HC1 rfl eF8 rfl rfl rfl λ w_102 m_103 HC1 => ?_
    have := m_103.size
    have z_102 := Ext.mod z_99 m_103 (ge1 (by omega))
    have := m_103.size
    refine nK <| xt <| xN rfl <| xT <| xK <| xB <| nT <| rg <| vm rfl <| vL (ld rfl (HC1.all eF7 eF8)) <| bs (e := 70) (cs := [.int .i64 nd.x, .int .i64 nd.y]) rfl (λ _ => by kernel_rfl) rfl λ w_106 b_107 x_108 l_109 B_110 => ?_
    have := x_108.size
    have z_106 := eT z_102 x_108
    have q_112 := B_110.lt
    have OL1 := OL1.later x_78
    have OL1 := OL1.mod m_84 (λ q hq h => by have hb := List.mem_singleton.1 h; exfalso; (have := u_74 q hq; have := u_57 q hq; omega))
    have OL1 := OL1.later (eT x_88 x_100)
    have OL1 := OL1.mod m_103 (λ q hq h => by have hb := List.mem_singleton.1 h; exfalso; (exact d_46 q hq hb))
    have OL1 := OL1.later x_108
    refine ap Ptf_el_S_api_Cell Rep.flat_bare OL1 (Blk.has1 (R := Cel.rep) (by_ := 16) (q := nd) B_110 ⟨rfl, ⟨okI_iff.2 (by (try dsimp only); omega), okI_iff.2 (by (try dsimp only); omega)⟩⟩ (by decide)) rfl rfl (by have hwl := hlen1; simp only [List.length_cons, List.length_nil]; omega) (by have hwl := hlen1; simp only [List.length_cons, List.length_nil]; omega) (by omega) rfl λ w_113 A_114 c_115 m_116 O_117 g_118 n_119 => ?_
    have := m_116.size
    have z_113 := Ext.mod z_106 m_116 (λ q hq => Nat.le_trans (by omega) (OL1.lt q hq).1)
    have u_121 := λ q hq => (O_117.lt q hq).2
    have := m_116.size
    refine va rfl <| nl <| nB <| nT <| sg <| ?_
    have HC1 := HC1.later x_108
    have HC1 := HC1.mod m_116 (λ hq => d_46 _ hq rfl)
    refine vL (ld rfl (HC1.all eF7 eF8)) <| nK <| rg <| al rfl eF13 rfl rfl λ w_123 b_124 x_125 l_126 B_127 => ?_
    have := x_125.size
    have z_123 := eT z_113 x_125
    have q_129 := B_127.lt
    refine st (new := [.int .i64 nd.x, .int .i64 nd.y]) rfl rfl B_127 rfl eF8 rfl rfl rfl λ w_130 m_131 B_127 => ?_
    have := m_131.size
    have z_130 := Ext.mod z_123 m_131 (ge1 (by omega))
    have := m_131.size
    refine nl <| ?_
    have B_12 := B_12.later x_78
    have B_12 := B_12.mod m_84 (nm1 (by omega))
    have B_12 := B_12.later (eT x_88 x_100)
    have B_12 := B_12.mod m_103 (nm1 (by omega))
    have B_12 := B_12.later x_108
    have B_12 := B_12.mod m_116 (λ hq => d_43 _ hq rfl)
    have B_12 := B_12.later x_125
    have B_12 := B_12.mod m_131 (nm1 (by omega))
    have B_19 := B_19.later x_78
    have B_19 := B_19.mod m_84 (nm1 (by omega))
    have B_19 := B_19.later (eT x_88 x_100)
    have B_19 := B_19.mod m_103 (nm1 (by omega))
    have B_19 := B_19.later x_108
    have B_19 := B_19.mod m_116 (λ hq => d_44 _ hq rfl)
    have B_19 := B_19.later x_125
    have B_19 := B_19.mod m_131 (nm1 (by omega))
    have HB := HB.later x_100
    have HB := HB.mod m_103 (nm1 (by omega))
    have HB := HB.later x_108
    have HB := HB.mod m_116 (λ hq => d_45 _ hq rfl)
    have HB := HB.later x_125
    have HB := HB.mod m_131 (nm1 (by omega))
    have HF := HF.later x_100
    have HF := HF.mod m_103 (λ q hq h => by have hb := List.mem_singleton.1 h; exfalso; (exact hbFd q hq hb))
    have HF := HF.later x_108
    have HF := HF.mod m_116 (λ q hq h => by exfalso; (exact d_47 q h hq))
    have HF := HF.later x_125
    have HF := HF.mod m_131 (λ q hq h => by have hb := List.mem_singleton.1 h; exfalso; (have := u_72 q hq; have := uHF q hq; have := u_55 q hq; omega))
    have HC1 := HC1.later x_125
    have HC1 := HC1.mod m_131 (nm1 (by omega))
    have O_117 := O_117.later x_125
    have O_117 := O_117.mod m_131 (fk1 u_121 (by omega))
    exact nI _ _ ⟨nd, b_124, out ++ [nd], A_114, c_115, rfl, rfl, z_130, B_12, B_19, HB, HF, B_127, O_117, (by omega), (by omega), (by omega), (by omega), (λ q hq => by have := hbF q hq; omega), p3, hw2, (by omega), (λ q hq hb => by (exact Or.elim (g_118 q hq) (λ k_134 => by (exact d_43 q k_134 hb)) (λ k_134 => by omega))), (λ q hq hb => by (exact Or.elim (g_118 q hq) (λ k_135 => by (exact d_44 q k_135 hb)) (λ k_135 => by omega))), (λ q hq hb => by (exact Or.elim (g_118 q hq) (λ k_136 => by (exact d_45 q k_136 hb)) (λ k_136 => by omega))), (λ q hq hb => by (have := u_121 q hq; omega)), (λ q hq hb => by (exact Or.elim (g_118 q hq) (λ k_137 => by (exact d_47 q k_137 hb)) (λ k_137 => by (have := u_72 q hb; have := uHF q hb; have := u_55 q hb; omega))))⟩ (by omega) (sba rfl)
  ·exfalso
   have e4 : j = 4 := by omega
   rw [e4] at hno
   exact Fld.sides_ne p1 (prev_none hno)
 ·have hca : c1 = a := by simpa using h_58
  refine xt <| xT <| xK <| xB <| nT <| sg <| vm rfl <| ca eF121 rfl rfl ((reverse_C _ _ w.heap.size out _ OL1 (Cel.all_ok OL1.has)).mono ?_)
  rintro e w_140 ⟨rfl, O_138, m_139⟩
  refine ⟨_, rfl, ?_⟩
  have := m_139.size
  have z_140 := Ext.mod z_48 m_139 (λ q hq => (OL1.lt q hq).1)
  refine nK <| sq <| ?_
  refine rd [(4, 0), (6, 0), (7, 0), (9, 0)] [0, 1, 2, 3, 4, 5, 6, 7, 8, 9, 10, 11, 12] (by kernel_rfl) (by kernel_rfl) ?_
  refine fw1 rfl (λ _ => mv rfl) <| fw1 rfl (λ _ => mv rfl) <| fw1 rfl (λ _ => nc rfl) <| fw1 rfl (λ _ => fa eF110 rfl) <| ?_
  have HB := HB.mod m_139 (λ hq => d_45 _ hq rfl)
  refine fq1 rfl (λ _ x => ld rfl ((HB.later x).one eF30 rfl)) <| fw1 rfl (λ _ => mv rfl) <| ?_
  have B_19 := B_19.mod m_139 (λ hq => d_44 _ hq rfl)
  refine fq1 rfl (λ _ x => ld rfl ((B_19.later x).all eF7 eF8)) <| fc rfl rfl eF109 rfl (λ _ x => pindex_any w f P F A pc cf c p far l b b _ (eT z_140 x) hf hP (HB.later x) (by first | omega | (dsimp only; omega))) rfl <| ?_
  have HF := HF.mod m_139 (λ q hq h => by exfalso; (exact d_47 q h hq))
  refine fw1 rfl (λ _ => iA ((b.y * f.wide + b.x).toNat) Try.underlying42 eF11 rfl rfl (HF.has.adr (zl ((b.y * f.wide + b.x).toNat) (by have h_ := (fr_lt hf hpe.len hib).1; omega))) (by omega) (by have h_ := (fr_lt hf hpe.len hib).1; omega)) <| fq1 rfl (λ _ x => ld rfl (Rep.SHas.one' hcI ((HF.later x).has.adh (zl ((b.y * f.wide + b.x).toNat) (by have h_ := (fr_lt hf hpe.len hib).1; omega))) (hpe.get hf hib) rfl eF5)) <| fw1 rfl (λ _ => as_ rfl) <| fw1 rfl (λ _ => as_ rfl) <| fw1 rfl (λ _ => as_ rfl) <| fn λ w_142 x_143 => ?_
  have := x_143.size
  have z_142 := eT z_140 x_143
  refine nT <| rt <| tR (.tmp rfl (.tmp rfl (.tmp rfl .nil))) <| ?_
  have O_138 := O_138.later x_143
  have hout : out = wayB f (frF f a b) a b := by rw [hca, wayB_self hFr] at hw1; simpa using hw1
  exact ⟨_, _, by rw [← hout, List.length_reverse]; rfl, by rw [← hout]; exact O_138, z_142⟩
end
section
open Go.RowKit
section
variable {f : Fld} {a b c x : Cel} {dl far : List Int} {d : Int}
def allC (f : Fld) : List Cel := (List.range f.high.toNat).flatMap λ (y : Nat) => (List.range f.wide.toNat).map λ (x : Nat) => (⟨(x : Int), (y : Int)⟩ : Cel)
def certC (f : Fld) (a b : Cel) (dl far : List Int) (c : Cel) : Bool :=
 (decide (0 ≤ f.fr dl c) || decide (f.fr dl c = -1)) &&
 (!decide (0 ≤ f.fr dl c) || (f.ground c && ((decide (c = a) && decide (f.fr dl c = 0)) || (sidesC c).any λ p => decide (0 ≤ f.fr dl p) && decide (f.fr dl c = f.fr dl p + f.kost c)))) &&
 (!decide (0 ≤ f.fr dl c) || (f.adj c).all λ y => decide (0 ≤ f.fr dl y) && decide (f.fr dl y ≤ f.fr dl c + f.kost y)) &&
 decide (f.fr far c = if 0 ≤ f.fr dl c ∧ (f.fr dl b < 0 ∨ f.fr dl c + Fld.est b c ≤ f.fr dl b) then f.fr dl c else -1) &&
 decide (f.fr dl c ≤ 3 * (f.places.length : Int))
def certB (f : Fld) (a b : Cel) (dl far : List Int) : Bool := decide (far.length = f.places.length) && decide (f.fr dl a = 0) && (allC f).all (certC f a b dl far)
end
theorem pfind_any (f : Fld) (a b : Cel) (P : Option Addr) (pc : Nat) (w : World) (hP : repI.SHas 8 w P pc f.places) :
  Calls Try.prog 136 #[.agg #[.int .i64 f.wide, .int .i64 f.high, .slice P f.places.length pc], .agg #[.int .i64 a.x, .int .i64 a.y], .agg #[.int .i64 b.x, .int .i64 b.y]] w (λ e w' => ∃ A c, e = .returned (.tuple #[.slice A (findP f a b).length c, .int .i64 (findK f a b), .int .i64 (findE f a b)]) ∧ Cel.rep.SOwn 70 16 w' w.heap.size (Rep.blkOf A) A c (findP f a b) ∧ Ext w w') := by
 by_cases he : findE f a b = 0
 ·rcases find_cases f a b with ⟨h1, h2⟩ | ⟨h1, h2, h3⟩ | ⟨h1, h2, h3, h4⟩ | ⟨h1, h2, h3, h4 | h4⟩
  ·rw [h2] at he; exact absurd he h1
  ·rw [h3] at he; exact absurd he h2
  ·rw [h4] at he; cases he
  ·rw [h4.2] at he; cases he
  ·unfold findP findK
   rw [if_pos he, if_pos he, he]
   exact pfind_ok f a b P pc w hP h1 h2 h3 h4.1
 ·unfold findP findK
  rw [if_neg he, if_neg he]
  exact (pfind_no f a b P pc w hP he).mono λ e w' h => ⟨none, 0, h.1, Rep.SOwn.nil _, h.2⟩
section
variable {f : Fld} {a b : Cel} {far : List Int}
end
end
section
open Go.RowKit
structure Blw where
 who : Int
 whom : Int
 deriving DecidableEq, Inhabited
namespace Blw
def cells (a : Blw) : List Value := [.int .i64 (a.who), .int .i64 (a.whom)]
def ok (a : Blw) : Prop := (Lit.int .i64 a.who).wf = true ∧ (Lit.int .i64 a.whom).wf = true
def raw (j : Nat) (u : Value) : Prop := match j with
 | 0 => ∃ n : Int, u = .int .i64 n
 | 1 => ∃ n : Int, u = .int .i64 n
 | _ => True
theorem cells_raw (a : Blw) : ∀ (j : Nat) u, a.cells[j]? = some u → raw j u := by
 intro j u hu
 match j, hu with
 | 0, hu => exact ⟨_, (Option.some.inj hu).symm⟩
 | 1, hu => exact ⟨_, (Option.some.inj hu).symm⟩
 | j + 2, hu => exact trivial
theorem cells_one (a : Blw) : ∀ u ∈ a.cells, u.oneCell' = true := by
 intro u hu
 unfold cells at hu
 simp only [List.mem_cons, List.not_mem_nil, or_false] at hu
 rcases hu with rfl | rfl <;> rfl
def rep : Rep Blw := Rep.flat 2 cells ok raw (fun _ => rfl) cells_one cells_raw
theorem plain : rep.Plain := Rep.flat_plain
def zero : Value := .agg #[.int .i64 0, .int .i64 0]
theorem zero_raw : ∀ (j : Nat) u, zero.cells[j]? = some u → rep.raw j u := by
 intro j u hu
 have hu : (#[(.int .i64 0 : Value), (.int .i64 0 : Value)] : Array Value)[j]? = some u := hu
 match j, hu with
 | 0, hu => exact ⟨_, (Option.some.inj hu).symm⟩
 | 1, hu => exact ⟨_, (Option.some.inj hu).symm⟩
 | j + 2, hu => cases hu
theorem info : (Try.prog.info? 193).map (fun i => (i.zero, i.size, i.bytes)) = some (some zero, 2, 16) := by kernel_rfl
theorem at_ {by_ : Nat} {w : World} {A : Option Addr} {c : Nat} {l : List Blw} (h : rep.SHas by_ w A c l) (h0 : 0 < l.length) :
  ∃ b o, A = some ⟨b, o, none⟩ ∧ ∀ (i : Nat) (a : Blw), l[i]? = some a → w.cell? ⟨b, o + i * 2, none⟩ = some (.int .i64 (a.who)) ∧ w.cell? ⟨b, o + i * 2 + 1, none⟩ = some (.int .i64 (a.whom)) := by
 obtain ⟨b, o, e, hc⟩ := h.at_ h0
 refine ⟨b, o, e, fun i a ha => ?_⟩
 obtain ⟨es, ⟨rfl, _⟩, hj⟩ := hc i a ha
 exact ⟨hj 0 _ rfl, hj 1 _ rfl⟩
theorem all_ok {by_ : Nat} {w : World} {A : Option Addr} {c : Nat} {l : List Blw} (h : rep.SHas by_ w A c l) : ∀ a ∈ l, a.ok := Rep.SHas.all_ (R := rep) (Q := ok) (fun {w cs a} (h : rep.has w cs a) => (show cs = a.cells ∧ a.ok from h).2) h
def sh : Sh := (.cons (.int .i64) (.cons (.int .i64) .nil))
theorem opens (w : World) (cs : List Value) (h : sh.Ok w cs) : ∃ a, rep.has w cs a := by
 obtain ⟨_, _, rfl, _, _, ⟨x0, rfl, k0⟩, ⟨_, _, rfl, _, _, ⟨x1, rfl, k1⟩, rfl⟩⟩ := h
 exact ⟨⟨x0, x1⟩, rfl, k0, k1⟩
end Blw
theorem hcW {w : World} {cs : List Value} {a : Blw} (h : Blw.rep.has w cs a) : cs = a.cells := And.left (show cs = a.cells ∧ a.ok from h)
end
section
open Go.RowKit
theorem HitG_ib_bool : (Try.prog.info? 4).map (λ i => (i.zero, i.size, i.bytes)) = some (some (.bool false), 1, 1) := by kernel_rfl
def countsC (f : Fld) (x y : Trp) : Bool := if (x.owner == y.owner || decide (reachOf x.kind < far x.spot y.spot)) = true then false else seesV f x.spot y.spot
def idl (l : List Trp) : List (Int × Int) := (List.range l.length).map λ i => ((l.getD i default).id, (i : Int))
theorem idl_take {l : List Trp} {k : Nat} (h : k < l.length) : idl (l.take (k + 1)) = idl (l.take k) ++ [((l.getD k default).id, (k : Int))] := by
 have e1 : (l.take (k + 1)).length = k + 1 := by rw [List.length_take]; omega
 have e2 : (l.take k).length = k := by rw [List.length_take]; omega
 unfold idl
 rw [e1, e2, List.range_succ, List.map_append]
 congr 1
 ·refine List.map_congr_left λ i hi => ?_
  have hi := List.mem_range.1 hi
  simp only [List.getD_eq_getElem?_getD, List.getElem?_take]
  rw [if_pos (by omega), if_pos hi]
 ·simp only [List.map_cons, List.map_nil, List.getD_eq_getElem?_getD, List.getElem?_take]
  rw [if_pos (by omega)]
theorem idl_mem {l : List Trp} {p : Int × Int} (h : p ∈ idl l) : ∃ i, i < l.length ∧ p = ((l.getD i default).id, (i : Int)) := by
 obtain ⟨i, hi, rfl⟩ := List.mem_map.1 h
 exact ⟨i, List.mem_range.1 hi, rfl⟩
theorem getI_mem {l : List (Int × Int)} {k v : Int} (h : getI l k = some v) : (k, v) ∈ l := by
 unfold getI at h
 cases hf : l.find? (λ p => p.1 == k) with
 | none => rw [hf] at h; exact nomatch h
 | some p =>
  rw [hf] at h
  injection h with h
  have h1 := List.mem_of_find?_eq_some hf
  have h2 := List.find?_some hf
  have h3 : p.1 = k := by simpa using h2
  rw [← h3, ← h]; exact h1
theorem getI_none {l : List (Int × Int)} {k : Int} (h : ∀ p ∈ l, p.1 ≠ k) : getI l k = none := by
 unfold getI
 rw [List.find?_eq_none.2 λ p hp => by simpa using h p hp]; rfl
theorem place_of {W : Wd} {x v : Int} (h : getI (idl W.troops) x = some v) : ∃ i, i < W.troops.length ∧ v = (i : Int) ∧ (W.troops.getD i default).id = x := by
 obtain ⟨i, hi, he⟩ := idl_mem (getI_mem h)
 injection he with h1 h2
 exact ⟨i, hi, h2, h1.symm⟩
theorem place_at {W : Wd} (hG : Good W) (x : Int) (h : (getI (idl W.troops) x).isSome = true) : ((getI (idl W.troops) x).getD 0).toNat < W.troops.length ∧ 0 ≤ (getI (idl W.troops) x).getD 0 := by
 cases hg : getI (idl W.troops) x with
 | none => rw [hg] at h; exact nomatch h
 | some v =>
  obtain ⟨i, hi, hv, _⟩ := place_of hg
  show v.toNat < _ ∧ 0 ≤ v
  omega
theorem place_pos (W : Wd) (x : Int) : 0 ≤ (getI (idl W.troops) x).getD 0 := by
 cases hg : getI (idl W.troops) x with
 | none => exact Int.le_refl _
 | some v => obtain ⟨i, hi, hv, _⟩ := place_of hg; show 0 ≤ v; omega
theorem Good.ids_lt {W : Wd} (hG : Good W) {i j : Nat} (hij : i < j) (hj : j < W.troops.length) : (W.troops.getD i default).id < (W.troops.getD j default).id := by
 induction j with
 | zero => omega
 | succ j ih =>
  obtain ⟨t, ht⟩ := get_of hj
  have h1 := (hG.ids (j + 1) t ht).1
  have h2 : W.lastId (j + 1) = (W.troops.getD j default).id := by
   unfold Wd.lastId
   simp
  have e1 : W.troops.getD (j + 1) default = t := by rw [List.getD_eq_getElem?_getD, ht]; rfl
  rw [e1]
  rcases Nat.lt_succ_iff_lt_or_eq.1 hij with h | rfl
  ·have := ih h (by omega); omega
  ·omega
theorem place_new {W : Wd} (hG : Good W) {k : Nat} (hk : k < W.troops.length) : getI (idl (W.troops.take k)) (W.troops.getD k default).id = none := by
 refine getI_none λ p hp => ?_
 obtain ⟨i, hi, rfl⟩ := idl_mem hp
 rw [List.length_take] at hi
 have h1 := hG.ids_lt (i := i) (j := k) (by omega) hk
 have h2 : (W.troops.take k).getD i default = W.troops.getD i default := by
  simp only [List.getD_eq_getElem?_getD, List.getElem?_take]
  rw [if_pos (by omega)]
 show ((W.troops.take k).getD i default).id ≠ _
 rw [h2]; omega
theorem Good.nearD {W : Wd} (hG : Good W) (i : Nat) : -1000 ≤ (W.troops.getD i default).spot.x ∧ (W.troops.getD i default).spot.x ≤ 1000 ∧ -1000 ≤ (W.troops.getD i default).spot.y ∧ (W.troops.getD i default).spot.y ≤ 1000 := by
 rw [List.getD_eq_getElem?_getD]
 cases ht : W.troops[i]? with
 | none => exact ⟨by decide, by decide, by decide, by decide⟩
 | some t =>
  obtain ⟨i1, i2, i3, i4, i5, i6⟩ := Fld.idx hG.field (Fld.ground_in (hG.troops i t ht).ground)
  obtain ⟨y1, y2, y3, y4, _, _⟩ := Fld.good hG.field
  show -1000 ≤ t.spot.x ∧ t.spot.x ≤ 1000 ∧ -1000 ≤ t.spot.y ∧ t.spot.y ≤ 1000
  omega
def blowNo (W : Wd) (s : List Bool × List Int) (b : Blw) : Bool :=
 (((!(getI (idl W.troops) b.who).isSome || !(getI (idl W.troops) b.whom).isSome) || s.1.getD ((getI (idl W.troops) b.who).getD 0).toNat false) || !countsC W.field (W.troops.getD ((getI (idl W.troops) b.who).getD 0).toNat default) (W.troops.getD ((getI (idl W.troops) b.whom).getD 0).toNat default))
def blow (W : Wd) (s : List Bool × List Int) (b : Blw) : List Bool × List Int :=
 if blowNo W s b = true then s
 else (s.1.set ((getI (idl W.troops) b.who).getD 0).toNat true, s.2.set ((getI (idl W.troops) b.whom).getD 0).toNat (s.2.getD ((getI (idl W.troops) b.whom).getD 0).toNat 0 + harmOf (W.troops.getD ((getI (idl W.troops) b.who).getD 0).toNat default).kind))
theorem blow_yes {W : Wd} {s : List Bool × List Int} {b : Blw} (h : blowNo W s b = false) : blow W s b = (s.1.set ((getI (idl W.troops) b.who).getD 0).toNat true, s.2.set ((getI (idl W.troops) b.whom).getD 0).toNat (s.2.getD ((getI (idl W.troops) b.whom).getD 0).toNat 0 + harmOf (W.troops.getD ((getI (idl W.troops) b.who).getD 0).toNat default).kind)) := by
 unfold blow; rw [h]; rfl
theorem blow_no {W : Wd} {s : List Bool × List Int} {b : Blw} (h : blowNo W s b = true) : blow W s b = s := by unfold blow; rw [h]; rfl
def blows (W : Wd) (l : List Blw) : List Bool × List Int := l.foldl (blow W) (List.replicate W.troops.length false, List.replicate W.troops.length 0)
theorem blows_app (W : Wd) (l : List Blw) (b : Blw) : blows W (l ++ [b]) = blow W (blows W l) b := by unfold blows; rw [List.foldl_append]; rfl
theorem blows_take (W : Wd) {l : List Blw} {k : Nat} (h : k < l.length) : blows W (l.take (k + 1)) = blow W (blows W (l.take k)) (l.getD k default) := by
 rw [List.take_succ_eq_append_getElem h, blows_app, List.getD_eq_getElem?_getD, List.getElem?_eq_getElem h]; rfl
theorem harm_bd (k : Int) : 0 ≤ harmOf k ∧ harmOf k ≤ 4 := by unfold harmOf; split <;> (try split) <;> omega
def BlowInv (n m : Nat) (s : List Bool × List Int) : Prop := s.1.length = n ∧ s.2.length = n ∧ ∀ j, 0 ≤ s.2.getD j 0 ∧ s.2.getD j 0 ≤ 4 * m
theorem blow_inv (W : Wd) {n m : Nat} {s : List Bool × List Int} (b : Blw) (h : BlowInv n m s) : BlowInv n (m + 1) (blow W s b) := by
 obtain ⟨h1, h2, h3⟩ := h
 cases hb : blowNo W s b with
 | true => rw [blow_no hb]; exact ⟨h1, h2, λ j => by have := h3 j; omega⟩
 | false =>
  rw [blow_yes hb]
  refine ⟨by rw [List.length_set]; exact h1, by rw [List.length_set]; exact h2, λ j => ?_⟩
  have hj := h3 j
  have hx := harm_bd (W.troops.getD ((getI (idl W.troops) b.who).getD 0).toNat default).kind
  have hm := h3 ((getI (idl W.troops) b.whom).getD 0).toNat
  show 0 ≤ (s.2.set _ _).getD j 0 ∧ (s.2.set _ _).getD j 0 ≤ _
  generalize ((getI (idl W.troops) b.whom).getD 0).toNat = i at *
  generalize harmOf _ = q at *
  rw [List.getD_eq_getElem?_getD] at hj
  rw [List.getD_eq_getElem?_getD, List.getElem?_set]
  split
  ·split
   ·rw [Option.getD_some]; omega
   ·rw [Option.getD_none]; omega
  ·omega
theorem blow_invs (W : Wd) {n : Nat} : ∀ (l : List Blw) {m : Nat} {s : List Bool × List Int}, BlowInv n m s → BlowInv n (m + l.length) (l.foldl (blow W) s)
 | [], m, s, h => h
 | b :: l, m, s, h => by
  have := blow_invs W l (blow_inv W b h)
  rw [Nat.add_assoc, Nat.add_comm 1] at this
  exact this
theorem blows_bd (W : Wd) (l : List Blw) : (blows W l).1.length = W.troops.length ∧ (blows W l).2.length = W.troops.length ∧ ∀ j, 0 ≤ (blows W l).2.getD j 0 ∧ (blows W l).2.getD j 0 ≤ 4 * l.length := by
 have h0 : BlowInv W.troops.length 0 (List.replicate W.troops.length false, List.replicate W.troops.length 0) := by
  refine ⟨List.length_replicate, List.length_replicate, λ j => ?_⟩
  have : (List.replicate W.troops.length (0 : Int)).getD j 0 = 0 := by
   rw [List.getD_eq_getElem?_getD, List.getElem?_replicate]; split <;> rfl
  show 0 ≤ (List.replicate W.troops.length (0 : Int)).getD j 0 ∧ (List.replicate W.troops.length (0 : Int)).getD j 0 ≤ _
  rw [this]; decide
 obtain ⟨h1, h2, h3⟩ := blow_invs W l h0
 refine ⟨h1, h2, λ j => ?_⟩
 have := h3 j
 rw [Nat.zero_add] at this
 exact this
def blowE (W : Wd) (l : List Blw) : Int := if W.chk ≠ 0 then W.chk else if 200 < l.length then 2 else 0
def harmW (W : Wd) (l : List Blw) : List Int := if blowE W l ≠ 0 then [] else (blows W l).2
theorem blow_none {W : Wd} {l : List Blw} {w w1 : World} {v : Int} (h : blowE W l = v) (hv : v ≠ 0) (x : Ext w w1) : ∃ A c, (Ending.returned (.tuple #[.slice none 0 0, .int .i64 v]) = .returned (.tuple #[.slice A (harmW W l).length c, .int .i64 (blowE W l)])) ∧ repI.SOwn 3 8 w1 w.heap.size (Rep.blkOf A) A c (harmW W l) ∧ Ext w w1 := by
 have e : harmW W l = [] := by unfold harmW; rw [h, if_pos hv]
 rw [e, h]
 exact ⟨none, 0, rfl, Rep.SOwn.nil _, x⟩
theorem blow_some {W : Wd} {l : List Blw} (h : W.chk = 0) (h2 : ¬ (200 : Int) < l.length) : blowE W l = 0 ∧ harmW W l = (blows W l).2 := by
 have e : blowE W l = 0 := by unfold blowE; rw [if_neg (by simpa using h), if_neg (by omega)]
 exact ⟨e, by unfold harmW; rw [e]; rfl⟩
theorem counts_any (a : Wd.At) (W : Wd) (x y : Trp) (w : World) (hW : Wd.Has w a W) (h : -1000 ≤ x.spot.x ∧ x.spot.x ≤ 1000 ∧ -1000 ≤ x.spot.y ∧ x.spot.y ≤ 1000) (h2 : -1000 ≤ y.spot.x ∧ y.spot.x ≤ 1000 ∧ -1000 ≤ y.spot.y ∧ y.spot.y ≤ 1000) :
  Calls Try.prog 133 #[.agg ((Wd.cells a W).toArray), .agg #[.int .i64 x.id, .int .i64 x.owner, .int .i64 x.kind, .int .i64 x.spot.x, .int .i64 x.spot.y, .int .i64 x.life, .int .i64 x.load], .agg #[.int .i64 y.id, .int .i64 y.owner, .int .i64 y.kind, .int .i64 y.spot.x, .int .i64 y.spot.y, .int .i64 y.life, .int .i64 y.load]] w (λ e w' => e = .returned (.bool (countsC W.field x y)) ∧ Ext w w') := by
 refine calls_W (n := 51) Try.func133 rfl rfl rfl ?_
 refine sg <| bx rfl rfl rfl rfl λ w_1 b_2 x_3 l_4 B_5 => ?_
 have := x_3.size
 have z_1 := eT (Ext.rf w) x_3
 have q_7 := B_5.lt
 refine bx rfl rfl rfl rfl λ w_8 b_9 x_10 l_11 B_12 => ?_
 have := x_10.size
 have z_8 := eT z_1 x_10
 have q_14 := B_12.lt
 refine bx rfl rfl rfl rfl λ w_15 b_16 x_17 l_18 B_19 => ?_
 have := x_17.size
 have z_15 := eT z_8 x_17
 have q_21 := B_19.lt
 refine va rfl <| nK <| sg <| vL (fa eF23 rfl) <| ?_
 have B_12 := B_12.later x_17
 refine vL (ld rfl (B_12.one eF5 rfl)) <| ca eF39 rfl rfl ((kind_any (x.kind) _).mono ?_)
 rintro e w_22 ⟨rfl, x_23⟩
 refine ⟨_, rfl, ?_⟩
 have := x_23.size
 have z_22 := eT z_15 x_23
 refine vm rfl <| vL (ex rfl rfl) <| vL (ex rfl rfl) <| al rfl eF40 rfl rfl λ w_25 b_26 x_27 l_28 B_29 => ?_
 have := x_27.size
 have z_25 := eT z_22 x_27
 have q_31 := B_29.lt
 refine st (new := [.int .i64 (Wd.lifeOf x.kind), .int .i64 (reachOf x.kind), .int .i64 (harmOf x.kind), .int .i64 (Wd.priceOf x.kind)]) rfl rfl B_29 rfl eF41 rfl rfl rfl λ w_32 m_33 B_29 => ?_
 have := m_33.size
 have z_32 := Ext.mod z_25 m_33 (ge1 (by omega))
 have := m_33.size
 refine va rfl <| nK <| sg <| vL (fa eF25 rfl) <| ?_
 have B_12 := B_12.later (eT x_23 x_27)
 have B_12 := B_12.mod m_33 (nm1 (by omega))
 refine vL (ld rfl (B_12.par [.int .i64 x.spot.x, .int .i64 x.spot.y] eF7 eF8 rfl)) <| vL (fa eF25 rfl) <| ?_
 have B_19 := B_19.later (eT x_23 x_27)
 have B_19 := B_19.mod m_33 (nm1 (by omega))
 refine vL (ld rfl (B_19.par [.int .i64 y.spot.x, .int .i64 y.spot.y] eF7 eF8 rfl)) <| ca eF106 rfl rfl ((apart_in x.spot y.spot _ (by omega) (by omega)).mono ?_)
 rintro e w_36 ⟨rfl, x_37⟩
 refine ⟨_, rfl, ?_⟩
 have := x_37.size
 have z_36 := eT z_32 x_37
 refine vm rfl <| vL (ex rfl rfl) <| vL (ex rfl rfl) <| vL (ex rfl rfl) <| va rfl <| va rfl <| va rfl <| nK <| sq <| sg <| vL (fa eF33 rfl) <| ?_
 have B_12 := B_12.later x_37
 refine vL (ld rfl (B_12.one eF5 rfl)) <| vL (fa eF33 rfl) <| ?_
 have B_19 := B_19.later x_37
 refine vL (ld rfl (B_19.one eF5 rfl)) <| vL (beq rfl rfl) <| vm rfl <| vQ rfl rfl rfl rfl (λ hc => mv rfl) rfl <| vQ rfl rfl rfl rfl (λ hc => fa eF122 rfl) rfl <| ?_
 have B_29 := B_29.later x_37
 refine vQ rfl rfl rfl rfl (λ hc => ld (gt hc rfl) (B_29.one eF5 rfl)) rfl <| vQ rfl rfl rfl rfl (λ hc => bgt (gt hc rfl) (gt hc rfl)) rfl <| vL (pO rfl rfl rfl rfl) <| nK <| ?_
 refine cb rfl (λ h_39 => ?_) (λ h_39 => ?_)
 ·refine sg <| va rfl <| nK <| rt <| tT <| tR (.tmp rfl .nil) <| ?_
  exact ⟨by unfold countsC; rw [h_39]; rfl, z_36⟩
 ·refine sK <| sg <| vL (fa eF28 rfl) <| ?_
  have B_5 := B_5.later (eT x_10 (eT x_17 (eT x_23 x_27)))
  have B_5 := B_5.mod m_33 (nm1 (by omega))
  have B_5 := B_5.later x_37
  refine vL (ld rfl (B_5.par [.int .i64 W.field.wide, .int .i64 W.field.high, .slice a.P W.field.places.length a.p] eF14 eF15 rfl)) <| vL (fa eF25 rfl) <| vL (ld rfl (B_12.par [.int .i64 x.spot.x, .int .i64 x.spot.y] eF7 eF8 rfl)) <| vL (fa eF25 rfl) <| vL (ld rfl (B_19.par [.int .i64 y.spot.x, .int .i64 y.spot.y] eF7 eF8 rfl)) <| ca eF123 rfl rfl ((sees_any W.field x.spot y.spot _ _ _ (hW.P.keep z_36)).mono ?_)
  rintro e w_40 ⟨rfl, x_41⟩
  refine ⟨_, rfl, ?_⟩
  have := x_41.size
  have z_40 := eT z_36 x_41
  refine vm rfl <| vL (ex rfl rfl) <| vL (ex rfl rfl) <| va rfl <| va rfl <| nK <| sg <| vm rfl <| va rfl <| nK <| rt <| tR (.tmp rfl .nil) <| ?_
  exact ⟨by unfold countsC; rw [h_39]; rfl, z_40⟩
theorem blows_any (a : Wd.At) (W : Wd) (l : List Blw) (A : Option Addr) (c : Nat) (w : World) (hW : Wd.Has w a W) (hl : Blw.rep.SHas 16 w A c l) :
  Calls Try.prog 91 #[.agg ((Wd.cells a W).toArray), .slice A l.length c] w (λ e w' => ∃ A c, e = .returned (.tuple #[.slice A (harmW W l).length c, .int .i64 (blowE W l)]) ∧ repI.SOwn 3 8 w' w.heap.size (Rep.blkOf A) A c (harmW W l) ∧ Ext w w') := by
 refine calls_W (n := 120) Try.func91 rfl rfl rfl ?_
 refine sg <| bx rfl rfl rfl rfl λ w_1 b_2 x_3 l_4 B_5 => ?_
 have := x_3.size
 have z_1 := eT (Ext.rf w) x_3
 have q_7 := B_5.lt
 refine va rfl <| va rfl <| nK <| sq <| sg <| vL (ld rfl (B_5.all eF54 eF55)) <| ca eF56 rfl rfl ((check_any a W _ (hW.keep z_1)).mono ?_)
 rintro e w_8 ⟨rfl, x_9⟩
 refine ⟨_, rfl, ?_⟩
 have := x_9.size
 have z_8 := eT z_1 x_9
 refine va rfl <| nK <| sg <| vm rfl <| vL (bne rfl rfl) <| nK <| ?_
 refine cne rfl (λ h_11 => ?_) (λ h_11 => ?_)
 ·refine sg <| vm rfl <| va rfl <| va rfl <| nK <| rt <| tT <| tR (.tmp rfl (.tmp rfl .nil)) <| ?_
  exact blow_none (by unfold blowE; rw [if_pos h_11]) h_11 z_8
 ·have hG := Good.of_chk h_11
  have hnt := hG.nt
  have hnr := λ i => hG.nearD i
  have hidx := λ x => place_at hG x
  have hpos := λ x => place_pos W x
  have hll := hl.len_le
  refine sK <| sq <| sg <| vm rfl <| vL (ln Try.underlying107 rfl) <| vL (bgt rfl rfl) <| nK <| ?_
  refine clt rfl (λ h_12 => ?_) (λ h_12 => ?_)
  ·refine sg <| va rfl <| va rfl <| nK <| rt <| tT <| tR (.tmp rfl (.tmp rfl .nil)) <| ?_
   exact blow_none (by unfold blowE; rw [if_neg (by simpa using h_11), if_pos (by omega)]) (by decide) z_8
  ·refine sK <| sg <| mm rfl λ w_13 r_14 x_15 l_16 M_17 => ?_
   have := x_15.size
   have z_13 := eT z_8 x_15
   have q_19 := M_17.lt
   refine va rfl <| nK <| sq <| sg <| vL (fa eF35 rfl) <| ?_
   have B_5 := B_5.later (eT x_9 x_15)
   refine vL (ld rfl (B_5.one eF36 rfl)) <| vL (ln Try.underlying56 rfl) <| vm rfl <| nK <| bk <| ?_
   refine lp (λ mI EI wI => ∃ k : Nat, EI = [(1, .slice A l.length c), (2, .pointer (some ⟨b_2, 0, none⟩)), (4, .slice none 0 0), (5, .int .i64 0), (7, .map (some r_14)), (30, .slice a.T W.troops.length a.t), (31, .int .i64 (W.troops.length : Int)), (32, .int .i64 (k : Int))] ∧ mI = W.troops.length - k ∧ Ext w wI ∧ Blk wI b_2 (Wd.cells a W) 58 (0, 0) ∧ MapI wI r_14 (idl (W.troops.take k)) ∧ (k ≤ W.troops.length)) _ _ ⟨0, rfl, rfl, z_13, B_5, M_17, by omega⟩ (.cons rfl (.cons rfl (.cons rfl (.cons rfl (.cons rfl (.cons rfl (.cons rfl (.cons (loI rfl (by first | omega | rfl | (simp <;> omega))) .nil)))))))) ?_
   rintro m_21 E_22 w_20 ⟨k, rfl, rfl, z_20, B_5, MP, hk⟩
   have := z_20.size
   have q_24 := B_5.lt
   have q_25 := MP.lt
   refine sg <| vL (blt rfl rfl) <| nK <| sq <| ?_
   refine clt rfl (λ h_26 => ?_) (λ h_26 => ?_)
   ·refine sK <| sq <| bk <| sg <| vm rfl <| vL (iA k Try.underlying56 eF0 rfl rfl ((hW.T.keep z_20).adr (zl k (by have p1 := hpos (l.getD k default).who; have p2 := hpos (l.getD k default).whom; omega))) rfl (by have p1 := hpos (l.getD k default).who; have p2 := hpos (l.getD k default).whom; omega)) <| vL (ld rfl (Rep.SHas.elt hcT ((hW.T.keep z_20).adh (zl k (by have p1 := hpos (l.getD k default).who; have p2 := hpos (l.getD k default).whom; omega))) (get_d (l := W.troops) (u := default) (by have p1 := hpos (l.getD k default).who; have p2 := hpos (l.getD k default).whom; omega)) eF1 eF0)) <| al rfl eF3 rfl rfl λ w_27 b_28 x_29 l_30 B_31 => ?_
    have := x_29.size
    have z_27 := eT z_20 x_29
    have q_33 := B_31.lt
    refine va rfl <| st (new := [.int .i64 ((W.troops.getD k default).id), .int .i64 ((W.troops.getD k default).owner), .int .i64 ((W.troops.getD k default).kind), .int .i64 ((W.troops.getD k default).spot.x), .int .i64 ((W.troops.getD k default).spot.y), .int .i64 ((W.troops.getD k default).life), .int .i64 ((W.troops.getD k default).load)]) rfl rfl B_31 rfl eF0 rfl rfl rfl λ w_34 m_35 B_31 => ?_
    have := m_35.size
    have z_34 := Ext.mod z_27 m_35 (ge1 (by omega))
    have := m_35.size
    refine nK <| rg <| vm rfl <| vL (fa eF83 rfl) <| vL (ld rfl (B_31.one eF5 rfl)) <| vm rfl <| ?_
    have MP := MP.later x_29
    have MP := MP.mod m_35 (nm1 (by omega))
    refine mu Try.underlying149 Try.underlying3 MP (place_new hG (by omega)) rfl rfl rfl λ w_38 m_39 MP => ?_
    have := m_39.size
    have z_38 := Ext.mod z_34 m_39 (ge1 (by omega))
    have := m_39.size
    refine nl <| nB <| nT <| rg <| vL (bad rfl rfl (inI (by have p1 := hpos (l.getD k default).who; have p2 := hpos (l.getD k default).whom; omega))) <| vm rfl <| nl <| ?_
    have B_5 := B_5.later x_29
    have B_5 := B_5.mod m_35 (nm1 (by omega))
    have B_5 := B_5.mod m_39 (nm1 (by omega))
    exact nI _ _ ⟨k + 1, rfl, rfl, z_38, B_5, (by rw [idl_take (by omega)]; exact MP), by omega⟩ (by omega) (.cons rfl (.cons rfl (.cons rfl (.cons rfl (.cons rfl (.cons rfl (.cons rfl (.cons (loI rfl (by first | omega | rfl | (simp <;> omega))) .nil))))))))
   ·refine xt <| xT <| xK <| xB <| nT <| sg <| vL (fa eF35 rfl) <| vL (ld rfl (B_5.one eF36 rfl)) <| vL (ln Try.underlying56 rfl) <| mO (R := repI) (by_ := 8) (B := w.heap.size) (c := W.troops.length) (zv := (.int .i64 0)) (q := 0) Rep.flat_plain Try.underlying42 info_int rfl rfl (λ j u h => raw0I j u h) (λ _ => ⟨rfl, okI_iff.2 (by decide)⟩) rfl rfl rfl (by omega) (by omega) (by omega) λ w_42 b_43 x_44 l_45 O_46 => ?_
    have := x_44.size
    have z_42 := eT z_20 x_44
    have u_48 := λ q hq => (O_46.lt q hq).2
    have lo_49 : ∀ q ∈ Rep.blkOf (some ⟨b_43, 0, none⟩), b_43 ≤ q := λ q hq => Nat.le_of_eq (List.mem_singleton.1 hq).symm
    refine va rfl <| nK <| sg <| vL (fa eF35 rfl) <| ?_
    have B_5 := B_5.later x_44
    refine vL (ld rfl (B_5.one eF36 rfl)) <| vL (ln Try.underlying56 rfl) <| mO (R := repB) (by_ := 1) (B := w.heap.size) (c := W.troops.length) (zv := (.bool false)) (q := false) Rep.flat_plain Try.underlying37 HitG_ib_bool rfl rfl (λ j u h => raw0B j u h) (λ _ => ⟨rfl, trivial⟩) rfl rfl rfl (by omega) (by omega) (by omega) λ w_50 b_51 x_52 l_53 O_54 => ?_
    have := x_52.size
    have z_50 := eT z_42 x_52
    have u_56 := λ q hq => (O_54.lt q hq).2
    have lo_57 : ∀ q ∈ Rep.blkOf (some ⟨b_51, 0, none⟩), b_51 ≤ q := λ q hq => Nat.le_of_eq (List.mem_singleton.1 hq).symm
    refine va rfl <| nK <| sq <| sg <| vm rfl <| vL (ln Try.underlying107 rfl) <| vm rfl <| nK <| bk <| ?_
    have MP := MP.later (eT x_44 x_52)
    have O_46 := O_46.later x_52
    have B_5 := B_5.later x_52
    refine lp (λ mI EI wI => ∃ k : Nat, EI = [(2, .pointer (some ⟨b_2, 0, none⟩)), (4, .slice none 0 0), (5, .int .i64 0), (7, .map (some r_14)), (10, .slice (some ⟨b_43, 0, none⟩) W.troops.length W.troops.length), (11, .slice (some ⟨b_51, 0, none⟩) W.troops.length W.troops.length), (50, .slice A l.length c), (51, .int .i64 (l.length : Int)), (52, .int .i64 (k : Int))] ∧ mI = l.length - k ∧ Ext w wI ∧ Blk wI b_2 (Wd.cells a W) 58 (0, 0) ∧ MapI wI r_14 (idl W.troops) ∧ repI.SOwn 3 8 wI w.heap.size (Rep.blkOf (some ⟨b_43, 0, none⟩)) (some ⟨b_43, 0, none⟩) W.troops.length ((blows W (l.take k)).2) ∧ repB.SOwn 4 1 wI w.heap.size (Rep.blkOf (some ⟨b_51, 0, none⟩)) (some ⟨b_51, 0, none⟩) W.troops.length ((blows W (l.take k)).1) ∧ (k ≤ l.length) ∧ (∀ q ∈ Rep.blkOf (some ⟨b_43, 0, none⟩), q = b_2 → False) ∧ (∀ q ∈ Rep.blkOf (some ⟨b_43, 0, none⟩), q = r_14 → False) ∧ (∀ q ∈ Rep.blkOf (some ⟨b_51, 0, none⟩), q = b_2 → False) ∧ (∀ q ∈ Rep.blkOf (some ⟨b_51, 0, none⟩), q = r_14 → False) ∧ (∀ q ∈ Rep.blkOf (some ⟨b_51, 0, none⟩), q ∈ Rep.blkOf (some ⟨b_43, 0, none⟩) → False)) _ _ ⟨0, rfl, rfl, z_50, B_5, (by have e : k = W.troops.length := (by omega); rw [e, List.take_length] at MP; exact MP), O_46, O_54, by omega, (λ q hq hb => by (have := lo_49 q hq; omega)), (λ q hq hb => by (have := lo_49 q hq; omega)), (λ q hq hb => by (have := lo_57 q hq; omega)), (λ q hq hb => by (have := lo_57 q hq; omega)), (λ q hq hb => by (have := lo_57 q hq; (have := u_48 q hb; omega)))⟩ (.cons rfl (.cons rfl (.cons rfl (.cons rfl (.cons rfl (.cons rfl (.cons rfl (.cons rfl (.cons (loI rfl (by first | omega | rfl | (simp <;> omega))) .nil))))))))) ?_
    rintro m_64 E_65 w_63 ⟨k, rfl, rfl, z_63, B_5, MP, OH, OB, hk, d_58, d_59, d_60, d_61, d_62⟩
    have := z_63.size
    have q_67 := B_5.lt
    have q_68 := MP.lt
    have u_69 := λ q hq => (OH.lt q hq).2
    have u_70 := λ q hq => (OB.lt q hq).2
    obtain ⟨hb1, hb2, hb3⟩ := blows_bd W (l.take k)
    have hb4 : (l.take k).length ≤ k := List.length_take_le k l
    refine sg <| vL (blt rfl rfl) <| nK <| sq <| ?_
    refine clt rfl (λ h_71 => ?_) (λ h_71 => ?_)
    ·refine sK <| sq <| bk <| sg <| vL (iA k Try.underlying107 eF124 rfl rfl ((hl.keep z_63).adr (zl k (by have p1 := hpos (l.getD k default).who; have p2 := hpos (l.getD k default).whom; omega))) rfl (by have p1 := hpos (l.getD k default).who; have p2 := hpos (l.getD k default).whom; omega)) <| vL (ld rfl (Rep.SHas.elt hcW ((hl.keep z_63).adh (zl k (by have p1 := hpos (l.getD k default).who; have p2 := hpos (l.getD k default).whom; omega))) (get_d (l := l) (u := default) (by have p1 := hpos (l.getD k default).who; have p2 := hpos (l.getD k default).whom; omega)) eF125 eF124)) <| al rfl eF126 rfl rfl λ w_72 b_73 x_74 l_75 B_76 => ?_
     have := x_74.size
     have z_72 := eT z_63 x_74
     have q_78 := B_76.lt
     refine st (new := [.int .i64 ((l.getD k default).who), .int .i64 ((l.getD k default).whom)]) rfl rfl B_76 rfl eF124 rfl rfl rfl λ w_79 m_80 B_76 => ?_
     have := m_80.size
     have z_79 := Ext.mod z_72 m_80 (ge1 (by omega))
     have := m_80.size
     refine nK <| sg <| vm rfl <| vL (fa eF127 rfl) <| vL (ld rfl (B_76.one eF5 rfl)) <| ?_
     have MP := MP.later x_74
     have MP := MP.mod m_80 (nm1 (by omega))
     refine vL (lk Try.underlying149 Try.underlying3 eF128 MP rfl rfl) <| vm rfl <| vL (ex rfl rfl) <| vL (ex rfl rfl) <| va rfl <| va rfl <| nK <| sg <| vm rfl <| vL (fa eF129 rfl) <| vL (ld rfl (B_76.one eF5 rfl)) <| vL (lk Try.underlying149 Try.underlying3 eF128 MP rfl rfl) <| vm rfl <| vL (ex rfl rfl) <| vL (ex rfl rfl) <| va rfl <| va rfl <| nK <| sq <| sq <| ?_
     refine rd [(10, 0), (13, 0), (15, 0), (18, 0), (20, 0), (23, 0), (24, 0)] [0, 1, 2, 3, 4, 5, 6, 7, 8, 9, 10, 11, 12, 13, 14, 15, 16, 17, 18, 19, 20, 21, 22, 23, 24, 25, 26] (by kernel_rfl) (by kernel_rfl) ?_
     refine fw1 rfl (λ _ => mv rfl) <| fw1 rfl (λ _ => nt rfl) <| fw1 rfl (λ _ => mv rfl) <| fW rfl rfl rfl rfl rfl rfl (λ hc _ => mv rfl) rfl <| fW rfl rfl rfl rfl rfl rfl (λ hc _ => nt (gt hc rfl)) rfl <| fw1 rfl (λ _ => pO rfl rfl rfl rfl) <| fw1 rfl (λ _ => mv rfl) <| fW rfl rfl rfl rfl rfl rfl (λ hc _ => mv rfl) rfl <| fW rfl rfl rfl rfl rfl rfl (λ hc _ => mv rfl) rfl <| ?_
     have OB := OB.later x_74
     have OB := OB.mod m_80 (fk1 u_70 (by omega))
     refine fW rfl rfl rfl rfl rfl rfl (λ hc _ => iA (((getI (idl W.troops) ((l.getD k default).who)).getD 0).toNat) Try.underlying37 eF70 (gt hc rfl) (gt hc rfl) (OB.has.adr (zl (((getI (idl W.troops) ((l.getD k default).who)).getD 0).toNat) (by (try rw [hb1]); simp only [bS] at hc; first | exact (hidx _ hc.1).1 | exact (hidx _ hc.2).1 | exact (hidx _ hc.1.1).1 | exact (hidx _ hc.1.2).1))) (by (try simp only [bS] at hc); have p1 := hpos (l.getD k default).who; have p2 := hpos (l.getD k default).whom; omega) (by (try rw [hb1]); simp only [bS] at hc; first | exact (hidx _ hc.1).1 | exact (hidx _ hc.2).1 | exact (hidx _ hc.1.1).1 | exact (hidx _ hc.1.2).1)) rfl <| fQ rfl rfl rfl rfl rfl rfl (λ hc _ x => ld (gt hc rfl) (Rep.SHas.one' hcB ((OB.later x).has.adh (zl (((getI (idl W.troops) ((l.getD k default).who)).getD 0).toNat) (by (try rw [hb1]); simp only [bS] at hc; first | exact (hidx _ hc.1).1 | exact (hidx _ hc.2).1 | exact (hidx _ hc.1.1).1 | exact (hidx _ hc.1.2).1))) (get_d (l := (blows W (l.take k)).1) (u := false) (by (try rw [hb1]); simp only [bS] at hc; first | exact (hidx _ hc.1).1 | exact (hidx _ hc.2).1 | exact (hidx _ hc.1.1).1 | exact (hidx _ hc.1.2).1)) rfl eF75)) rfl <| fw1 rfl (λ _ => pO rfl rfl rfl rfl) <| fw1 rfl (λ _ => mv rfl) <| ?_
     have B_5 := B_5.later x_74
     have B_5 := B_5.mod m_80 (nm1 (by omega))
     refine fQ rfl rfl rfl rfl rfl rfl (λ hc _ x => ld rfl ((B_5.later x).all eF54 eF55)) rfl <| fW rfl rfl rfl rfl rfl rfl (λ hc _ => fa eF35 rfl) rfl <| fQ rfl rfl rfl rfl rfl rfl (λ hc _ x => ld (gt hc rfl) ((B_5.later x).one eF36 rfl)) rfl <| fW rfl rfl rfl rfl rfl rfl (λ hc _ => mv rfl) rfl <| fW rfl rfl rfl rfl rfl rfl (λ hc _ => iA (((getI (idl W.troops) ((l.getD k default).who)).getD 0).toNat) Try.underlying56 eF0 (gt hc rfl) (gt hc rfl) ((hW.T.keep z_79).adr (zl (((getI (idl W.troops) ((l.getD k default).who)).getD 0).toNat) (by (try rw [(rfl : W.troops.length = W.troops.length)]); simp only [bS] at hc; first | exact (hidx _ hc.1).1 | exact (hidx _ hc.2).1 | exact (hidx _ hc.1.1).1 | exact (hidx _ hc.1.2).1))) (by (try simp only [bS] at hc); have p1 := hpos (l.getD k default).who; have p2 := hpos (l.getD k default).whom; omega) (by (try rw [(rfl : W.troops.length = W.troops.length)]); simp only [bS] at hc; first | exact (hidx _ hc.1).1 | exact (hidx _ hc.2).1 | exact (hidx _ hc.1.1).1 | exact (hidx _ hc.1.2).1)) rfl <| fQ rfl rfl rfl rfl rfl rfl (λ hc _ x => ld (gt hc rfl) (Rep.SHas.elt hcT ((hW.T.keep (eT z_79 x)).adh (zl (((getI (idl W.troops) ((l.getD k default).who)).getD 0).toNat) (by (try rw [(rfl : W.troops.length = W.troops.length)]); simp only [bS] at hc; first | exact (hidx _ hc.1).1 | exact (hidx _ hc.2).1 | exact (hidx _ hc.1.1).1 | exact (hidx _ hc.1.2).1))) (get_d (l := W.troops) (u := default) (by (try rw [(rfl : W.troops.length = W.troops.length)]); simp only [bS] at hc; first | exact (hidx _ hc.1).1 | exact (hidx _ hc.2).1 | exact (hidx _ hc.1.1).1 | exact (hidx _ hc.1.2).1)) eF1 eF0)) rfl <| fW rfl rfl rfl rfl rfl rfl (λ hc _ => fa eF35 rfl) rfl <| fQ rfl rfl rfl rfl rfl rfl (λ hc _ x => ld (gt hc rfl) ((B_5.later x).one eF36 rfl)) rfl <| fW rfl rfl rfl rfl rfl rfl (λ hc _ => mv rfl) rfl <| fW rfl rfl rfl rfl rfl rfl (λ hc _ => iA (((getI (idl W.troops) ((l.getD k default).whom)).getD 0).toNat) Try.underlying56 eF0 (gt hc rfl) (gt hc rfl) ((hW.T.keep z_79).adr (zl (((getI (idl W.troops) ((l.getD k default).whom)).getD 0).toNat) (by (try rw [(rfl : W.troops.length = W.troops.length)]); simp only [bS] at hc; first | exact (hidx _ hc.1).1 | exact (hidx _ hc.2).1 | exact (hidx _ hc.1.1).1 | exact (hidx _ hc.1.2).1))) (by (try simp only [bS] at hc); have p1 := hpos (l.getD k default).who; have p2 := hpos (l.getD k default).whom; omega) (by (try rw [(rfl : W.troops.length = W.troops.length)]); simp only [bS] at hc; first | exact (hidx _ hc.1).1 | exact (hidx _ hc.2).1 | exact (hidx _ hc.1.1).1 | exact (hidx _ hc.1.2).1)) rfl <| fQ rfl rfl rfl rfl rfl rfl (λ hc _ x => ld (gt hc rfl) (Rep.SHas.elt hcT ((hW.T.keep (eT z_79 x)).adh (zl (((getI (idl W.troops) ((l.getD k default).whom)).getD 0).toNat) (by (try rw [(rfl : W.troops.length = W.troops.length)]); simp only [bS] at hc; first | exact (hidx _ hc.1).1 | exact (hidx _ hc.2).1 | exact (hidx _ hc.1.1).1 | exact (hidx _ hc.1.2).1))) (get_d (l := W.troops) (u := default) (by (try rw [(rfl : W.troops.length = W.troops.length)]); simp only [bS] at hc; first | exact (hidx _ hc.1).1 | exact (hidx _ hc.2).1 | exact (hidx _ hc.1.1).1 | exact (hidx _ hc.1.2).1)) eF1 eF0)) rfl <| fC rfl rfl rfl rfl rfl rfl eF130 (λ hc => ec (gt hc rfl) (ec (gt hc rfl) (ec (gt hc rfl) rfl))) (λ hc _ x => counts_any a W ((W.troops.getD (((getI (idl W.troops) ((l.getD k default).who)).getD 0).toNat) default)) ((W.troops.getD (((getI (idl W.troops) ((l.getD k default).whom)).getD 0).toNat) default)) _ (hW.keep (eT z_79 x)) (hnr _) (hnr _)) rfl <| fW rfl rfl rfl rfl rfl rfl (λ hc _ => nt (gt hc rfl)) rfl <| fw1 rfl (λ _ => pO rfl rfl rfl rfl) <| fn λ w_83 x_84 => ?_
     have := x_84.size
     have z_83 := eT z_79 x_84
     refine nT <| ?_
     refine cb rfl (λ h_86 => ?_) (λ h_86 => ?_)
     ·refine xt <| xT <| xB <| nT <| rg <| vL (bad rfl rfl (inI (by have p1 := hpos (l.getD k default).who; have p2 := hpos (l.getD k default).whom; omega))) <| vm rfl <| nl <| ?_
      have e1 : blows W (l.take (k + 1)) = ((blows W (l.take k)).1, (blows W (l.take k)).2) := by rw [blows_take W (by omega), blow_no h_86]
      have B_5 := B_5.later x_84
      have MP := MP.later x_84
      have OH := OH.later x_74
      have OH := OH.mod m_80 (fk1 u_69 (by omega))
      have OH := OH.later x_84
      have OB := OB.later x_84
      exact nI _ _ ⟨k + 1, rfl, rfl, z_83, B_5, MP, (by rw [e1]; exact OH), (by rw [e1]; exact OB), by omega, (λ q hq hb => by (exact d_58 q hq hb)), (λ q hq hb => by (exact d_59 q hq hb)), (λ q hq hb => by (exact d_60 q hq hb)), (λ q hq hb => by (exact d_61 q hq hb)), (λ q hq hb => by (exact d_62 q hq hb))⟩ (by omega) (.cons rfl (.cons rfl (.cons rfl (.cons rfl (.cons rfl (.cons rfl (.cons rfl (.cons rfl (.cons (loI rfl (by first | omega | rfl | (simp <;> omega))) .nil)))))))))
     ·have hh := h_86
      simp only [bS] at hh
      have i1 := (hidx _ hh.1.1.1).1
      have i2 := (hidx _ hh.1.1.2).1
      have w1 := hb3 (((getI (idl W.troops) ((l.getD k default).whom)).getD 0).toNat)
      have w2 := harm_bd (W.troops.getD (((getI (idl W.troops) ((l.getD k default).who)).getD 0).toNat) default).kind
      refine sK <| sg <| vL (fa eF35 rfl) <| ?_
      have B_5 := B_5.later x_84
      refine vL (ld rfl (B_5.one eF36 rfl)) <| vm rfl <| vL (iA (((getI (idl W.troops) ((l.getD k default).who)).getD 0).toNat) Try.underlying56 eF0 rfl rfl ((hW.T.keep z_83).adr (zl (((getI (idl W.troops) ((l.getD k default).who)).getD 0).toNat) (by have p1 := hpos (l.getD k default).who; have p2 := hpos (l.getD k default).whom; omega))) (by have p1 := hpos (l.getD k default).who; have p2 := hpos (l.getD k default).whom; omega) (by have p1 := hpos (l.getD k default).who; have p2 := hpos (l.getD k default).whom; omega)) <| vL (fa eF23 rfl) <| vL (ld rfl (Rep.SHas.fld hcT ((hW.T.keep z_83).adh (zl (((getI (idl W.troops) ((l.getD k default).who)).getD 0).toNat) (by have p1 := hpos (l.getD k default).who; have p2 := hpos (l.getD k default).whom; omega))) 2 (get_d (l := W.troops) (u := default) (by have p1 := hpos (l.getD k default).who; have p2 := hpos (l.getD k default).whom; omega)) rfl eF5)) <| ca eF39 rfl rfl ((kind_any ((W.troops.getD (((getI (idl W.troops) ((l.getD k default).who)).getD 0).toNat) default).kind) _).mono ?_)
      rintro e w_87 ⟨rfl, x_88⟩
      refine ⟨_, rfl, ?_⟩
      have := x_88.size
      have z_87 := eT z_83 x_88
      refine vm rfl <| vL (ex rfl rfl) <| vL (ex rfl rfl) <| al rfl eF40 rfl rfl λ w_90 b_91 x_92 l_93 B_94 => ?_
      have := x_92.size
      have z_90 := eT z_87 x_92
      have q_96 := B_94.lt
      refine st (new := [.int .i64 (Wd.lifeOf ((W.troops.getD (((getI (idl W.troops) ((l.getD k default).who)).getD 0).toNat) default).kind)), .int .i64 (reachOf ((W.troops.getD (((getI (idl W.troops) ((l.getD k default).who)).getD 0).toNat) default).kind)), .int .i64 (harmOf ((W.troops.getD (((getI (idl W.troops) ((l.getD k default).who)).getD 0).toNat) default).kind)), .int .i64 (Wd.priceOf ((W.troops.getD (((getI (idl W.troops) ((l.getD k default).who)).getD 0).toNat) default).kind))]) rfl rfl B_94 rfl eF41 rfl rfl rfl λ w_97 m_98 B_94 => ?_
      have := m_98.size
      have z_97 := Ext.mod z_90 m_98 (ge1 (by omega))
      have := m_98.size
      refine va rfl <| nK <| sg <| vm rfl <| vm rfl <| ?_
      have OB := OB.later (eT x_84 (eT x_88 x_92))
      have OB := OB.mod m_98 (fk1 u_70 (by omega))
      refine vL (iA (((getI (idl W.troops) ((l.getD k default).who)).getD 0).toNat) Try.underlying37 eF70 rfl rfl (OB.has.adr (zl (((getI (idl W.troops) ((l.getD k default).who)).getD 0).toNat) (by have p1 := hpos (l.getD k default).who; have p2 := hpos (l.getD k default).whom; omega))) (by have p1 := hpos (l.getD k default).who; have p2 := hpos (l.getD k default).whom; omega) (by have p1 := hpos (l.getD k default).who; have p2 := hpos (l.getD k default).whom; omega)) <| so (q' := true) (j := 0) (i := (((getI (idl W.troops) ((l.getD k default).who)).getD 0).toNat)) OB Rep.flat_bare (get_d (l := (blows W (l.take k)).1) (u := false) (by have p1 := hpos (l.getD k default).who; have p2 := hpos (l.getD k default).whom; omega)) rfl rfl rfl rfl (λ _ cs h => by have ok_ := (show _ ∧ _ from h).2; obtain rfl := hcB h; exact ⟨rfl, trivial⟩) rfl rfl eF70 λ w_101 m_102 O_103 => ?_
      have := m_102.size
      have z_101 := Ext.mod z_97 m_102 (λ q hq => (OB.lt q hq).1)
      have := m_102.size
      refine nK <| ?_
      refine rd [(3, 0), (5, 0), (8, 3)] [0, 1, 2, 3, 4, 5, 6, 7, 8] (by kernel_rfl) (by kernel_rfl) ?_
      refine fw1 rfl (λ _ => mv rfl) <| fw1 rfl (λ _ => mv rfl) <| ?_
      have OH := OH.later x_74
      have OH := OH.mod m_80 (fk1 u_69 (by omega))
      have OH := OH.later (eT x_84 (eT x_88 x_92))
      have OH := OH.mod m_98 (fk1 u_69 (by omega))
      have OH := OH.mod m_102 (λ q hq h => by exfalso; (exact d_62 q h hq))
      refine fw1 rfl (λ _ => iA (((getI (idl W.troops) ((l.getD k default).whom)).getD 0).toNat) Try.underlying42 eF11 rfl rfl (OH.has.adr (zl (((getI (idl W.troops) ((l.getD k default).whom)).getD 0).toNat) (by have p1 := hpos (l.getD k default).who; have p2 := hpos (l.getD k default).whom; omega))) (by have p1 := hpos (l.getD k default).who; have p2 := hpos (l.getD k default).whom; omega) (by have p1 := hpos (l.getD k default).who; have p2 := hpos (l.getD k default).whom; omega)) <| fq1 rfl (λ _ x => ld rfl (Rep.SHas.one' hcI ((OH.later x).has.adh (zl (((getI (idl W.troops) ((l.getD k default).whom)).getD 0).toNat) (by have p1 := hpos (l.getD k default).who; have p2 := hpos (l.getD k default).whom; omega))) (get_d (l := (blows W (l.take k)).2) (u := 0) (by have p1 := hpos (l.getD k default).who; have p2 := hpos (l.getD k default).whom; omega)) rfl eF5)) <| fw1 rfl (λ _ => fa eF131 rfl) <| ?_
      have d_106 : ∀ q ∈ Rep.blkOf (some ⟨b_51, 0, none⟩), q = b_91 → False := λ q hq hb => by (have := u_70 q hq; omega)
      have B_94 := B_94.mod m_102 (λ hq => d_106 _ hq rfl)
      refine fq1 rfl (λ _ x => ld rfl ((B_94.later x).one eF5 rfl)) <| fw1 rfl (λ _ => bad rfl rfl (inI (by have p1 := hpos (l.getD k default).who; have p2 := hpos (l.getD k default).whom; omega))) <| fw1 rfl (λ _ => iA (((getI (idl W.troops) ((l.getD k default).whom)).getD 0).toNat) Try.underlying42 eF11 rfl rfl (OH.has.adr (zl (((getI (idl W.troops) ((l.getD k default).whom)).getD 0).toNat) (by have p1 := hpos (l.getD k default).who; have p2 := hpos (l.getD k default).whom; omega))) (by have p1 := hpos (l.getD k default).who; have p2 := hpos (l.getD k default).whom; omega) (by have p1 := hpos (l.getD k default).who; have p2 := hpos (l.getD k default).whom; omega)) <| fb rfl rfl rfl λ w_107 x_108 Q hK => so (q' := (((blows W (l.take k)).2).getD (((getI (idl W.troops) ((l.getD k default).whom)).getD 0).toNat) 0) + (harmOf ((W.troops.getD (((getI (idl W.troops) ((l.getD k default).who)).getD 0).toNat) default).kind))) (j := 0) (i := (((getI (idl W.troops) ((l.getD k default).whom)).getD 0).toNat)) (OH.later x_108) Rep.flat_bare (get_d (l := (blows W (l.take k)).2) (u := 0) (by have p1 := hpos (l.getD k default).who; have p2 := hpos (l.getD k default).whom; omega)) rfl rfl rfl rfl (λ _ cs h => by have ok_ := (show _ ∧ _ from h).2; obtain rfl := hcI h; exact ⟨rfl, okI_iff.2 (by omega)⟩) rfl rfl eF11 λ w_109 m_110 O_111 => hK _ _ ?_
      have := x_108.size
      have z_107 := eT z_101 x_108
      have := m_110.size
      have z_109 := Ext.mod z_107 m_110 (λ q hq => ((OH.later x_108).lt q hq).1)
      have := m_110.size
      refine fn λ w_115 x_116 => ?_
      have := x_116.size
      have z_115 := eT z_109 x_116
      refine nB <| nT <| rg <| vL (bad rfl rfl (inI (by have p1 := hpos (l.getD k default).who; have p2 := hpos (l.getD k default).whom; omega))) <| vm rfl <| nl <| ?_
      have e1 : blows W (l.take (k + 1)) = (((blows W (l.take k)).1).set (((getI (idl W.troops) ((l.getD k default).who)).getD 0).toNat) true, ((blows W (l.take k)).2).set (((getI (idl W.troops) ((l.getD k default).whom)).getD 0).toNat) ((((blows W (l.take k)).2).getD (((getI (idl W.troops) ((l.getD k default).whom)).getD 0).toNat) 0) + (harmOf ((W.troops.getD (((getI (idl W.troops) ((l.getD k default).who)).getD 0).toNat) default).kind)))) := by rw [blows_take W (by omega), blow_yes h_86]
      have B_5 := B_5.later (eT x_88 x_92)
      have B_5 := B_5.mod m_98 (nm1 (by omega))
      have B_5 := B_5.mod m_102 (λ hq => d_60 _ hq rfl)
      have B_5 := B_5.later x_108
      have B_5 := B_5.mod m_110 (λ hq => d_58 _ hq rfl)
      have B_5 := B_5.later x_116
      have MP := MP.later (eT x_84 (eT x_88 x_92))
      have MP := MP.mod m_98 (nm1 (by omega))
      have MP := MP.mod m_102 (λ hq => d_61 _ hq rfl)
      have MP := MP.later x_108
      have MP := MP.mod m_110 (λ hq => d_59 _ hq rfl)
      have MP := MP.later x_116
      have O_111 := O_111.later x_116
      have O_103 := O_103.later x_108
      have O_103 := O_103.mod m_110 (λ q hq h => by exfalso; (exact d_62 q hq h))
      have O_103 := O_103.later x_116
      exact nI _ _ ⟨k + 1, rfl, rfl, z_115, B_5, MP, (by rw [e1]; exact O_111), (by rw [e1]; exact O_103), by omega, (λ q hq hb => by (exact d_58 q hq hb)), (λ q hq hb => by (exact d_59 q hq hb)), (λ q hq hb => by (exact d_60 q hq hb)), (λ q hq hb => by (exact d_61 q hq hb)), (λ q hq hb => by (exact d_62 q hq hb))⟩ (by omega) (.cons rfl (.cons rfl (.cons rfl (.cons rfl (.cons rfl (.cons rfl (.cons rfl (.cons rfl (.cons (loI rfl (by first | omega | rfl | (simp <;> omega))) .nil)))))))))
    ·refine xt <| xT <| xK <| xB <| nT <| sg <| vm rfl <| va rfl <| va rfl <| nK <| rt <| tR (.tmp rfl (.tmp rfl .nil)) <| ?_
     obtain ⟨r1, r2⟩ := blow_some h_11 h_12
     have e : k = l.length := by omega
     rw [e, List.take_length] at OH
     rw [r1, r2]
     exact ⟨_, _, by rw [(blows_bd W l).2.1]; rfl, OH, z_63⟩
end
end Go.Proofs.Ytccankldeogdlaa
