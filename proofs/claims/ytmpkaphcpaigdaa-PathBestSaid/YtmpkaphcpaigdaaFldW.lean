import Derived.Test.YtmpkaphcpaigdaaGolB
import Derived.Test.YtmpkaphcpaigdaaNod
import Derived.Test.YtmpkaphcpaigdaaPts
import Derived.Test.YtmpkaphcpaigdaaAsp
import Derived.Laws.IdiomStrings
import Derived.Laws.Strings
set_option linter.unusedVariables false
set_option linter.unusedSimpArgs false
set_option maxRecDepth 100000
set_option maxHeartbeats 4000000
namespace Go.Proofs.Ytmpkaphcpaigdaa
section
open Go.RowKit
namespace Rv
section
variable {α : Type} [Inhabited α] {l : List α} {k i : Nat}
def rv (l : List α) : Nat → List α
 | 0 => l
 | k + 1 => Hp.swp (rv l k) k (l.length - 1 - k)
theorem rv_len : (rv l k).length = l.length := by
 induction k with
 | zero => rfl
 | succ k ih => rw [rv, Hp.swp_len, ih]
theorem rv_perm : ∀ k, 2 * k ≤ l.length + 1 → (rv l k).Perm l := by
 intro k
 induction k with
 | zero => intro _; exact List.Perm.refl _
 | succ k ih =>
  intro hk
  rw [rv]
  exact (Hp.swp_perm (by rw [rv_len]; omega) (by rw [rv_len]; omega)).trans (ih (by omega))
theorem rv_get : ∀ k, 2 * k ≤ l.length → ∀ i, i < l.length → (rv l k).getD i default = if i < k ∨ l.length - 1 - i < k then l.getD (l.length - 1 - i) default else l.getD i default := by
 intro k
 induction k with
 | zero => intro _ i _; rw [if_neg (by omega)]; rfl
 | succ k ih =>
  intro hk i hi
  have hl := rv_len (l := l) (k := k)
  rw [rv, Hp.swp_get (by omega) (by omega)]
  by_cases e1 : i = l.length - 1 - k
  ·rw [if_pos e1, ih (by omega) k (by omega), if_neg (by omega), if_pos (by omega)]
   congr 1; omega
  ·rw [if_neg e1]
   by_cases e2 : i = k
   ·rw [if_pos e2, ih (by omega) _ (by omega), if_neg (by omega), if_pos (by omega)]
    congr 1; omega
   ·rw [if_neg e2, ih (by omega) i hi]
    by_cases e3 : i < k ∨ l.length - 1 - i < k
    ·rw [if_pos e3, if_pos (by omega)]
    ·rw [if_neg e3, if_neg (by omega)]
theorem rv_end (h : (l.length : Int) - 1 ≤ 2 * (k : Int)) (h2 : 2 * k ≤ l.length) : rv l k = l.reverse := by
 refine List.ext_getElem (by rw [rv_len, List.length_reverse]) fun i h1 h2' => ?_
 rw [rv_len] at h1
 have hg := rv_get k h2 i h1
 rw [List.getElem_reverse]
 have e : (rv l k).getD i default = (rv l k)[i]'(by rw [rv_len]; exact h1) := by rw [List.getD_eq_getElem?_getD, List.getElem?_eq_getElem]; rfl
 rw [← e, hg]
 split
 ·rw [List.getD_eq_getElem?_getD, List.getElem?_eq_getElem (by omega)]; rfl
 ·rw [List.getD_eq_getElem?_getD, List.getElem?_eq_getElem h1]
  have : l.length - 1 - i = i := by omega
  simp only [Option.getD_some, this]
end
end Rv
end
section
open Go.RowKit
theorem reverse_C (A : Option Addr) (c Z : Nat) (l : List Cel) (w : World) (HO : Cel.rep.SOwn 35 16 w Z (Rep.blkOf A) A c (l)) (hok : ∀ y ∈ l, y.ok) :
  Calls Try.prog 43 #[.slice A l.length c] w (fun e w' => e = .returned (.tuple #[]) ∧ Cel.rep.SOwn 35 16 w' Z (Rep.blkOf A) A c (l.reverse) ∧ Mod (Rep.blkOf A) w w') := by
 have uO := fun q hq => (HO.lt q hq).2
 have hl63 := HO.has.len_le
 refine calls_W (n := 28) Try.func43 rfl rfl rfl ?_
 refine sq <| rg <| vl (mv rfl) rfl <| vl (ln Try.underlying25 rfl) rfl <| vl (bsu rfl rfl (inI (by omega))) rfl <| vl (as_ rfl) rfl <| vl (as_ rfl) rfl <| nl <| nT <| bk <| ?_
 refine lp (fun mI EI wI => ∃ k : Nat, ∃ J : Int, EI = [(0, .slice A l.length c), (2, .int .i64 (k : Int)), (3, .int .i64 J)] ∧ mI = (l.length - k) ∧ Mod (Rep.blkOf A) w wI ∧ Cel.rep.SOwn 35 16 wI Z (Rep.blkOf A) A c (Rv.rv l k) ∧ (J = (l.length : Int) - 1 - (k : Int)) ∧ (2 * k ≤ l.length)) _ _ ⟨0, ((l.length : Int) - 1), rfl, rfl, (Mod.rf (Rep.blkOf A) w), HO, by omega, by omega⟩ (.cons rfl (.cons (loI rfl (by first | omega | rfl | (simp <;> omega))) (.cons (loI rfl (by first | omega | rfl | (simp <;> omega))) .nil))) ?_
 rintro m_2 E_3 w_1 ⟨k, J, rfl, rfl, z_1, HR, hJ, hk⟩
 have q_4 := z_1.size
 have u_5 := fun q hq => (HR.lt q hq).2
 have hlr : (Rv.rv l k).length = l.length := Rv.rv_len
 have hokr : ∀ y ∈ Rv.rv l k, y.ok := fun y hy => hok y ((Rv.rv_perm k (by omega)).subset hy)
 refine sq <| sq <| rg <| vl (mv rfl) rfl <| vl (mv rfl) rfl <| vl (blt rfl rfl) rfl <| nl <| nT <| ?_
 refine clt rfl (fun h_6 => ?_) (fun h_6 => ?_)
 ·refine sk <| nT <| sq <| bk <| ?_
  refine rd [(7, 0), (11, 0), (13, 3), (15, 3)] [0, 1, 2, 3, 4, 5, 6, 7, 8, 9, 10, 11, 12, 13, 14, 15] (by kernel_rfl) (by kernel_rfl) ?_
  refine fw rfl rfl (fun _ => mv rfl) rfl <| fw rfl rfl (fun _ => mv rfl) rfl <| fw rfl rfl (fun _ => mv rfl) rfl <| fw rfl rfl (fun _ => mv rfl) rfl <| fw rfl rfl (fun _ => mv rfl) rfl <| fw rfl rfl (fun _ => mv rfl) rfl <| fw rfl rfl (fun _ => iA J.toNat Try.underlying25 eF4 rfl rfl (HR.has.adr (Nat.zero_lt_of_lt (show J.toNat < _ from (by first | omega | (rw [List.length_set]; omega))))) (by omega) (by first | omega | (rw [List.length_set]; omega))) rfl <| fq rfl rfl (fun _ x => ld rfl (Rep.SHas.elt hcC ((HR.later x).has.adh (Nat.zero_lt_of_lt (show J.toNat < _ from (by first | omega | (rw [List.length_set]; omega))))) (get_d (l := Rv.rv l k) (u := default) (by first | omega | (rw [List.length_set]; omega))) eF3 eF4)) rfl <| fw rfl rfl (fun _ => mv rfl) rfl <| fw rfl rfl (fun _ => mv rfl) rfl <| fw rfl rfl (fun _ => iA k Try.underlying25 eF4 rfl rfl (HR.has.adr (Nat.zero_lt_of_lt (show k < _ from (by first | omega | (rw [List.length_set]; omega))))) rfl (by first | omega | (rw [List.length_set]; omega))) rfl <| fq rfl rfl (fun _ x => ld rfl (Rep.SHas.elt hcC ((HR.later x).has.adh (Nat.zero_lt_of_lt (show k < _ from (by first | omega | (rw [List.length_set]; omega))))) (get_d (l := Rv.rv l k) (u := default) (by first | omega | (rw [List.length_set]; omega))) eF3 eF4)) rfl <| fw rfl rfl (fun _ => iA k Try.underlying25 eF4 rfl rfl (HR.has.adr (Nat.zero_lt_of_lt (show k < _ from (by first | omega | (rw [List.length_set]; omega))))) rfl (by first | omega | (rw [List.length_set]; omega))) rfl <| fb rfl rfl rfl fun w_7 x_8 Q hK => soE (q' := (Rv.rv l k).getD J.toNat default) (i := k) (es := [.int .i64 (((Rv.rv l k).getD J.toNat default).x), .int .i64 (((Rv.rv l k).getD J.toNat default).y)]) (HR.later x_8) Rep.flat_bare (by first | omega | (rw [List.length_set]; omega)) rfl rfl rfl rfl (fun _ => ⟨rfl, (hokr _ (mem_dd (by omega)))⟩) eF4 fun w_9 m_10 O_11 => hK _ _ ?_
  have q_12 := x_8.size
  have z_7 := z_1.trans (Mod.of_ext x_8)
  have q_13 := m_10.size
  have z_9 := z_7.md m_10 (fun q hq => .inl hq)
  have q_14 := m_10.size
  refine fw rfl rfl (fun _ => iA J.toNat Try.underlying25 eF4 rfl rfl (O_11.has.adr (Nat.zero_lt_of_lt (show J.toNat < _ from (by first | omega | (rw [List.length_set]; omega))))) (by omega) (by first | omega | (rw [List.length_set]; omega))) rfl <| fb rfl rfl rfl fun w_15 x_16 Q hK => soE (q' := (Rv.rv l k).getD k default) (i := J.toNat) (es := [.int .i64 (((Rv.rv l k).getD k default).x), .int .i64 (((Rv.rv l k).getD k default).y)]) (O_11.later x_16) Rep.flat_bare (by first | omega | (rw [List.length_set]; omega)) rfl rfl rfl rfl (fun _ => ⟨rfl, (hokr _ (mem_dd (by omega)))⟩) eF4 fun w_17 m_18 O_19 => hK _ _ ?_
  have q_20 := x_16.size
  have z_15 := z_9.trans (Mod.of_ext x_16)
  have q_21 := m_18.size
  have z_17 := z_15.md m_18 (fun q hq => .inl hq)
  have q_22 := m_18.size
  refine fn fun w_23 x_24 => ?_
  have q_25 := x_24.size
  have z_23 := z_17.trans (Mod.of_ext x_24)
  refine nB <| nT <| rg <| vl (mv rfl) rfl <| vl (bad rfl rfl (inI (by omega))) rfl <| vl (mv rfl) rfl <| vl (bsu rfl rfl (inI (by omega))) rfl <| vl (as_ rfl) rfl <| vl (as_ rfl) rfl <| nl <| ?_
  have O_19 := O_19.later x_24
  exact nI _ _ ⟨k + 1, (J - 1), rfl, rfl, z_23, (by have h := O_19; rw [show J.toNat = l.length - 1 - k by omega] at h; exact h), by omega, by omega⟩ (by omega) (.cons rfl (.cons (loI rfl (by first | omega | rfl | (simp <;> omega))) (.cons (loI rfl (by first | omega | rfl | (simp <;> omega))) .nil)))
 ·refine xt <| xT <| xK <| xB <| ne <| tR .nil <| ?_
  exact ⟨rfl, by have h := HR; rw [Rv.rv_end (by omega) (by omega)] at h; exact h, z_1⟩
end
section
open Go.RowKit
theorem Ptf_eqs_api_Cell : EqS Try.prog Cel.cells 35 := by
 intro a b w
 obtain ⟨a0, a1⟩ := a
 obtain ⟨b0, b1⟩ := b
 simp only [Cel.cells, Cel.mk.injEq]
 constructor
 ·go_simp
  repeat' split
  all_goals simp_all
 ·go_simp
  repeat' split
  all_goals simp_all
theorem Ptf_eqg_api_Cell : (Try.prog).eqGuardType (Try.prog).depth 35 = false := by kernel_rfl
theorem Ptf_el_S_api_Cell : ElT Try.prog Cel.rep 25 35 16 := ElT.mk_ (z := Cel.zero) (k := 2) Try.underlying25 Cel.info rfl rfl (by decide) Cel.zero_raw
section
variable {f : Fld} {a b c nd : Cel} {fr : Cel → Int} {out L : List Cel} {j : Nat}
theorem b4a_ (p q r : Bool) : p = false ∨ (p = true ∧ q = false) ∨ (p = true ∧ q = true ∧ r = false) ∨ (p = true ∧ q = true ∧ r = true) := by cases p <;> cases q <;> cases r <;> simp
theorem prev_none (h : ∀ i, i < 4 → (f.ground ((sidesC c).getD i default) && decide (0 ≤ fr ((sidesC c).getD i default)) && decide (fr ((sidesC c).getD i default) + f.kost c = fr c)) = false) : prevF f fr c = c := by
 have h0 := h 0 (by decide); have h1 := h 1 (by decide); have h2 := h 2 (by decide); have h3 := h 3 (by decide)
 have e : (sidesC c).find? (fun n => f.ground n && decide (0 ≤ fr n) && decide (fr n + f.kost c = fr c)) = none := by
  rw [List.find?_eq_none]
  intro x hx
  obtain ⟨i, hi, rfl⟩ := List.mem_iff_getElem.1 hx
  have := h i hi
  rw [getD_dd hi] at this; rw [this]; decide
 unfold prevF; rw [e]; rfl
theorem prev_at (hj : j < 4) (h : ∀ i, i < j → (f.ground ((sidesC c).getD i default) && decide (0 ≤ fr ((sidesC c).getD i default)) && decide (fr ((sidesC c).getD i default) + f.kost c = fr c)) = false) (hp : (f.ground ((sidesC c).getD j default) && decide (0 ≤ fr ((sidesC c).getD j default)) && decide (fr ((sidesC c).getD j default) + f.kost c = fr c)) = true) : prevF f fr c = (sidesC c).getD j default := by
 have e : (sidesC c).find? (fun n => f.ground n && decide (0 ≤ fr n) && decide (fr n + f.kost c = fr c)) = some ((sidesC c).getD j default) := by
  have hl : (sidesC c).length = 4 := rfl
  rw [List.find?_eq_some_iff_getElem]
  refine ⟨hp, j, by omega, (getD_dd (by omega)).symm, fun i hi => ?_⟩
  have := h i hi
  rw [getD_dd (by omega)] at this; simp only [this]; rfl
 unfold prevF; rw [e]; rfl
theorem way_head (f : Fld) (fr : Cel → Int) (a : Cel) (n : Nat) (c : Cel) : [c] ++ (backF f fr a n c).tail = backF f fr a n c := by
 cases n with
 | zero => rfl
 | succ n => unfold backF; split <;> rfl
theorem way_app (h : out ++ (wayB f fr a c).tail = L) (h2 : wayB f fr a c = c :: wayB f fr a nd) : (out ++ [nd]) ++ (wayB f fr a nd).tail = L := by
 rw [h2, List.tail_cons] at h
 rw [List.append_assoc, show [nd] ++ (wayB f fr a nd).tail = wayB f fr a nd from way_head _ _ _ _ _]; exact h
theorem way_len (h : Frs f a fr) : ∀ {c : Cel}, 0 ≤ fr c → ((wayB f fr a c).length : Int) ≤ fr c + 1 := by
 have key : ∀ n : Nat, ∀ c, 0 ≤ fr c → (fr c).toNat = n → ((wayB f fr a c).length : Int) ≤ fr c + 1 := by
  intro n
  induction n using Nat.strongRecOn with
  | ind n ih =>
   intro c hc hn
   by_cases hne : c = a
   ·subst hne; rw [wayB_self h, h.zero]; simp
   ·obtain ⟨p1, p2, p3, p4⟩ := h.prev hc hne
    have hk := f.kost_bd (c := c)
    have := ih (fr (prevF f fr c)).toNat (by omega) _ p3 rfl
    rw [wayB_step h hc hne, List.length_cons]; omega
 exact fun {c} hc => key _ c hc rfl
end
theorem pfind_no (f : Fld) (a b : Cel) (P : Option Addr) (pc : Nat) (w : World) (hP : repI.SHas 8 w P pc f.places) (he : findE f a b ≠ 0) :
  Calls Try.prog 19 #[.agg #[.int .i64 f.wide, .int .i64 f.high, .slice P f.places.length pc], .agg #[.int .i64 a.x, .int .i64 a.y], .agg #[.int .i64 b.x, .int .i64 b.y]] w (fun e w' => e = .returned (.tuple #[.slice none 0 0, .int .i64 0, .int .i64 (findE f a b)]) ∧ Ext w w') := by
 have kE : (findE f a b != 0) = true := by simpa using he
 refine calls_W (n := 107) Try.func19 rfl rfl rfl ?_
 refine sq <| rg <| bx rfl rfl rfl rfl fun w_1 b_2 x_3 l_4 B_5 => ?_
 have q_6 := x_3.size
 have z_1 := Ext.tr (Ext.rf w) x_3
 have q_7 := B_5.lt
 refine bx rfl rfl rfl rfl fun w_8 b_9 x_10 l_11 B_12 => ?_
 have q_13 := x_10.size
 have z_8 := Ext.tr z_1 x_10
 have q_14 := B_12.lt
 refine bx rfl rfl rfl rfl fun w_15 b_16 x_17 l_18 B_19 => ?_
 have q_20 := x_17.size
 have z_15 := Ext.tr z_8 x_17
 have q_21 := B_19.lt
 refine vl (as_ rfl) rfl <| vl (as_ rfl) rfl <| vl (as_ rfl) rfl <| nl <| nT <| sq <| rg <| ?_
 have B_5 := B_5.later (Ext.tr x_10 x_17)
 refine vl (ld rfl (B_5.all eF22 eF23)) rfl <| ?_
 have B_12 := B_12.later x_17
 refine vl (ld rfl (B_12.all eF3 eF4)) rfl <| vl (ld rfl (B_19.all eF3 eF4)) rfl <| ca eF48 rfl rfl ((psearched_no f a b P pc _ (hP.keep z_15) he).mono ?_)
 rintro e w_22 ⟨rfl, x_23⟩
 refine ⟨_, rfl, ?_⟩
 have q_24 := x_23.size
 have z_22 := Ext.tr z_15 x_23
 refine vl (mv rfl) rfl <| vl (ex rfl rfl) rfl <| vl (ex rfl rfl) rfl <| vl (as_ rfl) rfl <| vl (as_ rfl) rfl <| nl <| nT <| sq <| sq <| rg <| vl (mv rfl) rfl <| vl (bne rfl rfl) rfl <| nl <| nT <| cT (evb rfl kE) <| sq <| rg <| vl (mv rfl) rfl <| vl (as_ rfl) rfl <| vl (as_ rfl) rfl <| vl (as_ rfl) rfl <| nl <| nT <| rt <| ?_
 refine tT <| tR (.tmp rfl (.tmp rfl (.tmp rfl .nil))) <| ?_
 exact ⟨rfl, z_22⟩
theorem pfind_ok (f : Fld) (a b : Cel) (P : Option Addr) (pc : Nat) (w : World) (hP : repI.SHas 8 w P pc f.places) (hf : f.chk = 0) (ga : f.ground a = true) (gb : f.ground b = true) (hfr : 0 ≤ frF f a b b) :
  Calls Try.prog 19 #[.agg #[.int .i64 f.wide, .int .i64 f.high, .slice P f.places.length pc], .agg #[.int .i64 a.x, .int .i64 a.y], .agg #[.int .i64 b.x, .int .i64 b.y]] w (fun e w' => ∃ A c, e = .returned (.tuple #[.slice A (wayB f (frF f a b) a b).reverse.length c, .int .i64 (frF f a b b), .int .i64 0]) ∧ Cel.rep.SOwn 35 16 w' w.heap.size (Rep.blkOf A) A c (wayB f (frF f a b) a b).reverse ∧ Ext w w') := by
 obtain ⟨g1, g2, g3, g4, g5, g6⟩ := Fld.good hf
 have hl16 := Fld.len_le hf
 have hib := Fld.ground_in gb
 obtain ⟨_, _, b1, b2, b3, b4⟩ := Fld.idx hf hib
 refine calls_W (n := 107) Try.func19 rfl rfl rfl ?_
 refine sq <| rg <| bx rfl rfl rfl rfl fun w_1 b_2 x_3 l_4 B_5 => ?_
 have q_6 := x_3.size
 have z_1 := Ext.tr (Ext.rf w) x_3
 have q_7 := B_5.lt
 refine bx rfl rfl rfl rfl fun w_8 b_9 x_10 l_11 B_12 => ?_
 have q_13 := x_10.size
 have z_8 := Ext.tr z_1 x_10
 have q_14 := B_12.lt
 refine bx rfl rfl rfl rfl fun w_15 b_16 x_17 l_18 B_19 => ?_
 have q_20 := x_17.size
 have z_15 := Ext.tr z_8 x_17
 have q_21 := B_19.lt
 refine vl (as_ rfl) rfl <| vl (as_ rfl) rfl <| vl (as_ rfl) rfl <| nl <| nT <| sq <| rg <| ?_
 have B_5 := B_5.later (Ext.tr x_10 x_17)
 refine vl (ld rfl (B_5.all eF22 eF23)) rfl <| ?_
 have B_12 := B_12.later x_17
 refine vl (ld rfl (B_12.all eF3 eF4)) rfl <| vl (ld rfl (B_19.all eF3 eF4)) rfl <| ca eF48 rfl rfl ((psearched_some f a b P pc _ (hP.keep z_15) hf ga gb hfr).mono ?_)
 rintro e w_22 ⟨p, F, A, cf, c, far, l, rfl, hpe, HB, hpb, HF, hdF, x_23⟩
 refine ⟨_, rfl, ?_⟩
 have q_24 := x_23.size
 have z_22 := Ext.tr z_15 x_23
 have qB := HB.lt
 have uHF := fun q hq => (HF.lt q hq).2
 have loHF := fun q hq => (HF.lt q hq).1
 obtain ⟨bl1, bl2, bl3⟩ := fr_lt hf hpe.len hib
 have hbl := fun c => hpe.bdF c
 have hFr := Frs.ofF hpe hfr
 refine vl (mv rfl) rfl <| vl (ex rfl rfl) rfl <| vl (ex rfl rfl) rfl <| vl (as_ rfl) rfl <| vl (as_ rfl) rfl <| nl <| nT <| sq <| sq <| rg <| vl (mv rfl) rfl <| vl (bne rfl rfl) rfl <| nl <| nT <| cF rfl <| sk <| nT <| sq <| rg <| ?_
 have B_19 := B_19.later x_23
 refine vl (ld rfl (B_19.all eF3 eF4)) rfl <| bs (e := 35) (cs := [.int .i64 b.x, .int .i64 b.y]) rfl (fun _ => by kernel_rfl) rfl fun w_25 b_26 x_27 l_28 B_29 => ?_
 have q_30 := x_27.size
 have z_25 := Ext.tr z_22 x_27
 have q_31 := B_29.lt
 refine vl (as_ rfl) rfl <| nl <| nT <| sq <| sq <| rg <| ?_
 have B_19 := B_19.later x_27
 refine vl (ld rfl (B_19.all eF3 eF4)) rfl <| al rfl eF41 rfl rfl fun w_32 b_33 x_34 l_35 B_36 => ?_
 have q_37 := x_34.size
 have z_32 := Ext.tr z_25 x_34
 have q_38 := B_36.lt
 refine st (new := [.int .i64 b.x, .int .i64 b.y]) rfl rfl B_36 rfl eF4 rfl rfl rfl fun w_39 m_40 B_36 => ?_
 have q_42 := m_40.size
 have z_39 := Ext.mod z_32 m_40 (ge1 (by omega))
 have q_41 := m_40.size
 refine nl <| nT <| bk <| ?_
 have B_29 := B_29.later x_34
 have B_29 := B_29.mod m_40 (nm1 (by omega))
 have OL0 := Blk.ownN (R := Cel.rep) (by_ := 16) (B := w.heap.size) (k := [b]) B_29 [b.cells] rfl ⟨⟨rfl, okI_iff.2 (by omega), okI_iff.2 (by omega)⟩, trivial⟩ (by simp) (by simp) (by decide) (by omega)
 have eL0 : ∀ q ∈ Rep.blkOf (some ⟨b_26, 0, none⟩), q = b_26 := fun q hq => List.mem_singleton.1 hq
 have B_12 := B_12.later (Ext.tr x_23 (Ext.tr x_27 x_34))
 have B_12 := B_12.mod m_40 (nm1 (by omega))
 have B_19 := B_19.later x_34
 have B_19 := B_19.mod m_40 (nm1 (by omega))
 have HB := HB.later (Ext.tr x_27 x_34)
 have HB := HB.mod m_40 (nm1 (by omega))
 have HF := HF.later (Ext.tr x_27 x_34)
 have HF := HF.mod m_40 (fk1 uHF (by omega))
 refine lp (fun mI EI wI => ∃ c1 : Cel, ∃ bc : Nat, ∃ out : List Cel, ∃ AL : Option Addr, ∃ cL : Nat, EI = [(4, .pointer (some ⟨b_9, 0, none⟩)), (5, .pointer (some ⟨b_16, 0, none⟩)), (6, .slice none 0 0), (7, .int .i64 0), (8, .int .i64 0), (9, .pointer (some ⟨p, 0, none⟩)), (11, .slice AL out.length cL), (12, .pointer (some ⟨bc, 0, none⟩))] ∧ mI = (frF f a b c1).toNat ∧ Ext w wI ∧ Blk wI b_9 [.int .i64 a.x, .int .i64 a.y] 35 (0, 0) ∧ Blk wI b_16 [.int .i64 b.x, .int .i64 b.y] 35 (0, 0) ∧ Blk wI p [.int .i64 f.wide, .int .i64 f.high, .slice P f.places.length pc, .int .i64 b.x, .int .i64 b.y, .slice F far.length cf, .slice A ((l : List Nod).length) c] 90 (0, 0) ∧ repI.SOwn 3 8 wI w_15.heap.size (Rep.blkOf F) F cf far ∧ Blk wI bc [.int .i64 c1.x, .int .i64 c1.y] 35 (0, 0) ∧ Cel.rep.SOwn 35 16 wI w.heap.size (Rep.blkOf AL) AL cL out ∧ (b_2 < bc) ∧ (b_9 < bc) ∧ (b_16 < bc) ∧ (p < bc) ∧ (∀ q ∈ Rep.blkOf F, q < bc) ∧ (0 ≤ frF f a b c1) ∧ (out ++ (wayB f (frF f a b) a c1).tail = wayB f (frF f a b) a b) ∧ (w.heap.size ≤ bc) ∧ (∀ q ∈ Rep.blkOf AL, q = b_9 → False) ∧ (∀ q ∈ Rep.blkOf AL, q = b_16 → False) ∧ (∀ q ∈ Rep.blkOf AL, q = p → False) ∧ (∀ q ∈ Rep.blkOf AL, q = bc → False) ∧ (∀ q ∈ Rep.blkOf AL, q ∈ Rep.blkOf F → False)) _ _ ⟨b, b_33, [b], some ⟨b_26, 0, none⟩, 1, rfl, rfl, z_39, B_12, B_19, HB, HF, B_36, OL0, (by omega), (by omega), (by omega), (by omega), (fun q hq => by have := uHF q hq; omega), hfr, (by unfold wayB; exact way_head _ _ _ _ _), (by omega), (fun q hq hb => by (have := eL0 q hq; omega)), (fun q hq hb => by (have := eL0 q hq; omega)), (fun q hq hb => by (have := eL0 q hq; omega)), (fun q hq hb => by (have := eL0 q hq; omega)), (fun q hq hb => by (have := eL0 q hq; (have := uHF q hb; omega)))⟩ (.cons rfl (.cons rfl (.cons rfl (.cons rfl (.cons rfl (.cons rfl (.cons rfl (.cons rfl .nil)))))))) ?_
 rintro m_49 E_50 w_48 ⟨c1, bc, out, AL, cL, rfl, rfl, z_48, B_12, B_19, HB, HF, HC1, OL1, hx_b_2, hx_b_9, hx_b_16, hx_p, hbF, hc0, hw1, hbw, d_43, d_44, d_45, d_46, d_47⟩
 have q_51 := z_48.size
 have q_52 := B_12.lt
 have q_53 := B_19.lt
 have q_54 := HB.lt
 have u_55 := fun q hq => (HF.lt q hq).2
 have q_56 := HC1.lt
 have u_57 := fun q hq => (OL1.lt q hq).2
 have hbFd : ∀ q ∈ Rep.blkOf F, q = bc → False := fun q hq hb => by have := hbF q hq; omega
 have hci := Fld.ground_in (hFr.gr c1 hc0)
 have hgc := hFr.gr c1 hc0
 obtain ⟨_, _, c1a, c1b, c1c, c1d⟩ := Fld.idx hf hci
 have hkc := f.kost_bd (c := c1)
 have hkk := pcK_ground hf hgc
 have hbc1 := hbl c1
 have hlen1 : out.length ≤ 4801 := by have h1 := congrArg List.length hw1; rw [List.length_append] at h1; have h2 := way_len hFr hfr; have h3 := hbl b; omega
 refine sq <| sq <| rg <| vl (ld rfl (HC1.all eF3 eF4)) rfl <| vl (ld rfl (B_12.all eF3 eF4)) rfl <| vl (bnS Ptf_eqs_api_Cell Ptf_eqg_api_Cell (p := c1) (q := a) rfl rfl) rfl <| nl <| nT <| ?_
 refine cb rfl (fun h_58 => ?_) (fun h_58 => ?_)
 ·have hca : c1 ≠ a := by simpa using h_58
  obtain ⟨p1, p2, p3, p4⟩ := hFr.prev hc0 hca
  have hpw := wayB_step hFr hc0 hca
  refine sk <| nT <| sq <| bk <| sq <| rg <| vl (mv rfl) rfl <| vl (ld rfl (HC1.all eF3 eF4)) rfl <| ca eF42 rfl rfl ((pcost_any w f P F A pc cf c p far l b c1 _ z_48 hf hP HB).mono ?_)
  rintro e w_59 ⟨rfl, x_60⟩
  refine ⟨_, rfl, ?_⟩
  have q_61 := x_60.size
  have z_59 := Ext.tr z_48 x_60
  refine vl (mv rfl) rfl <| vl (ex rfl rfl) rfl <| vl (ex rfl rfl) rfl <| vl (as_ rfl) rfl <| vl (as_ rfl) rfl <| nl <| nT <| sq <| sq <| rg <| ?_
  have HC1 := HC1.later x_60
  refine vl (ld rfl (HC1.all eF3 eF4)) rfl <| ca eF40 rfl rfl ((psides_any c1 _ (by first | omega | (dsimp only; omega))).mono ?_)
  rintro e w_62 ⟨rfl, x_63⟩
  refine ⟨_, rfl, ?_⟩
  have q_64 := x_63.size
  have z_62 := Ext.tr z_59 x_63
  refine vl (mv rfl) rfl <| nl <| nT <| bk <| ?_
  have B_12 := B_12.later (Ext.tr x_60 x_63)
  have B_19 := B_19.later (Ext.tr x_60 x_63)
  have HB := HB.later (Ext.tr x_60 x_63)
  have HF := HF.later (Ext.tr x_60 x_63)
  have HC1 := HC1.later x_63
  have OL1 := OL1.later (Ext.tr x_60 x_63)
  refine lp (fun mI EI wI => ∃ j : Nat, EI = [(4, .pointer (some ⟨b_9, 0, none⟩)), (5, .pointer (some ⟨b_16, 0, none⟩)), (6, .slice none 0 0), (7, .int .i64 0), (8, .int .i64 0), (9, .pointer (some ⟨p, 0, none⟩)), (11, .slice AL out.length cL), (12, .pointer (some ⟨bc, 0, none⟩)), (13, .int .i64 (pcK f c1)), (32, .agg #[.int .i64 c1.x, .int .i64 c1.y]), (33, .agg #[.int .i64 a.x, .int .i64 a.y]), (34, .bool (!decide (c1 = a))), (35, .tuple #[.int .i64 (pcK f c1), .bool (f.ground c1)]), (36, .pointer (some ⟨p, 0, none⟩)), (37, .agg #[.int .i64 c1.x, .int .i64 c1.y]), (38, .tuple #[.int .i64 (pcK f c1), .bool (f.ground c1)]), (39, .int .i64 (pcK f c1)), (40, .bool (f.ground c1)), (41, .agg #[.int .i64 c1.x, .int .i64 c1.y]), (42, .agg #[.int .i64 c1.x, .int .i64 (c1.y - 1), .int .i64 (c1.x - 1), .int .i64 c1.y, .int .i64 (c1.x + 1), .int .i64 c1.y, .int .i64 c1.x, .int .i64 (c1.y + 1)]), (43, .int .i64 (j : Int))] ∧ mI = 4 - j ∧ Ext w wI ∧ Blk wI b_9 [.int .i64 a.x, .int .i64 a.y] 35 (0, 0) ∧ Blk wI b_16 [.int .i64 b.x, .int .i64 b.y] 35 (0, 0) ∧ Blk wI p [.int .i64 f.wide, .int .i64 f.high, .slice P f.places.length pc, .int .i64 b.x, .int .i64 b.y, .slice F far.length cf, .slice A ((l : List Nod).length) c] 90 (0, 0) ∧ repI.SOwn 3 8 wI w_15.heap.size (Rep.blkOf F) F cf far ∧ Blk wI bc [.int .i64 c1.x, .int .i64 c1.y] 35 (0, 0) ∧ Cel.rep.SOwn 35 16 wI w.heap.size (Rep.blkOf AL) AL cL out ∧ (j ≤ 4) ∧ (∀ i, i < j → (f.ground ((sidesC c1).getD i default) && decide (0 ≤ frF f a b ((sidesC c1).getD i default)) && decide (frF f a b ((sidesC c1).getD i default) + f.kost c1 = frF f a b c1)) = false)) _ _ ⟨0, rfl, rfl, z_62, B_12, B_19, HB, HF, HC1, OL1, by omega, fun i hi => by omega⟩ (.cons rfl (.cons rfl (.cons rfl (.cons rfl (.cons rfl (.cons rfl (.cons rfl (.cons rfl (.cons rfl (.cons rfl (.cons rfl (.cons rfl (.cons rfl (.cons rfl (.cons rfl (.cons rfl (.cons rfl (.cons rfl (.cons rfl (.cons rfl (.cons (loI rfl (by first | omega | rfl | (simp <;> omega))) .nil))))))))))))))))))))) ?_
  rintro m_66 E_67 w_65 ⟨j, rfl, rfl, z_65, B_12, B_19, HB, HF, HC1, OL1, hj, hno⟩
  have q_68 := z_65.size
  have q_69 := B_12.lt
  have q_70 := B_19.lt
  have q_71 := HB.lt
  have u_72 := fun q hq => (HF.lt q hq).2
  have q_73 := HC1.lt
  have u_74 := fun q hq => (OL1.lt q hq).2
  refine sq <| rg <| vl (blt rfl rfl) rfl <| nl <| nT <| sq <| ?_
  refine clt rfl (fun h_75 => ?_) (fun h_75 => ?_)
  ·refine sk <| nT <| sq <| bk <| sq <| rg <| ?_
   obtain ⟨nd, hnd⟩ : ∃ nd, (sidesC c1).getD j default = nd := ⟨_, rfl⟩
   have hnb := sides_bd (c := c1) (j := j) (by omega)
   rw [hnd] at hnb
   refine vl (ixk rfl rfl (psides_ix c1 j (by omega) hnd _)) rfl <| al rfl eF41 rfl rfl fun w_76 b_77 x_78 l_79 B_80 => ?_
   have q_81 := x_78.size
   have z_76 := Ext.tr z_65 x_78
   have q_82 := B_80.lt
   refine st (new := [.int .i64 nd.x, .int .i64 nd.y]) rfl rfl B_80 rfl eF4 rfl rfl rfl fun w_83 m_84 B_80 => ?_
   have q_86 := m_84.size
   have z_83 := Ext.mod z_76 m_84 (ge1 (by omega))
   have q_85 := m_84.size
   refine nl <| nT <| sq <| rg <| vl (mv rfl) rfl <| vl (ld rfl (B_80.all eF3 eF4)) rfl <| ?_
   have HB := HB.later x_78
   have HB := HB.mod m_84 (nm1 (by omega))
   refine ca eF42 rfl rfl ((pcost_any w f P F A pc cf c p far l b nd _ z_83 hf hP HB).mono ?_)
   rintro e w_87 ⟨rfl, x_88⟩
   refine ⟨_, rfl, ?_⟩
   have q_89 := x_88.size
   have z_87 := Ext.tr z_83 x_88
   refine vl (mv rfl) rfl <| vl (ex rfl rfl) rfl <| vl (ex rfl rfl) rfl <| vl (as_ rfl) rfl <| vl (as_ rfl) rfl <| nl <| nT <| sq <| ?_
   rcases b4a_ (f.ground nd) (decide (0 ≤ frF f a b nd)) (((frF f a b nd) + (pcK f c1)) == (frF f a b c1)) with c0 | ⟨c0, k1_⟩ | ⟨c0, k1_, k2_⟩ | ⟨c0, k1_, k2_⟩
   ·have hn1 : (f.ground nd && decide (0 ≤ frF f a b nd) && decide (frF f a b nd + f.kost c1 = frF f a b c1)) = false := by rw [c0]; rfl
    refine rd [(5, 0), (7, 0), (8, 0), (10, 0), (17, 0), (19, 0), (20, 0), (22, 0), (28, 0), (30, 0), (31, 0), (33, 0)] [0, 1, 2, 3, 4, 5, 6, 7, 8, 9, 10, 11, 12, 13, 14, 15, 16, 17, 18, 19, 20, 21, 22, 23, 24, 25, 26, 27, 28, 29, 30, 31, 32, 33, 34, 35] (by kernel_rfl) (by kernel_rfl) ?_
    refine fw rfl rfl (fun _ => mv (evb rfl c0)) rfl <| fw rfl rfl (fun _ => mv rfl) rfl <| fW (v := undef) rfl rfl rfl rfl rfl rfl (fun hc => nomatch hc) rfl <| fW (v := undef) rfl rfl rfl rfl rfl rfl (fun hc => nomatch hc) rfl <| fW (v := undef) rfl rfl rfl rfl rfl rfl (fun hc => nomatch hc) rfl <| fQ (v := undef) rfl rfl rfl rfl rfl rfl (fun hc => nomatch hc) rfl <| fW (v := undef) rfl rfl rfl rfl rfl rfl (fun hc => nomatch hc) rfl <| fQ (v := undef) rfl rfl rfl rfl rfl rfl (fun hc => nomatch hc) rfl <| fC (v := undef) (args := []) rfl rfl rfl rfl rfl rfl eF33 (fun hc => nomatch hc) (fun hc => nomatch hc) rfl <| fW (v := undef) rfl rfl rfl rfl rfl rfl (fun hc => nomatch hc) rfl <| fQ (v := undef) rfl rfl rfl rfl rfl rfl (fun hc => nomatch hc) rfl <| fW (v := undef) rfl rfl rfl rfl rfl rfl (fun hc => nomatch hc) rfl <| fw rfl rfl (fun _ => pkF rfl rfl) rfl <| fw rfl rfl (fun _ => mv rfl) rfl <| fW (v := undef) rfl rfl rfl rfl rfl rfl (fun hc => nomatch hc) rfl <| fW (v := undef) rfl rfl rfl rfl rfl rfl (fun hc => nomatch hc) rfl <| fW (v := undef) rfl rfl rfl rfl rfl rfl (fun hc => nomatch hc) rfl <| fQ (v := undef) rfl rfl rfl rfl rfl rfl (fun hc => nomatch hc) rfl <| fW (v := undef) rfl rfl rfl rfl rfl rfl (fun hc => nomatch hc) rfl <| fQ (v := undef) rfl rfl rfl rfl rfl rfl (fun hc => nomatch hc) rfl <| fC (v := undef) (args := []) rfl rfl rfl rfl rfl rfl eF33 (fun hc => nomatch hc) (fun hc => nomatch hc) rfl <| fW (v := undef) rfl rfl rfl rfl rfl rfl (fun hc => nomatch hc) rfl <| fQ (v := undef) rfl rfl rfl rfl rfl rfl (fun hc => nomatch hc) rfl <| fW (v := undef) rfl rfl rfl rfl rfl rfl (fun hc => nomatch hc) rfl <| ?_
    refine fW (v := undef) rfl rfl rfl rfl rfl rfl (fun hc => nomatch hc) rfl <| fW (v := undef) rfl rfl rfl rfl rfl rfl (fun hc => nomatch hc) rfl <| fW (v := undef) rfl rfl rfl rfl rfl rfl (fun hc => nomatch hc) rfl <| fW (v := undef) rfl rfl rfl rfl rfl rfl (fun hc => nomatch hc) rfl <| fQ (v := undef) rfl rfl rfl rfl rfl rfl (fun hc => nomatch hc) rfl <| fW (v := undef) rfl rfl rfl rfl rfl rfl (fun hc => nomatch hc) rfl <| fQ (v := undef) rfl rfl rfl rfl rfl rfl (fun hc => nomatch hc) rfl <| fC (v := undef) (args := []) rfl rfl rfl rfl rfl rfl eF33 (fun hc => nomatch hc) (fun hc => nomatch hc) rfl <| fW (v := undef) rfl rfl rfl rfl rfl rfl (fun hc => nomatch hc) rfl <| fQ (v := undef) rfl rfl rfl rfl rfl rfl (fun hc => nomatch hc) rfl <| fW (v := undef) rfl rfl rfl rfl rfl rfl (fun hc => nomatch hc) rfl <| fw rfl rfl (fun _ => pkF rfl rfl) rfl <| fn fun w_90 x_91 => ?_
    have q_92 := x_91.size
    have z_90 := Ext.tr z_87 x_91
    refine nT <| cF rfl <| sk <| nB <| nT <| rg <| vl (bad rfl rfl (inI (by omega))) rfl <| vl (mv rfl) rfl <| nl <| ?_
    have B_12 := B_12.later x_78
    have B_12 := B_12.mod m_84 (nm1 (by omega))
    have B_12 := B_12.later (Ext.tr x_88 x_91)
    have B_19 := B_19.later x_78
    have B_19 := B_19.mod m_84 (nm1 (by omega))
    have B_19 := B_19.later (Ext.tr x_88 x_91)
    have HB := HB.later (Ext.tr x_88 x_91)
    have HF := HF.later x_78
    have HF := HF.mod m_84 (fun q hq h => by have hb := List.mem_singleton.1 h; exfalso; (have := u_72 q hq; have := uHF q hq; have := u_55 q hq; omega))
    have HF := HF.later (Ext.tr x_88 x_91)
    have HC1 := HC1.later x_78
    have HC1 := HC1.mod m_84 (nm1 (by omega))
    have HC1 := HC1.later (Ext.tr x_88 x_91)
    have OL1 := OL1.later x_78
    have OL1 := OL1.mod m_84 (fun q hq h => by have hb := List.mem_singleton.1 h; exfalso; (have := u_74 q hq; have := u_57 q hq; omega))
    have OL1 := OL1.later (Ext.tr x_88 x_91)
    exact nI _ _ ⟨j + 1, rfl, rfl, z_90, B_12, B_19, HB, HF, HC1, OL1, by omega, lt_succ_all hno (by rw [hnd]; exact hn1)⟩ (by omega) (.cons rfl (.cons rfl (.cons rfl (.cons rfl (.cons rfl (.cons rfl (.cons rfl (.cons rfl (.cons rfl (.cons rfl (.cons rfl (.cons rfl (.cons rfl (.cons rfl (.cons rfl (.cons rfl (.cons rfl (.cons rfl (.cons rfl (.cons rfl (.cons (loI rfl (by first | omega | rfl | (simp <;> omega))) .nil)))))))))))))))))))))
   ·have hni := Fld.ground_in c0
    obtain ⟨nl1, nl2, nl3⟩ := fr_lt hf hpe.len hni
    have hn1 : (f.ground nd && decide (0 ≤ frF f a b nd) && decide (frF f a b nd + f.kost c1 = frF f a b c1)) = false := by rw [c0, k1_]; rfl
    refine rd [(5, 0), (7, 0), (8, 0), (10, 0), (17, 0), (19, 0), (20, 0), (22, 0), (28, 0), (30, 0), (31, 0), (33, 0)] [0, 1, 2, 3, 4, 5, 6, 7, 8, 9, 10, 11, 12, 13, 14, 15, 16, 17, 18, 19, 20, 21, 22, 23, 24, 25, 26, 27, 28, 29, 30, 31, 32, 33, 34, 35] (by kernel_rfl) (by kernel_rfl) ?_
    refine fw rfl rfl (fun _ => mv (evb rfl c0)) rfl <| fw rfl rfl (fun _ => mv rfl) rfl <| fW rfl rfl rfl rfl rfl rfl (fun hc _ => mv rfl) rfl <| fW rfl rfl rfl rfl rfl rfl (fun hc _ => nc rfl) rfl <| fW rfl rfl rfl rfl rfl rfl (fun hc _ => fa eF34 rfl) rfl <| ?_
    have HB := HB.later x_88
    refine fQ rfl rfl rfl rfl rfl rfl (fun hc _ x => ld rfl ((HB.later x).one eF35 rfl)) rfl <| fW rfl rfl rfl rfl rfl rfl (fun hc _ => mv rfl) rfl <| ?_
    have B_80 := B_80.later x_88
    refine fQ rfl rfl rfl rfl rfl rfl (fun hc _ x => ld rfl ((B_80.later x).all eF3 eF4)) rfl <| fC rfl rfl rfl rfl rfl rfl eF33 (fun hc => rfl) (fun hc _ x => pindex_any w f P F A pc cf c p far l b nd _ (Ext.tr z_87 x) hf hP (HB.later x) (by first | omega | (dsimp only; omega))) rfl <| ?_
    have HF := HF.later x_78
    have HF := HF.mod m_84 (fun q hq h => by have hb := List.mem_singleton.1 h; exfalso; (have := u_72 q hq; have := uHF q hq; have := u_55 q hq; omega))
    have HF := HF.later x_88
    refine fW rfl rfl rfl rfl rfl rfl (fun hc _ => iA ((nd.y * f.wide + nd.x).toNat) Try.underlying22 eF36 rfl rfl (HF.has.adr (Nat.zero_lt_of_lt (show (nd.y * f.wide + nd.x).toNat < _ from (by have h_ := (fr_lt hf hpe.len hni).1; omega)))) (by (try simp only [Bool.or_eq_true, Bool.or_eq_false_iff, Bool.and_eq_true, Bool.and_eq_false_iff, decide_eq_true_eq, decide_eq_false_iff_not, beq_iff_eq, bne_iff_ne, beq_eq_false_iff_ne, bne_eq_false_iff_eq, Bool.not_eq_true', Bool.not_eq_false', Bool.not_eq_true, Bool.not_eq_false, Int.not_lt, Int.not_le, Nat.not_lt, Nat.not_le, ne_eq, Classical.not_not] at hc); omega) (by have h_ := (fr_lt hf hpe.len hni).1; omega)) rfl <| fQ rfl rfl rfl rfl rfl rfl (fun hc _ x => ld rfl (Rep.SHas.one' hcI ((HF.later x).has.adh (Nat.zero_lt_of_lt (show (nd.y * f.wide + nd.x).toNat < _ from (by have h_ := (fr_lt hf hpe.len hni).1; omega)))) (hpe.get hf hni) rfl eF1)) rfl <| fW rfl rfl rfl rfl rfl rfl (fun hc _ => bge rfl rfl) rfl <| fw rfl rfl (fun _ => pkT rfl (evb rfl k1_)) rfl <| fw rfl rfl (fun _ => mv rfl) rfl <| fW (v := undef) rfl rfl rfl rfl rfl rfl (fun hc => nomatch hc) rfl <| fW (v := undef) rfl rfl rfl rfl rfl rfl (fun hc => nomatch hc) rfl <| fW (v := undef) rfl rfl rfl rfl rfl rfl (fun hc => nomatch hc) rfl <| fQ (v := undef) rfl rfl rfl rfl rfl rfl (fun hc => nomatch hc) rfl <| fW (v := undef) rfl rfl rfl rfl rfl rfl (fun hc => nomatch hc) rfl <| fQ (v := undef) rfl rfl rfl rfl rfl rfl (fun hc => nomatch hc) rfl <| fC (v := undef) (args := []) rfl rfl rfl rfl rfl rfl eF33 (fun hc => nomatch hc) (fun hc => nomatch hc) rfl <| fW (v := undef) rfl rfl rfl rfl rfl rfl (fun hc => nomatch hc) rfl <| fQ (v := undef) rfl rfl rfl rfl rfl rfl (fun hc => nomatch hc) rfl <| fW (v := undef) rfl rfl rfl rfl rfl rfl (fun hc => nomatch hc) rfl <| fW (v := undef) rfl rfl rfl rfl rfl rfl (fun hc => nomatch hc) rfl <| fW (v := undef) rfl rfl rfl rfl rfl rfl (fun hc => nomatch hc) rfl <| fW (v := undef) rfl rfl rfl rfl rfl rfl (fun hc => nomatch hc) rfl <| fW (v := undef) rfl rfl rfl rfl rfl rfl (fun hc => nomatch hc) rfl <| fQ (v := undef) rfl rfl rfl rfl rfl rfl (fun hc => nomatch hc) rfl <| fW (v := undef) rfl rfl rfl rfl rfl rfl (fun hc => nomatch hc) rfl <| fQ (v := undef) rfl rfl rfl rfl rfl rfl (fun hc => nomatch hc) rfl <| fC (v := undef) (args := []) rfl rfl rfl rfl rfl rfl eF33 (fun hc => nomatch hc) (fun hc => nomatch hc) rfl <| fW (v := undef) rfl rfl rfl rfl rfl rfl (fun hc => nomatch hc) rfl <| ?_
    refine fQ (v := undef) rfl rfl rfl rfl rfl rfl (fun hc => nomatch hc) rfl <| fW (v := undef) rfl rfl rfl rfl rfl rfl (fun hc => nomatch hc) rfl <| fw rfl rfl (fun _ => pkF rfl rfl) rfl <| fn fun w_93 x_94 => ?_
    have q_95 := x_94.size
    have z_93 := Ext.tr z_87 x_94
    refine nT <| cF rfl <| sk <| nB <| nT <| rg <| vl (bad rfl rfl (inI (by omega))) rfl <| vl (mv rfl) rfl <| nl <| ?_
    have B_12 := B_12.later x_78
    have B_12 := B_12.mod m_84 (nm1 (by omega))
    have B_12 := B_12.later (Ext.tr x_88 x_94)
    have B_19 := B_19.later x_78
    have B_19 := B_19.mod m_84 (nm1 (by omega))
    have B_19 := B_19.later (Ext.tr x_88 x_94)
    have HB := HB.later x_94
    have HF := HF.later x_94
    have HC1 := HC1.later x_78
    have HC1 := HC1.mod m_84 (nm1 (by omega))
    have HC1 := HC1.later (Ext.tr x_88 x_94)
    have OL1 := OL1.later x_78
    have OL1 := OL1.mod m_84 (fun q hq h => by have hb := List.mem_singleton.1 h; exfalso; (have := u_74 q hq; have := u_57 q hq; omega))
    have OL1 := OL1.later (Ext.tr x_88 x_94)
    exact nI _ _ ⟨j + 1, rfl, rfl, z_93, B_12, B_19, HB, HF, HC1, OL1, by omega, lt_succ_all hno (by rw [hnd]; exact hn1)⟩ (by omega) (.cons rfl (.cons rfl (.cons rfl (.cons rfl (.cons rfl (.cons rfl (.cons rfl (.cons rfl (.cons rfl (.cons rfl (.cons rfl (.cons rfl (.cons rfl (.cons rfl (.cons rfl (.cons rfl (.cons rfl (.cons rfl (.cons rfl (.cons rfl (.cons (loI rfl (by first | omega | rfl | (simp <;> omega))) .nil)))))))))))))))))))))
   ·have hni := Fld.ground_in c0
    obtain ⟨nl1, nl2, nl3⟩ := fr_lt hf hpe.len hni
    obtain ⟨ml1, ml2, ml3⟩ := fr_lt hf hpe.len hci
    have hbn1 := hbl nd
    have hnn := of_decide_eq_true k1_
    have hn1 : (f.ground nd && decide (0 ≤ frF f a b nd) && decide (frF f a b nd + f.kost c1 = frF f a b c1)) = false := by rw [hkk, beq_eq_false_iff_ne] at k2_; rw [c0, k1_, decide_eq_false k2_]; rfl
    refine rd [(5, 0), (7, 0), (8, 0), (10, 0), (17, 0), (19, 0), (20, 0), (22, 0), (28, 0), (30, 0), (31, 0), (33, 0)] [0, 1, 2, 3, 4, 5, 6, 7, 8, 9, 10, 11, 12, 13, 14, 15, 16, 17, 18, 19, 20, 21, 22, 23, 24, 25, 26, 27, 28, 29, 30, 31, 32, 33, 34, 35] (by kernel_rfl) (by kernel_rfl) ?_
    refine fw rfl rfl (fun _ => mv (evb rfl c0)) rfl <| fw rfl rfl (fun _ => mv rfl) rfl <| fW rfl rfl rfl rfl rfl rfl (fun hc _ => mv rfl) rfl <| fW rfl rfl rfl rfl rfl rfl (fun hc _ => nc rfl) rfl <| fW rfl rfl rfl rfl rfl rfl (fun hc _ => fa eF34 rfl) rfl <| ?_
    have HB := HB.later x_88
    refine fQ rfl rfl rfl rfl rfl rfl (fun hc _ x => ld rfl ((HB.later x).one eF35 rfl)) rfl <| fW rfl rfl rfl rfl rfl rfl (fun hc _ => mv rfl) rfl <| ?_
    have B_80 := B_80.later x_88
    refine fQ rfl rfl rfl rfl rfl rfl (fun hc _ x => ld rfl ((B_80.later x).all eF3 eF4)) rfl <| fC rfl rfl rfl rfl rfl rfl eF33 (fun hc => rfl) (fun hc _ x => pindex_any w f P F A pc cf c p far l b nd _ (Ext.tr z_87 x) hf hP (HB.later x) (by first | omega | (dsimp only; omega))) rfl <| ?_
    have HF := HF.later x_78
    have HF := HF.mod m_84 (fun q hq h => by have hb := List.mem_singleton.1 h; exfalso; (have := u_72 q hq; have := uHF q hq; have := u_55 q hq; omega))
    have HF := HF.later x_88
    refine fW rfl rfl rfl rfl rfl rfl (fun hc _ => iA ((nd.y * f.wide + nd.x).toNat) Try.underlying22 eF36 rfl rfl (HF.has.adr (Nat.zero_lt_of_lt (show (nd.y * f.wide + nd.x).toNat < _ from (by have h_ := (fr_lt hf hpe.len hni).1; omega)))) (by (try simp only [Bool.or_eq_true, Bool.or_eq_false_iff, Bool.and_eq_true, Bool.and_eq_false_iff, decide_eq_true_eq, decide_eq_false_iff_not, beq_iff_eq, bne_iff_ne, beq_eq_false_iff_ne, bne_eq_false_iff_eq, Bool.not_eq_true', Bool.not_eq_false', Bool.not_eq_true, Bool.not_eq_false, Int.not_lt, Int.not_le, Nat.not_lt, Nat.not_le, ne_eq, Classical.not_not] at hc); omega) (by have h_ := (fr_lt hf hpe.len hni).1; omega)) rfl <| fQ rfl rfl rfl rfl rfl rfl (fun hc _ x => ld rfl (Rep.SHas.one' hcI ((HF.later x).has.adh (Nat.zero_lt_of_lt (show (nd.y * f.wide + nd.x).toNat < _ from (by have h_ := (fr_lt hf hpe.len hni).1; omega)))) (hpe.get hf hni) rfl eF1)) rfl <| fW rfl rfl rfl rfl rfl rfl (fun hc _ => bge rfl rfl) rfl <| fw rfl rfl (fun _ => pkT rfl (evb rfl k1_)) rfl <| fw rfl rfl (fun _ => mv rfl) rfl <| fW rfl rfl rfl rfl rfl rfl (fun hc _ => mv rfl) rfl <| fW rfl rfl rfl rfl rfl rfl (fun hc _ => nc rfl) rfl <| fW rfl rfl rfl rfl rfl rfl (fun hc _ => fa eF34 rfl) rfl <| fQ rfl rfl rfl rfl rfl rfl (fun hc _ x => ld rfl ((HB.later x).one eF35 rfl)) rfl <| fW rfl rfl rfl rfl rfl rfl (fun hc _ => mv rfl) rfl <| fQ rfl rfl rfl rfl rfl rfl (fun hc _ x => ld rfl ((B_80.later x).all eF3 eF4)) rfl <| fC rfl rfl rfl rfl rfl rfl eF33 (fun hc => rfl) (fun hc _ x => pindex_any w f P F A pc cf c p far l b nd _ (Ext.tr z_87 x) hf hP (HB.later x) (by first | omega | (dsimp only; omega))) rfl <| fW rfl rfl rfl rfl rfl rfl (fun hc _ => iA ((nd.y * f.wide + nd.x).toNat) Try.underlying22 eF36 rfl rfl (HF.has.adr (Nat.zero_lt_of_lt (show (nd.y * f.wide + nd.x).toNat < _ from (by have h_ := (fr_lt hf hpe.len hni).1; omega)))) (by (try simp only [Bool.or_eq_true, Bool.or_eq_false_iff, Bool.and_eq_true, Bool.and_eq_false_iff, decide_eq_true_eq, decide_eq_false_iff_not, beq_iff_eq, bne_iff_ne, beq_eq_false_iff_ne, bne_eq_false_iff_eq, Bool.not_eq_true', Bool.not_eq_false', Bool.not_eq_true, Bool.not_eq_false, Int.not_lt, Int.not_le, Nat.not_lt, Nat.not_le, ne_eq, Classical.not_not] at hc); omega) (by have h_ := (fr_lt hf hpe.len hni).1; omega)) rfl <| fQ rfl rfl rfl rfl rfl rfl (fun hc _ x => ld rfl (Rep.SHas.one' hcI ((HF.later x).has.adh (Nat.zero_lt_of_lt (show (nd.y * f.wide + nd.x).toNat < _ from (by have h_ := (fr_lt hf hpe.len hni).1; omega)))) (hpe.get hf hni) rfl eF1)) rfl <| fW rfl rfl rfl rfl rfl rfl (fun hc _ => mv rfl) rfl <| fW rfl rfl rfl rfl rfl rfl (fun hc _ => bad rfl rfl (inI (by (try simp only [Bool.or_eq_true, Bool.or_eq_false_iff, Bool.and_eq_true, Bool.and_eq_false_iff, decide_eq_true_eq, decide_eq_false_iff_not, beq_iff_eq, bne_iff_ne, beq_eq_false_iff_ne, bne_eq_false_iff_eq, Bool.not_eq_true', Bool.not_eq_false', Bool.not_eq_true, Bool.not_eq_false, Int.not_lt, Int.not_le, Nat.not_lt, Nat.not_le, ne_eq, Classical.not_not] at hc); omega))) rfl <| fW rfl rfl rfl rfl rfl rfl (fun hc _ => mv rfl) rfl <| fW rfl rfl rfl rfl rfl rfl (fun hc _ => nc rfl) rfl <| fW rfl rfl rfl rfl rfl rfl (fun hc _ => fa eF34 rfl) rfl <| fQ rfl rfl rfl rfl rfl rfl (fun hc _ x => ld rfl ((HB.later x).one eF35 rfl)) rfl <| fW rfl rfl rfl rfl rfl rfl (fun hc _ => mv rfl) rfl <| ?_
    have HC1 := HC1.later x_78
    have HC1 := HC1.mod m_84 (nm1 (by omega))
    have HC1 := HC1.later x_88
    refine fQ rfl rfl rfl rfl rfl rfl (fun hc _ x => ld rfl ((HC1.later x).all eF3 eF4)) rfl <| fC rfl rfl rfl rfl rfl rfl eF33 (fun hc => rfl) (fun hc _ x => pindex_any w f P F A pc cf c p far l b c1 _ (Ext.tr z_87 x) hf hP (HB.later x) (by first | omega | (dsimp only; omega))) rfl <| fW rfl rfl rfl rfl rfl rfl (fun hc _ => iA ((c1.y * f.wide + c1.x).toNat) Try.underlying22 eF36 rfl rfl (HF.has.adr (Nat.zero_lt_of_lt (show (c1.y * f.wide + c1.x).toNat < _ from (by have h_ := (fr_lt hf hpe.len hci).1; omega)))) (by (try simp only [Bool.or_eq_true, Bool.or_eq_false_iff, Bool.and_eq_true, Bool.and_eq_false_iff, decide_eq_true_eq, decide_eq_false_iff_not, beq_iff_eq, bne_iff_ne, beq_eq_false_iff_ne, bne_eq_false_iff_eq, Bool.not_eq_true', Bool.not_eq_false', Bool.not_eq_true, Bool.not_eq_false, Int.not_lt, Int.not_le, Nat.not_lt, Nat.not_le, ne_eq, Classical.not_not] at hc); omega) (by have h_ := (fr_lt hf hpe.len hci).1; omega)) rfl <| fQ rfl rfl rfl rfl rfl rfl (fun hc _ x => ld rfl (Rep.SHas.one' hcI ((HF.later x).has.adh (Nat.zero_lt_of_lt (show (c1.y * f.wide + c1.x).toNat < _ from (by have h_ := (fr_lt hf hpe.len hci).1; omega)))) (hpe.get hf hci) rfl eF1)) rfl <| fW rfl rfl rfl rfl rfl rfl (fun hc _ => beq rfl rfl) rfl <| fw rfl rfl (fun _ => pkT rfl (evb rfl k2_)) rfl <| fn fun w_96 x_97 => ?_
    have q_98 := x_97.size
    have z_96 := Ext.tr z_87 x_97
    refine nT <| cF rfl <| sk <| nB <| nT <| rg <| vl (bad rfl rfl (inI (by omega))) rfl <| vl (mv rfl) rfl <| nl <| ?_
    have B_12 := B_12.later x_78
    have B_12 := B_12.mod m_84 (nm1 (by omega))
    have B_12 := B_12.later (Ext.tr x_88 x_97)
    have B_19 := B_19.later x_78
    have B_19 := B_19.mod m_84 (nm1 (by omega))
    have B_19 := B_19.later (Ext.tr x_88 x_97)
    have HB := HB.later x_97
    have HF := HF.later x_97
    have HC1 := HC1.later x_97
    have OL1 := OL1.later x_78
    have OL1 := OL1.mod m_84 (fun q hq h => by have hb := List.mem_singleton.1 h; exfalso; (have := u_74 q hq; have := u_57 q hq; omega))
    have OL1 := OL1.later (Ext.tr x_88 x_97)
    exact nI _ _ ⟨j + 1, rfl, rfl, z_96, B_12, B_19, HB, HF, HC1, OL1, by omega, lt_succ_all hno (by rw [hnd]; exact hn1)⟩ (by omega) (.cons rfl (.cons rfl (.cons rfl (.cons rfl (.cons rfl (.cons rfl (.cons rfl (.cons rfl (.cons rfl (.cons rfl (.cons rfl (.cons rfl (.cons rfl (.cons rfl (.cons rfl (.cons rfl (.cons rfl (.cons rfl (.cons rfl (.cons rfl (.cons (loI rfl (by first | omega | rfl | (simp <;> omega))) .nil)))))))))))))))))))))
   ·have hni := Fld.ground_in c0
    obtain ⟨nl1, nl2, nl3⟩ := fr_lt hf hpe.len hni
    obtain ⟨ml1, ml2, ml3⟩ := fr_lt hf hpe.len hci
    have hbn1 := hbl nd
    have hnn := of_decide_eq_true k1_
    have hpv : prevF f (frF f a b) c1 = nd := by rw [hkk, beq_iff_eq] at k2_; rw [← hnd]; exact prev_at (by omega) hno (by rw [hnd, c0, k1_, decide_eq_true k2_]; rfl)
    rw [hpv] at p1 p2 p3 p4 hpw
    obtain ⟨_, _, n1a, n1b, n1c, n1d⟩ := Fld.idx hf hni
    have hw2 := way_app hw1 hpw
    refine rd [(5, 0), (7, 0), (8, 0), (10, 0), (17, 0), (19, 0), (20, 0), (22, 0), (28, 0), (30, 0), (31, 0), (33, 0)] [0, 1, 2, 3, 4, 5, 6, 7, 8, 9, 10, 11, 12, 13, 14, 15, 16, 17, 18, 19, 20, 21, 22, 23, 24, 25, 26, 27, 28, 29, 30, 31, 32, 33, 34, 35] (by kernel_rfl) (by kernel_rfl) ?_
    refine fw rfl rfl (fun _ => mv (evb rfl c0)) rfl <| fw rfl rfl (fun _ => mv rfl) rfl <| fW rfl rfl rfl rfl rfl rfl (fun hc _ => mv rfl) rfl <| fW rfl rfl rfl rfl rfl rfl (fun hc _ => nc rfl) rfl <| fW rfl rfl rfl rfl rfl rfl (fun hc _ => fa eF34 rfl) rfl <| ?_
    have HB := HB.later x_88
    refine fQ rfl rfl rfl rfl rfl rfl (fun hc _ x => ld rfl ((HB.later x).one eF35 rfl)) rfl <| fW rfl rfl rfl rfl rfl rfl (fun hc _ => mv rfl) rfl <| ?_
    have B_80 := B_80.later x_88
    refine fQ rfl rfl rfl rfl rfl rfl (fun hc _ x => ld rfl ((B_80.later x).all eF3 eF4)) rfl <| fC rfl rfl rfl rfl rfl rfl eF33 (fun hc => rfl) (fun hc _ x => pindex_any w f P F A pc cf c p far l b nd _ (Ext.tr z_87 x) hf hP (HB.later x) (by first | omega | (dsimp only; omega))) rfl <| ?_
    have HF := HF.later x_78
    have HF := HF.mod m_84 (fun q hq h => by have hb := List.mem_singleton.1 h; exfalso; (have := u_72 q hq; have := uHF q hq; have := u_55 q hq; omega))
    have HF := HF.later x_88
    refine fW rfl rfl rfl rfl rfl rfl (fun hc _ => iA ((nd.y * f.wide + nd.x).toNat) Try.underlying22 eF36 rfl rfl (HF.has.adr (Nat.zero_lt_of_lt (show (nd.y * f.wide + nd.x).toNat < _ from (by have h_ := (fr_lt hf hpe.len hni).1; omega)))) (by (try simp only [Bool.or_eq_true, Bool.or_eq_false_iff, Bool.and_eq_true, Bool.and_eq_false_iff, decide_eq_true_eq, decide_eq_false_iff_not, beq_iff_eq, bne_iff_ne, beq_eq_false_iff_ne, bne_eq_false_iff_eq, Bool.not_eq_true', Bool.not_eq_false', Bool.not_eq_true, Bool.not_eq_false, Int.not_lt, Int.not_le, Nat.not_lt, Nat.not_le, ne_eq, Classical.not_not] at hc); omega) (by have h_ := (fr_lt hf hpe.len hni).1; omega)) rfl <| fQ rfl rfl rfl rfl rfl rfl (fun hc _ x => ld rfl (Rep.SHas.one' hcI ((HF.later x).has.adh (Nat.zero_lt_of_lt (show (nd.y * f.wide + nd.x).toNat < _ from (by have h_ := (fr_lt hf hpe.len hni).1; omega)))) (hpe.get hf hni) rfl eF1)) rfl <| fW rfl rfl rfl rfl rfl rfl (fun hc _ => bge rfl rfl) rfl <| fw rfl rfl (fun _ => pkT rfl (evb rfl k1_)) rfl <| fw rfl rfl (fun _ => mv rfl) rfl <| fW rfl rfl rfl rfl rfl rfl (fun hc _ => mv rfl) rfl <| fW rfl rfl rfl rfl rfl rfl (fun hc _ => nc rfl) rfl <| fW rfl rfl rfl rfl rfl rfl (fun hc _ => fa eF34 rfl) rfl <| fQ rfl rfl rfl rfl rfl rfl (fun hc _ x => ld rfl ((HB.later x).one eF35 rfl)) rfl <| fW rfl rfl rfl rfl rfl rfl (fun hc _ => mv rfl) rfl <| fQ rfl rfl rfl rfl rfl rfl (fun hc _ x => ld rfl ((B_80.later x).all eF3 eF4)) rfl <| fC rfl rfl rfl rfl rfl rfl eF33 (fun hc => rfl) (fun hc _ x => pindex_any w f P F A pc cf c p far l b nd _ (Ext.tr z_87 x) hf hP (HB.later x) (by first | omega | (dsimp only; omega))) rfl <| fW rfl rfl rfl rfl rfl rfl (fun hc _ => iA ((nd.y * f.wide + nd.x).toNat) Try.underlying22 eF36 rfl rfl (HF.has.adr (Nat.zero_lt_of_lt (show (nd.y * f.wide + nd.x).toNat < _ from (by have h_ := (fr_lt hf hpe.len hni).1; omega)))) (by (try simp only [Bool.or_eq_true, Bool.or_eq_false_iff, Bool.and_eq_true, Bool.and_eq_false_iff, decide_eq_true_eq, decide_eq_false_iff_not, beq_iff_eq, bne_iff_ne, beq_eq_false_iff_ne, bne_eq_false_iff_eq, Bool.not_eq_true', Bool.not_eq_false', Bool.not_eq_true, Bool.not_eq_false, Int.not_lt, Int.not_le, Nat.not_lt, Nat.not_le, ne_eq, Classical.not_not] at hc); omega) (by have h_ := (fr_lt hf hpe.len hni).1; omega)) rfl <| fQ rfl rfl rfl rfl rfl rfl (fun hc _ x => ld rfl (Rep.SHas.one' hcI ((HF.later x).has.adh (Nat.zero_lt_of_lt (show (nd.y * f.wide + nd.x).toNat < _ from (by have h_ := (fr_lt hf hpe.len hni).1; omega)))) (hpe.get hf hni) rfl eF1)) rfl <| fW rfl rfl rfl rfl rfl rfl (fun hc _ => mv rfl) rfl <| fW rfl rfl rfl rfl rfl rfl (fun hc _ => bad rfl rfl (inI (by (try simp only [Bool.or_eq_true, Bool.or_eq_false_iff, Bool.and_eq_true, Bool.and_eq_false_iff, decide_eq_true_eq, decide_eq_false_iff_not, beq_iff_eq, bne_iff_ne, beq_eq_false_iff_ne, bne_eq_false_iff_eq, Bool.not_eq_true', Bool.not_eq_false', Bool.not_eq_true, Bool.not_eq_false, Int.not_lt, Int.not_le, Nat.not_lt, Nat.not_le, ne_eq, Classical.not_not] at hc); omega))) rfl <| fW rfl rfl rfl rfl rfl rfl (fun hc _ => mv rfl) rfl <| fW rfl rfl rfl rfl rfl rfl (fun hc _ => nc rfl) rfl <| fW rfl rfl rfl rfl rfl rfl (fun hc _ => fa eF34 rfl) rfl <| fQ rfl rfl rfl rfl rfl rfl (fun hc _ x => ld rfl ((HB.later x).one eF35 rfl)) rfl <| fW rfl rfl rfl rfl rfl rfl (fun hc _ => mv rfl) rfl <| ?_
    have HC1 := HC1.later x_78
    have HC1 := HC1.mod m_84 (nm1 (by omega))
    have HC1 := HC1.later x_88
    refine fQ rfl rfl rfl rfl rfl rfl (fun hc _ x => ld rfl ((HC1.later x).all eF3 eF4)) rfl <| fC rfl rfl rfl rfl rfl rfl eF33 (fun hc => rfl) (fun hc _ x => pindex_any w f P F A pc cf c p far l b c1 _ (Ext.tr z_87 x) hf hP (HB.later x) (by first | omega | (dsimp only; omega))) rfl <| fW rfl rfl rfl rfl rfl rfl (fun hc _ => iA ((c1.y * f.wide + c1.x).toNat) Try.underlying22 eF36 rfl rfl (HF.has.adr (Nat.zero_lt_of_lt (show (c1.y * f.wide + c1.x).toNat < _ from (by have h_ := (fr_lt hf hpe.len hci).1; omega)))) (by (try simp only [Bool.or_eq_true, Bool.or_eq_false_iff, Bool.and_eq_true, Bool.and_eq_false_iff, decide_eq_true_eq, decide_eq_false_iff_not, beq_iff_eq, bne_iff_ne, beq_eq_false_iff_ne, bne_eq_false_iff_eq, Bool.not_eq_true', Bool.not_eq_false', Bool.not_eq_true, Bool.not_eq_false, Int.not_lt, Int.not_le, Nat.not_lt, Nat.not_le, ne_eq, Classical.not_not] at hc); omega) (by have h_ := (fr_lt hf hpe.len hci).1; omega)) rfl <| fQ rfl rfl rfl rfl rfl rfl (fun hc _ x => ld rfl (Rep.SHas.one' hcI ((HF.later x).has.adh (Nat.zero_lt_of_lt (show (c1.y * f.wide + c1.x).toNat < _ from (by have h_ := (fr_lt hf hpe.len hci).1; omega)))) (hpe.get hf hci) rfl eF1)) rfl <| fW rfl rfl rfl rfl rfl rfl (fun hc _ => beq rfl rfl) rfl <| fw rfl rfl (fun _ => pkT rfl (evb rfl k2_)) rfl <| fn fun w_99 x_100 => ?_
    have q_101 := x_100.size
    have z_99 := Ext.tr z_87 x_100
    refine nT <| cT rfl <| sq <| rg <| ?_
    have B_80 := B_80.later x_100
    refine vl (ld rfl (B_80.all eF3 eF4)) rfl <| ?_
    have HC1 := HC1.later x_100
    refine st (new := [.int .i64 nd.x, .int .i64 nd.y]) rfl rfl HC1 rfl eF4 rfl rfl rfl fun w_102 m_103 HC1 => ?_
    have q_105 := m_103.size
    have z_102 := Ext.mod z_99 m_103 (ge1 (by omega))
    have q_104 := m_103.size
    refine nl <| nT <| xt <| xN rfl <| xT <| xK <| xB <| nT <| rg <| vl (mv rfl) rfl <| vl (ld rfl (HC1.all eF3 eF4)) rfl <| bs (e := 35) (cs := [.int .i64 nd.x, .int .i64 nd.y]) rfl (fun _ => by kernel_rfl) rfl fun w_106 b_107 x_108 l_109 B_110 => ?_
    have q_111 := x_108.size
    have z_106 := Ext.tr z_102 x_108
    have q_112 := B_110.lt
    have OL1 := OL1.later x_78
    have OL1 := OL1.mod m_84 (fun q hq h => by have hb := List.mem_singleton.1 h; exfalso; (have := u_74 q hq; have := u_57 q hq; omega))
    have OL1 := OL1.later (Ext.tr x_88 x_100)
    have OL1 := OL1.mod m_103 (fun q hq h => by have hb := List.mem_singleton.1 h; exfalso; (exact d_46 q hq hb))
    have OL1 := OL1.later x_108
    refine ap Ptf_el_S_api_Cell Rep.flat_bare OL1 (Blk.has1 (R := Cel.rep) (by_ := 16) (q := nd) B_110 ⟨rfl, ⟨okI_iff.2 (by (try dsimp only); omega), okI_iff.2 (by (try dsimp only); omega)⟩⟩ (by decide)) rfl rfl (by have hwl := hlen1; simp only [List.length_cons, List.length_nil]; omega) (by have hwl := hlen1; simp only [List.length_cons, List.length_nil]; omega) (by omega) rfl fun w_113 A_114 c_115 m_116 O_117 g_118 n_119 => ?_
    have q_120 := m_116.size
    have z_113 := Ext.mod z_106 m_116 (fun q hq => Nat.le_trans (by omega) (OL1.lt q hq).1)
    have u_121 := fun q hq => (O_117.lt q hq).2
    have q_122 := m_116.size
    refine vl (as_ rfl) rfl <| nl <| nB <| nT <| sq <| rg <| ?_
    have HC1 := HC1.later x_108
    have HC1 := HC1.mod m_116 (fun hq => d_46 _ hq rfl)
    refine vl (ld rfl (HC1.all eF3 eF4)) rfl <| nl <| nT <| rg <| al rfl eF41 rfl rfl fun w_123 b_124 x_125 l_126 B_127 => ?_
    have q_128 := x_125.size
    have z_123 := Ext.tr z_113 x_125
    have q_129 := B_127.lt
    refine st (new := [.int .i64 nd.x, .int .i64 nd.y]) rfl rfl B_127 rfl eF4 rfl rfl rfl fun w_130 m_131 B_127 => ?_
    have q_133 := m_131.size
    have z_130 := Ext.mod z_123 m_131 (ge1 (by omega))
    have q_132 := m_131.size
    refine nl <| ?_
    have B_12 := B_12.later x_78
    have B_12 := B_12.mod m_84 (nm1 (by omega))
    have B_12 := B_12.later (Ext.tr x_88 x_100)
    have B_12 := B_12.mod m_103 (nm1 (by omega))
    have B_12 := B_12.later x_108
    have B_12 := B_12.mod m_116 (fun hq => d_43 _ hq rfl)
    have B_12 := B_12.later x_125
    have B_12 := B_12.mod m_131 (nm1 (by omega))
    have B_19 := B_19.later x_78
    have B_19 := B_19.mod m_84 (nm1 (by omega))
    have B_19 := B_19.later (Ext.tr x_88 x_100)
    have B_19 := B_19.mod m_103 (nm1 (by omega))
    have B_19 := B_19.later x_108
    have B_19 := B_19.mod m_116 (fun hq => d_44 _ hq rfl)
    have B_19 := B_19.later x_125
    have B_19 := B_19.mod m_131 (nm1 (by omega))
    have HB := HB.later x_100
    have HB := HB.mod m_103 (nm1 (by omega))
    have HB := HB.later x_108
    have HB := HB.mod m_116 (fun hq => d_45 _ hq rfl)
    have HB := HB.later x_125
    have HB := HB.mod m_131 (nm1 (by omega))
    have HF := HF.later x_100
    have HF := HF.mod m_103 (fun q hq h => by have hb := List.mem_singleton.1 h; exfalso; (exact hbFd q hq hb))
    have HF := HF.later x_108
    have HF := HF.mod m_116 (fun q hq h => by exfalso; (exact d_47 q h hq))
    have HF := HF.later x_125
    have HF := HF.mod m_131 (fun q hq h => by have hb := List.mem_singleton.1 h; exfalso; (have := u_72 q hq; have := uHF q hq; have := u_55 q hq; omega))
    have HC1 := HC1.later x_125
    have HC1 := HC1.mod m_131 (nm1 (by omega))
    have O_117 := O_117.later x_125
    have O_117 := O_117.mod m_131 (fk1 u_121 (by omega))
    exact nI _ _ ⟨nd, b_124, out ++ [nd], A_114, c_115, rfl, rfl, z_130, B_12, B_19, HB, HF, B_127, O_117, (by omega), (by omega), (by omega), (by omega), (fun q hq => by have := hbF q hq; omega), p3, hw2, (by omega), (fun q hq hb => by (exact Or.elim (g_118 q hq) (fun k_134 => by (exact d_43 q k_134 hb)) (fun k_134 => by omega))), (fun q hq hb => by (exact Or.elim (g_118 q hq) (fun k_135 => by (exact d_44 q k_135 hb)) (fun k_135 => by omega))), (fun q hq hb => by (exact Or.elim (g_118 q hq) (fun k_136 => by (exact d_45 q k_136 hb)) (fun k_136 => by omega))), (fun q hq hb => by (have := u_121 q hq; omega)), (fun q hq hb => by (exact Or.elim (g_118 q hq) (fun k_137 => by (exact d_47 q k_137 hb)) (fun k_137 => by (have := u_72 q hb; have := uHF q hb; have := u_55 q hb; omega))))⟩ (by omega) (.cons rfl (.cons rfl (.cons rfl (.cons rfl (.cons rfl (.cons rfl (.cons rfl (.cons rfl .nil))))))))
  ·exfalso
   have e4 : j = 4 := by omega
   rw [e4] at hno
   exact Fld.sides_ne p1 (prev_none hno)
 ·have hca : c1 = a := by simpa using h_58
  refine xt <| xT <| xK <| xB <| nT <| sq <| rg <| vl (mv rfl) rfl <| ca eF49 rfl rfl ((reverse_C _ _ w.heap.size out _ OL1 (Cel.all_ok OL1.has)).mono ?_)
  rintro e w_140 ⟨rfl, O_138, m_139⟩
  refine ⟨_, rfl, ?_⟩
  have q_141 := m_139.size
  have z_140 := Ext.mod z_48 m_139 (fun q hq => (OL1.lt q hq).1)
  refine nl <| nT <| sq <| ?_
  refine rd [(4, 0), (6, 0), (7, 0), (9, 0)] [0, 1, 2, 3, 4, 5, 6, 7, 8, 9, 10, 11, 12] (by kernel_rfl) (by kernel_rfl) ?_
  refine fw rfl rfl (fun _ => mv rfl) rfl <| fw rfl rfl (fun _ => mv rfl) rfl <| fw rfl rfl (fun _ => nc rfl) rfl <| fw rfl rfl (fun _ => fa eF34 rfl) rfl <| ?_
  have HB := HB.mod m_139 (fun hq => d_45 _ hq rfl)
  refine fq rfl rfl (fun _ x => ld rfl ((HB.later x).one eF35 rfl)) rfl <| fw rfl rfl (fun _ => mv rfl) rfl <| ?_
  have B_19 := B_19.mod m_139 (fun hq => d_44 _ hq rfl)
  refine fq rfl rfl (fun _ x => ld rfl ((B_19.later x).all eF3 eF4)) rfl <| fc rfl rfl eF33 rfl (fun _ x => pindex_any w f P F A pc cf c p far l b b _ (Ext.tr z_140 x) hf hP (HB.later x) (by first | omega | (dsimp only; omega))) rfl <| ?_
  have HF := HF.mod m_139 (fun q hq h => by exfalso; (exact d_47 q h hq))
  refine fw rfl rfl (fun _ => iA ((b.y * f.wide + b.x).toNat) Try.underlying22 eF36 rfl rfl (HF.has.adr (Nat.zero_lt_of_lt (show (b.y * f.wide + b.x).toNat < _ from (by have h_ := (fr_lt hf hpe.len hib).1; omega)))) (by omega) (by have h_ := (fr_lt hf hpe.len hib).1; omega)) rfl <| fq rfl rfl (fun _ x => ld rfl (Rep.SHas.one' hcI ((HF.later x).has.adh (Nat.zero_lt_of_lt (show (b.y * f.wide + b.x).toNat < _ from (by have h_ := (fr_lt hf hpe.len hib).1; omega)))) (hpe.get hf hib) rfl eF1)) rfl <| fw rfl rfl (fun _ => as_ rfl) rfl <| fw rfl rfl (fun _ => as_ rfl) rfl <| fw rfl rfl (fun _ => as_ rfl) rfl <| fn fun w_142 x_143 => ?_
  have q_144 := x_143.size
  have z_142 := Ext.tr z_140 x_143
  refine nT <| rt <| tR (.tmp rfl (.tmp rfl (.tmp rfl .nil))) <| ?_
  have O_138 := O_138.later x_143
  have hout : out = wayB f (frF f a b) a b := by rw [hca, wayB_self hFr] at hw1; simpa using hw1
  exact ⟨_, _, by rw [← hout, List.length_reverse]; rfl, by rw [← hout]; exact O_138, z_142⟩
end
section
open Go.RowKit
section
variable {f : Fld} {a b c x : Cel} {dl far : List Int} {d : Int}
def allC (f : Fld) : List Cel := (List.range f.high.toNat).flatMap fun (y : Nat) => (List.range f.wide.toNat).map fun (x : Nat) => (⟨(x : Int), (y : Int)⟩ : Cel)
theorem mem_allC (hc : f.isIn c = true) : c ∈ allC f := by
 unfold Fld.isIn at hc
 rw [Bool.and_eq_true] at hc
 have h1 := inB_true hc.1
 have h2 := inB_true hc.2
 unfold allC
 rw [List.mem_flatMap]
 refine ⟨c.y.toNat, List.mem_range.2 (by omega), List.mem_map.2 ⟨c.x.toNat, List.mem_range.2 (by omega), ?_⟩⟩
 obtain ⟨cx, cy⟩ := c
 simp only [Cel.mk.injEq] at h1 h2 ⊢
 omega
def certC (f : Fld) (a b : Cel) (dl far : List Int) (c : Cel) : Bool :=
 (decide (0 ≤ f.fr dl c) || decide (f.fr dl c = -1)) &&
 (!decide (0 ≤ f.fr dl c) || (f.ground c && ((decide (c = a) && decide (f.fr dl c = 0)) || (sidesC c).any fun p => decide (0 ≤ f.fr dl p) && decide (f.fr dl c = f.fr dl p + f.kost c)))) &&
 (!decide (0 ≤ f.fr dl c) || (f.adj c).all fun y => decide (0 ≤ f.fr dl y) && decide (f.fr dl y ≤ f.fr dl c + f.kost y)) &&
 decide (f.fr far c = if 0 ≤ f.fr dl c ∧ (f.fr dl b < 0 ∨ f.fr dl c + Fld.est b c ≤ f.fr dl b) then f.fr dl c else -1) &&
 decide (f.fr dl c ≤ 3 * (f.places.length : Int))
def certB (f : Fld) (a b : Cel) (dl far : List Int) : Bool := decide (far.length = f.places.length) && decide (f.fr dl a = 0) && (allC f).all (certC f a b dl far)
theorem cert (h : certB f a b dl far = true) : PEnd f a b far := by
 unfold certB at h
 simp only [Bool.and_eq_true, decide_eq_true_eq, List.all_eq_true] at h
 obtain ⟨⟨hlen, ha⟩, hall⟩ := h
 have at_ : ∀ c, f.isIn c = true → _ := fun c hc => hall c (mem_allC hc)
 unfold certC at at_
 simp only [Bool.and_eq_true, Bool.or_eq_true, Bool.not_eq_true', decide_eq_true_eq, decide_eq_false_iff_not, List.any_eq_true, List.all_eq_true] at at_
 have neg : ∀ c, f.fr dl c < 0 → f.fr dl c = -1 := fun c h => by
  cases hc : f.isIn c with
  | false => exact Fld.fr_out hc
  | true => have := (at_ c hc).1.1.1.1; omega
 have gr : ∀ c, 0 ≤ f.fr dl c → f.ground c = true ∧ ((c = a ∧ f.fr dl c = 0) ∨ ∃ p ∈ sidesC c, 0 ≤ f.fr dl p ∧ f.fr dl c = f.fr dl p + f.kost c) := fun c h => by
  obtain h1 := (at_ c (Fld.fr_isIn h)).1.1.1.2
  rcases h1 with h1 | ⟨h1, h2⟩
  ·exact absurd h h1
  ·exact ⟨h1, h2⟩
 have nx : ∀ c, 0 ≤ f.fr dl c → ∀ y ∈ f.adj c, 0 ≤ f.fr dl y ∧ f.fr dl y ≤ f.fr dl c + f.kost y := fun c h y hy => by
  rcases (at_ c (Fld.fr_isIn h)).1.1.2 with h1 | h1
  ·exact absurd h h1
  ·exact h1 y hy
 have fa : ∀ c, f.fr far c = if 0 ≤ f.fr dl c ∧ (f.fr dl b < 0 ∨ f.fr dl c + Fld.est b c ≤ f.fr dl b) then f.fr dl c else -1 := fun c => by
  cases hc : f.isIn c with
  | false => rw [Fld.fr_out hc, Fld.fr_out hc, if_neg (by omega)]
  | true => exact (at_ c hc).1.2
 have low : ∀ c d, Gra.Rch f.adj f.kost (fun s => s = a) c d → 0 ≤ f.fr dl c ∧ f.fr dl c ≤ d := fun c d r => by
  induction r with
  | start hs => subst hs; omega
  | step _ hy ih => have := nx _ ih.1 _ hy; omega
 have up : ∀ n : Nat, ∀ c, 0 ≤ f.fr dl c → (f.fr dl c).toNat = n → Gra.Rch f.adj f.kost (fun s => s = a) c (f.fr dl c) := by
  intro n
  induction n using Nat.strongRecOn with
  | ind n ih =>
   intro c hc hn
   obtain ⟨g, h1 | ⟨p, h1, h2, h3⟩⟩ := gr c hc
   ·rw [h1.2]; exact .start h1.1
   ·have := f.kost_bd (c := c)
    rw [h3]
    exact .step (ih (f.fr dl p).toNat (by omega) p h2 rfl) (Fld.mem_adj.2 ⟨Fld.sides_symm h1, g⟩)
 have isd : ∀ c, 0 ≤ f.fr dl c → Gra.IsD f.adj f.kost (fun s => s = a) c (f.fr dl c) := fun c hc => ⟨up _ c hc rfl, fun d r => (low c d r).2⟩
 have tob : ∀ D, Gra.IsD f.adj f.kost (fun s => s = a) b D → 0 ≤ f.fr dl b ∧ D = f.fr dl b := fun D hD => ⟨(low b D hD.1).1, hD.uniq (isd b (low b D hD.1).1)⟩
 have pos : ∀ c, 0 ≤ f.fr far c → 0 ≤ f.fr dl c ∧ (f.fr dl b < 0 ∨ f.fr dl c + Fld.est b c ≤ f.fr dl b) ∧ f.fr far c = f.fr dl c := fun c h => by
  rw [fa c] at h ⊢
  split at h
  ·rename_i hh; rw [if_pos hh]; exact ⟨hh.1, hh.2, rfl⟩
  ·omega
 refine ⟨hlen, ⟨fun c h => ?_, fun c h => ?_, fun c d hd hle => ?_, fun c h => ?_⟩, fun c => ?_, fun c h => (gr c (pos c h).1).1⟩
 ·rw [fa c] at h ⊢
  split at h
  ·omega
  ·rename_i hh; rw [if_neg hh]
 ·obtain ⟨h1, h2, h3⟩ := pos c h
  rw [h3]
  refine ⟨isd c h1, fun D hD => ?_⟩
  obtain ⟨h4, h5⟩ := tob D hD
  rw [h5]; omega
 ·have h1 := low c d hd.1
  have h2 := hd.uniq (isd c h1.1)
  have hco : f.fr dl b < 0 ∨ f.fr dl c + Fld.est b c ≤ f.fr dl b := by
   by_cases h3 : f.fr dl b < 0
   ·exact .inl h3
   ·right
    have := hle _ (isd b (by omega)); omega
  rw [fa c, if_pos ⟨h1.1, hco⟩, ← h2]
 ·obtain ⟨h1, h2, h3⟩ := pos c h
  rw [h3]
  obtain ⟨g, h4 | ⟨p, h4, h5, h6⟩⟩ := gr c h1
  ·exact .inl h4
  ·right
   have he := Fld.est_step b (Fld.sides_symm h4)
   have hk := f.kost_bd (c := c)
   have hp : f.fr far p = f.fr dl p := by rw [fa p, if_pos ⟨h5, by omega⟩]
   exact ⟨p, by rw [hp]; exact h5, Fld.mem_adj.2 ⟨Fld.sides_symm h4, g⟩, by rw [hp]; exact h6⟩
 ·by_cases h : 0 ≤ f.fr far c
  ·obtain ⟨h1, h2, h3⟩ := pos c h
   rw [h3]; exact (at_ c (Fld.fr_isIn h1)).2
  ·omega
end
theorem pfind_any (f : Fld) (a b : Cel) (P : Option Addr) (pc : Nat) (w : World) (hP : repI.SHas 8 w P pc f.places) :
  Calls Try.prog 19 #[.agg #[.int .i64 f.wide, .int .i64 f.high, .slice P f.places.length pc], .agg #[.int .i64 a.x, .int .i64 a.y], .agg #[.int .i64 b.x, .int .i64 b.y]] w (fun e w' => ∃ A c, e = .returned (.tuple #[.slice A (findP f a b).length c, .int .i64 (findK f a b), .int .i64 (findE f a b)]) ∧ Cel.rep.SOwn 35 16 w' w.heap.size (Rep.blkOf A) A c (findP f a b) ∧ Ext w w') := by
 by_cases he : findE f a b = 0
 ·rcases find_cases f a b with ⟨h1, h2⟩ | ⟨h1, h2, h3⟩ | ⟨h1, h2, h3, h4⟩ | ⟨h1, h2, h3, h4 | h4⟩
  ·rw [h2] at he; exact absurd he h1
  ·rw [h3] at he; exact absurd he h2
  ·rw [h4] at he; cases he
  ·rw [h4.2] at he; cases he
  ·unfold findP findK
   rw [if_pos he, if_pos he, he]
   exact pfind_ok f a b P pc w hP h1 h2 h3 h4.1
 ·unfold findP findK
  rw [if_neg he, if_neg he]
  exact (pfind_no f a b P pc w hP he).mono fun e w' h => ⟨none, 0, h.1, Rep.SOwn.nil _, h.2⟩
section
variable {f : Fld} {a b : Cel} {far : List Int}
theorem find_by (h : PEnd f a b far) (hf : f.chk = 0) (ha : f.ground a = true) (hb : f.ground b = true) (h0 : 0 ≤ f.fr far b) : findE f a b = 0 ∧ findK f a b = f.fr far b ∧ findP f a b = (wayB f (f.fr far) a b).reverse := by
 have h1 : 0 ≤ frF f a b b := by rw [← h.frE]; exact h0
 have he := find_ok hf ha hb h1
 refine ⟨he, ?_, ?_⟩
 ·unfold findK; rw [if_pos he, h.frE]
 ·unfold findP; rw [if_pos he, h.frE]
end
theorem find_small : findE ⟨2, 2, [0, 1, 0, 0]⟩ ⟨0, 0⟩ ⟨1, 1⟩ = 0 ∧ findK ⟨2, 2, [0, 1, 0, 0]⟩ ⟨0, 0⟩ ⟨1, 1⟩ = 4 ∧ findP ⟨2, 2, [0, 1, 0, 0]⟩ ⟨0, 0⟩ ⟨1, 1⟩ = [⟨0, 0⟩, ⟨0, 1⟩, ⟨1, 1⟩] := by
 obtain ⟨h1, h2, h3⟩ := find_by (f := ⟨2, 2, [0, 1, 0, 0]⟩) (a := ⟨0, 0⟩) (b := ⟨1, 1⟩) (far := [0, -1, 2, 4]) (cert (dl := [0, -1, 2, 4]) (by decide)) (by decide) (by decide) (by decide) (by decide)
 exact ⟨h1, h2.trans (by decide), h3.trans (by decide)⟩
end
section
open Go.RowKit
def Fld.clear (f : Fld) (c : Cel) : Bool := !(f.atV c == 1 || f.atV c == 2)
def bareC (f : Fld) (a b : Cel) : Bool := decide ((lineC a b).length < 3) || (((lineC a b).drop 1).take ((lineC a b).length - 1 - 1)).all f.clear
def seesE (f : Fld) (a b : Cel) : Int := if f.atE a ≠ 0 then f.atE a else f.atE b
def seesV (f : Fld) (a b : Cel) : Bool := if seesE f a b ≠ 0 then false else bareC f a b || bareC f b a
def seesR (f : Fld) (a b : Cel) : Value := .tuple #[.bool (seesV f a b), .int .i64 (seesE f a b)]
end
section
open Go.RowKit
def seenH (f : Fld) (c : Cel) (r : Int) : Nat := (min (f.high - 1) (c.y + r) - max 0 (c.y - r) + 1).toNat
def seenW (f : Fld) (c : Cel) (r : Int) : Nat := (min (f.wide - 1) (c.x + r) - max 0 (c.x - r) + 1).toNat
def seenAt (c : Cel) (r : Int) (k j : Nat) : Cel := ⟨max 0 (c.x - r) + (j : Int), max 0 (c.y - r) + (k : Int)⟩
def seenB (f : Fld) (c n : Cel) : Bool := bareC f c n || bareC f n c
def seenRow (f : Fld) (c : Cel) (r : Int) (k j : Nat) : List Cel := ((List.range j).map (seenAt c r k)).filter (seenB f c)
def seenTo (f : Fld) (c : Cel) (r : Int) (k : Nat) : List Cel := (List.range k).flatMap fun i => seenRow f c r i (seenW f c r)
def seenE (f : Fld) (c : Cel) (r : Int) : Int := if f.atE c ≠ 0 then f.atE c else if r < 0 ∨ 12 < r then 1 else 0
def seenL (f : Fld) (c : Cel) (r : Int) : List Cel := if seenE f c r ≠ 0 then [] else seenTo f c r (seenH f c r)
end
section
open Go.RowKit
theorem chunk_any (A : Option Addr) (len c n : Nat) (w : World) (hn : 1 ≤ n) :
  Calls Try.prog 85 #[.slice A len c, .int .i64 (n : Int)] w (fun e w' => ∃ b2 b3, e = .returned (.func (.func 93) #[] #[.pointer (some ⟨b2, 0, none⟩), .pointer (some ⟨b3, 0, none⟩)]) ∧ Blk w' b2 [.slice A len c] 22 (0, 0) ∧ Blk w' b3 [.int .i64 (n : Int)] 3 (0, 0) ∧ w.heap.size ≤ b2 ∧ b2 < b3 ∧ Ext w w') := by
 refine calls_W (n := 9) Try.func85 rfl rfl rfl ?_
 refine sq <| rg <| bx rfl rfl rfl rfl fun w_1 b_2 x_3 l_4 B_5 => ?_
 have q_6 := x_3.size
 have z_1 := Ext.tr (Ext.rf w) x_3
 have q_7 := B_5.lt
 refine bx rfl rfl rfl rfl fun w_8 b_9 x_10 l_11 B_12 => ?_
 have q_13 := x_10.size
 have z_8 := Ext.tr z_1 x_10
 have q_14 := B_12.lt
 refine vl (as_ rfl) rfl <| nl <| nT <| sq <| sq <| rg <| vl (ld rfl (B_12.one eF1 rfl)) rfl <| vl (blt rfl rfl) rfl <| nl <| nT <| ?_
 have h_15 : (decide ((n : Int) < 1)) = false := by rw [decide_eq_false_iff_not]; omega
 refine cF (by rw [← h_15]; rfl) <| sk <| nT <| sq <| rg <| vl (mf rfl rfl) rfl <| vl (as_ rfl) rfl <| nl <| nT <| rt <| tR (.tmp rfl .nil) <| ?_
 have B_5 := B_5.later x_10
 exact ⟨b_2, b_9, rfl, B_5, B_12, by omega, by omega, z_8⟩
theorem chunk_in (q n len c b2 b3 : Nat) (A : Option Addr) (w0 : World) (hn : 1 ≤ n) (hlen : len = q * n) (hlc : len ≤ c) (hcm : c ≤ 9223372036854775807) (m : Nat) (B20 : Blk w0 b2 [.slice A len c] 22 (0, 0)) (B30 : Blk w0 b3 [.int .i64 (n : Int)] 3 (0, 0)) :
  SeqStopsK (fen none) m Try.prog 93 #[.pointer (some ⟨b2, 0, none⟩), .pointer (some ⟨b3, 0, none⟩)] (fun k : Fin q => #[.slice (sA A (k.1 * n + n) (k.1 * n) 1) n n]) (Keep2 b2 b3) (fun xs => xs = List.finRange q) (fun _ => True) q w0 := by
 intro l J Jx W hb hab habx hY hj0
 have B2 := B20.keepc (hb.block b2 B20.lt)
 have B3 := B30.keepc (hb.block b3 B30.lt)
 have hJ : JAt W.heap.size J [] W := ⟨hab, hj0⟩
 refine Rd.calls_I (n := 31) Try.func93 rfl rfl rfl ?_
 refine Rd.sq <| Rd.rg <| vl (as_ rfl) rfl <| nl <| Rd.nT <| Rd.bk <| ?_
 refine Rd.lp (fun mI EI wI => ∃ k : Nat, EI = [(0, .func (.yield l) #[] #[]), (1, .pointer (some ⟨b2, 0, none⟩)), (2, .pointer (some ⟨b3, 0, none⟩)), (4, .int .i64 (((k * n : Nat) : Int)))] ∧ mI = q - k ∧ True ∧ Blk wI b2 [.slice A len c] 22 (0, 0) ∧ Blk wI b3 [.int .i64 (n : Int)] 3 (0, 0) ∧ JAt W.heap.size J ((List.finRange q).take k) wI ∧ (k ≤ q)) _ _ ⟨0, rfl, rfl, trivial, B2, B3, (hJ : JAt W.heap.size J [] _), by omega⟩ (.cons rfl (.cons rfl (.cons rfl (.cons (loI rfl (by first | omega | rfl | (simp <;> omega))) .nil)))) ?_
 rintro m_2 E_3 w_1 ⟨k, rfl, rfl, z_1, B2, B3, hJ, hk⟩
 have q_4 := B2.lt
 have q_5 := B3.lt
 have hc := k
 refine Rd.sq <| Rd.sq <| Rd.rg <| vl (mv rfl) rfl <| vl (ld rfl (B2.one eF35 rfl)) rfl <| vl (ln Try.underlying22 rfl) rfl <| vl (blt rfl rfl) rfl <| nl <| Rd.nT <| ?_
 refine Rd.clt rfl (fun h_6 => ?_) (fun h_6 => ?_)
 ·have hkq : k < q := Nat.lt_of_mul_lt_mul_right (a := n) (by omega)
  have hkn : k * n + n ≤ q * n := by rw [← Nat.succ_mul]; exact Nat.mul_le_mul_right _ hkq
  refine Rd.sk <| Rd.nT <| Rd.sq <| Rd.bk <| Rd.sq <| ?_
  refine Rd.rd [(0, 0), (1, 0)] [0, 1, 2, 3, 4, 5, 6] (by kernel_rfl) (by kernel_rfl) ?_
  refine fq rfl rfl (fun _ x => ld rfl ((B3.later x).one eF1 rfl)) rfl <| fq rfl rfl (fun _ x => ld rfl ((B2.later x).one eF35 rfl)) rfl <| fw rfl rfl (fun _ => mv rfl) rfl <| fw rfl rfl (fun _ => sL (k * n) Try.underlying22 eF36 rfl rfl rfl (by omega)) rfl <| fw rfl rfl (fun _ => ln Try.underlying22 rfl) rfl <| fw rfl rfl (fun _ => mn rfl rfl) rfl <| fw rfl rfl (fun _ => as_ rfl) rfl <| fn fun w_7 x_8 => ?_
  have q_9 := x_8.size
  refine Rd.nT <| Rd.sq <| Ri.rg <| Ri.vl (mv rfl) rfl <| ?_
  have B2 := B2.later x_8
  refine Ri.vl (ld rfl (B2.one eF35 rfl)) rfl <| Ri.vl (mv rfl) rfl <| Ri.vl (mv rfl) rfl <| Ri.vl (mv rfl) rfl <| Ri.vl (bad rfl rfl (inI (by omega))) rfl <| Ri.vl (mv rfl) rfl <| Ri.vl (mv rfl) rfl <| Ri.vl (bad rfl rfl (inI (by omega))) rfl <| Ri.vl (sJ (k * n) (k * n + n) n Try.underlying22 eF36 rfl rfl rfl rfl rfl (by omega) (by omega) (by omega) (by omega) (by omega)) rfl <| ?_
  have B3 := B3.later x_8
  have hJ := hJ.later x_8
  refine Ri.yd rfl rfl rfl (ymono (hY _ (⟨k, hkq⟩ : Fin q) _ hJ.at_ (by rw [List.length_take, List.length_finRange]; omega)) ?_)
  rintro e wy hres
  obtain ⟨bq, rfl, h1, h2⟩ := yres hres
  refine ⟨_, rfl, ?_⟩
  replace h1 : bq = true → JAt W.heap.size J ((List.finRange q).take k ++ [⟨k, hkq⟩]) wy ∧ Keep2 b2 b3 _ wy := fun h => ⟨⟨hJ.ab, (h1 h).1⟩, (h1 h).2⟩
  refine Ri.vl (nt rfl) rfl <| Ri.nl <| Rd.nT <| ?_
  refine Rd.cb rfl (fun h_10 => ?_) (fun h_10 => ?_)
  ·refine Rd.rt <| tB <| Rd.tT <| tK <| tB <| tR .nil <| ?_
   exact ⟨⟨_, rfl⟩, .inr ⟨_, trivial, h2 (by simpa using h_10)⟩⟩
  ·obtain ⟨hJ2, hk2⟩ := h1 (by simpa using h_10)
   have B2 := B2.keepc hk2.1
   have B3 := B3.keepc hk2.2
   refine Rd.sk <| Rd.nB <| Rd.nT <| Rd.rg <| vl (mv rfl) rfl <| vl (ld rfl (B3.one eF1 rfl)) rfl <| vl (bad rfl rfl (inI (by omega))) rfl <| vl (as_ rfl) rfl <| nl <| ?_
   exact Rd.nI _ _ ⟨k + 1, rfl, rfl, trivial, B2, B3, (by rw [← fin_take hkq]; exact hJ2), by omega⟩ (by omega) (.cons rfl (.cons rfl (.cons rfl (.cons (loI rfl (by rw [Nat.succ_mul]; omega)) .nil))))
 ·have hkq : k = q := Nat.le_antisymm hk (Nat.le_of_mul_le_mul_right (c := n) (by omega) hn)
  refine Rd.xt <| Rd.xT <| xK <| Rd.xB <| Rd.ne <| tR .nil <| ?_
  exact ⟨⟨_, rfl⟩, .inl ⟨_, rfl, by have := hJ.at_; rwa [hkq, List.take_of_length_le (by rw [List.length_finRange]; omega)] at this⟩⟩
end
section
open Go.RowKit
def repY : Rep UInt8 := Rep.flat 1 (fun b => [.int .u8 (b.toNat : Int)]) (fun _ => True) (fun _ u => ∃ n : Int, u = .int .u8 n) (fun _ => rfl) (by intro a u hu; simp at hu; subst hu; rfl) (by
 intro a j u hu
 cases j with
 | zero => simp at hu; exact ⟨_, hu.symm⟩
 | succ j => simp at hu)
theorem info_u8 : (Try.prog.info? 5).map (fun i => (i.zero, i.size, i.bytes)) = some (some (.int .u8 0), 1, 1) := by kernel_rfl
theorem raw0Y : ∀ (j : Nat) u, (Value.int .u8 0).cells[j]? = some u → repY.raw j u := by
 intro j u hu
 have hu : (#[(.int .u8 0 : Value)] : Array Value)[j]? = some u := hu
 match j, hu with
 | 0, hu => exact ⟨0, (Option.some.inj hu).symm⟩
 | j + 1, hu => simp at hu
theorem repY_at {by_ : Nat} {w : World} {A : Option Addr} {c : Nat} {l : List UInt8} (h : repY.SHas by_ w A c l) (h0 : 0 < l.length) : ∃ b o, A = some ⟨b, o, none⟩ ∧ ∀ (i : Nat) (a : UInt8), l[i]? = some a → w.cell? ⟨b, o + i, none⟩ = some (.int .u8 (a.toNat : Int)) := by
 obtain ⟨b, o, e, hc⟩ := h.at_ h0
 refine ⟨b, o, e, fun i a ha => ?_⟩
 obtain ⟨es, ⟨rfl, _⟩, hj⟩ := hc i a ha
 have := hj 0 _ rfl
 simpa [repY, Rep.flat] using this
def bytesS (l : List UInt8) : ByteArray := ⟨l.toArray⟩
section
variable {P : Program} {n : Nat} {E E' : List (Nat × Value)} {w : World} {d : Option Nat} {ty : TypeId} {pos : String} {af : Array Edge} {g : Option (Nat × Bool)} {x y z u : Operand} {t t2 : TypeId}
theorem si {s : ByteArray} {k : IntKind} {i : Int} {v : UInt8} (ht : P.underlying t = some .string) (hx : ev E x = some (.string s)) (hy : ev E y = some (.int k i)) (h0 : 0 ≤ i) (hv : s.data.toList[i.toNat]? = some v) :
  Runs P E ⟨d, .index t x y, ty, pos, af, g⟩ w (.int .u8 (v.toNat : Int)) w := fun n a ha => by
 have hlt := (List.getElem?_eq_some_iff.1 hv).1
 have hsz : i.toNat < s.size := by simpa using hlt
 have hi : 0 ≤ i ∧ i < s.size := by omega
 have hr := run_index_string (P := P) w t s k i ht
 rw [dif_pos hi] at hr
 have e : (s[i.toNat]'hsz) = v := by
  have := (List.getElem?_eq_some_iff.1 hv).2
  simpa [ByteArray.getElem_eq_getElem_data] using this
 simp only [execOp, ha.ev hx, ha.ev hy, Sem.run_bind, hr, Result.andThen_ok, Sem.run_pure, e]
theorem cvB {e : TypeId} {A : Option Addr} {c : Nat} {l : List UInt8} {by_ : Nat} (hs : P.underlying t = some (.slice e)) (he : P.underlying e = some (.int .u8)) (hd : P.underlying t2 = some .string) (h : repY.SHas by_ w A c l) (hx : ev E x = some (.slice A l.length c)) :
  Runs P E ⟨d, .convert t t2 x, ty, pos, af, g⟩ w (.string (bytesS l)) w := fun n a ha => by
 have hr : (convert t t2 (.slice A l.length c)).run P w = .ok (.string (bytesS l)) w := by
  cases A with
  | none =>
   have hc : c = 0 := h.2.2.2.1 rfl
   have hl : l = [] := List.eq_nil_of_length_eq_zero (by have := h.1; omega)
   subst hl; subst hc
   show (convert t t2 (.slice none 0 0)).run P w = _
   rw [run_convert_bytes_string w t t2 e none 0 0 hs he hd]
   simp [Conv.bytesToString]
   rfl
  | some p =>
   cases hl : l with
   | nil =>
    have : ∀ j (hj : j < ([] : List UInt8).length), w.cell? (p.add j) = some (.int .u8 (([] : List UInt8)[j].toNat : Int)) := fun j hj => nomatch hj
    exact run_convert_bytes_back w t t2 e p c [] hs he hd this
   | cons b r =>
    rw [← hl]
    obtain ⟨b, o, rfl', hc⟩ := repY_at h (by rw [hl]; simp)
    injection rfl' with rfl'
    subst rfl'
    exact run_convert_bytes_back w t t2 e _ c l hs he hd fun j hj => by
     have := hc j _ (List.getElem?_eq_getElem hj)
     have e : (⟨b, o, none⟩ : Addr).add j = ⟨b, o + j, none⟩ := by
      unfold Addr.add
      by_cases h0 : j = 0
      ·subst h0; simp
      ·simp [h0]
     rw [e]; exact this
 simp only [execOp, ha.ev hx, Sem.run_bind, hr, Result.andThen_ok, Sem.run_pure]
theorem str_beq (p q : ByteArray) : (p == q) = decide (p = q) := by
 rw [Bool.eq_iff_iff, decide_eq_true_eq]
 constructor
 ·intro h
  obtain ⟨a⟩ := p
  obtain ⟨b⟩ := q
  have : a = b := by simpa using (show (a == b) = true from h)
  rw [this]
 ·rintro rfl
  obtain ⟨a⟩ := p
  show (a == a) = true
  simp
theorem bnT {p q : ByteArray} (ht : P.underlying t = some .string) (hx : ev E x = some (.string p)) (hy : ev E y = some (.string q)) : Runs P E ⟨d, .binOp .neq t x y t2, ty, pos, af, g⟩ w (.bool (!decide (p = q))) w := fun n a ha => by
 have : (eqGuard .neq t x y (.string p) (.string q)).run P w = .ok () w := by cases x <;> cases y <;> rfl
 have h2 : (binOp .neq t (.string p) (.string q)).run P w = .ok (.bool (!decide (p = q))) w := by
  simp only [binOp, Op.stringOp, Sem.run_pure]; simp [bne, str_beq]; rw [← beq_toListBytes, str_beq]
 simp only [execOp, ha.ev hx, ha.ev hy, Sem.run_bind, this, h2, Result.andThen_ok, Sem.run_pure]
theorem lnS {s : ByteArray} (ht : P.underlying t = some .string) (hx : ev E x = some (.string s)) (hs : (s.size : Int) ≤ 9223372036854775807) : Runs P E ⟨d, .call { callee := .builtin .len, args := #[x], argTypes := #[t] }, ty, pos, af, g⟩ w (.int .i64 (s.size : Int)) w :=
 bi (vs := [.string s]) (by simp only [evs, hx]) fun cs => by
  have := run_len_string (P := P) w t ty s ht
  simp only [builtin, Sem.run_bind, this, Result.andThen_ok, Sem.run_pure]; rfl
end
end
section
open Go.RowKit
theorem FldW_el_S_uint8 : ElT Try.prog repY 101 5 1 := ElT.mk_ (z := .int .u8 0) (k := 1) Try.underlying101 info_u8 rfl rfl (by decide) (fun j u h => raw0Y j u h)
def sgn8 (p : Int) : UInt8 := ([46, 35, 116, 111] : List UInt8).getD p.toNat 0
def rowT (f : Fld) (k j : Nat) : List UInt8 := (((f.places.drop (k * f.wide.toNat)).take (k * f.wide.toNat + f.wide.toNat - k * f.wide.toNat)).take j).map sgn8
def txt (f : Fld) (pre : List (Fin f.high.toNat)) : List UInt8 := pre.flatMap fun k => rowT f k.1 f.wide.toNat ++ [10]
theorem txt_app (f : Fld) (pre : List (Fin f.high.toNat)) (x : Fin f.high.toNat) : txt f (pre ++ [x]) = txt f pre ++ rowT f x.1 f.wide.toNat ++ [10] := by
 unfold txt; rw [List.flatMap_append]; simp
theorem rowT_0 (f : Fld) (k : Nat) : rowT f k 0 = [] := rfl
theorem rowT_len (f : Fld) (k j : Nat) : (rowT f k j).length ≤ j := by unfold rowT; rw [List.length_map, List.length_take]; omega
theorem chunk_anyZ (A : Option Addr) (len c : Nat) (i : Int) (w : World) (hi : 1 ≤ i) : Calls Try.prog 85 #[.slice A len c, .int .i64 i] w (fun e w' => ∃ b2 b3, e = .returned (.func (.func 93) #[] #[.pointer (some ⟨b2, 0, none⟩), .pointer (some ⟨b3, 0, none⟩)]) ∧ Blk w' b2 [.slice A len c] 22 (0, 0) ∧ Blk w' b3 [.int .i64 (i.toNat : Int)] 3 (0, 0) ∧ w.heap.size ≤ b2 ∧ b2 < b3 ∧ Ext w w') := by
 have e : i = (i.toNat : Int) := by omega
 have := chunk_any A len c i.toNat w (by omega)
 rw [← e] at this
 rw [← e]; exact this
theorem Fld.mul_len {f : Fld} (h : f.chk = 0) : f.places.length = f.high.toNat * f.wide.toNat := by
 obtain ⟨y1, y2, y3, y4, y5, y6⟩ := Fld.good h
 have e1 : f.wide = (f.wide.toNat : Int) := by omega
 have e2 : f.high = (f.high.toNat : Int) := by omega
 rw [e1, e2] at y5
 have : (f.places.length : Int) = ((f.high.toNat * f.wide.toNat : Nat) : Int) := by rw [y5, Int.natCast_mul, Int.mul_comm]
 omega
theorem txt_len (f : Fld) : ∀ pre : List (Fin f.high.toNat), (txt f pre).length ≤ pre.length * (f.wide.toNat + 1)
 | [] => Nat.zero_le _
 | x :: r => by
  have h1 := txt_len f r
  have h2 := rowT_len f x.1 f.wide.toNat
  have e : txt f (x :: r) = rowT f x.1 f.wide.toNat ++ [10] ++ txt f r := rfl
  rw [e, List.length_cons, Nat.succ_mul]
  simp only [List.length_append, List.length_cons, List.length_nil]
  omega
theorem txt_small (f : Fld) (pre : List (Fin f.high.toNat)) (h : pre.length < f.high.toNat) (y1 : 1 ≤ f.wide) (y2 : f.wide ≤ 40) (y3 : 1 ≤ f.high) (y4 : f.high ≤ 40) : (txt f pre).length ≤ 1640 ∧ f.wide.toNat ≤ 40 := by
 have h1 := txt_len f pre
 have h2 : pre.length * (f.wide.toNat + 1) ≤ 40 * 41 := Nat.mul_le_mul (by omega) (by omega)
 omega
theorem place_at2 {f : Fld} {x j n : Nat} (h : ∀ p ∈ f.places, 0 ≤ p ∧ p ≤ 3) (hn : n = f.wide.toNat) (hj : x * n + j < f.places.length) (hjn : j < n) : ∃ p : Int, ((f.places.drop (x * f.wide.toNat)).take (x * f.wide.toNat + f.wide.toNat - x * f.wide.toNat)).getD j 0 = p ∧ 0 ≤ p ∧ p ≤ 3 := by
 subst hn
 refine ⟨_, rfl, ?_⟩
 have e : ((f.places.drop (x * f.wide.toNat)).take (x * f.wide.toNat + f.wide.toNat - x * f.wide.toNat)).getD j 0 = f.places[x * f.wide.toNat + j] := by
  rw [List.getD_eq_getElem?_getD, List.getElem?_take, if_pos (by omega), List.getElem?_drop, List.getElem?_eq_getElem hj]; rfl
 rw [e]
 exact h _ (List.getElem_mem hj)
theorem place_get {q : Int} (h : ∃ p : Int, q = p ∧ 0 ≤ p ∧ p ≤ 3) : 0 ≤ q ∧ (bytesS [46, 35, 116, 111]).data.toList[q.toNat]? = some (sgn8 q) := by
 obtain ⟨p, rfl, h0, h3⟩ := h
 have : q = 0 ∨ q = 1 ∨ q = 2 ∨ q = 3 := by omega
 rcases this with rfl | rfl | rfl | rfl <;> exact ⟨by decide, rfl⟩
theorem rowT_succ {f : Fld} {x j : Nat} (hj : j < ((f.places.drop (x * f.wide.toNat)).take (x * f.wide.toNat + f.wide.toNat - x * f.wide.toNat)).length) : rowT f x (j + 1) = rowT f x j ++ [sgn8 (((f.places.drop (x * f.wide.toNat)).take (x * f.wide.toNat + f.wide.toNat - x * f.wide.toNat)).getD j 0)] := by
 unfold rowT
 rw [List.take_succ_eq_append_getElem hj, List.map_append, List.getD_eq_getElem?_getD, List.getElem?_eq_getElem hj]; rfl
def fldText (f : Fld) : ByteArray := if f.chk ≠ 0 then bytesS [] else bytesS (txt f (List.finRange f.high.toNat))
theorem write_bad {f : Fld} (h : ¬ f.chk = 0) : fldText f = bytesS [] := by unfold fldText; rw [if_pos h]
theorem write_ok {f : Fld} (h : f.chk = 0) : fldText f = bytesS (txt f (List.finRange f.high.toNat)) := by unfold fldText; rw [if_neg (by simpa using h)]
theorem write_any (f : Fld) (A : Option Addr) (c : Nat) (w : World) (hP : repI.SHas 8 w A c f.places) :
  Calls Try.prog 65 #[.agg #[.int .i64 f.wide, .int .i64 f.high, .slice A f.places.length c]] w (fun e w' => e = .returned (.tuple #[.string (fldText f), .int .i64 f.chk]) ∧ Ext w w') := by
 refine Rd.calls_W (m := 5) (n := 37) Try.func65 rfl rfl rfl ?_
 refine Rd.sq <| Rd.rg <| bx rfl rfl rfl rfl fun w_1 b_2 x_3 l_4 B_5 => ?_
 have q_6 := x_3.size
 have z_1 := Ext.tr (Ext.rf w) x_3
 have q_7 := B_5.lt
 refine vl (as_ rfl) rfl <| vl (as_ rfl) rfl <| nl <| Rd.nT <| Rd.sq <| Rd.sq <| Rd.rg <| vl (ld rfl (B_5.all eF22 eF23)) rfl <| ca eF50 rfl rfl ((fldCheck f A c _ (hP.keep z_1)).mono ?_)
 rintro e w_8 ⟨rfl, x_9⟩
 refine ⟨_, rfl, ?_⟩
 have q_10 := x_9.size
 have z_8 := Ext.tr z_1 x_9
 refine vl (as_ rfl) rfl <| nl <| Rd.nT <| Rd.sq <| Rd.rg <| vl (mv rfl) rfl <| vl (bne rfl rfl) rfl <| nl <| Rd.nT <| ?_
 refine Rd.cne rfl (fun h_11 => ?_) (fun h_11 => ?_)
 ·refine Rd.sq <| Rd.rg <| vl (mv rfl) rfl <| vl (as_ rfl) rfl <| vl (as_ rfl) rfl <| nl <| Rd.nT <| Rd.rt <| Rd.tT <| Rd.tR (.tmp rfl (.tmp rfl .nil)) <| ?_
  exact ⟨by rw [write_bad h_11]; rfl, z_8⟩
 ·obtain ⟨y1, y2, y3, y4, y5, y6⟩ := Fld.good h_11
  have hpl := Fld.len_le h_11
  have hlen := Fld.mul_len h_11
  refine Rd.sk <| Rd.nT <| Rd.sq <| Rd.rg <| al rfl eF51 rfl rfl fun w_12 b_13 x_14 l_15 B_16 => ?_
  have q_17 := x_14.size
  have z_12 := Ext.tr z_8 x_14
  have q_18 := B_16.lt
  refine nl <| Rd.nT <| Rd.sq <| Rd.sq <| Rd.rg <| vl (fa eF45 rfl) rfl <| ?_
  have B_5 := B_5.later (Ext.tr x_9 x_14)
  refine vl (ld rfl (B_5.one eF35 rfl)) rfl <| vl (fa eF21 rfl) rfl <| vl (ld rfl (B_5.one eF1 rfl)) rfl <| ca eF52 rfl rfl ((chunk_anyZ _ _ _ f.wide _ (by omega)).mono ?_)
  rintro e w_19 ⟨b2, b3, rfl, C2, C3, l2, l3, x_20⟩
  refine ⟨_, rfl, ?_⟩
  have q_21 := x_20.size
  have z_19 := Ext.tr z_12 x_20
  have q2 := C2.lt
  have q3 := C3.lt
  refine nl <| Rd.nT <| Rd.bk <| ?_
  have B_16 := B_16.later x_20
  refine Rd.rf (enc := (fun k : Fin f.high.toNat => .slice (sA A (k.1 * f.wide.toNat + f.wide.toNat) (k.1 * f.wide.toNat) 1) f.wide.toNat f.wide.toNat)) rfl eF53 (chunk_in f.high.toNat f.wide.toNat f.places.length c b2 b3 A _ (by omega) hlen (hP.1) hP.2.1 _ C2 C3) (by omega) (by omega) (Ext.rf _) (by decide) rfl rfl (fun pre W => ∃ Ao : Option Addr, ∃ co : Nat, Blk W b_13 [.slice Ao ((txt f pre).length) co] 101 (0, 0) ∧ repY.SOwn 5 1 W w_19.heap.size (Rep.blkOf Ao) Ao co (txt f pre) ∧ Mod [b_13] w_19 W) (by rintro s_ W1_ W2_ S_ ⟨Ao, co, B5, OO, z_⟩ m_ hS_; exact ⟨Ao, co, B5.mod m_ (fun hq => (hS_ _ hq).2 _ _ _ B5), OO.mod m_ (fun q hq hs => by obtain ⟨_, _, _, hc⟩ := OO.cellsAt q hq; exact (hS_ q hs).2 _ _ _ hc), z_.md m_ (fun q hq => .inr (hS_ q hq).1)⟩) ⟨none, 0, B_16, Rep.SOwn.nil _, Mod.rf _ _⟩ ?_ ?_
  ·intro l_ pre x wB hI_ hlen_
   obtain ⟨Ao, co, B5, OO, zB⟩ := hI_
   have hzb : ∀ q ∈ [b_13], w.heap.size ≤ q := fun q hq => by rw [List.mem_singleton.1 hq]; omega
   have hKF : KF w_19.heap.size wB wB := KF.rf _ _
   have q_22 := zB.size
   have q_23 := B5.lt
   have u_24 := fun q hq => (OO.lt q hq).2
   have lo_25 := fun q hq => (OO.lt q hq).1
   have hx := x.2
   have hxm : x.1 * f.wide.toNat + f.wide.toNat ≤ f.high.toNat * f.wide.toNat := by rw [← Nat.succ_mul]; exact Nat.mul_le_mul_right _ hx
   have htl := txt_len f pre
   have hpre : pre.length < f.high.toNat := hlen_
   have hpm := txt_small f pre hpre y1 y2 y3 y4
   refine Rd.bk <| Rd.sq <| Rd.sq <| Rd.rg <| vl (mv rfl) rfl <| vl (ln Try.underlying22 rfl) rfl <| vl (mv rfl) rfl <| nl <| Rd.nT <| Rd.bk <| ?_
   refine Rd.lp (fun mI EI wI => ∃ j : Nat, ∃ Aj : Option Addr, ∃ cj : Nat, EI = [(2, .string (bytesS [])), (3, .int .i64 0), (5, .pointer (some ⟨b_13, 0, none⟩)), (6, .slice (sA A (x.1 * f.wide.toNat + f.wide.toNat) (x.1 * f.wide.toNat) 1) f.wide.toNat f.wide.toNat), (20, .slice (sA A (x.1 * f.wide.toNat + f.wide.toNat) (x.1 * f.wide.toNat) 1) f.wide.toNat f.wide.toNat), (21, .int .i64 (f.wide.toNat : Int)), (22, .int .i64 (j : Int))] ∧ mI = f.wide.toNat - j ∧ Mod [b_13] w_19 wI ∧ KF w_19.heap.size wB wI ∧ Blk wI b_13 [.slice Aj (((txt f pre ++ rowT f x.1 j)).length) cj] 101 (0, 0) ∧ repY.SOwn 5 1 wI w_19.heap.size (Rep.blkOf Aj) Aj cj (txt f pre ++ rowT f x.1 j) ∧ (j ≤ f.wide.toNat) ∧ (∀ q ∈ Rep.blkOf Aj, q = b_13 → False)) _ _ ⟨0, Ao, co, rfl, rfl, zB, hKF, (by rw [rowT_0, List.append_nil]; exact B5), (by rw [rowT_0, List.append_nil]; exact OO), by omega, (fun q hq hb => by (have := lo_25 q hq; omega))⟩ (.cons rfl (.cons rfl (.cons rfl (.cons rfl (.cons rfl (.cons rfl (.cons (loI rfl (by first | omega | rfl | (simp <;> omega))) .nil))))))) ?_
   rintro m_28 E_29 w_27 ⟨j, Aj, cj, rfl, rfl, z_27, hKF, B6, OJ, hj, d_26⟩
   have q_30 := z_27.size
   have q_31 := B6.lt
   have u_32 := fun q hq => (OJ.lt q hq).2
   have lo_33 := fun q hq => (OJ.lt q hq).1
   have hrl := rowT_len f x.1 j
   have hrow : ((f.places.drop (x.1 * f.wide.toNat)).take (x.1 * f.wide.toNat + f.wide.toNat - x.1 * f.wide.toNat)).length = f.wide.toNat := by rw [List.length_take, List.length_drop]; omega
   refine Rd.sq <| Rd.rg <| vl (blt rfl rfl) rfl <| nl <| Rd.nT <| Rd.sq <| ?_
   refine Rd.clt rfl (fun h_34 => ?_) (fun h_34 => ?_)
   ·have hj2 := place_at2 (f := f) (j := j) y6 (x := x.1) (n := f.wide.toNat) (by omega) (by omega) (by omega)
    refine Rd.sk <| Rd.nT <| Rd.sq <| Rd.bk <| Rd.sq <| Rd.rg <| vl (iA j Try.underlying22 eF36 rfl rfl (((hP.keep (Ext.mod z_19 z_27 hzb)).chunk (x.1 * f.wide.toNat) (x.1 * f.wide.toNat + f.wide.toNat) (by omega) (by omega)).adr (Nat.zero_lt_of_lt (show j < _ from (by rw [List.length_take, List.length_drop]; omega)))) rfl (by omega)) rfl <| vl (ld rfl (Rep.SHas.one' hcI (((hP.keep (Ext.mod z_19 z_27 hzb)).chunk (x.1 * f.wide.toNat) (x.1 * f.wide.toNat + f.wide.toNat) (by omega) (by omega)).adh (Nat.zero_lt_of_lt (show j < _ from (by rw [List.length_take, List.length_drop]; omega)))) (get_d (l := (f.places.drop (x.1 * f.wide.toNat)).take (x.1 * f.wide.toNat + f.wide.toNat - x.1 * f.wide.toNat)) (u := 0) (by rw [List.length_take, List.length_drop]; omega)) rfl eF1)) rfl <| vl (as_ rfl) rfl <| nl <| Rd.nT <| ?_
    refine Rd.rd [(0, 0), (3, 2), (4, 3), (5, 3)] [0, 1, 2, 3, 4, 5] (by kernel_rfl) (by kernel_rfl) ?_
    refine fq rfl rfl (fun _ x => ld rfl ((B6.later x).one eF54 rfl)) rfl <| fw rfl rfl (fun _ => mv rfl) rfl <| fw rfl rfl (fun _ => si Try.underlying9 rfl rfl (place_get hj2).1 (place_get hj2).2) rfl <| fx rfl rfl rfl fun w_35 x_36 Q hK => bs (e := 5) (cs := [.int .u8 (((sgn8 (((f.places.drop (x.1 * f.wide.toNat)).take (x.1 * f.wide.toNat + f.wide.toNat - x.1 * f.wide.toNat)).getD j 0)).toNat : Int))]) rfl (fun _ => by kernel_rfl) rfl fun w_37 b_38 x_39 l_40 B_41 => hK _ _ ⟨Ext.tr x_36 x_39, ?_⟩
    have q_42 := x_36.size
    have z_35 := z_27.trans (Mod.of_ext x_36)
    have q_43 := x_39.size
    have z_37 := z_35.trans (Mod.of_ext x_39)
    have q_44 := B_41.lt
    have OJ := OJ.later (Ext.tr x_36 x_39)
    have pc_47 := OJ
    refine fb rfl rfl rfl fun w_45 x_46 Q hK => ap FldW_el_S_uint8 Rep.flat_bare (OJ.later x_46) ((Blk.has1 (R := repY) (by_ := 1) (q := (sgn8 (((f.places.drop (x.1 * f.wide.toNat)).take (x.1 * f.wide.toNat + f.wide.toNat - x.1 * f.wide.toNat)).getD j 0))) B_41 ⟨rfl, trivial⟩ (by decide)).keep x_46) rfl rfl (by simp only [List.length_append, List.length_cons, List.length_nil]; omega) (by simp only [List.length_append, List.length_cons, List.length_nil]; omega) (by have := x_46.size; omega) rfl fun w_48 A_49 c_50 m_51 O_52 g_53 n_54 => hK _ _ ?_
    have q_55 := x_46.size
    have z_45 := z_37.trans (Mod.of_ext x_46)
    have q_56 := m_51.size
    have z_48 := z_45.md m_51 (fun q hq => .inr ((fun q hq => Nat.le_trans (by omega) ((OJ.later x_46).lt q hq).1) q hq))
    have u_57 := fun q hq => (O_52.lt q hq).2
    have q_58 := m_51.size
    have B6 := B6.later (Ext.tr x_36 (Ext.tr x_39 x_46))
    have B6 := B6.mod m_51 (fun hq => d_26 _ hq rfl)
    have pc_61 := B6
    refine fb rfl rfl rfl fun w_59 x_60 Q hK => st (new := [.slice A_49 ((txt f pre ++ rowT f x.1 j ++ [(sgn8 (((f.places.drop (x.1 * f.wide.toNat)).take (x.1 * f.wide.toNat + f.wide.toNat - x.1 * f.wide.toNat)).getD j 0))]).length) c_50]) rfl rfl (B6.later x_60) rfl eF55 rfl rfl rfl fun w_62 m_63 B6 => hK _ _ ?_
    have q_65 := x_60.size
    have z_59 := z_48.trans (Mod.of_ext x_60)
    have q_66 := m_63.size
    have z_62 := z_59.md m_63 (fun q hq => .inl hq)
    have q_64 := m_63.size
    refine fn fun w_67 x_68 => ?_
    have q_69 := x_68.size
    have z_67 := z_62.trans (Mod.of_ext x_68)
    refine Rd.nB <| Rd.nT <| Rd.rg <| vl (bad rfl rfl (inI (by omega))) rfl <| vl (mv rfl) rfl <| nl <| ?_
    have hKF := hKF.later (Ext.tr x_36 (Ext.tr x_39 x_46))
    have hKF := hKF.mod m_51 (fun q hq => (pc_47.later x_46).cellsAt q hq)
    have hKF := hKF.later x_60
    have hKF := hKF.mod m_63 (fun q hq => by rw [List.mem_singleton.1 hq]; exact ⟨_, _, _, (pc_61.later x_60)⟩)
    have hKF := hKF.later x_68
    have B6 := B6.later x_68
    have O_52 := O_52.later x_60
    have O_52 := O_52.mod m_63 (fun q hq h => by have hb := List.mem_singleton.1 h; exfalso; (exact Or.elim (g_53 q hq) (fun k_70 => by (exact d_26 q k_70 hb)) (fun k_70 => by omega)))
    have O_52 := O_52.later x_68
    exact Rd.nI _ _ ⟨j + 1, A_49, c_50, rfl, rfl, z_67, hKF, (by rw [rowT_succ (by omega), ← List.append_assoc]; exact B6), (by rw [rowT_succ (by omega), ← List.append_assoc]; exact O_52), by omega, (fun q hq hb => by (exact Or.elim (g_53 q hq) (fun k_71 => by (exact d_26 q k_71 hb)) (fun k_71 => by omega)))⟩ (by omega) (.cons rfl (.cons rfl (.cons rfl (.cons rfl (.cons rfl (.cons rfl (.cons (loI rfl (by first | omega | rfl | (simp <;> omega))) .nil)))))))
   ·refine Rd.xt <| Rd.xT <| xK <| Rd.xB <| Rd.nT <| Rd.rg <| vl (ld rfl (B6.one eF54 rfl)) rfl <| bs (e := 5) (cs := [.int .u8 10]) rfl (fun _ => by kernel_rfl) rfl fun w_72 b_73 x_74 l_75 B_76 => ?_
    have q_77 := x_74.size
    have z_72 := z_27.trans (Mod.of_ext x_74)
    have q_78 := B_76.lt
    have OJ := OJ.later x_74
    have pc_79 := OJ
    refine ap FldW_el_S_uint8 Rep.flat_bare OJ (Blk.has1 (R := repY) (by_ := 1) (q := (10 : UInt8)) B_76 ⟨rfl, trivial⟩ (by decide)) rfl rfl (by simp only [List.length_append, List.length_cons, List.length_nil]; omega) (by simp only [List.length_append, List.length_cons, List.length_nil]; omega) (by omega) rfl fun w_80 A_81 c_82 m_83 O_84 g_85 n_86 => ?_
    have q_87 := m_83.size
    have z_80 := z_72.md m_83 (fun q hq => .inr ((fun q hq => Nat.le_trans (by omega) (OJ.lt q hq).1) q hq))
    have u_88 := fun q hq => (O_84.lt q hq).2
    have q_89 := m_83.size
    have B6 := B6.later x_74
    have B6 := B6.mod m_83 (fun hq => d_26 _ hq rfl)
    have pc_90 := B6
    refine st (new := [.slice A_81 ((txt f pre ++ rowT f x.1 j ++ [(10 : UInt8)]).length) c_82]) rfl rfl B6 rfl eF55 rfl rfl rfl fun w_91 m_92 B6 => ?_
    have q_94 := m_92.size
    have z_91 := z_80.md m_92 (fun q hq => .inl hq)
    have q_93 := m_92.size
    refine nl <| Rd.nB <| ?_
    have hKF := hKF.later x_74
    have hKF := hKF.mod m_83 (fun q hq => pc_79.cellsAt q hq)
    have hKF := hKF.mod m_92 (fun q hq => by rw [List.mem_singleton.1 hq]; exact ⟨_, _, _, pc_90⟩)
    have O_84 := O_84.mod m_92 (fun q hq h => by have hb := List.mem_singleton.1 h; exfalso; (exact Or.elim (g_85 q hq) (fun k_95 => by (exact d_26 q k_95 hb)) (fun k_95 => by omega)))
    have hjw : j = f.wide.toNat := by omega
    rw [hjw] at B6 O_84
    exact fun _ _ => ⟨hKF, Mod.keep22 zB z_91 ⟨by omega, by omega⟩ (nm1 (by omega)) (nm1 (by omega)), ⟨A_81, c_82, (by rw [txt_app]; exact B6), (by rw [txt_app]; exact O_84), z_91⟩⟩
  ·intro D xs_ wD hD_ hS_ hI_ hDK
   obtain ⟨Ao, co, B5, OO, zD⟩ := hI_
   have hS2 : xs_ = List.finRange f.high.toNat := hS_
   subst hS2
   have q_96 := zD.size
   have zD2 := Ext.mod z_19 zD (fun q hq => by rw [List.mem_singleton.1 hq]; omega)
   refine Rt.nB <| Rt.nT <| Rt.sq <| Rt.rg <| Rt.vl (ld rfl (B5.one eF54 rfl)) rfl <| Rt.vl (cvB Try.underlying101 Try.underlying5 Try.underlying9 OO.has rfl) rfl <| Rt.vl (as_ rfl) rfl <| Rt.vl (as_ rfl) rfl <| Rt.nl <| Rt.nT <| Rt.rt <| Rt.tR hDK (.tmp rfl (.tmp rfl .nil)) <| ?_
   exact ⟨by rw [write_ok h_11, h_11]; rfl, Ext.mod zD2 hDK.un (fun q hq => by rw [List.mem_singleton.1 hq]; omega)⟩
end
end Go.Proofs.Ytmpkaphcpaigdaa
