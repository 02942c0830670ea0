import Derived.Test.YtifffjhhammeiaaGolC
import Derived.Test.YtifffjhhammeiaaSyG
import Derived.Test.YtifffjhhammeiaaBas
import Derived.Test.YtifffjhhammeiaaGol
import Derived.Handy
import Derived.Test.YtifffjhhammeiaaProg
set_option linter.unusedVariables false
set_option linter.unusedSimpArgs false
set_option maxRecDepth 100000
set_option maxHeartbeats 4000000
namespace Go.Proofs.Ytifffjhhammeiaa
section
open Go.RowKit
theorem Sys_el_S_api_Vow : ElT Try.prog Vow.rep 59 52 24 := ElT.mk_ (z := Vow.zero) (k := 3) Try.underlying59 Vow.info rfl rfl (by decide) Vow.zero_raw
theorem foldV_mem : ∀ (l : List Vow) (b : Vow), l.foldl betV b = b ∨ l.foldl betV b ∈ l
 | [], b => .inl rfl
 | x :: l, b => by
  rw [List.foldl_cons]
  rcases foldV_mem l (betV b x) with h | h
  ·rw [h]; unfold betV; split
   ·exact .inr List.mem_cons_self
   ·exact .inl rfl
  ·exact .inr (List.mem_cons_of_mem _ h)
theorem bestV_mem {l : List Vow} (h : 0 < l.length) : bestV l ∈ l := by
 have h0 : l.getD 0 default ∈ l := by rw [List.getD_eq_getElem?_getD, List.getElem?_eq_getElem h, Option.getD_some]; exact List.getElem_mem h
 rcases foldV_mem l (l.getD 0 default) with h1 | h1
 ·unfold bestV; rw [h1]; exact h0
 ·exact h1
theorem choose_ok {l : List Vow} {x : Int} (hl : ∀ v ∈ l, v.ok) (hx : okI x) : okI (chooseV l x) := by
 unfold chooseV; split
 ·exact hx
 ·split
  ·exact hx
  ·exact (hl _ (bestV_mem (by omega))).2.2
theorem hb_set {T : List Rv} {V R : List Nat} {b i : Nat} {t' s : Rv} (h : ∀ t ∈ T, ∀ q ∈ Rep.blkOf t.ha, q ≠ b ∧ q ∉ V ∧ q ∉ R) (hs : T[i]? = some s) (ht : ∀ q ∈ Rep.blkOf t'.ha, q ∈ Rep.blkOf s.ha ∨ (q ≠ b ∧ q ∉ V ∧ q ∉ R)) :
  ∀ t ∈ T.set i t', ∀ q ∈ Rep.blkOf t.ha, q ≠ b ∧ q ∉ V ∧ q ∉ R := λ t hm q hq => by
 rcases List.mem_or_eq_of_mem_set hm with hm | rfl
 ·exact h t hm q hq
 ·exact (ht q hq).elim (h s (List.mem_of_getElem? hs) q) id
theorem blkset {w : World} {b : Nat} {V R : Option Addr} {v r i j : Nat} {L : List Vow} {T : List Rv} {M : List Rnd} {x : Vow} {t : Rv} (h : Blk w b [.slice V L.length v, .slice R T.length r] 98 (0, 0)) : Blk w b (syC ⟨V, v, R, r, T.set j t⟩ ⟨L.set i x, M⟩) 98 (0, 0) := by
 unfold syC; simp only [List.length_set]; exact h
theorem blkset1 {w : World} {b : Nat} {V R : Option Addr} {v r j : Nat} {L : List Vow} {T : List Rv} {M : List Rnd} {t : Rv} (h : Blk w b [.slice V L.length v, .slice R T.length r] 98 (0, 0)) : Blk w b (syC ⟨V, v, R, r, T.set j t⟩ ⟨L, M⟩) 98 (0, 0) := by
 unfold syC; simp only [List.length_set]; exact h
theorem getD_at {α : Type} {l : List α} {i : Nat} {x d : α} (h : l[i]? = some x) : l.getD i d = x := by rw [List.getD_eq_getElem?_getD, h]; rfl
theorem prep_ok {v : Vow} {n : Int} (h : v.ok) (hn : okI n) : (prepV v n).ok := by unfold prepV; split; exact ⟨hn, h.2⟩; exact h
theorem acc_ok {v : Vow} {n x : Int} (h : v.ok) (hn : okI n) (hx : okI x) : (accV v n x).ok := by unfold accV; split; exact ⟨hn, hn, hx⟩; exact h
theorem Hd.put {i : Nat} {w : World} {Z : Nat} {T : List Rv} {L : List Rnd} {x : Rnd} {A : Option Addr} {c : Nat} (h : Hd (· = i) w Z T L) (hi : L[i]? = some x) (hT : T[i]? = some (mkRv x A c)) (ho : hOwn w Z A c x.h) : Hd (λ _ => False) w Z T L :=
 ⟨h.len, λ j y _ hj => by
  by_cases e : j = i
  ·subst e; rw [hi] at hj; obtain rfl := Option.some.inj hj; exact ⟨A, c, hT, ho⟩
  ·exact h.own j y e hj, h.dis⟩
theorem most_any (b p N v M r : Nat) (V R : Option Addr) (w : World) (HB : Blk w b [.slice V N v, .slice R M r] 98 (0, 0)) (hp : p < 4294967296) :
  Calls Try.prog 69 #[.pointer (some ⟨b, 0, none⟩), .int .u32 (p : Int)] w (λ e w' => e = .returned (.bool (decide ((N : Int) < 2 * (Vote.size p : Int)))) ∧ Ext w w') := by
 refine calls_W (n := 15) Try.func69 rfl rfl rfl ?_
 refine sg <| va rfl <| nK <| sq <| ?_
 refine rd [(1, 0), (7, 0)] [0, 1, 2, 3, 4, 5, 6, 7, 8, 9, 10] (by kernel_rfl) (by kernel_rfl) ?_
 refine fw1 rfl (λ _ => mv rfl) <| fc rfl rfl eF19 rfl (λ _ x => onesS p hp _) rfl <| fw1 rfl (λ _ => bmu rfl rfl (inI (by have h_ := Vote.cnt_le 32 p; unfold Vote.size; omega))) <| fw1 rfl (λ _ => mv rfl) <| fw1 rfl (λ _ => nc rfl) <| fw1 rfl (λ _ => fa eF13 rfl) <| fw1 rfl (λ _ => fa eF20 rfl) <| fq1 rfl (λ _ x => ld rfl ((HB.later x).one eF21 rfl)) <| fw1 rfl (λ _ => ln Try.underlying59 rfl) <| fw1 rfl (λ _ => bgt rfl rfl) <| fw1 rfl (λ _ => as_ rfl) <| fn λ w_1 x_2 => ?_
 have := x_2.size
 have z_1 := eT (Ext.rf w) x_2
 refine nT <| rt <| tR (.tmp rfl .nil) <| ?_
 exact ⟨rfl, z_1⟩
theorem step_any (w0 : World) (b : Nat) (a : SyAt) (C : Cou) (xs : Sst) (N kk : Nat) (w : World) (hx0 : Ext w0 w) (hs : SySt w w0.heap.size b a C) (hG : SyG N kk C) (hkk : kk ≤ 500) (hbx : badS (N : Int) xs = false) (hxo : xs.ok) :
  Calls Try.prog 52 #[.pointer (some ⟨b, 0, none⟩), .agg #[.int .i64 xs.kind, .int .i64 xs.who, .int .i64 xs.ballot, .int .i64 xs.value]] w (λ e w' => ∃ a', e = .returned (.tuple #[]) ∧ SySt w' w0.heap.size b a' (C.step xs) ∧ Mod (above w0.heap.size w) w w') := by
 have hx0s := hx0.size
 have HB := hs.blk
 have hZb := hs.le
 have qB := HB.lt
 have HV := hs.V
 have HR := hs.R
 have HH := hs.H
 have uV := λ q hq => (HV.lt q hq).2
 have lV := λ q hq => (HV.lt q hq).1
 have uR := λ q hq => (HR.lt q hq).2
 have lR := λ q hq => (HR.lt q hq).1
 have hb := hs.hb
 have hlt := λ t ht q hq => (HH.lt t ht q hq).2
 have hHl := HH.len
 have cV := HV.1
 have hVl := HV.has.len_le
 have uR0 := uR
 obtain ⟨B, hBe⟩ : ∃ B, B = binR C.rounds xs.ballot := ⟨_, rfl⟩
 have hxb : 1 ≤ xs.kind ∧ xs.kind ≤ 3 ∧ 0 ≤ xs.who ∧ xs.who < (N : Int) ∧ 1 ≤ xs.ballot ∧ xs.ballot ≤ 50 := badS_ok hbx
 obtain ⟨k, hwk⟩ : ∃ k : Nat, xs.who = k := ⟨xs.who.toNat, by omega⟩
 have hwk2 : xs.who.toNat = k := by omega
 have hn15 := hG.n15
 have hvn := hG.n
 obtain ⟨v, hv⟩ : ∃ v, C.vows[xs.who.toNat]? = some v := ⟨_, List.getElem?_eq_getElem (by omega)⟩
 have hvo := Vow.all_ok HV.has v (List.mem_of_getElem? hv)
 have hgV : C.vows.getD xs.who.toNat default = v := getD_at hv
 refine calls_W (n := 123) Try.func52 rfl rfl rfl ?_
 refine sg <| bx rfl rfl rfl rfl λ w_1 b_2 x_3 l_4 B_5 => ?_
 have := x_3.size
 have z_1 := (Mod.rf (above w0.heap.size w) w).trans (Mod.of_ext x_3)
 have q_7 := B_5.lt
 refine nK <| sg <| vm rfl <| vL (fa eF22 rfl) <| vL (ld rfl (B_5.one eF4 rfl)) <| ?_
 have HB := HB.later x_3
 have HV := HV.later x_3
 have HR := HR.later x_3
 have HH := HH.later x_3
 have hQ := round_any w0 b a C xs.ballot w_1 (Ext.mod hx0 z_1 λ q hq => above_le hq) ⟨HB, hZb, HV, HR, HH, hs.bV, hs.bR, hs.VR, hs.hb⟩ hG.s hG.bd (by omega) (by have := hG.len; omega)
 rw [← hBe] at hQ
 refine ca eF23 rfl rfl ((hQ).mono ?_)
 rintro e w_9 ⟨R1, r1, T1, rfl, HS1, m_8⟩
 refine ⟨_, rfl, ?_⟩
 have := m_8.size
 have z_9 := z_1.md m_8 (λ q hq => in_above ((List.mem_cons.1 hq).elim (λ e => by rw [e]; exact hZb) (lR q)))
 obtain ⟨r, hre, hrb, hro⟩ := ensR_at (l := C.rounds) (n := xs.ballot) hG.s
 rw [← hBe] at hre hro
 obtain ⟨Ah, ch, hTB, HO, HX⟩ := HS1.H.out (i := B) hre
 have HB : Blk w_9 b [.slice a.V C.vows.length a.v, .slice R1 T1.length r1] 98 (0, 0) := HS1.blk
 have HV : Vow.rep.SOwn 52 24 w_9 w0.heap.size (Rep.blkOf a.V) a.V a.v C.vows := HS1.V
 have HR : Rv.rep.SOwn 69 64 w_9 w0.heap.size (Rep.blkOf R1) R1 r1 T1 := HS1.R
 have hb : ∀ t ∈ T1, ∀ q ∈ Rep.blkOf t.ha, q ≠ b ∧ q ∉ Rep.blkOf a.V ∧ q ∉ Rep.blkOf R1 := HS1.hb
 have hlt : ∀ t ∈ T1, ∀ q ∈ Rep.blkOf t.ha, q < w_9.heap.size := λ t ht q hq => (HS1.H.lt t ht q hq).2
 have uV := λ q hq => (HV.lt q hq).2
 have uR := λ q hq => (HR.lt q hq).2
 have lR := λ q hq => (HR.lt q hq).1
 have lO := λ q hq => (HO.lt q hq).1
 have uO := λ q hq => (HO.lt q hq).2
 have hTl := (List.getElem?_eq_some_iff.1 hTB).1
 have hrk : r.h.length ≤ kk ∧ r.p < 32768 ∧ r.q < 32768 := by rcases hro with h_ | h_; rw [h_]; exact ⟨Nat.zero_le _, (by decide : (0:Nat) < 32768), (by decide : (0:Nat) < 32768)⟩; exact ⟨hG.hl r (List.mem_of_getElem? h_), hG.pq r (List.mem_of_getElem? h_)⟩
 have hpq := hrk.2
 have hok : (mkRv r Ah ch).ok := Rv.all_ok HR.has _ (List.mem_of_getElem? hTB)
 have hhok := Vow.all_ok HO.has
 have hOl := HO.has.len_le
 have hgR : (ensR C.rounds xs.ballot).getD B default = r := getD_at hre
 have hHb := hb _ (List.mem_of_getElem? hTB)
 have dOb : ∀ q ∈ Rep.blkOf Ah, q = b → False := λ q h1 h2 => (hHb q h1).1 h2
 have dOV : ∀ q ∈ Rep.blkOf Ah, q ∈ Rep.blkOf a.V → False := λ q h1 h2 => (hHb q h1).2.1 h2
 have dOR : ∀ q ∈ Rep.blkOf Ah, q ∈ Rep.blkOf R1 → False := λ q h1 h2 => (hHb q h1).2.2 h2
 refine va rfl <| nK <| sq <| ?_
 refine rd [(4, 0), (6, 0)] [0, 1, 2, 3, 4, 5, 6, 7, 8] (by kernel_rfl) (by kernel_rfl) ?_
 refine fw1 rfl (λ _ => mv rfl) <| fw1 rfl (λ _ => nc rfl) <| fw1 rfl (λ _ => fa eF13 rfl) <| fw1 rfl (λ _ => fa eF20 rfl) <| fq1 rfl (λ _ x => ld rfl ((HB.later x).one eF21 rfl)) <| fw1 rfl (λ _ => fa eF24 rfl) <| ?_
 have B_5 := B_5.mod m_8 (λ hq => (List.mem_cons.1 hq).elim (λ e => by omega) (λ h => by have := uR0 _ h; omega))
 refine fq1 rfl (λ _ x => ld rfl ((B_5.later x).one eF4 rfl)) <| fw1 rfl (λ _ => iA xs.who.toNat Try.underlying59 eF6 rfl rfl (HV.has.adr (zl xs.who.toNat (by first | omega | (rw [List.length_set]; omega) | (rw [List.length_set, List.length_set]; omega)))) (by omega) (by first | omega | (rw [List.length_set]; omega) | (rw [List.length_set, List.length_set]; omega))) <| fw1 rfl (λ _ => as_ rfl) <| fn λ w_11 x_12 => ?_
 have := x_12.size
 have z_11 := z_9.trans (Mod.of_ext x_12)
 refine nT <| sg <| vL (fa eF25 rfl) <| ?_
 have B_5 := B_5.later x_12
 refine vL (ld rfl (B_5.one eF4 rfl)) <| nK <| bk <| sg <| vL (beq rfl rfl) <| va rfl <| nK <| ?_
 refine ceq rfl (λ h_14 => ?_) (λ h_14 => ?_)
 ·have hk1 : xs.kind = 1 := by simpa using h_14
  refine sq <| ?_
  refine rd [(2, 0), (4, 0), (5, 0), (9, 2), (10, 3)] [0, 1, 2, 3, 4, 5, 6, 7, 8, 9, 10, 11] (by kernel_rfl) (by kernel_rfl) ?_
  refine fw1 rfl (λ _ => mv rfl) <| fw1 rfl (λ _ => nc rfl) <| ?_
  have HV := HV.later x_12
  refine fq1 rfl (λ _ x => ld rfl (Rep.SHas.elt hcVw ((HV.later x).has.adh (zl xs.who.toNat (by first | omega | (rw [List.length_set]; omega) | (rw [List.length_set, List.length_set]; omega)))) hv eF5 eF6)) <| fw1 rfl (λ _ => fa eF22 rfl) <| fq1 rfl (λ _ x => ld rfl ((B_5.later x).one eF4 rfl)) <| fc rfl rfl eF26 rfl (λ _ x => prepare_any v xs.ballot _) rfl <| fw1 rfl (λ _ => mv rfl) <| fw1 rfl (λ _ => ex rfl rfl) <| fw1 rfl (λ _ => ex rfl rfl) <| fx rfl rfl rfl λ w_15 x_16 Q hK => al rfl eF1 rfl rfl λ w_17 b_18 x_19 l_20 B_21 => hK _ _ ⟨eT x_16 x_19, ?_⟩
  have := x_16.size
  have z_15 := z_11.trans (Mod.of_ext x_16)
  have := x_19.size
  have z_17 := z_15.trans (Mod.of_ext x_19)
  have q_24 := B_21.lt
  refine fb rfl rfl rfl λ w_25 x_26 Q hK => st (new := [.int .i64 ((prepV v xs.ballot).promised), .int .i64 ((prepV v xs.ballot).ballot), .int .i64 ((prepV v xs.ballot).value)]) rfl rfl (B_21.later x_26) rfl eF6 rfl rfl rfl λ w_27 m_28 B_21 => hK _ _ ?_
  have := x_26.size
  have z_25 := z_17.trans (Mod.of_ext x_26)
  have := m_28.size
  have z_27 := z_25.md m_28 (λ q hq => in_above (by have := List.mem_singleton.1 hq; omega))
  have := m_28.size
  refine fw1 rfl (λ _ => as_ rfl) <| fn λ w_32 x_33 => ?_
  have := x_33.size
  have z_32 := z_27.trans (Mod.of_ext x_33)
  refine nT <| sg <| vm rfl <| nK <| ?_
  refine cb rfl (λ h_35 => ?_) (λ h_35 => ?_)
  ·have hpk : prepK v xs.ballot = true := by simpa using h_35
   refine sq <| ?_
   refine rd [(3, 0), (5, 0), (10, 3)] [0, 1, 2, 3, 4, 5, 6, 7, 8, 9, 10] (by kernel_rfl) (by kernel_rfl) ?_
   refine fw1 rfl (λ _ => mv rfl) <| fw1 rfl (λ _ => nc rfl) <| fw1 rfl (λ _ => fa eF27 rfl) <| ?_
   have HR := HR.later (eT x_12 (eT x_16 (eT x_19 x_26)))
   have HR := HR.mod m_28 (fk1 uR (by omega))
   have HR := HR.later x_33
   refine fq (v := .int .u32 (r.p : Int)) rfl rfl (λ _ x => ld rfl (Rep.SHas.fld hcRv ((HR.later x).has.adh (zl B (by first | omega | (rw [List.length_set]; omega) | (rw [List.length_set, List.length_set]; omega)))) 1 hTB rfl eF28)) rfl <| fw1 rfl (λ _ => fa eF24 rfl) <| ?_
   have B_5 := B_5.later (eT x_16 (eT x_19 x_26))
   have B_5 := B_5.mod m_28 (nm1 (by omega))
   have B_5 := B_5.later x_33
   refine fq1 rfl (λ _ x => ld rfl ((B_5.later x).one eF4 rfl)) <| fw1 rfl (λ _ => shlS (m := k) rfl rfl hwk (by omega)) <| fw1 rfl (λ _ => orS rfl rfl (by have h_ := hpq; omega) (Vote.one_lt (by omega))) <| fw1 rfl (λ _ => nc rfl) <| fw1 rfl (λ _ => fa eF27 rfl) <| fb rfl rfl rfl λ w_36 x_37 Q hK => so (q' := (⟨r.b, r.p ||| (2 ^ k), Ah, r.h.length, ch, r.asked, r.v, r.q⟩ : Rv)) (j := 1) (i := B) (HR.later x_37) Rep.flat_bare hTB rfl rfl rfl rfl (λ _ cs h => by have ok_ := (show _ ∧ _ from h).2; obtain rfl := hcRv h; exact ⟨rfl, ⟨hok.1, hok.2.1, (Vote.lt_or hok.2.2.1 (Vote.one_lt (by omega))), hok.2.2.2⟩⟩) rfl rfl eF29 λ w_38 m_39 O_40 => hK _ _ ?_
   have := x_37.size
   have z_36 := z_32.trans (Mod.of_ext x_37)
   have := m_39.size
   have z_38 := z_36.md m_39 (λ q hq => in_above ((λ q hq => Nat.le_trans (by omega) ((HR.later x_37).lt q hq).1) q hq))
   have := m_39.size
   refine fn λ w_44 x_45 => ?_
   have := x_45.size
   have z_44 := z_38.trans (Mod.of_ext x_45)
   refine nT <| sq <| ?_
   refine rd [(4, 0), (7, 0), (8, 2), (9, 3), (12, 3)] [0, 1, 2, 3, 4, 5, 6, 7, 8, 9, 10, 11, 12] (by kernel_rfl) (by kernel_rfl) ?_
   refine fw1 rfl (λ _ => mv rfl) <| fw1 rfl (λ _ => mv rfl) <| fw1 rfl (λ _ => nc rfl) <| fw1 rfl (λ _ => fa eF30 rfl) <| ?_
   have O_40 := O_40.later x_45
   refine fq (v := .slice Ah r.h.length ch) rfl rfl (λ _ x => ld rfl (Rep.SHas.fld hcRv ((O_40.later x).has.adh (zl B (by first | omega | (rw [List.length_set]; omega) | (rw [List.length_set, List.length_set]; omega)))) 2 (List.getElem?_set_self (by first | exact hTl | (rw [List.length_set]; exact hTl))) rfl eF21)) rfl <| fw1 rfl (λ _ => mv rfl) <| fw1 rfl (λ _ => nc rfl) <| ?_
   have HV := HV.later (eT x_16 (eT x_19 x_26))
   have HV := HV.mod m_28 (fk1 uV (by omega))
   have HV := HV.later (eT x_33 x_37)
   have HV := HV.mod m_39 (λ q hq h => by exfalso; (exact HS1.VR q h hq))
   have HV := HV.later x_45
   refine fq1 rfl (λ _ x => ld rfl (Rep.SHas.elt hcVw ((HV.later x).has.adh (zl xs.who.toNat (by first | omega | (rw [List.length_set]; omega) | (rw [List.length_set, List.length_set]; omega)))) hv eF5 eF6)) <| fx rfl rfl rfl λ w_47 x_48 Q hK => bs (e := 52) (cs := [.int .i64 v.promised, .int .i64 v.ballot, .int .i64 v.value]) rfl (λ _ => by kernel_rfl) rfl λ w_49 b_50 x_51 l_52 B_53 => hK _ _ ⟨eT x_48 x_51, ?_⟩
   have := x_48.size
   have z_47 := z_44.trans (Mod.of_ext x_48)
   have := x_51.size
   have z_49 := z_47.trans (Mod.of_ext x_51)
   have q_56 := B_53.lt
   have HO := HO.later (eT x_12 (eT x_16 (eT x_19 x_26)))
   have HO := HO.mod m_28 (fk1 uO (by omega))
   have HO := HO.later (eT x_33 x_37)
   have HO := HO.mod m_39 (λ q hq h => by exfalso; (exact dOR q hq h))
   have HO := HO.later (eT x_45 (eT x_48 x_51))
   refine fb rfl rfl rfl λ w_57 x_58 Q hK => ap Sys_el_S_api_Vow Rep.flat_bare (HO.later x_58) ((Blk.has1 (R := Vow.rep) (by_ := 24) (q := v) B_53 ⟨rfl, hvo⟩ (by decide)).keep x_58) rfl rfl (by simp only [List.length_cons, List.length_nil]; omega) (by simp only [List.length_cons, List.length_nil]; omega) (by have := x_58.size; omega) rfl λ w_59 A_60 c_61 m_62 O_63 g_64 n_65 => hK _ _ ?_
   have := x_58.size
   have z_57 := z_49.trans (Mod.of_ext x_58)
   have := m_62.size
   have z_59 := z_57.md m_62 (λ q hq => in_above ((λ q hq => Nat.le_trans (by omega) ((HO.later x_58).lt q hq).1) q hq))
   have u_68 := λ q hq => (O_63.lt q hq).2
   have := m_62.size
   refine fw1 rfl (λ _ => nc rfl) <| fw1 rfl (λ _ => fa eF30 rfl) <| ?_
   have O_40 := O_40.later (eT x_48 (eT x_51 x_58))
   have O_40 := O_40.mod m_62 (λ q hq h => by exfalso; (exact dOR q h hq))
   refine fb rfl rfl rfl λ w_70 x_71 Q hK => so (q' := (⟨r.b, r.p ||| (2 ^ k), A_60, (r.h ++ [v]).length, c_61, r.asked, r.v, r.q⟩ : Rv)) (j := 2) (i := B) (O_40.later x_71) Rep.flat_bare (List.getElem?_set_self (by first | exact hTl | (rw [List.length_set]; exact hTl))) rfl rfl rfl rfl (λ _ cs h => by have ok_ := (show _ ∧ _ from h).2; obtain rfl := hcRv h; exact ⟨rfl, ⟨hok.1, hok.2.1, (Vote.lt_or hok.2.2.1 (Vote.one_lt (by omega))), hok.2.2.2⟩⟩) rfl rfl eF31 λ w_72 m_73 O_74 => hK _ _ ?_
   have := x_71.size
   have z_70 := z_59.trans (Mod.of_ext x_71)
   have := m_73.size
   have z_72 := z_70.md m_73 (λ q hq => in_above ((λ q hq => Nat.le_trans (by omega) ((O_40.later x_71).lt q hq).1) q hq))
   have := m_73.size
   refine fn λ w_78 x_79 => ?_
   have := x_79.size
   have z_78 := z_72.trans (Mod.of_ext x_79)
   refine nT <| rg <| vm rfl <| ?_
   have B_21 := B_21.later (eT x_33 x_37)
   have d_81 : ∀ q ∈ Rep.blkOf R1, q = b_18 → False := λ q hq hb => by (have := uR q hq; omega)
   have B_21 := B_21.mod m_39 (λ hq => d_81 _ hq rfl)
   have B_21 := B_21.later (eT x_45 (eT x_48 (eT x_51 x_58)))
   have d_82 : ∀ q ∈ Rep.blkOf Ah, q = b_18 → False := λ q hq hb => by (have := uO q hq; omega)
   have B_21 := B_21.mod m_62 (λ hq => d_82 _ hq rfl)
   have B_21 := B_21.later x_71
   have B_21 := B_21.mod m_73 (λ hq => d_81 _ hq rfl)
   have B_21 := B_21.later x_79
   refine vL (ld rfl (B_21.all eF5 eF6)) <| vL (nc rfl) <| ?_
   have HV := HV.later (eT x_48 (eT x_51 x_58))
   have HV := HV.mod m_62 (λ q hq h => by exfalso; (exact dOV q h hq))
   have HV := HV.later x_71
   have HV := HV.mod m_73 (λ q hq h => by exfalso; (exact HS1.VR q h hq))
   have HV := HV.later x_79
   refine soE (q' := prepV v xs.ballot) (i := xs.who.toNat) (es := [.int .i64 ((prepV v xs.ballot).promised), .int .i64 ((prepV v xs.ballot).ballot), .int .i64 ((prepV v xs.ballot).value)]) HV Rep.flat_bare (by first | omega | (rw [List.length_set]; omega) | (rw [List.length_set, List.length_set]; omega)) rfl rfl rfl rfl (λ _ => ⟨rfl, (prep_ok hvo (okI_iff.2 (by omega)))⟩) eF6 λ w_83 m_84 O_85 => ?_
   have := m_84.size
   have z_83 := z_78.md m_84 (λ q hq => in_above ((λ q hq => Nat.le_trans (by omega) (HV.lt q hq).1) q hq))
   have := m_84.size
   refine nl <| nB <| ne <| tR .nil <| ?_
   have HB := HB.later (eT x_12 (eT x_16 (eT x_19 x_26)))
   have HB := HB.mod m_28 (nm1 (by omega))
   have HB := HB.later (eT x_33 x_37)
   have HB := HB.mod m_39 (λ hq => HS1.bR _ hq rfl)
   have HB := HB.later (eT x_45 (eT x_48 (eT x_51 x_58)))
   have HB := HB.mod m_62 (λ hq => dOb _ hq rfl)
   have HB := HB.later x_71
   have HB := HB.mod m_73 (λ hq => HS1.bR _ hq rfl)
   have HB := HB.later x_79
   have HB := HB.mod m_84 (λ hq => HS1.bV _ hq rfl)
   have O_74 := O_74.later x_79
   have O_74 := O_74.mod m_84 (λ q hq h => by exfalso; (exact HS1.VR q hq h))
   have O_63 := O_63.later x_71
   have O_63 := O_63.mod m_73 (λ q hq h => by exfalso; (exact Or.elim (g_64 q hq) (λ k_88 => by (exact dOR q k_88 h)) (λ k_88 => by (have := uR q h; omega))))
   have O_63 := O_63.later x_79
   have O_63 := O_63.mod m_84 (λ q hq h => by exfalso; (exact Or.elim (g_64 q hq) (λ k_89 => by (exact dOV q k_89 h)) (λ k_89 => by (have := uV q h; omega))))
   have HX := HX.later (eT x_12 (eT x_16 (eT x_19 x_26)))
   have HX := HX.mod m_28 (λ j t _ hj q hq h => by have := hlt t (List.mem_of_getElem? hj) q hq; have := List.mem_singleton.1 h; omega)
   have HX := HX.later (eT x_33 x_37)
   have HX := HX.mod m_39 (λ j t _ hj q hq => (hb t (List.mem_of_getElem? hj) q hq).2.2)
   have HX := HX.later (eT x_45 (eT x_48 (eT x_51 x_58)))
   have HX := HX.mod m_62 (λ j t hX hj q hq hq2 => HS1.H.dis j B t _ hX hj hTB q hq hq2)
   have HX := HX.later x_71
   have HX := HX.mod m_73 (λ j t _ hj q hq => (hb t (List.mem_of_getElem? hj) q hq).2.2)
   have HX := HX.later x_79
   have HX := HX.mod m_84 (λ j t _ hj q hq => (hb t (List.mem_of_getElem? hj) q hq).2.1)
   have hst : C.step xs = ⟨(C.vows).set xs.who.toNat (prepV v xs.ballot), (ensR C.rounds xs.ballot).set B { r with p := r.p ||| (2 ^ k), h := r.h ++ [v] }⟩ := by unfold Cou.step; dsimp only; rw [← hBe, hgR, hgV, hwk2]; rw [if_pos hk1, if_pos hpk]
   have hR9 := O_74
   rw [List.set_set] at hR9
   exact ⟨⟨a.V, a.v, R1, r1, T1.set B (⟨r.b, r.p ||| (2 ^ k), A_60, (r.h ++ [v]).length, c_61, r.asked, r.v, r.q⟩ : Rv)⟩, rfl, by rw [hst]; exact ⟨blkset HB, HS1.le, O_85, hR9, Hd.back (x' := ({ r with p := r.p ||| (2 ^ k), h := r.h ++ [v] } : Rnd)) (A' := A_60) (c' := c_61) HX hTB O_63 (λ j t hj ht q hq hq2 => (g_64 q hq2).elim (λ h => HS1.H.dis j B t _ hj ht hTB q hq h) λ h => by have := hlt t (List.mem_of_getElem? ht) q hq; omega), HS1.bV, HS1.bR, HS1.VR, hb_set hb hTB (λ q hq => (g_64 q hq).imp id λ h => ⟨by omega, λ h2 => by have := uV q h2; omega, λ h2 => by have := uR q h2; omega⟩)⟩, z_83⟩
  ·have hpk : prepK v xs.ballot = false := by simpa using h_35
   refine sk <| nB <| ne <| tR .nil <| ?_
   have HB := HB.later (eT x_12 (eT x_16 (eT x_19 x_26)))
   have HB := HB.mod m_28 (nm1 (by omega))
   have HB := HB.later x_33
   have HR := HR.later (eT x_12 (eT x_16 (eT x_19 x_26)))
   have HR := HR.mod m_28 (fk1 uR (by omega))
   have HR := HR.later x_33
   have HV := HV.later (eT x_16 (eT x_19 x_26))
   have HV := HV.mod m_28 (fk1 uV (by omega))
   have HV := HV.later x_33
   have HO := HO.later (eT x_12 (eT x_16 (eT x_19 x_26)))
   have HO := HO.mod m_28 (fk1 uO (by omega))
   have HO := HO.later x_33
   have HX := HX.later (eT x_12 (eT x_16 (eT x_19 x_26)))
   have HX := HX.mod m_28 (λ j t _ hj q hq h => by have := hlt t (List.mem_of_getElem? hj) q hq; have := List.mem_singleton.1 h; omega)
   have HX := HX.later x_33
   have hst : C.step xs = C.ens xs.ballot := by unfold Cou.step; dsimp only; rw [← hBe, hgR, hgV]; rw [if_pos hk1, if_neg (by rw [hpk]; decide)]; rfl
   exact ⟨⟨a.V, a.v, R1, r1, T1⟩, rfl, by rw [hst]; exact ⟨HB, HS1.le, HV, HR, HX.put hre hTB HO, HS1.bV, HS1.bR, HS1.VR, HS1.hb⟩, z_32⟩
 ·have hk1 : xs.kind ≠ 1 := by simpa using h_14
  refine sg <| vL (beq rfl rfl) <| va rfl <| nK <| ?_
  refine ceq rfl (λ h_90 => ?_) (λ h_90 => ?_)
  ·have hk2 : xs.kind = 2 := by simpa using h_90
   refine sg <| vm rfl <| vL (nc rfl) <| vL (fa eF32 rfl) <| ?_
   have HR := HR.later x_12
   refine vL (v := .bool r.asked) (ld rfl (Rep.SHas.fld hcRv (HR.has.adh (zl B (by first | omega | (rw [List.length_set]; omega) | (rw [List.length_set, List.length_set]; omega)))) 3 hTB rfl eF33)) <| vL (nt rfl) <| vm rfl <| vQ rfl rfl rfl rfl (λ hc => mv rfl) rfl <| vQ rfl rfl rfl rfl (λ hc => mv rfl) rfl <| vQ rfl rfl rfl rfl (λ hc => nc (gt hc rfl)) rfl <| vQ rfl rfl rfl rfl (λ hc => fa eF27 (gt hc rfl)) rfl <| vQ (v := .int .u32 (r.p : Int)) rfl rfl rfl rfl (λ hc => ld (gt hc rfl) (Rep.SHas.fld hcRv (HR.has.adh (zl B (by first | omega | (rw [List.length_set]; omega) | (rw [List.length_set, List.length_set]; omega)))) 1 hTB rfl eF28)) rfl <| ?_
   have HB := HB.later x_12
   refine vC rfl rfl rfl rfl eF34 (λ hc => ec (gt hc rfl) (ec (gt hc rfl) rfl)) (λ hc => most_any b r.p _ _ _ _ _ _ _ HB (by have h_ := hpq; omega)) rfl λ w_91 x_92 => ?_
   have := x_92.size
   have z_91 := z_11.trans (Mod.of_ext x_92)
   refine vL (pA rfl rfl rfl rfl) <| nK <| ?_
   refine cb rfl (λ h_94 => ?_) (λ h_94 => ?_)
   ·have has : (r.asked = false ∧ C.vows.length < 2 * Vote.size r.p) := by have h_ := h_94; rw [Bool.and_eq_true] at h_; simp only [Bool.not_eq_true', Bool.not_eq_false', decide_eq_true_eq, decide_eq_false_iff_not] at h_; exact ⟨h_.1, by omega⟩
    refine rd [(5, 0), (7, 0), (8, 0), (11, 3), (14, 3)] [0, 1, 2, 3, 4, 5, 6, 7, 8, 9, 10, 11, 12, 13, 14] (by kernel_rfl) (by kernel_rfl) ?_
    refine fw1 rfl (λ _ => mv rfl) <| fw1 rfl (λ _ => mv rfl) <| fw1 rfl (λ _ => mv rfl) <| fw1 rfl (λ _ => nc rfl) <| fw1 rfl (λ _ => fa eF30 rfl) <| ?_
    have HR := HR.later x_92
    refine fq (v := .slice Ah r.h.length ch) rfl rfl (λ _ x => ld rfl (Rep.SHas.fld hcRv ((HR.later x).has.adh (zl B (by first | omega | (rw [List.length_set]; omega) | (rw [List.length_set, List.length_set]; omega)))) 2 hTB rfl eF21)) rfl <| fw1 rfl (λ _ => fa eF35 rfl) <| ?_
    have B_5 := B_5.later x_92
    refine fq1 rfl (λ _ x => ld rfl ((B_5.later x).one eF4 rfl)) <| ?_
    have HO := HO.later (eT x_12 x_92)
    refine fc rfl rfl eF36 rfl (λ _ x => choose_any r.h xs.value _ _ _ (HO.later x).has) rfl <| fw1 rfl (λ _ => nc rfl) <| fw1 rfl (λ _ => fa eF32 rfl) <| fb rfl rfl rfl λ w_95 x_96 Q hK => so (q' := (⟨r.b, r.p, Ah, r.h.length, ch, true, r.v, r.q⟩ : Rv)) (j := 3) (i := B) (HR.later x_96) Rep.flat_bare hTB rfl rfl rfl rfl (λ _ cs h => by have ok_ := (show _ ∧ _ from h).2; obtain rfl := hcRv h; exact ⟨rfl, ⟨hok.1, hok.2.1, hok.2.2.1, hok.2.2.2⟩⟩) rfl rfl eF37 λ w_97 m_98 O_99 => hK _ _ ?_
    have := x_96.size
    have z_95 := z_91.trans (Mod.of_ext x_96)
    have := m_98.size
    have z_97 := z_95.md m_98 (λ q hq => in_above ((λ q hq => Nat.le_trans (by omega) ((HR.later x_96).lt q hq).1) q hq))
    have := m_98.size
    refine fw1 rfl (λ _ => nc rfl) <| fw1 rfl (λ _ => fa eF38 rfl) <| fb rfl rfl rfl λ w_103 x_104 Q hK => so (q' := (⟨r.b, r.p, Ah, r.h.length, ch, true, chooseV r.h xs.value, r.q⟩ : Rv)) (j := 4) (i := B) (O_99.later x_104) Rep.flat_bare (List.getElem?_set_self (by first | exact hTl | (rw [List.length_set]; exact hTl))) rfl rfl rfl rfl (λ _ cs h => by have ok_ := (show _ ∧ _ from h).2; obtain rfl := hcRv h; exact ⟨rfl, ⟨hok.1, (choose_ok hhok hxo.2.2.2), hok.2.2.1, hok.2.2.2⟩⟩) rfl rfl eF7 λ w_105 m_106 O_107 => hK _ _ ?_
    have := x_104.size
    have z_103 := z_97.trans (Mod.of_ext x_104)
    have := m_106.size
    have z_105 := z_103.md m_106 (λ q hq => in_above ((λ q hq => Nat.le_trans (by omega) ((O_99.later x_104).lt q hq).1) q hq))
    have := m_106.size
    refine fn λ w_111 x_112 => ?_
    have := x_112.size
    have z_111 := z_105.trans (Mod.of_ext x_112)
    refine nB <| ne <| tR .nil <| ?_
    have HB := HB.later (eT x_92 x_96)
    have HB := HB.mod m_98 (λ hq => HS1.bR _ hq rfl)
    have HB := HB.later x_104
    have HB := HB.mod m_106 (λ hq => HS1.bR _ hq rfl)
    have HB := HB.later x_112
    have O_107 := O_107.later x_112
    have HV := HV.later (eT x_12 (eT x_92 x_96))
    have HV := HV.mod m_98 (λ q hq h => by exfalso; (exact HS1.VR q h hq))
    have HV := HV.later x_104
    have HV := HV.mod m_106 (λ q hq h => by exfalso; (exact HS1.VR q h hq))
    have HV := HV.later x_112
    have HO := HO.later x_96
    have HO := HO.mod m_98 (λ q hq h => by exfalso; (exact dOR q hq h))
    have HO := HO.later x_104
    have HO := HO.mod m_106 (λ q hq h => by exfalso; (exact dOR q hq h))
    have HO := HO.later x_112
    have HX := HX.later (eT x_12 (eT x_92 x_96))
    have HX := HX.mod m_98 (λ j t _ hj q hq => (hb t (List.mem_of_getElem? hj) q hq).2.2)
    have HX := HX.later x_104
    have HX := HX.mod m_106 (λ j t _ hj q hq => (hb t (List.mem_of_getElem? hj) q hq).2.2)
    have HX := HX.later x_112
    have hst : C.step xs = ⟨C.vows, (ensR C.rounds xs.ballot).set B { r with asked := true, v := chooseV r.h xs.value }⟩ := by unfold Cou.step; dsimp only; rw [← hBe, hgR, hgV, hwk2]; rw [if_neg hk1, if_pos hk2, if_pos has]
    have hR9 := O_107
    rw [List.set_set] at hR9
    exact ⟨⟨a.V, a.v, R1, r1, T1.set B (⟨r.b, r.p, Ah, r.h.length, ch, true, chooseV r.h xs.value, r.q⟩ : Rv)⟩, rfl, by rw [hst]; exact ⟨blkset1 HB, HS1.le, HV, hR9, Hd.back (x' := ({ r with asked := true, v := chooseV r.h xs.value } : Rnd)) (A' := Ah) (c' := ch) HX hTB HO (λ j t hj ht q hq hq2 => HS1.H.dis j B t _ hj ht hTB q hq hq2), HS1.bV, HS1.bR, HS1.VR, hb_set hb hTB (λ q hq => .inl hq)⟩, z_111⟩
   ·have has : ¬ (r.asked = false ∧ C.vows.length < 2 * Vote.size r.p) := by have h_ := h_94; rw [Bool.and_eq_false_iff] at h_; simp only [Bool.not_eq_true', Bool.not_eq_false', decide_eq_true_eq, decide_eq_false_iff_not] at h_; intro h2_; rcases h_ with h_ | h_; rw [h2_.1] at h_; cases h_; omega
    refine sk <| nB <| ne <| tR .nil <| ?_
    have HB := HB.later x_92
    have HR := HR.later x_92
    have HV := HV.later (eT x_12 x_92)
    have HO := HO.later (eT x_12 x_92)
    have HX := HX.later (eT x_12 x_92)
    have hst : C.step xs = C.ens xs.ballot := by unfold Cou.step; dsimp only; rw [← hBe, hgR, hgV]; rw [if_neg hk1, if_pos hk2, if_neg has]; rfl
    exact ⟨⟨a.V, a.v, R1, r1, T1⟩, rfl, by rw [hst]; exact ⟨HB, HS1.le, HV, HR, HX.put hre hTB HO, HS1.bV, HS1.bR, HS1.VR, HS1.hb⟩, z_91⟩
  ·have hk2 : xs.kind ≠ 2 := by simpa using h_90
   refine sg <| vL (beq rfl rfl) <| va rfl <| nK <| ?_
   refine ceq rfl (λ h_114 => ?_) (λ h_114 => ?_)
   ·have hk3 : xs.kind = 3 := by simpa using h_114
    refine sq <| sg <| vm rfl <| vL (nc rfl) <| vL (fa eF32 rfl) <| ?_
    have HR := HR.later x_12
    refine vL (v := .bool r.asked) (ld rfl (Rep.SHas.fld hcRv (HR.has.adh (zl B (by first | omega | (rw [List.length_set]; omega) | (rw [List.length_set, List.length_set]; omega)))) 3 hTB rfl eF33)) <| vL (nt rfl) <| nK <| ?_
    refine cb rfl (λ h_115 => ?_) (λ h_115 => ?_)
    ·have hra : r.asked = false := by simpa using h_115
     refine rt <| tT <| tB <| tR .nil <| ?_
     have HB := HB.later x_12
     have HV := HV.later x_12
     have HO := HO.later x_12
     have HX := HX.later x_12
     have hst : C.step xs = C.ens xs.ballot := by unfold Cou.step; dsimp only; rw [← hBe, hgR, hgV]; rw [if_neg hk1, if_neg hk2, if_pos hk3, if_neg (by rw [hra]; intro h_; exact absurd h_.1 (by decide))]; rfl
     exact ⟨⟨a.V, a.v, R1, r1, T1⟩, rfl, by rw [hst]; exact ⟨HB, HS1.le, HV, HR, HX.put hre hTB HO, HS1.bV, HS1.bR, HS1.VR, HS1.hb⟩, z_11⟩
    ·have hra : r.asked = true := by simpa using h_115
     refine sK <| sq <| ?_
     refine rd [(2, 0), (4, 0), (8, 0), (9, 0), (13, 2), (14, 3)] [0, 1, 2, 3, 4, 5, 6, 7, 8, 9, 10, 11, 12, 13, 14, 15] (by kernel_rfl) (by kernel_rfl) ?_
     refine fw1 rfl (λ _ => mv rfl) <| fw1 rfl (λ _ => nc rfl) <| ?_
     have HV := HV.later x_12
     refine fq1 rfl (λ _ x => ld rfl (Rep.SHas.elt hcVw ((HV.later x).has.adh (zl xs.who.toNat (by first | omega | (rw [List.length_set]; omega) | (rw [List.length_set, List.length_set]; omega)))) hv eF5 eF6)) <| fw1 rfl (λ _ => fa eF22 rfl) <| fq1 rfl (λ _ x => ld rfl ((B_5.later x).one eF4 rfl)) <| fw1 rfl (λ _ => mv rfl) <| fw1 rfl (λ _ => nc rfl) <| fw1 rfl (λ _ => fa eF38 rfl) <| fq (v := .int .i64 r.v) rfl rfl (λ _ x => ld rfl (Rep.SHas.fld hcRv ((HR.later x).has.adh (zl B (by first | omega | (rw [List.length_set]; omega) | (rw [List.length_set, List.length_set]; omega)))) 4 hTB rfl eF4)) rfl <| fc rfl rfl eF39 rfl (λ _ x => accept_any v xs.ballot r.v _) rfl <| fw1 rfl (λ _ => mv rfl) <| fw1 rfl (λ _ => ex rfl rfl) <| fw1 rfl (λ _ => ex rfl rfl) <| fx rfl rfl rfl λ w_116 x_117 Q hK => al rfl eF1 rfl rfl λ w_118 b_119 x_120 l_121 B_122 => hK _ _ ⟨eT x_117 x_120, ?_⟩
     have := x_117.size
     have z_116 := z_11.trans (Mod.of_ext x_117)
     have := x_120.size
     have z_118 := z_116.trans (Mod.of_ext x_120)
     have q_125 := B_122.lt
     refine fb rfl rfl rfl λ w_126 x_127 Q hK => st (new := [.int .i64 ((accV v xs.ballot r.v).promised), .int .i64 ((accV v xs.ballot r.v).ballot), .int .i64 ((accV v xs.ballot r.v).value)]) rfl rfl (B_122.later x_127) rfl eF6 rfl rfl rfl λ w_128 m_129 B_122 => hK _ _ ?_
     have := x_127.size
     have z_126 := z_118.trans (Mod.of_ext x_127)
     have := m_129.size
     have z_128 := z_126.md m_129 (λ q hq => in_above (by have := List.mem_singleton.1 hq; omega))
     have := m_129.size
     refine fw1 rfl (λ _ => as_ rfl) <| fn λ w_133 x_134 => ?_
     have := x_134.size
     have z_133 := z_128.trans (Mod.of_ext x_134)
     refine nT <| sg <| vm rfl <| nK <| ?_
     refine cb rfl (λ h_136 => ?_) (λ h_136 => ?_)
     ·have hak : accK v xs.ballot = true := by simpa using h_136
      refine sq <| ?_
      refine rd [(3, 0), (5, 0), (10, 3)] [0, 1, 2, 3, 4, 5, 6, 7, 8, 9, 10] (by kernel_rfl) (by kernel_rfl) ?_
      refine fw1 rfl (λ _ => mv rfl) <| fw1 rfl (λ _ => nc rfl) <| fw1 rfl (λ _ => fa eF40 rfl) <| ?_
      have HR := HR.later (eT x_117 (eT x_120 x_127))
      have HR := HR.mod m_129 (fk1 uR (by omega))
      have HR := HR.later x_134
      refine fq (v := .int .u32 (r.q : Int)) rfl rfl (λ _ x => ld rfl (Rep.SHas.fld hcRv ((HR.later x).has.adh (zl B (by first | omega | (rw [List.length_set]; omega) | (rw [List.length_set, List.length_set]; omega)))) 5 hTB rfl eF28)) rfl <| fw1 rfl (λ _ => fa eF24 rfl) <| ?_
      have B_5 := B_5.later (eT x_117 (eT x_120 x_127))
      have B_5 := B_5.mod m_129 (nm1 (by omega))
      have B_5 := B_5.later x_134
      refine fq1 rfl (λ _ x => ld rfl ((B_5.later x).one eF4 rfl)) <| fw1 rfl (λ _ => shlS (m := k) rfl rfl hwk (by omega)) <| fw1 rfl (λ _ => orS rfl rfl (by have h_ := hpq; omega) (Vote.one_lt (by omega))) <| fw1 rfl (λ _ => nc rfl) <| fw1 rfl (λ _ => fa eF40 rfl) <| fb rfl rfl rfl λ w_137 x_138 Q hK => so (q' := (⟨r.b, r.p, Ah, r.h.length, ch, r.asked, r.v, r.q ||| (2 ^ k)⟩ : Rv)) (j := 5) (i := B) (HR.later x_138) Rep.flat_bare hTB rfl rfl rfl rfl (λ _ cs h => by have ok_ := (show _ ∧ _ from h).2; obtain rfl := hcRv h; exact ⟨rfl, ⟨hok.1, hok.2.1, hok.2.2.1, (Vote.lt_or hok.2.2.2 (Vote.one_lt (by omega)))⟩⟩) rfl rfl eF29 λ w_139 m_140 O_141 => hK _ _ ?_
      have := x_138.size
      have z_137 := z_133.trans (Mod.of_ext x_138)
      have := m_140.size
      have z_139 := z_137.md m_140 (λ q hq => in_above ((λ q hq => Nat.le_trans (by omega) ((HR.later x_138).lt q hq).1) q hq))
      have := m_140.size
      refine fn λ w_145 x_146 => ?_
      have := x_146.size
      have z_145 := z_139.trans (Mod.of_ext x_146)
      refine nT <| rg <| vm rfl <| ?_
      have B_122 := B_122.later (eT x_134 x_138)
      have d_148 : ∀ q ∈ Rep.blkOf R1, q = b_119 → False := λ q hq hb => by (have := uR q hq; omega)
      have B_122 := B_122.mod m_140 (λ hq => d_148 _ hq rfl)
      have B_122 := B_122.later x_146
      refine vL (ld rfl (B_122.all eF5 eF6)) <| vL (nc rfl) <| ?_
      have HV := HV.later (eT x_117 (eT x_120 x_127))
      have HV := HV.mod m_129 (fk1 uV (by omega))
      have HV := HV.later (eT x_134 x_138)
      have HV := HV.mod m_140 (λ q hq h => by exfalso; (exact HS1.VR q h hq))
      have HV := HV.later x_146
      refine soE (q' := accV v xs.ballot r.v) (i := xs.who.toNat) (es := [.int .i64 ((accV v xs.ballot r.v).promised), .int .i64 ((accV v xs.ballot r.v).ballot), .int .i64 ((accV v xs.ballot r.v).value)]) HV Rep.flat_bare (by first | omega | (rw [List.length_set]; omega) | (rw [List.length_set, List.length_set]; omega)) rfl rfl rfl rfl (λ _ => ⟨rfl, (acc_ok hvo (okI_iff.2 (by omega)) hok.2.1)⟩) eF6 λ w_149 m_150 O_151 => ?_
      have := m_150.size
      have z_149 := z_145.md m_150 (λ q hq => in_above ((λ q hq => Nat.le_trans (by omega) (HV.lt q hq).1) q hq))
      have := m_150.size
      refine nl <| nB <| ne <| tR .nil <| ?_
      have HB := HB.later (eT x_12 (eT x_117 (eT x_120 x_127)))
      have HB := HB.mod m_129 (nm1 (by omega))
      have HB := HB.later (eT x_134 x_138)
      have HB := HB.mod m_140 (λ hq => HS1.bR _ hq rfl)
      have HB := HB.later x_146
      have HB := HB.mod m_150 (λ hq => HS1.bV _ hq rfl)
      have O_141 := O_141.later x_146
      have O_141 := O_141.mod m_150 (λ q hq h => by exfalso; (exact HS1.VR q hq h))
      have HO := HO.later (eT x_12 (eT x_117 (eT x_120 x_127)))
      have HO := HO.mod m_129 (fk1 uO (by omega))
      have HO := HO.later (eT x_134 x_138)
      have HO := HO.mod m_140 (λ q hq h => by exfalso; (exact dOR q hq h))
      have HO := HO.later x_146
      have HO := HO.mod m_150 (λ q hq h => by exfalso; (exact dOV q hq h))
      have HX := HX.later (eT x_12 (eT x_117 (eT x_120 x_127)))
      have HX := HX.mod m_129 (λ j t _ hj q hq h => by have := hlt t (List.mem_of_getElem? hj) q hq; have := List.mem_singleton.1 h; omega)
      have HX := HX.later (eT x_134 x_138)
      have HX := HX.mod m_140 (λ j t _ hj q hq => (hb t (List.mem_of_getElem? hj) q hq).2.2)
      have HX := HX.later x_146
      have HX := HX.mod m_150 (λ j t _ hj q hq => (hb t (List.mem_of_getElem? hj) q hq).2.1)
      have hst : C.step xs = ⟨(C.vows).set xs.who.toNat (accV v xs.ballot r.v), (ensR C.rounds xs.ballot).set B { r with q := r.q ||| (2 ^ k) }⟩ := by unfold Cou.step; dsimp only; rw [← hBe, hgR, hgV, hwk2]; rw [if_neg hk1, if_neg hk2, if_pos hk3, if_pos ⟨hra, hak⟩]
      have hR9 := O_141
      exact ⟨⟨a.V, a.v, R1, r1, T1.set B (⟨r.b, r.p, Ah, r.h.length, ch, r.asked, r.v, r.q ||| (2 ^ k)⟩ : Rv)⟩, rfl, by rw [hst]; exact ⟨blkset HB, HS1.le, O_151, hR9, Hd.back (x' := ({ r with q := r.q ||| (2 ^ k) } : Rnd)) (A' := Ah) (c' := ch) HX hTB HO (λ j t hj ht q hq hq2 => HS1.H.dis j B t _ hj ht hTB q hq hq2), HS1.bV, HS1.bR, HS1.VR, hb_set hb hTB (λ q hq => .inl hq)⟩, z_149⟩
     ·have hak : accK v xs.ballot = false := by simpa using h_136
      refine sk <| nB <| ne <| tR .nil <| ?_
      have HB := HB.later (eT x_12 (eT x_117 (eT x_120 x_127)))
      have HB := HB.mod m_129 (nm1 (by omega))
      have HB := HB.later x_134
      have HR := HR.later (eT x_117 (eT x_120 x_127))
      have HR := HR.mod m_129 (fk1 uR (by omega))
      have HR := HR.later x_134
      have HV := HV.later (eT x_117 (eT x_120 x_127))
      have HV := HV.mod m_129 (fk1 uV (by omega))
      have HV := HV.later x_134
      have HO := HO.later (eT x_12 (eT x_117 (eT x_120 x_127)))
      have HO := HO.mod m_129 (fk1 uO (by omega))
      have HO := HO.later x_134
      have HX := HX.later (eT x_12 (eT x_117 (eT x_120 x_127)))
      have HX := HX.mod m_129 (λ j t _ hj q hq h => by have := hlt t (List.mem_of_getElem? hj) q hq; have := List.mem_singleton.1 h; omega)
      have HX := HX.later x_134
      have hst : C.step xs = C.ens xs.ballot := by unfold Cou.step; dsimp only; rw [← hBe, hgR, hgV]; rw [if_neg hk1, if_neg hk2, if_pos hk3, if_neg (by rw [hak]; intro h_; exact absurd h_.2 (by decide))]; rfl
      exact ⟨⟨a.V, a.v, R1, r1, T1⟩, rfl, by rw [hst]; exact ⟨HB, HS1.le, HV, HR, HX.put hre hTB HO, HS1.bV, HS1.bR, HS1.VR, HS1.hb⟩, z_133⟩
   ·have hk3 : xs.kind ≠ 3 := by simpa using h_114
    refine sk <| nB <| ne <| tR .nil <| ?_
    have HB := HB.later x_12
    have HR := HR.later x_12
    have HV := HV.later x_12
    have HO := HO.later x_12
    have HX := HX.later x_12
    have hst : C.step xs = C.ens xs.ballot := by unfold Cou.step; dsimp only; rw [← hBe, hgR, hgV]; rw [if_neg hk1, if_neg hk2, if_neg hk3]; rfl
    exact ⟨⟨a.V, a.v, R1, r1, T1⟩, rfl, by rw [hst]; exact ⟨HB, HS1.le, HV, HR, HX.put hre hTB HO, HS1.bV, HS1.bR, HS1.VR, HS1.hb⟩, z_11⟩
end
section
open Go.RowKit
theorem ret_bool {a b : Bool} (h : a = b) : Ending.returned (.bool a) = .returned (.bool b) := by rw [h]
theorem equal_I (A B : Option Addr) (c d b1 b2 : Nat) (l m : List Int) (w : World) (h1 : repI.SHas b1 w A c l) (h2 : repI.SHas b2 w B d m) :
  Calls Try.prog 40 #[.slice A l.length c, .slice B m.length d] w λ e w' => e = .returned (.bool (decide (l = m))) ∧ Below w.heap.size w w' := by
 obtain ⟨n, HN⟩ : ∃ n, Hid (l.length = n) := ⟨_, Lib.hid rfl⟩
 obtain ⟨n2, HM⟩ : ∃ n, Hid (m.length = n) := ⟨_, Lib.hid rfl⟩
 have hle : n ≤ 9223372036854775807 := by have := h1.len_le; rw [HN.out] at this; exact this
 have H1 := Lib.hid h1
 have H2 := Lib.hid h2
 clear h1 h2
 rw [HN.out, HM.out]
 by_cases hnn : n = n2
 ·subst hnn
  have hd : ((n : Int) != (n : Int)) = false := by simp
  go_enter Try.func40, Try.ntmps40
  go_wp2_with fail
  clear hd
  go_loopw [5, 13] (λ _ iv wr => ∃ (k q : Nat), k ≤ n ∧ iv = .int .i64 (k : Int) ∧ Hid (l.take k = m.take k) ∧ Hid (wr = w.drewN q)) (λ _ iv _ => n - (intOf iv).toNat)
  case atStart => exact ⟨0, 0, Nat.zero_le _, rfl, (by show _ = _; simp), rfl⟩
  case round =>
   obtain ⟨k, q, hk, rfl, HK, HW⟩ := hrel
   have hbr : Below w.heap.size w wr := by rw [HW.out]; exact below_drewN (Below.refl _ w) q
   by_cases hlt : k < n
   ·obtain ⟨x, hx⟩ := get_of (l := l) (i := k) (by rw [HN.out]; exact hlt)
    obtain ⟨y, hy⟩ := get_of (l := m) (i := k) (by rw [HM.out]; exact hlt)
    obtain ⟨b1, o1, rfl, hc1⟩ := repI_at (H1.out.keep hbr) (by rw [HN.out]; omega)
    obtain ⟨b2, o2, rfl, hc2⟩ := repI_at (H2.out.keep hbr) (by rw [HM.out]; omega)
    have q0 := hc1 k x hx
    have r0 := hc2 k y hy
    have hki : (k : Int) < (n : Int) := by omega
    have hk0 : (0 : Int) ≤ (k : Int) := by omega
    have htl : l.take (k + 1) = l.take k ++ [x] := by rw [List.take_add_one, hx]; rfl
    have htm : m.take (k + 1) = m.take k ++ [y] := by rw [List.take_add_one, hy]; rfl
    have HTL := Lib.hid htl
    have HTM := Lib.hid htm
    have HX := Lib.hid hx
    have HY := Lib.hid hy
    clear hc1 hc2 htl htm hx hy
    by_cases hxy : x = y
    ·subst hxy
     have HK2 : Hid (l.take (k + 1) = m.take (k + 1)) := Lib.hid (by rw [HTL.out, HTM.out, HK.out])
     go_wp2_with fail
     go_quiet (fail)
     go_wp2_with fail
     go_roundw
     case rel => exact ⟨k + 1, _, by omega, by go_num, HK2, by show _ = _; rw [HW.out]; simp; rfl⟩
     case measure => simp [intOf]; omega
    ·have HF : Hid (decide (l = m) = false) := Lib.hid (decide_eq_false λ e => hxy (by have h1 := HX.out; rw [e, HY.out] at h1; exact (Option.some.inj h1).symm))
     have hne : (x == y) = false := by simpa using hxy
     have hne2 : (x != y) = true := by simpa using hxy
     clear hxy
     go_wp2_with fail
     go_quiet (fail)
     go_wp2_with fail
     go_ret
     exact ⟨ret_bool HF.out.symm, below_drewN hbr _⟩
   ·have HT : Hid (decide (l = m) = true) := Lib.hid (decide_eq_true (by have := HK.out; rw [List.take_of_length_le (by rw [HN.out]; omega), List.take_of_length_le (by rw [HM.out]; omega)] at this; exact this))
    clear HK
    go_wp2_with fail
    go_ret
    exact ⟨ret_bool HT.out.symm, hbr⟩
 ·have HF : Hid (decide (l = m) = false) := Lib.hid (decide_eq_false λ e => hnn (by rw [← HN.out, ← HM.out, e]))
  have hd : ((n : Int) != (n2 : Int)) = true := by simp; omega
  rw [HF.out]
  go_enter Try.func40, Try.ntmps40
  go_wp2_with fail
  go_ret
  exact ⟨rfl, Below.refl _ _⟩
end
end Go.Proofs.Ytifffjhhammeiaa
set_option linter.unusedVariables false
set_option linter.unusedSimpArgs false
namespace Go.Proofs.Ytifffjhhammeiaa
open Go.RowKit

structure Cel where
 x : Int
 y : Int
 deriving DecidableEq, Inhabited
namespace Cel
def cells (a : Cel) : List Value := [.int .i64 (a.x), .int .i64 (a.y)]
def ok (a : Cel) : Prop := (Lit.int .i64 a.x).wf = true ∧ (Lit.int .i64 a.y).wf = true
def raw (j : Nat) (u : Value) : Prop := match j with
 | 0 => ∃ n : Int, u = .int .i64 n
 | 1 => ∃ n : Int, u = .int .i64 n
 | _ => True
theorem cells_raw (a : Cel) : ∀ (j : Nat) u, a.cells[j]? = some u → raw j u := by
 intro j u hu
 match j, hu with
 | 0, hu => exact ⟨_, (Option.some.inj hu).symm⟩
 | 1, hu => exact ⟨_, (Option.some.inj hu).symm⟩
 | j + 2, hu => exact trivial
theorem cells_one (a : Cel) : ∀ u ∈ a.cells, u.oneCell' = true := by
 intro u hu
 unfold cells at hu
 simp only [List.mem_cons, List.not_mem_nil, or_false] at hu
 rcases hu with rfl | rfl <;> rfl
def rep : Rep Cel := Rep.flat 2 cells ok raw (λ _ => rfl) cells_one cells_raw
theorem plain : rep.Plain := Rep.flat_plain
def zero : Value := .agg #[.int .i64 0, .int .i64 0]
theorem zero_raw : ∀ (j : Nat) u, zero.cells[j]? = some u → rep.raw j u := by
 intro j u hu
 have hu : (#[(.int .i64 0 : Value), (.int .i64 0 : Value)] : Array Value)[j]? = some u := hu
 match j, hu with
 | 0, hu => exact ⟨_, (Option.some.inj hu).symm⟩
 | 1, hu => exact ⟨_, (Option.some.inj hu).symm⟩
 | j + 2, hu => cases hu
theorem all_ok {by_ : Nat} {w : World} {A : Option Addr} {c : Nat} {l : List Cel} (h : rep.SHas by_ w A c l) : ∀ a ∈ l, a.ok := Rep.SHas.all_ (R := rep) (Q := ok) (fun {w cs a} (h : rep.has w cs a) => (show cs = a.cells ∧ a.ok from h).2) h
theorem blk {w : World} {g : Nat} {t : TypeId} {fr : Nat × Nat} {a : Cel} (h : Blk w g a.cells t fr) : w.cell? ⟨g, 0, none⟩ = some (.int .i64 (a.x)) ∧ w.cell? ⟨g, 1, none⟩ = some (.int .i64 (a.y)) :=
 ⟨h.cell 0, h.cell 1⟩
def sh : Sh := (.cons (.int .i64) (.cons (.int .i64) .nil))
theorem opens (w : World) (cs : List Value) (h : sh.Ok w cs) : ∃ a, rep.has w cs a := by
 obtain ⟨_, _, rfl, _, _, ⟨x0, rfl, k0⟩, ⟨_, _, rfl, _, _, ⟨x1, rfl, k1⟩, rfl⟩⟩ := h
 exact ⟨⟨x0, x1⟩, rfl, k0, k1⟩
end Cel
end Go.Proofs.Ytifffjhhammeiaa
set_option linter.unusedVariables false
set_option linter.unusedSimpArgs false
namespace Go.Proofs.Ytifffjhhammeiaa
open Go.RowKit

structure Trp where
 id : Int
 owner : Int
 kind : Int
 spot : Cel
 life : Int
 load : Int
 deriving DecidableEq, Inhabited
namespace Trp
def cells (a : Trp) : List Value := [.int .i64 (a.id), .int .i64 (a.owner), .int .i64 (a.kind), .int .i64 (a.spot.x), .int .i64 (a.spot.y), .int .i64 (a.life), .int .i64 (a.load)]
def ok (a : Trp) : Prop := (Lit.int .i64 a.id).wf = true ∧ (Lit.int .i64 a.owner).wf = true ∧ (Lit.int .i64 a.kind).wf = true ∧ (Lit.int .i64 a.spot.x).wf = true ∧ (Lit.int .i64 a.spot.y).wf = true ∧ (Lit.int .i64 a.life).wf = true ∧ (Lit.int .i64 a.load).wf = true
def raw (j : Nat) (u : Value) : Prop := match j with
 | 0 => ∃ n : Int, u = .int .i64 n
 | 1 => ∃ n : Int, u = .int .i64 n
 | 2 => ∃ n : Int, u = .int .i64 n
 | 3 => ∃ n : Int, u = .int .i64 n
 | 4 => ∃ n : Int, u = .int .i64 n
 | 5 => ∃ n : Int, u = .int .i64 n
 | 6 => ∃ n : Int, u = .int .i64 n
 | _ => True
theorem cells_raw (a : Trp) : ∀ (j : Nat) u, a.cells[j]? = some u → raw j u := by
 intro j u hu
 match j, hu with
 | 0, hu => exact ⟨_, (Option.some.inj hu).symm⟩
 | 1, hu => exact ⟨_, (Option.some.inj hu).symm⟩
 | 2, hu => exact ⟨_, (Option.some.inj hu).symm⟩
 | 3, hu => exact ⟨_, (Option.some.inj hu).symm⟩
 | 4, hu => exact ⟨_, (Option.some.inj hu).symm⟩
 | 5, hu => exact ⟨_, (Option.some.inj hu).symm⟩
 | 6, hu => exact ⟨_, (Option.some.inj hu).symm⟩
 | j + 7, hu => exact trivial
theorem cells_one (a : Trp) : ∀ u ∈ a.cells, u.oneCell' = true := by
 intro u hu
 unfold cells at hu
 simp only [List.mem_cons, List.not_mem_nil, or_false] at hu
 rcases hu with rfl | rfl | rfl | rfl | rfl | rfl | rfl <;> rfl
def rep : Rep Trp := Rep.flat 7 cells ok raw (λ _ => rfl) cells_one cells_raw
theorem plain : rep.Plain := Rep.flat_plain
def zero : Value := .agg #[.int .i64 0, .int .i64 0, .int .i64 0, .int .i64 0, .int .i64 0, .int .i64 0, .int .i64 0]
theorem zero_raw : ∀ (j : Nat) u, zero.cells[j]? = some u → rep.raw j u := by
 intro j u hu
 have hu : (#[(.int .i64 0 : Value), (.int .i64 0 : Value), (.int .i64 0 : Value), (.int .i64 0 : Value), (.int .i64 0 : Value), (.int .i64 0 : Value), (.int .i64 0 : Value)] : Array Value)[j]? = some u := hu
 match j, hu with
 | 0, hu => exact ⟨_, (Option.some.inj hu).symm⟩
 | 1, hu => exact ⟨_, (Option.some.inj hu).symm⟩
 | 2, hu => exact ⟨_, (Option.some.inj hu).symm⟩
 | 3, hu => exact ⟨_, (Option.some.inj hu).symm⟩
 | 4, hu => exact ⟨_, (Option.some.inj hu).symm⟩
 | 5, hu => exact ⟨_, (Option.some.inj hu).symm⟩
 | 6, hu => exact ⟨_, (Option.some.inj hu).symm⟩
 | j + 7, hu => cases hu
theorem all_ok {by_ : Nat} {w : World} {A : Option Addr} {c : Nat} {l : List Trp} (h : rep.SHas by_ w A c l) : ∀ a ∈ l, a.ok := Rep.SHas.all_ (R := rep) (Q := ok) (fun {w cs a} (h : rep.has w cs a) => (show cs = a.cells ∧ a.ok from h).2) h
theorem blk {w : World} {g : Nat} {t : TypeId} {fr : Nat × Nat} {a : Trp} (h : Blk w g a.cells t fr) : w.cell? ⟨g, 0, none⟩ = some (.int .i64 (a.id)) ∧ w.cell? ⟨g, 1, none⟩ = some (.int .i64 (a.owner)) ∧ w.cell? ⟨g, 2, none⟩ = some (.int .i64 (a.kind)) ∧ w.cell? ⟨g, 3, none⟩ = some (.int .i64 (a.spot.x)) ∧ w.cell? ⟨g, 4, none⟩ = some (.int .i64 (a.spot.y)) ∧ w.cell? ⟨g, 5, none⟩ = some (.int .i64 (a.life)) ∧ w.cell? ⟨g, 6, none⟩ = some (.int .i64 (a.load)) :=
 ⟨h.cell 0, h.cell 1, h.cell 2, h.cell 3, h.cell 4, h.cell 5, h.cell 6⟩
def sh : Sh := (.cons (.int .i64) (.cons (.int .i64) (.cons (.int .i64) (.cons (.cons (.int .i64) (.cons (.int .i64) .nil)) (.cons (.int .i64) (.cons (.int .i64) .nil))))))
theorem opens (w : World) (cs : List Value) (h : sh.Ok w cs) : ∃ a, rep.has w cs a := by
 obtain ⟨_, _, rfl, _, _, ⟨x0, rfl, k0⟩, ⟨_, _, rfl, _, _, ⟨x1, rfl, k1⟩, ⟨_, _, rfl, _, _, ⟨x2, rfl, k2⟩, ⟨_, _, rfl, _, _, ⟨_, _, rfl, _, _, ⟨x3, rfl, k3⟩, ⟨_, _, rfl, _, _, ⟨x4, rfl, k4⟩, rfl⟩⟩, ⟨_, _, rfl, _, _, ⟨x5, rfl, k5⟩, ⟨_, _, rfl, _, _, ⟨x6, rfl, k6⟩, rfl⟩⟩⟩⟩⟩⟩ := h
 exact ⟨⟨x0, x1, x2, ⟨x3, x4⟩, x5, x6⟩, rfl, k0, k1, k2, k3, k4, k5, k6⟩
end Trp
end Go.Proofs.Ytifffjhhammeiaa
set_option linter.unusedVariables false
set_option linter.unusedSimpArgs false
namespace Go.Proofs.Ytifffjhhammeiaa
open Go.RowKit

structure Fld where
 wide : Int
 high : Int
 places : List Int
 deriving DecidableEq, Inhabited
structure Wd where
 field : Fld
 bases : List Cel
 stocks : List Int
 mines : List Int
 troops : List Trp
 next : Int
 now : Int
 deriving DecidableEq, Inhabited
namespace Fld
def placeOk (p : Int) : Bool := inB p 0 3
def chk (f : Fld) : Int :=
 if inB f.wide 1 40 && inB f.high 1 40 then (if decide ((f.places.length : Int) = f.wide * f.high) && f.places.all placeOk then 0 else 4) else 1
def isIn (f : Fld) (c : Cel) : Bool := inB c.x 0 (f.wide - 1) && inB c.y 0 (f.high - 1)
def place (f : Fld) (c : Cel) : Int := f.places.getD (c.y * f.wide + c.x).toNat 0
def ground (f : Fld) (c : Cel) : Bool := f.isIn c && f.place c != 1
theorem good {f : Fld} (h : f.chk = 0) : 1 ≤ f.wide ∧ f.wide ≤ 40 ∧ 1 ≤ f.high ∧ f.high ≤ 40 ∧ (f.places.length : Int) = f.wide * f.high ∧ ∀ p ∈ f.places, 0 ≤ p ∧ p ≤ 3 := by
 unfold chk at h
 split at h
 ·rename_i h1
  rw [Bool.and_eq_true] at h1
  have a := inB_true h1.1
  have b := inB_true h1.2
  split at h
  ·rename_i h2
   rw [Bool.and_eq_true, List.all_eq_true] at h2
   exact ⟨a.1, a.2, b.1, b.2, by simpa using h2.1, λ p hp => inB_true (h2.2 p hp)⟩
  ·cases h
 ·cases h
theorem len_le {f : Fld} (h : f.chk = 0) : f.places.length ≤ 1600 := by
 obtain ⟨g1, g2, g3, g4, g5, _⟩ := good h
 have e2 : f.wide * f.high ≤ 40 * 40 := Int.mul_le_mul g2 g4 (by omega) (by omega)
 omega
end Fld
namespace Fld
def atE (f : Fld) (c : Cel) : Int := if f.chk ≠ 0 then f.chk else if f.isIn c then 0 else 7
def atV (f : Fld) (c : Cel) : Int := if f.chk ≠ 0 then 0 else if f.isIn c then f.place c else 0
end Fld
def kindOf (k : Int) : Option (Int × Int × Int × Int) := if k = 1 then some (10, 1, 1, 5) else if k = 2 then some (20, 2, 4, 12) else none
namespace Wd
def okBase (W : Wd) (i : Nat) : Bool := W.field.ground (W.bases.getD i default) && !(W.bases.take i).contains (W.bases.getD i default) && inB (W.stocks.getD i 0) 0 1000000
def players (W : Wd) : Bool := decide (W.stocks.length = W.bases.length) && (List.range W.bases.length).all W.okBase
def okMine (W : Wd) (i : Nat) : Bool := inB (W.mines.getD i 0) 0 1000000 && (decide (W.mines.getD i 0 ≤ 0) || W.field.places.getD i 0 == 3)
def minesOk (W : Wd) : Bool := decide (W.mines.length = W.field.places.length) && (List.range W.mines.length).all W.okMine
def lastId (W : Wd) (i : Nat) : Int := if i = 0 then 0 else (W.troops.getD (i - 1) default).id
def lifeOf (k : Int) : Int := if k = 1 then 10 else if k = 2 then 20 else 0
def mostOf (k : Int) : Int := if k = 1 then 5 else 0
def okOne (W : Wd) (lx nx : Int) (t : Trp) : Bool :=
 inB t.kind 1 2 && inB t.id lx nx && inB t.owner 0 ((W.bases.length : Int) - 1) && W.field.ground t.spot && inB t.life 1 (lifeOf t.kind) && inB t.load 0 (mostOf t.kind)
def spots (W : Wd) (k : Nat) : List Cel := (W.troops.take k).map (·.spot)
def okTroop (W : Wd) (i : Nat) : Bool := W.okOne (wrap64 (W.lastId i + 1)) (wrap64 (W.next - 1)) (W.troops.getD i default) && !(W.spots i).contains (W.troops.getD i default).spot
def troopsOk (W : Wd) : Bool := (List.range W.troops.length).all W.okTroop && (inB W.next 1 1000000 && inB W.now 0 1000000)
def chk (W : Wd) : Int :=
 if W.field.chk ≠ 0 then W.field.chk else if 8 < W.bases.length ∨ 100 < W.troops.length then 2 else if W.players && W.minesOk && W.troopsOk then 0 else 4
structure At where
 P : Option Addr
 B : Option Addr
 S : Option Addr
 M : Option Addr
 T : Option Addr
 p : Nat
 b : Nat
 s : Nat
 m : Nat
 t : Nat
def fcells (A : Option Addr) (c : Nat) (f : Fld) : List Value := [.int .i64 f.wide, .int .i64 f.high, .slice A f.places.length c]
def cells (h : At) (W : Wd) : List Value :=
 [.int .i64 W.field.wide, .int .i64 W.field.high, .slice h.P W.field.places.length h.p, .slice h.B W.bases.length h.b, .slice h.S W.stocks.length h.s, .slice h.M W.mines.length h.m, .slice h.T W.troops.length h.t, .int .i64 W.next, .int .i64 W.now]
structure Has (w : World) (h : At) (W : Wd) : Prop where
 P : repI.SHas 8 w h.P h.p W.field.places
 B : Cel.rep.SHas 16 w h.B h.b W.bases
 S : repI.SHas 8 w h.S h.s W.stocks
 M : repI.SHas 8 w h.M h.m W.mines
 T : Trp.rep.SHas 56 w h.T h.t W.troops
 nums : okI W.field.wide ∧ okI W.field.high ∧ okI W.next ∧ okI W.now
theorem Has.keep {w w' : World} {h : At} {W : Wd} (hw : Has w h W) (hb : Below w.heap.size w w') : Has w' h W :=
 ⟨hw.P.keep hb, hw.B.keep hb, hw.S.keep hb, hw.M.keep hb, hw.T.keep hb, hw.nums⟩
def fsh : Sh := .cons (.int .i64) (.cons (.int .i64) (.cons (.slice (.int .i64) 8) .nil))
def sh : Sh := .cons fsh (.cons (.slice Cel.sh 16) (.cons (.slice (.int .i64) 8) (.cons (.slice (.int .i64) 8) (.cons (.slice Trp.sh 56) (.cons (.int .i64) (.cons (.int .i64) .nil))))))
theorem opens (w : World) (cs : List Value) (h : sh.Ok w cs) : ∃ h W, cs = cells h W ∧ Has w h W := by
 obtain ⟨_, _, rfl, _, _, ⟨_, _, rfl, _, _, ⟨x0, rfl, k0⟩, _, _, rfl, _, _, ⟨x1, rfl, k1⟩, _, _, rfl, _, _, hP, rfl⟩, _, _, rfl, _, _, hB, _, _, rfl, _, _, hS, _, _, rfl, _, _, hM, _, _, rfl, _, _, hT, _, _, rfl, _, _, ⟨x2, rfl, k2⟩, _, _, rfl, _, _, ⟨x3, rfl, k3⟩, rfl⟩ := h
 obtain ⟨aP, cP, lP, rfl, HP⟩ := Rep.opens_slice (R := repI) repI_opens rfl (by decide) hP
 obtain ⟨aB, cB, lB, rfl, HB⟩ := Rep.opens_slice (R := Cel.rep) Cel.opens rfl (by decide) hB
 obtain ⟨aS, cS, lS, rfl, HS⟩ := Rep.opens_slice (R := repI) repI_opens rfl (by decide) hS
 obtain ⟨aM, cM, lM, rfl, HM⟩ := Rep.opens_slice (R := repI) repI_opens rfl (by decide) hM
 obtain ⟨aT, cT, lT, rfl, HT⟩ := Rep.opens_slice (R := Trp.rep) Trp.opens rfl (by decide) hT
 exact ⟨⟨aP, aB, aS, aM, aT, cP, cB, cS, cM, cT⟩, ⟨⟨x0, x1, lP⟩, lB, lS, lM, lT, x2, x3⟩, rfl, HP, HB, HS, HM, HT, k0, k1, k2, k3⟩
end Wd
end Go.Proofs.Ytifffjhhammeiaa
set_option linter.unusedVariables false
set_option linter.unusedSimpArgs false
namespace Go.Proofs.Ytifffjhhammeiaa
open Go.RowKit

namespace Wd
end Wd
def isId (id : Int) (t : Trp) : Bool := t.id == id
def isAt (p : Cel) (t : Trp) : Bool := decide (t.spot = p)
def whichI (W : Wd) (p : Trp → Bool) : Int := if W.chk = 0 then max (idxI p W.troops) 0 else 0
def whichB (W : Wd) (p : Trp → Bool) : Bool := decide (W.chk = 0) && decide (0 ≤ idxI p W.troops)
def nearT (c : Cel) (r : Int) (t : Trp) : Bool := inB c.x (t.spot.x - r) (t.spot.x + r) && inB c.y (t.spot.y - r) (t.spot.y + r)
def nearIds (W : Wd) (c : Cel) (r : Int) : List Int := (W.troops.filter (nearT c r)).map (·.id)
def nearE (W : Wd) (r : Int) : Int := if W.chk ≠ 0 then W.chk else if inB r 0 12 then 0 else 1
end Go.Proofs.Ytifffjhhammeiaa
set_option linter.unusedVariables false
set_option linter.unusedSimpArgs false
namespace Go.Proofs.Ytifffjhhammeiaa
open Go.RowKit

end Go.Proofs.Ytifffjhhammeiaa
set_option linter.unusedVariables false
set_option linter.unusedSimpArgs false
namespace Go.Proofs.Ytifffjhhammeiaa
open Go.RowKit
structure TroopOk (f : Fld) (nb : Nat) (t : Trp) : Prop where
 kind : t.kind = 1 ∨ t.kind = 2
 owner : 0 ≤ t.owner ∧ t.owner < (nb : Int)
 ground : f.ground t.spot = true
 life : 1 ≤ t.life ∧ t.life ≤ Wd.lifeOf t.kind
 load : 0 ≤ t.load ∧ t.load ≤ Wd.mostOf t.kind
structure Good (W : Wd) : Prop where
 field : W.field.chk = 0
 nb : W.bases.length ≤ 8
 nt : W.troops.length ≤ 100
 sl : W.stocks.length = W.bases.length
 bases : ∀ (i : Nat) c, W.bases[i]? = some c → W.field.ground c = true ∧ (W.bases.take i).contains c = false
 stocks : ∀ (i : Nat) s, W.stocks[i]? = some s → 0 ≤ s ∧ s ≤ 1000000
 ml : W.mines.length = W.field.places.length
 mines : ∀ (i : Nat) m, W.mines[i]? = some m → 0 ≤ m ∧ m ≤ 1000000 ∧ (m ≤ 0 ∨ W.field.places.getD i 0 = 3)
 troops : ∀ (i : Nat) t, W.troops[i]? = some t → TroopOk W.field W.bases.length t
 ids : ∀ (i : Nat) t, W.troops[i]? = some t → W.lastId i < t.id ∧ t.id < W.next ∧ 0 ≤ W.lastId i
 spots : ∀ (i : Nat) t, W.troops[i]? = some t → (W.spots i).contains t.spot = false
 next : 1 ≤ W.next ∧ W.next ≤ 1000000
 now : 0 ≤ W.now ∧ W.now ≤ 1000000
end Go.Proofs.Ytifffjhhammeiaa
set_option linter.unusedVariables false
set_option linter.unusedSimpArgs false
namespace Go.Proofs.Ytifffjhhammeiaa
open Go.RowKit

def WOwn.foot (a : Wd.At) : List Nat := Rep.blkOf a.P ++ Rep.blkOf a.B ++ Rep.blkOf a.S ++ Rep.blkOf a.M ++ Rep.blkOf a.T
end Go.Proofs.Ytifffjhhammeiaa
namespace Go.Proofs.Ytifffjhhammeiaa
section
open Go.RowKit
section
variable {α : Type} {p : α → Bool} {l L : List α} {d : α} {i j k : Nat}
theorem mem_dd (h : k < l.length) : l.getD k d ∈ l := by rw [List.getD_eq_getElem?_getD, List.getElem?_eq_getElem h]; exact List.getElem_mem h
theorem getD_dd (h : k < l.length) : l.getD k d = l[k] := by rw [List.getD_eq_getElem?_getD, List.getElem?_eq_getElem h]; rfl
theorem idx_none_dd (h : ∀ i, i < l.length → p (l.getD i d) = false) : idxI p l = -1 := idxI_none λ j hj => by rw [← getD_dd (d := d) hj]; exact h j hj
theorem idx_some_dd (hk : k < l.length) (h1 : p (l.getD k d) = true) (h : ∀ i, i < k → p (l.getD i d) = false) : idxI p l = (k : Int) :=
 idxI_some hk (by rw [← getD_dd (d := d) hk]; exact h1) λ j hj => by rw [← getD_dd (d := d) (by omega : j < l.length)]; exact h j hj
end
end
section
open Go.RowKit
theorem made_list (z : Array Value) (n : Nat) : (madeCells z n).toList = (List.range n).map λ i => z[i % z.size]! := by
 unfold madeCells; rw [Array.toList_map, Array.toList_range]
theorem made_flat (z : Array Value) (h0 : 0 < z.size) : ∀ c : Nat, (List.replicate c z.toList).flatten = (madeCells z (c * z.size)).toList
 | 0 => by simp [made_list]
 | c + 1 => by
  rw [List.replicate_succ', List.flatten_append, made_flat z h0 c, made_list, made_list, Nat.succ_mul, List.range_add, List.map_append, List.map_map]
  congr 1
  rw [List.flatten_cons, List.flatten_nil, List.append_nil]
  refine List.ext_getElem (by simp) λ i h1 h2 => ?_
  have h1' : i < z.size := by simpa using h1
  rw [List.getElem_map, List.getElem_range, Array.getElem_toList]
  show z[i] = z[(c * z.size + i) % z.size]!
  rw [Nat.mul_comm, Nat.mul_add_mod, Nat.mod_eq_of_lt h1', getElem!_pos z i h1']
section
variable {P : Program} {n : Nat} {E E' : List (Nat × Value)} {a : Act} {w w' w0 w1 : World} {Q : Exit → Act → World → Prop} {ops : Array Oper}
variable {d : Nat} {ty : TypeId} {pos : String} {af : Array Edge} {g : Option (Nat × Bool)} {x y z : Operand} {t : TypeId} {rest : List Oper}
theorem mK {α : Type} {R : Rep α} {e by_ B c : Nat} {zv : Value} {q : α} (hP : R.Plain) (ht : P.underlying t = some (.slice e)) (hi : (P.info? e).map (λ i => (i.zero, i.size, i.bytes)) = some (some zv, R.size, by_)) (h1 : zv.cells.size = R.size) (h2 : 0 < R.size) (h3 : ∀ (j : Nat) u, zv.cells[j]? = some u → R.raw j u) (hq : ∀ w, R.has w zv.cells.toList q)
  (hx : ev E x = some (.int .i64 (c : Int))) (hy : ev E y = some (.int .i64 (c : Int))) (hd : Nat.blt d n = true) (hb : c * by_ ≤ 140737488355328) (hc : c ≤ 9223372036854775807) (hB : B ≤ w.heap.size)
  (h : ∀ w1 b, Ext w w1 → w.heap.size ≤ b → R.SOwn e by_ w1 B (Rep.blkOf (some ⟨b, 0, none⟩)) (some ⟨b, 0, none⟩) c (List.replicate c q) → WL P n ops Q rest ((d, .slice (some ⟨b, 0, none⟩) c c) :: E) w1) : WL P n ops Q (⟨some d, .makeSlice t x y, ty, pos, af, none⟩ :: rest) E w := by
 refine make_core (m := c) (ess := List.replicate c zv.cells.toList) hP ht hi h1 h2 h3 hx hy hd (Nat.le_refl _) hb hc hB (by simp) (λ w => ?_) ?_ h
 ·clear h hb hc hx hy
  induction c with
  | zero => trivial
  | succ c ih => exact ⟨hq w, ih⟩
 ·rw [made_flat _ (by rw [h1]; exact h2), h1, List.take_of_length_le]
  rw [Array.length_toList, size_madeCells]; exact Nat.le_refl _
end
end
end Go.Proofs.Ytifffjhhammeiaa
