import Derived.Test.YtccankldeogdlaaGra
import Derived.Test.YtccankldeogdlaaLawP
import Derived.Test.YtccankldeogdlaaHitP
set_option linter.unusedVariables false
set_option linter.unusedSimpArgs false
set_option maxRecDepth 100000
set_option maxHeartbeats 4000000
namespace Go.Proofs.Ytccankldeogdlaa
section
open Go.RowKit
theorem struck_nil {W : Wd} (h : W.chk = 0) : struckW W [] = W ∧ struckG W [] = [] := by
 have e1 := blowE_mk (l := []) h (by decide)
 have hS := struck_of e1
 have hh : harmW W [] = List.replicate W.troops.length 0 := by unfold harmW; rw [e1]; rfl
 have hu : hurts W [] = W.troops := by
  apply List.ext_getElem?
  intro i
  cases ht : W.troops[i]? with
  | none =>
   have := List.getElem?_eq_none_iff.1 ht
   rw [List.getElem?_eq_none (by rw [hurts_len]; exact this)]
  | some t =>
   rw [hurts_get ht, hh]
   have : (List.replicate W.troops.length (0 : Int)).getD i 0 = 0 := by
    rw [List.getD_eq_getElem?_getD, List.getElem?_replicate]; split <;> rfl
   rw [this, Int.sub_zero]
 have hf : ∀ t ∈ W.troops, 0 < t.life := fun t ht => by have := (hS.good.each ht).2.2.life; omega
 constructor
 ·rw [hS.hW, hu, List.filter_eq_self.2 fun t ht => decide_eq_true (hf t ht)]
 ·rw [hS.hG, hu, List.filter_eq_nil_iff.2 fun t ht => by simp [hf t ht]]; rfl
theorem stS_nil {f : Fld} {T : List Trp} : ∀ k, stS f [] T k = (T, [])
 | 0 => rfl
 | k + 1 => stS_none (stS_nil k) (step1_n1 (by show idxI _ ([] : List Gox) < 0; unfold idxI; simp))
theorem march_nil {W : Wd} (h : W.chk = 0) : marchW W [] = W ∧ marchM W [] = [] := by
 obtain ⟨e1, e2, e3⟩ := march_ok (W := W) (l := []) h (by decide)
 rw [e2, e3]
 unfold Wd.stepped
 rw [stS_nil]; exact ⟨rfl, rfl⟩
theorem do_nil {W : Wd} (h : W.chk = 0) : W.doW [] = W ∧ W.doB [] = [] := ⟨do_ok1 h (by decide), do_ok2 h (by decide)⟩
theorem turn_nil {W : Wd} (h : W.chk = 0) (hn : W.now < 1000000) : turnE W [] = 0 ∧ turnW W [] = { W with now := W.now + 1 } ∧ turnG W [] = [] ∧ turnM W [] = [] ∧ turnD W [] = [] := by
 have e0 : splE W [] = 0 := by unfold splE; rw [if_neg (by decide)]; exact h
 have e1 : turnE W [] = 0 := by unfold turnE; rw [if_neg (by simpa using e0), if_neg (by omega)]
 obtain ⟨z1, z2, z3, z4⟩ := turn_yes e1
 obtain ⟨s1, s2⟩ := struck_nil h
 have t1 : turn1 W [] = W := s1
 obtain ⟨m1, m2⟩ := march_nil h
 have t2 : turn2 W [] = W := by show marchW (turn1 W []) [] = W; rw [t1]; exact m1
 obtain ⟨d1, d2⟩ := do_nil h
 have t3 : turn3 W [] = W := by show (turn2 W []).doW [] = W; rw [t2]; exact d1
 refine ⟨e1, by rw [z1, t3], by rw [z2]; exact s2, ?_, ?_⟩
 ·rw [z3]; show marchM (turn1 W []) [] = []; rw [t1]; exact m2
 ·rw [z4]; show (turn2 W []).doB [] = []; rw [t2]; exact d2
theorem turn_now {W : Wd} {l : List Odr} (h : turnE W l = 0) : (turn3 W l).now = W.now := by
 obtain ⟨e1, e2, e3, g1, g2, g3⟩ := turn_dat h
 have h1 : (turn1 W l).now = W.now := by unfold turn1; rw [(struck_of e1).hW]
 have h2 : (turn2 W l).now = (turn1 W l).now := by unfold turn2; rw [(march_right e2).2.2.2.1]
 have h3 : (turn3 W l).now = (turn2 W l).now := by unfold turn3; rw [(do_of e3).2.2.1]; exact (kept_deeds g2 _).now
 rw [h3, h2, h1]
theorem turn_right {W : Wd} {l : List Odr} (h : turnE W l = 0) : (turnW W l).chk = 0 ∧ (turnW W l).now = W.now + 1 ∧ sortedI (turnG W l) = true ∧ sortedI (turnM W l) = true := by
 obtain ⟨h1, h2, h3, h4⟩ := turnE_zero h
 obtain ⟨e1, e2, e3, g1, g2, g3⟩ := turn_dat h
 obtain ⟨z1, z2, z3, z4⟩ := turn_yes h
 have hn := turn_now h
 have hn0 := (Good.of_chk h3).now
 rw [z1, z2, z3]
 refine ⟨Good.chk { g3 with now := ⟨?_, ?_⟩ }, ?_, (struck_of e1).sorted, (march_right e2).2.2.1⟩
 ·show 0 ≤ (turn3 W l).now + 1; omega
 ·show (turn3 W l).now + 1 ≤ 1000000; omega
 ·show (turn3 W l).now + 1 = _; omega
def tickL : List Odr := [⟨0, 3, 1, ⟨2, 0⟩, 0⟩]
def tickV : Wd := ⟨⟨3, 1, [0, 0, 3]⟩, [⟨0, 0⟩], [20], [0, 0, 8], [⟨1, 0, 1, ⟨1, 0⟩, 10, 1⟩], 2, 1⟩
theorem turn_small : turnE smallW tickL = 0 ∧ turnW smallW tickL = tickV ∧ turnG smallW tickL = [] ∧ turnM smallW tickL = [] ∧ turnD smallW tickL = [true] := by
 have hc : smallW.chk = 0 := by decide +kernel
 have eB : splB smallW tickL tickL.length = [] := by decide +kernel
 have eG : splG smallW tickL tickL.length = [] := by decide +kernel
 have eD : splD smallW tickL tickL.length = [⟨1, 1, ⟨2, 0⟩, 0⟩] := by decide +kernel
 have e1 : turnE smallW tickL = 0 := by decide +kernel
 obtain ⟨z1, z2, z3, z4⟩ := turn_yes e1
 obtain ⟨s1, s2⟩ := struck_nil hc
 have t1 : turn1 smallW tickL = smallW := by unfold turn1; rw [eB]; exact s1
 obtain ⟨m1, m2⟩ := march_nil hc
 have t2 : turn2 smallW tickL = smallW := by unfold turn2; rw [t1, eG]; exact m1
 have t3 : turn3 smallW tickL = smallW.doW [⟨1, 1, ⟨2, 0⟩, 0⟩] := by unfold turn3; rw [t2, eD]
 have hd : smallW.doW [⟨1, 1, ⟨2, 0⟩, 0⟩] = { tickV with now := 0 } := by decide +kernel
 refine ⟨e1, ?_, ?_, ?_, ?_⟩
 ·rw [z1, t3, hd]; rfl
 ·rw [z2, eB]; exact s2
 ·rw [z3, t1, eG]; exact m2
 ·rw [z4, t2, eD]; decide +kernel
end
section
open Go.RowKit
theorem turn_small_any (A : Option Addr) (c : Nat) (w : World) (a : Wd.At) (hW : Wd.Has w a smallW) (hl : Odr.rep.SHas 48 w A c [(⟨0, 3, 1, ⟨2, 0⟩, 0⟩ : Odr)]) :
  Calls Try.prog 27 #[.agg (Wd.cells a smallW).toArray, .slice A 1 c] w (fun e w' => ∃ a' A0 c0 A1 c1 A2 c2, e = .returned (.tuple #[.agg (Wd.cells a' tickV).toArray, .agg #[.slice A0 0 c0, .slice A1 0 c1, .slice A2 1 c2], .int .i64 0]) ∧ WOwn w' w.heap.size a' tickV ∧
   repI.SOwn 3 8 w' w.heap.size (Rep.blkOf A0) A0 c0 ([] : List Int) ∧ repI.SOwn 3 8 w' w.heap.size (Rep.blkOf A1) A1 c1 ([] : List Int) ∧ repB.SOwn 4 1 w' w.heap.size (Rep.blkOf A2) A2 c2 [true] ∧
   (∀ q, (q ∈ Rep.blkOf A0 ∨ q ∈ Rep.blkOf A1 ∨ q ∈ Rep.blkOf A2) → q ∉ WOwn.foot a') ∧ Ext w w') := by
 refine (turn_any a smallW A c tickL w hW hl).mono ?_
 rintro e w' ⟨a', A0, c0, A1, c1, A2, c2, rfl, h1, h2, h3, h4, h5, h6⟩
 obtain ⟨e1, e2, e3, e4, e5⟩ := turn_small
 rw [e1, e2, e3, e4, e5]
 rw [e2] at h1
 rw [e3] at h2
 rw [e4] at h3
 rw [e5] at h4
 exact ⟨a', A0, c0, A1, c1, A2, c2, rfl, h1, h2, h3, h4, h5, h6⟩
theorem tickLives_any  (w : World) :
  Calls Try.prog 28 #[] w (fun e w' => e = .returned (.bool true) ∧ Ext w w') := by
 refine calls_W (n := 40) Try.func28 rfl rfl rfl ?_
 refine sq <| rg <| vl (as_ rfl) rfl <| nl <| nT <| sq <| rg <| ca eF171 rfl rfl ((small_any _).mono ?_)
 rintro e w_4 ⟨a_1, rfl, HO_1, x_5⟩
 refine ⟨_, rfl, ?_⟩
 have q_6 := x_5.size
 have z_4 := Ext.tr (Ext.rf w) x_5
 have u_2 := fun q hq => (HO_1.lt q hq).2
 have lo_3 := fun q hq => (HO_1.lt q hq).1
 refine vl (v := .agg #[.int .i64 2, .int .i64 0]) (bd rfl (by kernel_rfl)) rfl <| vl (v := .agg #[.int .i64 0, .int .i64 3, .int .i64 1, .int .i64 2, .int .i64 0, .int .i64 0]) (bd rfl (by kernel_rfl)) rfl <| bs (e := 72) (cs := [.int .i64 0, .int .i64 3, .int .i64 1, .int .i64 2, .int .i64 0, .int .i64 0]) rfl (fun _ => by kernel_rfl) rfl fun w_7 b_8 x_9 l_10 B_11 => ?_
 have q_12 := x_9.size
 have z_7 := Ext.tr z_4 x_9
 have q_13 := B_11.lt
 have HO_1 := HO_1.later x_9
 refine ca eF172 rfl rfl ((turn_small_any _ _ _ _ HO_1.has (Blk.hasN (R := Odr.rep) (by_ := 48) (k := [(⟨0, 3, 1, ⟨2, 0⟩, 0⟩ : Odr)]) B_11 [[.int .i64 0, .int .i64 3, .int .i64 1, .int .i64 2, .int .i64 0, .int .i64 0]] rfl (⟨⟨rfl, ⟨okI_iff.2 (by (try dsimp only); omega), okI_iff.2 (by (try dsimp only); omega), okI_iff.2 (by (try dsimp only); omega), okI_iff.2 (by (try dsimp only); omega), okI_iff.2 (by (try dsimp only); omega), okI_iff.2 (by (try dsimp only); omega)⟩⟩, trivial⟩) (by simp) (by simp))).mono ?_)
 rintro e w_31 ⟨a14, A140, c140, A141, c141, A142, c142, rfl, HO14, OR140, OR141, OR142, hd14, x_32⟩
 refine ⟨_, rfl, ?_⟩
 have q_33 := x_32.size
 have z_31 := Ext.tr z_7 x_32
 have u_15 := fun q hq => (HO14.lt q hq).2
 have lo_16 := fun q hq => (HO14.lt q hq).1
 have u_17 := fun q hq => (OR140.lt q hq).2
 have lo_18 := fun q hq => (OR140.lt q hq).1
 have u_19 := fun q hq => (OR141.lt q hq).2
 have lo_20 := fun q hq => (OR141.lt q hq).1
 have u_21 := fun q hq => (OR142.lt q hq).2
 have lo_22 := fun q hq => (OR142.lt q hq).1
 have dd140 : ∀ q ∈ Rep.blkOf A140, q ∈ WOwn.foot a14 → False := fun q hq => hd14 q (.inl hq)
 have dw140 : ∀ q ∈ WOwn.foot a14, q ∈ Rep.blkOf A140 → False := fun q h1 h2 => dd140 q h2 h1
 have dd141 : ∀ q ∈ Rep.blkOf A141, q ∈ WOwn.foot a14 → False := fun q hq => hd14 q (.inr (.inl hq))
 have dw141 : ∀ q ∈ WOwn.foot a14, q ∈ Rep.blkOf A141 → False := fun q h1 h2 => dd141 q h2 h1
 have dd142 : ∀ q ∈ Rep.blkOf A142, q ∈ WOwn.foot a14 → False := fun q hq => hd14 q (.inr (.inr hq))
 have dw142 : ∀ q ∈ WOwn.foot a14, q ∈ Rep.blkOf A142 → False := fun q h1 h2 => dd142 q h2 h1
 refine vl (mv rfl) rfl <| vl (ex rfl rfl) rfl <| vl (ex rfl rfl) rfl <| vl (ex rfl rfl) rfl <| al rfl eF80 rfl rfl fun w_34 b_35 x_36 l_37 B_38 => ?_
 have q_39 := x_36.size
 have z_34 := Ext.tr z_31 x_36
 have q_40 := B_38.lt
 refine al rfl eF160 rfl rfl fun w_41 b_42 x_43 l_44 B_45 => ?_
 have q_46 := x_43.size
 have z_41 := Ext.tr z_34 x_43
 have q_47 := B_45.lt
 have B_38 := B_38.later x_43
 refine st rfl rfl B_38 rfl eF62 rfl rfl rfl fun w_48 m_49 B_38 => ?_
 have q_51 := m_49.size
 have z_48 := Ext.mod z_41 m_49 (ge1 (by omega))
 have q_50 := m_49.size
 have B_45 := B_45.mod m_49 (nm1 (by omega))
 refine st (new := [.slice A140 0 c140, .slice A141 0 c141, .slice A142 1 c142]) rfl rfl B_45 rfl eF162 rfl rfl rfl fun w_52 m_53 B_45 => ?_
 have q_55 := m_53.size
 have z_52 := Ext.mod z_48 m_53 (ge1 (by omega))
 have q_54 := m_53.size
 refine vl (as_ rfl) rfl <| nl <| nT <| sq <| rg <| vl (mv rfl) rfl <| vl (beq rfl rfl) rfl <| vl (mv rfl) rfl <| ug rfl rfl rfl <| vl (fa eF169 rfl) rfl <| ug rfl rfl rfl <| vl (ld rfl (B_45.one eF173 rfl)) rfl <| ug rfl rfl rfl <| bs (e := 4) (cs := [.bool true]) rfl (fun _ => by kernel_rfl) rfl fun w_56 b_57 x_58 l_59 B_60 => ?_
 have q_61 := x_58.size
 have z_56 := Ext.tr z_52 x_58
 have q_62 := B_60.lt
 refine ug rfl rfl rfl <| ?_
 have OR142 := OR142.later (Ext.tr x_36 x_43)
 have OR142 := OR142.mod m_49 (fk1 u_21 (by omega))
 have OR142 := OR142.mod m_53 (fk1 u_21 (by omega))
 have OR142 := OR142.later x_58
 refine ca eF174 rfl rfl ((equal_B _ _ _ _ _ _ ([true]) ([true]) _ OR142.has (Blk.hasN (R := repB) (by_ := 1) (k := [true]) B_60 [[.bool true]] rfl (⟨⟨rfl, trivial⟩, trivial⟩) (by simp) (by simp))).mono ?_)
 rintro e w_63 ⟨rfl, x_64⟩
 refine ⟨_, rfl, ?_⟩
 have q_65 := x_64.size
 have z_63 := Ext.tr z_56 x_64
 refine vl (pkT rfl rfl) rfl <| vl (mv rfl) rfl <| vQ rfl rfl rfl rfl (fun hc => fa eF134 rfl) rfl <| ?_
 have B_38 := B_38.mod m_53 (nm1 (by omega))
 have B_38 := B_38.later (Ext.tr x_58 x_64)
 refine vQ rfl rfl rfl rfl (fun hc => ld (gt hc rfl) (B_38.one eF1 rfl)) rfl <| vQ rfl rfl rfl rfl (fun hc => beq (gt hc rfl) rfl) rfl <| vl (pA rfl rfl rfl rfl) rfl <| vl (mv rfl) rfl <| vQ rfl rfl rfl rfl (fun hc => fa eF64 rfl) rfl <| vQ rfl rfl rfl rfl (fun hc => ld (gt hc rfl) (B_38.one eF65 rfl)) rfl <| vQ rfl rfl rfl rfl (fun hc => ln Try.underlying56 (gt hc rfl)) rfl <| vQ rfl rfl rfl rfl (fun hc => beq (gt hc rfl) rfl) rfl <| vl (pA rfl rfl rfl rfl) rfl <| vl (mv rfl) rfl <| vQ rfl rfl rfl rfl (fun hc => fa eF64 rfl) rfl <| vQ rfl rfl rfl rfl (fun hc => ld (gt hc rfl) (B_38.one eF65 rfl)) rfl <| ?_
 have HO14 := HO14.later (Ext.tr x_36 x_43)
 have HO14 := HO14.mod m_49 (fk1 u_15 (by omega))
 have HO14 := HO14.mod m_53 (fk1 u_15 (by omega))
 have HO14 := HO14.later (Ext.tr x_58 x_64)
 refine vQ rfl rfl rfl rfl (fun hc => iA 0 Try.underlying56 eF66 (gt hc rfl) rfl (HO14.T.has.adr (Nat.zero_lt_of_lt (show 0 < _ from (by decide +kernel : 0 < (tickV.troops).length)))) rfl (by decide +kernel : 0 < (tickV.troops).length)) rfl <| vQ rfl rfl rfl rfl (fun hc => fa eF109 (gt hc rfl)) rfl <| vQ rfl rfl rfl rfl (fun hc => ld (gt hc rfl) (Rep.SHas.fld hcT (HO14.T.has.adh (Nat.zero_lt_of_lt (show 0 < _ from (by decide +kernel : 0 < (tickV.troops).length)))) 6 (get_d (l := tickV.troops) (u := default) (by decide +kernel : 0 < (tickV.troops).length)) rfl eF1)) rfl <| vQ rfl rfl rfl rfl (fun hc => beq (gt hc rfl) rfl) rfl <| vl (pA rfl rfl rfl rfl) rfl <| vl (as_ rfl) rfl <| nl <| nT <| rt <| tR (.tmp rfl .nil) <| ?_
 exact ⟨ret_true (by decide +kernel), z_63⟩
end
section
open Go.RowKit
theorem tickRight_bad (a : Wd.At) (W : Wd) (A : Option Addr) (c : Nat) (l : List Odr) (w : World) (hW : Wd.Has w a W) (hl : Odr.rep.SHas 48 w A c l) (h0 : turnE W l ≠ 0) :
  Calls Try.prog 8 #[.agg ((Wd.cells a W).toArray), .slice A l.length c] w (fun e w' => e = .returned (.bool true) ∧ Ext w w') := by
 have k1 : (turnE W l != 0) = true := by simpa using h0
 obtain ⟨z1, z2, z3, z4⟩ := turn_no h0
 refine calls_W (n := 82) Try.func8 rfl rfl rfl ?_
 refine sq <| rg <| bx rfl rfl rfl rfl fun w_1 b_2 x_3 l_4 B_5 => ?_
 have q_6 := x_3.size
 have z_1 := Ext.tr (Ext.rf w) x_3
 have q_7 := B_5.lt
 refine vl (as_ rfl) rfl <| nl <| nT <| sq <| rg <| vl (ld rfl (B_5.all eF61 eF62)) rfl <| vl (mv rfl) rfl <| ca eF172 rfl rfl ((turn_any a W _ _ l _ (hW.keep z_1) (hl.keep z_1)).mono ?_)
 rintro e w_17 ⟨a8, A80, c80, A81, c81, A82, c82, rfl, HO8, OR80, OR81, OR82, hd8, x_18⟩
 refine ⟨_, rfl, ?_⟩
 have q_19 := x_18.size
 have z_17 := Ext.tr z_1 x_18
 have u_9 := fun q hq => (HO8.lt q hq).2
 have lo_10 := fun q hq => (HO8.lt q hq).1
 have u_11 := fun q hq => (OR80.lt q hq).2
 have lo_12 := fun q hq => (OR80.lt q hq).1
 have u_13 := fun q hq => (OR81.lt q hq).2
 have lo_14 := fun q hq => (OR81.lt q hq).1
 have u_15 := fun q hq => (OR82.lt q hq).2
 have lo_16 := fun q hq => (OR82.lt q hq).1
 have dd80 : ∀ q ∈ Rep.blkOf A80, q ∈ WOwn.foot a8 → False := fun q hq => hd8 q (.inl hq)
 have dw80 : ∀ q ∈ WOwn.foot a8, q ∈ Rep.blkOf A80 → False := fun q h1 h2 => dd80 q h2 h1
 have dd81 : ∀ q ∈ Rep.blkOf A81, q ∈ WOwn.foot a8 → False := fun q hq => hd8 q (.inr (.inl hq))
 have dw81 : ∀ q ∈ WOwn.foot a8, q ∈ Rep.blkOf A81 → False := fun q h1 h2 => dd81 q h2 h1
 have dd82 : ∀ q ∈ Rep.blkOf A82, q ∈ WOwn.foot a8 → False := fun q hq => hd8 q (.inr (.inr hq))
 have dw82 : ∀ q ∈ WOwn.foot a8, q ∈ Rep.blkOf A82 → False := fun q h1 h2 => dd82 q h2 h1
 refine vl (mv rfl) rfl <| vl (ex rfl rfl) rfl <| vl (ex rfl rfl) rfl <| vl (ex rfl rfl) rfl <| al rfl eF80 rfl rfl fun w_20 b_21 x_22 l_23 B_24 => ?_
 have q_25 := x_22.size
 have z_20 := Ext.tr z_17 x_22
 have q_26 := B_24.lt
 refine al rfl eF160 rfl rfl fun w_27 b_28 x_29 l_30 B_31 => ?_
 have q_32 := x_29.size
 have z_27 := Ext.tr z_20 x_29
 have q_33 := B_31.lt
 have B_24 := B_24.later x_29
 refine st rfl rfl B_24 rfl eF62 rfl rfl rfl fun w_34 m_35 B_24 => ?_
 have q_37 := m_35.size
 have z_34 := Ext.mod z_27 m_35 (ge1 (by omega))
 have q_36 := m_35.size
 have B_31 := B_31.mod m_35 (nm1 (by omega))
 refine st (new := [.slice A80 ((turnG W l).length) c80, .slice A81 ((turnM W l).length) c81, .slice A82 ((turnD W l).length) c82]) rfl rfl B_31 rfl eF162 rfl rfl rfl fun w_38 m_39 B_31 => ?_
 have q_41 := m_39.size
 have z_38 := Ext.mod z_34 m_39 (ge1 (by omega))
 have q_40 := m_39.size
 refine vl (as_ rfl) rfl <| nl <| nT <| sq <| sq <| rg <| ca eF175 rfl rfl ((tickLives_any _).mono ?_)
 rintro e w_42 ⟨rfl, x_43⟩
 refine ⟨_, rfl, ?_⟩
 have q_44 := x_43.size
 have z_42 := Ext.tr z_38 x_43
 refine vl (nt rfl) rfl <| vl (mv rfl) rfl <| ug rfl rfl rfl <| vl (mv rfl) rfl <| ug rfl rfl rfl <| vl (bne rfl rfl) rfl <| vl (pkF rfl (evb rfl k1)) rfl <| nl <| nT <| cT rfl <| sq <| rg <| ca eF175 rfl rfl ((tickLives_any _).mono ?_)
 rintro e w_45 ⟨rfl, x_46⟩
 refine ⟨_, rfl, ?_⟩
 have q_47 := x_46.size
 have z_45 := Ext.tr z_42 x_46
 refine vl (mv rfl) rfl <| ug rfl rfl rfl <| ?_
 have B_24 := B_24.mod m_39 (nm1 (by omega))
 have B_24 := B_24.later (Ext.tr x_43 x_46)
 refine vl (ld rfl (B_24.all eF61 eF62)) rfl <| ug rfl rfl rfl <| vl (v := .agg #[.int .i64 0, .int .i64 0, .slice none 0 0, .slice none 0 0, .slice none 0 0, .slice none 0 0, .slice none 0 0, .int .i64 0, .int .i64 0]) (bd rfl (by kernel_rfl)) rfl <| ug rfl rfl rfl <| ?_
 have HO8 := HO8.later (Ext.tr x_22 x_29)
 have HO8 := HO8.mod m_35 (fk1 u_9 (by omega))
 have HO8 := HO8.mod m_39 (fk1 u_9 (by omega))
 have HO8 := HO8.later (Ext.tr x_43 x_46)
 refine ca eF176 rfl rfl ((sameWorld_any _ a8 (turnW W l) (⟨none, none, none, none, none, 0, 0, 0, 0, 0⟩ : Wd.At) Wd.zero HO8.has (WOwn.zero _ 0).has).mono ?_)
 rintro e w_48 ⟨rfl, x_49⟩
 refine ⟨_, rfl, ?_⟩
 have q_50 := x_49.size
 have z_48 := Ext.tr z_45 x_49
 refine vl (pkT rfl rfl) rfl <| vl (as_ rfl) rfl <| nl <| nT <| rt <| tT <| tR (.tmp rfl .nil) <| ?_
 exact ⟨ret_true (by rw [z1]; simp), z_48⟩
theorem tickRight_ok (a : Wd.At) (W : Wd) (A : Option Addr) (c : Nat) (l : List Odr) (w : World) (hW : Wd.Has w a W) (hl : Odr.rep.SHas 48 w A c l) (h0 : turnE W l = 0) :
  Calls Try.prog 8 #[.agg ((Wd.cells a W).toArray), .slice A l.length c] w (fun e w' => e = .returned (.bool true) ∧ Ext w w') := by
 have k1 : (turnE W l != 0) = false := by simpa using h0
 obtain ⟨h1, h2, h3, h4⟩ := turnE_zero h0
 obtain ⟨r1, r2, r3, r4⟩ := turn_right h0
 obtain ⟨n1, n2, n3, n4, n5⟩ := turn_nil h3 h2
 have hnw := (Good.of_chk h3).now
 have hn6 : (turnW W []).now = W.now + 1 := by rw [n2]
 have l1 : (turnG W []).length = 0 := by rw [n3]; rfl
 have l2 : (turnM W []).length = 0 := by rw [n4]; rfl
 have l3 : (turnD W []).length = 0 := by rw [n5]; rfl
 refine calls_W (n := 82) Try.func8 rfl rfl rfl ?_
 refine sq <| rg <| bx rfl rfl rfl rfl fun w_1 b_2 x_3 l_4 B_5 => ?_
 have q_6 := x_3.size
 have z_1 := Ext.tr (Ext.rf w) x_3
 have q_7 := B_5.lt
 refine vl (as_ rfl) rfl <| nl <| nT <| sq <| rg <| vl (ld rfl (B_5.all eF61 eF62)) rfl <| vl (mv rfl) rfl <| ca eF172 rfl rfl ((turn_any a W _ _ l _ (hW.keep z_1) (hl.keep z_1)).mono ?_)
 rintro e w_17 ⟨a8, A80, c80, A81, c81, A82, c82, rfl, HO8, OR80, OR81, OR82, hd8, x_18⟩
 refine ⟨_, rfl, ?_⟩
 have q_19 := x_18.size
 have z_17 := Ext.tr z_1 x_18
 have u_9 := fun q hq => (HO8.lt q hq).2
 have lo_10 := fun q hq => (HO8.lt q hq).1
 have u_11 := fun q hq => (OR80.lt q hq).2
 have lo_12 := fun q hq => (OR80.lt q hq).1
 have u_13 := fun q hq => (OR81.lt q hq).2
 have lo_14 := fun q hq => (OR81.lt q hq).1
 have u_15 := fun q hq => (OR82.lt q hq).2
 have lo_16 := fun q hq => (OR82.lt q hq).1
 have dd80 : ∀ q ∈ Rep.blkOf A80, q ∈ WOwn.foot a8 → False := fun q hq => hd8 q (.inl hq)
 have dw80 : ∀ q ∈ WOwn.foot a8, q ∈ Rep.blkOf A80 → False := fun q h1 h2 => dd80 q h2 h1
 have dd81 : ∀ q ∈ Rep.blkOf A81, q ∈ WOwn.foot a8 → False := fun q hq => hd8 q (.inr (.inl hq))
 have dw81 : ∀ q ∈ WOwn.foot a8, q ∈ Rep.blkOf A81 → False := fun q h1 h2 => dd81 q h2 h1
 have dd82 : ∀ q ∈ Rep.blkOf A82, q ∈ WOwn.foot a8 → False := fun q hq => hd8 q (.inr (.inr hq))
 have dw82 : ∀ q ∈ WOwn.foot a8, q ∈ Rep.blkOf A82 → False := fun q h1 h2 => dd82 q h2 h1
 refine vl (mv rfl) rfl <| vl (ex rfl rfl) rfl <| vl (ex rfl rfl) rfl <| vl (ex rfl rfl) rfl <| al rfl eF80 rfl rfl fun w_20 b_21 x_22 l_23 B_24 => ?_
 have q_25 := x_22.size
 have z_20 := Ext.tr z_17 x_22
 have q_26 := B_24.lt
 refine al rfl eF160 rfl rfl fun w_27 b_28 x_29 l_30 B_31 => ?_
 have q_32 := x_29.size
 have z_27 := Ext.tr z_20 x_29
 have q_33 := B_31.lt
 have B_24 := B_24.later x_29
 refine st rfl rfl B_24 rfl eF62 rfl rfl rfl fun w_34 m_35 B_24 => ?_
 have q_37 := m_35.size
 have z_34 := Ext.mod z_27 m_35 (ge1 (by omega))
 have q_36 := m_35.size
 have B_31 := B_31.mod m_35 (nm1 (by omega))
 refine st (new := [.slice A80 ((turnG W l).length) c80, .slice A81 ((turnM W l).length) c81, .slice A82 ((turnD W l).length) c82]) rfl rfl B_31 rfl eF162 rfl rfl rfl fun w_38 m_39 B_31 => ?_
 have q_41 := m_39.size
 have z_38 := Ext.mod z_34 m_39 (ge1 (by omega))
 have q_40 := m_39.size
 refine vl (as_ rfl) rfl <| nl <| nT <| sq <| sq <| rg <| ca eF175 rfl rfl ((tickLives_any _).mono ?_)
 rintro e w_42 ⟨rfl, x_43⟩
 refine ⟨_, rfl, ?_⟩
 have q_44 := x_43.size
 have z_42 := Ext.tr z_38 x_43
 refine vl (nt rfl) rfl <| vl (mv rfl) rfl <| ug rfl rfl rfl <| vl (mv rfl) rfl <| ug rfl rfl rfl <| vl (bne rfl rfl) rfl <| vl (pkF rfl (evb rfl k1)) rfl <| nl <| nT <| cF rfl <| sk <| nT <| sq <| rg <| ?_
 have B_5 := B_5.later (Ext.tr x_18 (Ext.tr x_22 x_29))
 have B_5 := B_5.mod m_35 (nm1 (by omega))
 have B_5 := B_5.mod m_39 (nm1 (by omega))
 have B_5 := B_5.later x_43
 refine vl (ld rfl (B_5.all eF61 eF62)) rfl <| ca eF172 rfl rfl ((turn_any a W _ _ ([] : List Odr) _ (hW.keep z_42) (Rep.SHas.nil _)).mono ?_)
 rintro e w_54 ⟨a45, A450, c450, A451, c451, A452, c452, rfl, HO45, OR450, OR451, OR452, hd45, x_55⟩
 refine ⟨_, rfl, ?_⟩
 have q_56 := x_55.size
 have z_54 := Ext.tr z_42 x_55
 have u_46 := fun q hq => (HO45.lt q hq).2
 have lo_47 := fun q hq => (HO45.lt q hq).1
 have u_48 := fun q hq => (OR450.lt q hq).2
 have lo_49 := fun q hq => (OR450.lt q hq).1
 have u_50 := fun q hq => (OR451.lt q hq).2
 have lo_51 := fun q hq => (OR451.lt q hq).1
 have u_52 := fun q hq => (OR452.lt q hq).2
 have lo_53 := fun q hq => (OR452.lt q hq).1
 have dd450 : ∀ q ∈ Rep.blkOf A450, q ∈ WOwn.foot a45 → False := fun q hq => hd45 q (.inl hq)
 have dw450 : ∀ q ∈ WOwn.foot a45, q ∈ Rep.blkOf A450 → False := fun q h1 h2 => dd450 q h2 h1
 have dd451 : ∀ q ∈ Rep.blkOf A451, q ∈ WOwn.foot a45 → False := fun q hq => hd45 q (.inr (.inl hq))
 have dw451 : ∀ q ∈ WOwn.foot a45, q ∈ Rep.blkOf A451 → False := fun q h1 h2 => dd451 q h2 h1
 have dd452 : ∀ q ∈ Rep.blkOf A452, q ∈ WOwn.foot a45 → False := fun q hq => hd45 q (.inr (.inr hq))
 have dw452 : ∀ q ∈ WOwn.foot a45, q ∈ Rep.blkOf A452 → False := fun q h1 h2 => dd452 q h2 h1
 refine vl (mv rfl) rfl <| vl (ex rfl rfl) rfl <| vl (ex rfl rfl) rfl <| vl (ex rfl rfl) rfl <| al rfl eF80 rfl rfl fun w_57 b_58 x_59 l_60 B_61 => ?_
 have q_62 := x_59.size
 have z_57 := Ext.tr z_54 x_59
 have q_63 := B_61.lt
 refine al rfl eF160 rfl rfl fun w_64 b_65 x_66 l_67 B_68 => ?_
 have q_69 := x_66.size
 have z_64 := Ext.tr z_57 x_66
 have q_70 := B_68.lt
 have B_61 := B_61.later x_66
 refine st rfl rfl B_61 rfl eF62 rfl rfl rfl fun w_71 m_72 B_61 => ?_
 have q_74 := m_72.size
 have z_71 := Ext.mod z_64 m_72 (ge1 (by omega))
 have q_73 := m_72.size
 have B_68 := B_68.mod m_72 (nm1 (by omega))
 refine st (new := [.slice A450 ((turnG W ([] : List Odr)).length) c450, .slice A451 ((turnM W ([] : List Odr)).length) c451, .slice A452 ((turnD W ([] : List Odr)).length) c452]) rfl rfl B_68 rfl eF162 rfl rfl rfl fun w_75 m_76 B_68 => ?_
 have q_78 := m_76.size
 have z_75 := Ext.mod z_71 m_76 (ge1 (by omega))
 have q_77 := m_76.size
 refine vl (as_ rfl) rfl <| nl <| nT <| sq <| sq <| rg <| ?_
 have B_24 := B_24.mod m_39 (nm1 (by omega))
 have B_24 := B_24.later (Ext.tr x_43 (Ext.tr x_55 (Ext.tr x_59 x_66)))
 have B_24 := B_24.mod m_72 (nm1 (by omega))
 have B_24 := B_24.mod m_76 (nm1 (by omega))
 refine vl (ld rfl (B_24.all eF61 eF62)) rfl <| ?_
 have HO8 := HO8.later (Ext.tr x_22 x_29)
 have HO8 := HO8.mod m_35 (fk1 u_9 (by omega))
 have HO8 := HO8.mod m_39 (fk1 u_9 (by omega))
 have HO8 := HO8.later (Ext.tr x_43 (Ext.tr x_55 (Ext.tr x_59 x_66)))
 have HO8 := HO8.mod m_72 (fk1 u_9 (by omega))
 have HO8 := HO8.mod m_76 (fk1 u_9 (by omega))
 refine ca eF63 rfl rfl ((check_any a8 (turnW W l) _ HO8.has).mono ?_)
 rintro e w_79 ⟨rfl, x_80⟩
 refine ⟨_, rfl, ?_⟩
 have q_81 := x_80.size
 have z_79 := Ext.tr z_75 x_80
 refine vl (bne rfl rfl) rfl <| vl (mv rfl) rfl <| vQ rfl rfl rfl rfl (fun hc => fa eF134 rfl) rfl <| ?_
 have B_24 := B_24.later x_80
 refine vQ rfl rfl rfl rfl (fun hc => ld (gt hc rfl) (B_24.one eF1 rfl)) rfl <| vQ rfl rfl rfl rfl (fun hc => fa eF134 rfl) rfl <| ?_
 have B_5 := B_5.later (Ext.tr x_55 (Ext.tr x_59 x_66))
 have B_5 := B_5.mod m_72 (nm1 (by omega))
 have B_5 := B_5.mod m_76 (nm1 (by omega))
 have B_5 := B_5.later x_80
 refine vQ rfl rfl rfl rfl (fun hc => ld (gt hc rfl) (B_5.one eF1 rfl)) rfl <| vQ rfl rfl rfl rfl (fun hc => bad (gt hc rfl) rfl (inI (by (try simp only [Bool.or_eq_true, Bool.or_eq_false_iff, Bool.and_eq_true, Bool.and_eq_false_iff, decide_eq_true_eq, decide_eq_false_iff_not, beq_iff_eq, bne_iff_ne, beq_eq_false_iff_ne, bne_eq_false_iff_eq, Bool.not_eq_true', Bool.not_eq_false', Bool.not_eq_true, Bool.not_eq_false, Int.not_lt, Int.not_le, Nat.not_lt, Nat.not_le, ne_eq, Classical.not_not] at hc); omega))) rfl <| vQ rfl rfl rfl rfl (fun hc => bne (gt hc rfl) (gt hc rfl)) rfl <| vl (pO rfl rfl rfl rfl) rfl <| vl (mv rfl) rfl <| vQ rfl rfl rfl rfl (fun hc => mv rfl) rfl <| vQ rfl rfl rfl rfl (fun hc => bne (gt hc rfl) rfl) rfl <| vl (pO rfl rfl rfl rfl) rfl <| vl (mv rfl) rfl <| vQ rfl rfl rfl rfl (fun hc => fa eF165 rfl) rfl <| ?_
 have B_68 := B_68.later x_80
 refine vQ rfl rfl rfl rfl (fun hc => ld (gt hc rfl) (B_68.one eF36 rfl)) rfl <| vQ rfl rfl rfl rfl (fun hc => ln Try.underlying42 (gt hc rfl)) rfl <| vQ rfl rfl rfl rfl (fun hc => fa eF167 rfl) rfl <| vQ rfl rfl rfl rfl (fun hc => ld (gt hc rfl) (B_68.one eF36 rfl)) rfl <| vQ rfl rfl rfl rfl (fun hc => ln Try.underlying42 (gt hc rfl)) rfl <| vQ rfl rfl rfl rfl (fun hc => bad (gt hc rfl) (gt hc rfl) (inI (by (try simp only [Bool.or_eq_true, Bool.or_eq_false_iff, Bool.and_eq_true, Bool.and_eq_false_iff, decide_eq_true_eq, decide_eq_false_iff_not, beq_iff_eq, bne_iff_ne, beq_eq_false_iff_ne, bne_eq_false_iff_eq, Bool.not_eq_true', Bool.not_eq_false', Bool.not_eq_true, Bool.not_eq_false, Int.not_lt, Int.not_le, Nat.not_lt, Nat.not_le, ne_eq, Classical.not_not] at hc); omega))) rfl <| vQ rfl rfl rfl rfl (fun hc => fa eF169 rfl) rfl <| vQ rfl rfl rfl rfl (fun hc => ld (gt hc rfl) (B_68.one eF173 rfl)) rfl <| vQ rfl rfl rfl rfl (fun hc => ln Try.underlying37 (gt hc rfl)) rfl <| vQ rfl rfl rfl rfl (fun hc => bad (gt hc rfl) (gt hc rfl) (inI (by (try simp only [Bool.or_eq_true, Bool.or_eq_false_iff, Bool.and_eq_true, Bool.and_eq_false_iff, decide_eq_true_eq, decide_eq_false_iff_not, beq_iff_eq, bne_iff_ne, beq_eq_false_iff_ne, bne_eq_false_iff_eq, Bool.not_eq_true', Bool.not_eq_false', Bool.not_eq_true, Bool.not_eq_false, Int.not_lt, Int.not_le, Nat.not_lt, Nat.not_le, ne_eq, Classical.not_not] at hc); omega))) rfl <| vQ rfl rfl rfl rfl (fun hc => bne (gt hc rfl) rfl) rfl <| vl (pO rfl rfl rfl rfl) rfl <| nl <| nT <| ?_
 have h_82 : ((((((turnW W l).chk) != 0) || (((turnW W l).now) != (W.now + 1))) || ((turnE W ([] : List Odr)) != 0)) || (((((((turnG W ([] : List Odr)).length : Nat) : Int)) + ((((turnM W ([] : List Odr)).length : Nat) : Int))) + ((((turnD W ([] : List Odr)).length : Nat) : Int))) != 0)) = false := by rw [r1, r2, n1, l1, l2, l3]; simp
 refine cF (by rw [← h_82]; rfl) <| sk <| nT <| sq <| rg <| vl (fa eF134 rfl) rfl <| ?_
 have B_61 := B_61.mod m_76 (nm1 (by omega))
 have B_61 := B_61.later x_80
 refine vl (ld rfl (B_61.one eF1 rfl)) rfl <| vl (bsu rfl rfl (inI (by omega))) rfl <| vl (fa eF134 rfl) rfl <| st (new := [.int .i64 ((turnW W ([] : List Odr)).field.wide), .int .i64 ((turnW W ([] : List Odr)).field.high), .slice a45.P ((turnW W ([] : List Odr)).field.places.length) a45.p, .slice a45.B ((turnW W ([] : List Odr)).bases.length) a45.b, .slice a45.S ((turnW W ([] : List Odr)).stocks.length) a45.s, .slice a45.M ((turnW W ([] : List Odr)).mines.length) a45.m, .slice a45.T ((turnW W ([] : List Odr)).troops.length) a45.t, .int .i64 ((turnW W ([] : List Odr)).next), .int .i64 (((turnW W ([] : List Odr)).now) - 1)]) rfl rfl B_61 rfl eF7 rfl rfl rfl fun w_83 m_84 B_61 => ?_
 have q_86 := m_84.size
 have z_83 := Ext.mod z_79 m_84 (ge1 (by omega))
 have q_85 := m_84.size
 refine nl <| nT <| sq <| rg <| vl (ld rfl (B_61.all eF61 eF62)) rfl <| ?_
 have B_5 := B_5.mod m_84 (nm1 (by omega))
 refine vl (ld rfl (B_5.all eF61 eF62)) rfl <| ?_
 have HO45 := HO45.later (Ext.tr x_59 x_66)
 have HO45 := HO45.mod m_72 (fk1 u_46 (by omega))
 have HO45 := HO45.mod m_76 (fk1 u_46 (by omega))
 have HO45 := HO45.later x_80
 have HO45 := HO45.mod m_84 (fk1 u_46 (by omega))
 refine ca eF176 rfl rfl ((sameWorld_any _ (⟨a45.P, a45.B, a45.S, a45.M, a45.T, a45.p, a45.b, a45.s, a45.m, a45.t⟩ : Wd.At) ({ turnW W [] with now := (turnW W []).now - 1 }) a W ⟨HO45.P.has, HO45.B.has, HO45.S.has, HO45.M.has, HO45.T.has, (by rw [n2]; exact ⟨hW.nums.1, hW.nums.2.1, hW.nums.2.2.1, okI_iff.2 (by show _ ≤ W.now + 1 - 1 ∧ W.now + 1 - 1 ≤ _; omega)⟩)⟩ (hW.keep z_83)).mono ?_)
 rintro e w_87 ⟨rfl, x_88⟩
 refine ⟨_, rfl, ?_⟩
 have q_89 := x_88.size
 have z_87 := Ext.tr z_83 x_88
 refine vl (mv rfl) rfl <| vQ rfl rfl rfl rfl (fun hc => fa eF165 rfl) rfl <| ?_
 have B_31 := B_31.later (Ext.tr x_43 (Ext.tr x_55 (Ext.tr x_59 x_66)))
 have B_31 := B_31.mod m_72 (nm1 (by omega))
 have B_31 := B_31.mod m_76 (nm1 (by omega))
 have B_31 := B_31.later x_80
 have B_31 := B_31.mod m_84 (nm1 (by omega))
 have B_31 := B_31.later x_88
 refine vQ rfl rfl rfl rfl (fun hc => ld (gt hc rfl) (B_31.one eF36 rfl)) rfl <| ?_
 have OR80 := OR80.later (Ext.tr x_22 x_29)
 have OR80 := OR80.mod m_35 (fk1 u_11 (by omega))
 have OR80 := OR80.mod m_39 (fk1 u_11 (by omega))
 have OR80 := OR80.later (Ext.tr x_43 (Ext.tr x_55 (Ext.tr x_59 x_66)))
 have OR80 := OR80.mod m_72 (fk1 u_11 (by omega))
 have OR80 := OR80.mod m_76 (fk1 u_11 (by omega))
 have OR80 := OR80.later x_80
 have OR80 := OR80.mod m_84 (fk1 u_11 (by omega))
 have OR80 := OR80.later x_88
 refine vC rfl rfl rfl rfl eF177 (fun hc => ec (gt hc rfl) rfl) (fun hc => isSorted_I _ _ (turnG W l) _ OR80.has) rfl fun w_90 x_91 => ?_
 have q_92 := x_91.size
 have z_90 := Ext.tr z_87 x_91
 refine vl (pA rfl rfl rfl rfl) rfl <| vl (mv rfl) rfl <| vQ rfl rfl rfl rfl (fun hc => fa eF167 rfl) rfl <| ?_
 have B_31 := B_31.later x_91
 refine vQ rfl rfl rfl rfl (fun hc => ld (gt hc rfl) (B_31.one eF36 rfl)) rfl <| ?_
 have OR81 := OR81.later (Ext.tr x_22 x_29)
 have OR81 := OR81.mod m_35 (fk1 u_13 (by omega))
 have OR81 := OR81.mod m_39 (fk1 u_13 (by omega))
 have OR81 := OR81.later (Ext.tr x_43 (Ext.tr x_55 (Ext.tr x_59 x_66)))
 have OR81 := OR81.mod m_72 (fk1 u_13 (by omega))
 have OR81 := OR81.mod m_76 (fk1 u_13 (by omega))
 have OR81 := OR81.later x_80
 have OR81 := OR81.mod m_84 (fk1 u_13 (by omega))
 have OR81 := OR81.later (Ext.tr x_88 x_91)
 refine vC rfl rfl rfl rfl eF177 (fun hc => ec (gt hc rfl) rfl) (fun hc => isSorted_I _ _ (turnM W l) _ OR81.has) rfl fun w_93 x_94 => ?_
 have q_95 := x_94.size
 have z_93 := Ext.tr z_90 x_94
 refine vl (pA rfl rfl rfl rfl) rfl <| vl (as_ rfl) rfl <| nl <| nT <| rt <| tR (.tmp rfl .nil) <| ?_
 exact ⟨ret_true (by rw [n2, r3, r4]; simp), z_93⟩
theorem tickRight_any (c0 : Array Value) (a1 : Option Addr) (len1 cap1 : Nat) (w : World) (h0 : (.cons (.cons (.int .i64) (.cons (.int .i64) (.cons (.slice (.int .i64) 8) .nil))) (.cons (.slice (.cons (.int .i64) (.cons (.int .i64) .nil)) 16) (.cons (.slice (.int .i64) 8) (.cons (.slice (.int .i64) 8) (.cons (.slice (.cons (.int .i64) (.cons (.int .i64) (.cons (.int .i64) (.cons (.cons (.int .i64) (.cons (.int .i64) .nil)) (.cons (.int .i64) (.cons (.int .i64) .nil)))))) 56) (.cons (.int .i64) (.cons (.int .i64) .nil)))))) : Sh).Ok w c0.toList) (h1 : (.slice (.cons (.int .i64) (.cons (.int .i64) (.cons (.int .i64) (.cons (.cons (.int .i64) (.cons (.int .i64) .nil)) (.cons (.int .i64) .nil))))) 48 : Sh).Ok w [.slice a1 len1 cap1]) :
  Calls Try.prog 8 #[.agg c0, .slice a1 len1 cap1] w fun e w' => e = .returned (.bool true) ∧ Below w.heap.size w w' := by
 obtain ⟨a, W, e, hW⟩ := Wd.opens w _ (show Wd.sh.Ok w c0.toList from h0)
 have hc : c0 = (Wd.cells a W).toArray := by rw [← e]
 subst hc
 obtain ⟨A, c, l, e1, hl⟩ := Rep.opens_slice (R := Odr.rep) (by_ := 48) Odr.opens rfl (by decide) h1
 simp only [List.cons.injEq, Value.slice.injEq, and_true] at e1
 obtain ⟨rfl, rfl, rfl⟩ := e1
 by_cases k : turnE W l = 0
 ·exact tickRight_ok a W _ _ l w hW hl k
 ·exact tickRight_bad a W _ _ l w hW hl k
end
end Go.Proofs.Ytccankldeogdlaa
