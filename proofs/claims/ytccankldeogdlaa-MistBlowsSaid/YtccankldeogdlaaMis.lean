import Derived.Test.YtccankldeogdlaaGolC
import Derived.Test.YtccankldeogdlaaTroG
import Derived.Test.YtccankldeogdlaaGooL
import Derived.Test.YtccankldeogdlaaGooO
import Derived.Test.YtccankldeogdlaaGol
import Derived.Test.YtccankldeogdlaaLinG
import Derived.Test.YtccankldeogdlaaBas
import Derived.Test.YtccankldeogdlaaFldR
set_option linter.unusedVariables false
set_option linter.unusedSimpArgs false
set_option maxRecDepth 100000
set_option maxHeartbeats 4000000
namespace Go.Proofs.Ytccankldeogdlaa
section
open Go.RowKit
theorem check_any (a : Wd.At) (W : Wd) (w : World) (hW : Wd.Has w a W) :
  Calls Try.prog 30 #[.agg (Wd.cells a W).toArray] w λ e w' => e = .returned (.int .i64 W.chk) ∧ Below w.heap.size w w' := by
 have hpl := λ h0 h8 V (h : Wd.Has V a W) => players_any a W V h h0 h8
 have hmi := λ V (h : Wd.Has V a W) => mines_any a W V h
 have htr := λ h0 h8 h100 V (h : Wd.Has V a W) => troops_any a W V h h0 h8 h100
 obtain ⟨aP, aB, aS, aM, aT, kP, kB, kS, kM, kT⟩ := a
 show Calls _ _ #[.agg #[.int .i64 W.field.wide, .int .i64 W.field.high, .slice aP W.field.places.length kP, .slice aB W.bases.length kB, .slice aS W.stocks.length kS, .slice aM W.mines.length kM, .slice aT W.troops.length kT, .int .i64 W.next, .int .i64 W.now]] _ _
 have hb0 := below_alloc0 w (.cells (Wd.cells ⟨aP, aB, aS, aM, aT, kP, kB, kS, kM, kT⟩ W).toArray 58)
 have HA := Lib.hid (Blk.new w (Wd.cells ⟨aP, aB, aS, aM, aT, kP, kB, kS, kM, kT⟩ W) 58 (0, 0))
 have HH := Lib.hid (hW.keep hb0)
 obtain ⟨w0, HW0⟩ : ∃ w0, Hid (w.alloc (.cells (Wd.cells ⟨aP, aB, aS, aM, aT, kP, kB, kS, kM, kT⟩ W).toArray 58) = w0) := ⟨_, Lib.hid rfl⟩
 rw [HW0.out] at hb0 HH
 have HA : Hid (Blk w0 w.heap.size (Wd.cells ⟨aP, aB, aS, aM, aT, kP, kB, kS, kM, kT⟩ W) 58 (0, 0)) := by rw [← HW0.out]; exact HA
 have hf := fldCheck W.field aP kP w0 HH.out.P
 have HW1 : Hid (w.alloc (.cells #[.int .i64 W.field.wide, .int .i64 W.field.high, .slice aP W.field.places.length kP, .slice aB W.bases.length kB, .slice aS W.stocks.length kS, .slice aM W.mines.length kM, .slice aT W.troops.length kT, .int .i64 W.next, .int .i64 W.now] 58) = w0) := by rw [← HW0.out]; rfl
 obtain ⟨c0, c1, c2, c3, c4, c5, c6, c7, c8⟩ := Wd.wblk HA.out
 clear hW
 by_cases hf0 : W.field.chk = 0
 ·by_cases hlg : 8 < W.bases.length ∨ 100 < W.troops.length
  ·rw [Wd.chk_large hf0 hlg]
   rw [hf0] at hf
   have HLG := Lib.hid hlg
   clear hlg hf0 hpl hmi htr
   generalize W.field.places.length = np at *
   generalize W.bases.length = nb at *
   generalize W.stocks.length = ns at *
   generalize W.mines.length = nm at *
   generalize W.troops.length = nt at *
   go_enter Try.func30, Try.ntmps30
   go_wp2_with fail
   rw [HW1.out]
   refine hf.mono ?_; rintro e w2 ⟨rfl, hb2⟩
   have d3 := cell_later hb2 c3
   have d6 := cell_later hb2 c6
   have key : decide ((8 : Int) < (nb : Int)) = true ∨ (decide ((8 : Int) < (nb : Int)) = false ∧ decide ((100 : Int) < (nt : Int)) = true) := by
    have := HLG.out
    simp; omega
   clear c0 c1 c2 c3 c4 c5 c6 c7 c8
   rcases key with h | ⟨h, h2⟩
   all_goals
    go_wp2_with fail
    go_ret
    exact ⟨rfl, hb0.trans (hb2.mono hb0.size)⟩
  ·rw [Wd.chk_all hf0 hlg]
   have h8 : W.bases.length ≤ 8 := by omega
   have h100 : W.troops.length ≤ 100 := by omega
   have hpl := hpl hf0 h8
   have htr := htr hf0 h8 h100
   rw [hf0] at hf
   have g1 : decide ((8 : Int) < (W.bases.length : Int)) = false := by simp; omega
   have g2 : decide ((100 : Int) < (W.troops.length : Int)) = false := by simp; omega
   have HPL := Lib.hid (λ V (h : Below w0.heap.size w0 V) => hpl V (HH.out.keep h))
   have HMI := Lib.hid (λ V (h : Below w0.heap.size w0 V) => hmi V (HH.out.keep h))
   have HTR := Lib.hid (λ V (h : Below w0.heap.size w0 V) => htr V (HH.out.keep h))
   rw [Wd.cells_eq] at HPL HMI HTR
   have HPL : Hid (∀ V, Below w0.heap.size w0 V → Calls Try.prog 65 #[.agg #[.int .i64 W.field.wide, .int .i64 W.field.high, .slice aP W.field.places.length kP, .slice aB W.bases.length kB, .slice aS W.stocks.length kS, .slice aM W.mines.length kM, .slice aT W.troops.length kT, .int .i64 W.next, .int .i64 W.now]] V λ e w' => e = .returned (.bool W.players) ∧ Below V.heap.size V w') := HPL
   have HMI : Hid (∀ V, Below w0.heap.size w0 V → Calls Try.prog 66 #[.agg #[.int .i64 W.field.wide, .int .i64 W.field.high, .slice aP W.field.places.length kP, .slice aB W.bases.length kB, .slice aS W.stocks.length kS, .slice aM W.mines.length kM, .slice aT W.troops.length kT, .int .i64 W.next, .int .i64 W.now]] V λ e w' => e = .returned (.bool W.minesOk) ∧ Below V.heap.size V w') := HMI
   have HTR : Hid (∀ V, Below w0.heap.size w0 V → Calls Try.prog 67 #[.agg #[.int .i64 W.field.wide, .int .i64 W.field.high, .slice aP W.field.places.length kP, .slice aB W.bases.length kB, .slice aS W.stocks.length kS, .slice aM W.mines.length kM, .slice aT W.troops.length kT, .int .i64 W.next, .int .i64 W.now]] V λ e w' => e = .returned (.bool W.troopsOk) ∧ Below V.heap.size V w') := HTR
   clear hlg hf0 hpl hmi htr h8 h100
   generalize W.players = r1 at *
   generalize W.minesOk = r2 at *
   generalize W.troopsOk = r3 at *
   generalize W.field.places.length = np at *
   generalize W.bases.length = nb at *
   generalize W.stocks.length = ns at *
   generalize W.mines.length = nm at *
   generalize W.troops.length = nt at *
   have q0 := hf
   clear hf
   cases r1 with
   | false =>
    go_enter Try.func30, Try.ntmps30
    go_wp2_with fail
    rw [HW1.out]
    refine q0.mono ?_; rintro e w2 ⟨rfl, hb2⟩
    have c0 := cell_later hb2 c0
    have c1 := cell_later hb2 c1
    have c2 := cell_later hb2 c2
    have c3 := cell_later hb2 c3
    have c4 := cell_later hb2 c4
    have c5 := cell_later hb2 c5
    have c6 := cell_later hb2 c6
    have c7 := cell_later hb2 c7
    have c8 := cell_later hb2 c8
    go_wp2_with fail
    refine (HPL.out _ hb2).mono ?_; rintro e w3 ⟨rfl, hb3⟩
    go_wp2_with fail
    go_ret
    exact ⟨rfl, hb0.trans ((below_on hb2 hb3).mono hb0.size)⟩
   | true =>
    cases r2 with
    | false =>
     go_enter Try.func30, Try.ntmps30
     go_wp2_with fail
     rw [HW1.out]
     refine q0.mono ?_; rintro e w2 ⟨rfl, hb2⟩
     have c0 := cell_later hb2 c0
     have c1 := cell_later hb2 c1
     have c2 := cell_later hb2 c2
     have c3 := cell_later hb2 c3
     have c4 := cell_later hb2 c4
     have c5 := cell_later hb2 c5
     have c6 := cell_later hb2 c6
     have c7 := cell_later hb2 c7
     have c8 := cell_later hb2 c8
     go_wp2_with fail
     refine (HPL.out _ hb2).mono ?_; rintro e w3 ⟨rfl, hb3⟩
     have hb23 := below_on hb2 hb3
     have c0 := cell_later hb3 c0
     have c1 := cell_later hb3 c1
     have c2 := cell_later hb3 c2
     have c3 := cell_later hb3 c3
     have c4 := cell_later hb3 c4
     have c5 := cell_later hb3 c5
     have c6 := cell_later hb3 c6
     have c7 := cell_later hb3 c7
     have c8 := cell_later hb3 c8
     go_wp2_with fail
     refine (HMI.out _ hb23).mono ?_; rintro e w4 ⟨rfl, hb4⟩
     go_wp2_with fail
     go_ret
     exact ⟨rfl, hb0.trans ((below_on hb23 hb4).mono hb0.size)⟩
    | true =>
     cases r3 with
     | false =>
      go_enter Try.func30, Try.ntmps30
      go_wp2_with fail
      rw [HW1.out]
      refine q0.mono ?_; rintro e w2 ⟨rfl, hb2⟩
      have c0 := cell_later hb2 c0
      have c1 := cell_later hb2 c1
      have c2 := cell_later hb2 c2
      have c3 := cell_later hb2 c3
      have c4 := cell_later hb2 c4
      have c5 := cell_later hb2 c5
      have c6 := cell_later hb2 c6
      have c7 := cell_later hb2 c7
      have c8 := cell_later hb2 c8
      go_wp2_with fail
      refine (HPL.out _ hb2).mono ?_; rintro e w3 ⟨rfl, hb3⟩
      have hb23 := below_on hb2 hb3
      have c0 := cell_later hb3 c0
      have c1 := cell_later hb3 c1
      have c2 := cell_later hb3 c2
      have c3 := cell_later hb3 c3
      have c4 := cell_later hb3 c4
      have c5 := cell_later hb3 c5
      have c6 := cell_later hb3 c6
      have c7 := cell_later hb3 c7
      have c8 := cell_later hb3 c8
      go_wp2_with fail
      refine (HMI.out _ hb23).mono ?_; rintro e w4 ⟨rfl, hb4⟩
      have hb24 := below_on hb23 hb4
      have c0 := cell_later hb4 c0
      have c1 := cell_later hb4 c1
      have c2 := cell_later hb4 c2
      have c3 := cell_later hb4 c3
      have c4 := cell_later hb4 c4
      have c5 := cell_later hb4 c5
      have c6 := cell_later hb4 c6
      have c7 := cell_later hb4 c7
      have c8 := cell_later hb4 c8
      go_wp2_with fail
      refine (HTR.out _ hb24).mono ?_; rintro e w5 ⟨rfl, hb5⟩
      go_wp2_with fail
      go_ret
      exact ⟨rfl, hb0.trans ((below_on hb24 hb5).mono hb0.size)⟩
     | true =>
      go_enter Try.func30, Try.ntmps30
      go_wp2_with fail
      rw [HW1.out]
      refine q0.mono ?_; rintro e w2 ⟨rfl, hb2⟩
      have c0 := cell_later hb2 c0
      have c1 := cell_later hb2 c1
      have c2 := cell_later hb2 c2
      have c3 := cell_later hb2 c3
      have c4 := cell_later hb2 c4
      have c5 := cell_later hb2 c5
      have c6 := cell_later hb2 c6
      have c7 := cell_later hb2 c7
      have c8 := cell_later hb2 c8
      go_wp2_with fail
      refine (HPL.out _ hb2).mono ?_; rintro e w3 ⟨rfl, hb3⟩
      have hb23 := below_on hb2 hb3
      have c0 := cell_later hb3 c0
      have c1 := cell_later hb3 c1
      have c2 := cell_later hb3 c2
      have c3 := cell_later hb3 c3
      have c4 := cell_later hb3 c4
      have c5 := cell_later hb3 c5
      have c6 := cell_later hb3 c6
      have c7 := cell_later hb3 c7
      have c8 := cell_later hb3 c8
      go_wp2_with fail
      refine (HMI.out _ hb23).mono ?_; rintro e w4 ⟨rfl, hb4⟩
      have hb24 := below_on hb23 hb4
      have c0 := cell_later hb4 c0
      have c1 := cell_later hb4 c1
      have c2 := cell_later hb4 c2
      have c3 := cell_later hb4 c3
      have c4 := cell_later hb4 c4
      have c5 := cell_later hb4 c5
      have c6 := cell_later hb4 c6
      have c7 := cell_later hb4 c7
      have c8 := cell_later hb4 c8
      go_wp2_with fail
      refine (HTR.out _ hb24).mono ?_; rintro e w5 ⟨rfl, hb5⟩
      go_wp2_with fail
      go_ret
      exact ⟨rfl, hb0.trans ((below_on hb24 hb5).mono hb0.size)⟩
 ·rw [Wd.chk_field hf0]
  have hd : (W.field.chk == 0) = false := by simpa using hf0
  have hd2 : (W.field.chk != 0) = true := by simpa using hf0
  clear hf0 hpl hmi htr
  generalize W.field.chk = k at *
  go_enter Try.func30, Try.ntmps30
  go_wp2_with fail
  rw [HW1.out]
  refine hf.mono ?_; rintro e w2 ⟨rfl, hb2⟩
  go_wp2_with fail
  go_ret
  exact ⟨rfl, hb0.trans (hb2.mono hb0.size)⟩
end
section
open Go.RowKit
theorem GooQ_el_S_bool : ElT Try.prog repB 37 4 1 := ElT.mk_ (z := .bool false) (k := 1) Try.underlying37 (by kernel_rfl) rfl rfl (by decide) (λ j u h => raw0B j u h)
theorem Wd.deed_mine {W : Wd} {d : Ded} (h : d.kind = 1) : W.deed d = W.mine d := by unfold Wd.deed; rw [if_pos h]
theorem Wd.deed_drop {W : Wd} {d : Ded} (h : d.kind = 2) : W.deed d = W.drop d := by unfold Wd.deed; rw [if_neg (by omega), if_pos h]
theorem Wd.deed_hire {W : Wd} {d : Ded} (h : d.kind = 3) : W.deed d = W.hire d := by unfold Wd.deed; rw [if_neg (by omega), if_neg (by omega), if_pos h]
theorem Wd.deed_no {W : Wd} {d : Ded} (h1 : ¬ d.kind = 1) (h2 : ¬ d.kind = 2) (h3 : ¬ d.kind = 3) : W.deed d = none := by unfold Wd.deed; rw [if_neg h1, if_neg h2, if_neg h3]
theorem deed_at {W : Wd} {V : Option Wd} {w w1 : World} {Z S : Nat} {a : Wd.At} {f : FuncId} {args : Array Value} (h : Calls Try.prog f args w1 (ShopPost W V w1 Z S a)) (x : Ext w w1) : Calls Try.prog f args w1 (ShopPost W V w Z S a) :=
 h.mono λ e w2 ⟨a2, h1, h2, h3, h4⟩ => ⟨a2, h1, h2, λ q hq => (h3 q hq).imp id λ h => Nat.le_trans x.size h, (Mod.of_ext x).trans h4⟩
theorem mine_any2 (d : Ded) (w : World) (Z S : Nat) (a : Wd.At) (W : Wd) (h : Shop w Z S a W) (hG : Good W) : Calls Try.prog 137 #[.pointer (some ⟨S, 0, none⟩), .agg #[.int .i64 d.kind, .int .i64 d.who, .int .i64 d.spot.x, .int .i64 d.spot.y, .int .i64 d.what]] w (ShopPost W (W.mine d) w Z S a) := by
 cases hf : W.troops.findIdx? (isId d.who) with
 | none => exact mine2_none d w Z S a W h hG hf
 | some k => obtain ⟨t, ht, _⟩ := findId hf; exact mine2 d w Z S a W h hG k t hf ht
theorem drop_any2 (d : Ded) (w : World) (Z S : Nat) (a : Wd.At) (W : Wd) (h : Shop w Z S a W) (hG : Good W) : Calls Try.prog 138 #[.pointer (some ⟨S, 0, none⟩), .agg #[.int .i64 d.kind, .int .i64 d.who, .int .i64 d.spot.x, .int .i64 d.spot.y, .int .i64 d.what]] w (ShopPost W (W.drop d) w Z S a) := by
 cases hf : W.troops.findIdx? (isId d.who) with
 | none => exact drop2_none d w Z S a W h hG hf
 | some k => obtain ⟨t, ht, _⟩ := findId hf; exact drop2 d w Z S a W h hG k t hf ht
theorem hire_any2 (d : Ded) (w : World) (Z S : Nat) (a : Wd.At) (W : Wd) (h : Shop w Z S a W) (hG : Good W) : Calls Try.prog 139 #[.pointer (some ⟨S, 0, none⟩), .agg #[.int .i64 d.kind, .int .i64 d.who, .int .i64 d.spot.x, .int .i64 d.spot.y, .int .i64 d.what]] w (ShopPost W (W.hire d) w Z S a) := hire2 d w Z S a W h hG
theorem Shop.mod {w w1 : World} {Z S : Nat} {a : Wd.At} {W : Wd} {T : List Nat} (h : Shop w Z S a W) (m : Mod T w w1) (hd : ∀ q ∈ T, q ≠ S ∧ q ∉ WOwn.foot a) : Shop w1 Z S a W :=
 ⟨h.blk.mod m λ hq => (hd _ hq).1 rfl, h.own.mod m λ q hq hT => (hd q hT).2 hq, h.far, h.low⟩
def Wd.doE (W : Wd) (l : List Ded) : Int := if W.chk ≠ 0 then W.chk else if 200 < l.length then 2 else 0
def Wd.doW (W : Wd) (l : List Ded) : Wd := if W.doE l = 0 then (W.deeds l).1 else Wd.zero
def Wd.doB (W : Wd) (l : List Ded) : List Bool := if W.doE l = 0 then (W.deeds l).2 else []
def DoPost (W : Wd) (l : List Ded) (w : World) (e : Ending) (w' : World) : Prop :=
 ∃ a' A c, e = .returned (.tuple #[.agg (Wd.cells a' (W.doW l)).toArray, .slice A (W.doB l).length c, .int .i64 (W.doE l)]) ∧ WOwn w' w.heap.size a' (W.doW l) ∧ repB.SOwn 4 1 w' w.heap.size (Rep.blkOf A) A c (W.doB l) ∧ (∀ q ∈ Rep.blkOf A, q ∉ WOwn.foot a') ∧ Ext w w'
theorem do_bad {W : Wd} {l : List Ded} (h : ¬ W.chk = 0) : W.doW l = Wd.zero ∧ W.doB l = [] ∧ W.doE l = W.chk := by
 have he : W.doE l = W.chk := by unfold Wd.doE; rw [if_pos h]
 unfold Wd.doW Wd.doB
 rw [he, if_neg h, if_neg h]
 exact ⟨rfl, rfl, rfl⟩
theorem do_large {W : Wd} {l : List Ded} (h : W.chk = 0) (hl : 200 < l.length) : W.doW l = Wd.zero ∧ W.doB l = [] ∧ W.doE l = 2 := by
 have he : W.doE l = 2 := by unfold Wd.doE; rw [if_neg (by simpa using h), if_pos hl]
 unfold Wd.doW Wd.doB
 rw [he]
 exact ⟨rfl, rfl, rfl⟩
theorem do_ok3 {W : Wd} {l : List Ded} (h : W.chk = 0) (hl : l.length ≤ 200) : W.doE l = 0 := by unfold Wd.doE; rw [if_neg (by simpa using h), if_neg (by omega)]
theorem do_ok1 {W : Wd} {l : List Ded} (h : W.chk = 0) (hl : l.length ≤ 200) : W.doW l = (W.deeds l).1 := by unfold Wd.doW; rw [if_pos (do_ok3 h hl)]
theorem do_ok2 {W : Wd} {l : List Ded} (h : W.chk = 0) (hl : l.length ≤ 200) : W.doB l = (W.deeds l).2 := by unfold Wd.doB; rw [if_pos (do_ok3 h hl)]
theorem deeds_snoc (W : Wd) (l : List Ded) (d : Ded) : W.deeds (l ++ [d]) = (((W.deeds l).1.deed d).getD (W.deeds l).1, (W.deeds l).2 ++ [((W.deeds l).1.deed d).isSome]) := by
 induction l generalizing W with
 | nil => simp only [List.nil_append, Wd.deeds]; cases W.deed d <;> rfl
 | cons x r ih =>
  simp only [List.cons_append, Wd.deeds]
  cases W.deed x with
  | none => simp only [ih]; rfl
  | some V => simp only [ih]; rfl
theorem deeds_take {W : Wd} {l : List Ded} {k : Nat} (hk : k < l.length) : W.deeds (l.take (k + 1)) = (((W.deeds (l.take k)).1.deed (l.getD k default)).getD (W.deeds (l.take k)).1, (W.deeds (l.take k)).2 ++ [((W.deeds (l.take k)).1.deed (l.getD k default)).isSome]) := by
 rw [← deeds_snoc, List.take_succ_eq_append_getElem hk]
 congr 3
 rw [List.getD_eq_getElem?_getD, List.getElem?_eq_getElem hk]; rfl
theorem deeds_len (W : Wd) (l : List Ded) : (W.deeds l).2.length = l.length := by
 induction l generalizing W with
 | nil => rfl
 | cons x r ih =>
  simp only [Wd.deeds]
  cases W.deed x with
  | none => simp only [List.length_cons, ih]
  | some V => simp only [List.length_cons, ih]
theorem deed2 (d : Ded) (w : World) (Z S : Nat) (a : Wd.At) (W : Wd) (h : Shop w Z S a W) (hG : Good W) :
  Calls Try.prog 96 #[.pointer (some ⟨S, 0, none⟩), .agg #[.int .i64 d.kind, .int .i64 d.who, .int .i64 d.spot.x, .int .i64 d.spot.y, .int .i64 d.what]] w (ShopPost W (W.deed d) w Z S a) := by
 refine calls_W (n := 22) Try.func96 rfl rfl rfl ?_
 refine sg <| bx rfl rfl rfl rfl λ w_1 b_2 x_3 l_4 B_5 => ?_
 have := x_3.size
 have z_1 := eT (Ext.rf w) x_3
 have hx := z_1
 have q_7 := B_5.lt
 refine va rfl <| nK <| sq <| sg <| vL (fa eF47 rfl) <| vL (ld rfl (B_5.one eF5 rfl)) <| nK <| bk <| sg <| vL (beq rfl rfl) <| va rfl <| nK <| ?_
 refine ceq rfl (λ h_8 => ?_) (λ h_8 => ?_)
 ·refine sg <| vm rfl <| vL (ld rfl (B_5.all eF48 eF49)) <| ca eF50 rfl rfl ((deed_at (mine_any2 d _ Z S a W (h.later z_1) hG) hx).mono ?_)
  rintro e w_9 ⟨a2, rfl, hS, hf, hm⟩
  refine ⟨_, rfl, ?_⟩
  refine va rfl <| nK <| rt <| tB <| tT <| tR (.tmp rfl .nil) <| ?_
  exact ⟨a2, by rw [Wd.deed_mine ‹_›]; rfl, by rw [Wd.deed_mine ‹_›]; exact hS, hf, hm⟩
 ·refine sg <| vL (beq rfl rfl) <| va rfl <| nK <| ?_
  refine ceq rfl (λ h_10 => ?_) (λ h_10 => ?_)
  ·refine sg <| vm rfl <| vL (ld rfl (B_5.all eF48 eF49)) <| ca eF51 rfl rfl ((deed_at (drop_any2 d _ Z S a W (h.later z_1) hG) hx).mono ?_)
   rintro e w_11 ⟨a2, rfl, hS, hf, hm⟩
   refine ⟨_, rfl, ?_⟩
   refine va rfl <| nK <| rt <| tB <| tT <| tR (.tmp rfl .nil) <| ?_
   exact ⟨a2, by rw [Wd.deed_drop ‹_›]; rfl, by rw [Wd.deed_drop ‹_›]; exact hS, hf, hm⟩
  ·refine sg <| vL (beq rfl rfl) <| va rfl <| nK <| ?_
   refine ceq rfl (λ h_12 => ?_) (λ h_12 => ?_)
   ·refine sg <| vm rfl <| vL (ld rfl (B_5.all eF48 eF49)) <| ca eF52 rfl rfl ((deed_at (hire_any2 d _ Z S a W (h.later z_1) hG) hx).mono ?_)
    rintro e w_13 ⟨a2, rfl, hS, hf, hm⟩
    refine ⟨_, rfl, ?_⟩
    refine va rfl <| nK <| rt <| tB <| tT <| tR (.tmp rfl .nil) <| ?_
    exact ⟨a2, by rw [Wd.deed_hire ‹_›]; rfl, by rw [Wd.deed_hire ‹_›]; exact hS, hf, hm⟩
   ·refine sk <| nB <| nT <| sg <| va rfl <| nK <| rt <| tR (.tmp rfl .nil) <| ?_
    exact ⟨a, by rw [Wd.deed_no ‹_› ‹_› ‹_›]; rfl, by rw [Wd.deed_no ‹_› ‹_› ‹_›]; exact h.later z_1, λ q hq => .inl hq, Mod.of_ext z_1⟩
theorem do_any (l : List Ded) (A : Option Addr) (c : Nat) (w : World) (a : Wd.At) (W : Wd) (hW : Wd.Has w a W) (hl : Ded.rep.SHas 40 w A c l) :
  Calls Try.prog 58 #[.agg ((Wd.cells a W).toArray), .slice A l.length c] w (DoPost W l w) := by
 have hz0 := (Ext.rf w).size
 refine calls_W (n := 40) Try.func58 rfl rfl rfl ?_
 refine sg <| bx rfl rfl rfl rfl λ w_1 b_2 x_3 l_4 B_5 => ?_
 have := x_3.size
 have z_1 := eT (Ext.rf w) x_3
 have q_7 := B_5.lt
 refine al rfl eF53 rfl rfl λ w_8 b_9 x_10 l_11 B_12 => ?_
 have := x_10.size
 have z_8 := eT z_1 x_10
 have q_14 := B_12.lt
 refine va rfl <| va rfl <| nK <| sq <| sg <| ?_
 have B_5 := B_5.later x_10
 refine vL (ld rfl (B_5.all eF54 eF55)) <| ca eF56 rfl rfl ((check_any a W _ (hW.keep z_8)).mono ?_)
 rintro e w_15 ⟨rfl, x_16⟩
 refine ⟨_, rfl, ?_⟩
 have := x_16.size
 have z_15 := eT z_8 x_16
 refine va rfl <| nK <| sg <| vm rfl <| vL (bne rfl rfl) <| nK <| ?_
 refine cne rfl (λ h_18 => ?_) (λ h_18 => ?_)
 ·refine sg <| vL (v := .agg #[.int .i64 0, .int .i64 0, .slice none 0 0, .slice none 0 0, .slice none 0 0, .slice none 0 0, .slice none 0 0, .int .i64 0, .int .i64 0]) (bd rfl (by kernel_rfl)) <| vm rfl <| ?_
  have B_12 := B_12.later x_16
  refine st (new := [.int .i64 0, .int .i64 0, .slice none 0 0, .slice none 0 0, .slice none 0 0, .slice none 0 0, .slice none 0 0, .int .i64 0, .int .i64 0]) rfl rfl B_12 rfl eF55 rfl rfl rfl λ w_19 m_20 B_12 => ?_
  have := m_20.size
  have z_19 := Ext.mod z_15 m_20 (ge1 (by omega))
  have := m_20.size
  refine va rfl <| va rfl <| nK <| rt <| tT <| tR (.cell rfl (B_12.all eF54 eF55) (.tmp rfl (.tmp rfl .nil))) <| ?_
  obtain ⟨e1, e2, e3⟩ := do_bad ‹_›
  exact ⟨⟨none, none, none, none, none, 0, 0, 0, 0, 0⟩, none, 0, by rw [e1, e2, e3]; rfl, by rw [e1]; exact WOwn.zero _ _, by rw [e2]; exact Rep.SOwn.nil _, λ q hq => by simp [Rep.blkOf] at hq, z_19⟩
 ·have hG := Good.of_chk h_18
  refine sK <| sq <| sg <| vm rfl <| vL (ln Try.underlying109 rfl) <| vL (bgt rfl rfl) <| nK <| ?_
  refine clt rfl (λ h_23 => ?_) (λ h_23 => ?_)
  ·refine sg <| vL (v := .agg #[.int .i64 0, .int .i64 0, .slice none 0 0, .slice none 0 0, .slice none 0 0, .slice none 0 0, .slice none 0 0, .int .i64 0, .int .i64 0]) (bd rfl (by kernel_rfl)) <| ?_
   have B_12 := B_12.later x_16
   refine st (new := [.int .i64 0, .int .i64 0, .slice none 0 0, .slice none 0 0, .slice none 0 0, .slice none 0 0, .slice none 0 0, .int .i64 0, .int .i64 0]) rfl rfl B_12 rfl eF55 rfl rfl rfl λ w_24 m_25 B_12 => ?_
   have := m_25.size
   have z_24 := Ext.mod z_15 m_25 (ge1 (by omega))
   have := m_25.size
   refine va rfl <| va rfl <| nK <| rt <| tT <| tR (.cell rfl (B_12.all eF54 eF55) (.tmp rfl (.tmp rfl .nil))) <| ?_
   obtain ⟨e1, e2, e3⟩ := do_large (W := W) (l := l) h_18 (by omega)
   exact ⟨⟨none, none, none, none, none, 0, 0, 0, 0, 0⟩, none, 0, by rw [e1, e2, e3]; rfl, by rw [e1]; exact WOwn.zero _ _, by rw [e2]; exact Rep.SOwn.nil _, λ q hq => by simp [Rep.blkOf] at hq, z_24⟩
  ·refine sK <| sg <| ?_
   have B_5 := B_5.later x_16
   refine vL (ld rfl (B_5.all eF54 eF55)) <| ca eF57 rfl rfl ((own_any a W _ (hW.keep z_15)).mono ?_)
   rintro e w_29 ⟨a1, rfl, HO, x_30⟩
   refine ⟨_, rfl, ?_⟩
   have := x_30.size
   have z_29 := eT z_15 x_30
   have u_28 := λ q hq => (HO.lt q hq).2
   have lo := λ q hq => (HO.lt q hq).1
   refine vL (v := .agg #[.int .i64 W.field.wide, .int .i64 W.field.high, .slice a1.P W.field.places.length a1.p, .slice a1.B W.bases.length a1.b, .slice a1.S W.stocks.length a1.s, .slice a1.M W.mines.length a1.m, .slice a1.T W.troops.length a1.t, .int .i64 W.next, .int .i64 W.now]) (bd rfl (by kernel_rfl)) <| al rfl eF58 rfl rfl λ w_32 b_33 x_34 l_35 B_36 => ?_
   have := x_34.size
   have z_32 := eT z_29 x_34
   have q_38 := B_36.lt
   refine st (new := [.int .i64 W.field.wide, .int .i64 W.field.high, .slice a1.P W.field.places.length a1.p, .slice a1.B W.bases.length a1.b, .slice a1.S W.stocks.length a1.s, .slice a1.M W.mines.length a1.m, .slice a1.T W.troops.length a1.t, .int .i64 W.next, .int .i64 W.now]) rfl rfl B_36 rfl eF59 rfl rfl rfl λ w_39 m_40 B_36 => ?_
   have := m_40.size
   have z_39 := Ext.mod z_32 m_40 (ge1 (by omega))
   have := m_40.size
   refine nK <| sg <| va rfl <| nK <| sq <| sg <| vm rfl <| vL (ln Try.underlying109 rfl) <| vm rfl <| nK <| bk <| ?_
   have HO := HO.later x_34
   have HO := HO.mod m_40 (fk1 u_28 (by omega))
   have HS : Shop w_39 w_15.heap.size b_33 a1 W := ⟨B_36, HO, λ hq => by have := u_28 _ hq; omega, by omega⟩
   have B_12 := B_12.later (eT x_16 (eT x_30 x_34))
   have B_12 := B_12.mod m_40 (nm1 (by omega))
   refine lp (λ mI EI wI => ∃ k : Nat, ∃ a2 : Wd.At, ∃ Ad : Option Addr, ∃ cd : Nat, EI = [(4, .pointer (some ⟨b_9, 0, none⟩)), (5, .slice none 0 0), (6, .int .i64 0), (8, .pointer (some ⟨b_33, 0, none⟩)), (9, .slice Ad ((W.deeds (l.take k)).2.length) cd), (25, .slice A l.length c), (26, .int .i64 (l.length : Int)), (27, .int .i64 (k : Int))] ∧ mI = l.length - k ∧ Ext w wI ∧ Blk wI b_9 [.int .i64 0, .int .i64 0, .slice none 0 0, .slice none 0 0, .slice none 0 0, .slice none 0 0, .slice none 0 0, .int .i64 0, .int .i64 0] 58 (0, 0) ∧ Shop wI w_15.heap.size b_33 a2 (W.deeds (l.take k)).1 ∧ repB.SOwn 4 1 wI w.heap.size (Rep.blkOf Ad) Ad cd (W.deeds (l.take k)).2 ∧ (k ≤ l.length) ∧ (∀ q ∈ Rep.blkOf Ad, q ≠ b_33 ∧ q ∉ WOwn.foot a2) ∧ (∀ q ∈ Rep.blkOf Ad, q = b_9 → False)) _ _ ⟨0, a1, none, 0, rfl, rfl, z_39, B_12, HS, (Rep.SOwn.nil _), by omega, λ q hq => by simp [Rep.blkOf] at hq, (λ q hq hb => by (simp [Rep.blkOf] at hq))⟩ (.cons rfl (.cons rfl (.cons rfl (.cons rfl (.cons rfl (.cons rfl (.cons rfl (.cons (loI rfl (by first | omega | rfl | (simp <;> omega))) .nil)))))))) ?_
   rintro m_45 E_46 w_44 ⟨k, a2, Ad, cd, rfl, rfl, z_44, B_12, HS, OD, hk, hd, d_43⟩
   have := z_44.size
   have q_48 := B_12.lt
   have u_49 := λ q hq => (OD.lt q hq).2
   have uS := λ q hq => (HS.own.lt q hq).2
   have hbS := HS.blk.lt
   have hle := hl.len_le
   have hdl : (W.deeds (l.take k)).2.length = k := by rw [deeds_len, List.length_take]; omega
   refine sg <| vL (blt rfl rfl) <| nK <| sq <| ?_
   refine clt rfl (λ h_50 => ?_) (λ h_50 => ?_)
   ·refine sK <| sq <| bk <| sg <| vL (iA k Try.underlying109 eF49 rfl rfl ((hl.keep z_44).adr (zl k (by omega))) rfl (by omega)) <| vL (ld rfl (Rep.SHas.elt hcD (by rw [← (hl.keep z_44).adr (zl k (by omega))]; exact (hl.keep z_44)) (get_d (l := l) (u := default) (by omega)) eF48 eF49)) <| al rfl eF60 rfl rfl λ w_51 b_52 x_53 l_54 B_55 => ?_
    have := x_53.size
    have z_51 := eT z_44 x_53
    have q_57 := B_55.lt
    refine st (new := [.int .i64 ((l.getD k default).kind), .int .i64 ((l.getD k default).who), .int .i64 ((l.getD k default).spot.x), .int .i64 ((l.getD k default).spot.y), .int .i64 ((l.getD k default).what)]) rfl rfl B_55 rfl eF49 rfl rfl rfl λ w_58 m_59 B_55 => ?_
    have := m_59.size
    have z_58 := Ext.mod z_51 m_59 (ge1 (by omega))
    have := m_59.size
    refine nK <| rg <| vm rfl <| vL (ld rfl (B_55.all eF48 eF49)) <| ?_
    have HS := HS.later x_53
    have HS := HS.mod m_59 (λ q hq => by rw [List.mem_singleton.1 hq]; exact ⟨by omega, λ hf => by have := uS _ hf; have := (HS.own.lt _ hf).1; omega⟩)
    have OD := OD.later x_53
    have OD := OD.mod m_59 (fk1 u_49 (by omega))
    refine ca eF61 rfl rfl ((deed2 (l.getD k default) _ w_15.heap.size b_33 a2 (W.deeds (l.take k)).1 HS (hG.deeds _)).mono ?_)
    rintro e w_62 ⟨a3, rfl, HS3, hf, x_63⟩
    refine ⟨_, rfl, ?_⟩
    have hu := λ q hq => (OD.lt q hq).2
    have := x_63.size
    have z_62 := Ext.mod z_58 x_63 (λ q hq => (List.mem_cons.1 hq).elim (λ h => by rw [h]; omega) (λ h => by have := (HS.own.lt q h).1; omega))
    have hd2 : ∀ q ∈ Rep.blkOf Ad, q ≠ b_33 ∧ q ∉ WOwn.foot a3 := λ q hq => ⟨(hd q hq).1, λ h => (hf q h).elim (hd q hq).2 (λ h => by have := hu q hq; omega)⟩
    have HS0 := HS
    have HS := HS3
    have uS := λ q hq => (HS.own.lt q hq).2
    refine bs (e := 4) (cs := [.bool (((W.deeds (l.take k)).1.deed (l.getD k default)).isSome)]) rfl (λ _ => by kernel_rfl) rfl λ w_65 b_66 x_67 l_68 B_69 => ?_
    have := x_67.size
    have z_65 := eT z_62 x_67
    have q_71 := B_69.lt
    have OD := OD.mod x_63 (λ q hq h => (List.mem_cons.1 h).elim (hd q hq).1 (hd q hq).2)
    have OD := OD.later x_67
    refine ap GooQ_el_S_bool Rep.flat_bare OD (Blk.has1 (R := repB) (by_ := 1) (q := ((W.deeds (l.take k)).1.deed (l.getD k default)).isSome) B_69 ⟨rfl, trivial⟩ (by decide)) rfl rfl (by simp only [List.length_cons, List.length_nil]; omega) (by simp only [List.length_cons, List.length_nil]; omega) z_65.size rfl λ w_72 A_73 c_74 m_75 O_76 g_77 n_78 => ?_
    have := m_75.size
    have z_72 := Ext.mod z_65 m_75 (λ q hq => (OD.lt q hq).1)
    have u_80 := λ q hq => (O_76.lt q hq).2
    have := m_75.size
    have hd3 : ∀ q ∈ Rep.blkOf A_73, q ≠ b_33 ∧ q ∉ WOwn.foot a3 := λ q hq => (g_77 q hq).elim (hd2 q) (λ h => ⟨by omega, λ hf => by have := uS q hf; omega⟩)
    refine va rfl <| nl <| nB <| nT <| rg <| vL (bad rfl rfl (inI (by omega))) <| vm rfl <| nl <| ?_
    have B_12 := B_12.later x_53
    have B_12 := B_12.mod m_59 (nm1 (by omega))
    have B_12 := B_12.mod x_63 (λ h => (List.mem_cons.1 h).elim (λ h => by omega) (λ h => by have := (HS0.own.lt _ h).1; omega))
    have B_12 := B_12.later x_67
    have B_12 := B_12.mod m_75 (λ hq => d_43 _ hq rfl)
    have HS := HS.later x_67
    have HS := HS.mod m_75 (λ q hq => hd2 q hq)
    exact nI _ _ ⟨k + 1, a3, A_73, c_74, rfl, rfl, z_72, B_12, (by rw [deeds_take (by omega : k < l.length)]; exact HS), (by rw [deeds_take (by omega : k < l.length)]; exact O_76), by omega, hd3, (λ q hq hb => by (exact Or.elim (g_77 q hq) (λ k_82 => by (exact d_43 q k_82 hb)) (λ k_82 => by omega)))⟩ (by omega) (.cons rfl (.cons rfl (.cons rfl (.cons rfl (.cons (by rw [deeds_take (by omega : k < l.length)]; rfl) (.cons rfl (.cons rfl (.cons (loI rfl (by first | omega | rfl | (simp <;> omega))) .nil))))))))
   ·refine xt <| xT <| xK <| xB <| nT <| sg <| vL (fa eF27 rfl) <| vL (ld rfl (HS.blk.all eF54 eF55)) <| vm rfl <| st rfl rfl B_12 rfl eF55 rfl rfl rfl λ w_83 m_84 B_12 => ?_
    have := m_84.size
    have z_83 := Ext.mod z_44 m_84 (ge1 (by omega))
    have := m_84.size
    refine va rfl <| va rfl <| nK <| rt <| tR (.cell rfl (B_12.all eF54 eF55) (.tmp rfl (.tmp rfl .nil))) <| ?_
    have HS := HS.mod m_84 (λ q hq => by rw [List.mem_singleton.1 hq]; exact ⟨by omega, λ hf => by have := uS _ hf; have := (HS.own.lt _ hf).1; omega⟩)
    have OD := OD.mod m_84 (λ q hq h => by have hb := List.mem_singleton.1 h; exfalso; (exact d_43 q hq hb))
    obtain rfl : k = l.length := by omega
    refine ⟨a2, Ad, cd, ?_, ?_, ?_, λ q hq => (hd q hq).2, z_83⟩
    ·rw [do_ok1 h_18 (by omega), do_ok2 h_18 (by omega), do_ok3 h_18 (by omega), List.take_length]; rfl
    ·rw [do_ok1 h_18 (by omega)]; rw [List.take_length] at HS; exact HS.own.down (by omega)
    ·rw [do_ok2 h_18 (by omega)]; rw [List.take_length] at OD; exact OD
end
section
open Go.RowKit
def wt (t : Trp) : Int := t.load + Wd.priceOf t.kind
def Wd.total (W : Wd) : Int := W.mines.sum + W.stocks.sum + (W.troops.map wt).sum
def Wd.worth (W : Wd) : Int := if W.chk = 0 then W.total else 0
end
section
open Go.RowKit
theorem Eql_eqs_api_Cell : EqS Try.prog Cel.cells 70 := by
 intro a b w
 obtain ⟨a0, a1⟩ := a
 obtain ⟨b0, b1⟩ := b
 simp only [Cel.cells, Cel.mk.injEq]
 constructor
 ·go_simp
  repeat' split
  all_goals simp_all
 ·go_simp
  repeat' split
  all_goals simp_all
theorem Eql_eqg_api_Cell : (Try.prog).eqGuardType (Try.prog).depth 70 = false := by kernel_rfl
theorem Eql_eqs_api_Troop : EqS Try.prog Trp.cells 80 := by
 intro a b w
 obtain ⟨a0, a1, a2, ⟨a3, a4⟩, a5, a6⟩ := a
 obtain ⟨b0, b1, b2, ⟨b3, b4⟩, b5, b6⟩ := b
 simp only [Trp.cells, Trp.mk.injEq, Cel.mk.injEq]
 constructor
 ·go_simp
  repeat' split
  all_goals simp_all
 ·go_simp
  repeat' split
  all_goals simp_all
theorem Eql_eqg_api_Troop : (Try.prog).eqGuardType (Try.prog).depth 80 = false := by kernel_rfl
theorem eq_all {α : Type} {l m : List α} {k : Nat} (h1 : l.length = m.length) (hk : l.length ≤ k) (h : ∀ j, j < k → l[j]? = m[j]?) : l = m := by
 apply List.ext_getElem?
 intro j
 by_cases hj : j < k
 ·exact h j hj
 ·rw [List.getElem?_eq_none (by omega), List.getElem?_eq_none (by omega)]
theorem ne_of_nb {α : Type} [DecidableEq α] {a b : α} (h : (!decide (a = b)) = true) : ¬ a = b := by simpa using h
theorem eq_of_nb {α : Type} [DecidableEq α] {a b : α} (h : (!decide (a = b)) = false) : a = b := by simpa using h
theorem equal_C (A B : Option Addr) (c d b1 b2 : Nat) (l m : List Cel) (w : World) (h1 : Cel.rep.SHas b1 w A c l) (h2 : Cel.rep.SHas b2 w B d m) :
  Calls Try.prog 62 #[.slice A l.length c, .slice B m.length d] w (λ e w' => e = .returned (.bool (decide (l = m))) ∧ Ext w w') := by
 have hle := h1.len_le
 refine calls_W (n := 26) Try.func62 rfl rfl rfl ?_
 refine sg <| va rfl <| nK <| sq <| sg <| vm rfl <| vL (ln Try.underlying55 rfl) <| vm rfl <| vL (ln Try.underlying55 rfl) <| vL (bne rfl rfl) <| nK <| ?_
 refine cne rfl (λ h_1 => ?_) (λ h_1 => ?_)
 ·refine sg <| va rfl <| nK <| rt <| tT <| tR (.tmp rfl .nil) <| ?_
  rw [decide_eq_false (λ e => h_1 (by rw [e]))]
  exact ⟨rfl, (Ext.rf w)⟩
 ·refine sK <| sq <| sg <| vm rfl <| vL (ln Try.underlying55 rfl) <| vm rfl <| nK <| bk <| ?_
  refine lp (λ mI EI wI => ∃ k : Nat, EI = [(0, .slice A l.length c), (1, .slice B m.length d), (12, .int .i64 (l.length : Int)), (13, .int .i64 (k : Int))] ∧ mI = l.length - k ∧ Ext w wI ∧ (k ≤ l.length) ∧ (∀ j, j < k → l[j]? = m[j]?)) _ _ ⟨0, rfl, rfl, (Ext.rf w), by omega, λ j hj => absurd hj (by omega)⟩ (.cons rfl (.cons rfl (.cons rfl (.cons (loI rfl (by first | omega | rfl | (simp <;> omega))) .nil)))) ?_
  rintro m_3 E_4 w_2 ⟨k, rfl, rfl, z_2, hk, hk2⟩
  have := z_2.size
  have hle := h1.len_le
  have hle2 := h2.len_le
  refine sg <| vL (blt rfl rfl) <| nK <| sq <| ?_
  refine clt rfl (λ h_6 => ?_) (λ h_6 => ?_)
  ·obtain ⟨x1, hx1⟩ := get_of (l := l) (i := k) (by omega)
   obtain ⟨y1, hy1⟩ := get_of (l := m) (i := k) (by omega)
   refine sK <| sq <| bk <| sg <| vm rfl <| va rfl <| nK <| sq <| ?_
   refine rd [(3, 0), (7, 0)] [0, 1, 2, 3, 4, 5, 6, 7, 8] (by kernel_rfl) (by kernel_rfl) ?_
   refine fw1 rfl (λ _ => mv rfl) <| fw1 rfl (λ _ => mv rfl) <| fw1 rfl (λ _ => iA k Try.underlying55 eF8 rfl rfl ((h1.keep z_2).adr (zl k (by omega))) rfl (by omega)) <| fq1 rfl (λ _ x => ld rfl (Rep.SHas.elt hcC (by rw [← (h1.keep (eT z_2 x)).adr (zl k (by omega))]; exact (h1.keep (eT z_2 x))) hx1 eF7 eF8)) <| fw1 rfl (λ _ => mv rfl) <| fw1 rfl (λ _ => mv rfl) <| fw1 rfl (λ _ => iA k Try.underlying55 eF8 rfl rfl ((h2.keep z_2).adr (zl k (by omega))) rfl (by omega)) <| fq1 rfl (λ _ x => ld rfl (Rep.SHas.elt hcC (by rw [← (h2.keep (eT z_2 x)).adr (zl k (by omega))]; exact (h2.keep (eT z_2 x))) hy1 eF7 eF8)) <| fw1 rfl (λ _ => bnS Eql_eqs_api_Cell Eql_eqg_api_Cell (p := x1) (q := y1) rfl rfl) <| fn λ w_7 x_8 => ?_
   have := x_8.size
   have z_7 := eT z_2 x_8
   refine nT <| ?_
   refine cb rfl (λ h_10 => ?_) (λ h_10 => ?_)
   ·refine sg <| va rfl <| nK <| rt <| tB <| tT <| tK <| tB <| tT <| tR (.tmp rfl .nil) <| ?_
    rw [decide_eq_false (λ e => by rw [e, hy1] at hx1; injection hx1 with hx1; exact absurd hx1.symm (by first | exact ne_of_nb h_10 | exact h_10))]
    exact ⟨rfl, z_7⟩
   ·refine sk <| nB <| nT <| rg <| vL (bad rfl rfl (inI (by omega))) <| vm rfl <| nl <| ?_
    exact nI _ _ ⟨k + 1, rfl, rfl, z_7, by omega, lt_succ_all hk2 (by rw [hx1, hy1, (by first | exact eq_of_nb h_10 | exact h_10 : x1 = y1)])⟩ (by omega) (.cons rfl (.cons rfl (.cons rfl (.cons (loI rfl (by first | omega | rfl | (simp <;> omega))) .nil))))
  ·refine xt <| xT <| xK <| xB <| nT <| sg <| va rfl <| nK <| rt <| tR (.tmp rfl .nil) <| ?_
   rw [decide_eq_true (eq_all (by omega) (by omega) hk2)]
   exact ⟨rfl, z_2⟩
theorem equal_T (A B : Option Addr) (c d b1 b2 : Nat) (l m : List Trp) (w : World) (h1 : Trp.rep.SHas b1 w A c l) (h2 : Trp.rep.SHas b2 w B d m) :
  Calls Try.prog 63 #[.slice A l.length c, .slice B m.length d] w (λ e w' => e = .returned (.bool (decide (l = m))) ∧ Ext w w') := by
 have hle := h1.len_le
 refine calls_W (n := 26) Try.func63 rfl rfl rfl ?_
 refine sg <| va rfl <| nK <| sq <| sg <| vm rfl <| vL (ln Try.underlying56 rfl) <| vm rfl <| vL (ln Try.underlying56 rfl) <| vL (bne rfl rfl) <| nK <| ?_
 refine cne rfl (λ h_1 => ?_) (λ h_1 => ?_)
 ·refine sg <| va rfl <| nK <| rt <| tT <| tR (.tmp rfl .nil) <| ?_
  rw [decide_eq_false (λ e => h_1 (by rw [e]))]
  exact ⟨rfl, (Ext.rf w)⟩
 ·refine sK <| sq <| sg <| vm rfl <| vL (ln Try.underlying56 rfl) <| vm rfl <| nK <| bk <| ?_
  refine lp (λ mI EI wI => ∃ k : Nat, EI = [(0, .slice A l.length c), (1, .slice B m.length d), (12, .int .i64 (l.length : Int)), (13, .int .i64 (k : Int))] ∧ mI = l.length - k ∧ Ext w wI ∧ (k ≤ l.length) ∧ (∀ j, j < k → l[j]? = m[j]?)) _ _ ⟨0, rfl, rfl, (Ext.rf w), by omega, λ j hj => absurd hj (by omega)⟩ (.cons rfl (.cons rfl (.cons rfl (.cons (loI rfl (by first | omega | rfl | (simp <;> omega))) .nil)))) ?_
  rintro m_3 E_4 w_2 ⟨k, rfl, rfl, z_2, hk, hk2⟩
  have := z_2.size
  have hle := h1.len_le
  have hle2 := h2.len_le
  refine sg <| vL (blt rfl rfl) <| nK <| sq <| ?_
  refine clt rfl (λ h_6 => ?_) (λ h_6 => ?_)
  ·obtain ⟨x1, hx1⟩ := get_of (l := l) (i := k) (by omega)
   obtain ⟨y1, hy1⟩ := get_of (l := m) (i := k) (by omega)
   refine sK <| sq <| bk <| sg <| vm rfl <| va rfl <| nK <| sq <| ?_
   refine rd [(3, 0), (7, 0)] [0, 1, 2, 3, 4, 5, 6, 7, 8] (by kernel_rfl) (by kernel_rfl) ?_
   refine fw1 rfl (λ _ => mv rfl) <| fw1 rfl (λ _ => mv rfl) <| fw1 rfl (λ _ => iA k Try.underlying56 eF0 rfl rfl ((h1.keep z_2).adr (zl k (by omega))) rfl (by omega)) <| fq1 rfl (λ _ x => ld rfl (Rep.SHas.elt hcT (by rw [← (h1.keep (eT z_2 x)).adr (zl k (by omega))]; exact (h1.keep (eT z_2 x))) hx1 eF1 eF0)) <| fw1 rfl (λ _ => mv rfl) <| fw1 rfl (λ _ => mv rfl) <| fw1 rfl (λ _ => iA k Try.underlying56 eF0 rfl rfl ((h2.keep z_2).adr (zl k (by omega))) rfl (by omega)) <| fq1 rfl (λ _ x => ld rfl (Rep.SHas.elt hcT (by rw [← (h2.keep (eT z_2 x)).adr (zl k (by omega))]; exact (h2.keep (eT z_2 x))) hy1 eF1 eF0)) <| fw1 rfl (λ _ => bnS Eql_eqs_api_Troop Eql_eqg_api_Troop (p := x1) (q := y1) rfl rfl) <| fn λ w_7 x_8 => ?_
   have := x_8.size
   have z_7 := eT z_2 x_8
   refine nT <| ?_
   refine cb rfl (λ h_10 => ?_) (λ h_10 => ?_)
   ·refine sg <| va rfl <| nK <| rt <| tB <| tT <| tK <| tB <| tT <| tR (.tmp rfl .nil) <| ?_
    rw [decide_eq_false (λ e => by rw [e, hy1] at hx1; injection hx1 with hx1; exact absurd hx1.symm (by first | exact ne_of_nb h_10 | exact h_10))]
    exact ⟨rfl, z_7⟩
   ·refine sk <| nB <| nT <| rg <| vL (bad rfl rfl (inI (by omega))) <| vm rfl <| nl <| ?_
    exact nI _ _ ⟨k + 1, rfl, rfl, z_7, by omega, lt_succ_all hk2 (by rw [hx1, hy1, (by first | exact eq_of_nb h_10 | exact h_10 : x1 = y1)])⟩ (by omega) (.cons rfl (.cons rfl (.cons rfl (.cons (loI rfl (by first | omega | rfl | (simp <;> omega))) .nil))))
  ·refine xt <| xT <| xK <| xB <| nT <| sg <| va rfl <| nK <| rt <| tR (.tmp rfl .nil) <| ?_
   rw [decide_eq_true (eq_all (by omega) (by omega) hk2)]
   exact ⟨rfl, z_2⟩
theorem equal_Z (A B : Option Addr) (c d b1 b2 : Nat) (l m : List Int) (w : World) (h1 : repI.SHas b1 w A c l) (h2 : repI.SHas b2 w B d m) :
  Calls Try.prog 26 #[.slice A l.length c, .slice B m.length d] w (λ e w' => e = .returned (.bool (decide (l = m))) ∧ Ext w w') := by
 have hle := h1.len_le
 refine calls_W (n := 26) Try.func26 rfl rfl rfl ?_
 refine sg <| va rfl <| nK <| sq <| sg <| vm rfl <| vL (ln Try.underlying42 rfl) <| vm rfl <| vL (ln Try.underlying42 rfl) <| vL (bne rfl rfl) <| nK <| ?_
 refine cne rfl (λ h_1 => ?_) (λ h_1 => ?_)
 ·refine sg <| va rfl <| nK <| rt <| tT <| tR (.tmp rfl .nil) <| ?_
  rw [decide_eq_false (λ e => h_1 (by rw [e]))]
  exact ⟨rfl, (Ext.rf w)⟩
 ·refine sK <| sq <| sg <| vm rfl <| vL (ln Try.underlying42 rfl) <| vm rfl <| nK <| bk <| ?_
  refine lp (λ mI EI wI => ∃ k : Nat, EI = [(0, .slice A l.length c), (1, .slice B m.length d), (12, .int .i64 (l.length : Int)), (13, .int .i64 (k : Int))] ∧ mI = l.length - k ∧ Ext w wI ∧ (k ≤ l.length) ∧ (∀ j, j < k → l[j]? = m[j]?)) _ _ ⟨0, rfl, rfl, (Ext.rf w), by omega, λ j hj => absurd hj (by omega)⟩ (.cons rfl (.cons rfl (.cons rfl (.cons (loI rfl (by first | omega | rfl | (simp <;> omega))) .nil)))) ?_
  rintro m_3 E_4 w_2 ⟨k, rfl, rfl, z_2, hk, hk2⟩
  have := z_2.size
  have hle := h1.len_le
  have hle2 := h2.len_le
  refine sg <| vL (blt rfl rfl) <| nK <| sq <| ?_
  refine clt rfl (λ h_6 => ?_) (λ h_6 => ?_)
  ·obtain ⟨x1, hx1⟩ := get_of (l := l) (i := k) (by omega)
   obtain ⟨y1, hy1⟩ := get_of (l := m) (i := k) (by omega)
   refine sK <| sq <| bk <| sg <| vm rfl <| va rfl <| nK <| sq <| ?_
   refine rd [(3, 0), (7, 0)] [0, 1, 2, 3, 4, 5, 6, 7, 8] (by kernel_rfl) (by kernel_rfl) ?_
   refine fw1 rfl (λ _ => mv rfl) <| fw1 rfl (λ _ => mv rfl) <| fw1 rfl (λ _ => iA k Try.underlying42 eF11 rfl rfl ((h1.keep z_2).adr (zl k (by omega))) rfl (by omega)) <| fq1 rfl (λ _ x => ld rfl (Rep.SHas.one' hcI (by rw [← (h1.keep (eT z_2 x)).adr (zl k (by omega))]; exact (h1.keep (eT z_2 x))) hx1 rfl eF5)) <| fw1 rfl (λ _ => mv rfl) <| fw1 rfl (λ _ => mv rfl) <| fw1 rfl (λ _ => iA k Try.underlying42 eF11 rfl rfl ((h2.keep z_2).adr (zl k (by omega))) rfl (by omega)) <| fq1 rfl (λ _ x => ld rfl (Rep.SHas.one' hcI (by rw [← (h2.keep (eT z_2 x)).adr (zl k (by omega))]; exact (h2.keep (eT z_2 x))) hy1 rfl eF5)) <| fw1 rfl (λ _ => bne rfl rfl) <| fn λ w_7 x_8 => ?_
   have := x_8.size
   have z_7 := eT z_2 x_8
   refine nT <| ?_
   refine cne rfl (λ h_10 => ?_) (λ h_10 => ?_)
   ·refine sg <| va rfl <| nK <| rt <| tB <| tT <| tK <| tB <| tT <| tR (.tmp rfl .nil) <| ?_
    rw [decide_eq_false (λ e => by rw [e, hy1] at hx1; injection hx1 with hx1; exact absurd hx1.symm (by first | exact ne_of_nb h_10 | exact h_10))]
    exact ⟨rfl, z_7⟩
   ·refine sk <| nB <| nT <| rg <| vL (bad rfl rfl (inI (by omega))) <| vm rfl <| nl <| ?_
    exact nI _ _ ⟨k + 1, rfl, rfl, z_7, by omega, lt_succ_all hk2 (by rw [hx1, hy1, (by first | exact eq_of_nb h_10 | exact h_10 : x1 = y1)])⟩ (by omega) (.cons rfl (.cons rfl (.cons rfl (.cons (loI rfl (by first | omega | rfl | (simp <;> omega))) .nil))))
  ·refine xt <| xT <| xK <| xB <| nT <| sg <| va rfl <| nK <| rt <| tR (.tmp rfl .nil) <| ?_
   rw [decide_eq_true (eq_all (by omega) (by omega) hk2)]
   exact ⟨rfl, z_2⟩
end
section
open Go.RowKit
theorem same_world {W V : Wd} : (((((( decide (W.field = V.field) && decide (W.bases = V.bases)) && decide (W.stocks = V.stocks)) && decide (W.mines = V.mines)) && decide (W.troops = V.troops)) && (W.next == V.next)) && (W.now == V.now)) = decide (W = V) := by
 obtain ⟨f, b, s, m, t, n, o⟩ := W
 obtain ⟨f', b', s', m', t', n', o'⟩ := V
 rw [Bool.eq_iff_iff]
 simp [and_assoc]
theorem same_field {f g : Fld} : (((f.wide == g.wide) && (f.high == g.high)) && decide (f.places = g.places)) = decide (f = g) := by
 obtain ⟨a, b, c⟩ := f
 obtain ⟨a', b', c'⟩ := g
 rw [Bool.eq_iff_iff]
 simp [and_assoc]
def smallW : Wd := ⟨⟨3, 1, [0, 0, 3]⟩, [⟨0, 0⟩], [20], [0, 0, 9], [⟨1, 0, 1, ⟨1, 0⟩, 10, 0⟩], 2, 0⟩
def smallL : List Ded := [(⟨1, 1, ⟨2, 0⟩, 0⟩ : Ded), (⟨3, 0, ⟨0, 0⟩, 2⟩ : Ded)]
def smallV : Wd := smallW.doW smallL
theorem sameField_any (f g : Fld) (A B : Option Addr) (c d : Nat) (w : World) (h1 : repI.SHas 8 w A c f.places) (h2 : repI.SHas 8 w B d g.places) :
  Calls Try.prog 61 #[.agg #[.int .i64 f.wide, .int .i64 f.high, .slice A f.places.length c], .agg #[.int .i64 g.wide, .int .i64 g.high, .slice B g.places.length d]] w (λ e w' => e = .returned (.bool (decide (f = g))) ∧ Ext w w') := by
 refine calls_W (n := 24) Try.func61 rfl rfl rfl ?_
 refine sg <| bx rfl rfl rfl rfl λ w_1 b_2 x_3 l_4 B_5 => ?_
 have := x_3.size
 have z_1 := eT (Ext.rf w) x_3
 have q_7 := B_5.lt
 refine bx rfl rfl rfl rfl λ w_8 b_9 x_10 l_11 B_12 => ?_
 have := x_10.size
 have z_8 := eT z_1 x_10
 have q_14 := B_12.lt
 refine va rfl <| nK <| sg <| vL (fa eF19 rfl) <| ?_
 have B_5 := B_5.later x_10
 refine vL (ld rfl (B_5.one eF5 rfl)) <| vL (fa eF19 rfl) <| vL (ld rfl (B_12.one eF5 rfl)) <| vL (beq rfl rfl) <| vm rfl <| vQ rfl rfl rfl rfl (λ hc => fa eF18 rfl) rfl <| vQ rfl rfl rfl rfl (λ hc => ld (gt hc rfl) (B_5.one eF5 rfl)) rfl <| vQ rfl rfl rfl rfl (λ hc => fa eF18 rfl) rfl <| vQ rfl rfl rfl rfl (λ hc => ld (gt hc rfl) (B_12.one eF5 rfl)) rfl <| vQ rfl rfl rfl rfl (λ hc => beq (gt hc rfl) (gt hc rfl)) rfl <| vL (pA rfl rfl rfl rfl) <| vm rfl <| vQ rfl rfl rfl rfl (λ hc => fa eF62 rfl) rfl <| vQ rfl rfl rfl rfl (λ hc => ld (gt hc rfl) (B_5.one eF30 rfl)) rfl <| vQ rfl rfl rfl rfl (λ hc => fa eF62 rfl) rfl <| vQ rfl rfl rfl rfl (λ hc => ld (gt hc rfl) (B_12.one eF30 rfl)) rfl <| vC rfl rfl rfl rfl eF63 (λ hc => ec (gt hc rfl) (ec (gt hc rfl) rfl)) (λ hc => equal_Z _ _ _ _ _ _ f.places g.places _ (h1.keep z_8) (h2.keep z_8)) rfl λ w_15 x_16 => ?_
 have := x_16.size
 have z_15 := eT z_8 x_16
 refine vL (pA rfl rfl rfl rfl) <| va rfl <| nK <| rt <| tR (.tmp rfl .nil) <| ?_
 exact ⟨by rw [← same_field]; rfl, z_15⟩
theorem sameWorld_any  (w : World) (a : Wd.At) (W : Wd) (b : Wd.At) (V : Wd) (hW : Wd.Has w a W) (hV : Wd.Has w b V) :
  Calls Try.prog 29 #[.agg ((Wd.cells a W).toArray), .agg ((Wd.cells b V).toArray)] w (λ e w' => e = .returned (.bool (decide (W = V))) ∧ Ext w w') := by
 refine calls_W (n := 52) Try.func29 rfl rfl rfl ?_
 refine sg <| bx rfl rfl rfl rfl λ w_1 b_2 x_3 l_4 B_5 => ?_
 have := x_3.size
 have z_1 := eT (Ext.rf w) x_3
 have q_7 := B_5.lt
 refine bx rfl rfl rfl rfl λ w_8 b_9 x_10 l_11 B_12 => ?_
 have := x_10.size
 have z_8 := eT z_1 x_10
 have q_14 := B_12.lt
 refine va rfl <| nK <| sg <| vL (fa eF28 rfl) <| ?_
 have B_5 := B_5.later x_10
 refine vL (ld rfl (B_5.par [.int .i64 W.field.wide, .int .i64 W.field.high, .slice a.P W.field.places.length a.p] eF14 eF15 rfl)) <| vL (fa eF28 rfl) <| vL (ld rfl (B_12.par [.int .i64 V.field.wide, .int .i64 V.field.high, .slice b.P V.field.places.length b.p] eF14 eF15 rfl)) <| ca eF64 rfl rfl ((sameField_any W.field V.field _ _ _ _ _ (hW.P.keep z_8) (hV.P.keep z_8)).mono ?_)
 rintro e w_15 ⟨rfl, x_16⟩
 refine ⟨_, rfl, ?_⟩
 have := x_16.size
 have z_15 := eT z_8 x_16
 refine vm rfl <| vQ rfl rfl rfl rfl (λ hc => fa eF31 rfl) rfl <| ?_
 have B_5 := B_5.later x_16
 refine vQ rfl rfl rfl rfl (λ hc => ld (gt hc rfl) (B_5.one eF32 rfl)) rfl <| vQ rfl rfl rfl rfl (λ hc => fa eF31 rfl) rfl <| ?_
 have B_12 := B_12.later x_16
 refine vQ rfl rfl rfl rfl (λ hc => ld (gt hc rfl) (B_12.one eF32 rfl)) rfl <| vC rfl rfl rfl rfl eF65 (λ hc => ec (gt hc rfl) (ec (gt hc rfl) rfl)) (λ hc => equal_C _ _ _ _ _ _ W.bases V.bases _ (hW.B.keep z_15) (hV.B.keep z_15)) rfl λ w_18 x_19 => ?_
 have := x_19.size
 have z_18 := eT z_15 x_19
 refine vL (pA rfl rfl rfl rfl) <| vm rfl <| vQ rfl rfl rfl rfl (λ hc => fa eF34 rfl) rfl <| ?_
 have B_5 := B_5.later x_19
 refine vQ rfl rfl rfl rfl (λ hc => ld (gt hc rfl) (B_5.one eF30 rfl)) rfl <| vQ rfl rfl rfl rfl (λ hc => fa eF34 rfl) rfl <| ?_
 have B_12 := B_12.later x_19
 refine vQ rfl rfl rfl rfl (λ hc => ld (gt hc rfl) (B_12.one eF30 rfl)) rfl <| vC rfl rfl rfl rfl eF63 (λ hc => ec (gt hc rfl) (ec (gt hc rfl) rfl)) (λ hc => equal_Z _ _ _ _ _ _ W.stocks V.stocks _ (hW.S.keep z_18) (hV.S.keep z_18)) rfl λ w_21 x_22 => ?_
 have := x_22.size
 have z_21 := eT z_18 x_22
 refine vL (pA rfl rfl rfl rfl) <| vm rfl <| vQ rfl rfl rfl rfl (λ hc => fa eF29 rfl) rfl <| ?_
 have B_5 := B_5.later x_22
 refine vQ rfl rfl rfl rfl (λ hc => ld (gt hc rfl) (B_5.one eF30 rfl)) rfl <| vQ rfl rfl rfl rfl (λ hc => fa eF29 rfl) rfl <| ?_
 have B_12 := B_12.later x_22
 refine vQ rfl rfl rfl rfl (λ hc => ld (gt hc rfl) (B_12.one eF30 rfl)) rfl <| vC rfl rfl rfl rfl eF63 (λ hc => ec (gt hc rfl) (ec (gt hc rfl) rfl)) (λ hc => equal_Z _ _ _ _ _ _ W.mines V.mines _ (hW.M.keep z_21) (hV.M.keep z_21)) rfl λ w_24 x_25 => ?_
 have := x_25.size
 have z_24 := eT z_21 x_25
 refine vL (pA rfl rfl rfl rfl) <| vm rfl <| vQ rfl rfl rfl rfl (λ hc => fa eF35 rfl) rfl <| ?_
 have B_5 := B_5.later x_25
 refine vQ rfl rfl rfl rfl (λ hc => ld (gt hc rfl) (B_5.one eF36 rfl)) rfl <| vQ rfl rfl rfl rfl (λ hc => fa eF35 rfl) rfl <| ?_
 have B_12 := B_12.later x_25
 refine vQ rfl rfl rfl rfl (λ hc => ld (gt hc rfl) (B_12.one eF36 rfl)) rfl <| vC rfl rfl rfl rfl eF66 (λ hc => ec (gt hc rfl) (ec (gt hc rfl) rfl)) (λ hc => equal_T _ _ _ _ _ _ W.troops V.troops _ (hW.T.keep z_24) (hV.T.keep z_24)) rfl λ w_27 x_28 => ?_
 have := x_28.size
 have z_27 := eT z_24 x_28
 refine vL (pA rfl rfl rfl rfl) <| vm rfl <| vQ rfl rfl rfl rfl (λ hc => fa eF43 rfl) rfl <| ?_
 have B_5 := B_5.later x_28
 refine vQ rfl rfl rfl rfl (λ hc => ld (gt hc rfl) (B_5.one eF5 rfl)) rfl <| vQ rfl rfl rfl rfl (λ hc => fa eF43 rfl) rfl <| ?_
 have B_12 := B_12.later x_28
 refine vQ rfl rfl rfl rfl (λ hc => ld (gt hc rfl) (B_12.one eF5 rfl)) rfl <| vQ rfl rfl rfl rfl (λ hc => beq (gt hc rfl) (gt hc rfl)) rfl <| vL (pA rfl rfl rfl rfl) <| vm rfl <| vQ rfl rfl rfl rfl (λ hc => fa eF67 rfl) rfl <| vQ rfl rfl rfl rfl (λ hc => ld (gt hc rfl) (B_5.one eF5 rfl)) rfl <| vQ rfl rfl rfl rfl (λ hc => fa eF67 rfl) rfl <| vQ rfl rfl rfl rfl (λ hc => ld (gt hc rfl) (B_12.one eF5 rfl)) rfl <| vQ rfl rfl rfl rfl (λ hc => beq (gt hc rfl) (gt hc rfl)) rfl <| vL (pA rfl rfl rfl rfl) <| va rfl <| nK <| rt <| tR (.tmp rfl .nil) <| ?_
 exact ⟨by rw [← same_world]; rfl, z_27⟩
theorem small_any  (w : World) :
  Calls Try.prog 59 #[] w (λ e w' => ∃ a, e = .returned (.agg (Wd.cells a smallW).toArray) ∧ WOwn w' w.heap.size a smallW ∧ Ext w w') := by
 refine calls_W (n := 11) Try.func59 rfl rfl rfl ?_
 refine sg <| al rfl eF53 rfl rfl λ w_1 b_2 x_3 l_4 B_5 => ?_
 have := x_3.size
 have z_1 := eT (Ext.rf w) x_3
 have q_7 := B_5.lt
 refine nK <| sg <| bs (e := 3) (cs := [.int .i64 0, .int .i64 0, .int .i64 3]) rfl (λ _ => by kernel_rfl) rfl λ w_8 b_9 x_10 l_11 B_12 => ?_
 have := x_10.size
 have z_8 := eT z_1 x_10
 have q_14 := B_12.lt
 refine vL (v := .agg #[.int .i64 3, .int .i64 1, .slice (some ⟨b_9, 0, none⟩) 3 3]) (bd rfl (by kernel_rfl)) <| vL (v := .agg #[.int .i64 0, .int .i64 0]) (bd rfl (by kernel_rfl)) <| bs (e := 70) (cs := [.int .i64 0, .int .i64 0]) rfl (λ _ => by kernel_rfl) rfl λ w_15 b_16 x_17 l_18 B_19 => ?_
 have := x_17.size
 have z_15 := eT z_8 x_17
 have q_21 := B_19.lt
 refine bs (e := 3) (cs := [.int .i64 20]) rfl (λ _ => by kernel_rfl) rfl λ w_22 b_23 x_24 l_25 B_26 => ?_
 have := x_24.size
 have z_22 := eT z_15 x_24
 have q_28 := B_26.lt
 refine bs (e := 3) (cs := [.int .i64 0, .int .i64 0, .int .i64 9]) rfl (λ _ => by kernel_rfl) rfl λ w_29 b_30 x_31 l_32 B_33 => ?_
 have := x_31.size
 have z_29 := eT z_22 x_31
 have q_35 := B_33.lt
 refine vL (v := .agg #[.int .i64 1, .int .i64 0]) (bd rfl (by kernel_rfl)) <| vL (v := .agg #[.int .i64 1, .int .i64 0, .int .i64 1, .int .i64 1, .int .i64 0, .int .i64 10, .int .i64 0]) (bd rfl (by kernel_rfl)) <| bs (e := 80) (cs := [.int .i64 1, .int .i64 0, .int .i64 1, .int .i64 1, .int .i64 0, .int .i64 10, .int .i64 0]) rfl (λ _ => by kernel_rfl) rfl λ w_36 b_37 x_38 l_39 B_40 => ?_
 have := x_38.size
 have z_36 := eT z_29 x_38
 have q_42 := B_40.lt
 refine vL (v := .agg #[.int .i64 3, .int .i64 1, .slice (some ⟨b_9, 0, none⟩) 3 3, .slice (some ⟨b_16, 0, none⟩) 1 1, .slice (some ⟨b_23, 0, none⟩) 1 1, .slice (some ⟨b_30, 0, none⟩) 3 3, .slice (some ⟨b_37, 0, none⟩) 1 1, .int .i64 2, .int .i64 0]) (bd rfl (by kernel_rfl)) <| ?_
 have B_5 := B_5.later (eT x_10 (eT x_17 (eT x_24 (eT x_31 x_38))))
 refine st (new := [.int .i64 3, .int .i64 1, .slice (some ⟨b_9, 0, none⟩) 3 3, .slice (some ⟨b_16, 0, none⟩) 1 1, .slice (some ⟨b_23, 0, none⟩) 1 1, .slice (some ⟨b_30, 0, none⟩) 3 3, .slice (some ⟨b_37, 0, none⟩) 1 1, .int .i64 2, .int .i64 0]) rfl rfl B_5 rfl eF55 rfl rfl rfl λ w_43 m_44 B_5 => ?_
 have := m_44.size
 have z_43 := Ext.mod z_36 m_44 (ge1 (by omega))
 have := m_44.size
 refine nK <| rt <| tR (.cell rfl (B_5.all eF54 eF55) .nil) <| ?_
 have B_12 := B_12.later (eT x_17 (eT x_24 (eT x_31 x_38)))
 have B_12 := B_12.mod m_44 (nm1 (by omega))
 have B_19 := B_19.later (eT x_24 (eT x_31 x_38))
 have B_19 := B_19.mod m_44 (nm1 (by omega))
 have B_26 := B_26.later (eT x_31 x_38)
 have B_26 := B_26.mod m_44 (nm1 (by omega))
 have B_33 := B_33.later x_38
 have B_33 := B_33.mod m_44 (nm1 (by omega))
 have B_40 := B_40.mod m_44 (nm1 (by omega))
 exact ⟨⟨some ⟨b_9, 0, none⟩, some ⟨b_16, 0, none⟩, some ⟨b_23, 0, none⟩, some ⟨b_30, 0, none⟩, some ⟨b_37, 0, none⟩, 3, 1, 1, 3, 1⟩, rfl, ⟨Blk.ownN (R := repI) (by_ := 8) (B := w.heap.size) (k := [0, 0, 3]) B_12 [[.int .i64 0], [.int .i64 0], [.int .i64 3]] rfl ⟨⟨rfl, okI_iff.2 (by decide)⟩, ⟨rfl, okI_iff.2 (by decide)⟩, ⟨rfl, okI_iff.2 (by decide)⟩, trivial⟩ (by simp) (by simp) (by decide) (by omega), Blk.ownN (R := Cel.rep) (by_ := 16) (B := w.heap.size) (k := [⟨0, 0⟩]) B_19 [[.int .i64 0, .int .i64 0]] rfl ⟨⟨rfl, okI_iff.2 (by decide), okI_iff.2 (by decide)⟩, trivial⟩ (by simp) (by simp) (by decide) (by omega), Blk.ownN (R := repI) (by_ := 8) (B := w.heap.size) (k := [20]) B_26 [[.int .i64 20]] rfl ⟨⟨rfl, okI_iff.2 (by decide)⟩, trivial⟩ (by simp) (by simp) (by decide) (by omega), Blk.ownN (R := repI) (by_ := 8) (B := w.heap.size) (k := [0, 0, 9]) B_33 [[.int .i64 0], [.int .i64 0], [.int .i64 9]] rfl ⟨⟨rfl, okI_iff.2 (by decide)⟩, ⟨rfl, okI_iff.2 (by decide)⟩, ⟨rfl, okI_iff.2 (by decide)⟩, trivial⟩ (by simp) (by simp) (by decide) (by omega), Blk.ownN (R := Trp.rep) (by_ := 56) (B := w.heap.size) (k := [⟨1, 0, 1, ⟨1, 0⟩, 10, 0⟩]) B_40 [[.int .i64 1, .int .i64 0, .int .i64 1, .int .i64 1, .int .i64 0, .int .i64 10, .int .i64 0]] rfl ⟨⟨rfl, okI_iff.2 (by decide), okI_iff.2 (by decide), okI_iff.2 (by decide), okI_iff.2 (by decide), okI_iff.2 (by decide), okI_iff.2 (by decide), okI_iff.2 (by decide)⟩, trivial⟩ (by simp) (by simp) (by decide) (by omega), by simp [Rep.blkOf]; omega, okI_iff.2 (by decide), okI_iff.2 (by decide), okI_iff.2 (by decide), okI_iff.2 (by decide)⟩, z_43⟩
end
section
open Go.RowKit
def fieldF : Fld := ⟨2, 2, [0, 1, 2, 3]⟩
end
section
open Go.RowKit
theorem Mis_ib_bool : (Try.prog.info? 4).map (λ i => (i.zero, i.size, i.bytes)) = some (some (.bool false), 1, 1) := by kernel_rfl
def marks (f : Fld) (out : List Bool) (l : List Cel) : List Bool := l.foldl (λ o c => o.set (c.y * f.wide + c.x).toNat true) out
theorem marks_len (f : Fld) : ∀ (l : List Cel) (out : List Bool), (marks f out l).length = out.length
 | [], _ => rfl
 | c :: l, out => by show (marks f (out.set _ true) l).length = _; rw [marks_len f l, List.length_set]
theorem marks_succ {f : Fld} {out : List Bool} {l : List Cel} {k : Nat} (h : k < l.length) : marks f out (l.take (k + 1)) = (marks f out (l.take k)).set ((l.getD k default).y * f.wide + (l.getD k default).x).toNat true := by
 unfold marks; rw [take_succ_dd (d := default) h, List.foldl_append]; rfl
theorem seen_in {f : Fld} {c n : Cel} {r : Int} (hn : n ∈ seenL f c r) : f.atE n = 0 := by
 by_cases h : seenE f c r = 0
 ·exact (seesE_ok (seen_sees h hn).1).2
 ·unfold seenL at hn; rw [if_pos h] at hn; simp at hn
theorem seen_idx {f : Fld} {c n : Cel} {r : Int} (hn : n ∈ seenL f c r) : 0 ≤ n.x ∧ n.x < f.wide ∧ 0 ≤ n.y ∧ n.y < f.high ∧ 0 ≤ n.y * f.wide ∧ n.y * f.wide ≤ 1600 ∧ n.y * f.wide + n.x < (f.places.length : Int) ∧ f.wide ≤ 40 := by
 have h0 := seen_in hn
 obtain ⟨hc, h1, h2, h3, h4⟩ := atE_chk h0
 obtain ⟨y1, y2, y3, y4, y5, y6⟩ := Fld.good hc
 have i := Fld.idx hc (atE_zero hc h0)
 have m1 : 0 ≤ n.y * f.wide := Int.mul_nonneg h3 (by omega)
 have m2 : n.y * f.wide ≤ 40 * 40 := Int.mul_le_mul (by omega) y2 (by omega) (by omega)
 omega
def look1 (W : Wd) (p : Int) (o : List Bool) (t : Trp) : List Bool := if t.owner = p then marks W.field o (seenL W.field t.spot 5) else o
def seenK (W : Wd) (p : Int) (k : Nat) : List Bool := (W.troops.take k).foldl (look1 W p) (marks W.field (List.replicate W.field.places.length false) (seenL W.field (W.bases.getD p.toNat default) 3))
theorem look1_len (W : Wd) (p : Int) (o : List Bool) (t : Trp) : (look1 W p o t).length = o.length := by unfold look1; split <;> simp [marks_len]
theorem fold_len (W : Wd) (p : Int) : ∀ (l : List Trp) (o : List Bool), (l.foldl (look1 W p) o).length = o.length
 | [], _ => rfl
 | t :: l, o => by rw [List.foldl_cons, fold_len W p l, look1_len]
theorem seenK_len (W : Wd) (p : Int) (k : Nat) : (seenK W p k).length = W.field.places.length := by unfold seenK; rw [fold_len, marks_len, List.length_replicate]
theorem seenK_succ {W : Wd} {p : Int} {k : Nat} (h : k < W.troops.length) : seenK W p (k + 1) = look1 W p (seenK W p k) (W.troops.getD k default) := by
 unfold seenK; rw [take_succ_dd (d := default) h, List.foldl_append]; rfl
theorem seenK_yes {W : Wd} {p : Int} {k : Nat} (h : k < W.troops.length) (h1 : (W.troops.getD k default).owner = p) : seenK W p (k + 1) = marks W.field (seenK W p k) (seenL W.field (W.troops.getD k default).spot 5) := by
 rw [seenK_succ h]; unfold look1; rw [if_pos h1]
theorem seenK_no {W : Wd} {p : Int} {k : Nat} (h : k < W.troops.length) (h1 : ¬ (W.troops.getD k default).owner = p) : seenK W p (k + 1) = seenK W p k := by
 rw [seenK_succ h]; unfold look1; rw [if_neg h1]
def mistE (W : Wd) (p : Int) : Int := if W.chk ≠ 0 then W.chk else if p < 0 ∨ (W.bases.length : Int) ≤ p then 7 else 0
def mistB (W : Wd) (p : Int) : List Bool := if mistE W p ≠ 0 then [] else seenK W p W.troops.length
theorem mist_no1 {W : Wd} {p : Int} (h : ¬ W.chk = 0) : mistE W p = W.chk ∧ mistB W p = [] := by
 have e : mistE W p = W.chk := by unfold mistE; rw [if_pos h]
 exact ⟨e, by unfold mistB; rw [e, if_pos h]⟩
theorem mist_no2 {W : Wd} {p : Int} (h : W.chk = 0) (hp : p < 0 ∨ (W.bases.length : Int) ≤ p) : mistE W p = 7 ∧ mistB W p = [] := by
 have e : mistE W p = 7 := by unfold mistE; rw [if_neg (by simpa using h), if_pos hp]
 exact ⟨e, by unfold mistB; rw [e]; rfl⟩
theorem mist_ok {W : Wd} {p : Int} (h : W.chk = 0) (hp : 0 ≤ p ∧ p < (W.bases.length : Int)) : mistE W p = 0 ∧ mistB W p = seenK W p W.troops.length := by
 have e : mistE W p = 0 := by unfold mistE; rw [if_neg (by simpa using h), if_neg (by omega)]
 exact ⟨e, by unfold mistB; rw [e]; rfl⟩
theorem look_any (a : Wd.At) (W : Wd) (x : Cel) (r : Int) (b0 bo : Nat) (A : Option Addr) (c : Nat) (out : List Bool) (w0 : World) (w : World) (hW : Wd.Has w0 a W) (hx0 : Ext w0 w) (H0 : Blk w b0 (Wd.cells a W) 58 (0, 0)) (HO : Blk w bo [.slice A out.length c] 37 (0, 0)) (hO : repB.SOwn 4 1 w w0.heap.size (Rep.blkOf A) A c out) (d0 : ∀ q ∈ Rep.blkOf A, q = b0 → False) (dO : ∀ q ∈ Rep.blkOf A, q = bo → False) (hlen : out.length = W.field.places.length) :
  Calls Try.prog 143 #[.agg #[.int .i64 x.x, .int .i64 x.y], .int .i64 r, .pointer (some ⟨b0, 0, none⟩), .pointer (some ⟨bo, 0, none⟩)] w (λ e w' => e = .returned (.tuple #[]) ∧ repB.SOwn 4 1 w' w0.heap.size (Rep.blkOf A) A c (marks W.field out (seenL W.field x r)) ∧ Mod (Rep.blkOf A) w w') := by
 have uA := λ q hq => (hO.lt q hq).2
 have lA : ∀ q ∈ Rep.blkOf A, w0.heap.size ≤ q := λ q hq => (hO.lt q hq).1
 have hx0s := hx0.size
 have hq0 := H0.lt
 have hqo := HO.lt
 refine calls_W (n := 36) Try.func143 rfl rfl rfl ?_
 refine sg <| bx rfl rfl rfl rfl λ w_1 b_2 x_3 l_4 B_5 => ?_
 have := x_3.size
 have z_1 := (Mod.rf (Rep.blkOf A) w).trans (Mod.of_ext x_3)
 have q_7 := B_5.lt
 refine nK <| sg <| vL (fa eF28 rfl) <| ?_
 have H0 := H0.later x_3
 refine vL (ld rfl (H0.par [.int .i64 W.field.wide, .int .i64 W.field.high, .slice a.P W.field.places.length a.p] eF14 eF15 rfl)) <| vL (ld rfl (B_5.all eF7 eF8)) <| vm rfl <| ca eF68 rfl rfl ((seen_any W.field x r _ _ _ (hW.P.keep (Ext.mod hx0 z_1 lA))).mono ?_)
 rintro e w_11 ⟨A_8, c_8, rfl, OS_8, x_12⟩
 refine ⟨_, rfl, ?_⟩
 have := x_12.size
 have z_11 := z_1.trans (Mod.of_ext x_12)
 have u_9 := λ q hq => (OS_8.lt q hq).2
 have lo_10 := λ q hq => (OS_8.lt q hq).1
 refine vm rfl <| vL (ex rfl rfl) <| vL (ex rfl rfl) <| va rfl <| va rfl <| nK <| sg <| vm rfl <| vL (ln Try.underlying55 rfl) <| vm rfl <| nK <| bk <| ?_
 have hO := hO.later (eT x_3 x_12)
 have H0 := H0.later x_12
 have HO := HO.later (eT x_3 x_12)
 refine lp (λ mI EI wI => ∃ k : Nat, EI = [(2, .pointer (some ⟨b0, 0, none⟩)), (3, .pointer (some ⟨bo, 0, none⟩)), (18, .slice A_8 ((seenL W.field x r).length) c_8), (19, .int .i64 ((((seenL W.field x r).length : Nat) : Int))), (20, .int .i64 (k : Int))] ∧ mI = (seenL W.field x r).length - k ∧ Mod (Rep.blkOf A) w wI ∧ Blk wI b0 (Wd.cells a W) 58 (0, 0) ∧ Blk wI bo [.slice A out.length c] 37 (0, 0) ∧ Cel.rep.SOwn 70 16 wI w_1.heap.size (Rep.blkOf A_8) A_8 c_8 (seenL W.field x r) ∧ repB.SOwn 4 1 wI w0.heap.size (Rep.blkOf A) A c (marks W.field out ((seenL W.field x r).take k)) ∧ (k ≤ (seenL W.field x r).length) ∧ (∀ q ∈ Rep.blkOf A, q = b0 → False) ∧ (∀ q ∈ Rep.blkOf A, q = bo → False) ∧ (∀ q ∈ Rep.blkOf A, q ∈ Rep.blkOf A_8 → False)) _ _ ⟨0, rfl, rfl, z_11, H0, HO, OS_8, hO, by omega, (λ q hq hb => by (exact d0 q hq hb)), (λ q hq hb => by (exact dO q hq hb)), (λ q hq hb => by (have := lo_10 q hb; (have := uA q hq; omega)))⟩ (.cons rfl (.cons rfl (.cons rfl (.cons rfl (.cons (loI rfl (by first | omega | rfl | (simp <;> omega))) .nil))))) ?_
 rintro m_18 E_19 w_17 ⟨k, rfl, rfl, z_17, H0, HO, OS_8, O1, hk, d_14, d_15, d_16⟩
 have := z_17.size
 have q_21 := H0.lt
 have q_22 := HO.lt
 have u_23 := λ q hq => (OS_8.lt q hq).2
 have u_24 := λ q hq => (O1.lt q hq).2
 have hol := marks_len W.field ((seenL W.field x r).take k) out
 have hsl := (OS_8).has.len_le
 refine sg <| vL (blt rfl rfl) <| nK <| sq <| ?_
 refine clt rfl (λ h_25 => ?_) (λ h_25 => ?_)
 ·obtain ⟨n1, n2, n3, n4, n5, n6, n7, n8⟩ := seen_idx (mem_dd (d := default) (show k < (seenL W.field x r).length by omega))
  refine sK <| sq <| bk <| sg <| vL (iA k Try.underlying55 eF8 rfl rfl (OS_8.has.adr (zl k (by omega))) rfl (by omega)) <| vL (ld rfl (Rep.SHas.elt hcC (OS_8.has.adh (zl k (by omega))) (get_d (l := seenL W.field x r) (u := default) (by omega)) eF7 eF8)) <| al rfl eF13 rfl rfl λ w_26 b_27 x_28 l_29 B_30 => ?_
  have := x_28.size
  have z_26 := z_17.trans (Mod.of_ext x_28)
  have q_32 := B_30.lt
  refine st (new := [.int .i64 (((seenL W.field x r).getD k default).x), .int .i64 (((seenL W.field x r).getD k default).y)]) rfl rfl B_30 rfl eF8 rfl rfl rfl λ w_33 m_34 B_30 => ?_
  have := m_34.size
  have z_33 := z_26.md m_34 (λ q hq => .inr (by have := List.mem_singleton.1 hq; omega))
  have := m_34.size
  refine nK <| rg <| ?_
  have HO := HO.later x_28
  have HO := HO.mod m_34 (nm1 (by omega))
  refine vL (ld rfl (HO.one eF69 rfl)) <| vL (fa eF6 rfl) <| vL (ld rfl (B_30.one eF5 rfl)) <| vL (fa eF28 rfl) <| vL (fa eF19 rfl) <| ?_
  have H0 := H0.later x_28
  have H0 := H0.mod m_34 (nm1 (by omega))
  refine vL (ld rfl (H0.one eF5 rfl)) <| vL (bmu rfl rfl (inI (by omega))) <| vL (fa eF4 rfl) <| vL (ld rfl (B_30.one eF5 rfl)) <| vL (bad rfl rfl (inI (by omega))) <| ?_
  have O1 := O1.later x_28
  have O1 := O1.mod m_34 (fk1 u_24 (by omega))
  refine vL (iA ((((((seenL W.field x r).getD k default).y) * W.field.wide) + (((seenL W.field x r).getD k default).x)).toNat) Try.underlying37 eF70 rfl rfl (O1.has.adr (zl ((((((seenL W.field x r).getD k default).y) * W.field.wide) + (((seenL W.field x r).getD k default).x)).toNat) (by (try rw [marks_len]); omega))) (by omega) (by (try rw [marks_len]); omega)) <| so (q' := true) (j := 0) (i := ((((((seenL W.field x r).getD k default).y) * W.field.wide) + (((seenL W.field x r).getD k default).x)).toNat)) O1 Rep.flat_bare (get_d (l := marks W.field out ((seenL W.field x r).take k)) (u := false) (by (try rw [marks_len]); omega)) rfl rfl rfl rfl (λ _ cs h => by have ok_ := (show _ ∧ _ from h).2; obtain rfl := hcB h; exact ⟨rfl, trivial⟩) rfl rfl eF70 λ w_37 m_38 O_39 => ?_
  have := m_38.size
  have z_37 := z_33.md m_38 (λ q hq => .inl hq)
  have := m_38.size
  refine nl <| nB <| nT <| rg <| vL (bad rfl rfl (inI (by omega))) <| vm rfl <| nl <| ?_
  have e1 : marks W.field out ((seenL W.field x r).take (k + 1)) = (marks W.field out ((seenL W.field x r).take k)).set ((((((seenL W.field x r).getD k default).y) * W.field.wide) + (((seenL W.field x r).getD k default).x)).toNat) true := marks_succ (by omega)
  have H0 := H0.mod m_38 (λ hq => d_14 _ hq rfl)
  have HO := HO.mod m_38 (λ hq => d_15 _ hq rfl)
  have OS_8 := OS_8.later x_28
  have OS_8 := OS_8.mod m_34 (λ q hq h => by have hb := List.mem_singleton.1 h; exfalso; (have := u_23 q hq; have := u_9 q hq; omega))
  have OS_8 := OS_8.mod m_38 (λ q hq h => by exfalso; (exact d_16 q h hq))
  exact nI _ _ ⟨k + 1, rfl, rfl, z_37, H0, HO, OS_8, (by rw [e1]; exact O_39), by omega, (λ q hq hb => by (exact d_14 q hq hb)), (λ q hq hb => by (exact d_15 q hq hb)), (λ q hq hb => by (exact d_16 q hq hb))⟩ (by omega) (.cons rfl (.cons rfl (.cons rfl (.cons rfl (.cons (loI rfl (by first | omega | rfl | (simp <;> omega))) .nil)))))
 ·refine xt <| xT <| xK <| xB <| ne <| tR .nil <| ?_
  have ek : k = (seenL W.field x r).length := by omega
  subst ek
  have hF := O1
  rw [List.take_length] at hF
  exact ⟨rfl, hF, z_17⟩
theorem mseen_any (a : Wd.At) (W : Wd) (p : Int) (w : World) (hW : Wd.Has w a W) :
  Calls Try.prog 103 #[.agg ((Wd.cells a W).toArray), .int .i64 p] w (λ e w' => ∃ A c, e = .returned (.tuple #[.slice A (mistB W p).length c, .int .i64 (mistE W p)]) ∧ repB.SOwn 4 1 w' w.heap.size (Rep.blkOf A) A c (mistB W p) ∧ Ext w w') := by
 refine calls_W (n := 55) Try.func103 rfl rfl rfl ?_
 refine sg <| bx rfl rfl rfl rfl λ w_1 b_2 x_3 l_4 B_5 => ?_
 have := x_3.size
 have z_1 := eT (Ext.rf w) x_3
 have q_7 := B_5.lt
 refine va rfl <| va rfl <| nK <| sq <| sg <| vL (ld rfl (B_5.all eF54 eF55)) <| ca eF56 rfl rfl ((check_any a W _ (hW.keep z_1)).mono ?_)
 rintro e w_8 ⟨rfl, x_9⟩
 refine ⟨_, rfl, ?_⟩
 have := x_9.size
 have z_8 := eT z_1 x_9
 refine va rfl <| nK <| sg <| vm rfl <| vL (bne rfl rfl) <| nK <| ?_
 refine cne rfl (λ h_11 => ?_) (λ h_11 => ?_)
 ·refine sg <| vm rfl <| va rfl <| va rfl <| nK <| rt <| tT <| tR (.tmp rfl (.tmp rfl .nil)) <| ?_
  obtain ⟨e1, e2⟩ := mist_no1 (p := p) h_11
  exact ⟨none, 0, by rw [e1, e2]; rfl, by rw [e2]; exact Rep.SOwn.nil _, z_8⟩
 ·have hG := Good.of_chk (by simpa using h_11)
  have hnb := hG.nb
  have hnt := hG.nt
  have hfl := Fld.len_le hG.field
  refine sK <| sq <| sg <| vm rfl <| vL (blt rfl rfl) <| vm rfl <| vQ rfl rfl rfl rfl (λ hc => mv rfl) rfl <| vQ rfl rfl rfl rfl (λ hc => fa eF31 rfl) rfl <| ?_
  have B_5 := B_5.later x_9
  refine vQ rfl rfl rfl rfl (λ hc => ld (gt hc rfl) (B_5.one eF32 rfl)) rfl <| vQ rfl rfl rfl rfl (λ hc => ln Try.underlying55 (gt hc rfl)) rfl <| vQ rfl rfl rfl rfl (λ hc => bge (gt hc rfl) (gt hc rfl)) rfl <| vL (pO rfl rfl rfl rfl) <| nK <| ?_
  refine cb rfl (λ h_12 => ?_) (λ h_12 => ?_)
  ·simp only [bS] at h_12
   refine sg <| va rfl <| va rfl <| nK <| rt <| tT <| tR (.tmp rfl (.tmp rfl .nil)) <| ?_
   obtain ⟨e1, e2⟩ := mist_no2 h_11 h_12
   exact ⟨none, 0, by rw [e1, e2]; rfl, by rw [e2]; exact Rep.SOwn.nil _, z_8⟩
  ·simp only [bS] at h_12
   refine sK <| sg <| vL (fa eF28 rfl) <| vL (fa eF62 rfl) <| vL (ld rfl (B_5.one eF30 rfl)) <| vL (ln Try.underlying42 rfl) <| mO (R := repB) (by_ := 1) (B := w.heap.size) (c := W.field.places.length) (zv := (.bool false)) (q := false) Rep.flat_plain Try.underlying37 Mis_ib_bool rfl rfl (λ j u h => raw0B j u h) (λ _ => ⟨rfl, trivial⟩) rfl rfl rfl (by omega) (by omega) (by omega) λ w_13 b_14 x_15 l_16 O_17 => ?_
   have := x_15.size
   have z_13 := eT z_8 x_15
   have u_19 := λ q hq => (O_17.lt q hq).2
   have lo_20 : ∀ q ∈ Rep.blkOf (some ⟨b_14, 0, none⟩), b_14 ≤ q := λ q hq => Nat.le_of_eq (List.mem_singleton.1 hq).symm
   refine al rfl eF71 rfl rfl λ w_21 b_22 x_23 l_24 B_25 => ?_
   have := x_23.size
   have z_21 := eT z_13 x_23
   have q_27 := B_25.lt
   refine st (new := [.slice (some ⟨b_14, 0, none⟩) W.field.places.length W.field.places.length]) rfl rfl B_25 rfl eF72 rfl rfl rfl λ w_28 m_29 B_25 => ?_
   have := m_29.size
   have z_28 := Ext.mod z_21 m_29 (ge1 (by omega))
   have := m_29.size
   refine nK <| sg <| vL (mf rfl rfl) <| va rfl <| nK <| sg <| vm rfl <| vL (fa eF31 rfl) <| ?_
   have B_5 := B_5.later (eT x_15 x_23)
   have B_5 := B_5.mod m_29 (nm1 (by omega))
   refine vL (ld rfl (B_5.one eF32 rfl)) <| vm rfl <| vL (iA p.toNat Try.underlying55 eF8 rfl rfl ((hW.B.keep z_28).adr (zl p.toNat (by omega))) (by omega) (by omega)) <| vL (ld rfl (Rep.SHas.elt hcC ((hW.B.keep z_28).adh (zl p.toNat (by omega))) (get_d (l := W.bases) (u := default) (by omega)) eF7 eF8)) <| ?_
   have O_17 := O_17.later x_23
   have O_17 := O_17.mod m_29 (fk1 u_19 (by omega))
   have d_33 : ∀ q ∈ Rep.blkOf (some ⟨b_14, 0, none⟩), q = b_2 → False := λ q hq hb => by (have := lo_20 q hq; omega)
   have d_34 : ∀ q ∈ Rep.blkOf (some ⟨b_14, 0, none⟩), q = b_22 → False := λ q hq hb => by (have := u_19 q hq; omega)
   refine cv eF73 rfl rfl rfl ((look_any a W (W.bases.getD p.toNat default) 3 b_2 b_22 _ _ _ w _ hW z_28 B_5 (by simpa [seenK_len] using B_25) O_17 d_33 d_34 (by first | exact seenK_len _ _ _ | simp only [marks_len, List.length_replicate])).mono ?_)
   rintro e w_36 ⟨rfl, O_32, m_35⟩
   refine ⟨_, rfl, ?_⟩
   have := m_35.size
   have z_36 := Ext.mod z_28 m_35 (λ q hq => (O_17.lt q hq).1)
   refine nK <| sq <| sg <| vL (fa eF35 rfl) <| ?_
   have d_38 : ∀ q ∈ Rep.blkOf (some ⟨b_14, 0, none⟩), q = b_2 → False := λ q hq hb => by (have := lo_20 q hq; omega)
   have B_5 := B_5.mod m_35 (λ hq => d_38 _ hq rfl)
   refine vL (ld rfl (B_5.one eF36 rfl)) <| vL (ln Try.underlying56 rfl) <| vm rfl <| nK <| bk <| ?_
   have d_42 : ∀ q ∈ Rep.blkOf (some ⟨b_14, 0, none⟩), q = b_22 → False := λ q hq hb => by (have := u_19 q hq; omega)
   have B_25 := B_25.mod m_35 (λ hq => d_42 _ hq rfl)
   refine lp (λ mI EI wI => ∃ k : Nat, EI = [(1, .int .i64 p), (4, .slice none 0 0), (5, .int .i64 0), (7, .pointer (some ⟨b_22, 0, none⟩)), (8, .func (.func 143) #[] #[.pointer (some ⟨b_2, 0, none⟩), .pointer (some ⟨b_22, 0, none⟩)]), (39, .slice a.T W.troops.length a.t), (40, .int .i64 (W.troops.length : Int)), (41, .int .i64 (k : Int))] ∧ mI = W.troops.length - k ∧ Ext w wI ∧ Blk wI b_2 (Wd.cells a W) 58 (0, 0) ∧ Blk wI b_22 [.slice (some ⟨b_14, 0, none⟩) W.field.places.length W.field.places.length] 37 (0, 0) ∧ repB.SOwn 4 1 wI w.heap.size (Rep.blkOf (some ⟨b_14, 0, none⟩)) (some ⟨b_14, 0, none⟩) W.field.places.length (seenK W p k) ∧ (k ≤ W.troops.length) ∧ (∀ q ∈ Rep.blkOf (some ⟨b_14, 0, none⟩), q = b_2 → False) ∧ (∀ q ∈ Rep.blkOf (some ⟨b_14, 0, none⟩), q = b_22 → False)) _ _ ⟨0, rfl, rfl, z_36, B_5, B_25, O_32, by omega, (λ q hq hb => by (exact d_38 q hq hb)), (λ q hq hb => by (have := u_19 q hq; omega))⟩ (.cons rfl (.cons rfl (.cons rfl (.cons rfl (.cons rfl (.cons rfl (.cons rfl (.cons (loI rfl (by first | omega | rfl | (simp <;> omega))) .nil)))))))) ?_
   rintro m_43 E_44 w_41 ⟨k, rfl, rfl, z_41, B_5, B_25, O1, hk, d_39, d_40⟩
   have := z_41.size
   have q_46 := B_5.lt
   have q_47 := B_25.lt
   have u_48 := λ q hq => (O1.lt q hq).2
   refine sg <| vL (blt rfl rfl) <| nK <| sq <| ?_
   refine clt rfl (λ h_49 => ?_) (λ h_49 => ?_)
   ·refine sK <| sq <| bk <| sg <| vL (iA k Try.underlying56 eF0 rfl rfl ((hW.T.keep z_41).adr (zl k (by omega))) rfl (by omega)) <| vL (ld rfl (Rep.SHas.elt hcT ((hW.T.keep z_41).adh (zl k (by omega))) (get_d (l := W.troops) (u := default) (by omega)) eF1 eF0)) <| al rfl eF3 rfl rfl λ w_50 b_51 x_52 l_53 B_54 => ?_
    have := x_52.size
    have z_50 := eT z_41 x_52
    have q_56 := B_54.lt
    refine st (new := [.int .i64 ((W.troops.getD k default).id), .int .i64 ((W.troops.getD k default).owner), .int .i64 ((W.troops.getD k default).kind), .int .i64 ((W.troops.getD k default).spot.x), .int .i64 ((W.troops.getD k default).spot.y), .int .i64 ((W.troops.getD k default).life), .int .i64 ((W.troops.getD k default).load)]) rfl rfl B_54 rfl eF0 rfl rfl rfl λ w_57 m_58 B_54 => ?_
    have := m_58.size
    have z_57 := Ext.mod z_50 m_58 (ge1 (by omega))
    have := m_58.size
    refine nK <| sg <| vL (fa eF33 rfl) <| vL (ld rfl (B_54.one eF5 rfl)) <| vm rfl <| vL (beq rfl rfl) <| nK <| ?_
    refine ceq rfl (λ h_61 => ?_) (λ h_61 => ?_)
    ·refine rg <| vm rfl <| vL (fa eF25 rfl) <| vL (ld rfl (B_54.par [.int .i64 ((W.troops.getD k default).spot.x), .int .i64 ((W.troops.getD k default).spot.y)] eF7 eF8 rfl)) <| ?_
     have B_5 := B_5.later x_52
     have B_5 := B_5.mod m_58 (nm1 (by omega))
     have B_25 := B_25.later x_52
     have B_25 := B_25.mod m_58 (nm1 (by omega))
     have O1 := O1.later x_52
     have O1 := O1.mod m_58 (fk1 u_48 (by omega))
     have d_63 : ∀ q ∈ Rep.blkOf (some ⟨b_14, 0, none⟩), q = b_2 → False := λ q hq hb => by (exact d_39 q hq hb)
     have d_64 : ∀ q ∈ Rep.blkOf (some ⟨b_14, 0, none⟩), q = b_22 → False := λ q hq hb => by (exact d_40 q hq hb)
     refine cv eF73 rfl rfl rfl ((look_any a W ((⟨(W.troops.getD k default).spot.x, (W.troops.getD k default).spot.y⟩ : Cel)) 5 b_2 b_22 _ _ _ w _ hW z_57 B_5 (by simpa [seenK_len] using B_25) O1 d_63 d_64 (by first | exact seenK_len _ _ _ | simp only [marks_len, List.length_replicate])).mono ?_)
     rintro e w_66 ⟨rfl, O_62, m_65⟩
     refine ⟨_, rfl, ?_⟩
     have := m_65.size
     have z_66 := Ext.mod z_57 m_65 (λ q hq => (O1.lt q hq).1)
     refine nl <| nB <| nT <| rg <| vL (bad rfl rfl (inI (by omega))) <| vm rfl <| nl <| ?_
     have e1 : seenK W p (k + 1) = marks W.field (seenK W p k) (seenL W.field ((⟨(W.troops.getD k default).spot.x, (W.troops.getD k default).spot.y⟩ : Cel)) 5) := seenK_yes (by omega) h_61
     have B_5 := B_5.mod m_65 (λ hq => d_39 _ hq rfl)
     have B_25 := B_25.mod m_65 (λ hq => d_40 _ hq rfl)
     exact nI _ _ ⟨k + 1, rfl, rfl, z_66, B_5, B_25, (by rw [e1]; exact O_62), by omega, (λ q hq hb => by (exact d_39 q hq hb)), (λ q hq hb => by (exact d_40 q hq hb))⟩ (by omega) (.cons rfl (.cons rfl (.cons rfl (.cons rfl (.cons rfl (.cons rfl (.cons rfl (.cons (loI rfl (by first | omega | rfl | (simp <;> omega))) .nil))))))))
    ·refine sk <| nB <| nT <| rg <| vL (bad rfl rfl (inI (by omega))) <| vm rfl <| nl <| ?_
     have e1 : seenK W p (k + 1) = seenK W p k := seenK_no (by omega) h_61
     have B_5 := B_5.later x_52
     have B_5 := B_5.mod m_58 (nm1 (by omega))
     have B_25 := B_25.later x_52
     have B_25 := B_25.mod m_58 (nm1 (by omega))
     have O1 := O1.later x_52
     have O1 := O1.mod m_58 (fk1 u_48 (by omega))
     exact nI _ _ ⟨k + 1, rfl, rfl, z_57, B_5, B_25, (by rw [e1]; exact O1), by omega, (λ q hq hb => by (exact d_39 q hq hb)), (λ q hq hb => by (exact d_40 q hq hb))⟩ (by omega) (.cons rfl (.cons rfl (.cons rfl (.cons rfl (.cons rfl (.cons rfl (.cons rfl (.cons (loI rfl (by first | omega | rfl | (simp <;> omega))) .nil))))))))
   ·refine xt <| xT <| xK <| xB <| nT <| sg <| vL (ld rfl (B_25.one eF69 rfl)) <| va rfl <| va rfl <| nK <| rt <| tR (.tmp rfl (.tmp rfl .nil)) <| ?_
    have ek : k = W.troops.length := by omega
    subst ek
    obtain ⟨e1, e2⟩ := mist_ok h_11 h_12
    exact ⟨_, _, by rw [e1, e2, seenK_len]; rfl, by rw [e2]; exact O1, z_41⟩
end
end Go.Proofs.Ytccankldeogdlaa
