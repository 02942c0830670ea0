/-
  link.Check. (Printed by bin/linkck.py.)
-/
import Derived.Test.YtfabhinehfhndaaLnC
set_option linter.unusedVariables false
set_option linter.unusedSimpArgs false
namespace Go.Proofs.Ytfabhinehfhndaa
open Go.RowKit

theorem LnK_fd_api_Link_0 : Fd Try.prog 55 0 0 := fun _ _ _ => by kernel_rfl
theorem LnK_ag_int : Ag Try.prog 3 false := fun _ => by kernel_rfl
theorem LnK_en_link_within : Enters Try.prog 56 := en Try.func56 (by kernel_rfl) (by kernel_rfl)
theorem LnK_fd_api_Link_1 : Fd Try.prog 55 1 1 := fun _ _ _ => by kernel_rfl
theorem LnK_ag_S_string : Ag Try.prog 53 false := fun _ => by kernel_rfl
theorem LnK_fd_api_Link_4 : Fd Try.prog 55 4 4 := fun _ _ _ => by kernel_rfl
theorem LnK_ag_S_int : Ag Try.prog 38 false := fun _ => by kernel_rfl
theorem LnK_fd_api_Link_5 : Fd Try.prog 55 5 5 := fun _ _ _ => by kernel_rfl
theorem LnK_fd_api_Link_6 : Fd Try.prog 55 6 6 := fun _ _ _ => by kernel_rfl
theorem LnK_fd_api_Link_7 : Fd Try.prog 55 7 7 := fun _ _ _ => by kernel_rfl
theorem LnK_sz_string : Sz Try.prog 9 1 := fun _ => by kernel_rfl
theorem LnK_en_slices_Equal_S_string_string_ : Enters Try.prog 28 := en Try.func28 (by kernel_rfl) (by kernel_rfl)
theorem LnK_fd_api_Link_2 : Fd Try.prog 55 2 2 := fun _ _ _ => by kernel_rfl
theorem LnK_fd_api_Link_3 : Fd Try.prog 55 3 3 := fun _ _ _ => by kernel_rfl
theorem LnK_en_link_all : Enters Try.prog 57 := en Try.func57 (by kernel_rfl) (by kernel_rfl)
theorem LnK_sz_int : Sz Try.prog 3 1 := fun _ => by kernel_rfl
def incB (l : List Int) : Bool := decide (∀ i, i < l.length - 1 → l.getD i 0 < l.getD (i + 1) 0)
def Lnk.large (L : Lnk) : Bool := decide (200 < L.sent.length) || decide (1000 < L.way.length) || decide (1000 < L.acks.length)
def Lnk.good (L : Lnk) : Bool := decide ((L.got.length : Int) ≤ (L.sent.length : Int)) && decide (L.got = L.sent.take L.got.length) && inB L.base 0 (L.got.length : Int) && decide ((L.held.length : Int) ≤ (L.sent.length : Int)) && inB L.next ((L.got.length : Int) + (L.held.length : Int)) (min (L.base + L.window) (L.sent.length : Int)) && L.way.all (fun n => inB n 0 (L.next - 1)) && L.acks.all (fun n => inB n 0 (L.got.length : Int)) && L.held.all (fun n => inB n ((L.got.length : Int) + 1) (L.next - 1)) && incB L.held
def Lnk.chk (L : Lnk) : Int := if inB L.window 1 16 = false then 1 else if L.large = true then 2 else if L.good = true then 0 else 4
section
variable {L : Lnk} {l : List Int} {i k : Nat} {g : Bool}
theorem b2_ (p q : Bool) : (p = true ∧ q = true) ∨ (p = true ∧ q = false) ∨ p = false := by cases p <;> cases q <;> simp
theorem b4_ (p q r s : Bool) : (p = true ∧ q = true ∧ r = true ∧ s = true) ∨ (p = true ∧ q = true ∧ r = true ∧ s = false) ∨ (p = true ∧ q = true ∧ r = false) ∨ (p = true ∧ q = false) ∨ p = false := by cases p <;> cases q <;> cases r <;> cases s <;> simp
theorem large_mk (h : ((200 : Int) < (L.sent.length : Int) ∨ (1000 : Int) < (L.way.length : Int)) ∨ (1000 : Int) < (L.acks.length : Int)) : L.large = true := by
  unfold Lnk.large; simp only [Bool.or_eq_true, decide_eq_true_eq]; omega
theorem large_mk0 (h : ((L.sent.length : Int) ≤ 200 ∧ (L.way.length : Int) ≤ 1000) ∧ (L.acks.length : Int) ≤ 1000) : L.large = false := by
  unfold Lnk.large; simp only [Bool.or_eq_false_iff, decide_eq_false_iff_not]; omega
theorem large_false (h : L.large = false) : L.sent.length ≤ 200 ∧ L.way.length ≤ 1000 ∧ L.acks.length ≤ 1000 := by
  unfold Lnk.large at h; simp only [Bool.or_eq_false_iff, decide_eq_false_iff_not] at h; omega
theorem Lnk.chk_arg (h : inB L.window 1 16 = false) : L.chk = 1 := by unfold Lnk.chk; rw [if_pos h]
theorem Lnk.chk_large (h : inB L.window 1 16 = true) (h2 : L.large = true) : L.chk = 2 := by unfold Lnk.chk; rw [if_neg (by rw [h]; decide), if_pos h2]
theorem Lnk.chk_form (h : inB L.window 1 16 = true) (h2 : L.large = false) (h3 : L.good = false) : L.chk = 4 := by unfold Lnk.chk; rw [if_neg (by rw [h]; decide), if_neg (by rw [h2]; decide), if_neg (by rw [h3]; decide)]
theorem Lnk.chk_ok (h : inB L.window 1 16 = true) (h2 : L.large = false) (h3 : L.good = true) : L.chk = 0 := by unfold Lnk.chk; rw [if_neg (by rw [h]; decide), if_neg (by rw [h2]; decide), if_pos h3]
theorem Lnk.good_true (k1 : decide ((L.got.length : Int) ≤ (L.sent.length : Int)) = true) (k2 : decide (L.got = L.sent.take L.got.length) = true) (k3 : inB L.base 0 (L.got.length : Int) = true) (k4 : decide ((L.held.length : Int) ≤ (L.sent.length : Int)) = true) (k5 : inB L.next ((L.got.length : Int) + (L.held.length : Int)) (min (L.base + L.window) (L.sent.length : Int)) = true) (k6 : L.way.all (fun n => inB n 0 (L.next - 1)) = true) (k7 : L.acks.all (fun n => inB n 0 (L.got.length : Int)) = true) (k8 : L.held.all (fun n => inB n ((L.got.length : Int) + 1) (L.next - 1)) = true) (k9 : incB L.held = true) : L.good = true := by
  unfold Lnk.good; rw [k1, k2, k3, k4, k5, k6, k7, k8, k9]; rfl
theorem Lnk.good_inc (h : incB L.held = false) : L.good = false := by unfold Lnk.good; rw [h, Bool.and_false]
theorem inc_one (l : List Int) : incB (l.take 1) = true := by unfold incB; exact decide_eq_true fun i hi => by rw [List.length_take] at hi; omega
theorem getD_take' (h : i < k) : (l.take k).getD i 0 = l.getD i 0 := by simp [List.getD_eq_getElem?_getD, List.getElem?_take, h]
theorem inc_succ (h1 : 1 ≤ k) (h2 : k < l.length) (hg : g = incB (l.take k)) (ht : g = true) : decide (l.getD ((k : Int) - 1).toNat 0 < l.getD k 0) = incB (l.take (k + 1)) := by
  rw [show ((k : Int) - 1).toNat = k - 1 by omega]
  have hg := of_decide_eq_true (hg.symm.trans ht)
  unfold incB
  refine decide_eq_decide.2 ⟨fun h i hi => ?_, fun h => ?_⟩
  · rw [List.length_take] at hi
    rw [getD_take' (by omega), getD_take' (by omega)]
    by_cases hk : i + 1 = k
    · subst hk; simpa using h
    · have := hg i (by rw [List.length_take]; omega)
      rwa [getD_take' (by omega), getD_take' (by omega)] at this
  · have := h (k - 1) (by rw [List.length_take]; omega)
    rw [getD_take' (by omega), getD_take' (by omega), show k - 1 + 1 = k by omega] at this
    exact this
theorem inc_end (hg : g = incB (l.take k)) (hk : l.length ≤ k) (h : g = true) : incB l = true := by rw [h, List.take_of_length_le hk] at hg; exact hg.symm
theorem inc_bad (hg : g = incB (l.take k)) (h : g = false) : incB l = false := by
  rw [h] at hg
  have hg := of_decide_eq_false hg.symm
  refine decide_eq_false fun hh => hg fun i hi => ?_
  rw [List.length_take] at hi
  rw [getD_take' (by omega), getD_take' (by omega)]
  exact hh i (by omega)
end
set_option maxRecDepth 100000 in
set_option maxHeartbeats 400000 in
theorem lcheck_any (a : Lnk.At) (L : Lnk) (w : World) (hL : Lnk.Has w a L) :
    Calls Try.prog 30 #[.agg #[.int .i64 L.window, .slice a.S L.sent.length a.s, .int .i64 L.base, .int .i64 L.next, .slice a.W L.way.length a.w, .slice a.K L.acks.length a.k, .slice a.G L.got.length a.g, .slice a.H L.held.length a.h]] w (fun e w' => e = .returned (.int .i64 L.chk) ∧ Ext w w') := by
  have hS0 := hL.S.len_le
  have hG0 := hL.G.len_le
  have hW0 := hL.W.len_le
  have hK0 := hL.K.len_le
  have hH0 := hL.H.len_le
  have hS1 := hL.S.1
  have hn0 := okI_iff.1 hL.nums.1
  have hn1 := okI_iff.1 hL.nums.2.1
  have hn2 := okI_iff.1 hL.nums.2.2
  refine calls_W (n := 129) Try.func30 rfl rfl rfl ?_
  refine sq <| rg <| bx rfl rfl rfl rfl fun w_1 b_2 x_3 l_4 B_5 => ?_
  have q_6 := x_3.size
  have z_1 := Ext.tr (Ext.rf w) x_3
  have q_7 := B_5.lt
  refine vl (as_ rfl) rfl <| nl <| nT <| sq <| sq <| rg <| vl (fa LnK_fd_api_Link_0 rfl) rfl <| vl (ld rfl (B_5.one LnK_ag_int rfl)) rfl <| ca LnK_en_link_within rfl rfl ((lwithin_any L.window 1 16 _).mono ?_)
  rintro e w_8 ⟨rfl, x_9⟩
  refine ⟨_, rfl, ?_⟩
  have q_10 := x_9.size
  have z_8 := Ext.tr z_1 x_9
  refine vl (nt rfl) rfl <| nl <| nT <| ?_
  refine cb rfl (fun h_11 => ?_) (fun h_11 => ?_)
  · refine sq <| rg <| vl (as_ rfl) rfl <| nl <| nT <| rt <| tT <| tR (.tmp rfl .nil) <| ?_
    exact ⟨by rw [Lnk.chk_arg (by simpa using h_11)]; rfl, z_8⟩
  · have hwo := inB_true (show inB L.window 1 16 = true by simpa using h_11)
    refine sk <| nT <| sq <| sq <| rg <| vl (fa LnK_fd_api_Link_1 rfl) rfl <| ?_
    have B_5 := B_5.later x_9
    refine vl (ld rfl (B_5.one LnK_ag_S_string rfl)) rfl <| vl (ln Try.underlying53 rfl) rfl <| vl (bgt rfl rfl) rfl <| vl (mv rfl) rfl <| vQ rfl rfl rfl rfl (fun hc => fa LnK_fd_api_Link_4 rfl) rfl <| vQ rfl rfl rfl rfl (fun hc => ld (gt hc rfl) (B_5.one LnK_ag_S_int rfl)) rfl <| vQ rfl rfl rfl rfl (fun hc => ln Try.underlying38 (gt hc rfl)) rfl <| vQ rfl rfl rfl rfl (fun hc => bgt (gt hc rfl) rfl) rfl <| vl (pO rfl rfl rfl rfl) rfl <| vl (mv rfl) rfl <| vQ rfl rfl rfl rfl (fun hc => fa LnK_fd_api_Link_5 rfl) rfl <| vQ rfl rfl rfl rfl (fun hc => ld (gt hc rfl) (B_5.one LnK_ag_S_int rfl)) rfl <| vQ rfl rfl rfl rfl (fun hc => ln Try.underlying38 (gt hc rfl)) rfl <| vQ rfl rfl rfl rfl (fun hc => bgt (gt hc rfl) rfl) rfl <| vl (pO rfl rfl rfl rfl) rfl <| nl <| nT <| ?_
    refine cb rfl (fun h_12 => ?_) (fun h_12 => ?_)
    · refine sq <| rg <| vl (as_ rfl) rfl <| nl <| nT <| rt <| tT <| tR (.tmp rfl .nil) <| ?_
      exact ⟨by rw [Lnk.chk_large (by simpa using h_11) (large_mk (by simpa using h_12))]; rfl, z_8⟩
    · have hlg : L.large = false := large_mk0 (by simpa using h_12)
      have hlg2 := large_false hlg
      refine sk <| nT <| sq <| ?_
      refine rd [(1, 0), (4, 0)] [0, 1, 2, 3, 4, 5, 6, 7] (by kernel_rfl) (by kernel_rfl) ?_
      refine fw rfl rfl (fun _ => fa LnK_fd_api_Link_6 rfl) rfl <| fq rfl rfl (fun _ x => ld rfl ((B_5.later x).one LnK_ag_S_string rfl)) rfl <| fw rfl rfl (fun _ => ln Try.underlying53 rfl) rfl <| fw rfl rfl (fun _ => fa LnK_fd_api_Link_7 rfl) rfl <| fq rfl rfl (fun _ x => ld rfl ((B_5.later x).one LnK_ag_S_int rfl)) rfl <| fw rfl rfl (fun _ => ln Try.underlying38 rfl) rfl <| fw rfl rfl (fun _ => as_ rfl) rfl <| fw rfl rfl (fun _ => as_ rfl) rfl <| fn fun w_13 x_14 => ?_
      have q_15 := x_14.size
      have z_13 := Ext.tr z_8 x_14
      refine nT <| sq <| ?_
      rcases (show (decide ((L.got.length : Int) ≤ (L.sent.length : Int)) = true ∧ decide (L.got = L.sent.take L.got.length) = true) ∨ (decide ((L.got.length : Int) ≤ (L.sent.length : Int)) = true ∧ decide (L.got = L.sent.take L.got.length) = false) ∨ decide ((L.got.length : Int) ≤ (L.sent.length : Int)) = false from b2_ _ _) with ⟨k1, k2⟩ | ⟨k1, k2⟩ | k1
      · have k1o : L.got.length ≤ L.sent.length := by simpa using k1
        refine rd [(2, 0), (7, 0), (9, 0), (12, 0), (16, 0), (20, 0), (22, 0)] [0, 1, 2, 3, 4, 5, 6, 7, 8, 9, 10, 11, 12, 13, 14, 15, 16, 17, 18, 19, 20, 21, 22, 23, 24] (by kernel_rfl) (by kernel_rfl) ?_
        refine fw rfl rfl (fun _ => mv rfl) rfl <| fw rfl rfl (fun _ => fa LnK_fd_api_Link_1 rfl) rfl <| ?_
        have B_5 := B_5.later x_14
        refine fq rfl rfl (fun _ x => ld rfl ((B_5.later x).one LnK_ag_S_string rfl)) rfl <| fw rfl rfl (fun _ => ln Try.underlying53 rfl) rfl <| fw rfl rfl (fun _ => ble rfl rfl) rfl <| fw rfl rfl (fun _ => mv (evb rfl k1)) rfl <| fW rfl rfl rfl rfl rfl rfl (fun hc _ => fa LnK_fd_api_Link_6 rfl) rfl <| fQ rfl rfl rfl rfl rfl rfl (fun hc _ x => ld rfl ((B_5.later x).one LnK_ag_S_string rfl)) rfl <| fW rfl rfl rfl rfl rfl rfl (fun hc _ => fa LnK_fd_api_Link_1 rfl) rfl <| fQ rfl rfl rfl rfl rfl rfl (fun hc _ x => ld rfl ((B_5.later x).one LnK_ag_S_string rfl)) rfl <| fW rfl rfl rfl rfl rfl rfl (fun hc _ => mv rfl) rfl <| fW rfl rfl rfl rfl rfl rfl (fun hc _ => fa LnK_fd_api_Link_1 rfl) rfl <| fQ rfl rfl rfl rfl rfl rfl (fun hc _ x => ld rfl ((B_5.later x).one LnK_ag_S_string rfl)) rfl <| fW rfl rfl rfl rfl rfl rfl (fun hc _ => ln Try.underlying53 rfl) rfl <| fW rfl rfl rfl rfl rfl rfl (fun hc _ => mn rfl rfl) rfl <| fW rfl rfl rfl rfl rfl rfl (fun hc _ => sP L.got.length (L.sent.take L.got.length).length Try.underlying53 LnK_sz_string rfl rfl (by omega) (by omega) (by rw [List.length_take]; omega)) rfl <| fC rfl rfl rfl rfl rfl rfl LnK_en_slices_Equal_S_string_string_ (fun hc => rfl) (fun hc _ x => equal_S _ _ _ _ _ _ L.got (L.sent.take L.got.length) _ (hL.G.keep (Ext.tr z_13 x)) ((hL.S.keep (Ext.tr z_13 x)).pre L.got.length)) rfl <| fw rfl rfl (fun _ => pkT rfl (evb rfl k2)) rfl <| fw rfl rfl (fun _ => mv rfl) rfl <| fW rfl rfl rfl rfl rfl rfl (fun hc _ => fa LnK_fd_api_Link_2 rfl) rfl <| fQ rfl rfl rfl rfl rfl rfl (fun hc _ x => ld rfl ((B_5.later x).one LnK_ag_int rfl)) rfl <| fW rfl rfl rfl rfl rfl rfl (fun hc _ => mv rfl) rfl <| fC rfl rfl rfl rfl rfl rfl LnK_en_link_within (fun hc => rfl) (fun hc _ x => lwithin_any L.base 0 (L.got.length : Int) _) rfl <| fw rfl rfl (fun _ => pkT rfl rfl) rfl <| fw rfl rfl (fun _ => as_ rfl) rfl <| fn fun w_16 x_17 => ?_
        have q_18 := x_17.size
        have z_16 := Ext.tr z_13 x_17
        refine nT <| sq <| ?_
        rcases (show (inB L.base 0 (L.got.length : Int) = true ∧ decide ((L.held.length : Int) ≤ (L.sent.length : Int)) = true) ∨ (inB L.base 0 (L.got.length : Int) = true ∧ decide ((L.held.length : Int) ≤ (L.sent.length : Int)) = false) ∨ inB L.base 0 (L.got.length : Int) = false from b2_ _ _) with ⟨k3, k4⟩ | ⟨k3, k4⟩ | k3
        · have k3o := inB_true k3
          have k4o : L.held.length ≤ L.sent.length := by simpa using k4
          refine rg <| vl (mv (evb rfl k3)) rfl <| vl (mv rfl) rfl <| ug rfl rfl rfl <| vl (mv rfl) rfl <| ug rfl rfl rfl <| vl (fa LnK_fd_api_Link_1 rfl) rfl <| ug rfl rfl rfl <| ?_
          have B_5 := B_5.later x_17
          refine vl (ld rfl (B_5.one LnK_ag_S_string rfl)) rfl <| ug rfl rfl rfl <| vl (ln Try.underlying53 rfl) rfl <| ug rfl rfl rfl <| vl (ble rfl rfl) rfl <| vl (pkT rfl (evb rfl k4)) rfl <| vl (mv rfl) rfl <| ug rfl rfl rfl <| vl (fa LnK_fd_api_Link_3 rfl) rfl <| ug rfl rfl rfl <| vl (ld rfl (B_5.one LnK_ag_int rfl)) rfl <| ug rfl rfl rfl <| vl (mv rfl) rfl <| ug rfl rfl rfl <| vl (mv rfl) rfl <| ug rfl rfl rfl <| vl (bad rfl rfl (inI (by omega))) rfl <| ug rfl rfl rfl <| vl (fa LnK_fd_api_Link_2 rfl) rfl <| ug rfl rfl rfl <| vl (ld rfl (B_5.one LnK_ag_int rfl)) rfl <| ug rfl rfl rfl <| vl (fa LnK_fd_api_Link_0 rfl) rfl <| ug rfl rfl rfl <| ?_
          refine vl (ld rfl (B_5.one LnK_ag_int rfl)) rfl <| ug rfl rfl rfl <| vl (bad rfl rfl (inI (by omega))) rfl <| ug rfl rfl rfl <| vl (fa LnK_fd_api_Link_1 rfl) rfl <| ug rfl rfl rfl <| vl (ld rfl (B_5.one LnK_ag_S_string rfl)) rfl <| ug rfl rfl rfl <| vl (ln Try.underlying53 rfl) rfl <| ug rfl rfl rfl <| vl (mn rfl rfl) rfl <| ug rfl rfl rfl <| ca LnK_en_link_within rfl rfl ((lwithin_any L.next ((L.got.length : Int) + (L.held.length : Int)) (min (L.base + L.window) (L.sent.length : Int)) _).mono ?_)
          rintro e w_19 ⟨rfl, x_20⟩
          refine ⟨_, rfl, ?_⟩
          have q_21 := x_20.size
          have z_19 := Ext.tr z_16 x_20
          refine vl (pkT rfl rfl) rfl <| vl (as_ rfl) rfl <| nl <| nT <| sq <| ?_
          rcases (show (inB L.next ((L.got.length : Int) + (L.held.length : Int)) (min (L.base + L.window) (L.sent.length : Int)) = true ∧ L.way.all (fun n => inB n 0 (L.next - 1)) = true ∧ L.acks.all (fun n => inB n 0 (L.got.length : Int)) = true ∧ L.held.all (fun n => inB n ((L.got.length : Int) + 1) (L.next - 1)) = true) ∨ (inB L.next ((L.got.length : Int) + (L.held.length : Int)) (min (L.base + L.window) (L.sent.length : Int)) = true ∧ L.way.all (fun n => inB n 0 (L.next - 1)) = true ∧ L.acks.all (fun n => inB n 0 (L.got.length : Int)) = true ∧ L.held.all (fun n => inB n ((L.got.length : Int) + 1) (L.next - 1)) = false) ∨ (inB L.next ((L.got.length : Int) + (L.held.length : Int)) (min (L.base + L.window) (L.sent.length : Int)) = true ∧ L.way.all (fun n => inB n 0 (L.next - 1)) = true ∧ L.acks.all (fun n => inB n 0 (L.got.length : Int)) = false) ∨ (inB L.next ((L.got.length : Int) + (L.held.length : Int)) (min (L.base + L.window) (L.sent.length : Int)) = true ∧ L.way.all (fun n => inB n 0 (L.next - 1)) = false) ∨ inB L.next ((L.got.length : Int) + (L.held.length : Int)) (min (L.base + L.window) (L.sent.length : Int)) = false from b4_ _ _ _ _) with ⟨k5, k6, k7, k8⟩ | ⟨k5, k6, k7, k8⟩ | ⟨k5, k6, k7⟩ | ⟨k5, k6⟩ | k5
          · have k5o := inB_true k5
            refine rg <| vl (mv (evb rfl k5)) rfl <| vl (mv rfl) rfl <| ug rfl rfl rfl <| vl (fa LnK_fd_api_Link_4 rfl) rfl <| ug rfl rfl rfl <| ?_
            have B_5 := B_5.later x_20
            refine vl (ld rfl (B_5.one LnK_ag_S_int rfl)) rfl <| ug rfl rfl rfl <| vl (fa LnK_fd_api_Link_3 rfl) rfl <| ug rfl rfl rfl <| vl (ld rfl (B_5.one LnK_ag_int rfl)) rfl <| ug rfl rfl rfl <| vl (bsu rfl rfl (inI (by omega))) rfl <| ug rfl rfl rfl <| ca LnK_en_link_all rfl rfl ((lall_any _ _ L.way 0 (L.next - 1) _ (hL.W.keep z_19)).mono ?_)
            rintro e w_22 ⟨rfl, x_23⟩
            refine ⟨_, rfl, ?_⟩
            have q_24 := x_23.size
            have z_22 := Ext.tr z_19 x_23
            refine vl (pkT rfl (evb rfl k6)) rfl <| vl (mv rfl) rfl <| ug rfl rfl rfl <| vl (fa LnK_fd_api_Link_5 rfl) rfl <| ug rfl rfl rfl <| ?_
            have B_5 := B_5.later x_23
            refine vl (ld rfl (B_5.one LnK_ag_S_int rfl)) rfl <| ug rfl rfl rfl <| vl (mv rfl) rfl <| ug rfl rfl rfl <| ca LnK_en_link_all rfl rfl ((lall_any _ _ L.acks 0 (L.got.length : Int) _ (hL.K.keep z_22)).mono ?_)
            rintro e w_25 ⟨rfl, x_26⟩
            refine ⟨_, rfl, ?_⟩
            have q_27 := x_26.size
            have z_25 := Ext.tr z_22 x_26
            refine vl (pkT rfl (evb rfl k7)) rfl <| vl (mv rfl) rfl <| ug rfl rfl rfl <| vl (fa LnK_fd_api_Link_7 rfl) rfl <| ug rfl rfl rfl <| ?_
            have B_5 := B_5.later x_26
            refine vl (ld rfl (B_5.one LnK_ag_S_int rfl)) rfl <| ug rfl rfl rfl <| vl (mv rfl) rfl <| ug rfl rfl rfl <| vl (bad rfl rfl (inI (by omega))) rfl <| ug rfl rfl rfl <| vl (fa LnK_fd_api_Link_3 rfl) rfl <| ug rfl rfl rfl <| vl (ld rfl (B_5.one LnK_ag_int rfl)) rfl <| ug rfl rfl rfl <| vl (bsu rfl rfl (inI (by omega))) rfl <| ug rfl rfl rfl <| ca LnK_en_link_all rfl rfl ((lall_any _ _ L.held ((L.got.length : Int) + 1) (L.next - 1) _ (hL.H.keep z_25)).mono ?_)
            rintro e w_28 ⟨rfl, x_29⟩
            refine ⟨_, rfl, ?_⟩
            have q_30 := x_29.size
            have z_28 := Ext.tr z_25 x_29
            refine vl (pkT rfl (evb rfl k8)) rfl <| vl (as_ rfl) rfl <| nl <| nT <| sq <| sq <| rg <| vl (as_ rfl) rfl <| nl <| nT <| bk <| ?_
            have B_5 := B_5.later x_29
            refine lp (fun mI EI wI => ∃ g : Bool, ∃ k : Nat, EI = [(1, .pointer (some ⟨b_2, 0, none⟩)), (2, .int .i64 0), (4, .int .i64 (L.held.length : Int)), (5, .bool g), (6, .int .i64 (k : Int))] ∧ mI = L.held.length + 1 - k ∧ Ext w wI ∧ Blk wI b_2 [.int .i64 L.window, .slice a.S L.sent.length a.s, .int .i64 L.base, .int .i64 L.next, .slice a.W L.way.length a.w, .slice a.K L.acks.length a.k, .slice a.G L.got.length a.g, .slice a.H L.held.length a.h] 55 (0, 0) ∧ (1 ≤ k ∧ k ≤ L.held.length + 1) ∧ (g = incB (L.held.take k))) _ _ ⟨true, 1, rfl, rfl, z_28, B_5, ⟨by omega, by omega⟩, (inc_one _).symm⟩ (.cons rfl (.cons rfl (.cons rfl (.cons rfl (.cons (loI rfl (by first | omega | rfl | (simp <;> omega))) .nil))))) ?_
            rintro m_32 E_33 w_31 ⟨g, k, rfl, rfl, z_31, B_5, hk, hg⟩
            have q_34 := z_31.size
            have q_35 := B_5.lt
            refine sq <| sq <| rg <| vl (mv rfl) rfl <| vl (mv rfl) rfl <| vQ rfl rfl rfl rfl (fun hc => mv rfl) rfl <| vQ rfl rfl rfl rfl (fun hc => mv rfl) rfl <| vQ rfl rfl rfl rfl (fun hc => blt (gt hc rfl) (gt hc rfl)) rfl <| vl (pA rfl rfl rfl rfl) rfl <| nl <| nT <| ?_
            refine cb rfl (fun h_36 => ?_) (fun h_36 => ?_)
            · have hgt := (Bool.and_eq_true_iff.1 h_36).1
              have hkl : k < L.held.length := by have := (Bool.and_eq_true_iff.1 h_36).2; simpa using this
              refine sk <| nT <| sq <| bk <| ?_
              refine rd [(1, 0), (4, 0), (6, 0), (10, 0)] [0, 1, 2, 3, 4, 5, 6, 7, 8, 9, 10, 11, 12] (by kernel_rfl) (by kernel_rfl) ?_
              refine fw rfl rfl (fun _ => fa LnK_fd_api_Link_7 rfl) rfl <| fq rfl rfl (fun _ x => ld rfl ((B_5.later x).one LnK_ag_S_int rfl)) rfl <| fw rfl rfl (fun _ => mv rfl) rfl <| fw rfl rfl (fun _ => iA k Try.underlying38 LnK_sz_int rfl rfl ((hL.H.keep z_31).adr (Nat.zero_lt_of_lt (show k < _ from (by omega)))) rfl (by omega)) rfl <| fq rfl rfl (fun _ x => ld rfl (Rep.SHas.one' hcI ((hL.H.keep (Ext.tr z_31 x)).adh (Nat.zero_lt_of_lt (show k < _ from (by omega)))) (get_d (l := L.held) (u := 0) (by omega)) rfl LnK_ag_int)) rfl <| fw rfl rfl (fun _ => fa LnK_fd_api_Link_7 rfl) rfl <| fq rfl rfl (fun _ x => ld rfl ((B_5.later x).one LnK_ag_S_int rfl)) rfl <| fw rfl rfl (fun _ => mv rfl) rfl <| fw rfl rfl (fun _ => bsu rfl rfl (inI (by omega))) rfl <| fw rfl rfl (fun _ => iA (((k : Int) - 1).toNat) Try.underlying38 LnK_sz_int rfl rfl ((hL.H.keep z_31).adr (Nat.zero_lt_of_lt (show ((k : Int) - 1).toNat < _ from (by omega)))) (by omega) (by omega)) rfl <| fq rfl rfl (fun _ x => ld rfl (Rep.SHas.one' hcI ((hL.H.keep (Ext.tr z_31 x)).adh (Nat.zero_lt_of_lt (show ((k : Int) - 1).toNat < _ from (by omega)))) (get_d (l := L.held) (u := 0) (by omega)) rfl LnK_ag_int)) rfl <| fw rfl rfl (fun _ => bgt rfl rfl) rfl <| fw rfl rfl (fun _ => as_ rfl) rfl <| fn fun w_37 x_38 => ?_
              have q_39 := x_38.size
              have z_37 := Ext.tr z_31 x_38
              refine nB <| nT <| rg <| vl (mv rfl) rfl <| vl (bad rfl rfl (inI (by omega))) rfl <| vl (as_ rfl) rfl <| nl <| ?_
              have B_5 := B_5.later x_38
              exact nI _ _ ⟨decide (L.held.getD ((k : Int) - 1).toNat 0 < L.held.getD k 0), k + 1, rfl, rfl, z_37, B_5, ⟨by omega, by omega⟩, inc_succ hk.1 (by omega) hg hgt⟩ (by omega) (.cons rfl (.cons rfl (.cons rfl (.cons rfl (.cons (loI rfl (by first | omega | rfl | (simp <;> omega))) .nil)))))
            · have hkx : g = true → L.held.length ≤ k := fun e => by rw [e] at h_36; simpa using h_36
              refine xt <| xT <| xK <| xB <| nT <| sq <| sq <| rg <| vl (mv rfl) rfl <| vl (nt rfl) rfl <| nl <| nT <| ?_
              refine cb rfl (fun h_40 => ?_) (fun h_40 => ?_)
              · refine sq <| rg <| vl (as_ rfl) rfl <| nl <| nT <| rt <| tT <| tR (.tmp rfl .nil) <| ?_
                exact ⟨by rw [Lnk.chk_form (by simpa using h_11) hlg (Lnk.good_inc (inc_bad hg (by simpa using h_40)))]; rfl, z_31⟩
              · refine sk <| nT <| sq <| rg <| vl (as_ rfl) rfl <| nl <| nT <| rt <| tR (.tmp rfl .nil) <| ?_
                exact ⟨by rw [Lnk.chk_ok (by simpa using h_11) hlg (Lnk.good_true k1 k2 k3 k4 k5 k6 k7 k8 (inc_end hg (hkx (by simpa using h_40)) (by simpa using h_40)))]; rfl, z_31⟩
          · have k5o := inB_true k5
            refine rg <| vl (mv (evb rfl k5)) rfl <| vl (mv rfl) rfl <| ug rfl rfl rfl <| vl (fa LnK_fd_api_Link_4 rfl) rfl <| ug rfl rfl rfl <| ?_
            have B_5 := B_5.later x_20
            refine vl (ld rfl (B_5.one LnK_ag_S_int rfl)) rfl <| ug rfl rfl rfl <| vl (fa LnK_fd_api_Link_3 rfl) rfl <| ug rfl rfl rfl <| vl (ld rfl (B_5.one LnK_ag_int rfl)) rfl <| ug rfl rfl rfl <| vl (bsu rfl rfl (inI (by omega))) rfl <| ug rfl rfl rfl <| ca LnK_en_link_all rfl rfl ((lall_any _ _ L.way 0 (L.next - 1) _ (hL.W.keep z_19)).mono ?_)
            rintro e w_41 ⟨rfl, x_42⟩
            refine ⟨_, rfl, ?_⟩
            have q_43 := x_42.size
            have z_41 := Ext.tr z_19 x_42
            refine vl (pkT rfl (evb rfl k6)) rfl <| vl (mv rfl) rfl <| ug rfl rfl rfl <| vl (fa LnK_fd_api_Link_5 rfl) rfl <| ug rfl rfl rfl <| ?_
            have B_5 := B_5.later x_42
            refine vl (ld rfl (B_5.one LnK_ag_S_int rfl)) rfl <| ug rfl rfl rfl <| vl (mv rfl) rfl <| ug rfl rfl rfl <| ca LnK_en_link_all rfl rfl ((lall_any _ _ L.acks 0 (L.got.length : Int) _ (hL.K.keep z_41)).mono ?_)
            rintro e w_44 ⟨rfl, x_45⟩
            refine ⟨_, rfl, ?_⟩
            have q_46 := x_45.size
            have z_44 := Ext.tr z_41 x_45
            refine vl (pkT rfl (evb rfl k7)) rfl <| vl (mv rfl) rfl <| ug rfl rfl rfl <| vl (fa LnK_fd_api_Link_7 rfl) rfl <| ug rfl rfl rfl <| ?_
            have B_5 := B_5.later x_45
            refine vl (ld rfl (B_5.one LnK_ag_S_int rfl)) rfl <| ug rfl rfl rfl <| vl (mv rfl) rfl <| ug rfl rfl rfl <| vl (bad rfl rfl (inI (by omega))) rfl <| ug rfl rfl rfl <| vl (fa LnK_fd_api_Link_3 rfl) rfl <| ug rfl rfl rfl <| vl (ld rfl (B_5.one LnK_ag_int rfl)) rfl <| ug rfl rfl rfl <| vl (bsu rfl rfl (inI (by omega))) rfl <| ug rfl rfl rfl <| ca LnK_en_link_all rfl rfl ((lall_any _ _ L.held ((L.got.length : Int) + 1) (L.next - 1) _ (hL.H.keep z_44)).mono ?_)
            rintro e w_47 ⟨rfl, x_48⟩
            refine ⟨_, rfl, ?_⟩
            have q_49 := x_48.size
            have z_47 := Ext.tr z_44 x_48
            refine vl (pkT rfl (evb rfl k8)) rfl <| vl (as_ rfl) rfl <| nl <| nT <| sq <| sq <| rg <| vl (as_ rfl) rfl <| nl <| nT <| bk <| lu 1 <| lr <| sq <| sq <| rg <| vl (mv rfl) rfl <| vl (mv rfl) rfl <| vQ (v := undef) rfl rfl rfl rfl (fun hc => nomatch hc) rfl <| vQ (v := undef) rfl rfl rfl rfl (fun hc => nomatch hc) rfl <| vQ (v := undef) rfl rfl rfl rfl (fun hc => nomatch hc) rfl <| vl (pkF rfl rfl) rfl <| nl <| nT <| ?_
            refine cF rfl <| xt <| xT <| xK <| xB <| nT <| sq <| sq <| rg <| vl (mv rfl) rfl <| vl (nt rfl) rfl <| nl <| nT <| cT rfl <| sq <| rg <| vl (as_ rfl) rfl <| nl <| nT <| rt <| tT <| tR (.tmp rfl .nil) <| ?_
            exact ⟨by rw [Lnk.chk_form (by simpa using h_11) hlg ((by unfold Lnk.good; simp only [k1, k2, k3, k4, k5, k6, k7, k8, Bool.and_false, Bool.false_and]))]; rfl, z_47⟩
          · have k5o := inB_true k5
            refine rg <| vl (mv (evb rfl k5)) rfl <| vl (mv rfl) rfl <| ug rfl rfl rfl <| vl (fa LnK_fd_api_Link_4 rfl) rfl <| ug rfl rfl rfl <| ?_
            have B_5 := B_5.later x_20
            refine vl (ld rfl (B_5.one LnK_ag_S_int rfl)) rfl <| ug rfl rfl rfl <| vl (fa LnK_fd_api_Link_3 rfl) rfl <| ug rfl rfl rfl <| vl (ld rfl (B_5.one LnK_ag_int rfl)) rfl <| ug rfl rfl rfl <| vl (bsu rfl rfl (inI (by omega))) rfl <| ug rfl rfl rfl <| ca LnK_en_link_all rfl rfl ((lall_any _ _ L.way 0 (L.next - 1) _ (hL.W.keep z_19)).mono ?_)
            rintro e w_50 ⟨rfl, x_51⟩
            refine ⟨_, rfl, ?_⟩
            have q_52 := x_51.size
            have z_50 := Ext.tr z_19 x_51
            refine vl (pkT rfl (evb rfl k6)) rfl <| vl (mv rfl) rfl <| ug rfl rfl rfl <| vl (fa LnK_fd_api_Link_5 rfl) rfl <| ug rfl rfl rfl <| ?_
            have B_5 := B_5.later x_51
            refine vl (ld rfl (B_5.one LnK_ag_S_int rfl)) rfl <| ug rfl rfl rfl <| vl (mv rfl) rfl <| ug rfl rfl rfl <| ca LnK_en_link_all rfl rfl ((lall_any _ _ L.acks 0 (L.got.length : Int) _ (hL.K.keep z_50)).mono ?_)
            rintro e w_53 ⟨rfl, x_54⟩
            refine ⟨_, rfl, ?_⟩
            have q_55 := x_54.size
            have z_53 := Ext.tr z_50 x_54
            refine vl (pkT rfl (evb rfl k7)) rfl <| vl (mv rfl) rfl <| vQ (v := undef) rfl rfl rfl rfl (fun hc => nomatch hc) rfl <| vQ (v := undef) rfl rfl rfl rfl (fun hc => nomatch hc) rfl <| vQ (v := undef) rfl rfl rfl rfl (fun hc => nomatch hc) rfl <| vQ (v := undef) rfl rfl rfl rfl (fun hc => nomatch hc) rfl <| vQ (v := undef) rfl rfl rfl rfl (fun hc => nomatch hc) rfl <| vQ (v := undef) rfl rfl rfl rfl (fun hc => nomatch hc) rfl <| vQ (v := undef) rfl rfl rfl rfl (fun hc => nomatch hc) rfl <| vQ (v := undef) rfl rfl rfl rfl (fun hc => nomatch hc) rfl <| vl (pkF rfl rfl) rfl <| vl (as_ rfl) rfl <| nl <| nT <| sq <| sq <| rg <| vl (as_ rfl) rfl <| nl <| nT <| bk <| lu 1 <| lr <| sq <| ?_
            refine sq <| rg <| vl (mv rfl) rfl <| vl (mv rfl) rfl <| vQ (v := undef) rfl rfl rfl rfl (fun hc => nomatch hc) rfl <| vQ (v := undef) rfl rfl rfl rfl (fun hc => nomatch hc) rfl <| vQ (v := undef) rfl rfl rfl rfl (fun hc => nomatch hc) rfl <| vl (pkF rfl rfl) rfl <| nl <| nT <| cF rfl <| xt <| xT <| xK <| xB <| nT <| sq <| sq <| rg <| vl (mv rfl) rfl <| vl (nt rfl) rfl <| nl <| nT <| cT rfl <| ?_
            refine sq <| rg <| vl (as_ rfl) rfl <| nl <| nT <| rt <| tT <| tR (.tmp rfl .nil) <| ?_
            exact ⟨by rw [Lnk.chk_form (by simpa using h_11) hlg ((by unfold Lnk.good; simp only [k1, k2, k3, k4, k5, k6, k7, Bool.and_false, Bool.false_and]))]; rfl, z_53⟩
          · have k5o := inB_true k5
            refine rg <| vl (mv (evb rfl k5)) rfl <| vl (mv rfl) rfl <| ug rfl rfl rfl <| vl (fa LnK_fd_api_Link_4 rfl) rfl <| ug rfl rfl rfl <| ?_
            have B_5 := B_5.later x_20
            refine vl (ld rfl (B_5.one LnK_ag_S_int rfl)) rfl <| ug rfl rfl rfl <| vl (fa LnK_fd_api_Link_3 rfl) rfl <| ug rfl rfl rfl <| vl (ld rfl (B_5.one LnK_ag_int rfl)) rfl <| ug rfl rfl rfl <| vl (bsu rfl rfl (inI (by omega))) rfl <| ug rfl rfl rfl <| ca LnK_en_link_all rfl rfl ((lall_any _ _ L.way 0 (L.next - 1) _ (hL.W.keep z_19)).mono ?_)
            rintro e w_56 ⟨rfl, x_57⟩
            refine ⟨_, rfl, ?_⟩
            have q_58 := x_57.size
            have z_56 := Ext.tr z_19 x_57
            refine vl (pkT rfl (evb rfl k6)) rfl <| vl (mv rfl) rfl <| vQ (v := undef) rfl rfl rfl rfl (fun hc => nomatch hc) rfl <| vQ (v := undef) rfl rfl rfl rfl (fun hc => nomatch hc) rfl <| vQ (v := undef) rfl rfl rfl rfl (fun hc => nomatch hc) rfl <| vQ (v := undef) rfl rfl rfl rfl (fun hc => nomatch hc) rfl <| vl (pkF rfl rfl) rfl <| vl (mv rfl) rfl <| vQ (v := undef) rfl rfl rfl rfl (fun hc => nomatch hc) rfl <| vQ (v := undef) rfl rfl rfl rfl (fun hc => nomatch hc) rfl <| vQ (v := undef) rfl rfl rfl rfl (fun hc => nomatch hc) rfl <| vQ (v := undef) rfl rfl rfl rfl (fun hc => nomatch hc) rfl <| vQ (v := undef) rfl rfl rfl rfl (fun hc => nomatch hc) rfl <| vQ (v := undef) rfl rfl rfl rfl (fun hc => nomatch hc) rfl <| vQ (v := undef) rfl rfl rfl rfl (fun hc => nomatch hc) rfl <| vQ (v := undef) rfl rfl rfl rfl (fun hc => nomatch hc) rfl <| vl (pkF rfl rfl) rfl <| vl (as_ rfl) rfl <| nl <| nT <| sq <| sq <| rg <| vl (as_ rfl) rfl <| ?_
            refine nl <| nT <| bk <| lu 1 <| lr <| sq <| sq <| rg <| vl (mv rfl) rfl <| vl (mv rfl) rfl <| vQ (v := undef) rfl rfl rfl rfl (fun hc => nomatch hc) rfl <| vQ (v := undef) rfl rfl rfl rfl (fun hc => nomatch hc) rfl <| vQ (v := undef) rfl rfl rfl rfl (fun hc => nomatch hc) rfl <| vl (pkF rfl rfl) rfl <| nl <| nT <| cF rfl <| xt <| xT <| xK <| xB <| nT <| sq <| sq <| ?_
            refine rg <| vl (mv rfl) rfl <| vl (nt rfl) rfl <| nl <| nT <| cT rfl <| sq <| rg <| vl (as_ rfl) rfl <| nl <| nT <| rt <| tT <| tR (.tmp rfl .nil) <| ?_
            exact ⟨by rw [Lnk.chk_form (by simpa using h_11) hlg ((by unfold Lnk.good; simp only [k1, k2, k3, k4, k5, k6, Bool.and_false, Bool.false_and]))]; rfl, z_56⟩
          · refine rg <| vl (mv (evb rfl k5)) rfl <| vl (mv rfl) rfl <| vQ (v := undef) rfl rfl rfl rfl (fun hc => nomatch hc) rfl <| vQ (v := undef) rfl rfl rfl rfl (fun hc => nomatch hc) rfl <| vQ (v := undef) rfl rfl rfl rfl (fun hc => nomatch hc) rfl <| vQ (v := undef) rfl rfl rfl rfl (fun hc => nomatch hc) rfl <| vQ (v := undef) rfl rfl rfl rfl (fun hc => nomatch hc) rfl <| vQ (v := undef) rfl rfl rfl rfl (fun hc => nomatch hc) rfl <| vl (pkF rfl rfl) rfl <| vl (mv rfl) rfl <| vQ (v := undef) rfl rfl rfl rfl (fun hc => nomatch hc) rfl <| vQ (v := undef) rfl rfl rfl rfl (fun hc => nomatch hc) rfl <| vQ (v := undef) rfl rfl rfl rfl (fun hc => nomatch hc) rfl <| vQ (v := undef) rfl rfl rfl rfl (fun hc => nomatch hc) rfl <| vl (pkF rfl rfl) rfl <| vl (mv rfl) rfl <| vQ (v := undef) rfl rfl rfl rfl (fun hc => nomatch hc) rfl <| vQ (v := undef) rfl rfl rfl rfl (fun hc => nomatch hc) rfl <| vQ (v := undef) rfl rfl rfl rfl (fun hc => nomatch hc) rfl <| vQ (v := undef) rfl rfl rfl rfl (fun hc => nomatch hc) rfl <| vQ (v := undef) rfl rfl rfl rfl (fun hc => nomatch hc) rfl <| vQ (v := undef) rfl rfl rfl rfl (fun hc => nomatch hc) rfl <| vQ (v := undef) rfl rfl rfl rfl (fun hc => nomatch hc) rfl <| ?_
            refine vQ (v := undef) rfl rfl rfl rfl (fun hc => nomatch hc) rfl <| vl (pkF rfl rfl) rfl <| vl (as_ rfl) rfl <| nl <| nT <| sq <| sq <| rg <| vl (as_ rfl) rfl <| nl <| nT <| bk <| lu 1 <| lr <| sq <| sq <| rg <| vl (mv rfl) rfl <| vl (mv rfl) rfl <| vQ (v := undef) rfl rfl rfl rfl (fun hc => nomatch hc) rfl <| vQ (v := undef) rfl rfl rfl rfl (fun hc => nomatch hc) rfl <| vQ (v := undef) rfl rfl rfl rfl (fun hc => nomatch hc) rfl <| vl (pkF rfl rfl) rfl <| nl <| ?_
            refine nT <| cF rfl <| xt <| xT <| xK <| xB <| nT <| sq <| sq <| rg <| vl (mv rfl) rfl <| vl (nt rfl) rfl <| nl <| nT <| cT rfl <| sq <| rg <| vl (as_ rfl) rfl <| nl <| nT <| rt <| tT <| tR (.tmp rfl .nil) <| ?_
            exact ⟨by rw [Lnk.chk_form (by simpa using h_11) hlg ((by unfold Lnk.good; simp only [k1, k2, k3, k4, k5, Bool.and_false, Bool.false_and]))]; rfl, z_19⟩
        · have k3o := inB_true k3
          refine rg <| vl (mv (evb rfl k3)) rfl <| vl (mv rfl) rfl <| ug rfl rfl rfl <| vl (mv rfl) rfl <| ug rfl rfl rfl <| vl (fa LnK_fd_api_Link_1 rfl) rfl <| ug rfl rfl rfl <| ?_
          have B_5 := B_5.later x_17
          refine vl (ld rfl (B_5.one LnK_ag_S_string rfl)) rfl <| ug rfl rfl rfl <| vl (ln Try.underlying53 rfl) rfl <| ug rfl rfl rfl <| vl (ble rfl rfl) rfl <| vl (pkT rfl (evb rfl k4)) rfl <| vl (mv rfl) rfl <| vQ (v := undef) rfl rfl rfl rfl (fun hc => nomatch hc) rfl <| vQ (v := undef) rfl rfl rfl rfl (fun hc => nomatch hc) rfl <| vQ (v := undef) rfl rfl rfl rfl (fun hc => nomatch hc) rfl <| vQ (v := undef) rfl rfl rfl rfl (fun hc => nomatch hc) rfl <| vQ (v := undef) rfl rfl rfl rfl (fun hc => nomatch hc) rfl <| vQ (v := undef) rfl rfl rfl rfl (fun hc => nomatch hc) rfl <| vQ (v := undef) rfl rfl rfl rfl (fun hc => nomatch hc) rfl <| vQ (v := undef) rfl rfl rfl rfl (fun hc => nomatch hc) rfl <| vQ (v := undef) rfl rfl rfl rfl (fun hc => nomatch hc) rfl <| vQ (v := undef) rfl rfl rfl rfl (fun hc => nomatch hc) rfl <| vQ (v := undef) rfl rfl rfl rfl (fun hc => nomatch hc) rfl <| vQ (v := undef) rfl rfl rfl rfl (fun hc => nomatch hc) rfl <| vQ (v := undef) rfl rfl rfl rfl (fun hc => nomatch hc) rfl <| vQ (v := undef) rfl rfl rfl rfl (fun hc => nomatch hc) rfl <| vQ (v := undef) rfl rfl rfl rfl (fun hc => nomatch hc) rfl <| vl (pkF rfl rfl) rfl <| vl (as_ rfl) rfl <| ?_
          refine nl <| nT <| sq <| rg <| vl (mv rfl) rfl <| vl (mv rfl) rfl <| vQ (v := undef) rfl rfl rfl rfl (fun hc => nomatch hc) rfl <| vQ (v := undef) rfl rfl rfl rfl (fun hc => nomatch hc) rfl <| vQ (v := undef) rfl rfl rfl rfl (fun hc => nomatch hc) rfl <| vQ (v := undef) rfl rfl rfl rfl (fun hc => nomatch hc) rfl <| vQ (v := undef) rfl rfl rfl rfl (fun hc => nomatch hc) rfl <| vQ (v := undef) rfl rfl rfl rfl (fun hc => nomatch hc) rfl <| vl (pkF rfl rfl) rfl <| vl (mv rfl) rfl <| vQ (v := undef) rfl rfl rfl rfl (fun hc => nomatch hc) rfl <| vQ (v := undef) rfl rfl rfl rfl (fun hc => nomatch hc) rfl <| vQ (v := undef) rfl rfl rfl rfl (fun hc => nomatch hc) rfl <| vQ (v := undef) rfl rfl rfl rfl (fun hc => nomatch hc) rfl <| vl (pkF rfl rfl) rfl <| vl (mv rfl) rfl <| vQ (v := undef) rfl rfl rfl rfl (fun hc => nomatch hc) rfl <| vQ (v := undef) rfl rfl rfl rfl (fun hc => nomatch hc) rfl <| vQ (v := undef) rfl rfl rfl rfl (fun hc => nomatch hc) rfl <| vQ (v := undef) rfl rfl rfl rfl (fun hc => nomatch hc) rfl <| ?_
          refine vQ (v := undef) rfl rfl rfl rfl (fun hc => nomatch hc) rfl <| vQ (v := undef) rfl rfl rfl rfl (fun hc => nomatch hc) rfl <| vQ (v := undef) rfl rfl rfl rfl (fun hc => nomatch hc) rfl <| vQ (v := undef) rfl rfl rfl rfl (fun hc => nomatch hc) rfl <| vl (pkF rfl rfl) rfl <| vl (as_ rfl) rfl <| nl <| nT <| sq <| sq <| rg <| vl (as_ rfl) rfl <| nl <| nT <| bk <| lu 1 <| lr <| sq <| sq <| rg <| vl (mv rfl) rfl <| vl (mv rfl) rfl <| vQ (v := undef) rfl rfl rfl rfl (fun hc => nomatch hc) rfl <| vQ (v := undef) rfl rfl rfl rfl (fun hc => nomatch hc) rfl <| ?_
          refine vQ (v := undef) rfl rfl rfl rfl (fun hc => nomatch hc) rfl <| vl (pkF rfl rfl) rfl <| nl <| nT <| cF rfl <| xt <| xT <| xK <| xB <| nT <| sq <| sq <| rg <| vl (mv rfl) rfl <| vl (nt rfl) rfl <| nl <| nT <| cT rfl <| sq <| rg <| vl (as_ rfl) rfl <| nl <| nT <| rt <| ?_
          refine tT <| tR (.tmp rfl .nil) <| ?_
          exact ⟨by rw [Lnk.chk_form (by simpa using h_11) hlg ((by unfold Lnk.good; simp only [k1, k2, k3, k4, Bool.and_false, Bool.false_and]))]; rfl, z_16⟩
        · refine rg <| vl (mv (evb rfl k3)) rfl <| vl (mv rfl) rfl <| vQ (v := undef) rfl rfl rfl rfl (fun hc => nomatch hc) rfl <| vQ (v := undef) rfl rfl rfl rfl (fun hc => nomatch hc) rfl <| vQ (v := undef) rfl rfl rfl rfl (fun hc => nomatch hc) rfl <| vQ (v := undef) rfl rfl rfl rfl (fun hc => nomatch hc) rfl <| vQ (v := undef) rfl rfl rfl rfl (fun hc => nomatch hc) rfl <| vl (pkF rfl rfl) rfl <| vl (mv rfl) rfl <| vQ (v := undef) rfl rfl rfl rfl (fun hc => nomatch hc) rfl <| vQ (v := undef) rfl rfl rfl rfl (fun hc => nomatch hc) rfl <| vQ (v := undef) rfl rfl rfl rfl (fun hc => nomatch hc) rfl <| vQ (v := undef) rfl rfl rfl rfl (fun hc => nomatch hc) rfl <| vQ (v := undef) rfl rfl rfl rfl (fun hc => nomatch hc) rfl <| vQ (v := undef) rfl rfl rfl rfl (fun hc => nomatch hc) rfl <| vQ (v := undef) rfl rfl rfl rfl (fun hc => nomatch hc) rfl <| vQ (v := undef) rfl rfl rfl rfl (fun hc => nomatch hc) rfl <| vQ (v := undef) rfl rfl rfl rfl (fun hc => nomatch hc) rfl <| vQ (v := undef) rfl rfl rfl rfl (fun hc => nomatch hc) rfl <| vQ (v := undef) rfl rfl rfl rfl (fun hc => nomatch hc) rfl <| vQ (v := undef) rfl rfl rfl rfl (fun hc => nomatch hc) rfl <| vQ (v := undef) rfl rfl rfl rfl (fun hc => nomatch hc) rfl <| vQ (v := undef) rfl rfl rfl rfl (fun hc => nomatch hc) rfl <| ?_
          refine vQ (v := undef) rfl rfl rfl rfl (fun hc => nomatch hc) rfl <| vl (pkF rfl rfl) rfl <| vl (as_ rfl) rfl <| nl <| nT <| sq <| rg <| vl (mv rfl) rfl <| vl (mv rfl) rfl <| vQ (v := undef) rfl rfl rfl rfl (fun hc => nomatch hc) rfl <| vQ (v := undef) rfl rfl rfl rfl (fun hc => nomatch hc) rfl <| vQ (v := undef) rfl rfl rfl rfl (fun hc => nomatch hc) rfl <| vQ (v := undef) rfl rfl rfl rfl (fun hc => nomatch hc) rfl <| vQ (v := undef) rfl rfl rfl rfl (fun hc => nomatch hc) rfl <| vQ (v := undef) rfl rfl rfl rfl (fun hc => nomatch hc) rfl <| vl (pkF rfl rfl) rfl <| vl (mv rfl) rfl <| vQ (v := undef) rfl rfl rfl rfl (fun hc => nomatch hc) rfl <| vQ (v := undef) rfl rfl rfl rfl (fun hc => nomatch hc) rfl <| vQ (v := undef) rfl rfl rfl rfl (fun hc => nomatch hc) rfl <| vQ (v := undef) rfl rfl rfl rfl (fun hc => nomatch hc) rfl <| vl (pkF rfl rfl) rfl <| vl (mv rfl) rfl <| vQ (v := undef) rfl rfl rfl rfl (fun hc => nomatch hc) rfl <| ?_
          refine vQ (v := undef) rfl rfl rfl rfl (fun hc => nomatch hc) rfl <| vQ (v := undef) rfl rfl rfl rfl (fun hc => nomatch hc) rfl <| vQ (v := undef) rfl rfl rfl rfl (fun hc => nomatch hc) rfl <| vQ (v := undef) rfl rfl rfl rfl (fun hc => nomatch hc) rfl <| vQ (v := undef) rfl rfl rfl rfl (fun hc => nomatch hc) rfl <| vQ (v := undef) rfl rfl rfl rfl (fun hc => nomatch hc) rfl <| vQ (v := undef) rfl rfl rfl rfl (fun hc => nomatch hc) rfl <| vl (pkF rfl rfl) rfl <| vl (as_ rfl) rfl <| nl <| nT <| sq <| sq <| rg <| vl (as_ rfl) rfl <| nl <| nT <| bk <| lu 1 <| lr <| sq <| sq <| rg <| vl (mv rfl) rfl <| ?_
          refine vl (mv rfl) rfl <| vQ (v := undef) rfl rfl rfl rfl (fun hc => nomatch hc) rfl <| vQ (v := undef) rfl rfl rfl rfl (fun hc => nomatch hc) rfl <| vQ (v := undef) rfl rfl rfl rfl (fun hc => nomatch hc) rfl <| vl (pkF rfl rfl) rfl <| nl <| nT <| cF rfl <| xt <| xT <| xK <| xB <| nT <| sq <| sq <| rg <| vl (mv rfl) rfl <| vl (nt rfl) rfl <| nl <| nT <| cT rfl <| sq <| rg <| vl (as_ rfl) rfl <| ?_
          refine nl <| nT <| rt <| tT <| tR (.tmp rfl .nil) <| ?_
          exact ⟨by rw [Lnk.chk_form (by simpa using h_11) hlg ((by unfold Lnk.good; simp only [k1, k2, k3, Bool.and_false, Bool.false_and]))]; rfl, z_16⟩
      · have k1o : L.got.length ≤ L.sent.length := by simpa using k1
        refine rd [(2, 0), (7, 0), (9, 0), (12, 0), (16, 0), (20, 0), (22, 0)] [0, 1, 2, 3, 4, 5, 6, 7, 8, 9, 10, 11, 12, 13, 14, 15, 16, 17, 18, 19, 20, 21, 22, 23, 24] (by kernel_rfl) (by kernel_rfl) ?_
        refine fw rfl rfl (fun _ => mv rfl) rfl <| fw rfl rfl (fun _ => fa LnK_fd_api_Link_1 rfl) rfl <| ?_
        have B_5 := B_5.later x_14
        refine fq rfl rfl (fun _ x => ld rfl ((B_5.later x).one LnK_ag_S_string rfl)) rfl <| fw rfl rfl (fun _ => ln Try.underlying53 rfl) rfl <| fw rfl rfl (fun _ => ble rfl rfl) rfl <| fw rfl rfl (fun _ => mv (evb rfl k1)) rfl <| fW rfl rfl rfl rfl rfl rfl (fun hc _ => fa LnK_fd_api_Link_6 rfl) rfl <| fQ rfl rfl rfl rfl rfl rfl (fun hc _ x => ld rfl ((B_5.later x).one LnK_ag_S_string rfl)) rfl <| fW rfl rfl rfl rfl rfl rfl (fun hc _ => fa LnK_fd_api_Link_1 rfl) rfl <| fQ rfl rfl rfl rfl rfl rfl (fun hc _ x => ld rfl ((B_5.later x).one LnK_ag_S_string rfl)) rfl <| fW rfl rfl rfl rfl rfl rfl (fun hc _ => mv rfl) rfl <| fW rfl rfl rfl rfl rfl rfl (fun hc _ => fa LnK_fd_api_Link_1 rfl) rfl <| fQ rfl rfl rfl rfl rfl rfl (fun hc _ x => ld rfl ((B_5.later x).one LnK_ag_S_string rfl)) rfl <| fW rfl rfl rfl rfl rfl rfl (fun hc _ => ln Try.underlying53 rfl) rfl <| fW rfl rfl rfl rfl rfl rfl (fun hc _ => mn rfl rfl) rfl <| fW rfl rfl rfl rfl rfl rfl (fun hc _ => sP L.got.length (L.sent.take L.got.length).length Try.underlying53 LnK_sz_string rfl rfl (by omega) (by omega) (by rw [List.length_take]; omega)) rfl <| fC rfl rfl rfl rfl rfl rfl LnK_en_slices_Equal_S_string_string_ (fun hc => rfl) (fun hc _ x => equal_S _ _ _ _ _ _ L.got (L.sent.take L.got.length) _ (hL.G.keep (Ext.tr z_13 x)) ((hL.S.keep (Ext.tr z_13 x)).pre L.got.length)) rfl <| fw rfl rfl (fun _ => pkT rfl (evb rfl k2)) rfl <| fw rfl rfl (fun _ => mv rfl) rfl <| fW (v := undef) rfl rfl rfl rfl rfl rfl (fun hc => nomatch hc) rfl <| fQ (v := undef) rfl rfl rfl rfl rfl rfl (fun hc => nomatch hc) rfl <| fW (v := undef) rfl rfl rfl rfl rfl rfl (fun hc => nomatch hc) rfl <| fC (v := undef) (args := []) rfl rfl rfl rfl rfl rfl LnK_en_link_within (fun hc => nomatch hc) (fun hc => nomatch hc) rfl <| fw rfl rfl (fun _ => pkF rfl rfl) rfl <| fw rfl rfl (fun _ => as_ rfl) rfl <| fn fun w_59 x_60 => ?_
        have q_61 := x_60.size
        have z_59 := Ext.tr z_13 x_60
        refine nT <| sq <| rg <| vl (mv rfl) rfl <| vl (mv rfl) rfl <| vQ (v := undef) rfl rfl rfl rfl (fun hc => nomatch hc) rfl <| vQ (v := undef) rfl rfl rfl rfl (fun hc => nomatch hc) rfl <| vQ (v := undef) rfl rfl rfl rfl (fun hc => nomatch hc) rfl <| vQ (v := undef) rfl rfl rfl rfl (fun hc => nomatch hc) rfl <| vQ (v := undef) rfl rfl rfl rfl (fun hc => nomatch hc) rfl <| vl (pkF rfl rfl) rfl <| vl (mv rfl) rfl <| vQ (v := undef) rfl rfl rfl rfl (fun hc => nomatch hc) rfl <| vQ (v := undef) rfl rfl rfl rfl (fun hc => nomatch hc) rfl <| vQ (v := undef) rfl rfl rfl rfl (fun hc => nomatch hc) rfl <| vQ (v := undef) rfl rfl rfl rfl (fun hc => nomatch hc) rfl <| vQ (v := undef) rfl rfl rfl rfl (fun hc => nomatch hc) rfl <| vQ (v := undef) rfl rfl rfl rfl (fun hc => nomatch hc) rfl <| vQ (v := undef) rfl rfl rfl rfl (fun hc => nomatch hc) rfl <| vQ (v := undef) rfl rfl rfl rfl (fun hc => nomatch hc) rfl <| vQ (v := undef) rfl rfl rfl rfl (fun hc => nomatch hc) rfl <| vQ (v := undef) rfl rfl rfl rfl (fun hc => nomatch hc) rfl <| vQ (v := undef) rfl rfl rfl rfl (fun hc => nomatch hc) rfl <| vQ (v := undef) rfl rfl rfl rfl (fun hc => nomatch hc) rfl <| ?_
        refine vQ (v := undef) rfl rfl rfl rfl (fun hc => nomatch hc) rfl <| vQ (v := undef) rfl rfl rfl rfl (fun hc => nomatch hc) rfl <| vQ (v := undef) rfl rfl rfl rfl (fun hc => nomatch hc) rfl <| vl (pkF rfl rfl) rfl <| vl (as_ rfl) rfl <| nl <| nT <| sq <| rg <| vl (mv rfl) rfl <| vl (mv rfl) rfl <| vQ (v := undef) rfl rfl rfl rfl (fun hc => nomatch hc) rfl <| vQ (v := undef) rfl rfl rfl rfl (fun hc => nomatch hc) rfl <| vQ (v := undef) rfl rfl rfl rfl (fun hc => nomatch hc) rfl <| vQ (v := undef) rfl rfl rfl rfl (fun hc => nomatch hc) rfl <| vQ (v := undef) rfl rfl rfl rfl (fun hc => nomatch hc) rfl <| vQ (v := undef) rfl rfl rfl rfl (fun hc => nomatch hc) rfl <| vl (pkF rfl rfl) rfl <| vl (mv rfl) rfl <| vQ (v := undef) rfl rfl rfl rfl (fun hc => nomatch hc) rfl <| vQ (v := undef) rfl rfl rfl rfl (fun hc => nomatch hc) rfl <| vQ (v := undef) rfl rfl rfl rfl (fun hc => nomatch hc) rfl <| vQ (v := undef) rfl rfl rfl rfl (fun hc => nomatch hc) rfl <| vl (pkF rfl rfl) rfl <| ?_
        refine vl (mv rfl) rfl <| vQ (v := undef) rfl rfl rfl rfl (fun hc => nomatch hc) rfl <| vQ (v := undef) rfl rfl rfl rfl (fun hc => nomatch hc) rfl <| vQ (v := undef) rfl rfl rfl rfl (fun hc => nomatch hc) rfl <| vQ (v := undef) rfl rfl rfl rfl (fun hc => nomatch hc) rfl <| vQ (v := undef) rfl rfl rfl rfl (fun hc => nomatch hc) rfl <| vQ (v := undef) rfl rfl rfl rfl (fun hc => nomatch hc) rfl <| vQ (v := undef) rfl rfl rfl rfl (fun hc => nomatch hc) rfl <| vQ (v := undef) rfl rfl rfl rfl (fun hc => nomatch hc) rfl <| vl (pkF rfl rfl) rfl <| vl (as_ rfl) rfl <| nl <| nT <| sq <| sq <| rg <| vl (as_ rfl) rfl <| nl <| nT <| bk <| lu 1 <| lr <| sq <| sq <| ?_
        refine rg <| vl (mv rfl) rfl <| vl (mv rfl) rfl <| vQ (v := undef) rfl rfl rfl rfl (fun hc => nomatch hc) rfl <| vQ (v := undef) rfl rfl rfl rfl (fun hc => nomatch hc) rfl <| vQ (v := undef) rfl rfl rfl rfl (fun hc => nomatch hc) rfl <| vl (pkF rfl rfl) rfl <| nl <| nT <| cF rfl <| xt <| xT <| xK <| xB <| nT <| sq <| sq <| rg <| vl (mv rfl) rfl <| vl (nt rfl) rfl <| nl <| nT <| cT rfl <| sq <| ?_
        refine rg <| vl (as_ rfl) rfl <| nl <| nT <| rt <| tT <| tR (.tmp rfl .nil) <| ?_
        exact ⟨by rw [Lnk.chk_form (by simpa using h_11) hlg ((by unfold Lnk.good; simp only [k1, k2, Bool.and_false, Bool.false_and]))]; rfl, z_59⟩
      · refine rd [(2, 0), (7, 0), (9, 0), (12, 0), (16, 0), (20, 0), (22, 0)] [0, 1, 2, 3, 4, 5, 6, 7, 8, 9, 10, 11, 12, 13, 14, 15, 16, 17, 18, 19, 20, 21, 22, 23, 24] (by kernel_rfl) (by kernel_rfl) ?_
        refine fw rfl rfl (fun _ => mv rfl) rfl <| fw rfl rfl (fun _ => fa LnK_fd_api_Link_1 rfl) rfl <| ?_
        have B_5 := B_5.later x_14
        refine fq rfl rfl (fun _ x => ld rfl ((B_5.later x).one LnK_ag_S_string rfl)) rfl <| fw rfl rfl (fun _ => ln Try.underlying53 rfl) rfl <| fw rfl rfl (fun _ => ble rfl rfl) rfl <| fw rfl rfl (fun _ => mv (evb rfl k1)) rfl <| fW (v := undef) rfl rfl rfl rfl rfl rfl (fun hc => nomatch hc) rfl <| fQ (v := undef) rfl rfl rfl rfl rfl rfl (fun hc => nomatch hc) rfl <| fW (v := undef) rfl rfl rfl rfl rfl rfl (fun hc => nomatch hc) rfl <| fQ (v := undef) rfl rfl rfl rfl rfl rfl (fun hc => nomatch hc) rfl <| fW (v := undef) rfl rfl rfl rfl rfl rfl (fun hc => nomatch hc) rfl <| fW (v := undef) rfl rfl rfl rfl rfl rfl (fun hc => nomatch hc) rfl <| fQ (v := undef) rfl rfl rfl rfl rfl rfl (fun hc => nomatch hc) rfl <| fW (v := undef) rfl rfl rfl rfl rfl rfl (fun hc => nomatch hc) rfl <| fW (v := undef) rfl rfl rfl rfl rfl rfl (fun hc => nomatch hc) rfl <| fW (v := undef) rfl rfl rfl rfl rfl rfl (fun hc => nomatch hc) rfl <| fC (v := undef) (args := []) rfl rfl rfl rfl rfl rfl LnK_en_slices_Equal_S_string_string_ (fun hc => nomatch hc) (fun hc => nomatch hc) rfl <| fw rfl rfl (fun _ => pkF rfl rfl) rfl <| fw rfl rfl (fun _ => mv rfl) rfl <| fW (v := undef) rfl rfl rfl rfl rfl rfl (fun hc => nomatch hc) rfl <| fQ (v := undef) rfl rfl rfl rfl rfl rfl (fun hc => nomatch hc) rfl <| fW (v := undef) rfl rfl rfl rfl rfl rfl (fun hc => nomatch hc) rfl <| fC (v := undef) (args := []) rfl rfl rfl rfl rfl rfl LnK_en_link_within (fun hc => nomatch hc) (fun hc => nomatch hc) rfl <| fw rfl rfl (fun _ => pkF rfl rfl) rfl <| fw rfl rfl (fun _ => as_ rfl) rfl <| fn fun w_62 x_63 => ?_
        have q_64 := x_63.size
        have z_62 := Ext.tr z_13 x_63
        refine nT <| sq <| rg <| vl (mv rfl) rfl <| vl (mv rfl) rfl <| vQ (v := undef) rfl rfl rfl rfl (fun hc => nomatch hc) rfl <| vQ (v := undef) rfl rfl rfl rfl (fun hc => nomatch hc) rfl <| vQ (v := undef) rfl rfl rfl rfl (fun hc => nomatch hc) rfl <| vQ (v := undef) rfl rfl rfl rfl (fun hc => nomatch hc) rfl <| vQ (v := undef) rfl rfl rfl rfl (fun hc => nomatch hc) rfl <| vl (pkF rfl rfl) rfl <| vl (mv rfl) rfl <| vQ (v := undef) rfl rfl rfl rfl (fun hc => nomatch hc) rfl <| vQ (v := undef) rfl rfl rfl rfl (fun hc => nomatch hc) rfl <| vQ (v := undef) rfl rfl rfl rfl (fun hc => nomatch hc) rfl <| vQ (v := undef) rfl rfl rfl rfl (fun hc => nomatch hc) rfl <| vQ (v := undef) rfl rfl rfl rfl (fun hc => nomatch hc) rfl <| vQ (v := undef) rfl rfl rfl rfl (fun hc => nomatch hc) rfl <| vQ (v := undef) rfl rfl rfl rfl (fun hc => nomatch hc) rfl <| vQ (v := undef) rfl rfl rfl rfl (fun hc => nomatch hc) rfl <| vQ (v := undef) rfl rfl rfl rfl (fun hc => nomatch hc) rfl <| vQ (v := undef) rfl rfl rfl rfl (fun hc => nomatch hc) rfl <| vQ (v := undef) rfl rfl rfl rfl (fun hc => nomatch hc) rfl <| vQ (v := undef) rfl rfl rfl rfl (fun hc => nomatch hc) rfl <| ?_
        refine vQ (v := undef) rfl rfl rfl rfl (fun hc => nomatch hc) rfl <| vQ (v := undef) rfl rfl rfl rfl (fun hc => nomatch hc) rfl <| vQ (v := undef) rfl rfl rfl rfl (fun hc => nomatch hc) rfl <| vl (pkF rfl rfl) rfl <| vl (as_ rfl) rfl <| nl <| nT <| sq <| rg <| vl (mv rfl) rfl <| vl (mv rfl) rfl <| vQ (v := undef) rfl rfl rfl rfl (fun hc => nomatch hc) rfl <| vQ (v := undef) rfl rfl rfl rfl (fun hc => nomatch hc) rfl <| vQ (v := undef) rfl rfl rfl rfl (fun hc => nomatch hc) rfl <| vQ (v := undef) rfl rfl rfl rfl (fun hc => nomatch hc) rfl <| vQ (v := undef) rfl rfl rfl rfl (fun hc => nomatch hc) rfl <| vQ (v := undef) rfl rfl rfl rfl (fun hc => nomatch hc) rfl <| vl (pkF rfl rfl) rfl <| vl (mv rfl) rfl <| vQ (v := undef) rfl rfl rfl rfl (fun hc => nomatch hc) rfl <| vQ (v := undef) rfl rfl rfl rfl (fun hc => nomatch hc) rfl <| vQ (v := undef) rfl rfl rfl rfl (fun hc => nomatch hc) rfl <| vQ (v := undef) rfl rfl rfl rfl (fun hc => nomatch hc) rfl <| vl (pkF rfl rfl) rfl <| ?_
        refine vl (mv rfl) rfl <| vQ (v := undef) rfl rfl rfl rfl (fun hc => nomatch hc) rfl <| vQ (v := undef) rfl rfl rfl rfl (fun hc => nomatch hc) rfl <| vQ (v := undef) rfl rfl rfl rfl (fun hc => nomatch hc) rfl <| vQ (v := undef) rfl rfl rfl rfl (fun hc => nomatch hc) rfl <| vQ (v := undef) rfl rfl rfl rfl (fun hc => nomatch hc) rfl <| vQ (v := undef) rfl rfl rfl rfl (fun hc => nomatch hc) rfl <| vQ (v := undef) rfl rfl rfl rfl (fun hc => nomatch hc) rfl <| vQ (v := undef) rfl rfl rfl rfl (fun hc => nomatch hc) rfl <| vl (pkF rfl rfl) rfl <| vl (as_ rfl) rfl <| nl <| nT <| sq <| sq <| rg <| vl (as_ rfl) rfl <| nl <| nT <| bk <| lu 1 <| lr <| sq <| sq <| ?_
        refine rg <| vl (mv rfl) rfl <| vl (mv rfl) rfl <| vQ (v := undef) rfl rfl rfl rfl (fun hc => nomatch hc) rfl <| vQ (v := undef) rfl rfl rfl rfl (fun hc => nomatch hc) rfl <| vQ (v := undef) rfl rfl rfl rfl (fun hc => nomatch hc) rfl <| vl (pkF rfl rfl) rfl <| nl <| nT <| cF rfl <| xt <| xT <| xK <| xB <| nT <| sq <| sq <| rg <| vl (mv rfl) rfl <| vl (nt rfl) rfl <| nl <| nT <| cT rfl <| sq <| ?_
        refine rg <| vl (as_ rfl) rfl <| nl <| nT <| rt <| tT <| tR (.tmp rfl .nil) <| ?_
        exact ⟨by rw [Lnk.chk_form (by simpa using h_11) hlg ((by unfold Lnk.good; simp only [k1, Bool.and_false, Bool.false_and]))]; rfl, z_62⟩
end Go.Proofs.Ytfabhinehfhndaa
