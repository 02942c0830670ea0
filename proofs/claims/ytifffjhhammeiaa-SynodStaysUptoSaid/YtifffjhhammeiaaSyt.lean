import Derived.Test.YtifffjhhammeiaaGolC
import Derived.Test.YtifffjhhammeiaaSya
set_option linter.unusedVariables false
set_option linter.unusedSimpArgs false
set_option maxRecDepth 100000
set_option maxHeartbeats 4000000
namespace Go.Proofs.Ytifffjhhammeiaa
section
open Go.RowKit
theorem Syt_el_S_api_Step : ElT Try.prog Sst.rep 58 72 32 := ElT.mk_ (z := Sst.zero) (k := 4) Try.underlying58 Sst.info rfl rfl (by decide) Sst.zero_raw
theorem clone_St (A : Option Addr) (c : Nat) (l : List Sst) (w : World) (h : Sst.rep.SHas 32 w A c l) :
  Calls Try.prog 34 #[.slice A l.length c] w λ e w' => ∃ A' c', e = .returned (.slice A' l.length c') ∧ Sst.rep.SOwn 72 32 w' w.heap.size (Rep.blkOf A') A' c' l ∧ (A' = none ↔ A = none) ∧ Below w.heap.size w w' := by
 obtain ⟨i0, hi, hz0, hz1, hz2⟩ := info_parts Sst.info
 have qnil : ∀ (w : World) (a : Option Addr) (n c n' c' : Nat), (binOp .eql 58 (.slice a n c) (.slice none n' c')).run Try.prog w = .ok (.bool a.isNone) w := λ w a n c n' c' => Lib.run_eql_slice_nil w _ _ a n c n' c' Try.underlying58
 cases A with
 | none =>
  obtain rfl : c = 0 := h.2.2.2.1 rfl
  obtain rfl : l = [] := List.eq_nil_of_length_eq_zero (by have := h.1; omega)
  go_enter Try.func34, Try.ntmps34
  go_wp2_with fail
  go_ret
  exact ⟨none, 0, rfl, Rep.SOwn.nil _, by simp, Below.refl _ _⟩
 | some a =>
  have hb0 : Below w.heap.size w (w.alloc (.cells #[] 72)) := (Below.refl _ w).alloc (Nat.le_refl _) _
  obtain ⟨n, HN⟩ : ∃ n, Hid (l.length = n) := ⟨_, Lib.hid rfl⟩
  obtain ⟨h1, h2, h3, h4, ess, h5, h6⟩ := h.keep hb0
  have H5 := Lib.hid h5
  have hone : ∀ u ∈ ess.flatten, u.oneCell' = true := by
   intro u hu
   obtain ⟨y, hy, hu⟩ := List.mem_flatten.1 hu
   obtain ⟨a, ha⟩ := h5.left y hy
   exact Sst.rep.one ha u hu
  have hraw : ∀ (j : Nat) u, ess.flatten[j]? = some u → Sst.rep.raw (j % Sst.rep.size) u := λ j u hu => flat_raw h5 (by decide) hu
  rw [HN.out] at h1 h3 h6
  have HR := Lib.hid h6
  have HE := Lib.hid (Own.empty (e := 72) (size := Sst.rep.size) (G := Sst.rep.raw) w (Nat.le_refl w.heap.size))
  clear h h4 h5 h6
  rw [HN.out]
  go_enter Try.func34, Try.ntmps34
  go_wp2_with (at_builtin; refine wpList_append_all _ rfl _ _ 58 rfl w.heap.size 72 i0 Sst.zero Sst.rep.size 32 Try.underlying58 hi hz0 hz1 hz2 rfl (by decide) Sst.rep.raw Sst.zero_raw _ _ _ rfl HE.out (some a) n c ess.flatten rfl HR.out hone hraw ?qc4 ?qc5 ?qc6 ?_)
  case qc4 => unfold maxLen; omega
  case qc5 => omega
  case qc6 => simp
  intro v' w1 hown hgrow hnil hat
  have hb1 := hb0.grown hgrow (by simp) (by intro k hk; simp [Value.ownBlock] at hk; omega)
  obtain ⟨A1, c1, rfl, hle, _, _, _, hnn⟩ := hown.shape
  have hA1 : A1 ≠ none := by
   intro h
   subst h
   exact hnil (hnn rfl)
  have HO : Hid (Sst.rep.SOwn 72 32 w1 w.heap.size (Rep.blkOf A1) A1 c1 l) := Lib.hid (Rep.SOwn.of_plain Sst.plain H5.out (by rw [HN.out]; exact h3) (by rw [HN.out]; simpa using hown))
  have HA1 := Lib.hid hA1
  clear hgrow hnil hat hown hA1 hnn hone hraw
  go_wp2_with fail
  go_ret
  exact ⟨A1, c1, rfl, HO.out, ⟨λ h => absurd h HA1.out, λ h => by cases h⟩, hb1⟩
theorem play_cont {n : Int} {l m : List Sst} (h1 : syE n l = 0) (h2 : syE n (l ++ m) = 0) : ∃ N : Nat, n = N ∧ syR n (l ++ m) = m.foldl Cou.step (syR n l) ∧ ∀ x ∈ m, badS (N : Int) x = false := by
 obtain ⟨N, rfl, a1, a2, a3, a4, a5⟩ := syE_ok h1
 obtain ⟨M, e, b1, b2, b3, b4, b5⟩ := syE_ok h2
 obtain rfl : N = M := by omega
 exact ⟨N, rfl, by rw [b5, a5, plyS_app], λ x hx => b4 x (List.mem_append.2 (.inr hx))⟩
def Kept (r s : Rnd) : Prop := s.b = r.b ∧ (r.asked = true → s.asked = true ∧ s.v = r.v) ∧ (∀ i, r.q.testBit i = true → s.q.testBit i = true)
theorem Kept.rf (r : Rnd) : Kept r r := ⟨rfl, λ h => ⟨h, rfl⟩, λ _ h => h⟩
theorem Kept.tr {a b c : Rnd} (h : Kept a b) (k : Kept b c) : Kept a c := ⟨k.1.trans h.1, λ q => ⟨(k.2.1 (h.2.1 q).1).1, (k.2.1 (h.2.1 q).1).2.trans (h.2.1 q).2⟩, λ i q => k.2.2 i (h.2.2 i q)⟩
theorem step_kept {N : Nat} {A : Int → Prop} {C : Cou} (P : Pax N A C.vows C.rounds) {x : Sst} (hx : badS (N : Int) x = false) {r : Rnd} (hr : r ∈ C.rounds) : ∃ s ∈ (C.step x).rounds, Kept r s := by
 obtain ⟨b1, b2, b3, b4, b5, b6⟩ := badS_ok hx
 obtain ⟨t, ht, htb, hto⟩ := ensR_at (n := x.ballot) P.srt
 have hw : x.who.toNat < C.vows.length := by rw [P.n]; omega
 have hE := ensR_sort (n := x.ballot) P.srt
 have hrE : r ∈ ensR C.rounds x.ballot := mem_ensR hr
 have key : ∀ t' : Rnd, t'.b = t.b → Kept t t' → ∃ s ∈ (ensR C.rounds x.ballot).set (binR C.rounds x.ballot) t', Kept r s := λ t' e k => by
  by_cases hb : r.b = t.b
  ·obtain rfl := sort_uniq hE hrE (List.mem_of_getElem? ht) hb
   exact ⟨t', (set_mem hE ht e).2 (.inl rfl), k⟩
  ·exact ⟨r, (set_mem hE ht e).2 (.inr ⟨hrE, hb⟩), Kept.rf r⟩
 rcases step_cases C x ht (List.getElem?_eq_getElem hw) with e | ⟨_, _, e⟩ | ⟨_, ha, _, e⟩ | ⟨_, _, _, e⟩ <;> rw [e]
 ·exact ⟨r, hrE, Kept.rf r⟩
 ·exact key _ rfl ⟨rfl, λ h => ⟨h, rfl⟩, λ _ h => h⟩
 ·exact key _ rfl ⟨rfl, λ h => (by rw [ha] at h; cases h), λ _ h => h⟩
 ·exact key _ rfl ⟨rfl, λ h => ⟨h, rfl⟩, λ _ h => or_pow.2 (.inl h)⟩
theorem fold_kept {N : Nat} {A : Int → Prop} : ∀ (m : List Sst) {C : Cou}, Pax N A C.vows C.rounds → (∀ x ∈ m, badS (N : Int) x = false) → (∀ x ∈ m, x.kind = 2 → A x.value) → ∀ {r : Rnd}, r ∈ C.rounds → ∃ s ∈ (m.foldl Cou.step C).rounds, Kept r s
 | [], C, _, _, _, r, hr => ⟨r, hr, Kept.rf r⟩
 | x :: m, C, P, hb, hA, r, hr => by
  obtain ⟨s, hs, k⟩ := step_kept P (hb x List.mem_cons_self) hr
  obtain ⟨t, ht, k2⟩ := fold_kept m (P.step (hb x List.mem_cons_self) (hA x List.mem_cons_self)) (λ y hy => hb y (List.mem_cons_of_mem _ hy)) (λ y hy => hA y (List.mem_cons_of_mem _ hy)) hs
  exact ⟨t, ht, k.tr k2⟩
theorem Kept.chosB {N : Nat} {r s : Rnd} (k : Kept r s) (h : chosB N r = true) : chosB N s = true ∧ s.v = r.v := by
 unfold Go.Proofs.Ytifffjhhammeiaa.chosB at *
 rw [Bool.and_eq_true, decide_eq_true_eq] at *
 have hq : Vote.size r.q ≤ Vote.size s.q := Vote.cnt_sub 32 r.q s.q (Nat.eq_of_testBit_eq λ i => by
  rw [Nat.testBit_and]; cases hb : r.q.testBit i with
  | false => rfl
  | true => rw [k.2.2 i hb]; rfl)
 exact ⟨⟨(k.2.1 h.1).1, by omega⟩, (k.2.1 h.1).2⟩
theorem sort_nodup {l : List Rnd} (h : RSort l) : (l.map (·.b)).Nodup := by
 unfold List.Nodup; rw [List.pairwise_map]; exact h.imp fun {a b} hab e => by omega
theorem nodup_le : ∀ {l m : List Int}, l.Nodup → (∀ x ∈ l, x ∈ m) → l.length ≤ m.length
 | [], _, _, _ => Nat.zero_le _
 | a :: l, m, h, hs => by
  obtain ⟨h1, h2⟩ := List.nodup_cons.1 h
  have h3 := nodup_le (l := l) (m := m.erase a) h2 λ x hx => (List.mem_erase_of_ne λ e => h1 (by rw [← e]; exact hx)).2 (hs x (List.mem_cons_of_mem _ hx))
  have h4 := hs a List.mem_cons_self
  have h5 := List.length_erase_of_mem h4
  have h6 := List.length_pos_of_mem h4
  rw [List.length_cons]; omega
theorem stays {n : Int} {l m : List Sst} (h1 : syE n l = 0) (h2 : syE n (l ++ m) = 0) : (syR n l).chosen.length ≤ (syR n (l ++ m)).chosen.length ∧ ∀ x ∈ (syR n l).chosen, ∀ y ∈ (syR n (l ++ m)).chosen, y = x := by
 obtain ⟨N, hnN, e, hb⟩ := play_cont h1 h2
 obtain ⟨N1, hn1, hv1, P1⟩ := sy_pax h1
 obtain ⟨N2, hn2, hv2, P2⟩ := sy_pax h2
 obtain rfl : N1 = N := by omega
 obtain rfl : N2 = N1 := by omega
 have K : ∀ r ∈ (syR n l).rounds, ∃ s ∈ (syR n (l ++ m)).rounds, Kept r s := λ r hr => by
  rw [e]; exact fold_kept m (P1.mono (B := λ _ => True) λ _ _ => trivial) hb (λ _ _ _ => trivial) hr
 refine ⟨?_, λ x hx y hy => ?_⟩
 ·unfold Cou.chosen
  rw [List.length_map, List.length_map, hv1, hv2]
  have hle := nodup_le (l := ((syR n l).rounds.filter (chosB N2)).map (·.b)) (m := ((syR n (l ++ m)).rounds.filter (chosB N2)).map (·.b)) ?_ ?_
  ·rw [List.length_map, List.length_map] at hle; exact hle
  ·exact (sort_nodup P1.srt).sublist (List.filter_sublist.map _)
  intro b hb
  obtain ⟨r, hr, rfl⟩ := List.mem_map.1 hb
  obtain ⟨hr1, hr2⟩ := List.mem_filter.1 hr
  obtain ⟨s, hs, k⟩ := K r hr1
  exact List.mem_map.2 ⟨s, List.mem_filter.2 ⟨hs, (k.chosB hr2).1⟩, k.1⟩
 ·obtain ⟨r, hr, hc, rfl⟩ := chosen_at hx
  obtain ⟨t, ht, hd, rfl⟩ := chosen_at hy
  rw [hv1] at hc; rw [hv2] at hd
  obtain ⟨s, hs, k⟩ := K r hr
  obtain ⟨c1, c2⟩ := k.chosB hc
  rw [← c2]; exact P2.agree ht hs hd c1
theorem synodStays_w (n : Int) (l m : List Sst) (A Am : Option Addr) (c cm : Nat) (w : World) (hl : Sst.rep.SHas 32 w A c l) (hm : Sst.rep.SHas 32 w Am cm m) (hlm : l.length + m.length ≤ 1048576) :
  Calls Try.prog 10 #[.int .i64 n, .slice A l.length c, .slice Am m.length cm] w (λ e w' => e = .returned (.bool true) ∧ Ext w w') := by
 refine calls_W (n := 67) Try.func10 rfl rfl rfl ?_
 refine sg <| va rfl <| nK <| sg <| vm rfl <| vm rfl <| ca eF55 rfl rfl ((play_any n l _ _ _ (hl.keep (Ext.rf w))).mono ?_)
 rintro e w_2 ⟨V1, v1, R1, r1, T1, rfl, HO1, x_3⟩
 refine ⟨_, rfl, ?_⟩
 have := x_3.size
 have z_2 := eT (Ext.rf w) x_3
 have uo1 := λ q hq => (HO1.lt q hq).2
 have tl1 : T1.length = (syR n l).rounds.length := HO1.H.len
 have tm1 := sy_len n l
 refine vm rfl <| vL (ex rfl rfl) <| vL (ex rfl rfl) <| al rfl eF44 rfl rfl λ w_5 b_6 x_7 l_8 B_9 => ?_
 have := x_7.size
 have z_5 := eT z_2 x_7
 have q_11 := B_9.lt
 refine st (new := [.slice V1 ((syR n l).vows.length) v1, .slice R1 T1.length r1]) rfl rfl B_9 rfl eF45 rfl rfl rfl λ w_12 m_13 B_9 => ?_
 have := m_13.size
 have z_12 := Ext.mod z_5 m_13 (ge1 (by omega))
 have := m_13.size
 refine va rfl <| nK <| sg <| vm rfl <| vm rfl <| ca eF58 rfl rfl ((clone_St _ _ l _ (hl.keep z_12)).mono ?_)
 rintro e w_19 ⟨A16, c16, rfl, OK16, hn16, x_20⟩
 refine ⟨_, rfl, ?_⟩
 have := x_20.size
 have z_19 := eT z_12 x_20
 have u_17 := λ q hq => (OK16.lt q hq).2
 have lo_18 := λ q hq => (OK16.lt q hq).1
 refine vm rfl <| ap Syt_el_S_api_Step Rep.flat_bare OK16 (hm.keep z_19) rfl rfl (by omega) (by omega) (by omega) rfl λ w_22 A_23 c_24 m_25 O_26 g_27 n_28 => ?_
 have := m_25.size
 have z_22 := Ext.mod z_19 m_25 (λ q hq => Nat.le_trans (by omega) (OK16.lt q hq).1)
 have u_30 := λ q hq => (O_26.lt q hq).2
 have := m_25.size
 refine ca eF55 rfl rfl ((play_any n (l ++ m) _ _ _ O_26.has).mono ?_)
 rintro e w_33 ⟨V32, v32, R32, r32, T32, rfl, HO32, x_34⟩
 refine ⟨_, rfl, ?_⟩
 have := x_34.size
 have z_33 := eT z_22 x_34
 have uo32 := λ q hq => (HO32.lt q hq).2
 have tl32 : T32.length = (syR n (l ++ m)).rounds.length := HO32.H.len
 have tm32 := sy_len n (l ++ m)
 refine vm rfl <| vL (ex rfl rfl) <| vL (ex rfl rfl) <| al rfl eF44 rfl rfl λ w_36 b_37 x_38 l_39 B_40 => ?_
 have := x_38.size
 have z_36 := eT z_33 x_38
 have q_42 := B_40.lt
 refine st (new := [.slice V32 ((syR n (l ++ m)).vows.length) v32, .slice R32 T32.length r32]) rfl rfl B_40 rfl eF45 rfl rfl rfl λ w_43 m_44 B_40 => ?_
 have := m_44.size
 have z_43 := Ext.mod z_36 m_44 (ge1 (by omega))
 have := m_44.size
 refine va rfl <| nK <| sq <| sg <| ca eF59 rfl rfl ((synodLives_any _).mono ?_)
 rintro e w_47 ⟨rfl, x_48⟩
 refine ⟨_, rfl, ?_⟩
 have := x_48.size
 have z_47 := eT z_43 x_48
 refine vL (nt rfl) <| vm rfl <| ug rfl rfl rfl <| vm rfl <| ug rfl rfl rfl <| vL (bne rfl rfl) <| vL (pkF rfl rfl) <| vm rfl <| vQ rfl rfl rfl rfl (λ hc => mv rfl) rfl <| vQ rfl rfl rfl rfl (λ hc => bne (gt hc rfl) rfl) rfl <| vL (pO rfl rfl rfl rfl) <| nK <| ?_
 refine cb rfl (λ h_50 => ?_) (λ h_50 => ?_)
 ·refine sg <| ca eF59 rfl rfl ((synodLives_any _).mono ?_)
  rintro e w_51 ⟨rfl, x_52⟩
  refine ⟨_, rfl, ?_⟩
  have := x_52.size
  have z_51 := eT z_47 x_52
  refine va rfl <| nK <| rt <| tT <| tR (.tmp rfl .nil) <| ?_
  exact ⟨rfl, z_51⟩
 ·have he : syE n l = 0 ∧ syE n (l ++ m) = 0 := by have h_ := h_50; rw [Bool.or_eq_false_iff] at h_; exact ⟨by simpa using h_.1, by simpa using h_.2⟩
  obtain ⟨hst1, hst2⟩ := stays he.1 he.2
  refine sK <| sq <| ?_
  refine rd [(0, 0), (1, 2), (2, 0), (3, 2)] [0, 2, 1, 3, 4, 5] (by kernel_rfl) (by kernel_rfl) ?_
  have B_9 := B_9.later x_20
  have d_54 : ∀ q ∈ Rep.blkOf A16, q = b_6 → False := λ q hq hb => by (have := lo_18 q hq; omega)
  have B_9 := B_9.mod m_25 (λ hq => d_54 _ hq rfl)
  have B_9 := B_9.later (eT x_34 x_38)
  have B_9 := B_9.mod m_44 (nm1 (by omega))
  have B_9 := B_9.later x_48
  refine fq1 rfl (λ _ x => ld rfl ((B_9.later x).all eF46 eF45)) <| ?_
  have B_40 := B_40.later x_48
  refine fq1 rfl (λ _ x => ld rfl ((B_40.later x).all eF46 eF45)) <| ?_
  have HO1 := HO1.later x_7
  have HO1 := HO1.mod m_13 (λ q hq h => by have := uo1 q hq; have := List.mem_singleton.1 h; omega)
  have HO1 := HO1.later x_20
  have HO1 := HO1.mod m_25 (λ q hq h => by have := uo1 q hq; have := lo_18 q h; omega)
  have HO1 := HO1.later (eT x_34 x_38)
  have HO1 := HO1.mod m_44 (λ q hq h => by have := uo1 q hq; have := List.mem_singleton.1 h; omega)
  have HO1 := HO1.later x_48
  refine fx rfl rfl rfl λ w_55 x_56 Q hK => ca eF56 rfl rfl ((chosen_any _ ⟨V1, v1, R1, r1, T1⟩ (syR n l) _ (HO1.later x_56) (sy_q _ _) (by show T1.length ≤ _; omega)).mono ?_)
  rintro e w_60 ⟨A57, c57, rfl, OC57, x_61⟩
  refine ⟨_, rfl, hK _ _ ⟨eT x_56 x_61, ?_⟩⟩
  have := x_56.size
  have z_55 := eT z_47 x_56
  have := x_61.size
  have z_60 := eT z_55 x_61
  have u_58 := λ q hq => (OC57.lt q hq).2
  have lo_59 := λ q hq => (OC57.lt q hq).1
  have lc57 := chosen_len n l
  have HO32 := HO32.later x_38
  have HO32 := HO32.mod m_44 (λ q hq h => by have := uo32 q hq; have := List.mem_singleton.1 h; omega)
  have HO32 := HO32.later (eT x_48 (eT x_56 x_61))
  refine fx rfl rfl rfl λ w_64 x_65 Q hK => ca eF56 rfl rfl ((chosen_any _ ⟨V32, v32, R32, r32, T32⟩ (syR n (l ++ m)) _ (HO32.later x_65) (sy_q _ _) (by show T32.length ≤ _; omega)).mono ?_)
  rintro e w_69 ⟨A66, c66, rfl, OC66, x_70⟩
  refine ⟨_, rfl, hK _ _ ⟨eT x_65 x_70, ?_⟩⟩
  have := x_65.size
  have z_64 := eT z_60 x_65
  have := x_70.size
  have z_69 := eT z_64 x_70
  have u_67 := λ q hq => (OC66.lt q hq).2
  have lo_68 := λ q hq => (OC66.lt q hq).1
  have lc66 := chosen_len n (l ++ m)
  refine fw1 rfl (λ _ => as_ rfl) <| fw1 rfl (λ _ => as_ rfl) <| fn λ w_73 x_74 => ?_
  have := x_74.size
  have z_73 := eT z_69 x_74
  refine nT <| sq <| sg <| vm rfl <| vL (ln Try.underlying34 rfl) <| vm rfl <| vL (ln Try.underlying34 rfl) <| vL (bgt rfl rfl) <| nK <| ?_
  have h_76 : (decide ((((syR n (l ++ m)).chosen.length : Nat) : Int) < (((syR n l).chosen.length : Nat) : Int))) = false := by exact decide_eq_false (by omega)
  refine cF (by rw [← h_76]; rfl) <| sK <| sq <| sg <| vm rfl <| vL (ln Try.underlying34 rfl) <| vm rfl <| nK <| bk <| ?_
  have HO1 := HO1.later (eT x_56 (eT x_61 (eT x_65 (eT x_70 x_74))))
  have HO32 := HO32.later (eT x_65 (eT x_70 x_74))
  have OC57 := OC57.later (eT x_65 (eT x_70 x_74))
  have OC66 := OC66.later x_74
  refine lp (λ mI EI wI => ∃ k : Nat, EI = [(11, .slice A57 ((syR n l).chosen.length) c57), (50, .slice A66 ((syR n (l ++ m)).chosen.length) c66), (51, .int .i64 ((((syR n (l ++ m)).chosen.length : Nat) : Int))), (52, .int .i64 (k : Int))] ∧ mI = (syR n (l ++ m)).chosen.length - k ∧ Ext w wI ∧ SyO wI _ _ _ ∧ SyO wI _ _ _ ∧ repI.SOwn 3 8 wI w_55.heap.size (Rep.blkOf A57) A57 c57 ((syR n l).chosen) ∧ repI.SOwn 3 8 wI w_64.heap.size (Rep.blkOf A66) A66 c66 ((syR n (l ++ m)).chosen) ∧ (k ≤ (syR n (l ++ m)).chosen.length)) _ _ ⟨0, rfl, rfl, z_73, HO1, HO32, OC57, OC66, by omega⟩ (.cons rfl (.cons rfl (.cons rfl (.cons (loI rfl (by first | omega | rfl | (simp <;> omega))) .nil)))) ?_
  rintro m_78 E_79 w_77 ⟨k, rfl, rfl, z_77, HO1, HO32, OC57, OC66, hk⟩
  have := z_77.size
  have u_81 := λ q hq => (OC57.lt q hq).2
  have u_82 := λ q hq => (OC66.lt q hq).2
  refine sg <| vL (blt rfl rfl) <| nK <| sq <| ?_
  refine clt rfl (λ h_83 => ?_) (λ h_83 => ?_)
  ·obtain ⟨px, hx⟩ : ∃ px, (syR n (l ++ m)).chosen[k]? = some px := ⟨_, List.getElem?_eq_getElem (by omega)⟩
   refine sK <| sq <| bk <| sg <| vL (iA k Try.underlying34 eF7 rfl rfl (OC66.has.adr (zl k (by omega))) rfl (by omega)) <| vL (ld rfl (Rep.SHas.one' hcI (OC66.has.adh (zl k (by omega))) hx rfl eF4)) <| va rfl <| nK <| sq <| ?_
   rcases Nat.eq_zero_or_pos (syR n l).chosen.length with hv0 | hv0
   ·have kv : decide (0 < (((syR n l).chosen.length : Nat) : Int)) = false := decide_eq_false (by omega)
    refine rg <| vm rfl <| vL (ln Try.underlying34 rfl) <| vL (bgt rfl rfl) <| vm (evb rfl kv) <| vQ (v := undef) rfl rfl rfl rfl (λ hc => nomatch hc) rfl <| vQ (v := undef) rfl rfl rfl rfl (λ hc => nomatch hc) rfl <| vQ (v := undef) rfl rfl rfl rfl (λ hc => nomatch hc) rfl <| vQ (v := undef) rfl rfl rfl rfl (λ hc => nomatch hc) rfl <| vQ (v := undef) rfl rfl rfl rfl (λ hc => nomatch hc) rfl <| vL (pkF rfl rfl) <| nK <| cF rfl <| sk <| nB <| nT <| rg <| vL (bad rfl rfl (inI (by omega))) <| vm rfl <| nl <| ?_
    exact nI _ _ ⟨k + 1, rfl, rfl, z_77, HO1, HO32, OC57, OC66, by omega⟩ (by omega) (.cons rfl (.cons rfl (.cons rfl (.cons (loI rfl (by first | omega | rfl | (simp <;> omega))) .nil))))
   ·have kv : decide (0 < (((syR n l).chosen.length : Nat) : Int)) = true := decide_eq_true (by omega)
    obtain ⟨p0, h0⟩ : ∃ p0, (syR n l).chosen[0]? = some p0 := ⟨_, List.getElem?_eq_getElem (by omega)⟩
    have kx : (px != p0) = false := by rw [hst2 p0 (List.mem_of_getElem? h0) px (List.mem_of_getElem? hx)]; simp
    refine rg <| vm rfl <| vL (ln Try.underlying34 rfl) <| vL (bgt rfl rfl) <| vm (evb rfl kv) <| ug rfl rfl rfl <| vm rfl <| ug rfl rfl rfl <| vm rfl <| ug rfl rfl rfl <| vL (iA 0 Try.underlying34 eF7 rfl rfl (OC57.has.adr (zl 0 (by omega))) rfl (by omega)) <| ug rfl rfl rfl <| vL (ld rfl (Rep.SHas.one' hcI (OC57.has.adh (zl 0 (by omega))) h0 rfl eF4)) <| ug rfl rfl rfl <| vL (bne rfl rfl) <| vL (pkT rfl (evb rfl kx)) <| nK <| cF rfl <| sk <| nB <| nT <| rg <| vL (bad rfl rfl (inI (by omega))) <| ?_
    refine vm rfl <| nl <| ?_
    exact nI _ _ ⟨k + 1, rfl, rfl, z_77, HO1, HO32, OC57, OC66, by omega⟩ (by omega) (.cons rfl (.cons rfl (.cons rfl (.cons (loI rfl (by first | omega | rfl | (simp <;> omega))) .nil))))
  ·refine xt <| xT <| xK <| xB <| nT <| sg <| va rfl <| nK <| rt <| tR (.tmp rfl .nil) <| ?_
   exact ⟨rfl, z_77⟩
theorem synodStays_any (a0 : Int) (a1 : Option Addr) (len1 cap1 : Nat) (a2 : Option Addr) (len2 cap2 : Nat) (w : World) (w0 : (Lit.int .i64 a0).wf = true) (h1 : (.slice (.cons (.int .i64) (.cons (.int .i64) (.cons (.int .i64) (.cons (.int .i64) .nil)))) 32 : Sh).Ok w [.slice a1 len1 cap1]) (h2 : (.slice (.cons (.int .i64) (.cons (.int .i64) (.cons (.int .i64) (.cons (.int .i64) .nil)))) 32 : Sh).Ok w [.slice a2 len2 cap2]) (hb : (cap1 + 1) + (cap2 + 1) ≤ 1048576) :
  Calls Try.prog 10 #[.int .i64 a0, .slice a1 len1 cap1, .slice a2 len2 cap2] w λ e w' => e = .returned (.bool true) ∧ Below w.heap.size w w' := by
 obtain ⟨Ax, cx, l, e1, hl1⟩ := Rep.opens_slice (R := Sst.rep) (by_ := 32) Sst.opens rfl (by decide) h1
 injection e1 with e_ _
 injection e_ with q1_ q2_ q3_
 subst q1_ q2_ q3_
 obtain ⟨Bx, dx, m, e2, hl2⟩ := Rep.opens_slice (R := Sst.rep) (by_ := 32) Sst.opens rfl (by decide) h2
 injection e2 with e_ _
 injection e_ with q1_ q2_ q3_
 subst q1_ q2_ q3_
 exact synodStays_w a0 l m _ _ _ _ w hl1 hl2 (by have := hl1.1; have := hl2.1; omega)
end
end Go.Proofs.Ytifffjhhammeiaa
