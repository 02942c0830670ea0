import Derived.Test.YtccankldeogdlaaGolC
import Derived.Test.YtccankldeogdlaaMis
import Derived.Test.YtccankldeogdlaaLinG
import Derived.Test.YtccankldeogdlaaGol
set_option linter.unusedVariables false
set_option linter.unusedSimpArgs false
set_option maxRecDepth 100000
set_option maxHeartbeats 4000000
namespace Go.Proofs.Ytccankldeogdlaa
section
open Go.RowKit
theorem MiV_el_S_api_Cell : ElT Try.prog Cel.rep 55 70 16 := ElT.mk_ (z := Cel.zero) (k := 2) Try.underlying55 Cel.info rfl rfl (by decide) Cel.zero_raw
def mcellAt (f : Fld) (i : Nat) : Cel := ⟨(i : Int) % f.wide, (i : Int) / f.wide⟩
def cellsK (f : Fld) (b : List Bool) (k : Nat) : List Cel := ((List.range k).filter λ i => b.getD i false).map (mcellAt f)
def cellsL (W : Wd) (p : Int) : List Cel := cellsK W.field (mistB W p) (mistB W p).length
theorem cellsK_len (f : Fld) (b : List Bool) (k : Nat) : (cellsK f b k).length ≤ k := by unfold cellsK; rw [List.length_map]; exact Nat.le_trans (List.length_filter_le _ _) (by simp)
theorem cellsK_yes {f : Fld} {b : List Bool} {k : Nat} (h : b.getD k false = true) : cellsK f b (k + 1) = cellsK f b k ++ [⟨(k : Int) % f.wide, (k : Int) / f.wide⟩] := by
 unfold cellsK; rw [List.range_succ, List.filter_append, List.map_append, List.filter_cons, if_pos h]; rfl
theorem cellsK_no {f : Fld} {b : List Bool} {k : Nat} (h : b.getD k false = false) : cellsK f b (k + 1) = cellsK f b k := by
 unfold cellsK; rw [List.range_succ, List.filter_append, List.map_append, List.filter_cons, if_neg (by rw [h]; decide)]; simp
theorem cell_ok {k : Nat} {n : Int} (h : k ≤ 1600) (hn : 1 ≤ n ∧ n ≤ 40) : okI ((k : Int) % n) ∧ okI ((k : Int) / n) := by
 have e1 : 0 ≤ (k : Int) / n := Int.ediv_nonneg (by omega) (by omega)
 have e2 : (k : Int) / n ≤ (k : Int) := Int.ediv_le_self _ (by omega)
 have e3 : 0 ≤ (k : Int) % n := Int.emod_nonneg _ (by omega)
 have e4 : (k : Int) % n < n := Int.emod_lt_of_pos _ (by omega)
 exact ⟨okI_iff.2 (by omega), okI_iff.2 (by omega)⟩
theorem mistE_ok {W : Wd} {p : Int} (h : mistE W p = 0) : W.chk = 0 ∧ 0 ≤ p ∧ p < (W.bases.length : Int) := by
 unfold mistE at h
 split at h
 ·rename_i h1; exact absurd h h1
 ·rename_i h1
  split at h
  ·cases h
  ·rename_i h2; exact ⟨by simpa using h1, by omega, by omega⟩
theorem mistB_no {W : Wd} {p : Int} (h : ¬ mistE W p = 0) : mistB W p = [] := by unfold mistB; rw [if_pos h]
theorem mistB_len {W : Wd} {p : Int} (h : mistE W p = 0) : (mistB W p).length = W.field.places.length := by unfold mistB; rw [if_neg (by simpa using h), seenK_len]
def vdel (W : Wd) (p : Int) (x : Trp) : Bool := (x.owner != p) && (!(mistB W p).getD (x.spot.y * W.field.wide + x.spot.x).toNat false)
def vtroops (W : Wd) (p : Int) : List Trp := W.troops.filter λ x => !vdel W p x
theorem vtroops_len (W : Wd) (p : Int) : (vtroops W p).length ≤ W.troops.length := List.length_filter_le _ _
def hideK (b : List Bool) (l : List Int) (k : Nat) : List Int := (List.range k).foldl (λ l i => if b.getD i false then l else l.set i 0) l
theorem hideK_yes {b : List Bool} {l : List Int} {k : Nat} (h : (!b.getD k false) = true) : hideK b l (k + 1) = (hideK b l k).set k 0 := by
 unfold hideK; rw [List.range_succ, List.foldl_append]; simp only [List.foldl_cons, List.foldl_nil]; rw [if_neg (by simpa using h)]
theorem hideK_no {b : List Bool} {l : List Int} {k : Nat} (h : (!b.getD k false) = false) : hideK b l (k + 1) = hideK b l k := by
 unfold hideK; rw [List.range_succ, List.foldl_append]; simp only [List.foldl_cons, List.foldl_nil]; rw [if_pos (by simpa using h)]
theorem hideK_len (b : List Bool) (l : List Int) : ∀ k, (hideK b l k).length = l.length
 | 0 => rfl
 | k + 1 => by
  cases h : (!b.getD k false) with
  | true => rw [hideK_yes h, List.length_set, hideK_len b l k]
  | false => rw [hideK_no h, hideK_len b l k]
def vnext (T : List Trp) : Int := if 0 < T.length then (T.getD (T.length - 1) default).id + 1 else 1
theorem vnext_none {T : List Trp} (h : (T.length : Int) ≤ 0) : vnext T = 1 := by unfold vnext; rw [if_neg (by omega)]
theorem vnext_some {T : List Trp} (h : 0 < (T.length : Int)) : vnext T = (T.getD ((T.length : Int) - 1).toNat default).id + 1 := by
 unfold vnext; rw [if_pos (by omega), show ((T.length : Int) - 1).toNat = T.length - 1 by omega]
def viewW (W : Wd) (p : Int) : Wd := if mistE W p ≠ 0 then Wd.zero else
 { field := W.field, bases := W.bases, stocks := (List.replicate W.stocks.length 0).set p.toNat (W.stocks.getD p.toNat 0), mines := hideK (mistB W p) W.mines W.mines.length, troops := vtroops W p, next := vnext (vtroops W p), now := W.now }
theorem view_no {W : Wd} {p : Int} (h : ¬ mistE W p = 0) : viewW W p = Wd.zero := by unfold viewW; rw [if_pos h]
theorem view_ok {W : Wd} {p : Int} (h : mistE W p = 0) : viewW W p = { field := W.field, bases := W.bases, stocks := (List.replicate W.stocks.length 0).set p.toNat (W.stocks.getD p.toNat 0), mines := hideK (mistB W p) W.mines W.mines.length, troops := vtroops W p, next := vnext (vtroops W p), now := W.now } := by unfold viewW; rw [if_neg (by simpa using h)]
theorem troop_idx {W : Wd} (hG : Good W) {x : Trp} (hx : x ∈ W.troops) : 0 ≤ x.spot.x ∧ x.spot.x ≤ 40 ∧ 0 ≤ x.spot.y ∧ x.spot.y < W.field.high ∧ 0 ≤ x.spot.y * W.field.wide ∧ x.spot.y * W.field.wide ≤ 1600 ∧ x.spot.y * W.field.wide + x.spot.x < (W.field.places.length : Int) := by
 obtain ⟨i, hi, rfl⟩ := List.mem_iff_getElem.1 hx
 have hg := (hG.troops i _ (List.getElem?_eq_getElem hi)).ground
 unfold Fld.ground at hg
 rw [Bool.and_eq_true] at hg
 obtain ⟨y1, y2, y3, y4, y5, y6⟩ := Fld.good hG.field
 have i1 := Fld.idx hG.field hg.1
 have m1 : 0 ≤ W.troops[i].spot.y * W.field.wide := Int.mul_nonneg i1.2.2.2.2.1 (by omega)
 have m2 : W.troops[i].spot.y * W.field.wide ≤ 40 * 40 := Int.mul_le_mul (by omega) y2 (by omega) (by omega)
 omega
theorem stock_ok {W : Wd} (hG : Good W) {i : Nat} (h : i < W.stocks.length) : okI (W.stocks.getD i 0) := by
 have := hG.stocks i _ (List.getElem?_eq_getElem h)
 rw [getD_dd h]; exact okI_iff.2 (by omega)
theorem vtroops_id {W : Wd} (hG : Good W) {p : Int} {k : Nat} (h : k < (vtroops W p).length) : 0 < ((vtroops W p).getD k default).id ∧ ((vtroops W p).getD k default).id < 1000000 := by
 have hm := (List.mem_filter.1 (mem_dd (d := default) h)).1
 obtain ⟨i, hi, e⟩ := List.mem_iff_getElem.1 hm
 have h1 := hG.ids i _ (List.getElem?_eq_getElem hi)
 have h2 := hG.next
 have e : W.troops[i] = (vtroops W p).getD k default := e
 rw [← e]; omega
theorem cells_any (a : Wd.At) (W : Wd) (p : Int) (w : World) (hW : Wd.Has w a W) :
  Calls Try.prog 74 #[.agg ((Wd.cells a W).toArray), .int .i64 p] w (λ e w' => ∃ A c, e = .returned (.tuple #[.slice A (cellsL W p).length c, .int .i64 (mistE W p)]) ∧ Cel.rep.SOwn 70 16 w' w.heap.size (Rep.blkOf A) A c (cellsL W p) ∧ Ext w w') := by
 refine calls_W (n := 44) Try.func74 rfl rfl rfl ?_
 refine sg <| bx rfl rfl rfl rfl λ w_1 b_2 x_3 l_4 B_5 => ?_
 have := x_3.size
 have z_1 := eT (Ext.rf w) x_3
 have q_7 := B_5.lt
 refine va rfl <| va rfl <| nK <| sg <| vL (ld rfl (B_5.all eF54 eF55)) <| vm rfl <| ca eF74 rfl rfl ((mseen_any a W p _ (hW.keep z_1)).mono ?_)
 rintro e w_11 ⟨A_8, c_8, rfl, OB_8, x_12⟩
 refine ⟨_, rfl, ?_⟩
 have := x_12.size
 have z_11 := eT z_1 x_12
 have u_9 := λ q hq => (OB_8.lt q hq).2
 have lo_10 := λ q hq => (OB_8.lt q hq).1
 refine vm rfl <| vL (ex rfl rfl) <| vL (ex rfl rfl) <| va rfl <| va rfl <| nK <| sq <| sg <| vm rfl <| vL (bne rfl rfl) <| nK <| ?_
 refine cne rfl (λ h_14 => ?_) (λ h_14 => ?_)
 ·refine sg <| vm rfl <| va rfl <| va rfl <| nK <| rt <| tT <| tR (.tmp rfl (.tmp rfl .nil)) <| ?_
  have e0 := mistB_no h_14
  exact ⟨none, 0, by unfold cellsL; rw [e0]; rfl, by unfold cellsL; rw [e0]; exact Rep.SOwn.nil _, z_11⟩
 ·obtain ⟨hchk, hp0, hp1⟩ := mistE_ok (by simpa using h_14)
  have hG := Good.of_chk hchk
  obtain ⟨y1, y2, y3, y4, y5, y6⟩ := Fld.good hG.field
  have hfl := Fld.len_le hG.field
  have hbl := mistB_len (by simpa using h_14)
  refine sK <| sg <| va rfl <| nK <| sq <| sg <| vm rfl <| vL (ln Try.underlying37 rfl) <| vm rfl <| nK <| bk <| ?_
  have B_5 := B_5.later x_12
  refine lp (λ mI EI wI => ∃ k : Nat, ∃ Ao : Option Addr, ∃ co : Nat, EI = [(2, .pointer (some ⟨b_2, 0, none⟩)), (4, .slice none 0 0), (5, .int .i64 0), (8, .slice Ao ((cellsK W.field (mistB W p) k).length) co), (20, .slice A_8 ((mistB W p).length) c_8), (21, .int .i64 ((((mistB W p).length : Nat) : Int))), (22, .int .i64 (k : Int))] ∧ mI = (mistB W p).length - k ∧ Ext w wI ∧ Blk wI b_2 (Wd.cells a W) 58 (0, 0) ∧ repB.SOwn 4 1 wI w_1.heap.size (Rep.blkOf A_8) A_8 c_8 (mistB W p) ∧ Cel.rep.SOwn 70 16 wI w.heap.size (Rep.blkOf Ao) Ao co (cellsK W.field (mistB W p) k) ∧ (k ≤ (mistB W p).length) ∧ (∀ q ∈ Rep.blkOf Ao, q = b_2 → False) ∧ (∀ q ∈ Rep.blkOf Ao, q ∈ Rep.blkOf A_8 → False)) _ _ ⟨0, none, 0, rfl, rfl, z_11, B_5, OB_8, (Rep.SOwn.nil _), by omega, (λ q hq hb => by (simp [Rep.blkOf] at hq)), (λ q hq hb => by (simp [Rep.blkOf] at hq))⟩ (.cons rfl (.cons rfl (.cons rfl (.cons rfl (.cons rfl (.cons rfl (.cons (loI rfl (by first | omega | rfl | (simp <;> omega))) .nil))))))) ?_
  rintro m_18 E_19 w_17 ⟨k, Ao, co, rfl, rfl, z_17, B_5, OB_8, OO, hk, d_15, d_16⟩
  have := z_17.size
  have q_21 := B_5.lt
  have u_22 := λ q hq => (OB_8.lt q hq).2
  have u_23 := λ q hq => (OO.lt q hq).2
  have hcl := cellsK_len W.field (mistB W p) k
  refine sg <| vL (blt rfl rfl) <| nK <| sq <| ?_
  refine clt rfl (λ h_24 => ?_) (λ h_24 => ?_)
  ·refine sK <| sq <| bk <| sg <| vm rfl <| vL (iA k Try.underlying37 eF70 rfl rfl (OB_8.has.adr (zl k (by omega))) rfl (by omega)) <| vL (ld rfl (Rep.SHas.one' hcB (OB_8.has.adh (zl k (by omega))) (get_d (l := mistB W p) (u := false) (by omega)) rfl eF75)) <| va rfl <| va rfl <| nK <| sg <| vm rfl <| nK <| ?_
   refine cb rfl (λ h_25 => ?_) (λ h_25 => ?_)
   ·refine rd [(4, 0), (9, 0), (12, 2), (13, 3)] [0, 1, 2, 3, 4, 5, 6, 7, 8, 9, 10, 11, 12, 13, 14] (by kernel_rfl) (by kernel_rfl) ?_
    refine fw1 rfl (λ _ => mv rfl) <| fw1 rfl (λ _ => mv rfl) <| fw1 rfl (λ _ => fa eF28 rfl) <| fw1 rfl (λ _ => fa eF19 rfl) <| fq1 rfl (λ _ x => ld rfl ((B_5.later x).one eF5 rfl)) <| fw1 rfl (λ _ => bre rfl rfl (by omega) (by omega)) <| fw1 rfl (λ _ => mv rfl) <| fw1 rfl (λ _ => fa eF28 rfl) <| fw1 rfl (λ _ => fa eF19 rfl) <| fq1 rfl (λ _ x => ld rfl ((B_5.later x).one eF5 rfl)) <| fw1 rfl (λ _ => bqu rfl rfl (by omega) (by omega) (quI (by omega) (by omega) (by omega))) <| fw (v := .agg #[.int .i64 ((k : Int) % W.field.wide), .int .i64 ((k : Int) / W.field.wide)]) rfl rfl (λ _ => bd rfl (by kernel_rfl)) rfl <| fx rfl rfl rfl λ w_26 x_27 Q hK => bs (e := 70) (cs := [.int .i64 ((k : Int) % W.field.wide), .int .i64 ((k : Int) / W.field.wide)]) rfl (λ _ => by kernel_rfl) rfl λ w_28 b_29 x_30 l_31 B_32 => hK _ _ ⟨eT x_27 x_30, ?_⟩
    have := x_27.size
    have z_26 := eT z_17 x_27
    have := x_30.size
    have z_28 := eT z_26 x_30
    have q_35 := B_32.lt
    have OO := OO.later (eT x_27 x_30)
    refine fb rfl rfl rfl λ w_36 x_37 Q hK => ap MiV_el_S_api_Cell Rep.flat_bare (OO.later x_37) ((Blk.has1 (R := Cel.rep) (by_ := 16) (q := (⟨(k : Int) % W.field.wide, (k : Int) / W.field.wide⟩ : Cel)) B_32 ⟨rfl, cell_ok (by omega) (by omega)⟩ (by decide)).keep x_37) rfl rfl (by simp only [List.length_cons, List.length_nil]; omega) (by simp only [List.length_cons, List.length_nil]; omega) (eT z_28 x_37).size rfl λ w_38 A_39 c_40 m_41 O_42 g_43 n_44 => hK _ _ ?_
    have := x_37.size
    have z_36 := eT z_28 x_37
    have := m_41.size
    have z_38 := Ext.mod z_36 m_41 (λ q hq => ((OO.later x_37).lt q hq).1)
    have u_47 := λ q hq => (O_42.lt q hq).2
    have := m_41.size
    refine fw1 rfl (λ _ => as_ rfl) <| fn λ w_49 x_50 => ?_
    have := x_50.size
    have z_49 := eT z_38 x_50
    refine nB <| nT <| rg <| vL (bad rfl rfl (inI (by omega))) <| vm rfl <| nl <| ?_
    have e1 : cellsK W.field (mistB W p) (k + 1) = cellsK W.field (mistB W p) k ++ [(⟨(k : Int) % W.field.wide, (k : Int) / W.field.wide⟩ : Cel)] := cellsK_yes h_25
    have B_5 := B_5.later (eT x_27 (eT x_30 x_37))
    have B_5 := B_5.mod m_41 (λ hq => d_15 _ hq rfl)
    have B_5 := B_5.later x_50
    have OB_8 := OB_8.later (eT x_27 (eT x_30 x_37))
    have OB_8 := OB_8.mod m_41 (λ q hq h => by exfalso; (exact d_16 q h hq))
    have OB_8 := OB_8.later x_50
    have O_42 := O_42.later x_50
    exact nI _ _ ⟨k + 1, A_39, c_40, rfl, rfl, z_49, B_5, OB_8, (by rw [e1]; exact O_42), by omega, (λ q hq hb => by (exact Or.elim (g_43 q hq) (λ k_52 => by (exact d_15 q k_52 hb)) (λ k_52 => by omega))), (λ q hq hb => by (exact Or.elim (g_43 q hq) (λ k_53 => by (exact d_16 q k_53 hb)) (λ k_53 => by (have := u_22 q hb; have := u_9 q hb; omega))))⟩ (by omega) (.cons rfl (.cons rfl (.cons rfl (.cons (by rw [e1]; rfl) (.cons rfl (.cons rfl (.cons (loI rfl (by first | omega | rfl | (simp <;> omega))) .nil)))))))
   ·refine sk <| nB <| nT <| rg <| vL (bad rfl rfl (inI (by omega))) <| vm rfl <| nl <| ?_
    have e1 : cellsK W.field (mistB W p) (k + 1) = cellsK W.field (mistB W p) k := cellsK_no h_25
    exact nI _ _ ⟨k + 1, Ao, co, rfl, rfl, z_17, B_5, OB_8, (by rw [e1]; exact OO), by omega, (λ q hq hb => by (exact d_15 q hq hb)), (λ q hq hb => by (exact d_16 q hq hb))⟩ (by omega) (.cons rfl (.cons rfl (.cons rfl (.cons (by rw [e1]; rfl) (.cons rfl (.cons rfl (.cons (loI rfl (by first | omega | rfl | (simp <;> omega))) .nil)))))))
  ·refine xt <| xT <| xK <| xB <| nT <| sg <| vm rfl <| va rfl <| va rfl <| nK <| rt <| tR (.tmp rfl (.tmp rfl .nil)) <| ?_
   have ek : k = (mistB W p).length := by omega
   subst ek
   have e0 : mistE W p = 0 := by simpa using h_14
   exact ⟨_, _, by rw [e0]; rfl, OO, z_17⟩
theorem vdel_any (x : Trp) (a : Wd.At) (W : Wd) (p : Int) (b3 b6 b2 : Nat) (A : Option Addr) (c : Nat) (w : World) (H3 : Blk w b3 [.int .i64 p] 3 (0, 0)) (H6 : Blk w b6 [.slice A (mistB W p).length c] 37 (0, 0)) (H2 : Blk w b2 (Wd.cells a W) 58 (0, 0)) (hA : repB.SHas 1 w A c (mistB W p)) (n5 : 0 ≤ x.spot.y * W.field.wide) (n6 : x.spot.y * W.field.wide ≤ 1600) (n1 : 0 ≤ x.spot.x) (n2 : x.spot.x ≤ 40) (n7 : x.spot.y * W.field.wide + x.spot.x < ((mistB W p).length : Int)) :
  Calls Try.prog 108 #[.agg #[.int .i64 x.id, .int .i64 x.owner, .int .i64 x.kind, .int .i64 x.spot.x, .int .i64 x.spot.y, .int .i64 x.life, .int .i64 x.load], .pointer (some ⟨b3, 0, none⟩), .pointer (some ⟨b6, 0, none⟩), .pointer (some ⟨b2, 0, none⟩)] w (λ e w' => e = .returned (.bool (vdel W p x)) ∧ Ext w w') := by
 refine calls_W (n := 27) Try.func108 rfl rfl rfl ?_
 refine sg <| bx rfl rfl rfl rfl λ w_1 b_2 x_3 l_4 B_5 => ?_
 have := x_3.size
 have z_1 := eT (Ext.rf w) x_3
 have q_7 := B_5.lt
 refine va rfl <| nK <| sg <| vL (fa eF33 rfl) <| vL (ld rfl (B_5.one eF5 rfl)) <| ?_
 have H3 := H3.later x_3
 refine vL (ld rfl (H3.one eF5 rfl)) <| vL (bne rfl rfl) <| vm rfl <| ?_
 have H6 := H6.later x_3
 refine vQ rfl rfl rfl rfl (λ hc => ld rfl (H6.one eF69 rfl)) rfl <| vQ rfl rfl rfl rfl (λ hc => fa eF25 rfl) rfl <| vQ rfl rfl rfl rfl (λ hc => fa eF6 (gt hc rfl)) rfl <| vQ rfl rfl rfl rfl (λ hc => ld (gt hc rfl) (B_5.one eF5 rfl)) rfl <| vQ rfl rfl rfl rfl (λ hc => fa eF28 rfl) rfl <| vQ rfl rfl rfl rfl (λ hc => fa eF19 (gt hc rfl)) rfl <| ?_
 have H2 := H2.later x_3
 refine vQ rfl rfl rfl rfl (λ hc => ld (gt hc rfl) (H2.one eF5 rfl)) rfl <| vQ rfl rfl rfl rfl (λ hc => bmu (gt hc rfl) (gt hc rfl) (inI (by (try simp only [bS] at hc); omega))) rfl <| vQ rfl rfl rfl rfl (λ hc => fa eF25 rfl) rfl <| vQ rfl rfl rfl rfl (λ hc => fa eF4 (gt hc rfl)) rfl <| vQ rfl rfl rfl rfl (λ hc => ld (gt hc rfl) (B_5.one eF5 rfl)) rfl <| vQ rfl rfl rfl rfl (λ hc => bad (gt hc rfl) (gt hc rfl) (inI (by (try simp only [bS] at hc); omega))) rfl <| vQ rfl rfl rfl rfl (λ hc => iA (((x.spot.y * W.field.wide) + x.spot.x).toNat) Try.underlying37 eF70 (gt hc rfl) (gt hc rfl) ((hA.keep z_1).adr (zl (((x.spot.y * W.field.wide) + x.spot.x).toNat) (by clear hc; omega))) (by (try simp only [bS] at hc); omega) (by clear hc; omega)) rfl <| vQ rfl rfl rfl rfl (λ hc => ld (gt hc rfl) (Rep.SHas.one' hcB ((hA.keep z_1).adh (zl (((x.spot.y * W.field.wide) + x.spot.x).toNat) (by clear hc; omega))) (get_d (l := mistB W p) (u := false) (by clear hc; omega)) rfl eF75)) rfl <| vQ rfl rfl rfl rfl (λ hc => nt (gt hc rfl)) rfl <| vL (pA rfl rfl rfl rfl) <| va rfl <| nK <| rt <| tR (.tmp rfl .nil) <| ?_
 exact ⟨rfl, z_1⟩
theorem view_any (a : Wd.At) (W : Wd) (p : Int) (w : World) (hW : Wd.Has w a W) :
  Calls Try.prog 70 #[.agg ((Wd.cells a W).toArray), .int .i64 p] w (λ e w' => ∃ a' : Wd.At, e = .returned (.tuple #[.agg (Wd.cells a' (viewW W p)).toArray, .int .i64 (mistE W p)]) ∧ WOwn w' w.heap.size a' (viewW W p) ∧ Ext w w') := by
 refine calls_W (n := 88) Try.func70 rfl rfl rfl ?_
 refine sg <| bx rfl rfl rfl rfl λ w_1 b_2 x_3 l_4 B_5 => ?_
 have := x_3.size
 have z_1 := eT (Ext.rf w) x_3
 have q_7 := B_5.lt
 refine bx rfl rfl rfl rfl λ w_8 b_9 x_10 l_11 B_12 => ?_
 have := x_10.size
 have z_8 := eT z_1 x_10
 have q_14 := B_12.lt
 refine al rfl eF53 rfl rfl λ w_15 b_16 x_17 l_18 B_19 => ?_
 have := x_17.size
 have z_15 := eT z_8 x_17
 have q_21 := B_19.lt
 refine va rfl <| nK <| sg <| ?_
 have B_5 := B_5.later (eT x_10 x_17)
 refine vL (ld rfl (B_5.all eF54 eF55)) <| ?_
 have B_12 := B_12.later x_17
 refine vL (ld rfl (B_12.one eF5 rfl)) <| ca eF74 rfl rfl ((mseen_any a W p _ (hW.keep z_15)).mono ?_)
 rintro e w_25 ⟨A_22, c_22, rfl, OB_22, x_26⟩
 refine ⟨_, rfl, ?_⟩
 have := x_26.size
 have z_25 := eT z_15 x_26
 have u_23 := λ q hq => (OB_22.lt q hq).2
 have lo_24 := λ q hq => (OB_22.lt q hq).1
 refine vm rfl <| vL (ex rfl rfl) <| vL (ex rfl rfl) <| al rfl eF71 rfl rfl λ w_28 b_29 x_30 l_31 B_32 => ?_
 have := x_30.size
 have z_28 := eT z_25 x_30
 have q_34 := B_32.lt
 refine st (new := [.slice A_22 ((mistB W p).length) c_22]) rfl rfl B_32 rfl eF72 rfl rfl rfl λ w_35 m_36 B_32 => ?_
 have := m_36.size
 have z_35 := Ext.mod z_28 m_36 (ge1 (by omega))
 have := m_36.size
 refine va rfl <| nK <| sq <| sg <| vm rfl <| vL (bne rfl rfl) <| nK <| ?_
 refine cne rfl (λ h_39 => ?_) (λ h_39 => ?_)
 ·refine sg <| vL (v := .agg #[.int .i64 0, .int .i64 0, .slice none 0 0, .slice none 0 0, .slice none 0 0, .slice none 0 0, .slice none 0 0, .int .i64 0, .int .i64 0]) (bd rfl (by kernel_rfl)) <| vm rfl <| ?_
  have B_19 := B_19.later (eT x_26 x_30)
  have B_19 := B_19.mod m_36 (nm1 (by omega))
  refine st (new := [.int .i64 0, .int .i64 0, .slice none 0 0, .slice none 0 0, .slice none 0 0, .slice none 0 0, .slice none 0 0, .int .i64 0, .int .i64 0]) rfl rfl B_19 rfl eF55 rfl rfl rfl λ w_40 m_41 B_19 => ?_
  have := m_41.size
  have z_40 := Ext.mod z_35 m_41 (ge1 (by omega))
  have := m_41.size
  refine va rfl <| nK <| rt <| tT <| tR (.cell rfl (B_19.all eF54 eF55) (.tmp rfl .nil)) <| ?_
  have e1 := view_no h_39
  exact ⟨⟨none, none, none, none, none, 0, 0, 0, 0, 0⟩, by rw [e1]; rfl, by rw [e1]; exact WOwn.zero _ _, z_40⟩
 ·have e0 : mistE W p = 0 := by simpa using h_39
  obtain ⟨hchk, hp0, hp1⟩ := mistE_ok e0
  have hG := Good.of_chk hchk
  obtain ⟨y1, y2, y3, y4, y5, y6⟩ := Fld.good hG.field
  have hfl := Fld.len_le hG.field
  have hbl := mistB_len e0
  have hsl := hG.sl
  have hnb := hG.nb
  have hml := hG.ml
  have hnt := hG.nt
  have hvl := vtroops_len W p
  refine sK <| sg <| ?_
  have B_5 := B_5.later (eT x_26 x_30)
  have B_5 := B_5.mod m_36 (nm1 (by omega))
  refine vL (ld rfl (B_5.all eF54 eF55)) <| al rfl eF53 rfl rfl λ w_44 b_45 x_46 l_47 B_48 => ?_
  have := x_46.size
  have z_44 := eT z_35 x_46
  have q_50 := B_48.lt
  refine st rfl rfl B_48 rfl eF55 rfl rfl rfl λ w_51 m_52 B_48 => ?_
  have := m_52.size
  have z_51 := Ext.mod z_44 m_52 (ge1 (by omega))
  have := m_52.size
  refine nK <| sq <| ?_
  refine rd [(2, 0), (3, 2), (5, 0), (6, 2), (9, 3), (11, 3)] [0, 1, 2, 4, 5, 3, 7, 8, 6, 9, 10, 11] (by kernel_rfl) (by kernel_rfl) ?_
  refine fw1 rfl (λ _ => fa eF28 rfl) <| fw1 rfl (λ _ => fa eF62 rfl) <| ?_
  have B_5 := B_5.later x_46
  have B_5 := B_5.mod m_52 (nm1 (by omega))
  refine fq1 rfl (λ _ x => ld rfl ((B_5.later x).one eF30 rfl)) <| fw1 rfl (λ _ => fa eF31 rfl) <| fq1 rfl (λ _ x => ld rfl ((B_5.later x).one eF32 rfl)) <| fx rfl rfl rfl λ w_55 x_56 Q hK => ca eF76 rfl rfl ((clone_I _ _ W.field.places _ (hW.P.keep (eT z_51 x_56))).mono ?_)
  rintro e w_60 ⟨A_57, c_57, rfl, OC_57, hn_57, x_61⟩
  refine ⟨_, rfl, hK _ _ ⟨eT x_56 x_61, ?_⟩⟩
  have := x_56.size
  have z_55 := eT z_51 x_56
  have := x_61.size
  have z_60 := eT z_55 x_61
  have u_58 := λ q hq => (OC_57.lt q hq).2
  have lo_59 := λ q hq => (OC_57.lt q hq).1
  refine fw1 rfl (λ _ => fa eF28 rfl) <| fw1 rfl (λ _ => fa eF62 rfl) <| fx rfl rfl rfl λ w_64 x_65 Q hK => ca eF77 rfl rfl ((clone_C _ _ W.bases _ (hW.B.keep (eT z_60 x_65))).mono ?_)
  rintro e w_69 ⟨A_66, c_66, rfl, OC_66, hn_66, x_70⟩
  refine ⟨_, rfl, hK _ _ ⟨eT x_65 x_70, ?_⟩⟩
  have := x_65.size
  have z_64 := eT z_60 x_65
  have := x_70.size
  have z_69 := eT z_64 x_70
  have u_67 := λ q hq => (OC_66.lt q hq).2
  have lo_68 := λ q hq => (OC_66.lt q hq).1
  have B_48 := B_48.later (eT x_56 (eT x_61 (eT x_65 x_70)))
  refine fb rfl rfl rfl λ w_73 x_74 Q hK => st (new := [.int .i64 W.field.wide, .int .i64 W.field.high, .slice A_57 ((W.field.places).length) c_57, .slice a.B W.bases.length a.b, .slice a.S W.stocks.length a.s, .slice a.M W.mines.length a.m, .slice a.T W.troops.length a.t, .int .i64 W.next, .int .i64 W.now]) rfl rfl (B_48.later x_74) rfl eF78 rfl rfl rfl λ w_75 m_76 B_48 => hK _ _ ?_
  have := x_74.size
  have z_73 := eT z_69 x_74
  have := m_76.size
  have z_75 := Ext.mod z_73 m_76 (ge1 (by omega))
  have := m_76.size
  refine fw1 rfl (λ _ => fa eF31 rfl) <| fb rfl rfl rfl λ w_80 x_81 Q hK => st (new := [.int .i64 W.field.wide, .int .i64 W.field.high, .slice A_57 ((W.field.places).length) c_57, .slice A_66 ((W.bases).length) c_66, .slice a.S W.stocks.length a.s, .slice a.M W.mines.length a.m, .slice a.T W.troops.length a.t, .int .i64 W.next, .int .i64 W.now]) rfl rfl (B_48.later x_81) rfl eF79 rfl rfl rfl λ w_82 m_83 B_48 => hK _ _ ?_
  have := x_81.size
  have z_80 := eT z_75 x_81
  have := m_83.size
  have z_82 := Ext.mod z_80 m_83 (ge1 (by omega))
  have := m_83.size
  refine fn λ w_87 x_88 => ?_
  have := x_88.size
  have z_87 := eT z_82 x_88
  refine nT <| sg <| vL (fa eF34 rfl) <| ?_
  have B_5 := B_5.later (eT x_56 (eT x_61 (eT x_65 (eT x_70 x_74))))
  have B_5 := B_5.mod m_76 (nm1 (by omega))
  have B_5 := B_5.later x_81
  have B_5 := B_5.mod m_83 (nm1 (by omega))
  have B_5 := B_5.later x_88
  refine vL (ld rfl (B_5.one eF30 rfl)) <| vL (ln Try.underlying42 rfl) <| mO (R := repI) (by_ := 8) (B := w.heap.size) (c := W.stocks.length) (zv := (.int .i64 0)) (q := 0) Rep.flat_plain Try.underlying42 info_int rfl rfl (λ j u h => raw0I j u h) (λ _ => ⟨rfl, okI_iff.2 (by decide)⟩) rfl rfl rfl (by omega) (by omega) (by omega) λ w_90 b_91 x_92 l_93 O_94 => ?_
  have := x_92.size
  have z_90 := eT z_87 x_92
  have u_96 := λ q hq => (O_94.lt q hq).2
  have lo_97 : ∀ q ∈ Rep.blkOf (some ⟨b_91, 0, none⟩), b_91 ≤ q := λ q hq => Nat.le_of_eq (List.mem_singleton.1 hq).symm
  refine vL (fa eF34 rfl) <| ?_
  have B_48 := B_48.later (eT x_88 x_92)
  refine st (new := [.int .i64 W.field.wide, .int .i64 W.field.high, .slice A_57 ((W.field.places).length) c_57, .slice A_66 ((W.bases).length) c_66, .slice (some ⟨b_91, 0, none⟩) W.stocks.length W.stocks.length, .slice a.M W.mines.length a.m, .slice a.T W.troops.length a.t, .int .i64 W.next, .int .i64 W.now]) rfl rfl B_48 rfl eF78 rfl rfl rfl λ w_98 m_99 B_48 => ?_
  have := m_99.size
  have z_98 := Ext.mod z_90 m_99 (ge1 (by omega))
  have := m_99.size
  refine nK <| sq <| ?_
  refine rd [(1, 0), (2, 0), (4, 0), (5, 0), (7, 0), (9, 3)] [0, 1, 2, 3, 4, 5, 6, 7, 8, 9] (by kernel_rfl) (by kernel_rfl) ?_
  refine fw1 rfl (λ _ => fa eF34 rfl) <| fq1 rfl (λ _ x => ld rfl ((B_48.later x).one eF30 rfl)) <| ?_
  have B_12 := B_12.later (eT x_26 x_30)
  have B_12 := B_12.mod m_36 (nm1 (by omega))
  have B_12 := B_12.later x_46
  have B_12 := B_12.mod m_52 (nm1 (by omega))
  have B_12 := B_12.later (eT x_56 (eT x_61 (eT x_65 (eT x_70 x_74))))
  have B_12 := B_12.mod m_76 (nm1 (by omega))
  have B_12 := B_12.later x_81
  have B_12 := B_12.mod m_83 (nm1 (by omega))
  have B_12 := B_12.later (eT x_88 x_92)
  have B_12 := B_12.mod m_99 (nm1 (by omega))
  refine fq1 rfl (λ _ x => ld rfl ((B_12.later x).one eF5 rfl)) <| fw1 rfl (λ _ => fa eF34 rfl) <| ?_
  have B_5 := B_5.later x_92
  have B_5 := B_5.mod m_99 (nm1 (by omega))
  refine fq1 rfl (λ _ x => ld rfl ((B_5.later x).one eF30 rfl)) <| fq1 rfl (λ _ x => ld rfl ((B_12.later x).one eF5 rfl)) <| fw1 rfl (λ _ => iA p.toNat Try.underlying42 eF11 rfl rfl ((hW.S.keep z_98).adr (zl p.toNat (by omega))) (by omega) (by omega)) <| fq1 rfl (λ _ x => ld rfl (Rep.SHas.one' hcI ((hW.S.keep (eT z_98 x)).adh (zl p.toNat (by omega))) (get_d (l := W.stocks) (u := 0) (by omega)) rfl eF5)) <| ?_
  have O_94 := O_94.mod m_99 (fk2 lo_97 (by omega))
  refine fw1 rfl (λ _ => iA p.toNat Try.underlying42 eF11 rfl rfl (O_94.has.adr (zl p.toNat (by first | omega | (rw [List.length_replicate]; omega)))) (by omega) (by first | omega | (rw [List.length_replicate]; omega))) <| fb rfl rfl rfl λ w_102 x_103 Q hK => so (q' := W.stocks.getD p.toNat 0) (j := 0) (i := p.toNat) (O_94.later x_103) Rep.flat_bare (get_d (l := List.replicate W.stocks.length 0) (u := 0) (by first | omega | (rw [List.length_replicate]; omega))) rfl rfl rfl rfl (λ _ cs h => by have ok_ := (show _ ∧ _ from h).2; obtain rfl := hcI h; exact ⟨rfl, stock_ok hG (by omega)⟩) rfl rfl eF11 λ w_104 m_105 O_106 => hK _ _ ?_
  have := x_103.size
  have z_102 := eT z_98 x_103
  have := m_105.size
  have z_104 := Ext.mod z_102 m_105 (λ q hq => ((O_94.later x_103).lt q hq).1)
  have := m_105.size
  refine fn λ w_110 x_111 => ?_
  have := x_111.size
  have z_110 := eT z_104 x_111
  refine nT <| sg <| vL (fa eF29 rfl) <| ?_
  have B_5 := B_5.later x_103
  have d_113 : ∀ q ∈ Rep.blkOf (some ⟨b_91, 0, none⟩), q = b_2 → False := λ q hq hb => by (have := lo_97 q hq; omega)
  have B_5 := B_5.mod m_105 (λ hq => d_113 _ hq rfl)
  have B_5 := B_5.later x_111
  refine vL (ld rfl (B_5.one eF30 rfl)) <| ca eF76 rfl rfl ((clone_I _ _ W.mines _ (hW.M.keep z_110)).mono ?_)
  rintro e w_117 ⟨A_114, c_114, rfl, OC_114, hn_114, x_118⟩
  refine ⟨_, rfl, ?_⟩
  have := x_118.size
  have z_117 := eT z_110 x_118
  have u_115 := λ q hq => (OC_114.lt q hq).2
  have lo_116 := λ q hq => (OC_114.lt q hq).1
  refine vL (fa eF29 rfl) <| ?_
  have B_48 := B_48.later x_103
  have d_120 : ∀ q ∈ Rep.blkOf (some ⟨b_91, 0, none⟩), q = b_45 → False := λ q hq hb => by (have := lo_97 q hq; omega)
  have B_48 := B_48.mod m_105 (λ hq => d_120 _ hq rfl)
  have B_48 := B_48.later (eT x_111 x_118)
  refine st (new := [.int .i64 W.field.wide, .int .i64 W.field.high, .slice A_57 ((W.field.places).length) c_57, .slice A_66 ((W.bases).length) c_66, .slice (some ⟨b_91, 0, none⟩) W.stocks.length W.stocks.length, .slice A_114 ((W.mines).length) c_114, .slice a.T W.troops.length a.t, .int .i64 W.next, .int .i64 W.now]) rfl rfl B_48 rfl eF78 rfl rfl rfl λ w_121 m_122 B_48 => ?_
  have := m_122.size
  have z_121 := Ext.mod z_117 m_122 (ge1 (by omega))
  have := m_122.size
  refine nK <| sq <| sg <| vL (fa eF29 rfl) <| vL (ld rfl (B_48.one eF30 rfl)) <| vL (ln Try.underlying42 rfl) <| vm rfl <| nK <| bk <| ?_
  have OC_114 := OC_114.mod m_122 (fk2 lo_116 (by omega))
  have B_5 := B_5.later x_118
  have B_5 := B_5.mod m_122 (nm1 (by omega))
  have B_12 := B_12.later x_103
  have d_135 : ∀ q ∈ Rep.blkOf (some ⟨b_91, 0, none⟩), q = b_9 → False := λ q hq hb => by (have := lo_97 q hq; omega)
  have B_12 := B_12.mod m_105 (λ hq => d_135 _ hq rfl)
  have B_12 := B_12.later (eT x_111 x_118)
  have B_12 := B_12.mod m_122 (nm1 (by omega))
  have B_19 := B_19.later (eT x_26 x_30)
  have B_19 := B_19.mod m_36 (nm1 (by omega))
  have B_19 := B_19.later x_46
  have B_19 := B_19.mod m_52 (nm1 (by omega))
  have B_19 := B_19.later (eT x_56 (eT x_61 (eT x_65 (eT x_70 x_74))))
  have B_19 := B_19.mod m_76 (nm1 (by omega))
  have B_19 := B_19.later x_81
  have B_19 := B_19.mod m_83 (nm1 (by omega))
  have B_19 := B_19.later (eT x_88 x_92)
  have B_19 := B_19.mod m_99 (nm1 (by omega))
  have B_19 := B_19.later x_103
  have d_136 : ∀ q ∈ Rep.blkOf (some ⟨b_91, 0, none⟩), q = b_16 → False := λ q hq hb => by (have := lo_97 q hq; omega)
  have B_19 := B_19.mod m_105 (λ hq => d_136 _ hq rfl)
  have B_19 := B_19.later (eT x_111 x_118)
  have B_19 := B_19.mod m_122 (nm1 (by omega))
  have OB_22 := OB_22.later x_30
  have OB_22 := OB_22.mod m_36 (fk1 u_23 (by omega))
  have OB_22 := OB_22.later x_46
  have OB_22 := OB_22.mod m_52 (fk1 u_23 (by omega))
  have OB_22 := OB_22.later (eT x_56 (eT x_61 (eT x_65 (eT x_70 x_74))))
  have OB_22 := OB_22.mod m_76 (fk1 u_23 (by omega))
  have OB_22 := OB_22.later x_81
  have OB_22 := OB_22.mod m_83 (fk1 u_23 (by omega))
  have OB_22 := OB_22.later (eT x_88 x_92)
  have OB_22 := OB_22.mod m_99 (fk1 u_23 (by omega))
  have OB_22 := OB_22.later x_103
  have OB_22 := OB_22.mod m_105 (λ q hq h => by exfalso; (have := lo_97 q h; (have := u_23 q hq; omega)))
  have OB_22 := OB_22.later (eT x_111 x_118)
  have OB_22 := OB_22.mod m_122 (fk1 u_23 (by omega))
  have B_32 := B_32.later x_46
  have B_32 := B_32.mod m_52 (nm1 (by omega))
  have B_32 := B_32.later (eT x_56 (eT x_61 (eT x_65 (eT x_70 x_74))))
  have B_32 := B_32.mod m_76 (nm1 (by omega))
  have B_32 := B_32.later x_81
  have B_32 := B_32.mod m_83 (nm1 (by omega))
  have B_32 := B_32.later (eT x_88 x_92)
  have B_32 := B_32.mod m_99 (nm1 (by omega))
  have B_32 := B_32.later x_103
  have d_137 : ∀ q ∈ Rep.blkOf (some ⟨b_91, 0, none⟩), q = b_29 → False := λ q hq hb => by (have := lo_97 q hq; omega)
  have B_32 := B_32.mod m_105 (λ hq => d_137 _ hq rfl)
  have B_32 := B_32.later (eT x_111 x_118)
  have B_32 := B_32.mod m_122 (nm1 (by omega))
  have OC_57 := OC_57.later (eT x_65 (eT x_70 x_74))
  have OC_57 := OC_57.mod m_76 (fk2 lo_59 (by omega))
  have OC_57 := OC_57.later x_81
  have OC_57 := OC_57.mod m_83 (fk2 lo_59 (by omega))
  have OC_57 := OC_57.later (eT x_88 x_92)
  have OC_57 := OC_57.mod m_99 (fk2 lo_59 (by omega))
  have OC_57 := OC_57.later x_103
  have OC_57 := OC_57.mod m_105 (λ q hq h => by exfalso; (have := lo_97 q h; (have := u_58 q hq; omega)))
  have OC_57 := OC_57.later (eT x_111 x_118)
  have OC_57 := OC_57.mod m_122 (fk2 lo_59 (by omega))
  have OC_66 := OC_66.later x_74
  have OC_66 := OC_66.mod m_76 (fk2 lo_68 (by omega))
  have OC_66 := OC_66.later x_81
  have OC_66 := OC_66.mod m_83 (fk2 lo_68 (by omega))
  have OC_66 := OC_66.later (eT x_88 x_92)
  have OC_66 := OC_66.mod m_99 (fk2 lo_68 (by omega))
  have OC_66 := OC_66.later x_103
  have OC_66 := OC_66.mod m_105 (λ q hq h => by exfalso; (have := lo_97 q h; (have := u_67 q hq; omega)))
  have OC_66 := OC_66.later (eT x_111 x_118)
  have OC_66 := OC_66.mod m_122 (fk2 lo_68 (by omega))
  have O_106 := O_106.later (eT x_111 x_118)
  have O_106 := O_106.mod m_122 (λ q hq h => by have hb := List.mem_singleton.1 h; exfalso; (exact d_120 q hq hb))
  refine lp (λ mI EI wI => ∃ k : Nat, EI = [(2, .pointer (some ⟨b_2, 0, none⟩)), (3, .pointer (some ⟨b_9, 0, none⟩)), (4, .pointer (some ⟨b_16, 0, none⟩)), (5, .int .i64 0), (6, .pointer (some ⟨b_29, 0, none⟩)), (8, .pointer (some ⟨b_45, 0, none⟩)), (52, .int .i64 ((((W.mines).length : Nat) : Int))), (53, .int .i64 (k : Int))] ∧ mI = W.mines.length - k ∧ Ext w wI ∧ Blk wI b_2 (Wd.cells a W) 58 (0, 0) ∧ Blk wI b_9 [.int .i64 p] 3 (0, 0) ∧ Blk wI b_16 [.int .i64 0, .int .i64 0, .slice none 0 0, .slice none 0 0, .slice none 0 0, .slice none 0 0, .slice none 0 0, .int .i64 0, .int .i64 0] 58 (0, 0) ∧ repB.SOwn 4 1 wI w_15.heap.size (Rep.blkOf A_22) A_22 c_22 (mistB W p) ∧ Blk wI b_29 [.slice A_22 ((mistB W p).length) c_22] 37 (0, 0) ∧ Blk wI b_45 [.int .i64 W.field.wide, .int .i64 W.field.high, .slice A_57 ((W.field.places).length) c_57, .slice A_66 ((W.bases).length) c_66, .slice (some ⟨b_91, 0, none⟩) W.stocks.length W.stocks.length, .slice A_114 ((W.mines).length) c_114, .slice a.T W.troops.length a.t, .int .i64 W.next, .int .i64 W.now] 58 (0, 0) ∧ repI.SOwn 3 8 wI w_55.heap.size (Rep.blkOf A_57) A_57 c_57 (W.field.places) ∧ Cel.rep.SOwn 70 16 wI w_64.heap.size (Rep.blkOf A_66) A_66 c_66 (W.bases) ∧ repI.SOwn 3 8 wI w.heap.size (Rep.blkOf (some ⟨b_91, 0, none⟩)) (some ⟨b_91, 0, none⟩) W.stocks.length ((List.replicate W.stocks.length 0).set p.toNat (W.stocks.getD p.toNat 0)) ∧ repI.SOwn 3 8 wI w_110.heap.size (Rep.blkOf A_114) A_114 c_114 (hideK (mistB W p) W.mines k) ∧ (k ≤ W.mines.length) ∧ (∀ q ∈ Rep.blkOf A_114, q = b_2 → False) ∧ (∀ q ∈ Rep.blkOf A_114, q = b_9 → False) ∧ (∀ q ∈ Rep.blkOf A_114, q = b_16 → False) ∧ (∀ q ∈ Rep.blkOf A_114, q = b_29 → False) ∧ (∀ q ∈ Rep.blkOf A_114, q = b_45 → False) ∧ (∀ q ∈ Rep.blkOf A_114, q ∈ Rep.blkOf A_22 → False) ∧ (∀ q ∈ Rep.blkOf A_114, q ∈ Rep.blkOf A_57 → False) ∧ (∀ q ∈ Rep.blkOf A_114, q ∈ Rep.blkOf A_66 → False) ∧ (∀ q ∈ Rep.blkOf A_114, q ∈ Rep.blkOf (some ⟨b_91, 0, none⟩) → False)) _ _ ⟨0, rfl, rfl, z_121, B_5, B_12, B_19, OB_22, B_32, B_48, OC_57, OC_66, O_106, OC_114, by omega, (λ q hq hb => by (have := lo_116 q hq; omega)), (λ q hq hb => by (have := lo_116 q hq; omega)), (λ q hq hb => by (have := lo_116 q hq; omega)), (λ q hq hb => by (have := lo_116 q hq; omega)), (λ q hq hb => by (have := lo_116 q hq; omega)), (λ q hq hb => by (have := lo_116 q hq; (have := u_23 q hb; omega))), (λ q hq hb => by (have := lo_116 q hq; (have := u_58 q hb; omega))), (λ q hq hb => by (have := lo_116 q hq; (have := u_67 q hb; omega))), (λ q hq hb => by (have := lo_116 q hq; (have := u_96 q hb; omega)))⟩ (.cons rfl (.cons rfl (.cons rfl (.cons rfl (.cons rfl (.cons rfl (.cons rfl (.cons (loI rfl (by first | omega | rfl | (simp <;> omega))) .nil)))))))) ?_
  rintro m_138 E_139 w_134 ⟨k, rfl, rfl, z_134, B_5, B_12, B_19, OB_22, B_32, B_48, OC_57, OC_66, O_106, OM, hk, d_125, d_126, d_127, d_128, d_129, d_130, d_131, d_132, d_133⟩
  have := z_134.size
  have q_141 := B_5.lt
  have q_142 := B_12.lt
  have q_143 := B_19.lt
  have u_144 := λ q hq => (OB_22.lt q hq).2
  have q_145 := B_32.lt
  have q_146 := B_48.lt
  have u_147 := λ q hq => (OC_57.lt q hq).2
  have u_148 := λ q hq => (OC_66.lt q hq).2
  have u_149 := λ q hq => (O_106.lt q hq).2
  have u_150 := λ q hq => (OM.lt q hq).2
  have hhl := hideK_len (mistB W p) W.mines k
  refine sg <| vL (blt rfl rfl) <| nK <| sq <| ?_
  refine clt rfl (λ h_151 => ?_) (λ h_151 => ?_)
  ·refine sK <| sq <| bk <| sg <| vm rfl <| va rfl <| nK <| sg <| vL (ld rfl (B_32.one eF69 rfl)) <| vm rfl <| vL (iA k Try.underlying37 eF70 rfl rfl (OB_22.has.adr (zl k (by omega))) rfl (by omega)) <| vL (ld rfl (Rep.SHas.one' hcB (OB_22.has.adh (zl k (by omega))) (get_d (l := mistB W p) (u := false) (by omega)) rfl eF75)) <| vL (nt rfl) <| nK <| ?_
   refine cb rfl (λ h_152 => ?_) (λ h_152 => ?_)
   ·refine rg <| vL (fa eF29 rfl) <| vL (ld rfl (B_48.one eF30 rfl)) <| vm rfl <| vL (iA k Try.underlying42 eF11 rfl rfl (OM.has.adr (zl k (by omega))) rfl (by omega)) <| so (q' := 0) (j := 0) (i := k) OM Rep.flat_bare (get_d (l := hideK (mistB W p) W.mines k) (u := 0) (by omega)) rfl rfl rfl rfl (λ _ cs h => by have ok_ := (show _ ∧ _ from h).2; obtain rfl := hcI h; exact ⟨rfl, okI_iff.2 (by decide)⟩) rfl rfl eF11 λ w_153 m_154 O_155 => ?_
    have := m_154.size
    have z_153 := Ext.mod z_134 m_154 (λ q hq => Nat.le_trans (by omega) (OM.lt q hq).1)
    have := m_154.size
    refine nl <| nB <| nT <| rg <| vL (bad rfl rfl (inI (by omega))) <| vm rfl <| nl <| ?_
    have e1 : hideK (mistB W p) W.mines (k + 1) = (hideK (mistB W p) W.mines k).set k 0 := hideK_yes h_152
    have B_5 := B_5.mod m_154 (λ hq => d_125 _ hq rfl)
    have B_12 := B_12.mod m_154 (λ hq => d_126 _ hq rfl)
    have B_19 := B_19.mod m_154 (λ hq => d_127 _ hq rfl)
    have OB_22 := OB_22.mod m_154 (λ q hq h => by exfalso; (exact d_130 q h hq))
    have B_32 := B_32.mod m_154 (λ hq => d_128 _ hq rfl)
    have B_48 := B_48.mod m_154 (λ hq => d_129 _ hq rfl)
    have OC_57 := OC_57.mod m_154 (λ q hq h => by exfalso; (exact d_131 q h hq))
    have OC_66 := OC_66.mod m_154 (λ q hq h => by exfalso; (exact d_132 q h hq))
    have O_106 := O_106.mod m_154 (λ q hq h => by exfalso; (exact d_133 q h hq))
    exact nI _ _ ⟨k + 1, rfl, rfl, z_153, B_5, B_12, B_19, OB_22, B_32, B_48, OC_57, OC_66, O_106, (by rw [e1]; exact O_155), by omega, (λ q hq hb => by (exact d_125 q hq hb)), (λ q hq hb => by (exact d_126 q hq hb)), (λ q hq hb => by (exact d_127 q hq hb)), (λ q hq hb => by (exact d_128 q hq hb)), (λ q hq hb => by (exact d_129 q hq hb)), (λ q hq hb => by (exact d_130 q hq hb)), (λ q hq hb => by (exact d_131 q hq hb)), (λ q hq hb => by (exact d_132 q hq hb)), (λ q hq hb => by (exact d_133 q hq hb))⟩ (by omega) (.cons rfl (.cons rfl (.cons rfl (.cons rfl (.cons rfl (.cons rfl (.cons rfl (.cons (loI rfl (by first | omega | rfl | (simp <;> omega))) .nil))))))))
   ·refine sk <| nB <| nT <| rg <| vL (bad rfl rfl (inI (by omega))) <| vm rfl <| nl <| ?_
    have e1 : hideK (mistB W p) W.mines (k + 1) = hideK (mistB W p) W.mines k := hideK_no h_152
    exact nI _ _ ⟨k + 1, rfl, rfl, z_134, B_5, B_12, B_19, OB_22, B_32, B_48, OC_57, OC_66, O_106, (by rw [e1]; exact OM), by omega, (λ q hq hb => by (exact d_125 q hq hb)), (λ q hq hb => by (exact d_126 q hq hb)), (λ q hq hb => by (exact d_127 q hq hb)), (λ q hq hb => by (exact d_128 q hq hb)), (λ q hq hb => by (exact d_129 q hq hb)), (λ q hq hb => by (exact d_130 q hq hb)), (λ q hq hb => by (exact d_131 q hq hb)), (λ q hq hb => by (exact d_132 q hq hb)), (λ q hq hb => by (exact d_133 q hq hb))⟩ (by omega) (.cons rfl (.cons rfl (.cons rfl (.cons rfl (.cons rfl (.cons rfl (.cons rfl (.cons (loI rfl (by first | omega | rfl | (simp <;> omega))) .nil))))))))
  ·refine xt <| xT <| xK <| xB <| nT <| sg <| vL (fa eF35 rfl) <| vL (ld rfl (B_5.one eF36 rfl)) <| ?_
   have V2 := B_5
   have V3 := B_12
   have V6 := B_32
   have VA := OB_22.has
   refine ca eF80 rfl rfl ((clone_T _ _ W.troops _ (hW.T.keep z_134)).mono ?_)
   rintro e w_161 ⟨A_158, c_158, rfl, OC_158, hn_158, x_162⟩
   refine ⟨_, rfl, ?_⟩
   have := x_162.size
   have z_161 := eT z_134 x_162
   have u_159 := λ q hq => (OC_158.lt q hq).2
   have lo_160 := λ q hq => (OC_158.lt q hq).1
   refine vL (mf rfl rfl) <| ?_
   have hClo : ∀ x ∈ W.troops, ∀ w', Ext w_134 w' → Calls Try.prog 108 (([.agg #[.int .i64 x.id, .int .i64 x.owner, .int .i64 x.kind, .int .i64 x.spot.x, .int .i64 x.spot.y, .int .i64 x.life, .int .i64 x.load]] : List Value) ++ ([.pointer (some ⟨b_9, 0, none⟩), .pointer (some ⟨b_29, 0, none⟩), .pointer (some ⟨b_2, 0, none⟩)] : List Value)).toArray w' λ e w'' => e = .returned (.bool (vdel W p x)) ∧ Ext w' w'' := λ x hx w' h => by
    obtain ⟨n1, n2, n3, n4, n5, n6, n7⟩ := troop_idx hG hx
    exact vdel_any x a W p _ _ _ _ _ w' (V3.later h) (V6.later h) (V2.later h) (VA.keep h) n5 n6 n1 n2 (by omega)
   refine ca eF82 rfl rfl ((delF_T w_134 108 _ (vdel W p) _ _ _ _ (by first | exact Ext.rf _ | assumption) OC_158 eF81 hClo).mono ?_)
   rintro e w_166 ⟨rfl, OD_164, m_165⟩
   refine ⟨_, rfl, ?_⟩
   have := m_165.size
   have z_166 := Ext.mod z_161 m_165 (λ q hq => by have := (OC_158.lt q hq).1; omega)
   have OD_164 : Trp.rep.SOwn 80 56 w_166 w_134.heap.size (Rep.blkOf A_158) A_158 c_158 (vtroops W p) := OD_164
   refine vL (fa eF35 rfl) <| ?_
   have B_48 := B_48.later x_162
   have d_168 : ∀ q ∈ Rep.blkOf A_158, q = b_45 → False := λ q hq hb => by (have := lo_160 q hq; omega)
   have B_48 := B_48.mod m_165 (λ hq => d_168 _ hq rfl)
   refine st (new := [.int .i64 W.field.wide, .int .i64 W.field.high, .slice A_57 ((W.field.places).length) c_57, .slice A_66 ((W.bases).length) c_66, .slice (some ⟨b_91, 0, none⟩) W.stocks.length W.stocks.length, .slice A_114 ((W.mines).length) c_114, .slice A_158 ((vtroops W p).length) c_158, .int .i64 W.next, .int .i64 W.now]) rfl rfl B_48 rfl eF46 rfl rfl rfl λ w_169 m_170 B_48 => ?_
   have := m_170.size
   have z_169 := Ext.mod z_166 m_170 (ge1 (by omega))
   have := m_170.size
   refine nK <| sg <| vL (fa eF43 rfl) <| st (new := [.int .i64 W.field.wide, .int .i64 W.field.high, .slice A_57 ((W.field.places).length) c_57, .slice A_66 ((W.bases).length) c_66, .slice (some ⟨b_91, 0, none⟩) W.stocks.length W.stocks.length, .slice A_114 ((W.mines).length) c_114, .slice A_158 ((vtroops W p).length) c_158, .int .i64 1, .int .i64 W.now]) rfl rfl B_48 rfl eF11 rfl rfl rfl λ w_173 m_174 B_48 => ?_
   have := m_174.size
   have z_173 := Ext.mod z_169 m_174 (ge1 (by omega))
   have := m_174.size
   refine nK <| sq <| sg <| vL (fa eF35 rfl) <| vL (ld rfl (B_48.one eF36 rfl)) <| vL (ln Try.underlying56 rfl) <| va rfl <| nK <| sg <| vm rfl <| vL (bgt rfl rfl) <| nK <| ?_
   refine clt rfl (λ h_177 => ?_) (λ h_177 => ?_)
   ·obtain ⟨i1, i2⟩ := vtroops_id hG (p := p) (k := (((vtroops W p).length : Int) - 1).toNat) (by omega)
    refine rg <| vL (fa eF35 rfl) <| vL (ld rfl (B_48.one eF36 rfl)) <| vm rfl <| vL (bsu rfl rfl (inI (by omega))) <| ?_
    have OD_164 := OD_164.mod m_170 (λ q hq h => by have hb := List.mem_singleton.1 h; exfalso; (exact d_168 q hq hb))
    have OD_164 := OD_164.mod m_174 (λ q hq h => by have hb := List.mem_singleton.1 h; exfalso; (exact d_168 q hq hb))
    refine vL (iA ((((((vtroops W p).length : Nat) : Int)) - 1).toNat) Try.underlying56 eF0 rfl rfl (OD_164.has.adr (zl ((((((vtroops W p).length : Nat) : Int)) - 1).toNat) (by omega))) (by omega) (by omega)) <| vL (fa eF83 rfl) <| vL (ld rfl (Rep.SHas.fld hcT (OD_164.has.adh (zl ((((((vtroops W p).length : Nat) : Int)) - 1).toNat) (by omega))) 0 (get_d (l := vtroops W p) (u := default) (by omega)) rfl eF5)) <| vL (bad rfl rfl (inI (by omega))) <| vL (fa eF43 rfl) <| st (new := [.int .i64 W.field.wide, .int .i64 W.field.high, .slice A_57 ((W.field.places).length) c_57, .slice A_66 ((W.bases).length) c_66, .slice (some ⟨b_91, 0, none⟩) W.stocks.length W.stocks.length, .slice A_114 ((W.mines).length) c_114, .slice A_158 ((vtroops W p).length) c_158, .int .i64 ((((vtroops W p).getD ((((((vtroops W p).length : Nat) : Int)) - 1).toNat) default).id) + 1), .int .i64 W.now]) rfl rfl B_48 rfl eF11 rfl rfl rfl λ w_178 m_179 B_48 => ?_
    have := m_179.size
    have z_178 := Ext.mod z_173 m_179 (ge1 (by omega))
    have := m_179.size
    refine nK <| sg <| vL (ld rfl (B_48.all eF54 eF55)) <| ?_
    have B_19 := B_19.later x_162
    have d_182 : ∀ q ∈ Rep.blkOf A_158, q = b_16 → False := λ q hq hb => by (have := lo_160 q hq; omega)
    have B_19 := B_19.mod m_165 (λ hq => d_182 _ hq rfl)
    have B_19 := B_19.mod m_170 (nm1 (by omega))
    have B_19 := B_19.mod m_174 (nm1 (by omega))
    have B_19 := B_19.mod m_179 (nm1 (by omega))
    refine st (new := [.int .i64 W.field.wide, .int .i64 W.field.high, .slice A_57 ((W.field.places).length) c_57, .slice A_66 ((W.bases).length) c_66, .slice (some ⟨b_91, 0, none⟩) W.stocks.length W.stocks.length, .slice A_114 ((W.mines).length) c_114, .slice A_158 ((vtroops W p).length) c_158, .int .i64 ((((vtroops W p).getD ((((((vtroops W p).length : Nat) : Int)) - 1).toNat) default).id) + 1), .int .i64 W.now]) rfl rfl B_19 rfl eF55 rfl rfl rfl λ w_183 m_184 B_19 => ?_
    have := m_184.size
    have z_183 := Ext.mod z_178 m_184 (ge1 (by omega))
    have := m_184.size
    refine va rfl <| nK <| rt <| tR (.cell rfl (B_19.all eF54 eF55) (.tmp rfl .nil)) <| ?_
    have OC_57 := OC_57.later x_162
    have OC_57 := OC_57.mod m_165 (λ q hq h => by exfalso; (have := lo_160 q h; (have := u_147 q hq; have := u_58 q hq; omega)))
    have OC_57 := OC_57.mod m_170 (fk2 lo_59 (by omega))
    have OC_57 := OC_57.mod m_174 (fk2 lo_59 (by omega))
    have OC_57 := OC_57.mod m_179 (fk2 lo_59 (by omega))
    have OC_57 := OC_57.mod m_184 (fk2 lo_59 (by omega))
    have OC_66 := OC_66.later x_162
    have OC_66 := OC_66.mod m_165 (λ q hq h => by exfalso; (have := lo_160 q h; (have := u_148 q hq; have := u_67 q hq; omega)))
    have OC_66 := OC_66.mod m_170 (fk2 lo_68 (by omega))
    have OC_66 := OC_66.mod m_174 (fk2 lo_68 (by omega))
    have OC_66 := OC_66.mod m_179 (fk2 lo_68 (by omega))
    have OC_66 := OC_66.mod m_184 (fk2 lo_68 (by omega))
    have O_106 := O_106.later x_162
    have O_106 := O_106.mod m_165 (λ q hq h => by exfalso; (have := lo_160 q h; (have := u_149 q hq; have := u_96 q hq; omega)))
    have O_106 := O_106.mod m_170 (λ q hq h => by have hb := List.mem_singleton.1 h; exfalso; (exact d_120 q hq hb))
    have O_106 := O_106.mod m_174 (λ q hq h => by have hb := List.mem_singleton.1 h; exfalso; (exact d_120 q hq hb))
    have O_106 := O_106.mod m_179 (λ q hq h => by have hb := List.mem_singleton.1 h; exfalso; (exact d_120 q hq hb))
    have O_106 := O_106.mod m_184 (λ q hq h => by have hb := List.mem_singleton.1 h; exfalso; (exact d_136 q hq hb))
    have OM := OM.later x_162
    have OM := OM.mod m_165 (λ q hq h => by exfalso; (have := lo_160 q h; (have := u_150 q hq; omega)))
    have OM := OM.mod m_170 (λ q hq h => by have hb := List.mem_singleton.1 h; exfalso; (exact d_129 q hq hb))
    have OM := OM.mod m_174 (λ q hq h => by have hb := List.mem_singleton.1 h; exfalso; (exact d_129 q hq hb))
    have OM := OM.mod m_179 (λ q hq h => by have hb := List.mem_singleton.1 h; exfalso; (exact d_129 q hq hb))
    have OM := OM.mod m_184 (λ q hq h => by have hb := List.mem_singleton.1 h; exfalso; (exact d_127 q hq hb))
    have OD_164 := OD_164.mod m_179 (λ q hq h => by have hb := List.mem_singleton.1 h; exfalso; (exact d_168 q hq hb))
    have OD_164 := OD_164.mod m_184 (λ q hq h => by have hb := List.mem_singleton.1 h; exfalso; (exact d_182 q hq hb))
    have ek : k = W.mines.length := by omega
    subst ek
    have e1 := view_ok e0
    have en : vnext (vtroops W p) = (((vtroops W p).getD ((((((vtroops W p).length : Nat) : Int)) - 1).toNat) default).id) + 1 := vnext_some (by omega)
    refine ⟨⟨A_57, A_66, some ⟨b_91, 0, none⟩, A_114, A_158, c_57, c_66, W.stocks.length, c_114, c_158⟩, ?_, ?_, z_183⟩
    ·rw [e1, e0]; unfold Wd.cells; simp only [en, hideK_len, List.length_set, List.length_replicate, e0]; rfl
    ·rw [e1]; exact WOwn.of5 (OC_57.down (by omega)) (OC_66.down (by omega)) (O_106.down (by omega)) (OM.down (by omega)) (OD_164.down (by omega)) (λ q hq hb => by (have := lo_68 q hq; (have := u_147 q hb; have := u_58 q hb; omega))) (λ q hq hb => by (have := lo_97 q hq; (have := u_147 q hb; have := u_58 q hb; omega))) (λ q hq hb => by (have := lo_97 q hq; (have := u_148 q hb; have := u_67 q hb; omega))) (λ q hq hb => by (exact d_131 q hq hb)) (λ q hq hb => by (exact d_132 q hq hb)) (λ q hq hb => by (exact d_133 q hq hb)) (λ q hq hb => by (have := lo_160 q hq; (have := u_147 q hb; have := u_58 q hb; omega))) (λ q hq hb => by (have := lo_160 q hq; (have := u_148 q hb; have := u_67 q hb; omega))) (λ q hq hb => by (have := lo_160 q hq; (have := u_149 q hb; have := u_96 q hb; omega))) (λ q hq hb => by (have := lo_160 q hq; (have := u_150 q hb; omega))) ⟨hW.nums.1, hW.nums.2.1, by show okI (vnext _); rw [en]; exact okI_iff.2 (by omega), hW.nums.2.2.2⟩
   ·refine sK <| sg <| vL (ld rfl (B_48.all eF54 eF55)) <| ?_
    have B_19 := B_19.later x_162
    have d_187 : ∀ q ∈ Rep.blkOf A_158, q = b_16 → False := λ q hq hb => by (have := lo_160 q hq; omega)
    have B_19 := B_19.mod m_165 (λ hq => d_187 _ hq rfl)
    have B_19 := B_19.mod m_170 (nm1 (by omega))
    have B_19 := B_19.mod m_174 (nm1 (by omega))
    refine st (new := [.int .i64 W.field.wide, .int .i64 W.field.high, .slice A_57 ((W.field.places).length) c_57, .slice A_66 ((W.bases).length) c_66, .slice (some ⟨b_91, 0, none⟩) W.stocks.length W.stocks.length, .slice A_114 ((W.mines).length) c_114, .slice A_158 ((vtroops W p).length) c_158, .int .i64 1, .int .i64 W.now]) rfl rfl B_19 rfl eF55 rfl rfl rfl λ w_188 m_189 B_19 => ?_
    have := m_189.size
    have z_188 := Ext.mod z_173 m_189 (ge1 (by omega))
    have := m_189.size
    refine va rfl <| nK <| rt <| tR (.cell rfl (B_19.all eF54 eF55) (.tmp rfl .nil)) <| ?_
    have OC_57 := OC_57.later x_162
    have OC_57 := OC_57.mod m_165 (λ q hq h => by exfalso; (have := lo_160 q h; (have := u_147 q hq; have := u_58 q hq; omega)))
    have OC_57 := OC_57.mod m_170 (fk2 lo_59 (by omega))
    have OC_57 := OC_57.mod m_174 (fk2 lo_59 (by omega))
    have OC_57 := OC_57.mod m_189 (fk2 lo_59 (by omega))
    have OC_66 := OC_66.later x_162
    have OC_66 := OC_66.mod m_165 (λ q hq h => by exfalso; (have := lo_160 q h; (have := u_148 q hq; have := u_67 q hq; omega)))
    have OC_66 := OC_66.mod m_170 (fk2 lo_68 (by omega))
    have OC_66 := OC_66.mod m_174 (fk2 lo_68 (by omega))
    have OC_66 := OC_66.mod m_189 (fk2 lo_68 (by omega))
    have O_106 := O_106.later x_162
    have O_106 := O_106.mod m_165 (λ q hq h => by exfalso; (have := lo_160 q h; (have := u_149 q hq; have := u_96 q hq; omega)))
    have O_106 := O_106.mod m_170 (λ q hq h => by have hb := List.mem_singleton.1 h; exfalso; (exact d_120 q hq hb))
    have O_106 := O_106.mod m_174 (λ q hq h => by have hb := List.mem_singleton.1 h; exfalso; (exact d_120 q hq hb))
    have O_106 := O_106.mod m_189 (λ q hq h => by have hb := List.mem_singleton.1 h; exfalso; (exact d_136 q hq hb))
    have OM := OM.later x_162
    have OM := OM.mod m_165 (λ q hq h => by exfalso; (have := lo_160 q h; (have := u_150 q hq; omega)))
    have OM := OM.mod m_170 (λ q hq h => by have hb := List.mem_singleton.1 h; exfalso; (exact d_129 q hq hb))
    have OM := OM.mod m_174 (λ q hq h => by have hb := List.mem_singleton.1 h; exfalso; (exact d_129 q hq hb))
    have OM := OM.mod m_189 (λ q hq h => by have hb := List.mem_singleton.1 h; exfalso; (exact d_127 q hq hb))
    have OD_164 := OD_164.mod m_170 (λ q hq h => by have hb := List.mem_singleton.1 h; exfalso; (exact d_168 q hq hb))
    have OD_164 := OD_164.mod m_174 (λ q hq h => by have hb := List.mem_singleton.1 h; exfalso; (exact d_168 q hq hb))
    have OD_164 := OD_164.mod m_189 (fk2 lo_160 (by omega))
    have ek : k = W.mines.length := by omega
    subst ek
    have e1 := view_ok e0
    have en : vnext (vtroops W p) = 1 := vnext_none (by omega)
    refine ⟨⟨A_57, A_66, some ⟨b_91, 0, none⟩, A_114, A_158, c_57, c_66, W.stocks.length, c_114, c_158⟩, ?_, ?_, z_188⟩
    ·rw [e1, e0]; unfold Wd.cells; simp only [en, hideK_len, List.length_set, List.length_replicate, e0]; rfl
    ·rw [e1]; exact WOwn.of5 (OC_57.down (by omega)) (OC_66.down (by omega)) (O_106.down (by omega)) (OM.down (by omega)) (OD_164.down (by omega)) (λ q hq hb => by (have := lo_68 q hq; (have := u_147 q hb; have := u_58 q hb; omega))) (λ q hq hb => by (have := lo_97 q hq; (have := u_147 q hb; have := u_58 q hb; omega))) (λ q hq hb => by (have := lo_97 q hq; (have := u_148 q hb; have := u_67 q hb; omega))) (λ q hq hb => by (exact d_131 q hq hb)) (λ q hq hb => by (exact d_132 q hq hb)) (λ q hq hb => by (exact d_133 q hq hb)) (λ q hq hb => by (have := lo_160 q hq; (have := u_147 q hb; have := u_58 q hb; omega))) (λ q hq hb => by (have := lo_160 q hq; (have := u_148 q hb; have := u_67 q hb; omega))) (λ q hq hb => by (have := lo_160 q hq; (have := u_149 q hb; have := u_96 q hb; omega))) (λ q hq hb => by (have := lo_160 q hq; (have := u_150 q hb; omega))) ⟨hW.nums.1, hW.nums.2.1, by show okI (vnext _); rw [en]; exact okI_iff.2 (by omega), hW.nums.2.2.2⟩
end
section
open Go.RowKit
def Apart (s t : Trp) : Prop := s.id < t.id ∧ s.spot ≠ t.spot
theorem getD_of {α : Type} [Inhabited α] {l : List α} {i : Nat} {t : α} (h : l[i]? = some t) : l.getD i default = t := by rw [List.getD_eq_getElem?_getD, h]; rfl
theorem Good.ids_up {W : Wd} (hG : Good W) {i j : Nat} {s t : Trp} (hij : i < j) (hs : W.troops[i]? = some s) (ht : W.troops[j]? = some t) : s.id < t.id := by
 induction j generalizing t with
 | zero => omega
 | succ j ih =>
  have hj := (List.getElem?_eq_some_iff.1 ht).1
  obtain ⟨u, hu⟩ := get_of (l := W.troops) (i := j) (by omega)
  have h1 := (hG.ids (j + 1) t ht).1
  have h2 : W.lastId (j + 1) = u.id := by
   unfold Wd.lastId
   rw [if_neg (by omega), Nat.add_sub_cancel, getD_of hu]
  rcases Nat.lt_succ_iff_lt_or_eq.1 hij with h | rfl
  ·have := ih h hu; omega
  ·rw [hs] at hu; injection hu with hu; subst hu; omega
theorem Good.pw {W : Wd} (hG : Good W) : W.troops.Pairwise Apart := by
 rw [List.pairwise_iff_getElem]
 intro i j hi hj hij
 have hs := List.getElem?_eq_getElem hi
 have ht := List.getElem?_eq_getElem hj
 refine ⟨hG.ids_up hij hs ht, λ e => ?_⟩
 have h1 := hG.spots j _ ht
 rw [← e] at h1
 have : (W.spots j).contains (W.troops[i]).spot = true := by
  rw [List.contains_iff_mem]
  unfold Wd.spots
  exact List.mem_map.2 ⟨_, List.mem_iff_getElem?.2 ⟨i, by rw [List.getElem?_take, if_pos hij, hs]⟩, rfl⟩
 rw [this] at h1
 exact nomatch h1
theorem Good.each {W : Wd} (hG : Good W) {t : Trp} (ht : t ∈ W.troops) : 0 < t.id ∧ t.id < W.next ∧ TroopOk W.field W.bases.length t := by
 obtain ⟨i, hi⟩ := List.mem_iff_getElem?.1 ht
 have h1 := hG.ids i t hi
 exact ⟨by omega, h1.2.1, hG.troops i t hi⟩
theorem Good.of_pw {W V : Wd} (hG : Good W) (hf : V.field = W.field) (hb : V.bases = W.bases) (hs : V.stocks = W.stocks) (hm : V.mines = W.mines) (hn : V.next = W.next) (ho : 0 ≤ V.now ∧ V.now ≤ 1000000) (hl : V.troops.length ≤ 100) (hP : V.troops.Pairwise Apart)
  (hall : ∀ t ∈ V.troops, 0 < t.id ∧ t.id < V.next ∧ TroopOk V.field V.bases.length t) : Good V where
 field := by rw [hf]; exact hG.field
 nb := by rw [hb]; exact hG.nb
 nt := hl
 sl := by rw [hs, hb]; exact hG.sl
 bases := by rw [hb, hf]; exact hG.bases
 stocks := by rw [hs]; exact hG.stocks
 ml := by rw [hm, hf]; exact hG.ml
 mines := by rw [hm, hf]; exact hG.mines
 troops := λ i t ht => (hall t (List.mem_of_getElem? ht)).2.2
 ids := λ i t ht => by
  have h1 := hall t (List.mem_of_getElem? ht)
  unfold Wd.lastId
  split
  ·exact ⟨h1.1, h1.2.1, Int.le_refl _⟩
  ·rename_i h0
   have hi := (List.getElem?_eq_some_iff.1 ht).1
   obtain ⟨u, hu⟩ := get_of (l := V.troops) (i := i - 1) (by omega)
   rw [getD_of hu]
   have h2 := hall u (List.mem_of_getElem? hu)
   have h3 := (List.pairwise_iff_getElem.1 hP) (i - 1) i (by omega) hi (by omega)
   have e1 : V.troops[i - 1]'(by omega) = u := (List.getElem?_eq_some_iff.1 hu).2
   have e2 : V.troops[i] = t := (List.getElem?_eq_some_iff.1 ht).2
   rw [e1, e2] at h3
   exact ⟨h3.1, h1.2.1, by omega⟩
 spots := λ i t ht => by
  rw [Bool.eq_false_iff]
  intro hc
  rw [List.contains_iff_mem] at hc
  unfold Wd.spots at hc
  obtain ⟨s, hs1, hs2⟩ := List.mem_map.1 hc
  obtain ⟨j, hj⟩ := List.mem_iff_getElem?.1 hs1
  rw [List.getElem?_take] at hj
  split at hj
  ·rename_i hji
   have hi := (List.getElem?_eq_some_iff.1 ht).1
   have h3 := (List.pairwise_iff_getElem.1 hP) j i (by omega) hi hji
   have e1 : V.troops[j]'(by omega) = s := (List.getElem?_eq_some_iff.1 hj).2
   have e2 : V.troops[i] = t := (List.getElem?_eq_some_iff.1 ht).2
   rw [e1, e2] at h3
   exact h3.2 hs2
  ·exact nomatch hj
 next := by rw [hn]; exact hG.next
 now := ho
theorem find_id {l : List Trp} (hP : l.Pairwise Apart) {x : Trp} (hx : x ∈ l) : l.find? (λ t => t.id == x.id) = some x := by
 obtain ⟨i, hi, rfl⟩ := List.getElem_of_mem hx
 refine List.find?_eq_some_iff_getElem.2 ⟨by simp, i, hi, rfl, λ j hj => ?_⟩
 have := (List.pairwise_iff_getElem.1 hP) j i (by omega) hi hj
 have h2 : (l[j]'(by omega)).id ≠ (l[i]).id := by have := this.1; omega
 simpa using h2
theorem find_noid {l : List Trp} {x : Int} (h : ∀ t ∈ l, t.id ≠ x) : l.find? (λ t => t.id == x) = none := List.find?_eq_none.2 λ t ht => by simpa using h t ht
end
section
open Go.RowKit
theorem seen_all (W : Wd) (p : Int) : seenK W p W.troops.length = W.troops.foldl (look1 W p) (marks W.field (List.replicate W.field.places.length false) (seenL W.field (W.bases.getD p.toNat default) 3)) := by unfold seenK; rw [List.take_length]
def mhurt (t : Trp) (n : Int) : Trp := { t with life := max 1 (min n t.life) }
end
section
open Go.RowKit
theorem mistLives_any  (w : World) :
  Calls Try.prog 41 #[] w (λ e w' => e = .returned (.bool true) ∧ Ext w w') := by
 refine calls_W (n := 37) Try.func41 rfl rfl rfl ?_
 refine sg <| va rfl <| nK <| sg <| ca eF84 rfl rfl ((small_any _).mono ?_)
 rintro e w_4 ⟨a_1, rfl, HO_1, x_5⟩
 refine ⟨_, rfl, ?_⟩
 have := x_5.size
 have z_4 := eT (Ext.rf w) x_5
 have u_2 := λ q hq => (HO_1.lt q hq).2
 have lo_3 := λ q hq => (HO_1.lt q hq).1
 refine ca eF85 rfl rfl ((cells_any a_1 smallW 0 _ HO_1.has).mono ?_)
 rintro e w_10 ⟨A_7, c_7, rfl, OK_7, x_11⟩
 refine ⟨_, rfl, ?_⟩
 have := x_11.size
 have z_10 := eT z_4 x_11
 have u_8 := λ q hq => (OK_7.lt q hq).2
 have lo_9 := λ q hq => (OK_7.lt q hq).1
 refine vm rfl <| vL (ex rfl rfl) <| vL (ex rfl rfl) <| va rfl <| va rfl <| nK <| sg <| ca eF84 rfl rfl ((small_any _).mono ?_)
 rintro e w_16 ⟨a_13, rfl, HO_13, x_17⟩
 refine ⟨_, rfl, ?_⟩
 have := x_17.size
 have z_16 := eT z_10 x_17
 have u_14 := λ q hq => (HO_13.lt q hq).2
 have lo_15 := λ q hq => (HO_13.lt q hq).1
 refine ca eF86 rfl rfl ((view_any a_13 smallW 0 _ HO_13.has).mono ?_)
 rintro e w_22 ⟨a_19, rfl, HV_19, x_23⟩
 refine ⟨_, rfl, ?_⟩
 have := x_23.size
 have z_22 := eT z_16 x_23
 have u_20 := λ q hq => (HV_19.lt q hq).2
 have lo_21 := λ q hq => (HV_19.lt q hq).1
 refine vm rfl <| vL (ex rfl rfl) <| vL (ex rfl rfl) <| al rfl eF53 rfl rfl λ w_25 b_26 x_27 l_28 B_29 => ?_
 have := x_27.size
 have z_25 := eT z_22 x_27
 have q_31 := B_29.lt
 refine st rfl rfl B_29 rfl eF55 rfl rfl rfl λ w_32 m_33 B_29 => ?_
 have := m_33.size
 have z_32 := Ext.mod z_25 m_33 (ge1 (by omega))
 have := m_33.size
 refine va rfl <| nK <| sg <| vm rfl <| vL (beq rfl rfl) <| vm rfl <| vQ rfl rfl rfl rfl (λ hc => mv rfl) rfl <| vQ rfl rfl rfl rfl (λ hc => beq (gt hc rfl) rfl) rfl <| vL (pA rfl rfl rfl rfl) <| vm rfl <| vQ rfl rfl rfl rfl (λ hc => mv rfl) rfl <| vQ rfl rfl rfl rfl (λ hc => ln Try.underlying55 (gt hc rfl)) rfl <| vQ rfl rfl rfl rfl (λ hc => beq (gt hc rfl) rfl) rfl <| vL (pA rfl rfl rfl rfl) <| vm rfl <| vQ rfl rfl rfl rfl (λ hc => fa eF35 rfl) rfl <| vQ rfl rfl rfl rfl (λ hc => ld (gt hc rfl) (B_29.one eF36 rfl)) rfl <| vQ rfl rfl rfl rfl (λ hc => ln Try.underlying56 (gt hc rfl)) rfl <| vQ rfl rfl rfl rfl (λ hc => beq (gt hc rfl) rfl) rfl <| vL (pA rfl rfl rfl rfl) <| vm rfl <| vQ rfl rfl rfl rfl (λ hc => fa eF43 rfl) rfl <| ?_
 refine vQ rfl rfl rfl rfl (λ hc => ld (gt hc rfl) (B_29.one eF5 rfl)) rfl <| vQ rfl rfl rfl rfl (λ hc => beq (gt hc rfl) rfl) rfl <| vL (pA rfl rfl rfl rfl) <| va rfl <| nK <| rt <| tR (.tmp rfl .nil) <| ?_
 exact ⟨ret_true (by decide +kernel), z_32⟩
end
section
open Go.RowKit
namespace Hp
section
variable {α : Type} [Inhabited α] {key : α → Int} {l : List α} {i j n k : Nat} {x : α}
def swp (l : List α) (i j : Nat) : List α := (l.set i (l.getD j default)).set j (l.getD i default)
theorem swp_len : (swp l i j).length = l.length := by unfold swp; rw [List.length_set, List.length_set]
theorem getD_set {i k : Nat} (hi : i < l.length) : (l.set i x).getD k default = if k = i then x else l.getD k default := by
 rw [List.getD_eq_getElem?_getD, List.getD_eq_getElem?_getD, List.getElem?_set]
 by_cases e : i = k
 ·subst e; rw [if_pos rfl, if_pos rfl]; simp [hi]
 ·rw [if_neg e, if_neg (λ h => e h.symm)]
theorem swp_get (hi : i < l.length) (hj : j < l.length) : (swp l i j).getD k default = if k = j then l.getD i default else if k = i then l.getD j default else l.getD k default := by
 unfold swp
 rw [getD_set (by rw [List.length_set]; exact hj), getD_set hi]
theorem swp_perm (hi : i < l.length) (hj : j < l.length) : (swp l i j).Perm l := by
 have h := Array.swap_perm (xs := l.toArray) (i := i) (j := j) (by simpa using hi) (by simpa using hj)
 have h := h.toList
 have e : (l.toArray.swap i j (by simpa using hi) (by simpa using hj)).toList = swp l i j := by
  unfold swp
  rw [List.getD_eq_getElem?_getD, List.getD_eq_getElem?_getD, List.getElem?_eq_getElem hi, List.getElem?_eq_getElem hj]
  simp [Array.swap]
 rw [e] at h
 simpa using h
def upF (key : α → Int) (l : List α) (j : Nat) : List α :=
 if 0 < j ∧ key (l.getD j default) < key (l.getD ((j - 1) / 2) default) then upF key (swp l ((j - 1) / 2) j) ((j - 1) / 2) else l
termination_by j
decreasing_by omega
def lowC (key : α → Int) (n : Nat) (l : List α) (i : Nat) : Nat := if 2 * i + 2 < n ∧ key (l.getD (2 * i + 2) default) < key (l.getD (2 * i + 1) default) then 2 * i + 2 else 2 * i + 1
theorem lowC_gt : i < lowC key n l i := by unfold lowC; split <;> omega
theorem lowC_lt (h : 2 * i + 1 < n) : lowC key n l i < n := by unfold lowC; split <;> omega
theorem lowC_par : (lowC key n l i - 1) / 2 = i := by unfold lowC; split <;> omega
theorem lowC_min (hk : 0 < k) (hn : k < n) (hp : (k - 1) / 2 = i) : key (l.getD (lowC key n l i) default) ≤ key (l.getD k default) := by
 have : k = 2 * i + 1 ∨ k = 2 * i + 2 := by omega
 unfold lowC
 split
 ·rename_i h
  rcases this with rfl | rfl
  ·omega
  ·exact Int.le_refl _
 ·rename_i h
  rcases this with rfl | rfl
  ·exact Int.le_refl _
  ·have : ¬ key (l.getD (2 * i + 2) default) < key (l.getD (2 * i + 1) default) := λ hh => h ⟨hn, hh⟩
   omega
def downF (key : α → Int) (n : Nat) (l : List α) (i : Nat) : List α :=
 if 2 * i + 1 < n ∧ key (l.getD (lowC key n l i) default) < key (l.getD i default) then downF key n (swp l i (lowC key n l i)) (lowC key n l i) else l
termination_by n - i
decreasing_by rename_i h; have := lowC_gt (key := key) (n := n) (l := l) (i := i); omega
theorem upF_len : ∀ (j : Nat) (l : List α), (upF key l j).length = l.length := by
 intro j
 induction j using Nat.strongRecOn with
 | ind j ih =>
  intro l
  unfold upF
  split
  ·rw [ih _ (by omega), swp_len]
  ·rfl
theorem upF_perm : ∀ (j : Nat) (l : List α), j < l.length → (upF key l j).Perm l := by
 intro j
 induction j using Nat.strongRecOn with
 | ind j ih =>
  intro l hl
  unfold upF
  split
  ·exact (ih _ (by omega) _ (by rw [swp_len]; omega)).trans (swp_perm (by omega) hl)
  ·exact List.Perm.refl _
theorem downF_len (n : Nat) : ∀ (m i : Nat) (l : List α), n - i ≤ m → (downF key n l i).length = l.length := by
 intro m
 induction m with
 | zero => intro i l h; unfold downF; rw [if_neg (by omega)]
 | succ m ih =>
  intro i l h
  unfold downF
  split
  ·have := lowC_gt (key := key) (n := n) (l := l) (i := i)
   rw [ih _ _ (by omega), swp_len]
  ·rfl
theorem downF_perm (n : Nat) : ∀ (m i : Nat) (l : List α), n - i ≤ m → n ≤ l.length → i < l.length → (downF key n l i).Perm l := by
 intro m
 induction m with
 | zero => intro i l h _ _; unfold downF; rw [if_neg (by omega)]
 | succ m ih =>
  intro i l h hn hi
  unfold downF
  split
  ·rename_i hc
   have := lowC_gt (key := key) (n := n) (l := l) (i := i)
   have := lowC_lt (key := key) (l := l) hc.1
   exact (ih _ _ (by omega) (by rw [swp_len]; exact hn) (by rw [swp_len]; omega)).trans (swp_perm hi (by omega))
  ·exact List.Perm.refl _
theorem downF_out (n : Nat) : ∀ (m i : Nat) (l : List α), n - i ≤ m → n ≤ l.length → i < l.length → ∀ k, n ≤ k → i < n → (downF key n l i).getD k default = l.getD k default := by
 intro m
 induction m with
 | zero => intro i l h _ _ k _ _; unfold downF; rw [if_neg (by omega)]
 | succ m ih =>
  intro i l h hn hi k hk hin
  unfold downF
  split
  ·rename_i hc
   have h1 := lowC_gt (key := key) (n := n) (l := l) (i := i)
   have h2 := lowC_lt (key := key) (l := l) hc.1
   rw [ih _ _ (by omega) (by rw [swp_len]; exact hn) (by rw [swp_len]; omega) k hk h2, swp_get hi (by omega), if_neg (by omega), if_neg (by omega)]
  ·rfl
def Heap (key : α → Int) (n : Nat) (l : List α) : Prop := ∀ i, 0 < i → i < n → key (l.getD ((i - 1) / 2) default) ≤ key (l.getD i default)
theorem upF_heap (n : Nat) : ∀ (j : Nat) (l : List α), j < n → n ≤ l.length → (∀ i, 0 < i → i < n → i ≠ j → key (l.getD ((i - 1) / 2) default) ≤ key (l.getD i default)) →
  (∀ i, 0 < i → i < n → (i - 1) / 2 = j → 0 < j → key (l.getD ((j - 1) / 2) default) ≤ key (l.getD i default)) → Heap key n (upF key l j) := by
 intro j
 induction j using Nat.strongRecOn with
 | ind j ih =>
  intro l hj hn h1 h2
  unfold upF
  split
  ·rename_i hc
   obtain ⟨h0, hlt⟩ := hc
   have hg : ∀ k, (swp l ((j - 1) / 2) j).getD k default = if k = j then l.getD ((j - 1) / 2) default else if k = (j - 1) / 2 then l.getD j default else l.getD k default := λ k => swp_get (by omega) (by omega)
   refine ih _ (by omega) _ (by omega) (by rw [swp_len]; exact hn) (λ i hi0 hin hne => ?_) (λ i hi0 hin hp h0p => ?_)
   ·rw [hg, hg]
    by_cases e : i = j
    ·subst e
     rw [if_pos rfl, if_neg (by omega), if_pos rfl]; omega
    ·rw [if_neg e, if_neg hne]
     by_cases e2 : (i - 1) / 2 = j
     ·rw [if_pos e2]; exact h2 i hi0 hin e2 h0
     ·rw [if_neg e2]
      by_cases e3 : (i - 1) / 2 = (j - 1) / 2
      ·rw [if_pos e3]
       have := h1 i hi0 hin e
       rw [e3] at this; omega
      ·rw [if_neg e3]; exact h1 i hi0 hin e
   ·rw [hg, hg]
    rw [if_neg (by omega), if_neg (by omega)]
    have hpp := h1 ((j - 1) / 2) h0p (by omega) (by omega)
    by_cases e : i = j
    ·rw [if_pos e]; exact hpp
    ·rw [if_neg e, if_neg (by omega)]
     have := h1 i hi0 hin e
     rw [hp] at this; omega
  ·rename_i hc
   intro i hi0 hin
   by_cases e : i = j
   ·subst e
    have : ¬ key (l.getD i default) < key (l.getD ((i - 1) / 2) default) := λ h => hc ⟨hi0, h⟩
    omega
   ·exact h1 i hi0 hin e
theorem downF_heap (n : Nat) : ∀ (m i0 : Nat) (l : List α), n - i0 ≤ m → i0 < l.length → n ≤ l.length → (∀ i, 0 < i → i < n → (i - 1) / 2 ≠ i0 → key (l.getD ((i - 1) / 2) default) ≤ key (l.getD i default)) →
  (∀ i, 0 < i → i < n → (i - 1) / 2 = i0 → 0 < i0 → key (l.getD ((i0 - 1) / 2) default) ≤ key (l.getD i default)) → Heap key n (downF key n l i0) := by
 intro m
 induction m with
 | zero =>
  intro i0 l h _ _ h1 _
  unfold downF
  rw [if_neg (by omega)]
  intro i hi0 hin
  exact h1 i hi0 hin (by omega)
 | succ m ih =>
  intro i0 l h hil hn h1 h2
  unfold downF
  split
  ·rename_i hc
   obtain ⟨hcn, hlt⟩ := hc
   have g1 := lowC_gt (key := key) (n := n) (l := l) (i := i0)
   have g2 := lowC_lt (key := key) (l := l) hcn
   have g3 := lowC_par (key := key) (n := n) (l := l) (i := i0)
   have g4 := λ k hk hn hp => lowC_min (key := key) (n := n) (l := l) (i := i0) (k := k) hk hn hp
   generalize hj : lowC key n l i0 = j at *
   have hg : ∀ k, (swp l i0 j).getD k default = if k = j then l.getD i0 default else if k = i0 then l.getD j default else l.getD k default := λ k => swp_get hil (by omega)
   refine ih _ _ (by omega) (by rw [swp_len]; omega) (by rw [swp_len]; exact hn) (λ i hi0 hin hne => ?_) (λ i hi0 hin hp h0p => ?_)
   ·rw [hg, hg]
    rw [if_neg hne]
    by_cases e : (i - 1) / 2 = i0
    ·rw [if_pos e]
     by_cases e2 : i = j
     ·rw [if_pos e2]; omega
     ·rw [if_neg e2, if_neg (by omega)]; exact g4 i hi0 hin e
    ·rw [if_neg e]
     by_cases e2 : i = j
     ·omega
     ·rw [if_neg e2]
      by_cases e3 : i = i0
      ·rw [if_pos e3]
       have := h2 j (by omega) g2 g3 (by omega)
       rw [e3]; exact this
      ·rw [if_neg e3]; exact h1 i hi0 hin e
   ·rw [hg, hg, g3]
    rw [if_neg (by omega), if_pos rfl, if_neg (by omega), if_neg (by omega)]
    have := h1 i hi0 hin (by omega)
    rw [hp] at this; exact this
  ·rename_i hc
   intro i hi0 hin
   by_cases e : (i - 1) / 2 = i0
   ·have hcn : 2 * i0 + 1 < n := by omega
    have : ¬ key (l.getD (lowC key n l i0) default) < key (l.getD i0 default) := λ h => hc ⟨hcn, h⟩
    have := lowC_min (key := key) (n := n) (l := l) hi0 hin e
    rw [e]; omega
   ·exact h1 i hi0 hin e
theorem Heap.min (h : Heap key n l) : ∀ i, i < n → key (l.getD 0 default) ≤ key (l.getD i default) := by
 intro i
 induction i using Nat.strongRecOn with
 | ind i ih =>
  intro hi
  by_cases h0 : 0 < i
  ·exact Int.le_trans (ih ((i - 1) / 2) (by omega) (by omega)) (h i h0 hi)
  ·have : i = 0 := by omega
   subst this; exact Int.le_refl _
def push (key : α → Int) (l : List α) (x : α) : List α := upF key (l ++ [x]) l.length
theorem push_len : (push key l x).length = l.length + 1 := by unfold push; rw [upF_len, List.length_append]; rfl
theorem push_perm : (push key l x).Perm (x :: l) := (upF_perm _ _ (by rw [List.length_append]; simp)).trans (List.perm_append_singleton x l)
theorem app_get (h : k < l.length) : (l ++ [x]).getD k default = l.getD k default := by
 rw [List.getD_eq_getElem?_getD, List.getD_eq_getElem?_getD, List.getElem?_append_left h]
theorem push_heap (h : Heap key l.length l) : Heap key (push key l x).length (push key l x) := by
 rw [push_len]
 refine upF_heap _ _ _ (by omega) (by simp) (λ i hi0 hin hne => ?_) (λ i hi0 hin hp h0 => by omega)
 rw [app_get (by omega), app_get (by omega)]
 exact h i hi0 (by omega)
def popD (key : α → Int) (l : List α) : List α := downF key (l.length - 1) (swp l 0 (l.length - 1)) 0
def popL (key : α → Int) (l : List α) : List α := (popD key l).take (l.length - 1)
theorem popD_len : (popD key l).length = l.length := by unfold popD; rw [downF_len _ _ _ _ (Nat.le_refl _), swp_len]
theorem popL_len : (popL key l).length = l.length - 1 := by unfold popL; rw [List.length_take, popD_len]; omega
theorem popD_last (h0 : 0 < l.length) : (popD key l).getD (l.length - 1) default = l.getD 0 default := by
 unfold popD
 by_cases h1 : l.length - 1 = 0
 ·unfold downF
  rw [if_neg (by omega), swp_get h0 (by omega), if_pos rfl]
 ·rw [downF_out _ _ _ _ (Nat.le_refl _) (by rw [swp_len]; omega) (by rw [swp_len]; omega) _ (Nat.le_refl _) (by omega), swp_get h0 (by omega), if_pos rfl]
theorem popL_perm (h0 : 0 < l.length) : (l.getD 0 default :: popL key l).Perm l := by
 have h1 : (popD key l).Perm l := by
  unfold popD
  exact (downF_perm _ _ _ _ (Nat.le_refl _) (by rw [swp_len]; omega) (by rw [swp_len]; exact h0)).trans (swp_perm h0 (by omega))
 have h2 : popL key l ++ [l.getD 0 default] = popD key l := by
  have e := popD_last (key := key) h0
  have hl := popD_len (key := key) (l := l)
  unfold popL
  rw [← e, List.getD_eq_getElem?_getD, List.getElem?_eq_getElem (by omega), Option.getD_some]
  rw [← List.take_succ_eq_append_getElem (by omega)]
  exact List.take_of_length_le (by omega)
 exact ((List.perm_append_singleton _ _).symm.trans (by rw [h2])).trans h1
theorem popL_heap (h : Heap key l.length l) (h0 : 0 < l.length) : Heap key (popL key l).length (popL key l) := by
 rw [popL_len]
 have hd : Heap key (l.length - 1) (popD key l) := by
  unfold popD
  refine downF_heap _ _ _ _ (Nat.le_refl _) (by rw [swp_len]; exact h0) (by rw [swp_len]; omega) (λ i hi0 hin hne => ?_) (λ i _ _ _ h0 => absurd h0 (by omega))
  rw [swp_get h0 (by omega), swp_get h0 (by omega), if_neg (by omega), if_neg hne, if_neg (by omega), if_neg (by omega)]
  exact h i hi0 (by omega)
 intro i hi0 hin
 have ht : ∀ k, k < l.length - 1 → (popL key l).getD k default = (popD key l).getD k default := λ k hk => by
  unfold popL
  rw [List.getD_eq_getElem?_getD, List.getD_eq_getElem?_getD, List.getElem?_take, if_pos hk]
 rw [ht _ (by omega), ht _ hin]
 exact hd i hi0 hin
theorem Heap.least (h : Heap key l.length l) : ∀ y ∈ l, key (l.getD 0 default) ≤ key y := by
 intro y hy
 obtain ⟨i, hi, rfl⟩ := List.mem_iff_getElem.1 hy
 have := h.min i hi
 rwa [show l.getD i default = l[i] by rw [List.getD_eq_getElem?_getD, List.getElem?_eq_getElem hi]; rfl] at this
end
end Hp
end
end Go.Proofs.Ytccankldeogdlaa
