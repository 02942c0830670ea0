import Derived.Test.YtffjpfpbpnhmcaaHpL
import Derived.Test.YtffjpfpbpnhmcaaLawA
import Derived.Test.YtffjpfpbpnhmcaaCrt
import Derived.Test.YtffjpfpbpnhmcaaWld
import Derived.Test.YtffjpfpbpnhmcaaWOwn2
import Derived.Test.YtffjpfpbpnhmcaaGol
import Derived.Test.YtffjpfpbpnhmcaaHitS
import Derived.Test.YtffjpfpbpnhmcaaAsp
set_option linter.unusedVariables false
set_option linter.unusedSimpArgs false
namespace Go.Proofs.Ytffjpfpbpnhmcaa
open Go.RowKit

/-- No more things than there are places for them. -/
theorem nodup_le : ∀ (n : Nat) (l : List Nat), l.Nodup → (∀ x ∈ l, x < n) → l.length ≤ n := by
  intro n
  induction n with
  | zero =>
    intro l _ h
    cases l with
    | nil => exact Nat.le_refl _
    | cons x r => exact absurd (h x List.mem_cons_self) (by omega)
  | succ n ih =>
    intro l hn h
    by_cases hm : n ∈ l
    · have h1 := ih (l.erase n) (hn.erase _) (fun x hx => by
        have := h x (List.mem_of_mem_erase hx)
        have hne : x ≠ n := fun e => by subst e; exact (List.Nodup.not_mem_erase hn) hx
        omega)
      rw [List.length_erase_of_mem hm] at h1
      omega
    · have := ih l hn (fun x hx => by
        have := h x hx
        have hne : x ≠ n := fun e => hm (by rw [← e]; exact hx)
        omega)
      omega
section
variable {f : Fld} {a b c x y : Cel} {d D : Int} {far : List Int} {fr : Cel → Int}
theorem cells_le (hf : f.chk = 0) {l : List Cel} (hn : l.Nodup) (hi : ∀ x ∈ l, f.isIn x = true) : l.length ≤ f.places.length := by
  have h1 : (l.map f.at_).Nodup := by
    have : ∀ l : List Cel, l.Nodup → (∀ x ∈ l, f.isIn x = true) → (l.map f.at_).Nodup := by
      intro l
      induction l with
      | nil => intro _ _; exact List.nodup_nil
      | cons x r ih =>
        intro hn hi
        rw [List.nodup_cons] at hn
        rw [List.map_cons, List.nodup_cons]
        refine ⟨fun hm => ?_, ih hn.2 fun y hy => hi y (List.mem_cons_of_mem _ hy)⟩
        obtain ⟨y, hy, e⟩ := List.mem_map.1 hm
        have := Fld.at_inj hf (hi y (List.mem_cons_of_mem _ hy)) (hi x List.mem_cons_self) e
        subst this; exact hn.1 hy
    exact this l hn hi
  have := nodup_le f.places.length _ h1 (fun i hm => by
    obtain ⟨y, hy, rfl⟩ := List.mem_map.1 hm
    exact (Fld.at_lt hf (hi y hy)).1)
  rwa [List.length_map] at this
abbrev RchF (f : Fld) (a : Cel) : Cel → Int → Prop := Gra.Rch f.adj f.kost (fun s => s = a)
abbrev DstF (f : Fld) (a : Cel) : Cel → Int → Prop := Gra.IsD f.adj f.kost (fun s => s = a)
theorem RchF.nn (r : RchF f a x d) : 0 ≤ d := Gra.Rch.nn (Fld.okZ f) r
theorem RchF.ground (ha : f.ground a = true) (r : RchF f a x d) : f.ground x = true := by
  induction r with
  | start hs => rw [hs]; exact ha
  | step _ hy _ => exact (Fld.mem_adj.1 hy).2
theorem RchF.tr (r : RchF f a x d) {e : Int} (q : RchF f x y e) : RchF f a y (d + e) := by
  induction q with
  | start hs => rw [hs, Int.add_zero]; exact r
  | step _ hy ih => rw [← Int.add_assoc]; exact .step ih hy
theorem DstF.pred (h : DstF f a x d) : (x = a ∧ d = 0) ∨ ∃ p e, DstF f a p e ∧ x ∈ f.adj p ∧ d = e + f.kost x := by
  obtain ⟨r, hm⟩ := h
  cases r with
  | start hs => exact .inl ⟨hs, rfl⟩
  | @step p _ e hp hy =>
    obtain ⟨e', he⟩ := Gra.Rch.isD (Fld.okZ f) hp
    have h1 := he.2 _ hp
    have h2 := hm _ (.step he.1 hy)
    have : e = e' := by omega
    subst this
    exact .inr ⟨p, e, he, hy, rfl⟩
/-- A cell at a distance: a chain of cells towards it, none twice. -/
theorem DstF.chain (hf : f.chk = 0) (ha : f.ground a = true) : ∀ (n : Nat) (x : Cel) (d : Int), DstF f a x d → d.toNat = n → ∃ l : List Cel, l.Nodup ∧ (∀ y ∈ l, f.isIn y = true ∧ ∃ e, DstF f a y e ∧ e ≤ d) ∧ d + 3 ≤ 3 * (l.length : Int) := by
  intro n
  induction n using Nat.strongRecOn with
  | ind n ih =>
    intro x d h hn
    have hx := Fld.ground_in (RchF.ground ha h.1)
    rcases h.pred with ⟨h1, h2⟩ | ⟨p, e, h1, h2, h3⟩
    · refine ⟨[x], by simp, fun y hy => ?_, by rw [h2]; simp⟩
      rw [List.mem_singleton.1 hy]; exact ⟨hx, d, h, Int.le_refl _⟩
    · have hk := f.kost_bd (c := x)
      have he := RchF.nn h1.1
      obtain ⟨l, l1, l2, l3⟩ := ih e.toNat (by omega) p e h1 rfl
      refine ⟨x :: l, List.nodup_cons.2 ⟨fun hm => ?_, l1⟩, fun y hy => ?_, by rw [List.length_cons]; omega⟩
      · obtain ⟨_, e', h4, h5⟩ := l2 x hm
        have := h4.uniq h; omega
      · rcases List.mem_cons.1 hy with rfl | hy
        · exact ⟨hx, d, h, Int.le_refl _⟩
        · obtain ⟨h4, e', h5, h6⟩ := l2 y hy
          exact ⟨h4, e', h5, by omega⟩
theorem DstF.bd (hf : f.chk = 0) (ha : f.ground a = true) (h : DstF f a x d) : d + 3 ≤ 3 * (f.places.length : Int) := by
  obtain ⟨l, l1, l2, l3⟩ := h.chain hf ha _ x d rfl
  have := cells_le hf l1 fun y hy => (l2 y hy).1
  omega
/-- The cell of a place. -/
def cellAt (f : Fld) (i : Nat) : Cel := ⟨(i : Int) % f.wide, (i : Int) / f.wide⟩
theorem cellAt_at (hf : f.chk = 0) (hc : f.isIn c = true) : cellAt f (f.at_ c) = c := by
  obtain ⟨_, _, a2, a3, a4, a5⟩ := Fld.idx hf hc
  have h := (Fld.at_lt hf hc).2
  unfold cellAt
  rw [h]
  have e1 : (c.y * f.wide + c.x) % f.wide = c.x := by rw [Int.add_comm, Int.add_mul_emod_self_right, Int.emod_eq_of_lt a2 a3]
  have e2 : (c.y * f.wide + c.x) / f.wide = c.y := by rw [Int.add_comm, Int.add_mul_ediv_right _ _ (by omega), Int.ediv_eq_zero_of_lt a2 a3, Int.zero_add]
  rw [e1, e2]
theorem fr_mk (hf : f.chk = 0) {g : Cel → Int} (hg : ∀ c, f.isIn c = false → g c = -1) : f.fr ((List.range f.places.length).map fun i => g (cellAt f i)) c = g c := by
  cases hc : f.isIn c with
  | false => rw [Fld.fr_out hc, hg c hc]
  | true =>
    rw [Fld.fr_in hc, List.getD_eq_getElem?_getD, List.getElem?_map, List.getElem?_range (Fld.at_lt hf hc).1]
    show g (cellAt f (f.at_ c)) = g c
    rw [cellAt_at hf hc]
/-- There is a table of the search, whatever the cells. -/
theorem pend_ex (hf : f.chk = 0) (ha : f.ground a = true) (b : Cel) : ∃ far, PEnd f a b far := by
  let Q : Cel → Int → Prop := fun c d => DstF f a c d ∧ ∀ D, DstF f a b D → d + Fld.est b c ≤ D
  let g : Cel → Int := fun c => @dite _ (∃ d, Q c d) (Classical.propDecidable _) (fun h => h.choose) fun _ => -1
  have gp : ∀ c d, Q c d → g c = d := fun c d h => by
    have hex : ∃ d, Q c d := ⟨d, h⟩
    show @dite _ (∃ d, Q c d) (Classical.propDecidable _) (fun h => h.choose) (fun _ => -1) = d
    rw [dif_pos hex]
    exact hex.choose_spec.1.uniq h.1
  have gn : ∀ c, (¬ ∃ d, Q c d) → g c = -1 := fun c h => by
    show @dite _ (∃ d, Q c d) (Classical.propDecidable _) (fun h => h.choose) (fun _ => -1) = -1
    rw [dif_neg h]
  have gi : ∀ c, 0 ≤ g c → Q c (g c) := fun c h => by
    by_cases hex : ∃ d, Q c d
    · obtain ⟨d, hd⟩ := hex
      rw [gp c d hd]; exact hd
    · rw [gn c hex] at h; omega
  have go : ∀ c, f.isIn c = false → g c = -1 := fun c hc => gn c fun ⟨d, hd⟩ => by
    have := Fld.ground_in (RchF.ground ha hd.1.1); rw [hc] at this; cases this
  have hfr : ∀ c, f.fr ((List.range f.places.length).map fun i => g (cellAt f i)) c = g c := fun c => fr_mk hf go
  refine ⟨(List.range f.places.length).map fun i => g (cellAt f i), by rw [List.length_map, List.length_range], ⟨fun c h => ?_, fun c h => ?_, fun c d hd hle => ?_, fun c h => ?_⟩, fun c => ?_, fun c h => ?_⟩
  · rw [hfr c] at h ⊢
    by_cases hex : ∃ d, Q c d
    · obtain ⟨d, hd⟩ := hex
      rw [gp c d hd] at h
      have := RchF.nn hd.1.1; omega
    · exact gn c hex
  · rw [hfr c] at h ⊢; exact gi c h
  · rw [hfr c]; exact gp c d ⟨hd, hle⟩
  · rw [hfr c] at h ⊢
    have hq := gi c h
    rcases hq.1.pred with h1 | ⟨p, e, h1, h2, h3⟩
    · exact .inl h1
    · right
      have he := Fld.est_step b (Fld.mem_adj.1 h2).1
      have hk := f.kost_bd (c := c)
      have hp : g p = e := gp p e ⟨h1, fun D hD => by have := hq.2 D hD; omega⟩
      exact ⟨p, by rw [hfr p, hp]; exact RchF.nn h1.1, h2, by rw [hfr p, hp]; exact h3⟩
  · rw [hfr c]
    by_cases h : 0 ≤ g c
    · have := (gi c h).1.bd hf ha; omega
    · omega
  · rw [hfr c] at h; exact RchF.ground ha (gi c h).1.1
theorem frF_spec (hf : f.chk = 0) (ha : f.ground a = true) : Gra.Spec f.adj f.kost (Fld.est b) (fun s => s = a) b (frF f a b) := by
  obtain ⟨far, h⟩ := pend_ex hf ha b
  rw [← h.frE]; exact h.spec
theorem frF_dst (hf : f.chk = 0) (ha : f.ground a = true) (h : 0 ≤ frF f a b c) : DstF f a c (frF f a b c) := ((frF_spec hf ha).dist c h).1
theorem frF_end (hf : f.chk = 0) (ha : f.ground a = true) (h : DstF f a b d) : frF f a b b = d := (frF_spec hf ha).end_ (Fld.est_self b) h
theorem frF_rch (hf : f.chk = 0) (ha : f.ground a = true) (h : RchF f a b d) : 0 ≤ frF f a b b ∧ frF f a b b ≤ d := by
  obtain ⟨e, he⟩ := Gra.Rch.isD (Fld.okZ f) h
  rw [frF_end hf ha he]; exact ⟨RchF.nn he.1, he.2 _ h⟩
theorem frF_frs (hf : f.chk = 0) (ha : f.ground a = true) (h : 0 ≤ frF f a b b) : Frs f a (frF f a b) := by
  obtain ⟨far, hp⟩ := pend_ex hf ha b
  exact Frs.ofF hp h
/-- Along the way back all is nearer. -/
theorem wayB_in (h : Frs f a fr) : ∀ (n : Nat) (c : Cel), 0 ≤ fr c → (fr c).toNat = n → ∀ x ∈ wayB f fr a c, 0 ≤ fr x ∧ fr x ≤ fr c ∧ f.ground x = true := by
  intro n
  induction n using Nat.strongRecOn with
  | ind n ih =>
    intro c hc hn x hx
    by_cases e : c = a
    · subst e
      rw [wayB_self h] at hx
      rw [List.mem_singleton.1 hx]; exact ⟨hc, Int.le_refl _, h.gr _ hc⟩
    · obtain ⟨p1, p2, p3, p4⟩ := h.prev hc e
      have hk := f.kost_bd (c := c)
      rw [wayB_step h hc e] at hx
      rcases List.mem_cons.1 hx with rfl | hx
      · exact ⟨hc, Int.le_refl _, h.gr _ hc⟩
      · obtain ⟨q1, q2, q3⟩ := ih _ (by omega) _ p3 rfl x hx
        exact ⟨q1, by omega, q3⟩
theorem wayB_nodup (h : Frs f a fr) : ∀ (n : Nat) (c : Cel), 0 ≤ fr c → (fr c).toNat = n → (wayB f fr a c).Nodup := by
  intro n
  induction n using Nat.strongRecOn with
  | ind n ih =>
    intro c hc hn
    by_cases e : c = a
    · subst e; rw [wayB_self h]; simp
    · obtain ⟨p1, p2, p3, p4⟩ := h.prev hc e
      have hk := f.kost_bd (c := c)
      rw [wayB_step h hc e, List.nodup_cons]
      refine ⟨fun hm => ?_, ih _ (by omega) _ p3 rfl⟩
      have := wayB_in h _ _ p3 rfl c hm
      omega
theorem find_dat (he : findE f a b = 0) : f.chk = 0 ∧ f.ground a = true ∧ f.ground b = true ∧ 0 ≤ frF f a b b ∧ findK f a b = frF f a b b ∧ findP f a b = (wayB f (frF f a b) a b).reverse := by
  rcases find_cases f a b with ⟨h1, h2⟩ | ⟨h1, h2, h3⟩ | ⟨h1, h2, h3, h4⟩ | ⟨h1, h2, h3, h4 | h4⟩
  · rw [h2] at he; exact absurd he h1
  · rw [h3] at he; exact absurd he h2
  · rw [h4] at he; cases he
  · rw [h4.2] at he; cases he
  · refine ⟨h1, h2, h3, h4.1, ?_, ?_⟩
    · unfold findK; rw [if_pos he]
    · unfold findP; rw [if_pos he]
theorem findP_once (he : findE f a b = 0) : (findP f a b).Nodup ∧ (findP f a b).length ≤ f.places.length ∧ ∀ x ∈ findP f a b, f.ground x = true := by
  obtain ⟨hf, ha, hb, h0, _, hp⟩ := find_dat he
  have hF := frF_frs hf ha h0
  have hn := wayB_nodup hF _ b h0 rfl
  have hi := wayB_in hF _ b h0 rfl
  rw [hp]
  refine ⟨(List.reverse_perm _).nodup_iff.2 hn, ?_, fun x hx => (hi x (List.mem_reverse.1 hx)).2.2⟩
  rw [List.length_reverse]
  exact cells_le hf hn fun x hx => Fld.ground_in (hi x hx).2.2
end
end Go.Proofs.Ytffjpfpbpnhmcaa
set_option linter.unusedVariables false
set_option linter.unusedSimpArgs false
namespace Go.Proofs.Ytffjpfpbpnhmcaa
open Go.RowKit

theorem find_march : findE ⟨3, 1, [0, 0, 3]⟩ ⟨1, 0⟩ ⟨2, 0⟩ = 0 ∧ findP ⟨3, 1, [0, 0, 3]⟩ ⟨1, 0⟩ ⟨2, 0⟩ = [⟨1, 0⟩, ⟨2, 0⟩] := by
  obtain ⟨h1, h2, h3⟩ := find_by (f := ⟨3, 1, [0, 0, 3]⟩) (a := ⟨1, 0⟩) (b := ⟨2, 0⟩) (far := [-1, 0, 2]) (cert (dl := [2, 0, 2]) (by decide)) (by decide) (by decide) (by decide) (by decide)
  exact ⟨h1, h3.trans (by decide)⟩
def marchT : List Trp := [⟨1, 0, 1, ⟨2, 0⟩, 10, 0⟩]
def marchG : List Gox := [⟨1, ⟨2, 0⟩⟩]
theorem march_small : marchE smallW marchG = 0 ∧ marchM smallW marchG = [1] ∧ marchW smallW marchG = { smallW with troops := marchT } := by
  have h1 : step1 smallW.field marchG smallW.troops 0 = some ⟨2, 0⟩ := by
    have hg : goK marchG (smallW.troops.getD 0 default).id = 0 := by decide
    have e1 : findE smallW.field (smallW.troops.getD 0 default).spot (marchG.getD 0 default).to = 0 := find_march.1
    have e2 : findP smallW.field (smallW.troops.getD 0 default).spot (marchG.getD 0 default).to = [⟨1, 0⟩, ⟨2, 0⟩] := find_march.2
    have h0 : 0 ≤ goK marchG (smallW.troops.getD 0 default).id := by omega
    have := step1_some (f := smallW.field) (l := marchG) (T := smallW.troops) (k := 0) h0
    rw [hg] at this
    simp only [Int.toNat_zero] at this
    rw [e1, e2] at this
    exact this ⟨⟨rfl, by decide⟩, by decide⟩
  have h2 : stS smallW.field marchG smallW.troops 1 = (marchT, [1]) := stS_some (f := smallW.field) (l := marchG) (T := smallW.troops) (U := smallW.troops) (M := []) (k := 0) rfl h1
  obtain ⟨e1, e2, e3⟩ := march_ok (W := smallW) (l := marchG) (by decide +kernel) (by decide)
  refine ⟨e1, ?_, ?_⟩
  · rw [e3]; show (stS smallW.field marchG smallW.troops 1).2 = _; rw [h2]
  · rw [e2]; show ({ smallW with troops := (stS smallW.field marchG smallW.troops 1).1 } : Wd) = _; rw [h2]
end Go.Proofs.Ytffjpfpbpnhmcaa
set_option linter.unusedVariables false
set_option linter.unusedSimpArgs false
namespace Go.Proofs.Ytffjpfpbpnhmcaa
open Go.RowKit

theorem MrL_en_mustkeep_small : Enters Try.prog 64 := en Try.func64 (by kernel_rfl) (by kernel_rfl)
theorem MrL_en_march_Step : Enters Try.prog 28 := en Try.func28 (by kernel_rfl) (by kernel_rfl)
theorem MrL_zv_api_World : Zv Try.prog 49 (.agg #[.int .i64 0, .int .i64 0, .slice none 0 0, .slice none 0 0, .slice none 0 0, .slice none 0 0, .slice none 0 0, .int .i64 0, .int .i64 0]) := fun _ => by kernel_rfl
theorem MrL_sz_api_World : Sz Try.prog 49 9 := fun _ => by kernel_rfl
theorem MrL_en_slices_Equal_S_int_int_ : Enters Try.prog 33 := en Try.func33 (by kernel_rfl) (by kernel_rfl)
theorem MrL_fd_api_World_4 : Fd Try.prog 49 4 6 := fun _ _ _ => by kernel_rfl
theorem MrL_ag_S_api_Troop : Ag Try.prog 47 false := fun _ => by kernel_rfl
theorem MrL_sz_api_Troop : Sz Try.prog 65 7 := fun _ => by kernel_rfl
theorem MrL_fd_api_Troop_3 : Fd Try.prog 65 3 3 := fun _ _ _ => by kernel_rfl
theorem MrL_ag_api_Cell : Ag Try.prog 32 true := fun _ => by kernel_rfl
theorem MrL_sz_api_Cell : Sz Try.prog 32 2 := fun _ => by kernel_rfl
theorem MrL_eqs_api_Cell : EqS Try.prog Cel.cells 32 := by
  intro a b w
  obtain ⟨a0, a1⟩ := a
  obtain ⟨b0, b1⟩ := b
  simp only [Cel.cells, Cel.mk.injEq]
  constructor
  · go_simp
    repeat' split
    all_goals simp_all
  · go_simp
    repeat' split
    all_goals simp_all
theorem MrL_eqg_api_Cell : (Try.prog).eqGuardType (Try.prog).depth 32 = false := by kernel_rfl
def marchV : Wd := { smallW with troops := marchT }
theorem mstep_small (A : Option Addr) (c : Nat) (w : World) (a : Wd.At) (hW : Wd.Has w a smallW) (hl : Gox.rep.SHas 24 w A c [(⟨1, ⟨2, 0⟩⟩ : Gox)]) :
    Calls Try.prog 28 #[.agg ((Wd.cells a smallW).toArray), .slice A 1 c] w (fun e w' => ∃ a' A' c', e = .returned (.tuple #[.agg ((Wd.cells a' marchV).toArray), .slice A' 1 c', .int .i64 0]) ∧ WOwn w' w.heap.size a' marchV ∧ repI.SOwn 3 8 w' w.heap.size (Rep.blkOf A') A' c' [1] ∧ (∀ q ∈ Rep.blkOf A', q ∈ WOwn.foot a' → False) ∧ Ext w w') := by
  refine (mstep_any a smallW A c marchG w hW hl).mono ?_
  rintro e w' ⟨a', A', c', rfl, h1, h2, h3, h4⟩
  obtain ⟨e1, e2, e3⟩ := march_small
  rw [e1, e2, e3]
  rw [e3] at h1
  rw [e2] at h2
  exact ⟨a', A', c', rfl, h1, h2, h3, h4⟩
set_option maxRecDepth 100000 in
set_option maxHeartbeats 400000 in
theorem marchLives_any  (w : World) :
    Calls Try.prog 29 #[] w (fun e w' => e = .returned (.bool true) ∧ Ext w w') := by
  refine calls_W (n := 29) Try.func29 rfl rfl rfl ?_
  refine sq <| rg <| vl (as_ rfl) rfl <| nl <| nT <| sq <| rg <| ca MrL_en_mustkeep_small rfl rfl ((small_any _).mono ?_)
  rintro e w_4 ⟨a_1, rfl, HO_1, x_5⟩
  refine ⟨_, rfl, ?_⟩
  have q_6 := x_5.size
  have z_4 := Ext.tr (Ext.rf w) x_5
  have u_2 := fun q hq => (HO_1.lt q hq).2
  have lo_3 := fun q hq => (HO_1.lt q hq).1
  refine vl (v := .agg #[.int .i64 2, .int .i64 0]) (bd rfl (by kernel_rfl)) rfl <| vl (v := .agg #[.int .i64 1, .int .i64 2, .int .i64 0]) (bd rfl (by kernel_rfl)) rfl <| bs (e := 53) (cs := [.int .i64 1, .int .i64 2, .int .i64 0]) rfl (fun _ => by kernel_rfl) rfl fun w_7 b_8 x_9 l_10 B_11 => ?_
  have q_12 := x_9.size
  have z_7 := Ext.tr z_4 x_9
  have q_13 := B_11.lt
  have HO_1 := HO_1.later x_9
  refine ca MrL_en_march_Step rfl rfl ((mstep_small _ _ _ _ HO_1.has (Blk.hasN (R := Gox.rep) (by_ := 24) (k := [(⟨1, ⟨2, 0⟩⟩ : Gox)]) B_11 [[.int .i64 1, .int .i64 2, .int .i64 0]] rfl (⟨⟨rfl, ⟨okI_iff.2 (by (try dsimp only); omega), okI_iff.2 (by (try dsimp only); omega), okI_iff.2 (by (try dsimp only); omega)⟩⟩, trivial⟩) (by simp) (by simp))).mono ?_)
  rintro e w_23 ⟨a14, A14, c14, rfl, HO14, OM14, hd14, x_24⟩
  refine ⟨_, rfl, ?_⟩
  have q_25 := x_24.size
  have z_23 := Ext.tr z_7 x_24
  have u_15 := fun q hq => (HO14.lt q hq).2
  have lo_16 := fun q hq => (HO14.lt q hq).1
  have u_17 := fun q hq => (OM14.lt q hq).2
  have lo_18 := fun q hq => (OM14.lt q hq).1
  have dd14 : ∀ q ∈ Rep.blkOf A14, q ∈ WOwn.foot a14 → False := hd14
  have dw14 : ∀ q ∈ WOwn.foot a14, q ∈ Rep.blkOf A14 → False := fun q h1 h2 => hd14 q h2 h1
  refine vl (mv rfl) rfl <| vl (ex rfl rfl) rfl <| vl (ex rfl rfl) rfl <| vl (ex rfl rfl) rfl <| al rfl MrL_zv_api_World rfl rfl fun w_26 b_27 x_28 l_29 B_30 => ?_
  have q_31 := x_28.size
  have z_26 := Ext.tr z_23 x_28
  have q_32 := B_30.lt
  refine st rfl rfl B_30 rfl MrL_sz_api_World rfl rfl rfl fun w_33 m_34 B_30 => ?_
  have q_36 := m_34.size
  have z_33 := Ext.mod z_26 m_34 (by simp only [List.mem_singleton, forall_eq]; omega)
  have q_35 := m_34.size
  refine vl (as_ rfl) rfl <| vl (as_ rfl) rfl <| nl <| nT <| sq <| rg <| vl (mv rfl) rfl <| vl (beq rfl rfl) rfl <| vl (mv rfl) rfl <| ug rfl rfl rfl <| vl (mv rfl) rfl <| ug rfl rfl rfl <| bs (e := 3) (cs := [.int .i64 1]) rfl (fun _ => by kernel_rfl) rfl fun w_37 b_38 x_39 l_40 B_41 => ?_
  have q_42 := x_39.size
  have z_37 := Ext.tr z_33 x_39
  have q_43 := B_41.lt
  refine ug rfl rfl rfl <| ?_
  have OM14 := OM14.later x_28
  have OM14 := OM14.mod m_34 (fun q hq h => by have hb := List.mem_singleton.1 h; exfalso; (have := u_17 q hq; omega))
  have OM14 := OM14.later x_39
  refine ca MrL_en_slices_Equal_S_int_int_ rfl rfl ((equal_Z _ _ _ _ _ _ ([1]) ([1]) _ OM14.has (Blk.hasN (R := repI) (by_ := 8) (k := [1]) B_41 [[.int .i64 1]] rfl (⟨⟨rfl, okI_iff.2 (by (try dsimp only); omega)⟩, trivial⟩) (by simp) (by simp))).mono ?_)
  rintro e w_44 ⟨rfl, x_45⟩
  refine ⟨_, rfl, ?_⟩
  have q_46 := x_45.size
  have z_44 := Ext.tr z_37 x_45
  refine vl (pkT rfl rfl) rfl <| vl (mv rfl) rfl <| vQ rfl rfl rfl rfl (fun hc => fa MrL_fd_api_World_4 rfl) rfl <| ?_
  have B_30 := B_30.later (Ext.tr x_39 x_45)
  refine vQ rfl rfl rfl rfl (fun hc => ld (gt hc rfl) (B_30.one MrL_ag_S_api_Troop rfl)) rfl <| ?_
  have HO14 := HO14.later x_28
  have HO14 := HO14.mod m_34 (fun q hq h => by have hb := List.mem_singleton.1 h; exfalso; (have := u_15 q hq; omega))
  have HO14 := HO14.later (Ext.tr x_39 x_45)
  refine vQ rfl rfl rfl rfl (fun hc => iA 0 Try.underlying47 MrL_sz_api_Troop (gt hc rfl) rfl (HO14.T.has.adr (Nat.zero_lt_of_lt (show 0 < _ from (by decide +kernel : 0 < (marchV.troops).length)))) rfl (by decide +kernel : 0 < (marchV.troops).length)) rfl <| vQ rfl rfl rfl rfl (fun hc => fa MrL_fd_api_Troop_3 (gt hc rfl)) rfl <| vQ rfl rfl rfl rfl (fun hc => ld (gt hc rfl) (Rep.SHas.part hcT (HO14.T.has.adh (Nat.zero_lt_of_lt (show 0 < _ from (by decide +kernel : 0 < (marchV.troops).length)))) 3 (ds := [.int .i64 ((marchV.troops.getD 0 default).spot.x), .int .i64 ((marchV.troops.getD 0 default).spot.y)]) (get_d (l := marchV.troops) (u := default) (by decide +kernel : 0 < (marchV.troops).length)) rfl MrL_ag_api_Cell MrL_sz_api_Cell)) rfl <| vQ (v := .agg #[.int .i64 2, .int .i64 0]) rfl rfl rfl rfl (fun hc => bd rfl (by kernel_rfl)) rfl <| vQ rfl rfl rfl rfl (fun hc => bqS MrL_eqs_api_Cell MrL_eqg_api_Cell (p := (marchV.troops.getD 0 default).spot) (q := (⟨2, 0⟩ : Cel)) (gt hc rfl) (gt hc rfl)) rfl <| vl (pA rfl rfl rfl rfl) rfl <| vl (as_ rfl) rfl <| nl <| nT <| rt <| tR (.tmp rfl .nil) <| ?_
  exact ⟨ret_true (by decide +kernel), z_44⟩
end Go.Proofs.Ytffjpfpbpnhmcaa
set_option linter.unusedVariables false
set_option linter.unusedSimpArgs false
namespace Go.Proofs.Ytffjpfpbpnhmcaa
open Go.RowKit

def Apart (s t : Trp) : Prop := s.id < t.id ∧ s.spot ≠ t.spot
theorem getD_of {α : Type} [Inhabited α] {l : List α} {i : Nat} {t : α} (h : l[i]? = some t) : l.getD i default = t := by rw [List.getD_eq_getElem?_getD, h]; rfl
theorem Good.ids_up {W : Wd} (hG : Good W) {i j : Nat} {s t : Trp} (hij : i < j) (hs : W.troops[i]? = some s) (ht : W.troops[j]? = some t) : s.id < t.id := by
  induction j generalizing t with
  | zero => omega
  | succ j ih =>
    have hj := (List.getElem?_eq_some_iff.1 ht).1
    obtain ⟨u, hu⟩ := get_of (l := W.troops) (i := j) (by omega)
    have h1 := (hG.ids (j + 1) t ht).1
    have h2 : W.lastId (j + 1) = u.id := by
      unfold Wd.lastId
      rw [if_neg (by omega), Nat.add_sub_cancel, getD_of hu]
    rcases Nat.lt_succ_iff_lt_or_eq.1 hij with h | rfl
    · have := ih h hu; omega
    · rw [hs] at hu; injection hu with hu; subst hu; omega
theorem Good.pw {W : Wd} (hG : Good W) : W.troops.Pairwise Apart := by
  rw [List.pairwise_iff_getElem]
  intro i j hi hj hij
  have hs := List.getElem?_eq_getElem hi
  have ht := List.getElem?_eq_getElem hj
  refine ⟨hG.ids_up hij hs ht, fun e => ?_⟩
  have h1 := hG.spots j _ ht
  rw [← e] at h1
  have : (W.spots j).contains (W.troops[i]).spot = true := by
    rw [List.contains_iff_mem]
    unfold Wd.spots
    exact List.mem_map.2 ⟨_, List.mem_iff_getElem?.2 ⟨i, by rw [List.getElem?_take, if_pos hij, hs]⟩, rfl⟩
  rw [this] at h1
  exact nomatch h1
theorem Good.each {W : Wd} (hG : Good W) {t : Trp} (ht : t ∈ W.troops) : 0 < t.id ∧ t.id < W.next ∧ TroopOk W.field W.bases.length t := by
  obtain ⟨i, hi⟩ := List.mem_iff_getElem?.1 ht
  have h1 := hG.ids i t hi
  exact ⟨by omega, h1.2.1, hG.troops i t hi⟩
theorem Good.of_pw {W V : Wd} (hG : Good W) (hf : V.field = W.field) (hb : V.bases = W.bases) (hs : V.stocks = W.stocks) (hm : V.mines = W.mines) (hn : V.next = W.next) (ho : 0 ≤ V.now ∧ V.now ≤ 1000000) (hl : V.troops.length ≤ 100) (hP : V.troops.Pairwise Apart)
    (hall : ∀ t ∈ V.troops, 0 < t.id ∧ t.id < V.next ∧ TroopOk V.field V.bases.length t) : Good V where
  field := by rw [hf]; exact hG.field
  nb := by rw [hb]; exact hG.nb
  nt := hl
  sl := by rw [hs, hb]; exact hG.sl
  bases := by rw [hb, hf]; exact hG.bases
  stocks := by rw [hs]; exact hG.stocks
  ml := by rw [hm, hf]; exact hG.ml
  mines := by rw [hm, hf]; exact hG.mines
  troops := fun i t ht => (hall t (List.mem_of_getElem? ht)).2.2
  ids := fun i t ht => by
    have h1 := hall t (List.mem_of_getElem? ht)
    unfold Wd.lastId
    split
    · exact ⟨h1.1, h1.2.1, Int.le_refl _⟩
    · rename_i h0
      have hi := (List.getElem?_eq_some_iff.1 ht).1
      obtain ⟨u, hu⟩ := get_of (l := V.troops) (i := i - 1) (by omega)
      rw [getD_of hu]
      have h2 := hall u (List.mem_of_getElem? hu)
      have h3 := (List.pairwise_iff_getElem.1 hP) (i - 1) i (by omega) hi (by omega)
      have e1 : V.troops[i - 1]'(by omega) = u := (List.getElem?_eq_some_iff.1 hu).2
      have e2 : V.troops[i] = t := (List.getElem?_eq_some_iff.1 ht).2
      rw [e1, e2] at h3
      exact ⟨h3.1, h1.2.1, by omega⟩
  spots := fun i t ht => by
    rw [Bool.eq_false_iff]
    intro hc
    rw [List.contains_iff_mem] at hc
    unfold Wd.spots at hc
    obtain ⟨s, hs1, hs2⟩ := List.mem_map.1 hc
    obtain ⟨j, hj⟩ := List.mem_iff_getElem?.1 hs1
    rw [List.getElem?_take] at hj
    split at hj
    · rename_i hji
      have hi := (List.getElem?_eq_some_iff.1 ht).1
      have h3 := (List.pairwise_iff_getElem.1 hP) j i (by omega) hi hji
      have e1 : V.troops[j]'(by omega) = s := (List.getElem?_eq_some_iff.1 hj).2
      have e2 : V.troops[i] = t := (List.getElem?_eq_some_iff.1 ht).2
      rw [e1, e2] at h3
      exact h3.2 hs2
    · exact nomatch hj
  next := by rw [hn]; exact hG.next
  now := ho
theorem find_id {l : List Trp} (hP : l.Pairwise Apart) {x : Trp} (hx : x ∈ l) : l.find? (fun t => t.id == x.id) = some x := by
  obtain ⟨i, hi, rfl⟩ := List.getElem_of_mem hx
  refine List.find?_eq_some_iff_getElem.2 ⟨by simp, i, hi, rfl, fun j hj => ?_⟩
  have := (List.pairwise_iff_getElem.1 hP) j i (by omega) hi hj
  have h2 : (l[j]'(by omega)).id ≠ (l[i]).id := by have := this.1; omega
  simpa using h2
theorem find_noid {l : List Trp} {x : Int} (h : ∀ t ∈ l, t.id ≠ x) : l.find? (fun t => t.id == x) = none := List.find?_eq_none.2 fun t ht => by simpa using h t ht
end Go.Proofs.Ytffjpfpbpnhmcaa
set_option linter.unusedVariables false
set_option linter.unusedSimpArgs false
namespace Go.Proofs.Ytffjpfpbpnhmcaa
open Go.RowKit

def trOfD (l : List Trp) (x : Int) : Option Trp := l.find? fun t => t.id == x
def trOfV (l : List Trp) (x : Int) : Value := .tuple #[.agg ((trOfD l x).getD default).cells.toArray, .bool (trOfD l x).isSome]
def sortedI (l : List Int) : Bool := (List.range (l.length - 1)).all fun i => !decide (l.getD (i + 1) 0 < l.getD i 0)
/-- So many from both ends have changed their places. -/
def revN {α : Type} (l : List α) (k : Nat) : List α := l.mapIdx fun i x => if i < k ∨ l.length - k ≤ i then (l[l.length - 1 - i]?).getD x else x
end Go.Proofs.Ytffjpfpbpnhmcaa
set_option linter.unusedVariables false
set_option linter.unusedSimpArgs false
namespace Go.Proofs.Ytffjpfpbpnhmcaa
open Go.RowKit

def hurts (W : Wd) (l : List Blw) : List Trp := (List.range W.troops.length).map (hurt W.troops (harmW W l))
structure Struck (W : Wd) (l : List Blw) : Prop where
  good : Good W
  hW : struckW W l = { W with troops := (hurts W l).filter fun t => decide (0 < t.life) }
  hG : struckG W l = ((hurts W l).filter fun t => !decide (0 < t.life)).map Trp.id
  harm : ∀ k, 0 ≤ (harmW W l).getD k 0
  hl : (harmW W l).length = W.troops.length
theorem hurts_len (W : Wd) (l : List Blw) : (hurts W l).length = W.troops.length := by simp [hurts]
theorem hurts_get {W : Wd} {l : List Blw} {k : Nat} {t : Trp} (h : W.troops[k]? = some t) : (hurts W l)[k]? = some { t with life := t.life - (harmW W l).getD k 0 } := by
  have hk := (List.getElem?_eq_some_iff.1 h).1
  unfold hurts
  rw [List.getElem?_map, List.getElem?_range hk, Option.map_some]
  unfold hurt
  rw [getD_of h]
theorem hurts_mem {W : Wd} {l : List Blw} {x : Trp} (h : x ∈ hurts W l) : ∃ (k : Nat) (t : Trp), W.troops[k]? = some t ∧ x = { t with life := t.life - (harmW W l).getD k 0 } := by
  obtain ⟨k, hk⟩ := List.mem_iff_getElem?.1 h
  have hlt := (List.getElem?_eq_some_iff.1 hk).1
  rw [hurts_len] at hlt
  obtain ⟨t, ht⟩ := get_of hlt
  rw [hurts_get ht] at hk
  injection hk with hk
  exact ⟨k, t, ht, hk.symm⟩
theorem Struck.pw {W : Wd} {l : List Blw} (h : Struck W l) : (hurts W l).Pairwise Apart := by
  rw [List.pairwise_iff_getElem]
  intro i j hi hj hij
  rw [hurts_len] at hi hj
  obtain ⟨s, hs⟩ := get_of hi
  obtain ⟨t, ht⟩ := get_of hj
  have e1 := (List.getElem?_eq_some_iff.1 (hurts_get (l := l) hs)).2
  have e2 := (List.getElem?_eq_some_iff.1 (hurts_get (l := l) ht)).2
  rw [e1, e2]
  have := (List.pairwise_iff_getElem.1 h.good.pw) i j hi hj hij
  rw [(List.getElem?_eq_some_iff.1 hs).2, (List.getElem?_eq_some_iff.1 ht).2] at this
  exact this
theorem Struck.right {W : Wd} {l : List Blw} (h : Struck W l) : Good (struckW W l) := by
  rw [h.hW]
  refine Good.of_pw h.good rfl rfl rfl rfl rfl h.good.now ?_ (h.pw.filter _) fun t ht => ?_
  · exact Nat.le_trans (List.length_filter_le _ _) (by rw [hurts_len]; exact h.good.nt)
  · obtain ⟨ht, hp⟩ := List.mem_filter.1 ht
    obtain ⟨k, s, hs, rfl⟩ := hurts_mem ht
    have h1 := h.good.each (List.mem_of_getElem? hs)
    have h2 := h.harm k
    have h3 := of_decide_eq_true hp
    refine ⟨h1.1, h1.2.1, ⟨h1.2.2.kind, h1.2.2.owner, h1.2.2.ground, ?_, h1.2.2.load⟩⟩
    have h4 := h1.2.2.life
    show 1 ≤ s.life - _ ∧ s.life - _ ≤ Wd.lifeOf s.kind
    have h5 : 0 < s.life - (harmW W l).getD k 0 := h3
    omega
/-- Each troop is there still, no more alive than it was; or it is gone. -/
theorem Struck.each {W : Wd} {l : List Blw} (h : Struck W l) {k : Nat} (hk : k < W.troops.length) :
    (∃ m : Int, 0 ≤ m ∧ trOfD (struckW W l).troops (W.troops.getD k default).id = some { W.troops.getD k default with life := (W.troops.getD k default).life - m } ∧ (struckG W l).any (fun y => (W.troops.getD k default).id == y) = false) ∨
    (trOfD (struckW W l).troops (W.troops.getD k default).id = none ∧ (struckG W l).any (fun y => (W.troops.getD k default).id == y) = true) := by
  obtain ⟨t, ht⟩ := get_of hk
  rw [getD_of ht]
  have hx := hurts_get (l := l) ht
  obtain ⟨x, hxe⟩ : ∃ x : Trp, x = { t with life := t.life - (harmW W l).getD k 0 } := ⟨_, rfl⟩
  rw [← hxe] at hx
  have hxm := List.mem_of_getElem? hx
  have hid : x.id = t.id := by rw [hxe]
  have huniq : ∀ y ∈ hurts W l, y.id = t.id → y = x := fun y hy e => by
    have h1 := find_id h.pw hy
    have h2 := find_id h.pw hxm
    rw [e] at h1; rw [hid, h1] at h2
    injection h2
  rw [h.hW, h.hG]
  by_cases hp : 0 < x.life
  · refine .inl ⟨(harmW W l).getD k 0, h.harm k, ?_, ?_⟩
    · have := find_id (h.pw.filter fun t => decide (0 < t.life)) (List.mem_filter.2 ⟨hxm, decide_eq_true hp⟩)
      rw [hid] at this
      rw [← hxe]; exact this
    · rw [List.any_eq_false]
      intro y hy
      obtain ⟨z, hz, rfl⟩ := List.mem_map.1 hy
      obtain ⟨hz1, hz2⟩ := List.mem_filter.1 hz
      intro e
      have e : t.id = z.id := by simpa using e
      have := huniq z hz1 e.symm
      subst this
      rw [decide_eq_true hp] at hz2
      exact nomatch hz2
  · refine .inr ⟨find_noid fun y hy e => ?_, ?_⟩
    · obtain ⟨h1, h2⟩ := List.mem_filter.1 hy
      have := huniq y h1 e
      subst this
      exact hp (of_decide_eq_true h2)
    · rw [List.any_eq_true]
      exact ⟨x.id, List.mem_map.2 ⟨x, List.mem_filter.2 ⟨hxm, by rw [decide_eq_false hp]; rfl⟩, rfl⟩, by rw [hid]; simp⟩
end Go.Proofs.Ytffjpfpbpnhmcaa
set_option linter.unusedVariables false
set_option linter.unusedSimpArgs false
namespace Go.Proofs.Ytffjpfpbpnhmcaa
open Go.RowKit

section
variable {f : Fld} {a b c x y : Cel} {d D : Int}
/-- Whence one comes does not hang on where one is bound for. -/
theorem prev_same (hf : f.chk = 0) (ha : f.ground a = true) (hc1 : 0 ≤ frF f a b c) (hc2 : 0 ≤ frF f a x c) : prevF f (frF f a b) c = prevF f (frF f a x) c := by
  have key : ∀ t n, n ∈ sidesC c → 0 ≤ frF f a t c → ((f.ground n && decide (0 ≤ frF f a t n) && decide (frF f a t n + f.kost c = frF f a t c)) = true ↔ ∃ e, DstF f a n e ∧ DstF f a c (e + f.kost c)) := by
    intro t n hn ht
    have hs := frF_spec (b := t) hf ha
    have hdc := frF_dst hf ha ht
    constructor
    · intro h
      simp only [Bool.and_eq_true, decide_eq_true_eq] at h
      exact ⟨_, frF_dst hf ha h.1.2, by rw [h.2]; exact hdc⟩
    · rintro ⟨e, h1, h2⟩
      have he := hdc.uniq h2
      have hn2 : frF f a t n = e := hs.known n e h1 fun D hD => by
        have := (hs.dist c ht).2 D hD
        have h3 := Fld.est_step t (Fld.sides_symm hn)
        have hk := f.kost_bd (c := c)
        omega
      rw [hn2, RchF.ground ha h1.1, decide_eq_true (RchF.nn h1.1), decide_eq_true he.symm]; rfl
  unfold prevF
  congr 1
  apply find_congr
  intro n hn
  rw [Bool.eq_iff_iff, key b n hn hc1, key x n hn hc2]
where
  find_congr {p q : Cel → Bool} : ∀ {l : List Cel}, (∀ n ∈ l, p n = q n) → l.find? p = l.find? q
    | [], _ => rfl
    | n :: l, h => by
      rw [List.find?_cons, List.find?_cons, h n List.mem_cons_self, find_congr fun m hm => h m (List.mem_cons_of_mem _ hm)]
/-- The way back is the same, wherever one was bound for. -/
theorem wayB_same (hf : f.chk = 0) (ha : f.ground a = true) (hb : 0 ≤ frF f a b b) (hx : 0 ≤ frF f a x x) : ∀ (n : Nat) (c : Cel), 0 ≤ frF f a b c → 0 ≤ frF f a x c → (frF f a b c).toNat = n → wayB f (frF f a b) a c = wayB f (frF f a x) a c := by
  have F1 := frF_frs hf ha hb
  have F2 := frF_frs hf ha hx
  intro n
  induction n using Nat.strongRecOn with
  | ind n ih =>
    intro c h1 h2 hn
    by_cases e : c = a
    · subst e; rw [wayB_self F1, wayB_self F2]
    · have hp := prev_same (b := b) (x := x) hf ha h1 h2
      obtain ⟨p1, p2, p3, p4⟩ := F1.prev h1 e
      obtain ⟨q1, q2, q3, q4⟩ := F2.prev h2 e
      have hk := f.kost_bd (c := c)
      rw [wayB_step F1 h1 e, wayB_step F2 h2 e, ← hp]
      congr 1
      exact ih _ (by omega) _ p3 (by rw [hp]; exact q3) rfl
/-- Behind a cell on the way back there is the way back from it. -/
theorem wayB_suffix {fr : Cel → Int} (h : Frs f a fr) : ∀ (n : Nat) (c : Cel), 0 ≤ fr c → (fr c).toNat = n → ∀ i, (hi : i < (wayB f fr a c).length) → (wayB f fr a c).drop i = wayB f fr a ((wayB f fr a c)[i]) ∧ RchF f ((wayB f fr a c)[i]) c (fr c - fr ((wayB f fr a c)[i])) := by
  intro n
  induction n using Nat.strongRecOn with
  | ind n ih =>
    intro c hc hn i hi
    by_cases e : c = a
    · subst e
      rw [wayB_self h] at hi
      have : i = 0 := by simpa using hi
      subst this
      simp only [wayB_self h, List.drop_zero, List.getElem_cons_zero]
      exact ⟨by first | trivial | rfl, by rw [Int.sub_self]; exact .start rfl⟩
    · have hst := wayB_step h hc e
      obtain ⟨p1, p2, p3, p4⟩ := h.prev hc e
      have hk := f.kost_bd (c := c)
      cases i with
      | zero =>
        have e0 : (wayB f fr a c)[0] = c := by simp only [hst, List.getElem_cons_zero]
        rw [e0, List.drop_zero, Int.sub_self]; exact ⟨rfl, .start rfl⟩
      | succ i =>
        have hi' : i < (wayB f fr a (prevF f fr c)).length := by rw [hst] at hi; simpa using hi
        obtain ⟨k1, k2⟩ := ih _ (by omega) _ p3 rfl i hi'
        have e1 : (wayB f fr a c)[i + 1] = (wayB f fr a (prevF f fr c))[i] := by simp only [hst, List.getElem_cons_succ]
        rw [e1]
        refine ⟨by rw [← k1, hst, List.drop_succ_cons], ?_⟩
        have r : RchF f _ c (fr (prevF f fr c) - fr ((wayB f fr a (prevF f fr c))[i]) + f.kost c) := .step k2 (Fld.mem_adj.2 ⟨Fld.sides_symm p1, h.gr c hc⟩)
        rw [show fr c - fr ((wayB f fr a (prevF f fr c))[i]) = fr (prevF f fr c) - fr ((wayB f fr a (prevF f fr c))[i]) + f.kost c by omega]
        exact r
/-- A part of a cheapest way. -/
theorem way_part (he : findE f a b = 0) {n : Nat} (hn : n < (findP f a b).length) {x : Cel} (hx : (findP f a b).getD n default = x) : findE f a x = 0 ∧ findE f x b = 0 ∧ findP f a x = (findP f a b).take (n + 1) ∧ findK f a x + findK f x b = findK f a b := by
  obtain ⟨hf, ha, hb, h0, hk, hp⟩ := find_dat he
  have F := frF_frs hf ha h0
  have hl : (findP f a b).length = (wayB f (frF f a b) a b).length := by rw [hp, List.length_reverse]
  have hi : (wayB f (frF f a b) a b).length - 1 - n < (wayB f (frF f a b) a b).length := by omega
  obtain ⟨s1, s2⟩ := wayB_suffix F _ b h0 rfl _ hi
  have ex : (wayB f (frF f a b) a b)[(wayB f (frF f a b) a b).length - 1 - n] = x := by
    rw [getD_dd hn] at hx
    rw [← hx]
    simp only [hp, List.getElem_reverse]
  rw [ex] at s1 s2
  have hxm : x ∈ wayB f (frF f a b) a b := by rw [← ex]; exact List.getElem_mem hi
  obtain ⟨x1, x2, x3⟩ := wayB_in F _ b h0 rfl x hxm
  have hdx := frF_dst hf ha x1
  have e1 := frF_end hf ha hdx
  have hx0 : 0 ≤ frF f a x x := by rw [e1]; exact x1
  have hax := find_ok hf ha x3 hx0
  have r2 := frF_rch hf x3 s2
  have hxb := find_ok hf x3 hb r2.1
  refine ⟨hax, hxb, ?_, ?_⟩
  · have hpx : findP f a x = (wayB f (frF f a x) a x).reverse := by unfold findP; rw [if_pos hax]
    rw [hpx, ← wayB_same hf ha h0 hx0 _ x x1 hx0 rfl, ← s1, hp, List.reverse_drop, hl.symm.trans hl]
    congr 1
    have : (wayB f (frF f a b) a b).reverse.length = (wayB f (frF f a b) a b).length := List.length_reverse
    omega
  · have k1 : findK f a x = frF f a x x := by unfold findK; rw [if_pos hax]
    have k2 : findK f x b = frF f x b b := by unfold findK; rw [if_pos hxb]
    rw [k1, k2, hk, e1]
    have h3 := (frF_dst hf ha h0).2 _ (RchF.tr hdx.1 (frF_dst hf x3 r2.1).1)
    omega
end
end Go.Proofs.Ytffjpfpbpnhmcaa
set_option linter.unusedVariables false
set_option linter.unusedSimpArgs false
namespace Go.Proofs.Ytffjpfpbpnhmcaa
open Go.RowKit

theorem wayB_head {f : Fld} {a : Cel} {fr : Cel → Int} (h : Frs f a fr) {c : Cel} (hc : 0 ≤ fr c) : ∃ r, wayB f fr a c = c :: r ∧ (r = [] ↔ c = a) := by
  by_cases e : c = a
  · subst e; exact ⟨[], wayB_self h, by simp⟩
  · obtain ⟨p1, p2, p3, p4⟩ := h.prev hc e
    refine ⟨_, wayB_step h hc e, ⟨fun hr => ?_, fun h => absurd h e⟩⟩
    by_cases e2 : prevF f fr c = a
    · rw [e2, wayB_self h] at hr; exact nomatch hr
    · rw [wayB_step h p3 e2] at hr; exact nomatch hr
/-- The first step of a way. -/
theorem way_first {f : Fld} {a b x : Cel} (he : findE f a b = 0) (hn : 2 ≤ (findP f a b).length) (hx : (findP f a b).getD 1 default = x) :
    findE f a x = 0 ∧ findE f x b = 0 ∧ findK f a x + findK f x b = findK f a b ∧ a ∈ sidesC x ∧ f.ground x = true ∧ x ≠ a ∧ findP f a x = [a, x] := by
  obtain ⟨h1, h2, h3, h4⟩ := way_part he (n := 1) (by omega) hx
  obtain ⟨hf, ha, hb, h0, hk, hp⟩ := find_dat he
  obtain ⟨_, _, gx, hx0, _, hpx⟩ := find_dat h1
  have F := frF_frs hf ha h0
  have Fx := frF_frs hf ha hx0
  have hl : (findP f a x).length = 2 := by rw [h3, List.length_take]; omega
  rw [hpx, List.length_reverse] at hl
  have hxa : x ≠ a := by
    intro e
    obtain ⟨r, e1, e2⟩ := wayB_head Fx hx0
    rw [e1, e2.2 e] at hl
    simp at hl
  have hst := wayB_step Fx hx0 hxa
  obtain ⟨p1, p2, p3, p4⟩ := Fx.prev hx0 hxa
  obtain ⟨r, e1, e2⟩ := wayB_head Fx p3
  rw [hst, e1] at hl
  have hr : r = [] := List.eq_nil_of_length_eq_zero (by simpa using hl)
  have hpa := e2.1 hr
  refine ⟨h1, h2, h4, by rw [← hpa]; exact p1, gx, hxa, ?_⟩
  rw [hpx, hst, e1, hr, hpa]; rfl
noncomputable def mvC (f : Fld) (l : List Gox) (T : List Trp) (i : Nat) : Option Cel := step1 f l (stS f l T i).1 i
end Go.Proofs.Ytffjpfpbpnhmcaa
set_option linter.unusedVariables false
set_option linter.unusedSimpArgs false
namespace Go.Proofs.Ytffjpfpbpnhmcaa
open Go.RowKit

section
variable {f : Fld} {a b c x y : Cel} {d D : Int}
theorem prev_key (hf : f.chk = 0) (ha : f.ground a = true) {t n : Cel} (hn : n ∈ sidesC c) (ht : 0 ≤ frF f a t c) : ((f.ground n && decide (0 ≤ frF f a t n) && decide (frF f a t n + f.kost c = frF f a t c)) = true ↔ ∃ e, DstF f a n e ∧ DstF f a c (e + f.kost c)) := by
  have hs := frF_spec (b := t) hf ha
  have hdc := frF_dst hf ha ht
  constructor
  · intro h
    simp only [Bool.and_eq_true, decide_eq_true_eq] at h
    exact ⟨_, frF_dst hf ha h.1.2, by rw [h.2]; exact hdc⟩
  · rintro ⟨e, h1, h2⟩
    have he := hdc.uniq h2
    have hn2 : frF f a t n = e := hs.known n e h1 fun D hD => by
      have := (hs.dist c ht).2 D hD
      have h3 := Fld.est_step t (Fld.sides_symm hn)
      have hk := f.kost_bd (c := c)
      omega
    rw [hn2, RchF.ground ha h1.1, decide_eq_true (RchF.nn h1.1), decide_eq_true he.symm]; rfl
theorem find_first {p q : Cel → Bool} {l : List Cel} {n : Cel} (h : l.find? p = some n) (hqp : ∀ m ∈ l, q m = true → p m = true) (hq : q n = true) : l.find? q = some n := by
  induction l with
  | nil => exact nomatch h
  | cons m l ih =>
    rw [List.find?_cons] at h ⊢
    by_cases hp : p m = true
    · rw [hp] at h; injection h with h; subst h; rw [hq]
    · have hp' : p m = false := by simpa using hp
      rw [hp'] at h
      have : q m = false := by
        rw [Bool.eq_false_iff]; exact fun e => hp (hqp m List.mem_cons_self e)
      rw [this]
      exact ih h fun k hk => hqp k (List.mem_cons_of_mem _ hk)
/-- From a cell on the way on. -/
theorem sub_dst (hf : f.chk = 0) (ha : f.ground a = true) (hb : 0 ≤ frF f a b b) (hx : x ∈ wayB f (frF f a b) a b) (hc : 0 ≤ frF f a b c) (hxc : x ∈ wayB f (frF f a b) a c) :
    DstF f x c (frF f a b c - frF f a b x) ∧ frF f x b c = frF f a b c - frF f a b x := by
  have F := frF_frs hf ha hb
  obtain ⟨x1, x2, x3⟩ := wayB_in F _ b hb rfl x hx
  have key : ∀ c, 0 ≤ frF f a b c → x ∈ wayB f (frF f a b) a c → DstF f x c (frF f a b c - frF f a b x) := by
    intro c hc hxc
    obtain ⟨i, hi, e⟩ := List.getElem_of_mem hxc
    have h1 := (wayB_suffix F _ c hc rfl i hi).2
    rw [e] at h1
    refine ⟨h1, fun r hr => ?_⟩
    have := (frF_dst hf ha hc).2 _ (RchF.tr (frF_dst hf ha x1).1 hr)
    omega
  refine ⟨key c hc hxc, (frF_spec (b := b) hf x3).known c _ (key c hc hxc) fun D hD => ?_⟩
  have h2 := (key b hb hx).uniq hD
  have h3 := ((frF_spec (b := b) hf ha).dist c hc).2 _ (frF_dst hf ha hb)
  omega
theorem way_tail (hf : f.chk = 0) (ha : f.ground a = true) (hb : 0 ≤ frF f a b b) (hx : x ∈ wayB f (frF f a b) a b) (hxa : x ≠ a) : ∀ (n : Nat) (c : Cel) (L : List Cel), 0 ≤ frF f a b c → (frF f a b c).toNat = n → wayB f (frF f a b) a c = L ++ [x, a] → wayB f (frF f x b) x c = L ++ [x] := by
  have F := frF_frs hf ha hb
  obtain ⟨x1, x2, x3⟩ := wayB_in F _ b hb rfl x hx
  obtain ⟨_, exb⟩ := sub_dst hf ha hb hx hb hx
  have F2 := frF_frs hf x3 (show 0 ≤ frF f x b b by rw [exb]; omega)
  intro n
  induction n using Nat.strongRecOn with
  | ind n ih =>
    intro c L hc hn hL
    have hmem : x ∈ wayB f (frF f a b) a c := by rw [hL]; simp
    obtain ⟨dc, ec⟩ := sub_dst hf ha hb hx hc hmem
    have hnd := wayB_nodup F _ c hc rfl
    by_cases e : c = x
    · subst e
      rw [wayB_self F2]
      cases L with
      | nil => rfl
      | cons m L =>
        obtain ⟨r, hr, _⟩ := wayB_head F hc
        rw [hL] at hr hnd
        injection hr with hr _
        subst hr
        simp at hnd
    · cases L with
      | nil =>
        obtain ⟨r, hr, _⟩ := wayB_head F hc
        rw [hL] at hr
        injection hr with hr _
        exact absurd hr.symm e
      | cons m L =>
        have hca : c ≠ a := by
          intro q; subst q
          rw [wayB_self F] at hL
          simp at hL
        have hst := wayB_step F hc hca
        obtain ⟨p1, p2, p3, p4⟩ := F.prev hc hca
        rw [hL] at hst
        injection hst with hm hst
        subst hm
        have hmp : x ∈ wayB f (frF f a b) a (prevF f (frF f a b) m) := by rw [← hst]; simp
        obtain ⟨dp, ep⟩ := sub_dst hf ha hb hx p3 hmp
        have hk := f.kost_bd (c := m)
        have h0 : 0 ≤ frF f x b m := RchF.nn dc.1 |> fun h => by rw [ec]; exact h
        have hgr : f.ground m = true := F.gr m hc
        have hpe : prevF f (frF f x b) m = prevF f (frF f a b) m := by
          have hfa : (sidesC m).find? (fun n => f.ground n && decide (0 ≤ frF f a b n) && decide (frF f a b n + f.kost m = frF f a b m)) = some (prevF f (frF f a b) m) := by
            cases hfind : (sidesC m).find? (fun n => f.ground n && decide (0 ≤ frF f a b n) && decide (frF f a b n + f.kost m = frF f a b m)) with
            | some q => unfold prevF; rw [hfind]; rfl
            | none =>
              have := List.find?_eq_none.1 hfind _ p1
              rw [p2, decide_eq_true p3, decide_eq_true p4] at this
              exact absurd rfl this
          have hfx := find_first (q := fun n => f.ground n && decide (0 ≤ frF f x b n) && decide (frF f x b n + f.kost m = frF f x b m)) hfa (fun n hn hq => ?_) ?_
          · conv => lhs; unfold prevF
            rw [hfx]; rfl
          · obtain ⟨e, e1, e2⟩ := (prev_key hf x3 hn h0).1 hq
            refine (prev_key hf ha hn hc).2 ⟨frF f a b x + e, ⟨RchF.tr (frF_dst hf ha x1).1 e1.1, fun r hr => ?_⟩, ?_⟩
            · have h1 : RchF f a m (r + f.kost m) := .step hr (Fld.mem_adj.2 ⟨Fld.sides_symm hn, hgr⟩)
              have h2 := (frF_dst hf ha hc).2 _ h1
              have h3 := dc.uniq e2
              omega
            · have h3 := dc.uniq e2
              have : frF f a b x + e + f.kost m = frF f a b m := by omega
              rw [this]; exact frF_dst hf ha hc
          · refine (prev_key hf x3 p1 h0).2 ⟨_, dp, ?_⟩
            have : frF f a b (prevF f (frF f a b) m) - frF f a b x + f.kost m = frF f a b m - frF f a b x := by omega
            rw [this]; exact dc
        rw [wayB_step F2 h0 e, hpe]
        show m :: _ = m :: (L ++ [x])
        congr 1
        exact ih _ (by omega) _ L p3 rfl hst.symm
/-- The rest of a way is the way from there. -/
theorem way_rest (he : findE f a b = 0) (hn : 2 ≤ (findP f a b).length) (hx : (findP f a b).getD 1 default = x) : findP f x b = (findP f a b).tail := by
  obtain ⟨w1, w2, w3, w4, w5, w6, w7⟩ := way_first he hn hx
  obtain ⟨hf, ha, hb, h0, hk, hp⟩ := find_dat he
  obtain ⟨_, _, _, hx0, _, hpx⟩ := find_dat w2
  have hl : (findP f a b).length = (wayB f (frF f a b) a b).length := by rw [hp, List.length_reverse]
  have F := frF_frs hf ha h0
  obtain ⟨h1, h2, h3, h4⟩ := way_part he (n := 1) (by omega) hx
  have h5 : (findP f a b).take 2 = [a, x] := by rw [← h3]; exact w7
  have hrev : wayB f (frF f a b) a b = ((findP f a b).drop 2).reverse ++ [x, a] := by
    have : wayB f (frF f a b) a b = (findP f a b).reverse := by rw [hp, List.reverse_reverse]
    rw [this]
    conv => lhs; rw [← List.take_append_drop 2 (findP f a b), h5]
    simp
  have hxm : x ∈ wayB f (frF f a b) a b := by rw [hrev]; simp
  have ht := way_tail hf ha h0 hxm w6 _ b _ h0 rfl hrev
  rw [hpx, ht, List.reverse_append, List.reverse_reverse]
  conv => rhs; rw [← List.take_append_drop 2 (findP f a b), h5]
  rfl
end
/-- A world with one troop alone. -/
def Wd.alone (W : Wd) (t : Trp) (c : Cel) : Wd := { W with troops := [t.to c] }
theorem findP_ne {f : Fld} {a b : Cel} (he : findE f a b = 0) : 1 ≤ (findP f a b).length ∧ (findP f a b).getD 0 default = a := by
  obtain ⟨hf, ha, hb, h0, hk, hp⟩ := find_dat he
  have F := frF_frs hf ha h0
  have key : ∀ (n : Nat) (c : Cel), 0 ≤ frF f a b c → (frF f a b c).toNat = n → ∃ L, wayB f (frF f a b) a c = L ++ [a] := by
    intro n
    induction n using Nat.strongRecOn with
    | ind n ih =>
      intro c hc hn
      by_cases e : c = a
      · subst e; exact ⟨[], wayB_self F⟩
      · obtain ⟨p1, p2, p3, p4⟩ := F.prev hc e
        have := f.kost_bd (c := c)
        obtain ⟨L, hL⟩ := ih _ (by omega) _ p3 rfl
        exact ⟨c :: L, by rw [wayB_step F hc e, hL]; rfl⟩
  obtain ⟨L, hL⟩ := key _ b h0 rfl
  rw [hp, hL, List.reverse_append]
  exact ⟨by simp, rfl⟩
theorem alone_step {W : Wd} {t : Trp} {c b : Cel} :
    ((Wd.alone W t c).stepped [⟨t.id, b⟩]) = if findE W.field c b = 0 ∧ 2 ≤ (findP W.field c b).length then (Wd.alone W t ((findP W.field c b).getD 1 default), [t.id]) else (Wd.alone W t c, []) := by
  have hg : goK [(⟨t.id, b⟩ : Gox)] ([t.to c].getD 0 default).id = 0 := by
    show idxI (fun g : Gox => g.id == t.id) [(⟨t.id, b⟩ : Gox)] = 0
    simp [idxI, List.findIdx?_cons]
  have hgo : ([(⟨t.id, b⟩ : Gox)].getD (goK [(⟨t.id, b⟩ : Gox)] ([t.to c].getD 0 default).id).toNat default).to = b := by rw [hg]; rfl
  have hsp : ([t.to c].getD 0 default).spot = c := rfl
  by_cases h : findE W.field c b = 0 ∧ 2 ≤ (findP W.field c b).length
  · rw [if_pos h]
    obtain ⟨w1, w2, w3, w4, w5, w6, w7⟩ := way_first h.1 h.2 rfl
    have hoc : occ [t.to c] ((findP W.field c b).getD 1 default) ≤ 0 := by
      have : ¬ 0 < occ [t.to c] ((findP W.field c b).getD 1 default) := by
        rw [occ_pos]
        rintro ⟨s, hs, e⟩
        obtain rfl : s = t.to c := by simpa using hs
        exact w6 e.symm
      omega
    have hs : step1 W.field [⟨t.id, b⟩] [t.to c] 0 = some ((findP W.field c b).getD 1 default) := by
      have := step1_some (f := W.field) (l := [⟨t.id, b⟩]) (T := [t.to c]) (k := 0) (by omega)
      rw [hgo, hsp] at this
      exact this ⟨⟨h.1, by omega⟩, hoc⟩
    have h1 := stS_some (f := W.field) (l := [⟨t.id, b⟩]) (T := [t.to c]) (U := [t.to c]) (M := []) (k := 0) rfl hs
    show (({ W with troops := (stS W.field [⟨t.id, b⟩] [t.to c] 1).1 } : Wd), (stS W.field [⟨t.id, b⟩] [t.to c] 1).2) = _
    rw [h1]; rfl
  · rw [if_neg h]
    have hs : step1 W.field [⟨t.id, b⟩] [t.to c] 0 = none := by
      refine step1_n2 (by omega) ?_
      rw [hgo, hsp]
      left
      by_cases h2 : findE W.field c b = 0
      · right; have : ¬ 2 ≤ (findP W.field c b).length := fun q => h ⟨h2, q⟩
        omega
      · exact .inl h2
    have h1 := stS_none (f := W.field) (l := [⟨t.id, b⟩]) (T := [t.to c]) (U := [t.to c]) (M := []) (k := 0) rfl hs
    show (({ W with troops := (stS W.field [⟨t.id, b⟩] [t.to c] 1).1 } : Wd), (stS W.field [⟨t.id, b⟩] [t.to c] 1).2) = _
    rw [h1]; rfl
theorem alone_reach {W : Wd} {t : Trp} {b : Cel} : ∀ (n : Nat) (c : Cel), findE W.field c b = 0 →
    reachK ⟨t.id, b⟩ n (Wd.alone W t c) = min ((findP W.field c b).length - 1) n ∧ reachV ⟨t.id, b⟩ n (Wd.alone W t c) = Wd.alone W t ((findP W.field c b).getD (min ((findP W.field c b).length - 1) n) default)
  | 0, c, he => by
    obtain ⟨h1, h2⟩ := findP_ne he
    simp only [reachK, reachV, Nat.min_zero]
    exact ⟨trivial, by rw [h2]⟩
  | n + 1, c, he => by
    obtain ⟨h1, h2⟩ := findP_ne he
    have hst := alone_step (W := W) (t := t) (c := c) (b := b)
    by_cases hl : 2 ≤ (findP W.field c b).length
    · rw [if_pos ⟨he, hl⟩] at hst
      obtain ⟨w1, w2, w3, w4, w5, w6, w7⟩ := way_first he hl rfl
      have hr := way_rest he hl rfl
      obtain ⟨i1, i2⟩ := alone_reach (W := W) (t := t) (b := b) n ((findP W.field c b).getD 1 default) w2
      simp only [reachK, reachV, hst, List.length_singleton]
      rw [if_neg (by decide), if_neg (by decide), i1, i2, hr, List.length_tail]
      have hm : min ((findP W.field c b).length - 1) (n + 1) = min ((findP W.field c b).length - 1 - 1) n + 1 := by omega
      rw [hm]
      refine ⟨rfl, ?_⟩
      congr 1
      rw [List.getD_eq_getElem?_getD, List.getElem?_tail, List.getD_eq_getElem?_getD]
    · rw [if_neg (fun q => hl q.2)] at hst
      simp only [reachK, reachV, hst, List.length_nil, if_true]
      have hm : min ((findP W.field c b).length - 1) (n + 1) = 0 := by omega
      rw [hm, h2]; exact ⟨rfl, rfl⟩
theorem alone_stay {W : Wd} {t : Trp} {b c : Cel} (he : ¬ findE W.field c b = 0) : ∀ (n : Nat), reachK ⟨t.id, b⟩ n (Wd.alone W t c) = 0 ∧ reachV ⟨t.id, b⟩ n (Wd.alone W t c) = Wd.alone W t c
  | 0 => ⟨rfl, rfl⟩
  | n + 1 => by
    have hst := alone_step (W := W) (t := t) (c := c) (b := b)
    rw [if_neg (fun q => he q.1)] at hst
    simp only [reachK, reachV, hst, List.length_nil, if_true, and_self]
theorem alone_good {W : Wd} (h : W.chk = 0) {t : Trp} (ht : t ∈ W.troops) : ({ W with troops := [t] } : Wd).chk = 0 := by
  have hG := Good.of_chk h
  have hG2 : Good { W with troops := [t] } := Good.of_pw hG rfl rfl rfl rfl rfl hG.now (by simp) (by simp) fun s hs => by
    obtain rfl : s = t := by simpa using hs
    exact hG.each ht
  exact hG2.chk
/-- Who is alone comes. -/
theorem march_comes {W : Wd} (h : W.chk = 0) {t : Trp} (ht : t ∈ W.troops) (b : Cel) : reachE { W with troops := [t] } t.id 200 = 0 ∧
    (¬ findE W.field t.spot b = 0 → reachN { W with troops := [t] } t.id b 200 = 0 ∧ reachW { W with troops := [t] } t.id b 200 = { W with troops := [t] }) ∧
    (findE W.field t.spot b = 0 → reachN { W with troops := [t] } t.id b 200 = min ((findP W.field t.spot b).length - 1) 200 ∧ reachW { W with troops := [t] } t.id b 200 = { W with troops := [t.to ((findP W.field t.spot b).getD (min ((findP W.field t.spot b).length - 1) 200) default)] }) := by
  have hc := alone_good h ht
  have e1 : reachE { W with troops := [t] } t.id 200 = 0 := by
    refine reach_let hc (by decide) (by decide) ?_
    unfold whichB
    rw [hc]
    simp [idxI, List.findIdx?_cons, isId]
  have ea : ({ W with troops := [t] } : Wd) = Wd.alone W t t.spot := rfl
  refine ⟨e1, fun he => ?_, fun he => ?_⟩
  · obtain ⟨_, e2, e3⟩ := reach_ok (to := b) e1
    obtain ⟨r1, r2⟩ := alone_stay (W := W) (t := t) he 200
    rw [e2, e3]; exact ⟨r1, r2⟩
  · obtain ⟨_, e2, e3⟩ := reach_ok (to := b) e1
    obtain ⟨r1, r2⟩ := alone_reach (W := W) (t := t) (b := b) 200 t.spot he
    rw [e2, e3]; exact ⟨r1, r2⟩
end Go.Proofs.Ytffjpfpbpnhmcaa
