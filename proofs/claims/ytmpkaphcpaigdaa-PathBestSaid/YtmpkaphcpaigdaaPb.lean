import Derived.Test.YtmpkaphcpaigdaaGolB
import Derived.Test.YtmpkaphcpaigdaaFd2
import Derived.Test.YtmpkaphcpaigdaaFldW
import Derived.Test.YtmpkaphcpaigdaaNod
import Derived.Test.YtmpkaphcpaigdaaAsp
set_option linter.unusedVariables false
set_option linter.unusedSimpArgs false
set_option maxRecDepth 100000
set_option maxHeartbeats 4000000
namespace Go.Proofs.Ytmpkaphcpaigdaa
section
open Go.RowKit
def plc (f : Fld) (p : Int) : Cel := ⟨p % f.wide, p / f.wide⟩
abbrev icel (f : Fld) (n : Itm) : Cel := plc f n.place
abbrev FS (f : Fld) (S : List Cel) (far : List Int) (l : List Itm) (x0 : Cel) (rest : List Cel) : Prop := SI (icel f) Itm.far Itm.far f (fun _ => 0) (fun c => c ∈ S) far l x0 rest
def FRes (f : Fld) (S : List Cel) (e : Int) (far : List Int) : Prop := (e = 0 ∧ (f.chk = 0 ∧ S.length ≤ 100 ∧ ∀ c ∈ S, f.ground c = true) ∧ FEnd f S far) ∨ (e ≠ 0 ∧ far = [] ∧ ¬ (f.chk = 0 ∧ S.length ≤ 100 ∧ ∀ c ∈ S, f.ground c = true))
structure FQ (f : Fld) (S : List Cel) (Q : List Itm) : Prop where
 mem : ∀ n ∈ Q, ∃ c ∈ S, n = ⟨c.y * f.wide + c.x, 0⟩
 all : ∀ c ∈ S, f.ground c = true ∧ (⟨c.y * f.wide + c.x, 0⟩ : Itm) ∈ Q
 hp : Hp.Heap Itm.far Q.length Q
 len : Q.length = S.length
section
variable {f : Fld} {S : List Cel} {Q l : List Itm} {c x0 nd : Cel} {far : List Int} {xn : Itm} {rest : List Cel} {k j : Nat}
theorem plc_of (hc : f.isIn c = true) : plc f (c.y * f.wide + c.x) = c := by
 unfold plc; rw [(idx_xy hc).1, (idx_xy hc).2]
theorem plc_idx (p : Int) : (plc f p).y * f.wide + (plc f p).x = p := by
 unfold plc; dsimp only; rw [Int.add_comm, Int.mul_comm]; exact Int.emod_add_mul_ediv p f.wide
theorem FQ.nil : FQ f [] [] := ⟨fun n hn => by simp at hn, fun c hc => by simp at hc, Hp.heap_nil, rfl⟩
theorem FQ.push (h : FQ f (S.take k) Q) (hk : k < S.length) (hc : S.getD k default = c) (hg : f.ground c = true) : FQ f (S.take (k + 1)) (Hp.push Itm.far Q ⟨c.y * f.wide + c.x, 0⟩) := by
 have e : S.take (k + 1) = S.take k ++ [c] := by rw [← hc, getD_dd hk, List.take_append_getElem]
 refine ⟨fun n hn => ?_, fun d hd => ?_, Hp.push_heap h.hp, ?_⟩
 ·rcases List.mem_cons.1 ((Hp.push_perm (key := Itm.far)).subset hn) with rfl | hn
  ·exact ⟨c, by rw [e]; simp, rfl⟩
  ·obtain ⟨d, hd, r⟩ := h.mem n hn
   exact ⟨d, by rw [e]; exact List.mem_append_left _ hd, r⟩
 ·rw [e] at hd
  rcases List.mem_append.1 hd with hd | hd
  ·exact ⟨(h.all d hd).1, (Hp.push_perm (key := Itm.far)).symm.subset (List.mem_cons_of_mem _ (h.all d hd).2)⟩
  ·rw [List.mem_singleton.1 hd]
   exact ⟨hg, (Hp.push_perm (key := Itm.far)).symm.subset List.mem_cons_self⟩
 ·rw [Hp.push_len, h.len, e, List.length_append]; rfl
theorem FQ.end_ (h : FQ f (S.take k) Q) (hk : S.length ≤ k) : FQ f S Q := by rw [List.take_of_length_le hk] at h; exact h
theorem itm_ok (h1 : 0 ≤ xn.place) (h2 : xn.place ≤ 100000) (h3 : 0 ≤ xn.far) (h4 : xn.far ≤ 100000) : xn.ok := ⟨okI_iff.2 (by omega), okI_iff.2 (by omega)⟩
theorem FQ.node (h : FQ f S Q) (hf : f.chk = 0) (hn : xn ∈ Q) : xn.ok := by
 obtain ⟨c, hc, rfl⟩ := h.mem xn hn
 obtain ⟨i1, i2, _⟩ := Fld.idx hf (Fld.ground_in (h.all c hc).1)
 have := Fld.len_le hf
 exact itm_ok (by dsimp only; omega) (by dsimp only; omega) (by dsimp only; omega) (by dsimp only; omega)
theorem fr_all (c : Cel) : f.fr (List.replicate f.places.length (-1)) c = -1 := by
 unfold Fld.fr
 split
 ·rw [List.getD_eq_getElem?_getD, List.getElem?_replicate]; split <;> rfl
 ·rfl
theorem FQ.start (hf : f.chk = 0) (h : FQ f S Q) (x0 : Cel) : FS f S (List.replicate f.places.length (-1)) Q x0 [] := by
 have hci : ∀ n ∈ Q, ∃ c ∈ S, icel f n = c ∧ n.far = 0 ∧ f.ground c = true := fun n hn => by
  obtain ⟨c, hc, rfl⟩ := h.mem n hn
  exact ⟨c, hc, plc_of (Fld.ground_in (h.all c hc).1), rfl, (h.all c hc).1⟩
 refine ⟨List.length_replicate, Gra.Inv.start (fun c => fr_all c) (fun e he => ?_) (fun s hs => ?_), h.hp, fun n hn => ?_, fun c => ?_, fun c hc => ?_⟩
 ·obtain ⟨n, hn, rfl⟩ := List.mem_map.1 he
  obtain ⟨c, hc, h1, h2, _⟩ := hci n hn
  exact ⟨by rw [h1]; exact hc, h2⟩
 ·refine List.mem_map.2 ⟨_, (h.all s hs).2, ?_⟩
  rw [show icel f ⟨s.y * f.wide + s.x, 0⟩ = s from plc_of (Fld.ground_in (h.all s hs).1)]
 ·obtain ⟨c, hc, h1, h2, h3⟩ := hci n hn
  exact ⟨by omega, by rw [h1]; exact h3⟩
 ·rw [fr_all, und_all]; omega
 ·rw [fr_all] at hc; omega
theorem FS.node (s : FS f S far l x0 rest) (hf : f.chk = 0) (hn : xn ∈ l) : f.isIn (icel f xn) = true ∧ xn.place = (icel f xn).y * f.wide + (icel f xn).x ∧ 0 ≤ xn.place ∧ xn.place < 1600 ∧ 0 ≤ xn.far ∧ xn.far ≤ 4803 ∧ xn.ok := by
 obtain ⟨ha, hg⟩ := s.all xn hn
 have hi := Fld.ground_in hg
 obtain ⟨i1, i2, _⟩ := Fld.idx hf hi
 obtain ⟨h1, h2⟩ := s.fa_bd (Fld.okZ f) hn
 have hl := Fld.len_le hf
 have e : (icel f xn).y * f.wide + (icel f xn).x = xn.place := plc_idx xn.place
 refine ⟨hi, e.symm, by omega, by omega, h1, by omega, itm_ok (by omega) (by omega) h1 (by omega)⟩
theorem FS.skip (s : FS f S far l x0 []) (h0 : 0 < l.length) (hx : l.getD 0 default = xn) (hc : icel f xn = c) (hd : 0 ≤ f.fr far c) : FS f S far (Hp.popL Itm.far l) x0 [] := by
 subst hx; subst hc; exact SI.skip0 s h0 hd
theorem FS.new (s : FS f S far l x0 []) (hf : f.chk = 0) (h0 : 0 < l.length) (hx : l.getD 0 default = xn) (hc : icel f xn = c) (hd : f.fr far c < 0) : FS f S (far.set (f.at_ c) xn.far) (Hp.popL Itm.far l) c (((besC f c).drop 0).filter f.ground) ∧ und (far.set (f.at_ c) xn.far) + 1 = und far := by
 subst hx; subst hc
 rw [List.drop_zero, bes_adj]
 exact SI.new s hf (Fld.okZ f) h0 hd
theorem fr_pl (hf : f.chk = 0) (hl : far.length = f.places.length) (hc : f.isIn c = true) (hp : xn.place = c.y * f.wide + c.x) : far[xn.place.toNat]? = some (f.fr far c) ∧ xn.place.toNat < far.length ∧ xn.place.toNat = f.at_ c := by
 rw [hp]
 refine ⟨?_, by rw [hl]; exact (Fld.at_lt hf hc).1, rfl⟩
 rw [Fld.fr_in hc]
 exact get_d (u := -1) (show f.at_ c < far.length by rw [hl]; exact (Fld.at_lt hf hc).1)
theorem fill_step {n i : Nat} {a b : Int} (h : i < n) : (List.replicate i a ++ List.replicate (n - i) b).set i a = List.replicate (i + 1) a ++ List.replicate (n - (i + 1)) b := by
 rw [List.set_append_right _ _ (by simp), List.length_replicate, Nat.sub_self, show n - i = (n - (i + 1)) + 1 by omega, List.replicate_succ, List.set_cons_zero, List.replicate_succ', List.append_assoc]; rfl
theorem bes_len : (besC f c).length ≤ 4 := by unfold besC; exact Nat.le_trans (List.length_filter_le _ _) (Nat.le_refl 4)
theorem besI_len : (besI f c).length = (besC f c).length := List.length_map ..
theorem bes_mem (hj : j < (besC f c).length) (h : (besC f c).getD j default = nd) : nd ∈ sidesC c ∧ f.isIn nd = true := by
 have := mem_dd hj (d := default)
 rw [h] at this
 exact ⟨(List.mem_filter.1 this).1, (List.mem_filter.1 this).2⟩
theorem bes_get (hj : j < (besC f c).length) (h : (besC f c).getD j default = nd) : (besI f c)[j]? = some (nd.y * f.wide + nd.x) := by
 unfold besI; rw [List.getElem?_map, List.getElem?_eq_getElem hj, ← h, getD_dd hj]; rfl
theorem pl_get (hf : f.chk = 0) (hc : f.isIn c = true) : f.places[(c.y * f.wide + c.x).toNat]? = some (f.place c) := get_d (show f.at_ c < f.places.length from (Fld.at_lt hf hc).1)
theorem pl_lt (hf : f.chk = 0) (hc : f.isIn c = true) : (c.y * f.wide + c.x).toNat < f.places.length := (Fld.at_lt hf hc).1
theorem FS.out (s : FS f S far l c (((besC f c).drop j).filter f.ground)) (hj : j < (besC f c).length) (h : (besC f c).getD j default = nd) (hg : f.ground nd = false) : FS f S far l c (((besC f c).drop (j + 1)).filter f.ground) := by
 rw [drop_filter hj, h, if_neg (by rw [hg]; decide)] at s; exact s
theorem FS.known (s : FS f S far l c (((besC f c).drop j).filter f.ground)) (hj : j < (besC f c).length) (h : (besC f c).getD j default = nd) (hg : f.ground nd = true) (hy : 0 ≤ f.fr far nd) : FS f S far l c (((besC f c).drop (j + 1)).filter f.ground) := by
 rw [drop_filter hj, h, if_pos hg] at s; exact s.pass hy
theorem FS.push (s : FS f S far l c (((besC f c).drop j).filter f.ground)) (hj : j < (besC f c).length) (h : (besC f c).getD j default = nd) (hg : f.ground nd = true) {d : Int} (hd : d = f.fr far c + f.kost nd) : FS f S far (Hp.push Itm.far l ⟨nd.y * f.wide + nd.x, d⟩) c (((besC f c).drop (j + 1)).filter f.ground) := by
 rw [drop_filter hj, h, if_pos hg] at s
 exact SI.push s (Fld.okZ f) hg (plc_of (Fld.ground_in hg)) hd (by dsimp only; omega)
theorem FS.done (s : FS f S far l c (((besC f c).drop j).filter f.ground)) (hj : (besC f c).length ≤ j) : FS f S far l c [] := by
 rw [List.drop_eq_nil_of_le hj] at s; exact s
end
end
section
open Go.RowKit
section
variable {f : Fld} {S : List Cel} {c x : Cel} {far : List Int} {d : Int}
def certG (f : Fld) (S : List Cel) (far : List Int) (c : Cel) : Bool :=
 (decide (0 ≤ f.fr far c) || decide (f.fr far c = -1)) &&
 (!decide (0 ≤ f.fr far c) || (f.ground c && ((decide (c ∈ S) && decide (f.fr far c = 0)) || (sidesC c).any fun p => decide (0 ≤ f.fr far p) && decide (f.fr far c = f.fr far p + f.kost c)))) &&
 (!decide (0 ≤ f.fr far c) || (f.adj c).all fun y => decide (0 ≤ f.fr far y) && decide (f.fr far y ≤ f.fr far c + f.kost y)) &&
 decide (f.fr far c ≤ 3 * (f.places.length : Int))
def certE (f : Fld) (S : List Cel) (far : List Int) : Bool := decide (far.length = f.places.length) && (S.all fun a => decide (f.fr far a = 0)) && (allC f).all (certG f S far)
end
def floodFl : Fld := ⟨2, 2, [0, 0, 1, 2]⟩
end
section
open Go.RowKit
theorem Fq_el_flood_queue : ElT Try.prog Itm.rep 71 75 16 := ElT.mk_ (z := Itm.zero) (k := 2) Try.underlying71 Itm.info rfl rfl (by decide) Itm.zero_raw
theorem hcIt {w : World} {cs : List Value} {a : Itm} (h : Itm.rep.has w cs a) : cs = a.cells := And.left (show cs = a.cells ∧ a.ok from h)
theorem xF_len (A : Option Addr) (n c : Nat) (w : World) :
  Calls Try.prog 35 #[.slice A n c] w (fun e w' => e = .returned (.int .i64 (n : Int)) ∧ Ext w w') := by
 refine calls_W (n := 5) Try.func35 rfl rfl rfl ?_
 refine sq <| rg <| vl (as_ rfl) rfl <| nl <| nT <| sq <| rg <| vl (mv rfl) rfl <| vl (ln Try.underlying71 rfl) rfl <| vl (as_ rfl) rfl <| nl <| nT <| rt <| tR (.tmp rfl .nil) <| ?_
 exact ⟨rfl, (Ext.rf w)⟩
theorem xF_less (A : Option Addr) (n c : Nat) (l : List Itm) (i j : Int) (p q : Nat) (w : World) (hl : Itm.rep.SHas 16 w A c l) (hn : l.length = n) (hi : i = (p : Int)) (hj : j = (q : Int)) (hp : p < n) (hq : q < n) :
  Calls Try.prog 119 #[.slice A n c, .int .i64 i, .int .i64 j] w (fun e w' => e = .returned (.bool (decide ((l.getD p default).far < (l.getD q default).far))) ∧ Ext w w') := by
 refine calls_W (n := 18) Try.func119 rfl rfl rfl ?_
 refine sq <| rg <| vl (as_ rfl) rfl <| nl <| nT <| sq <| ?_
 refine rd [(4, 0), (9, 0)] [0, 1, 2, 3, 4, 5, 6, 7, 8, 9, 10, 11] (by kernel_rfl) (by kernel_rfl) ?_
 refine fw rfl rfl (fun _ => mv rfl) rfl <| fw rfl rfl (fun _ => mv rfl) rfl <| fw rfl rfl (fun _ => iA i.toNat Try.underlying71 eF65 rfl rfl ((hl.keep (Ext.rf w)).adr (Nat.zero_lt_of_lt (show i.toNat < _ from (by omega)))) (by omega) (by omega)) rfl <| fw rfl rfl (fun _ => fa eF66 rfl) rfl <| fq rfl rfl (fun _ x => ld rfl (Rep.SHas.fld hcIt ((hl.keep (Ext.tr (Ext.rf w) x)).adh (Nat.zero_lt_of_lt (show i.toNat < _ from (by omega)))) 1 (get_d (l := l) (u := default) (by omega)) rfl eF1)) rfl <| fw rfl rfl (fun _ => mv rfl) rfl <| fw rfl rfl (fun _ => mv rfl) rfl <| fw rfl rfl (fun _ => iA j.toNat Try.underlying71 eF65 rfl rfl ((hl.keep (Ext.rf w)).adr (Nat.zero_lt_of_lt (show j.toNat < _ from (by omega)))) (by omega) (by omega)) rfl <| fw rfl rfl (fun _ => fa eF66 rfl) rfl <| fq rfl rfl (fun _ x => ld rfl (Rep.SHas.fld hcIt ((hl.keep (Ext.tr (Ext.rf w) x)).adh (Nat.zero_lt_of_lt (show j.toNat < _ from (by omega)))) 1 (get_d (l := l) (u := default) (by omega)) rfl eF1)) rfl <| fw rfl rfl (fun _ => blt rfl rfl) rfl <| fw rfl rfl (fun _ => as_ rfl) rfl <| fn fun w_1 x_2 => ?_
 have q_3 := x_2.size
 have z_1 := Ext.tr (Ext.rf w) x_2
 refine nT <| rt <| tR (.tmp rfl .nil) <| ?_
 subst hi hj; exact ⟨by simp only [Int.toNat_natCast]; rfl, z_1⟩
theorem xF_swap (A : Option Addr) (n c Z : Nat) (l : List Itm) (i j : Int) (p q : Nat) (w : World) (HO : Itm.rep.SOwn 75 16 w Z (Rep.blkOf A) A c (l)) (hok : ∀ y ∈ l, y.ok) (hn : l.length = n) (hi : i = (p : Int)) (hj : j = (q : Int)) (hp : p < n) (hq : q < n) :
  Calls Try.prog 120 #[.slice A n c, .int .i64 i, .int .i64 j] w (fun e w' => e = .returned (.tuple #[]) ∧ Itm.rep.SOwn 75 16 w' Z (Rep.blkOf A) A c (Hp.swp l p q) ∧ Mod (Rep.blkOf A) w w') := by
 have uO := fun q hq => (HO.lt q hq).2
 refine calls_W (n := 20) Try.func120 rfl rfl rfl ?_
 refine rd [(7, 0), (11, 0), (13, 3), (15, 3)] [0, 1, 2, 3, 4, 5, 6, 7, 8, 9, 10, 11, 12, 13, 14, 15] (by kernel_rfl) (by kernel_rfl) ?_
 refine fw rfl rfl (fun _ => mv rfl) rfl <| fw rfl rfl (fun _ => mv rfl) rfl <| fw rfl rfl (fun _ => mv rfl) rfl <| fw rfl rfl (fun _ => mv rfl) rfl <| fw rfl rfl (fun _ => mv rfl) rfl <| fw rfl rfl (fun _ => mv rfl) rfl <| fw rfl rfl (fun _ => iA j.toNat Try.underlying71 eF65 rfl rfl (HO.has.adr (Nat.zero_lt_of_lt (show j.toNat < _ from (by first | omega | (rw [List.length_set]; omega))))) (by omega) (by first | omega | (rw [List.length_set]; omega))) rfl <| fq rfl rfl (fun _ x => ld rfl (Rep.SHas.elt hcIt ((HO.later x).has.adh (Nat.zero_lt_of_lt (show j.toNat < _ from (by first | omega | (rw [List.length_set]; omega))))) (get_d (l := l) (u := default) (by first | omega | (rw [List.length_set]; omega))) eF67 eF65)) rfl <| fw rfl rfl (fun _ => mv rfl) rfl <| fw rfl rfl (fun _ => mv rfl) rfl <| fw rfl rfl (fun _ => iA i.toNat Try.underlying71 eF65 rfl rfl (HO.has.adr (Nat.zero_lt_of_lt (show i.toNat < _ from (by first | omega | (rw [List.length_set]; omega))))) (by omega) (by first | omega | (rw [List.length_set]; omega))) rfl <| fq rfl rfl (fun _ x => ld rfl (Rep.SHas.elt hcIt ((HO.later x).has.adh (Nat.zero_lt_of_lt (show i.toNat < _ from (by first | omega | (rw [List.length_set]; omega))))) (get_d (l := l) (u := default) (by first | omega | (rw [List.length_set]; omega))) eF67 eF65)) rfl <| fw rfl rfl (fun _ => iA i.toNat Try.underlying71 eF65 rfl rfl (HO.has.adr (Nat.zero_lt_of_lt (show i.toNat < _ from (by first | omega | (rw [List.length_set]; omega))))) (by omega) (by first | omega | (rw [List.length_set]; omega))) rfl <| fb rfl rfl rfl fun w_1 x_2 Q hK => soE (q' := l.getD j.toNat default) (i := i.toNat) (es := [.int .i64 ((l.getD j.toNat default).place), .int .i64 ((l.getD j.toNat default).far)]) (HO.later x_2) Rep.flat_bare (by first | omega | (rw [List.length_set]; omega)) rfl rfl rfl rfl (fun _ => ⟨rfl, (hok _ (mem_dd (by omega)))⟩) eF65 fun w_3 m_4 O_5 => hK _ _ ?_
 have q_6 := x_2.size
 have z_1 := (Mod.rf (Rep.blkOf A) w).trans (Mod.of_ext x_2)
 have q_7 := m_4.size
 have z_3 := z_1.md m_4 (fun q hq => .inl hq)
 have q_8 := m_4.size
 refine fw rfl rfl (fun _ => iA j.toNat Try.underlying71 eF65 rfl rfl (O_5.has.adr (Nat.zero_lt_of_lt (show j.toNat < _ from (by first | omega | (rw [List.length_set]; omega))))) (by omega) (by first | omega | (rw [List.length_set]; omega))) rfl <| fb rfl rfl rfl fun w_9 x_10 Q hK => soE (q' := l.getD i.toNat default) (i := j.toNat) (es := [.int .i64 ((l.getD i.toNat default).place), .int .i64 ((l.getD i.toNat default).far)]) (O_5.later x_10) Rep.flat_bare (by first | omega | (rw [List.length_set]; omega)) rfl rfl rfl rfl (fun _ => ⟨rfl, (hok _ (mem_dd (by omega)))⟩) eF65 fun w_11 m_12 O_13 => hK _ _ ?_
 have q_14 := x_10.size
 have z_9 := z_3.trans (Mod.of_ext x_10)
 have q_15 := m_12.size
 have z_11 := z_9.md m_12 (fun q hq => .inl hq)
 have q_16 := m_12.size
 refine fn fun w_17 x_18 => ?_
 have q_19 := x_18.size
 have z_17 := z_11.trans (Mod.of_ext x_18)
 refine ne <| tR .nil <| ?_
 have O_13 := O_13.later x_18
 subst hi hj; simp only [Int.toNat_natCast] at O_13; exact ⟨rfl, O_13, z_17⟩
theorem xF_up (b : Nat) (A : Option Addr) (n c Z : Nat) (l : List Itm) (j : Nat) (w : World) (HB : Blk w b [.slice A n c] 71 (0, 0)) (HO : Itm.rep.SOwn 75 16 w Z (Rep.blkOf A) A c (l)) (hok : ∀ y ∈ l, y.ok) (hn : l.length = n) (hd : ∀ q ∈ Rep.blkOf A, q = b → False) (hj : j < n) :
  Calls Try.prog 61 #[.iface 73 (.pointer (some ⟨b, 0, none⟩)), .int .i64 (j : Int)] w (fun e w' => e = .returned (.tuple #[]) ∧ Blk w' b [.slice A n c] 71 (0, 0) ∧ Itm.rep.SOwn 75 16 w' Z (Rep.blkOf A) A c (Hp.upF Itm.far l j) ∧ Mod (Rep.blkOf A) w w') := by
 have uO := fun q hq => (HO.lt q hq).2
 have qB := HB.lt
 have hn63 := HO.has.2.1
 have hn64 := HO.has.len_le
 have hn65 := HO.has.1
 refine calls_W (n := 23) Try.func61 rfl rfl rfl ?_
 refine bk <| ?_
 refine lp (fun mI EI wI => ∃ lm : List Itm, ∃ m : Nat, EI = [(0, .iface 73 (.pointer (some ⟨b, 0, none⟩))), (1, .int .i64 (m : Int))] ∧ mI = (2 * m) ∧ Mod (Rep.blkOf A) w wI ∧ Blk wI b [.slice A n c] 71 (0, 0) ∧ Itm.rep.SOwn 75 16 wI Z (Rep.blkOf A) A c (lm) ∧ (m < n) ∧ (lm.length = n) ∧ (∀ y ∈ lm, y.ok) ∧ (Hp.upF Itm.far lm m = Hp.upF Itm.far l j) ∧ (∀ q ∈ Rep.blkOf A, q = b → False)) _ _ ⟨l, j, rfl, rfl, (Mod.rf (Rep.blkOf A) w), HB, HO, by omega, by omega, hok, rfl, (fun q hq hb => by (exact hd q hq hb))⟩ (.cons rfl (.cons rfl .nil)) ?_
 rintro m_3 E_4 w_2 ⟨lm, m, rfl, rfl, z_2, HB, HOm, hm, hlm, hokm, hup, d_1⟩
 have q_5 := z_2.size
 have q_6 := HB.lt
 have u_7 := fun q hq => (HOm.lt q hq).2
 refine bk <| sq <| rg <| vl (mv rfl) rfl <| vl (bsu rfl rfl (inI (by omega))) rfl <| vl (bquH (r := (((m - 1) / 2 : Nat) : Int)) rfl rfl (by decide) (tdiv_half m) (inI (by omega))) rfl <| vl (as_ rfl) rfl <| nl <| nT <| sq <| sq <| rg <| vl (mv rfl) rfl <| vl (mv rfl) rfl <| vl (beq rfl rfl) rfl <| vl (mv rfl) rfl <| vQ rfl rfl rfl rfl (fun hc => mv rfl) rfl <| vQ rfl rfl rfl rfl (fun hc => mv rfl) rfl <| vQ rfl rfl rfl rfl (fun hc => mv rfl) rfl <| ivC rfl rfl rfl rfl eF69 (fun hc => (gt hc rfl)) (fun hc => ec (gt hc rfl) (ec (gt hc rfl) rfl)) (meth_val (e := 71) (by kernel_rfl) (HB.one eF68 rfl)) (fun hc => xF_less _ _ _ lm (m : Int) ((((m - 1) / 2 : Nat) : Int)) m ((m - 1) / 2) _ HOm.has (by omega) (by omega) (by omega) (by first | omega | (simp only [Bool.or_eq_true, Bool.or_eq_false_iff, Bool.and_eq_true, Bool.and_eq_false_iff, decide_eq_true_eq, decide_eq_false_iff_not, beq_iff_eq, bne_iff_ne, beq_eq_false_iff_ne, bne_eq_false_iff_eq, Bool.not_eq_true', Bool.not_eq_false', Bool.not_eq_true, Bool.not_eq_false, Int.not_lt, Int.not_le, Nat.not_lt, Nat.not_le, ne_eq, Classical.not_not] at hc; omega)) (by first | omega | (simp only [Bool.or_eq_true, Bool.or_eq_false_iff, Bool.and_eq_true, Bool.and_eq_false_iff, decide_eq_true_eq, decide_eq_false_iff_not, beq_iff_eq, bne_iff_ne, beq_eq_false_iff_ne, bne_eq_false_iff_eq, Bool.not_eq_true', Bool.not_eq_false', Bool.not_eq_true, Bool.not_eq_false, Int.not_lt, Int.not_le, Nat.not_lt, Nat.not_le, ne_eq, Classical.not_not] at hc; omega))) rfl fun w_8 x_9 => ?_
 have q_10 := x_9.size
 have z_8 := z_2.trans (Mod.of_ext x_9)
 refine vQ rfl rfl rfl rfl (fun hc => nt (gt hc rfl)) rfl <| vl (pO rfl rfl rfl rfl) rfl <| nl <| nT <| ?_
 refine cb rfl (fun h_11 => ?_) (fun h_11 => ?_)
 ·have hex := Hp.up_exit (key := Itm.far) h_11
  rw [hex] at hup
  refine xt <| xT <| xN rfl <| xK <| xB <| ne <| tR .nil <| ?_
  have HOm := HOm.later x_9
  have HB := HB.later x_9
  exact ⟨rfl, HB, by rw [← hup]; exact HOm, z_8⟩
 ·obtain ⟨hm0, hnx⟩ := Hp.up_more (key := Itm.far) h_11
  refine sk <| nT <| sq <| rg <| vl (mv rfl) rfl <| vl (mv rfl) rfl <| vl (mv rfl) rfl <| ?_
  have HB := HB.later x_9
  have HOm := HOm.later x_9
  refine iv eF70 rfl rfl (meth_val (e := 71) (by kernel_rfl) (HB.one eF68 rfl)) rfl ((xF_swap _ _ _ _ lm ((((m - 1) / 2 : Nat) : Int)) (m : Int) ((m - 1) / 2) m _ HOm hokm (by omega) (by omega) (by omega) (by omega) (by omega)).mono ?_)
  rintro e w_14 ⟨rfl, O_12, m_13⟩
  refine ⟨_, rfl, ?_⟩
  have q_15 := m_13.size
  have z_14 := z_8.md m_13 (fun q hq => .inl hq)
  have hokO_12 : ∀ y ∈ Hp.swp lm ((m - 1) / 2) m, y.ok := fun y hy => hokm y ((Hp.swp_perm (by omega) (by omega)).subset hy)
  have hlenO_12 : (Hp.swp lm ((m - 1) / 2) m).length = n := by rw [Hp.swp_len]; omega
  refine nl <| nT <| rg <| vl (mv rfl) rfl <| vl (as_ rfl) rfl <| nl <| nB <| ?_
  have HB := HB.mod m_13 (fun hq => d_1 _ hq rfl)
  exact nI _ _ ⟨Hp.swp lm ((m - 1) / 2) m, (m - 1) / 2, rfl, rfl, z_14, HB, O_12, by omega, hlenO_12, hokO_12, hnx.symm.trans hup, (fun q hq hb => by (exact d_1 q hq hb))⟩ (by omega) (.cons rfl (.cons (loI rfl (by first | omega | rfl | (simp <;> omega))) .nil))
theorem xF_down (b : Nat) (A : Option Addr) (n c Z : Nat) (l : List Itm) (i N : Nat) (w : World) (HB : Blk w b [.slice A n c] 71 (0, 0)) (HO : Itm.rep.SOwn 75 16 w Z (Rep.blkOf A) A c (l)) (hok : ∀ y ∈ l, y.ok) (hn : l.length = n) (hd : ∀ q ∈ Rep.blkOf A, q = b → False) (hi : i < n) (hN : N ≤ n) (hbig : n ≤ 1000000) :
  Calls Try.prog 62 #[.iface 73 (.pointer (some ⟨b, 0, none⟩)), .int .i64 (i : Int), .int .i64 (N : Int)] w (fun e w' => (∃ v, e = .returned (.bool v)) ∧ Blk w' b [.slice A n c] 71 (0, 0) ∧ Itm.rep.SOwn 75 16 w' Z (Rep.blkOf A) A c (Hp.downF Itm.far N l i) ∧ Mod (Rep.blkOf A) w w') := by
 have uO := fun q hq => (HO.lt q hq).2
 have qB := HB.lt
 have hn63 := HO.has.2.1
 have hn64 := HO.has.len_le
 have hn65 := HO.has.1
 refine calls_W (n := 48) Try.func62 rfl rfl rfl ?_
 refine sq <| rg <| vl (as_ rfl) rfl <| nl <| nT <| sq <| rg <| vl (mv rfl) rfl <| vl (as_ rfl) rfl <| nl <| nT <| sq <| bk <| ?_
 refine lp (fun mI EI wI => ∃ lm : List Itm, ∃ m : Nat, EI = [(0, .iface 73 (.pointer (some ⟨b, 0, none⟩))), (1, .int .i64 (i : Int)), (2, .int .i64 (N : Int)), (6, .bool false), (7, .int .i64 (m : Int))] ∧ mI = N - m ∧ Mod (Rep.blkOf A) w wI ∧ Blk wI b [.slice A n c] 71 (0, 0) ∧ Itm.rep.SOwn 75 16 wI Z (Rep.blkOf A) A c (lm) ∧ (m < n) ∧ (lm.length = n) ∧ (∀ y ∈ lm, y.ok) ∧ (Hp.downF Itm.far N lm m = Hp.downF Itm.far N l i) ∧ (∀ q ∈ Rep.blkOf A, q = b → False)) _ _ ⟨l, i, rfl, rfl, (Mod.rf (Rep.blkOf A) w), HB, HO, by omega, by omega, hok, rfl, (fun q hq hb => by (exact hd q hq hb))⟩ (.cons rfl (.cons rfl (.cons rfl (.cons rfl (.cons rfl .nil))))) ?_
 rintro m_3 E_4 w_2 ⟨lm, m, rfl, rfl, z_2, HB, HOm, hm, hlm, hokm, hup, d_1⟩
 have q_5 := z_2.size
 have q_6 := HB.lt
 have u_7 := fun q hq => (HOm.lt q hq).2
 refine bk <| sq <| rg <| vl (mv rfl) rfl <| vl (bmu rfl rfl (inI (by omega))) rfl <| vl (bad rfl rfl (inI (by omega))) rfl <| vl (as_ rfl) rfl <| nl <| nT <| sq <| sq <| rg <| vl (mv rfl) rfl <| vl (mv rfl) rfl <| vl (bge rfl rfl) rfl <| vl (mv rfl) rfl <| vQ rfl rfl rfl rfl (fun hc => mv rfl) rfl <| vQ rfl rfl rfl rfl (fun hc => blt (gt hc rfl) rfl) rfl <| vl (pO rfl rfl rfl rfl) rfl <| nl <| nT <| ?_
 refine cb rfl (fun h_8 => ?_) (fun h_8 => ?_)
 ·have hex := Hp.dn_exit (key := Itm.far) (l := lm) h_8
  rw [hex] at hup
  refine xt <| xT <| xN rfl <| xK <| xB <| nT <| sq <| rg <| vl (mv rfl) rfl <| vl (mv rfl) rfl <| vl (bgt rfl rfl) rfl <| vl (as_ rfl) rfl <| nl <| nT <| rt <| tR (.tmp rfl .nil) <| ?_
  skip
  exact ⟨⟨_, rfl⟩, HB, by rw [← hup]; exact HOm, z_2⟩
 ·have hc1 := Hp.dn_go h_8
  refine sk <| nT <| sq <| rg <| vl (mv rfl) rfl <| vl (as_ rfl) rfl <| nl <| nT <| sq <| sq <| rg <| vl (mv rfl) rfl <| vl (bad rfl rfl (inI (by omega))) rfl <| vl (as_ rfl) rfl <| nl <| nT <| sq <| rg <| vl (mv rfl) rfl <| vl (mv rfl) rfl <| vl (blt rfl rfl) rfl <| vl (mv rfl) rfl <| vQ rfl rfl rfl rfl (fun hc => mv rfl) rfl <| vQ rfl rfl rfl rfl (fun hc => mv rfl) rfl <| ?_
  refine vQ rfl rfl rfl rfl (fun hc => mv rfl) rfl <| ivC rfl rfl rfl rfl eF69 (fun hc => (gt hc rfl)) (fun hc => ec (gt hc rfl) (ec (gt hc rfl) rfl)) (meth_val (e := 71) (by kernel_rfl) (HB.one eF68 rfl)) (fun hc => xF_less _ _ _ lm (((2 * (m : Int)) + 1) + 1) ((2 * (m : Int)) + 1) (((2 * m) + 1) + 1) ((2 * m) + 1) _ HOm.has (by omega) (by omega) (by omega) (by first | omega | (simp only [Bool.or_eq_true, Bool.or_eq_false_iff, Bool.and_eq_true, Bool.and_eq_false_iff, decide_eq_true_eq, decide_eq_false_iff_not, beq_iff_eq, bne_iff_ne, beq_eq_false_iff_ne, bne_eq_false_iff_eq, Bool.not_eq_true', Bool.not_eq_false', Bool.not_eq_true, Bool.not_eq_false, Int.not_lt, Int.not_le, Nat.not_lt, Nat.not_le, ne_eq, Classical.not_not] at hc; omega)) (by first | omega | (simp only [Bool.or_eq_true, Bool.or_eq_false_iff, Bool.and_eq_true, Bool.and_eq_false_iff, decide_eq_true_eq, decide_eq_false_iff_not, beq_iff_eq, bne_iff_ne, beq_eq_false_iff_ne, bne_eq_false_iff_eq, Bool.not_eq_true', Bool.not_eq_false', Bool.not_eq_true, Bool.not_eq_false, Int.not_lt, Int.not_le, Nat.not_lt, Nat.not_le, ne_eq, Classical.not_not] at hc; omega))) rfl fun w_9 x_10 => ?_
  have q_11 := x_10.size
  have z_9 := z_2.trans (Mod.of_ext x_10)
  refine vl (pA rfl rfl rfl rfl) rfl <| nl <| nT <| ?_
  refine cb rfl (fun h_12 => ?_) (fun h_12 => ?_)
  ·have hlow := Hp.low_two (key := Itm.far) (l := lm) (m := m) h_12
   have hc2 := Hp.low_lt h_12
   refine rg <| vl (mv rfl) rfl <| vl (as_ rfl) rfl <| nl <| nT <| sq <| sq <| rg <| vl (mv rfl) rfl <| vl (mv rfl) rfl <| vl (mv rfl) rfl <| ?_
   have HB := HB.later x_10
   have HOm := HOm.later x_10
   refine iv eF69 rfl rfl (meth_val (e := 71) (by kernel_rfl) (HB.one eF68 rfl)) rfl ((xF_less _ _ _ lm (((2 * (m : Int)) + 1) + 1) (m : Int) (((2 * m) + 1) + 1) m _ HOm.has (by omega) (by omega) (by omega) (by first | omega | (simp only [Bool.or_eq_true, Bool.or_eq_false_iff, Bool.and_eq_true, Bool.and_eq_false_iff, decide_eq_true_eq, decide_eq_false_iff_not, beq_iff_eq, bne_iff_ne, beq_eq_false_iff_ne, bne_eq_false_iff_eq, Bool.not_eq_true', Bool.not_eq_false', Bool.not_eq_true, Bool.not_eq_false, Int.not_lt, Int.not_le, Nat.not_lt, Nat.not_le, ne_eq, Classical.not_not] at hc; omega)) (by first | omega | (simp only [Bool.or_eq_true, Bool.or_eq_false_iff, Bool.and_eq_true, Bool.and_eq_false_iff, decide_eq_true_eq, decide_eq_false_iff_not, beq_iff_eq, bne_iff_ne, beq_eq_false_iff_ne, bne_eq_false_iff_eq, Bool.not_eq_true', Bool.not_eq_false', Bool.not_eq_true, Bool.not_eq_false, Int.not_lt, Int.not_le, Nat.not_lt, Nat.not_le, ne_eq, Classical.not_not] at hc; omega))).mono ?_)
   rintro e w_13 ⟨rfl, x_14⟩
   refine ⟨_, rfl, ?_⟩
   have q_15 := x_14.size
   have z_13 := z_9.trans (Mod.of_ext x_14)
   refine vl (nt rfl) rfl <| nl <| nT <| ?_
   refine cb rfl (fun h_16 => ?_) (fun h_16 => ?_)
   ·have hex := Hp.dn_exit2 (key := Itm.far) hc1 hlow h_16
    rw [hex] at hup
    refine xt <| xT <| xN rfl <| xK <| xB <| nT <| sq <| rg <| vl (mv rfl) rfl <| vl (mv rfl) rfl <| vl (bgt rfl rfl) rfl <| vl (as_ rfl) rfl <| nl <| nT <| rt <| tR (.tmp rfl .nil) <| ?_
    skip
    have HOm := HOm.later x_14
    have HB := HB.later x_14
    exact ⟨⟨_, rfl⟩, HB, by rw [← hup]; exact HOm, z_13⟩
   ·have hnx := Hp.dn_more (key := Itm.far) hc1 hlow h_16
    refine sk <| nT <| sq <| rg <| vl (mv rfl) rfl <| vl (mv rfl) rfl <| vl (mv rfl) rfl <| ?_
    have HB := HB.later x_14
    have HOm := HOm.later x_14
    refine iv eF70 rfl rfl (meth_val (e := 71) (by kernel_rfl) (HB.one eF68 rfl)) rfl ((xF_swap _ _ _ _ lm (m : Int) (((2 * (m : Int)) + 1) + 1) m (((2 * m) + 1) + 1) _ HOm hokm (by omega) (by omega) (by omega) (by omega) (by omega)).mono ?_)
    rintro e w_19 ⟨rfl, O_17, m_18⟩
    refine ⟨_, rfl, ?_⟩
    have q_20 := m_18.size
    have z_19 := z_13.md m_18 (fun q hq => .inl hq)
    have hokO_17 : ∀ y ∈ Hp.swp lm m (((2 * m) + 1) + 1), y.ok := fun y hy => hokm y ((Hp.swp_perm (by omega) (by omega)).subset hy)
    have hlenO_17 : (Hp.swp lm m (((2 * m) + 1) + 1)).length = n := by rw [Hp.swp_len]; omega
    refine nl <| nT <| rg <| vl (mv rfl) rfl <| vl (as_ rfl) rfl <| nl <| nB <| ?_
    have HB := HB.mod m_18 (fun hq => d_1 _ hq rfl)
    exact nI _ _ ⟨Hp.swp lm m (((2 * m) + 1) + 1), 2 * m + 2, rfl, rfl, z_19, HB, O_17, by omega, hlenO_17, hokO_17, hnx.symm.trans hup, (fun q hq hb => by (exact d_1 q hq hb))⟩ (by omega) (.cons rfl (.cons rfl (.cons rfl (.cons rfl (.cons (loI rfl (by first | omega | rfl | (simp <;> omega))) .nil)))))
  ·have hlow := Hp.low_one (key := Itm.far) (l := lm) (m := m) h_12
   refine sk <| nT <| sq <| sq <| rg <| vl (mv rfl) rfl <| vl (mv rfl) rfl <| vl (mv rfl) rfl <| ?_
   have HB := HB.later x_10
   have HOm := HOm.later x_10
   refine iv eF69 rfl rfl (meth_val (e := 71) (by kernel_rfl) (HB.one eF68 rfl)) rfl ((xF_less _ _ _ lm ((2 * (m : Int)) + 1) (m : Int) ((2 * m) + 1) m _ HOm.has (by omega) (by omega) (by omega) (by first | omega | (simp only [Bool.or_eq_true, Bool.or_eq_false_iff, Bool.and_eq_true, Bool.and_eq_false_iff, decide_eq_true_eq, decide_eq_false_iff_not, beq_iff_eq, bne_iff_ne, beq_eq_false_iff_ne, bne_eq_false_iff_eq, Bool.not_eq_true', Bool.not_eq_false', Bool.not_eq_true, Bool.not_eq_false, Int.not_lt, Int.not_le, Nat.not_lt, Nat.not_le, ne_eq, Classical.not_not] at hc; omega)) (by first | omega | (simp only [Bool.or_eq_true, Bool.or_eq_false_iff, Bool.and_eq_true, Bool.and_eq_false_iff, decide_eq_true_eq, decide_eq_false_iff_not, beq_iff_eq, bne_iff_ne, beq_eq_false_iff_ne, bne_eq_false_iff_eq, Bool.not_eq_true', Bool.not_eq_false', Bool.not_eq_true, Bool.not_eq_false, Int.not_lt, Int.not_le, Nat.not_lt, Nat.not_le, ne_eq, Classical.not_not] at hc; omega))).mono ?_)
   rintro e w_21 ⟨rfl, x_22⟩
   refine ⟨_, rfl, ?_⟩
   have q_23 := x_22.size
   have z_21 := z_9.trans (Mod.of_ext x_22)
   refine vl (nt rfl) rfl <| nl <| nT <| ?_
   refine cb rfl (fun h_24 => ?_) (fun h_24 => ?_)
   ·have hex := Hp.dn_exit2 (key := Itm.far) hc1 hlow h_24
    rw [hex] at hup
    refine xt <| xT <| xN rfl <| xK <| xB <| nT <| sq <| rg <| vl (mv rfl) rfl <| vl (mv rfl) rfl <| vl (bgt rfl rfl) rfl <| vl (as_ rfl) rfl <| nl <| nT <| rt <| tR (.tmp rfl .nil) <| ?_
    skip
    have HOm := HOm.later x_22
    have HB := HB.later x_22
    exact ⟨⟨_, rfl⟩, HB, by rw [← hup]; exact HOm, z_21⟩
   ·have hnx := Hp.dn_more (key := Itm.far) hc1 hlow h_24
    refine sk <| nT <| sq <| rg <| vl (mv rfl) rfl <| vl (mv rfl) rfl <| vl (mv rfl) rfl <| ?_
    have HB := HB.later x_22
    have HOm := HOm.later x_22
    refine iv eF70 rfl rfl (meth_val (e := 71) (by kernel_rfl) (HB.one eF68 rfl)) rfl ((xF_swap _ _ _ _ lm (m : Int) ((2 * (m : Int)) + 1) m ((2 * m) + 1) _ HOm hokm (by omega) (by omega) (by omega) (by omega) (by omega)).mono ?_)
    rintro e w_27 ⟨rfl, O_25, m_26⟩
    refine ⟨_, rfl, ?_⟩
    have q_28 := m_26.size
    have z_27 := z_21.md m_26 (fun q hq => .inl hq)
    have hokO_25 : ∀ y ∈ Hp.swp lm m ((2 * m) + 1), y.ok := fun y hy => hokm y ((Hp.swp_perm (by omega) (by omega)).subset hy)
    have hlenO_25 : (Hp.swp lm m ((2 * m) + 1)).length = n := by rw [Hp.swp_len]; omega
    refine nl <| nT <| rg <| vl (mv rfl) rfl <| vl (as_ rfl) rfl <| nl <| nB <| ?_
    have HB := HB.mod m_26 (fun hq => d_1 _ hq rfl)
    exact nI _ _ ⟨Hp.swp lm m ((2 * m) + 1), 2 * m + 1, rfl, rfl, z_27, HB, O_25, by omega, hlenO_25, hokO_25, hnx.symm.trans hup, (fun q hq hb => by (exact d_1 q hq hb))⟩ (by omega) (.cons rfl (.cons rfl (.cons rfl (.cons rfl (.cons (loI rfl (by first | omega | rfl | (simp <;> omega))) .nil)))))
theorem xF_qpush (b : Nat) (A : Option Addr) (c Z : Nat) (l : List Itm) (x : Itm) (w : World) (HB : Blk w b [.slice A l.length c] 71 (0, 0)) (HO : Itm.rep.SOwn 75 16 w Z (Rep.blkOf A) A c (l)) (hok : ∀ y ∈ l, y.ok) (hd : ∀ q ∈ Rep.blkOf A, q = b → False) (hx : x.ok) (hbig : l.length ≤ 1000000) (hZ : Z ≤ w.heap.size) :
  Calls Try.prog 122 #[.pointer (some ⟨b, 0, none⟩), .iface 75 (.agg #[.int .i64 x.place, .int .i64 x.far])] w (fun e w' => ∃ A' c', e = .returned (.tuple #[]) ∧ Blk w' b [.slice A' (l ++ [x]).length c'] 71 (0, 0) ∧ Itm.rep.SOwn 75 16 w' Z (Rep.blkOf A') A' c' (l ++ [x]) ∧ (∀ q ∈ Rep.blkOf A', q ∈ Rep.blkOf A ∨ w.heap.size ≤ q) ∧ Mod (b :: Rep.blkOf A) w w') := by
 have uO := fun q hq => (HO.lt q hq).2
 have qB := HB.lt
 have hn63 := HO.has.2.1
 have hn64 := HO.has.len_le
 have hn65 := HO.has.1
 refine calls_W (n := 13) Try.func122 rfl rfl rfl ?_
 refine rd [(3, 0), (6, 2), (7, 3), (9, 3)] [0, 1, 2, 3, 4, 5, 6, 7, 8, 9] (by kernel_rfl) (by kernel_rfl) ?_
 refine fw rfl rfl (fun _ => mv rfl) rfl <| fw rfl rfl (fun _ => mv rfl) rfl <| fw rfl rfl (fun _ => nc rfl) rfl <| fq rfl rfl (fun _ x => ld rfl ((HB.later x).one eF68 rfl)) rfl <| fw rfl rfl (fun _ => mv rfl) rfl <| fw rfl rfl (fun _ => tyA (fun w => by kernel_rfl) rfl) rfl <| fx rfl rfl rfl fun w_1 x_2 Q hK => bs (e := 75) (cs := [.int .i64 x.place, .int .i64 x.far]) rfl (fun _ => by kernel_rfl) rfl fun w_3 b_4 x_5 l_6 B_7 => hK _ _ ⟨Ext.tr x_2 x_5, ?_⟩
 have q_8 := x_2.size
 have z_1 := (Mod.rf (b :: Rep.blkOf A) w).trans (Mod.of_ext x_2)
 have q_9 := x_5.size
 have z_3 := z_1.trans (Mod.of_ext x_5)
 have q_10 := B_7.lt
 have HO := HO.later (Ext.tr x_2 x_5)
 refine fb rfl rfl rfl fun w_11 x_12 Q hK => ap Fq_el_flood_queue Rep.flat_bare (HO.later x_12) ((Blk.has1 (R := Itm.rep) (by_ := 16) (q := x) B_7 ⟨rfl, hx⟩ (by decide)).keep x_12) rfl rfl (by simp only [List.length_cons, List.length_nil]; omega) (by simp only [List.length_cons, List.length_nil]; omega) (by have := x_12.size; omega) rfl fun w_13 A_14 c_15 m_16 O_17 g_18 n_19 => hK _ _ ?_
 have q_20 := x_12.size
 have z_11 := z_3.trans (Mod.of_ext x_12)
 have q_21 := m_16.size
 have z_13 := z_11.md m_16 (fun q hq => .inl (List.mem_cons_of_mem _ hq))
 have u_22 := fun q hq => (O_17.lt q hq).2
 have q_23 := m_16.size
 refine fw rfl rfl (fun _ => nc rfl) rfl <| ?_
 have HB := HB.later (Ext.tr x_2 (Ext.tr x_5 x_12))
 have HB := HB.mod m_16 (fun hq => hd _ hq rfl)
 refine fb rfl rfl rfl fun w_24 x_25 Q hK => st (new := [.slice A_14 ((l ++ [x]).length) c_15]) rfl rfl (HB.later x_25) rfl eF71 rfl rfl rfl fun w_26 m_27 HB => hK _ _ ?_
 have q_29 := x_25.size
 have z_24 := z_13.trans (Mod.of_ext x_25)
 have q_30 := m_27.size
 have z_26 := z_24.md m_27 (fun q hq => .inl (by rw [List.mem_singleton.1 hq]; exact List.mem_cons_self))
 have q_28 := m_27.size
 refine fn fun w_31 x_32 => ?_
 have q_33 := x_32.size
 have z_31 := z_26.trans (Mod.of_ext x_32)
 refine ne <| tR .nil <| ?_
 have O_17 := O_17.later x_25
 have O_17 := O_17.mod m_27 (fun q hq h => by have hb := List.mem_singleton.1 h; exfalso; (exact Or.elim (g_18 q hq) (fun k_34 => by (exact hd q k_34 hb)) (fun k_34 => by omega)))
 have O_17 := O_17.later x_32
 have HB := HB.later x_32
 exact ⟨A_14, c_15, rfl, HB, O_17, (fun q hq => (g_18 q hq).imp id fun h => by omega), z_31⟩
theorem xF_qpop (b : Nat) (A : Option Addr) (n c Z : Nat) (l : List Itm) (w : World) (HB : Blk w b [.slice A n c] 71 (0, 0)) (HO : Itm.rep.SOwn 75 16 w Z (Rep.blkOf A) A c (l)) (hok : ∀ y ∈ l, y.ok) (hn : l.length = n) (hd : ∀ q ∈ Rep.blkOf A, q = b → False) (h0 : 0 < n) :
  Calls Try.prog 121 #[.pointer (some ⟨b, 0, none⟩)] w (fun e w' => e = .returned (.iface 75 (.agg ((l.getD (n - 1) default).cells).toArray)) ∧ Blk w' b [.slice A (n - 1) c] 71 (0, 0) ∧ Itm.rep.SOwn 75 16 w' Z (Rep.blkOf A) A c (l.take (n - 1)) ∧ Mod (b :: Rep.blkOf A) w w') := by
 have uO := fun q hq => (HO.lt q hq).2
 have qB := HB.lt
 have hn63 := HO.has.2.1
 have hn64 := HO.has.len_le
 have hn65 := HO.has.1
 refine calls_W (n := 23) Try.func121 rfl rfl rfl ?_
 refine sq <| rg <| vl (as_ rfl) rfl <| nl <| nT <| sq <| rg <| vl (mv rfl) rfl <| vl (nc rfl) rfl <| vl (ld rfl (HB.one eF68 rfl)) rfl <| vl (as_ rfl) rfl <| nl <| nT <| sq <| rg <| vl (mv rfl) rfl <| vl (mv rfl) rfl <| vl (ln Try.underlying71 rfl) rfl <| vl (bsu rfl rfl (inI (by omega))) rfl <| vl (iA (((n : Int) - 1).toNat) Try.underlying71 eF65 rfl rfl (HO.has.adr (Nat.zero_lt_of_lt (show ((n : Int) - 1).toNat < _ from (by omega)))) (by omega) (by omega)) rfl <| vl (ld rfl (Rep.SHas.elt hcIt (HO.has.adh (Nat.zero_lt_of_lt (show ((n : Int) - 1).toNat < _ from (by omega)))) (get_d (l := l) (u := default) (by omega)) eF67 eF65)) rfl <| al rfl eF72 rfl rfl fun w_1 b_2 x_3 l_4 B_5 => ?_
 have q_6 := x_3.size
 have z_1 := (Mod.rf (b :: Rep.blkOf A) w).trans (Mod.of_ext x_3)
 have q_7 := B_5.lt
 refine st (new := [.int .i64 ((l.getD (((n : Int) - 1).toNat) default).place), .int .i64 ((l.getD (((n : Int) - 1).toNat) default).far)]) rfl rfl B_5 rfl eF65 rfl rfl rfl fun w_8 m_9 B_5 => ?_
 have q_11 := m_9.size
 have z_8 := z_1.md m_9 (fun q hq => .inr (by have := List.mem_singleton.1 hq; omega))
 have q_10 := m_9.size
 refine nl <| nT <| sq <| rg <| vl (mv rfl) rfl <| vl (mv rfl) rfl <| vl (mv rfl) rfl <| vl (ln Try.underlying71 rfl) rfl <| vl (bsu rfl rfl (inI (by omega))) rfl <| vl (sP (n - 1) (n - 1) Try.underlying71 eF65 rfl rfl (by omega) (by omega) rfl) rfl <| vl (nc rfl) rfl <| ?_
 have HB := HB.later x_3
 have HB := HB.mod m_9 (nm1 (by omega))
 refine st (new := [.slice A (n - 1) c]) rfl rfl HB rfl eF71 rfl rfl rfl fun w_12 m_13 HB => ?_
 have q_15 := m_13.size
 have z_12 := z_8.md m_13 (fun q hq => .inl (by rw [List.mem_singleton.1 hq]; exact List.mem_cons_self))
 have q_14 := m_13.size
 refine nl <| nT <| sq <| rg <| ?_
 have B_5 := B_5.mod m_13 (nm1 (by omega))
 refine vl (ld rfl (B_5.all eF67 eF65)) rfl <| vl (mkI (fun w => by kernel_rfl) rfl) rfl <| vl (as_ rfl) rfl <| nl <| nT <| rt <| tR (.tmp rfl .nil) <| ?_
 have HO := HO.later x_3
 have HO := HO.mod m_9 (fk1 uO (by omega))
 have HO := HO.mod m_13 (fun q hq h => by have hb := List.mem_singleton.1 h; exfalso; (exact hd q hq hb))
 exact ⟨by rw [show ((n : Int) - 1).toNat = n - 1 by omega]; rfl, HB, Rep.SOwn.cut HO Rep.flat_bare (n - 1) (by omega), z_12⟩
theorem xF_push (b : Nat) (A : Option Addr) (c Z : Nat) (l : List Itm) (x : Itm) (w : World) (HB : Blk w b [.slice A l.length c] 71 (0, 0)) (HO : Itm.rep.SOwn 75 16 w Z (Rep.blkOf A) A c (l)) (hok : ∀ y ∈ l, y.ok) (hd : ∀ q ∈ Rep.blkOf A, q = b → False) (hx : x.ok) (hbig : l.length ≤ 1000000) (hZ : Z ≤ w.heap.size) :
  Calls Try.prog 34 #[.iface 73 (.pointer (some ⟨b, 0, none⟩)), .iface 75 (.agg #[.int .i64 x.place, .int .i64 x.far])] w (fun e w' => ∃ A' c', e = .returned (.tuple #[]) ∧ Blk w' b [.slice A' (Hp.push Itm.far l x).length c'] 71 (0, 0) ∧ Itm.rep.SOwn 75 16 w' Z (Rep.blkOf A') A' c' (Hp.push Itm.far l x) ∧ (∀ q ∈ Rep.blkOf A', q ∈ Rep.blkOf A ∨ w.heap.size ≤ q) ∧ Mod (b :: Rep.blkOf A) w w') := by
 have uO := fun q hq => (HO.lt q hq).2
 have qB := HB.lt
 have hn63 := HO.has.2.1
 have hn64 := HO.has.len_le
 have hn65 := HO.has.1
 refine calls_W (n := 12) Try.func34 rfl rfl rfl ?_
 refine sq <| rg <| vl (mv rfl) rfl <| vl (mv rfl) rfl <| iv eF73 rfl rfl (by unfold Meth; kernel_rfl) rfl ((xF_qpush b A c Z l  x _ HB HO hok hd hx (by omega) hZ).mono ?_)
 rintro e w_2 ⟨A1, c1, rfl, HB1, HO1, hg1, m_1⟩
 refine ⟨_, rfl, ?_⟩
 have q_3 := m_1.size
 have z_2 := (Mod.rf (b :: Rep.blkOf A) w).md m_1 (fun q hq => .inl hq)
 have hll : (l ++ [x]).length = l.length + 1 := by rw [List.length_append]; rfl
 have uO1 := fun q hq => (HO1.lt q hq).2
 have qB1 := HB1.lt
 have hd1 : ∀ q ∈ Rep.blkOf A1, q = b → False := fun q hq e => (hg1 q hq).elim (fun h => hd q h e) (fun h => by omega)
 have hok1 : ∀ y ∈ l ++ [x], y.ok := fun y hy => (List.mem_append.1 hy).elim (hok y) fun h => by rw [List.mem_singleton.1 h]; exact hx
 refine nl <| nT <| rg <| vl (mv rfl) rfl <| vl (mv rfl) rfl <| iv eF74 rfl rfl (meth_val (e := 71) (by kernel_rfl) (HB1.one eF68 rfl)) rfl ((xF_len _ ((l ++ [x]).length) _ _).mono ?_)
 rintro e w_4 ⟨rfl, x_5⟩
 refine ⟨_, rfl, ?_⟩
 have q_6 := x_5.size
 have z_4 := z_2.trans (Mod.of_ext x_5)
 refine vl (bsu rfl rfl (inI (by omega))) rfl <| ?_
 have HO1 := HO1.later x_5
 have HB1 := HB1.later x_5
 refine ca eF17 rfl rfl (((show Calls _ _ #[_, .int .i64 (((l ++ [x]).length : Int) - 1)] _ _ from (by rw [show ((l ++ [x]).length : Int) - 1 = (l.length : Int) by rw [hll]; omega]; exact xF_up b A1 (l ++ [x]).length c1 Z (l ++ [x])  l.length _ HB1 HO1 hok1 rfl hd1 (by omega)))).mono ?_)
 rintro e w_8 ⟨rfl, HB2, HO2, m_7⟩
 refine ⟨_, rfl, ?_⟩
 have q_9 := m_7.size
 have z_8 := z_4.md m_7 (fun q hq => (hg1 q hq).imp (List.mem_cons_of_mem _) fun h => by omega)
 refine nl <| ne <| tR .nil <| ?_
 exact ⟨A1, c1, rfl, by rw [show (Hp.push Itm.far l x).length = (l ++ [x]).length by rw [Hp.push_len, hll]]; exact HB2, HO2, hg1, z_8⟩
theorem xF_pop (b : Nat) (A : Option Addr) (n c Z : Nat) (l : List Itm) (w : World) (HB : Blk w b [.slice A n c] 71 (0, 0)) (HO : Itm.rep.SOwn 75 16 w Z (Rep.blkOf A) A c (l)) (hok : ∀ y ∈ l, y.ok) (hn : l.length = n) (hd : ∀ q ∈ Rep.blkOf A, q = b → False) (h0 : 0 < n) (hbig : n ≤ 1000000) :
  Calls Try.prog 36 #[.iface 73 (.pointer (some ⟨b, 0, none⟩))] w (fun e w' => e = .returned (.iface 75 (.agg (l.getD 0 default).cells.toArray)) ∧ Blk w' b [.slice A (Hp.popL Itm.far l).length c] 71 (0, 0) ∧ Itm.rep.SOwn 75 16 w' Z (Rep.blkOf A) A c (Hp.popL Itm.far l) ∧ Mod (b :: Rep.blkOf A) w w') := by
 have uO := fun q hq => (HO.lt q hq).2
 have qB := HB.lt
 have hn63 := HO.has.2.1
 have hn64 := HO.has.len_le
 have hn65 := HO.has.1
 refine calls_W (n := 15) Try.func36 rfl rfl rfl ?_
 refine sq <| rg <| vl (as_ rfl) rfl <| nl <| nT <| sq <| rg <| vl (mv rfl) rfl <| iv eF74 rfl rfl (meth_val (e := 71) (by kernel_rfl) (HB.one eF68 rfl)) rfl ((xF_len _ n _ _).mono ?_)
 rintro e w_1 ⟨rfl, x_2⟩
 refine ⟨_, rfl, ?_⟩
 have q_3 := x_2.size
 have z_1 := (Mod.rf (b :: Rep.blkOf A) w).trans (Mod.of_ext x_2)
 refine vl (bsu rfl rfl (inI (by omega))) rfl <| vl (as_ rfl) rfl <| nl <| nT <| sq <| rg <| vl (mv rfl) rfl <| vl (mv rfl) rfl <| ?_
 have HB := HB.later x_2
 have HO := HO.later x_2
 refine iv eF70 rfl rfl (meth_val (e := 71) (by kernel_rfl) (HB.one eF68 rfl)) rfl ((xF_swap _ _ _ _ l 0 ((n : Int) - 1) 0 (n - 1) _ HO hok (by omega) (by omega) (by omega) (by omega) (by omega)).mono ?_)
 rintro e w_6 ⟨rfl, O_4, m_5⟩
 refine ⟨_, rfl, ?_⟩
 have q_7 := m_5.size
 have z_6 := z_1.md m_5 (fun q hq => .inl (List.mem_cons_of_mem _ hq))
 have hokO_4 : ∀ y ∈ Hp.swp l 0 (n - 1), y.ok := fun y hy => hok y ((Hp.swp_perm (by omega) (by omega)).subset hy)
 have hlenO_4 : (Hp.swp l 0 (n - 1)).length = n := by rw [Hp.swp_len]; omega
 refine nl <| nT <| sq <| rg <| vl (mv rfl) rfl <| vl (mv rfl) rfl <| ?_
 have HB := HB.mod m_5 (fun hq => hd _ hq rfl)
 refine ca eF18 rfl rfl (((show Calls _ _ #[_, .int .i64 0, .int .i64 ((n : Int) - 1)] _ _ from (by rw [show (n : Int) - 1 = ((n - 1 : Nat) : Int) by omega]; exact xF_down b A n c Z (Hp.swp l 0 (n - 1))  0 (n - 1) _ HB O_4 hokO_4 (by omega) hd (by omega) (by omega) hbig))).mono ?_)
 rintro e w_10 ⟨⟨vb_, rfl⟩, HB1, O_8, m_9⟩
 refine ⟨_, rfl, ?_⟩
 have q_11 := m_9.size
 have z_10 := z_6.md m_9 (fun q hq => .inl (List.mem_cons_of_mem _ hq))
 have hokO_8 : ∀ y ∈ Hp.downF Itm.far (n - 1) (Hp.swp l 0 (n - 1)) 0, y.ok := fun y hy => hokO_4 y ((Hp.downF_perm _ _ _ _ (Nat.le_refl _) (by omega) (by omega)).subset hy)
 have hlenO_8 : (Hp.downF Itm.far (n - 1) (Hp.swp l 0 (n - 1)) 0).length = n := by rw [Hp.downF_len _ _ _ _ (Nat.le_refl _)]; omega
 have uO1 := fun q hq => (O_8.lt q hq).2
 refine nl <| nT <| sq <| rg <| vl (mv rfl) rfl <| iv eF75 rfl rfl (by unfold Meth; kernel_rfl) rfl ((xF_qpop b A n c Z (Hp.downF Itm.far (n - 1) (Hp.swp l 0 (n - 1)) 0)  _ HB1 O_8 hokO_8 (by omega) hd h0).mono ?_)
 rintro e w_13 ⟨rfl, HB9, HO9, m_12⟩
 refine ⟨_, rfl, ?_⟩
 have q_14 := m_12.size
 have z_13 := z_10.md m_12 (fun q hq => .inl hq)
 refine vl (as_ rfl) rfl <| nl <| nT <| rt <| tR (.tmp rfl .nil) <| ?_
 subst hn; exact ⟨by rw [← Hp.popD_last (key := Itm.far) h0]; rfl, by rw [Hp.popL_len]; exact HB9, HO9, z_13⟩
end
section
open Go.RowKit
theorem from_any (f : Fld) (S : List Cel) (P A : Option Addr) (pc ac : Nat) (w : World) (hP : repI.SHas 8 w P pc f.places) (hS : Cel.rep.SHas 16 w A ac S) :
  Calls Try.prog 14 #[.agg #[.int .i64 f.wide, .int .i64 f.high, .slice P f.places.length pc], .slice A S.length ac] w (fun e w' => ∃ e' A' k far, e = .returned (.tuple #[.slice A' (far : List Int).length k, .int .i64 e']) ∧ repI.SOwn 3 8 w' w.heap.size (Rep.blkOf A') A' k far ∧ FRes f S e' far ∧ Ext w w') := by
 refine calls_W (n := 130) Try.func14 rfl rfl rfl ?_
 refine sq <| rg <| bx rfl rfl rfl rfl fun w_1 b_2 x_3 l_4 B_5 => ?_
 have q_6 := x_3.size
 have z_1 := Ext.tr (Ext.rf w) x_3
 have q_7 := B_5.lt
 refine vl (as_ rfl) rfl <| vl (as_ rfl) rfl <| nl <| nT <| sq <| sq <| rg <| vl (ld rfl (B_5.all eF22 eF23)) rfl <| ca eF50 rfl rfl ((fldCheck f _ _ _ (hP.keep z_1)).mono ?_)
 rintro e w_8 ⟨rfl, x_9⟩
 refine ⟨_, rfl, ?_⟩
 have q_10 := x_9.size
 have z_8 := Ext.tr z_1 x_9
 refine vl (as_ rfl) rfl <| nl <| nT <| sq <| rg <| vl (mv rfl) rfl <| vl (bne rfl rfl) rfl <| nl <| nT <| ?_
 refine cne rfl (fun h_11 => ?_) (fun h_11 => ?_)
 ·refine sq <| rg <| vl (mv rfl) rfl <| vl (as_ rfl) rfl <| vl (as_ rfl) rfl <| nl <| nT <| rt <| tT <| tR (.tmp rfl (.tmp rfl .nil)) <| ?_
  exact ⟨f.chk, none, 0, [], rfl, Rep.SOwn.nil _, .inr ⟨h_11, rfl, fun h_ => h_11 h_.1⟩, z_8⟩
 ·have hf : f.chk = 0 := by first | exact h_11 | (have h9 := h_11; omega)
  obtain ⟨g1, g2, g3, g4, g5, g6⟩ := Fld.good hf
  have hl16 := Fld.len_le hf
  refine sk <| nT <| sq <| sq <| rg <| vl (mv rfl) rfl <| vl (ln Try.underlying25 rfl) rfl <| vl (bgt rfl rfl) rfl <| nl <| nT <| ?_
  refine clt rfl (fun h_12 => ?_) (fun h_12 => ?_)
  ·refine sq <| rg <| vl (as_ rfl) rfl <| vl (as_ rfl) rfl <| nl <| nT <| rt <| tT <| tR (.tmp rfl (.tmp rfl .nil)) <| ?_
   exact ⟨2, none, 0, [], rfl, Rep.SOwn.nil _, .inr ⟨by decide, rfl, fun h_ => by have := h_.2.1; omega⟩, z_8⟩
  ·have hS100 : S.length ≤ 100 := by omega
   refine sk <| nT <| sq <| rg <| vl (fa eF45 rfl) rfl <| ?_
   have B_5 := B_5.later x_9
   refine vl (ld rfl (B_5.one eF35 rfl)) rfl <| vl (ln Try.underlying22 rfl) rfl <| mO (R := repI) (by_ := 8) (B := w.heap.size) (c := f.places.length) (zv := (.int .i64 0)) (q := 0) Rep.flat_plain Try.underlying22 info_int rfl rfl (fun j u h => raw0I j u h) (fun _ => ⟨rfl, okI_iff.2 (by decide)⟩) rfl rfl rfl (by omega) (by omega) (by omega) fun w_13 b_14 x_15 l_16 O_17 => ?_
   have q_18 := x_15.size
   have z_13 := Ext.tr z_8 x_15
   have u_19 := fun q hq => (O_17.lt q hq).2
   have lo_20 : ∀ q ∈ Rep.blkOf (some ⟨b_14, 0, none⟩), b_14 ≤ q := fun q hq => Nat.le_of_eq (List.mem_singleton.1 hq).symm
   refine vl (as_ rfl) rfl <| nl <| nT <| sq <| sq <| rg <| vl (mv rfl) rfl <| vl (ln Try.underlying22 rfl) rfl <| vl (mv rfl) rfl <| nl <| nT <| bk <| ?_
   have B_5 := B_5.later x_15
   refine lp (fun mI EI wI => ∃ i : Nat, ∃ fl : List Int, EI = [(1, .slice A S.length ac), (2, .pointer (some ⟨b_2, 0, none⟩)), (4, .slice none 0 0), (5, .int .i64 0), (7, .slice (some ⟨b_14, 0, none⟩) f.places.length f.places.length), (32, .int .i64 (f.places.length : Int)), (33, .int .i64 (i : Int))] ∧ mI = f.places.length - i ∧ Ext w wI ∧ Blk wI b_2 [.int .i64 f.wide, .int .i64 f.high, .slice P f.places.length pc] 24 (0, 0) ∧ repI.SOwn 3 8 wI w.heap.size (Rep.blkOf (some ⟨b_14, 0, none⟩)) (some ⟨b_14, 0, none⟩) f.places.length (fl) ∧ (i ≤ f.places.length) ∧ (fl = List.replicate i (-1) ++ List.replicate (f.places.length - i) 0) ∧ (∀ q ∈ Rep.blkOf (some ⟨b_14, 0, none⟩), q = b_2 → False)) _ _ ⟨0, List.replicate f.places.length 0, rfl, rfl, z_13, B_5, O_17, by omega, by simp, (fun q hq hb => by (have := lo_20 q hq; omega))⟩ (.cons rfl (.cons rfl (.cons rfl (.cons rfl (.cons rfl (.cons rfl (.cons (loI rfl (by first | omega | rfl | (simp <;> omega))) .nil))))))) ?_
   rintro m_23 E_24 w_22 ⟨i, fl, rfl, rfl, z_22, B_5, HF0, hi, hfl, d_21⟩
   have q_25 := z_22.size
   have q_26 := B_5.lt
   have u_27 := fun q hq => (HF0.lt q hq).2
   have hfll : fl.length = f.places.length := by rw [hfl, List.length_append, List.length_replicate, List.length_replicate]; omega
   refine sq <| rg <| vl (blt rfl rfl) rfl <| nl <| nT <| sq <| ?_
   refine clt rfl (fun h_28 => ?_) (fun h_28 => ?_)
   ·refine sk <| nT <| sq <| bk <| sq <| rg <| vl (mv rfl) rfl <| vl (as_ rfl) rfl <| nl <| nT <| rg <| vl (mv rfl) rfl <| vl (mv rfl) rfl <| vl (iA i Try.underlying22 eF36 rfl rfl (HF0.has.adr (Nat.zero_lt_of_lt (show i < _ from (by omega)))) rfl (by omega)) rfl <| so (q' := -1) (j := 0) (i := i) HF0 Rep.flat_bare (get_d (l := fl) (u := 0) (by omega)) rfl rfl rfl rfl (fun _ cs h => by have ok_ := (show _ ∧ _ from h).2; obtain rfl := hcI h; exact ⟨rfl, okI_iff.2 (by omega)⟩) rfl rfl eF36 fun w_29 m_30 O_31 => ?_
    have q_32 := m_30.size
    have z_29 := Ext.mod z_22 m_30 (fun q hq => Nat.le_trans (by omega) (HF0.lt q hq).1)
    have q_33 := m_30.size
    refine nl <| nB <| nT <| rg <| vl (bad rfl rfl (inI (by omega))) rfl <| vl (mv rfl) rfl <| nl <| ?_
    have B_5 := B_5.mod m_30 (fun hq => d_21 _ hq rfl)
    exact nI _ _ ⟨i + 1, (fl).set i (-1), rfl, rfl, z_29, B_5, O_31, by omega, by first | (rw [hfl]; exact fill_step (by omega)) | (have hfl_ := hfl; subst hfl_; exact fill_step (by omega)), (fun q hq hb => by (exact d_21 q hq hb))⟩ (by omega) (.cons rfl (.cons rfl (.cons rfl (.cons rfl (.cons rfl (.cons rfl (.cons (loI rfl (by first | omega | rfl | (simp <;> omega))) .nil)))))))
   ·have ei : i = f.places.length := by omega
    have efl : fl = List.replicate f.places.length (-1) := by rw [hfl, ei, Nat.sub_self]; simp
    refine xt <| xT <| xK <| xB <| nT <| sq <| rg <| al rfl eF76 rfl rfl fun w_34 b_35 x_36 l_37 B_38 => ?_
    have q_39 := x_36.size
    have z_34 := Ext.tr z_22 x_36
    have q_40 := B_38.lt
    refine nl <| nT <| sq <| sq <| rg <| vl (mv rfl) rfl <| vl (ln Try.underlying25 rfl) rfl <| vl (mv rfl) rfl <| nl <| nT <| bk <| ?_
    have HQ0 : Itm.rep.SOwn 75 16 w_34 w.heap.size (Rep.blkOf none) none 0 ([] : List Itm) := Rep.SOwn.nil _
    have B_5 := B_5.later x_36
    have HF0 := HF0.later x_36
    refine lp (fun mI EI wI => ∃ k : Nat, ∃ Q : List Itm, ∃ A2 : Option Addr, ∃ c2 : Nat, EI = [(2, .pointer (some ⟨b_2, 0, none⟩)), (7, .slice (some ⟨b_14, 0, none⟩) f.places.length f.places.length), (9, .pointer (some ⟨b_35, 0, none⟩)), (40, .slice A S.length ac), (41, .int .i64 (S.length : Int)), (42, .int .i64 (k : Int))] ∧ mI = S.length - k ∧ Ext w wI ∧ Blk wI b_2 [.int .i64 f.wide, .int .i64 f.high, .slice P f.places.length pc] 24 (0, 0) ∧ repI.SOwn 3 8 wI w.heap.size (Rep.blkOf (some ⟨b_14, 0, none⟩)) (some ⟨b_14, 0, none⟩) f.places.length (fl) ∧ Blk wI b_35 [.slice A2 Q.length c2] 71 (0, 0) ∧ Itm.rep.SOwn 75 16 wI w.heap.size (Rep.blkOf A2) A2 c2 Q ∧ (k ≤ S.length) ∧ (FQ f (S.take k) Q) ∧ (∀ q ∈ Rep.blkOf A2, q = b_2 → False) ∧ (∀ q ∈ Rep.blkOf A2, q = b_35 → False) ∧ (∀ q ∈ Rep.blkOf A2, q ∈ Rep.blkOf (some ⟨b_14, 0, none⟩) → False)) _ _ ⟨0, ([] : List Itm), none, 0, rfl, rfl, z_34, B_5, HF0, B_38, HQ0, by omega, by rw [List.take_zero]; exact FQ.nil, (fun q hq hb => by (simp [Rep.blkOf] at hq)), (fun q hq hb => by (simp [Rep.blkOf] at hq)), (fun q hq hb => by (simp [Rep.blkOf] at hq))⟩ (.cons rfl (.cons rfl (.cons rfl (.cons rfl (.cons rfl (.cons (loI rfl (by first | omega | rfl | (simp <;> omega))) .nil)))))) ?_
    rintro m_45 E_46 w_44 ⟨k, Q, A2, c2, rfl, rfl, z_44, B_5, HF0, HB2, HQ2, hk, hq1, d_41, d_42, d_43⟩
    have q_47 := z_44.size
    have q_48 := B_5.lt
    have u_49 := fun q hq => (HF0.lt q hq).2
    have q_50 := HB2.lt
    have u_51 := fun q hq => (HQ2.lt q hq).2
    have hQk : Q.length = k := by rw [hq1.len, List.length_take]; omega
    refine sq <| rg <| vl (blt rfl rfl) rfl <| nl <| nT <| sq <| ?_
    refine clt rfl (fun h_52 => ?_) (fun h_52 => ?_)
    ·obtain ⟨c, hc⟩ : ∃ c, S.getD k default = c := ⟨_, rfl⟩
     have hcS : c ∈ S := by rw [← hc]; exact mem_dd (by omega)
     refine sk <| nT <| sq <| bk <| sq <| rg <| vl (iA k Try.underlying25 eF4 rfl rfl ((hS.keep z_44).adr (Nat.zero_lt_of_lt (show k < _ from (by omega)))) rfl (by omega)) rfl <| vl (ld rfl (Rep.SHas.elt hcC ((hS.keep z_44).adh (Nat.zero_lt_of_lt (show k < _ from (by omega)))) (show S[k]? = some c by rw [← hc]; exact get_d (u := default) (by omega)) eF3 eF4)) rfl <| al rfl eF41 rfl rfl fun w_53 b_54 x_55 l_56 B_57 => ?_
     have q_58 := x_55.size
     have z_53 := Ext.tr z_44 x_55
     have q_59 := B_57.lt
     refine st (new := [.int .i64 c.x, .int .i64 c.y]) rfl rfl B_57 rfl eF4 rfl rfl rfl fun w_60 m_61 B_57 => ?_
     have q_63 := m_61.size
     have z_60 := Ext.mod z_53 m_61 (ge1 (by omega))
     have q_62 := m_61.size
     refine nl <| nT <| sq <| rg <| ?_
     have B_5 := B_5.later x_55
     have B_5 := B_5.mod m_61 (nm1 (by omega))
     refine vl (ld rfl (B_5.all eF22 eF23)) rfl <| vl (ld rfl (B_57.all eF3 eF4)) rfl <| ca eF24 rfl rfl ((fldAt2 f c _ _ _ (hP.keep z_60)).mono ?_)
     rintro e w_64 ⟨rfl, x_65⟩
     refine ⟨_, rfl, ?_⟩
     have q_66 := x_65.size
     have z_64 := Ext.tr z_60 x_65
     refine vl (mv rfl) rfl <| vl (ex rfl rfl) rfl <| vl (ex rfl rfl) rfl <| vl (as_ rfl) rfl <| vl (as_ rfl) rfl <| nl <| nT <| sq <| sq <| ?_
     rcases b3g_ ((f.atE c) == 0) ((f.atV c) == 1) with c0 | ⟨c0, c1_⟩ | ⟨c0, c1_⟩
     ·have c3 : (f.atE c != 0) = true := by simpa using c0
      have hb1 : ¬ (f.chk = 0 ∧ S.length ≤ 100 ∧ ∀ c ∈ S, f.ground c = true) := fun h_ => by have := (Fld.at_in hf (Fld.ground_in (h_.2.2 c hcS))).1; rw [this] at c0; cases c0
      have hb2 : f.atE c ≠ 0 := by simpa using c0
      refine rg <| vl (mv rfl) rfl <| vl (beq rfl rfl) rfl <| vl (mv (evb rfl c0)) rfl <| vQ (v := undef) rfl rfl rfl rfl (fun hc => nomatch hc) rfl <| vQ (v := undef) rfl rfl rfl rfl (fun hc => nomatch hc) rfl <| vl (pkF rfl rfl) rfl <| nl <| nT <| cF rfl <| sk <| nT <| sq <| sq <| rg <| vl (mv rfl) rfl <| vl (bne rfl rfl) rfl <| nl <| nT <| cT (evb rfl c3) <| sq <| rg <| vl (mv rfl) rfl <| vl (as_ rfl) rfl <| ?_
      refine vl (as_ rfl) rfl <| nl <| nT <| rt <| tT <| tB <| tT <| tK <| tB <| tT <| tR (.tmp rfl (.tmp rfl .nil)) <| ?_
      exact ⟨f.atE c, none, 0, [], rfl, Rep.SOwn.nil _, .inr ⟨hb2, rfl, hb1⟩, z_64⟩
     ·have hb1 : ¬ (f.chk = 0 ∧ S.length ≤ 100 ∧ ∀ c ∈ S, f.ground c = true) := fun h_ => by have hg := h_.2.2 c hcS; have h2 := (Fld.at_in hf (Fld.ground_in hg)).2; rw [h2] at c1_; exact Fld.ground_place hg (by simpa using c1_)
      have hb2 : (9 : Int) ≠ 0 := by decide
      refine rg <| vl (mv rfl) rfl <| vl (beq rfl rfl) rfl <| vl (mv (evb rfl c0)) rfl <| ug rfl rfl rfl <| vl (mv rfl) rfl <| ug rfl rfl rfl <| vl (beq rfl rfl) rfl <| vl (pkT rfl (evb rfl c1_)) rfl <| nl <| nT <| cT rfl <| rg <| vl (as_ rfl) rfl <| nl <| nT <| sq <| sq <| rg <| vl (mv rfl) rfl <| vl (bne rfl rfl) rfl <| nl <| nT <| cT rfl <| ?_
      refine sq <| rg <| vl (mv rfl) rfl <| vl (as_ rfl) rfl <| vl (as_ rfl) rfl <| nl <| nT <| rt <| tT <| tB <| tT <| tK <| tB <| tT <| tR (.tmp rfl (.tmp rfl .nil)) <| ?_
      exact ⟨9, none, 0, [], rfl, Rep.SOwn.nil _, .inr ⟨hb2, rfl, hb1⟩, z_64⟩
     ·have c3 : (f.atE c != 0) = false := by simpa using c0
      have hci := atE_zero hf (by simpa using c0)
      have hg : f.ground c = true := Fld.ground_mk hci (by have h2 := (Fld.at_in hf hci).2; rw [h2] at c1_; simpa using c1_)
      obtain ⟨ix1, ix2, ix3, ix4, ix5, ix6⟩ := Fld.idx hf hci
      have hq2 := hq1.push (by omega) hc hg
      refine rg <| vl (mv rfl) rfl <| vl (beq rfl rfl) rfl <| vl (mv (evb rfl c0)) rfl <| ug rfl rfl rfl <| vl (mv rfl) rfl <| ug rfl rfl rfl <| vl (beq rfl rfl) rfl <| vl (pkT rfl (evb rfl c1_)) rfl <| nl <| nT <| cF rfl <| sk <| nT <| sq <| sq <| rg <| vl (mv rfl) rfl <| vl (bne rfl rfl) rfl <| nl <| nT <| cF (evb rfl c3) <| sk <| nT <| ?_
      refine rg <| vl (mkI (fun w => by kernel_rfl) rfl) rfl <| vl (fa eF2 rfl) rfl <| ?_
      have B_57 := B_57.later x_65
      refine vl (ld rfl (B_57.one eF1 rfl)) rfl <| vl (fa eF21 rfl) rfl <| ?_
      have B_5 := B_5.later x_65
      refine vl (ld rfl (B_5.one eF1 rfl)) rfl <| vl (bmu rfl rfl (inI (by omega))) rfl <| vl (fa eF0 rfl) rfl <| vl (ld rfl (B_57.one eF1 rfl)) rfl <| vl (bad rfl rfl (inI (by omega))) rfl <| vl (v := .agg #[.int .i64 ((c.y * f.wide) + c.x), .int .i64 0]) (bd rfl (by kernel_rfl)) rfl <| vl (mkI (fun w => by kernel_rfl) rfl) rfl <| ?_
      have HQ2 := HQ2.later x_55
      have HQ2 := HQ2.mod m_61 (fk1 u_51 (by omega))
      have HQ2 := HQ2.later x_65
      have HB2 := HB2.later x_55
      have HB2 := HB2.mod m_61 (nm1 (by omega))
      have HB2 := HB2.later x_65
      refine ca eF32 rfl rfl ((xF_push b_35 A2 c2 w.heap.size Q ⟨c.y * f.wide + c.x, 0⟩ _ HB2 HQ2 (fun y hy => hq1.node hf hy) (fun q hq hb => by exfalso; (exact d_42 q hq hb)) (itm_ok (by dsimp only; omega) (by dsimp only; omega) (by dsimp only; omega) (by dsimp only; omega)) (by omega) (by omega)).mono ?_)
      rintro e w_69 ⟨A67, c67, rfl, HB67, HQ67, hg67, m_68⟩
      refine ⟨_, rfl, ?_⟩
      have q_70 := m_68.size
      have z_69 := Ext.mod z_64 m_68 (fun q hq => (List.mem_cons.1 hq).elim (fun h => by omega) (fun h => (HQ2.lt q h).1))
      have u_71 := fun q hq => (HQ67.lt q hq).2
      refine nl <| nB <| nT <| rg <| vl (bad rfl rfl (inI (by omega))) rfl <| vl (mv rfl) rfl <| nl <| ?_
      have B_5 := B_5.mod m_68 (fun hq => (List.mem_cons.1 hq).elim (fun h => by omega) (fun h => (show ∀ q, q ∈ Rep.blkOf A2 → q = b_2 → False from fun q h hb => by (exact d_41 q h hb)) _ h rfl))
      have HF0 := HF0.later x_55
      have HF0 := HF0.mod m_61 (fun q hq h => by have hb := List.mem_singleton.1 h; exfalso; (have := u_49 q hq; have := u_27 q hq; omega))
      have HF0 := HF0.later x_65
      have HF0 := HF0.mod m_68 (fun q hq h => (List.mem_cons.1 h).elim (fun h => by exfalso; (have := u_49 q hq; have := u_27 q hq; omega)) (fun h => by exfalso; (exact d_43 q h hq)))
      exact nI _ _ ⟨k + 1, Hp.push Itm.far Q ⟨c.y * f.wide + c.x, 0⟩, A67, c67, rfl, rfl, z_69, B_5, HF0, HB67, HQ67, by omega, hq2, (fun q hq hb => by (exact Or.elim (hg67 q hq) (fun k_72 => by (exact d_41 q k_72 hb)) (fun k_72 => by omega))), (fun q hq hb => by (exact Or.elim (hg67 q hq) (fun k_73 => by (exact d_42 q k_73 hb)) (fun k_73 => by omega))), (fun q hq hb => by (exact Or.elim (hg67 q hq) (fun k_74 => by (exact d_43 q k_74 hb)) (fun k_74 => by (have := u_49 q hb; have := u_27 q hb; omega))))⟩ (by omega) (.cons rfl (.cons rfl (.cons rfl (.cons rfl (.cons rfl (.cons (loI rfl (by first | omega | rfl | (simp <;> omega))) .nil))))))
    ·have hqS := hq1.end_ (by omega)
     have hs0 := FQ.start hf hqS default
     have hall : ∀ c ∈ S, f.ground c = true := fun c hc => (hqS.all c hc).1
     have hQl := hqS.len
     refine xt <| xT <| xK <| xB <| nT <| sq <| bk <| ?_
     refine lp (fun mI EI wI => ∃ far1 : List Int, ∃ l1 : List Itm, ∃ A3 : Option Addr, ∃ c3 : Nat, ∃ x1 : Cel, EI = [(2, .pointer (some ⟨b_2, 0, none⟩)), (7, .slice (some ⟨b_14, 0, none⟩) f.places.length f.places.length), (9, .pointer (some ⟨b_35, 0, none⟩))] ∧ mI = (l1.length + 5 * und far1) ∧ Ext w wI ∧ Blk wI b_2 [.int .i64 f.wide, .int .i64 f.high, .slice P f.places.length pc] 24 (0, 0) ∧ Blk wI b_35 [.slice A3 l1.length c3] 71 (0, 0) ∧ repI.SOwn 3 8 wI w.heap.size (Rep.blkOf (some ⟨b_14, 0, none⟩)) (some ⟨b_14, 0, none⟩) f.places.length (far1) ∧ Itm.rep.SOwn 75 16 wI w.heap.size (Rep.blkOf A3) A3 c3 l1 ∧ (FS f S far1 l1 x1 []) ∧ (l1.length + 5 * und far1 ≤ 20000) ∧ (∀ q ∈ Rep.blkOf (some ⟨b_14, 0, none⟩), q = b_2 → False) ∧ (∀ q ∈ Rep.blkOf (some ⟨b_14, 0, none⟩), q = b_35 → False) ∧ (∀ q ∈ Rep.blkOf A3, q = b_2 → False) ∧ (∀ q ∈ Rep.blkOf A3, q = b_35 → False) ∧ (∀ q ∈ Rep.blkOf A3, q ∈ Rep.blkOf (some ⟨b_14, 0, none⟩) → False)) _ _ ⟨fl, Q, A2, c2, default, rfl, rfl, z_44, B_5, HB2, HF0, HQ2, by rw [efl]; exact hs0, by rw [efl, und_all]; omega, (fun q hq hb => by (exact d_21 q hq hb)), (fun q hq hb => by (have := u_49 q hq; have := u_27 q hq; omega)), (fun q hq hb => by (exact d_41 q hq hb)), (fun q hq hb => by (exact d_42 q hq hb)), (fun q hq hb => by (exact d_43 q hq hb))⟩ (.cons rfl (.cons rfl (.cons rfl .nil))) ?_
     rintro m_81 E_82 w_80 ⟨far1, l1, A3, c3, x1, rfl, rfl, z_80, B_5, HB3, HF3, HQ3, hs1, hbn, d_75, d_76, d_77, d_78, d_79⟩
     have q_83 := z_80.size
     have q_84 := B_5.lt
     have q_85 := HB3.lt
     have u_86 := fun q hq => (HF3.lt q hq).2
     have u_87 := fun q hq => (HQ3.lt q hq).2
     have hfar1 := hs1.len
     refine sq <| sq <| rg <| vl (ld rfl (HB3.one eF68 rfl)) rfl <| ca eF74 rfl rfl ((xF_len _ l1.length _ _).mono ?_)
     rintro e w_88 ⟨rfl, x_89⟩
     refine ⟨_, rfl, ?_⟩
     have q_90 := x_89.size
     have z_88 := Ext.tr z_80 x_89
     refine vl (bgt rfl rfl) rfl <| nl <| nT <| ?_
     refine clt rfl (fun h_91 => ?_) (fun h_91 => ?_)
     ·have h0p : 0 < l1.length := by omega
      obtain ⟨xn, hxn⟩ : ∃ xn, l1.getD 0 default = xn := ⟨_, rfl⟩
      have hxm : xn ∈ l1 := by rw [← hxn]; exact mem_dd h0p
      obtain ⟨nx1, nx2, nx3, nx4, nx5, nx6, nx7⟩ := hs1.node hf hxm
      obtain ⟨cx, hcx⟩ : ∃ cx, icel f xn = cx := ⟨_, rfl⟩
      rw [hcx] at nx1 nx2
      obtain ⟨px1, px2, px3⟩ := fr_pl hf hs1.len nx1 nx2
      refine sk <| nT <| bk <| sq <| rg <| vl (mkI (fun w => by kernel_rfl) rfl) rfl <| ?_
      have HQ3 := HQ3.later x_89
      have HB3 := HB3.later x_89
      have hPo := xF_pop b_35 A3 l1.length c3 w.heap.size l1 _ HB3 HQ3 (fun y hy => (hs1.node hf hy).2.2.2.2.2.2) rfl (fun q hq hb => by exfalso; (exact d_78 q hq hb)) h0p (by omega)
      rw [hxn] at hPo
      refine ca eF37 rfl rfl ((hPo).mono ?_)
      rintro e w_94 ⟨rfl, HB92, HQ92, m_93⟩
      refine ⟨_, rfl, ?_⟩
      have q_95 := m_93.size
      have z_94 := Ext.mod z_88 m_93 (fun q hq => (List.mem_cons.1 hq).elim (fun h => by omega) (fun h => (HQ3.lt q h).1))
      refine vl (tyA (fun w => by kernel_rfl) rfl) rfl <| al rfl eF72 rfl rfl fun w_96 b_97 x_98 l_99 B_100 => ?_
      have q_101 := x_98.size
      have z_96 := Ext.tr z_94 x_98
      have q_102 := B_100.lt
      refine st (new := [.int .i64 xn.place, .int .i64 xn.far]) rfl rfl B_100 rfl eF65 rfl rfl rfl fun w_103 m_104 B_100 => ?_
      have q_106 := m_104.size
      have z_103 := Ext.mod z_96 m_104 (ge1 (by omega))
      have q_105 := m_104.size
      refine nl <| nT <| sq <| sq <| rg <| vl (mv rfl) rfl <| vl (fa eF77 rfl) rfl <| vl (ld rfl (B_100.one eF1 rfl)) rfl <| ?_
      have HF3 := HF3.later x_89
      have HF3 := HF3.mod m_93 (fun q hq h => (List.mem_cons.1 h).elim (fun h => by exfalso; (exact d_76 q hq h)) (fun h => by exfalso; (exact d_79 q h hq)))
      have HF3 := HF3.later x_98
      have HF3 := HF3.mod m_104 (fk1 u_86 (by omega))
      refine vl (iA xn.place.toNat Try.underlying22 eF36 rfl rfl (HF3.has.adr (Nat.zero_lt_of_lt (show xn.place.toNat < _ from (by omega)))) (by omega) (by omega)) rfl <| vl (ld rfl (Rep.SHas.one' hcI (HF3.has.adh (Nat.zero_lt_of_lt (show xn.place.toNat < _ from (by omega)))) px1 rfl eF1)) rfl <| vl (bge rfl rfl) rfl <| nl <| nT <| ?_
      refine cle rfl (fun h_107 => ?_) (fun h_107 => ?_)
      ·have hk := h_107
       have hs4 := hs1.skip h0p hxn hcx hk
       refine xt <| xT <| xB <| ?_
       have B_5 := B_5.later x_89
       have B_5 := B_5.mod m_93 (fun hq => (List.mem_cons.1 hq).elim (fun h => by omega) (fun h => (show ∀ q, q ∈ Rep.blkOf A3 → q = b_2 → False from fun q h hb => by (exact d_77 q h hb)) _ h rfl))
       have B_5 := B_5.later x_98
       have B_5 := B_5.mod m_104 (nm1 (by omega))
       have HB92 := HB92.later x_98
       have HB92 := HB92.mod m_104 (nm1 (by omega))
       have HQ92 := HQ92.later x_98
       have HQ92 := HQ92.mod m_104 (fk1 u_87 (by omega))
       exact nI _ _ ⟨far1, Hp.popL Itm.far l1, A3, c3, x1, rfl, rfl, z_103, B_5, HB92, HF3, HQ92, hs4, by rw [Hp.popL_len]; omega, (fun q hq hb => by (exact d_75 q hq hb)), (fun q hq hb => by (exact d_76 q hq hb)), (fun q hq hb => by (exact d_77 q hq hb)), (fun q hq hb => by (exact d_78 q hq hb)), (fun q hq hb => by (exact d_79 q hq hb))⟩ (by first | (rw [Hp.popL_len]; omega) | (have := bes_len (f := f) (c := cx); omega)) (.cons rfl (.cons rfl (.cons rfl .nil)))
      ·have hk : f.fr far1 cx < 0 := by omega
       obtain ⟨hs2, hu2⟩ := hs1.new hf h0p hxn hcx hk
       refine sk <| nT <| sq <| rg <| vl (mv rfl) rfl <| vl (fa eF77 rfl) rfl <| vl (ld rfl (B_100.one eF1 rfl)) rfl <| vl (fa eF66 rfl) rfl <| vl (ld rfl (B_100.one eF1 rfl)) rfl <| vl (iA xn.place.toNat Try.underlying22 eF36 rfl rfl (HF3.has.adr (Nat.zero_lt_of_lt (show xn.place.toNat < _ from (by omega)))) (by omega) (by omega)) rfl <| so (q' := xn.far) (j := 0) (i := xn.place.toNat) HF3 Rep.flat_bare px1 rfl rfl rfl rfl (fun _ cs h => by have ok_ := (show _ ∧ _ from h).2; obtain rfl := hcI h; exact ⟨rfl, okI_iff.2 (by omega)⟩) rfl rfl eF36 fun w_108 m_109 O_110 => ?_
       have q_111 := m_109.size
       have z_108 := Ext.mod z_103 m_109 (fun q hq => Nat.le_trans (by omega) (HF3.lt q hq).1)
       have q_112 := m_109.size
       refine nl <| nT <| sq <| rg <| ?_
       have B_5 := B_5.later x_89
       have B_5 := B_5.mod m_93 (fun hq => (List.mem_cons.1 hq).elim (fun h => by omega) (fun h => (show ∀ q, q ∈ Rep.blkOf A3 → q = b_2 → False from fun q h hb => by (exact d_77 q h hb)) _ h rfl))
       have B_5 := B_5.later x_98
       have B_5 := B_5.mod m_104 (nm1 (by omega))
       have B_5 := B_5.mod m_109 (fun hq => d_75 _ hq rfl)
       refine vl (ld rfl (B_5.all eF22 eF23)) rfl <| vl (fa eF77 rfl) rfl <| ?_
       have d_113 : ∀ q ∈ Rep.blkOf (some ⟨b_14, 0, none⟩), q = b_97 → False := fun q hq hb => by (have := u_86 q hq; omega)
       have B_100 := B_100.mod m_109 (fun hq => d_113 _ hq rfl)
       refine vl (ld rfl (B_100.one eF1 rfl)) rfl <| ?_
       obtain ⟨far2, hfar2⟩ : ∃ far2, far1.set (f.at_ cx) xn.far = far2 := ⟨_, rfl⟩
       rw [hfar2] at hs2 hu2
       have hlen2 : far2.length = far1.length := by rw [← hfar2, List.length_set]
       have hfx : f.fr far2 cx = xn.far := by rw [← hfar2]; exact Fld.fr_set hf hs1.len nx1
       have HF2 : repI.SOwn 3 8 w_108 w.heap.size (Rep.blkOf (some ⟨b_14, 0, none⟩)) (some ⟨b_14, 0, none⟩) f.places.length (far2) := by rw [← hfar2, ← px3]; exact O_110
       refine ca eF78 rfl rfl ((beside_any f cx xn.place P pc _ hf nx1 nx2).mono ?_)
       rintro e w_117 ⟨A_114, c_114, rfl, OB_114, x_118⟩
       refine ⟨_, rfl, ?_⟩
       have q_119 := x_118.size
       have z_117 := Ext.tr z_108 x_118
       have u_115 := fun q hq => (OB_114.lt q hq).2
       have lo_116 := fun q hq => (OB_114.lt q hq).1
       refine vl (ln Try.underlying22 rfl) rfl <| vl (mv rfl) rfl <| nl <| nT <| bk <| ?_
       have HQ92 := HQ92.later x_98
       have HQ92 := HQ92.mod m_104 (fk1 u_87 (by omega))
       have HQ92 := HQ92.mod m_109 (fun q hq h => by exfalso; (exact d_79 q hq h))
       have HQ92 := HQ92.later x_118
       have HB92 := HB92.later x_98
       have HB92 := HB92.mod m_104 (nm1 (by omega))
       have HB92 := HB92.mod m_109 (fun hq => d_76 _ hq rfl)
       have HB92 := HB92.later x_118
       have B_5 := B_5.later x_118
       have B_100 := B_100.later x_118
       have HF2 := HF2.later x_118
       refine lp (fun mI EI wI => ∃ j : Nat, ∃ l2 : List Itm, ∃ A4 : Option Addr, ∃ c4_ : Nat, EI = [(2, .pointer (some ⟨b_2, 0, none⟩)), (7, .slice (some ⟨b_14, 0, none⟩) f.places.length f.places.length), (9, .pointer (some ⟨b_35, 0, none⟩)), (14, .pointer (some ⟨b_97, 0, none⟩)), (74, .slice A3 l1.length c3), (75, .int .i64 (l1.length : Int)), (76, .bool (decide (0 < (l1.length : Int)))), (77, .iface 73 (.pointer (some ⟨b_35, 0, none⟩))), (78, .iface 75 (.agg #[.int .i64 xn.place, .int .i64 xn.far])), (79, .agg #[.int .i64 xn.place, .int .i64 xn.far]), (80, .slice (some ⟨b_14, 0, none⟩) f.places.length f.places.length), (81, .pointer (some ⟨b_97, 0, none⟩)), (82, .int .i64 xn.place), (83, .pointer (some ⟨bA (some ⟨b_14, 0, none⟩), oA (some ⟨b_14, 0, none⟩) + xn.place.toNat * 1, none⟩)), (84, .int .i64 (f.fr far1 cx)), (85, .bool (decide (0 ≤ f.fr far1 cx))), (86, .slice (some ⟨b_14, 0, none⟩) f.places.length f.places.length), (87, .pointer (some ⟨b_97, 0, none⟩)), (88, .int .i64 xn.place), (89, .pointer (some ⟨b_97, 1, none⟩)), (90, .int .i64 xn.far), (91, .pointer (some ⟨bA (some ⟨b_14, 0, none⟩), oA (some ⟨b_14, 0, none⟩) + xn.place.toNat * 1, none⟩)), (92, .agg #[.int .i64 f.wide, .int .i64 f.high, .slice P f.places.length pc]), (93, .pointer (some ⟨b_97, 0, none⟩)), (94, .int .i64 xn.place), (95, .slice A_114 ((besI f cx).length) c_114), (96, .int .i64 ((((besI f cx).length : Nat) : Int))), (97, .int .i64 (j : Int))] ∧ mI = (besI f cx).length - j ∧ Ext w wI ∧ Blk wI b_2 [.int .i64 f.wide, .int .i64 f.high, .slice P f.places.length pc] 24 (0, 0) ∧ Blk wI b_97 [.int .i64 xn.place, .int .i64 xn.far] 75 (0, 0) ∧ repI.SOwn 3 8 wI w.heap.size (Rep.blkOf (some ⟨b_14, 0, none⟩)) (some ⟨b_14, 0, none⟩) f.places.length (far2) ∧ repI.SOwn 3 8 wI w_108.heap.size (Rep.blkOf A_114) A_114 c_114 (besI f cx) ∧ Blk wI b_35 [.slice A4 l2.length c4_] 71 (0, 0) ∧ Itm.rep.SOwn 75 16 wI w.heap.size (Rep.blkOf A4) A4 c4_ l2 ∧ (j ≤ (besC f cx).length) ∧ (FS f S far2 l2 cx (((besC f cx).drop j).filter f.ground)) ∧ (l2.length + 1 ≤ l1.length + j) ∧ (∀ q ∈ Rep.blkOf A4, q = b_2 → False) ∧ (∀ q ∈ Rep.blkOf A4, q = b_97 → False) ∧ (∀ q ∈ Rep.blkOf A4, q = b_35 → False) ∧ (∀ q ∈ Rep.blkOf A4, q ∈ Rep.blkOf (some ⟨b_14, 0, none⟩) → False) ∧ (∀ q ∈ Rep.blkOf A4, q ∈ Rep.blkOf A_114 → False)) _ _ ⟨0, Hp.popL Itm.far l1, A3, c3, rfl, rfl, z_117, B_5, B_100, HF2, OB_114, HB92, HQ92, by omega, hs2, by rw [Hp.popL_len]; omega, (fun q hq hb => by (exact d_77 q hq hb)), (fun q hq hb => by (have := u_87 q hq; omega)), (fun q hq hb => by (exact d_78 q hq hb)), (fun q hq hb => by (exact d_79 q hq hb)), (fun q hq hb => by (have := lo_116 q hb; (have := u_87 q hq; omega)))⟩ (.cons rfl (.cons rfl (.cons rfl (.cons rfl (.cons rfl (.cons rfl (.cons rfl (.cons rfl (.cons rfl (.cons rfl (.cons rfl (.cons rfl (.cons rfl (.cons rfl (.cons rfl (.cons rfl (.cons rfl (.cons rfl (.cons rfl (.cons rfl (.cons rfl (.cons rfl (.cons rfl (.cons rfl (.cons rfl (.cons rfl (.cons rfl (.cons (loI rfl (by first | omega | rfl | (simp <;> omega))) .nil)))))))))))))))))))))))))))) ?_
       rintro m_126 E_127 w_125 ⟨j, l2, A4, c4_, rfl, rfl, z_125, B_5, B_100, HF2, OB_114, HB4, HQ4, hj, hs3, hl2, d_120, d_121, d_122, d_123, d_124⟩
       have q_128 := z_125.size
       have q_129 := B_5.lt
       have q_130 := B_100.lt
       have u_131 := fun q hq => (HF2.lt q hq).2
       have u_132 := fun q hq => (OB_114.lt q hq).2
       have q_133 := HB4.lt
       have u_134 := fun q hq => (HQ4.lt q hq).2
       have hb4 := bes_len (f := f) (c := cx)
       refine sq <| rg <| vl (blt rfl rfl) rfl <| nl <| nT <| sq <| ?_
       refine clt rfl (fun h_135 => ?_) (fun h_135 => ?_)
       ·have hj2 : j < (besC f cx).length := by rw [← besI_len]; omega
        obtain ⟨nd, hnd⟩ : ∃ nd, (besC f cx).getD j default = nd := ⟨_, rfl⟩
        obtain ⟨hnm, hni⟩ := bes_mem hj2 hnd
        have hkb := f.kost_bd (c := nd)
        obtain ⟨cg1, cg2⟩ := cost_ground hf hni
        obtain ⟨nl1, nl2, nl3⟩ := fr_lt hf hs3.len hni
        refine sk <| nT <| sq <| bk <| sq <| rg <| vl (iA j Try.underlying22 eF36 rfl rfl (OB_114.has.adr (Nat.zero_lt_of_lt (show j < _ from (by rw [besI_len]; exact hj2)))) rfl (by rw [besI_len]; exact hj2)) rfl <| vl (ld rfl (Rep.SHas.one' hcI (OB_114.has.adh (Nat.zero_lt_of_lt (show j < _ from (by rw [besI_len]; exact hj2)))) (bes_get hj2 hnd) rfl eF1)) rfl <| vl (as_ rfl) rfl <| nl <| nT <| sq <| rg <| vl (fa eF45 rfl) rfl <| vl (ld rfl (B_5.one eF35 rfl)) rfl <| vl (mv rfl) rfl <| vl (iA ((nd.y * f.wide + nd.x).toNat) Try.underlying22 eF36 rfl rfl ((hP.keep z_125).adr (Nat.zero_lt_of_lt (show (nd.y * f.wide + nd.x).toNat < _ from (pl_lt hf hni)))) (by omega) (pl_lt hf hni)) rfl <| vl (ld rfl (Rep.SHas.one' hcI ((hP.keep z_125).adh (Nat.zero_lt_of_lt (show (nd.y * f.wide + nd.x).toNat < _ from (pl_lt hf hni)))) (pl_get hf hni) rfl eF1)) rfl <| ca eF25 rfl rfl ((fcost_any (f.place nd) _).mono ?_)
        rintro e w_136 ⟨rfl, x_137⟩
        refine ⟨_, rfl, ?_⟩
        have q_138 := x_137.size
        have z_136 := Ext.tr z_125 x_137
        refine vl (mv rfl) rfl <| vl (ex rfl rfl) rfl <| vl (ex rfl rfl) rfl <| vl (as_ rfl) rfl <| vl (as_ rfl) rfl <| nl <| nT <| sq <| ?_
        rcases b3g_ ((costE (f.place nd)) == 0) (decide (f.fr far2 nd < 0)) with c0 | ⟨c0, c1_⟩ | ⟨c0, c1_⟩
        ·have c4 : f.ground nd = false := by rw [← cg1]; exact c0
         have hs4 := hs3.out hj2 hnd c4
         refine rg <| vl (mv rfl) rfl <| vl (beq rfl rfl) rfl <| vl (mv (evb rfl c0)) rfl <| vQ (v := undef) rfl rfl rfl rfl (fun hc => nomatch hc) rfl <| vQ (v := undef) rfl rfl rfl rfl (fun hc => nomatch hc) rfl <| vQ (v := undef) rfl rfl rfl rfl (fun hc => nomatch hc) rfl <| vQ (v := undef) rfl rfl rfl rfl (fun hc => nomatch hc) rfl <| vQ (v := undef) rfl rfl rfl rfl (fun hc => nomatch hc) rfl <| vl (pkF rfl rfl) rfl <| nl <| nT <| cF rfl <| sk <| nB <| nT <| rg <| vl (bad rfl rfl (inI (by omega))) rfl <| vl (mv rfl) rfl <| nl <| ?_
         have B_5 := B_5.later x_137
         have B_100 := B_100.later x_137
         have HF2 := HF2.later x_137
         have OB_114 := OB_114.later x_137
         have HB4 := HB4.later x_137
         have HQ4 := HQ4.later x_137
         exact nI _ _ ⟨j + 1, l2, A4, c4_, rfl, rfl, z_136, B_5, B_100, HF2, OB_114, HB4, HQ4, by omega, hs4, by omega, (fun q hq hb => by (exact d_120 q hq hb)), (fun q hq hb => by (exact d_121 q hq hb)), (fun q hq hb => by (exact d_122 q hq hb)), (fun q hq hb => by (exact d_123 q hq hb)), (fun q hq hb => by (exact d_124 q hq hb))⟩ (by have := besI_len (f := f) (c := cx); omega) (.cons rfl (.cons rfl (.cons rfl (.cons rfl (.cons rfl (.cons rfl (.cons rfl (.cons rfl (.cons rfl (.cons rfl (.cons rfl (.cons rfl (.cons rfl (.cons rfl (.cons rfl (.cons rfl (.cons rfl (.cons rfl (.cons rfl (.cons rfl (.cons rfl (.cons rfl (.cons rfl (.cons rfl (.cons rfl (.cons rfl (.cons rfl (.cons (loI rfl (by first | omega | rfl | (simp <;> omega))) .nil))))))))))))))))))))))))))))
        ·have c4 : f.ground nd = true := by rw [← cg1]; exact c0
         have hkk := cg2 c4
         refine rg <| vl (mv rfl) rfl <| vl (beq rfl rfl) rfl <| vl (mv (evb rfl c0)) rfl <| ug rfl rfl rfl <| vl (mv rfl) rfl <| ug rfl rfl rfl <| vl (mv rfl) rfl <| ug rfl rfl rfl <| ?_
         have HF2 := HF2.later x_137
         refine vl (iA ((nd.y * f.wide + nd.x).toNat) Try.underlying22 eF36 rfl rfl (HF2.has.adr (Nat.zero_lt_of_lt (show (nd.y * f.wide + nd.x).toNat < _ from (by have h_ := hs3.len; omega)))) (by omega) (by have h_ := hs3.len; omega)) rfl <| ug rfl rfl rfl <| vl (ld rfl (Rep.SHas.one' hcI (HF2.has.adh (Nat.zero_lt_of_lt (show (nd.y * f.wide + nd.x).toNat < _ from (by have h_ := hs3.len; omega)))) (fr_get hf hs3.len hni) rfl eF1)) rfl <| ug rfl rfl rfl <| vl (blt rfl rfl) rfl <| vl (pkT rfl (evb rfl c1_)) rfl <| nl <| nT <| cT rfl <| rg <| vl (mkI (fun w => by kernel_rfl) rfl) rfl <| vl (mv rfl) rfl <| vl (fa eF66 rfl) rfl <| ?_
         have B_100 := B_100.later x_137
         refine vl (ld rfl (B_100.one eF1 rfl)) rfl <| vl (mv rfl) rfl <| vl (bad rfl rfl (inI (by omega))) rfl <| vl (v := .agg #[.int .i64 (nd.y * f.wide + nd.x), .int .i64 (xn.far + (costK (f.place nd)))]) (bd rfl (by kernel_rfl)) rfl <| vl (mkI (fun w => by kernel_rfl) rfl) rfl <| ?_
         have HQ4 := HQ4.later x_137
         have HB4 := HB4.later x_137
         have hs4 := hs3.push hj2 hnd c4 (d := xn.far + costK (f.place nd)) (by rw [hfx, cg2 c4])
         refine ca eF32 rfl rfl ((xF_push b_35 A4 c4_ w.heap.size l2 ⟨nd.y * f.wide + nd.x, xn.far + costK (f.place nd)⟩ _ HB4 HQ4 (fun y hy => (hs3.node hf hy).2.2.2.2.2.2) (fun q hq hb => by exfalso; (exact d_122 q hq hb)) (itm_ok (by dsimp only; omega) (by dsimp only; omega) (by dsimp only; omega) (by dsimp only; omega)) (by omega) (by omega)).mono ?_)
         rintro e w_141 ⟨A139, c139, rfl, HB139, HQ139, hg139, m_140⟩
         refine ⟨_, rfl, ?_⟩
         have q_142 := m_140.size
         have z_141 := Ext.mod z_136 m_140 (fun q hq => (List.mem_cons.1 hq).elim (fun h => by omega) (fun h => (HQ4.lt q h).1))
         have u_143 := fun q hq => (HQ139.lt q hq).2
         refine nl <| nB <| nT <| rg <| vl (bad rfl rfl (inI (by omega))) rfl <| vl (mv rfl) rfl <| nl <| ?_
         have B_5 := B_5.later x_137
         have B_5 := B_5.mod m_140 (fun hq => (List.mem_cons.1 hq).elim (fun h => by omega) (fun h => (show ∀ q, q ∈ Rep.blkOf A4 → q = b_2 → False from fun q h hb => by (exact d_120 q h hb)) _ h rfl))
         have B_100 := B_100.mod m_140 (fun hq => (List.mem_cons.1 hq).elim (fun h => by omega) (fun h => (show ∀ q, q ∈ Rep.blkOf A4 → q = b_97 → False from fun q h hb => by (exact d_121 q h hb)) _ h rfl))
         have HF2 := HF2.mod m_140 (fun q hq h => (List.mem_cons.1 h).elim (fun h => by exfalso; (exact d_76 q hq h)) (fun h => by exfalso; (exact d_123 q h hq)))
         have OB_114 := OB_114.later x_137
         have OB_114 := OB_114.mod m_140 (fun q hq h => (List.mem_cons.1 h).elim (fun h => by exfalso; (have := lo_116 q hq; omega)) (fun h => by exfalso; (exact d_124 q h hq)))
         exact nI _ _ ⟨j + 1, Hp.push Itm.far l2 ⟨nd.y * f.wide + nd.x, xn.far + costK (f.place nd)⟩, A139, c139, rfl, rfl, z_141, B_5, B_100, HF2, OB_114, HB139, HQ139, by omega, hs4, by rw [Hp.push_len]; omega, (fun q hq hb => by (exact Or.elim (hg139 q hq) (fun k_144 => by (exact d_120 q k_144 hb)) (fun k_144 => by omega))), (fun q hq hb => by (exact Or.elim (hg139 q hq) (fun k_145 => by (exact d_121 q k_145 hb)) (fun k_145 => by omega))), (fun q hq hb => by (exact Or.elim (hg139 q hq) (fun k_146 => by (exact d_122 q k_146 hb)) (fun k_146 => by omega))), (fun q hq hb => by (exact Or.elim (hg139 q hq) (fun k_147 => by (exact d_123 q k_147 hb)) (fun k_147 => by (have := u_131 q hb; have := u_86 q hb; omega)))), (fun q hq hb => by (exact Or.elim (hg139 q hq) (fun k_148 => by (exact d_124 q k_148 hb)) (fun k_148 => by (have := u_132 q hb; have := u_115 q hb; omega))))⟩ (by have := besI_len (f := f) (c := cx); omega) (.cons rfl (.cons rfl (.cons rfl (.cons rfl (.cons rfl (.cons rfl (.cons rfl (.cons rfl (.cons rfl (.cons rfl (.cons rfl (.cons rfl (.cons rfl (.cons rfl (.cons rfl (.cons rfl (.cons rfl (.cons rfl (.cons rfl (.cons rfl (.cons rfl (.cons rfl (.cons rfl (.cons rfl (.cons rfl (.cons rfl (.cons rfl (.cons (loI rfl (by first | omega | rfl | (simp <;> omega))) .nil))))))))))))))))))))))))))))
        ·have c4 : f.ground nd = true := by rw [← cg1]; exact c0
         have hs4 := hs3.known hj2 hnd c4 (by have h9 := of_decide_eq_false c1_; omega)
         refine rg <| vl (mv rfl) rfl <| vl (beq rfl rfl) rfl <| vl (mv (evb rfl c0)) rfl <| ug rfl rfl rfl <| vl (mv rfl) rfl <| ug rfl rfl rfl <| vl (mv rfl) rfl <| ug rfl rfl rfl <| ?_
         have HF2 := HF2.later x_137
         refine vl (iA ((nd.y * f.wide + nd.x).toNat) Try.underlying22 eF36 rfl rfl (HF2.has.adr (Nat.zero_lt_of_lt (show (nd.y * f.wide + nd.x).toNat < _ from (by have h_ := hs3.len; omega)))) (by omega) (by have h_ := hs3.len; omega)) rfl <| ug rfl rfl rfl <| vl (ld rfl (Rep.SHas.one' hcI (HF2.has.adh (Nat.zero_lt_of_lt (show (nd.y * f.wide + nd.x).toNat < _ from (by have h_ := hs3.len; omega)))) (fr_get hf hs3.len hni) rfl eF1)) rfl <| ug rfl rfl rfl <| vl (blt rfl rfl) rfl <| vl (pkT rfl (evb rfl c1_)) rfl <| nl <| nT <| cF rfl <| sk <| nB <| nT <| rg <| vl (bad rfl rfl (inI (by omega))) rfl <| vl (mv rfl) rfl <| nl <| ?_
         have B_5 := B_5.later x_137
         have B_100 := B_100.later x_137
         have OB_114 := OB_114.later x_137
         have HB4 := HB4.later x_137
         have HQ4 := HQ4.later x_137
         exact nI _ _ ⟨j + 1, l2, A4, c4_, rfl, rfl, z_136, B_5, B_100, HF2, OB_114, HB4, HQ4, by omega, hs4, by omega, (fun q hq hb => by (exact d_120 q hq hb)), (fun q hq hb => by (exact d_121 q hq hb)), (fun q hq hb => by (exact d_122 q hq hb)), (fun q hq hb => by (exact d_123 q hq hb)), (fun q hq hb => by (exact d_124 q hq hb))⟩ (by have := besI_len (f := f) (c := cx); omega) (.cons rfl (.cons rfl (.cons rfl (.cons rfl (.cons rfl (.cons rfl (.cons rfl (.cons rfl (.cons rfl (.cons rfl (.cons rfl (.cons rfl (.cons rfl (.cons rfl (.cons rfl (.cons rfl (.cons rfl (.cons rfl (.cons rfl (.cons rfl (.cons rfl (.cons rfl (.cons rfl (.cons rfl (.cons rfl (.cons rfl (.cons rfl (.cons (loI rfl (by first | omega | rfl | (simp <;> omega))) .nil))))))))))))))))))))))))))))
       ·have hs4 := hs3.done (by rw [← besI_len]; omega)
        refine xt <| xT <| xK <| xB <| nB <| ?_
        exact nI _ _ ⟨far2, l2, A4, c4_, cx, rfl, rfl, z_125, B_5, HB4, HF2, HQ4, hs4, by have := bes_len (f := f) (c := cx); omega, (fun q hq hb => by (exact d_75 q hq hb)), (fun q hq hb => by (exact d_76 q hq hb)), (fun q hq hb => by (exact d_120 q hq hb)), (fun q hq hb => by (exact d_122 q hq hb)), (fun q hq hb => by (exact d_123 q hq hb))⟩ (by first | (rw [Hp.popL_len]; omega) | (have := bes_len (f := f) (c := cx); omega)) (.cons rfl (.cons rfl (.cons rfl .nil)))
     ·have el : l1 = [] := List.eq_nil_of_length_eq_zero (by omega)
      rw [el] at hs1
      have hend := hs1.fend
      refine xt <| xT <| xK <| xB <| nT <| sq <| rg <| vl (mv rfl) rfl <| vl (as_ rfl) rfl <| vl (as_ rfl) rfl <| nl <| nT <| rt <| tR (.tmp rfl (.tmp rfl .nil)) <| ?_
      have HF3 := HF3.later x_89
      exact ⟨0, some ⟨b_14, 0, none⟩, f.places.length, far1, by rw [hfar1]; rfl, HF3, .inl ⟨rfl, ⟨hf, hS100, hall⟩, hend⟩, z_88⟩
end
section
open Go.RowKit
section
variable {f : Fld} {S T : List Cel} {A B C far : List Int} {a b c x nd : Cel} {e : Int} {i j k : Nat} {bl : List Bool}
theorem FRes.ok (h : FRes f S e far) (h0 : e = 0) : (f.chk = 0 ∧ S.length ≤ 100 ∧ ∀ c ∈ S, f.ground c = true) ∧ FEnd f S far := by
 rcases h with ⟨_, h1, h2⟩ | ⟨h1, _⟩
 ·exact ⟨h1, h2⟩
 ·exact absurd h0 h1
theorem FRes.zero (h : FRes f S e far) (h1 : f.chk = 0) (h2 : S.length ≤ 100) (h3 : ∀ c ∈ S, f.ground c = true) : e = 0 ∧ FEnd f S far := by
 rcases h with ⟨h0, _, h⟩ | ⟨_, _, h⟩
 ·exact ⟨h0, h⟩
 ·exact absurd ⟨h1, h2, h3⟩ h
def stpC (f : Fld) (c : Cel) : List Cel := [(⟨c.x - 1, c.y⟩ : Cel), ⟨c.x + 1, c.y⟩, ⟨c.x, c.y - 1⟩, ⟨c.x, c.y + 1⟩].filter f.isIn
def stpI (f : Fld) (c : Cel) : List Int := (stpC f c).map fun d => d.y * f.wide + d.x
def NoStep (f : Fld) (far : List Int) (x : Cel) (j : Nat) : Prop := 0 < f.fr far x ∧ ∀ i, i < j → ¬ (0 ≤ f.fr far ((stpC f x).getD i default) ∧ f.fr far x = f.fr far ((stpC f x).getD i default) + f.kost x)
end
end
section
open Go.RowKit
theorem Fld.opens (w : World) (cs : List Value) (h : Wd.fsh.Ok w cs) : ∃ (f : Fld) (A : Option Addr) (c : Nat), cs = [.int .i64 f.wide, .int .i64 f.high, .slice A f.places.length c] ∧ repI.SHas 8 w A c f.places ∧ okI f.wide ∧ okI f.high := by
 obtain ⟨_, _, rfl, _, _, ⟨x0, rfl, k0⟩, _, _, rfl, _, _, ⟨x1, rfl, k1⟩, _, _, rfl, _, _, hP, rfl⟩ := h
 obtain ⟨aP, cP, lP, rfl, HP⟩ := Rep.opens_slice (R := repI) repI_opens rfl (by decide) hP
 exact ⟨⟨x0, x1, lP⟩, aP, cP, rfl, HP, k0, k1⟩
theorem Cel.opens_v (w : World) (cs : List Value) (h : Cel.sh.Ok w cs) : ∃ a : Cel, cs = [.int .i64 a.x, .int .i64 a.y] := by
 obtain ⟨a, ha⟩ := Cel.opens w cs h
 exact ⟨a, And.left (show cs = a.cells ∧ a.ok from ha)⟩
def Fld.plainAt (f : Fld) (i : Nat) : Fld := { f with places := f.places.set i 0 }
end
section
open Go.RowKit
theorem Pb_eqs_api_Cell : EqS Try.prog Cel.cells 35 := by
 intro a b w
 obtain ⟨a0, a1⟩ := a
 obtain ⟨b0, b1⟩ := b
 simp only [Cel.cells, Cel.mk.injEq]
 constructor
 ·go_simp
  repeat' split
  all_goals simp_all
 ·go_simp
  repeat' split
  all_goals simp_all
theorem Pb_eqg_api_Cell : (Try.prog).eqGuardType (Try.prog).depth 35 = false := by kernel_rfl
theorem pathBest_bad (f : Fld) (a b : Cel) (P : Option Addr) (pc : Nat) (w : World) (hP : repI.SHas 8 w P pc f.places) (he : findE f a b ≠ 0) :
  Calls Try.prog 7 #[.agg #[.int .i64 f.wide, .int .i64 f.high, .slice P f.places.length pc], .agg #[.int .i64 a.x, .int .i64 a.y], .agg #[.int .i64 b.x, .int .i64 b.y]] w (fun e w' => e = .returned (.bool true) ∧ Ext w w') := by
 have kE : (findE f a b != 0) = true := by simpa using he
 have hno1 : (findP f a b).length = 0 := by unfold findP; rw [if_neg he]; rfl
 have hno2 : findK f a b = 0 := by unfold findK; rw [if_neg he]
 refine calls_W (n := 156) Try.func7 rfl rfl rfl ?_
 refine sq <| rg <| bx rfl rfl rfl rfl fun w_1 b_2 x_3 l_4 B_5 => ?_
 have q_6 := x_3.size
 have z_1 := Ext.tr (Ext.rf w) x_3
 have q_7 := B_5.lt
 refine bx rfl rfl rfl rfl fun w_8 b_9 x_10 l_11 B_12 => ?_
 have q_13 := x_10.size
 have z_8 := Ext.tr z_1 x_10
 have q_14 := B_12.lt
 refine bx rfl rfl rfl rfl fun w_15 b_16 x_17 l_18 B_19 => ?_
 have q_20 := x_17.size
 have z_15 := Ext.tr z_8 x_17
 have q_21 := B_19.lt
 refine vl (as_ rfl) rfl <| nl <| nT <| sq <| rg <| ?_
 have B_5 := B_5.later (Ext.tr x_10 x_17)
 refine vl (ld rfl (B_5.all eF22 eF23)) rfl <| ?_
 have B_12 := B_12.later x_17
 refine vl (ld rfl (B_12.all eF3 eF4)) rfl <| vl (ld rfl (B_19.all eF3 eF4)) rfl <| ca eF62 rfl rfl ((pfind_any f a b _ _ _ (hP.keep z_15)).mono ?_)
 rintro e w_25 ⟨A_22, c_22, rfl, OP_22, x_26⟩
 refine ⟨_, rfl, ?_⟩
 have q_27 := x_26.size
 have z_25 := Ext.tr z_15 x_26
 have u_23 := fun q hq => (OP_22.lt q hq).2
 have lo_24 := fun q hq => (OP_22.lt q hq).1
 have hcp_22 := OP_22.has.1
 refine vl (mv rfl) rfl <| vl (ex rfl rfl) rfl <| vl (ex rfl rfl) rfl <| vl (ex rfl rfl) rfl <| vl (as_ rfl) rfl <| vl (as_ rfl) rfl <| vl (as_ rfl) rfl <| nl <| nT <| sq <| sq <| rg <| ca eF79 rfl rfl ((pathLives_any _).mono ?_)
 rintro e w_28 ⟨rfl, x_29⟩
 refine ⟨_, rfl, ?_⟩
 have q_30 := x_29.size
 have z_28 := Ext.tr z_25 x_29
 refine vl (nt rfl) rfl <| vl (mv rfl) rfl <| ug rfl rfl rfl <| vl (mv rfl) rfl <| ug rfl rfl rfl <| vl (bne rfl rfl) rfl <| vl (pkF rfl (evb rfl kE)) rfl <| nl <| nT <| cT rfl <| sq <| rg <| ca eF79 rfl rfl ((pathLives_any _).mono ?_)
 rintro e w_31 ⟨rfl, x_32⟩
 refine ⟨_, rfl, ?_⟩
 have q_33 := x_32.size
 have z_31 := Ext.tr z_28 x_32
 refine vl (mv rfl) rfl <| ug rfl rfl rfl <| vl (mv rfl) rfl <| ug rfl rfl rfl <| vl (ln Try.underlying25 rfl) rfl <| ug rfl rfl rfl <| vl (beq rfl rfl) rfl <| vl (pkT rfl rfl) rfl <| vl (mv rfl) rfl <| vQ rfl rfl rfl rfl (fun hc => mv rfl) rfl <| vQ rfl rfl rfl rfl (fun hc => beq (gt hc rfl) rfl) rfl <| vl (pA rfl rfl rfl rfl) rfl <| vl (as_ rfl) rfl <| nl <| nT <| rt <| tT <| tR (.tmp rfl .nil) <| ?_
 exact ⟨ret_true (by simp [hno1, hno2]), z_31⟩
theorem pathBest_ok (f : Fld) (a b : Cel) (P : Option Addr) (pc : Nat) (w : World) (hP : repI.SHas 8 w P pc f.places) (he : findE f a b = 0) :
  Calls Try.prog 7 #[.agg #[.int .i64 f.wide, .int .i64 f.high, .slice P f.places.length pc], .agg #[.int .i64 a.x, .int .i64 a.y], .agg #[.int .i64 b.x, .int .i64 b.y]] w (fun e w' => e = .returned (.bool true) ∧ Ext w w') := by
 have kE : (findE f a b != 0) = false := by simpa using he
 obtain ⟨hf, ga, gb, h0, hk, hp⟩ := find_dat he
 obtain ⟨fr, hfa, hfb, hl0, hP0, hP1, hbd, hstp⟩ := best_dat he
 obtain ⟨hn, hlen, hgr⟩ := findP_once he
 have hl16 := Fld.len_le hf
 have hKb := (frF_dst hf ga h0).bd hf ga
 obtain ⟨g1, g2, g3, g4, g5, g6⟩ := Fld.good hf
 have hia := Fld.ground_in ga
 have hib := Fld.ground_in gb
 obtain ⟨ia1, ia2, ia3, ia4, ia5, ia6⟩ := Fld.idx hf hia
 obtain ⟨ib1, ib2, ib3, ib4, ib5, ib6⟩ := Fld.idx hf hib
 have ha0 : (findP f a b)[0]? = some a := (get_d (u := default) (by omega)).trans (congrArg some hP0)
 have hb0 : (findP f a b)[(findP f a b).length - 1]? = some b := (get_d (u := default) (by omega)).trans (congrArg some hP1)
 have hl0n : (findP f a b).length ≠ 0 := by omega
 have hnn : findP f a b ≠ [] := fun h => hl0n (by rw [h]; rfl)
 refine calls_W (n := 156) Try.func7 rfl rfl rfl ?_
 refine sq <| rg <| bx rfl rfl rfl rfl fun w_1 b_2 x_3 l_4 B_5 => ?_
 have q_6 := x_3.size
 have z_1 := Ext.tr (Ext.rf w) x_3
 have q_7 := B_5.lt
 refine bx rfl rfl rfl rfl fun w_8 b_9 x_10 l_11 B_12 => ?_
 have q_13 := x_10.size
 have z_8 := Ext.tr z_1 x_10
 have q_14 := B_12.lt
 refine bx rfl rfl rfl rfl fun w_15 b_16 x_17 l_18 B_19 => ?_
 have q_20 := x_17.size
 have z_15 := Ext.tr z_8 x_17
 have q_21 := B_19.lt
 refine vl (as_ rfl) rfl <| nl <| nT <| sq <| rg <| ?_
 have B_5 := B_5.later (Ext.tr x_10 x_17)
 refine vl (ld rfl (B_5.all eF22 eF23)) rfl <| ?_
 have B_12 := B_12.later x_17
 refine vl (ld rfl (B_12.all eF3 eF4)) rfl <| vl (ld rfl (B_19.all eF3 eF4)) rfl <| ca eF62 rfl rfl ((pfind_any f a b _ _ _ (hP.keep z_15)).mono ?_)
 rintro e w_25 ⟨A_22, c_22, rfl, OP_22, x_26⟩
 refine ⟨_, rfl, ?_⟩
 have q_27 := x_26.size
 have z_25 := Ext.tr z_15 x_26
 have u_23 := fun q hq => (OP_22.lt q hq).2
 have lo_24 := fun q hq => (OP_22.lt q hq).1
 have hcp_22 := OP_22.has.1
 refine vl (mv rfl) rfl <| vl (ex rfl rfl) rfl <| vl (ex rfl rfl) rfl <| vl (ex rfl rfl) rfl <| vl (as_ rfl) rfl <| vl (as_ rfl) rfl <| vl (as_ rfl) rfl <| nl <| nT <| sq <| sq <| rg <| ca eF79 rfl rfl ((pathLives_any _).mono ?_)
 rintro e w_28 ⟨rfl, x_29⟩
 refine ⟨_, rfl, ?_⟩
 have q_30 := x_29.size
 have z_28 := Ext.tr z_25 x_29
 refine vl (nt rfl) rfl <| vl (mv rfl) rfl <| ug rfl rfl rfl <| vl (mv rfl) rfl <| ug rfl rfl rfl <| vl (bne rfl rfl) rfl <| vl (pkF rfl (evb rfl kE)) rfl <| nl <| nT <| cF rfl <| sk <| nT <| sq <| rg <| ?_
 have B_5 := B_5.later (Ext.tr x_26 x_29)
 refine vl (ld rfl (B_5.all eF22 eF23)) rfl <| ?_
 have B_12 := B_12.later (Ext.tr x_26 x_29)
 refine vl (ld rfl (B_12.all eF3 eF4)) rfl <| bs (e := 35) (cs := [.int .i64 a.x, .int .i64 a.y]) rfl (fun _ => by kernel_rfl) rfl fun w_31 b_32 x_33 l_34 B_35 => ?_
 have q_36 := x_33.size
 have z_31 := Ext.tr z_28 x_33
 have q_37 := B_35.lt
 refine ca eF80 rfl rfl ((from_any f ([a]) _ _ _ _ _ (hP.keep z_31) (Blk.hasN (R := Cel.rep) (by_ := 16) (k := [a]) B_35 [[.int .i64 a.x, .int .i64 a.y]] rfl (⟨⟨rfl, ⟨okI_iff.2 (by omega), okI_iff.2 (by omega)⟩⟩, trivial⟩) (by simp) (by simp))).mono ?_)
 rintro e w_41 ⟨E38, A38, c38, far38, rfl, OF38, hr38, x_42⟩
 refine ⟨_, rfl, ?_⟩
 have q_43 := x_42.size
 have z_41 := Ext.tr z_31 x_42
 have u_39 := fun q hq => (OF38.lt q hq).2
 have lo_40 := fun q hq => (OF38.lt q hq).1
 refine vl (mv rfl) rfl <| vl (ex rfl rfl) rfl <| vl (ex rfl rfl) rfl <| vl (as_ rfl) rfl <| vl (as_ rfl) rfl <| nl <| nT <| sq <| sq <| ?_
 skip
 ·obtain ⟨e3, fe⟩ := hr38.zero hf (by simp) (fun c hc => by rw [List.mem_singleton.1 hc]; exact ga)
  have hfk := best_far he fe
  have hL := fe.len
  refine rd [(10, 0), (11, 0), (20, 0), (21, 0), (27, 0), (29, 0), (32, 0), (35, 0)] [0, 1, 2, 3, 4, 5, 6, 7, 8, 9, 10, 11, 12, 13, 14, 15, 16, 17, 18, 19, 20, 21, 22, 23, 24, 25, 26, 27, 28, 29, 30, 31, 32, 33, 34, 35, 36, 37, 38] (by kernel_rfl) (by kernel_rfl) ?_
  refine fw rfl rfl (fun _ => mv rfl) rfl <| fw rfl rfl (fun _ => bne rfl rfl) rfl <| fw rfl rfl (fun _ => mv rfl) rfl <| fW rfl rfl rfl rfl rfl rfl (fun hc _ => mv rfl) rfl <| fW rfl rfl rfl rfl rfl rfl (fun hc _ => ln Try.underlying25 (gt hc rfl)) rfl <| fW rfl rfl rfl rfl rfl rfl (fun hc _ => beq (gt hc rfl) rfl) rfl <| fw rfl rfl (fun _ => pO rfl rfl rfl rfl) rfl <| fw rfl rfl (fun _ => mv rfl) rfl <| fW rfl rfl rfl rfl rfl rfl (fun hc _ => mv rfl) rfl <| ?_
  have OP_22 := OP_22.later (Ext.tr x_29 (Ext.tr x_33 x_42))
  refine fW rfl rfl rfl rfl rfl rfl (fun hc _ => iA 0 Try.underlying25 eF4 (gt hc rfl) rfl (OP_22.has.adr (Nat.zero_lt_of_lt (show 0 < _ from (by omega)))) rfl (by omega)) rfl <| fQ rfl rfl rfl rfl rfl rfl (fun hc _ x => ld (gt hc rfl) (Rep.SHas.elt hcC ((OP_22.later x).has.adh (Nat.zero_lt_of_lt (show 0 < _ from (by omega)))) ha0 eF3 eF4)) rfl <| ?_
  have B_12 := B_12.later (Ext.tr x_33 x_42)
  refine fQ rfl rfl rfl rfl rfl rfl (fun hc _ x => ld rfl ((B_12.later x).all eF3 eF4)) rfl <| fW rfl rfl rfl rfl rfl rfl (fun hc _ => bnS Pb_eqs_api_Cell Pb_eqg_api_Cell (p := a) (q := a) (gt hc rfl) (gt hc rfl)) rfl <| fw rfl rfl (fun _ => pO rfl rfl rfl rfl) rfl <| fw rfl rfl (fun _ => mv rfl) rfl <| fW rfl rfl rfl rfl rfl rfl (fun hc _ => mv rfl) rfl <| fW rfl rfl rfl rfl rfl rfl (fun hc _ => mv rfl) rfl <| fW rfl rfl rfl rfl rfl rfl (fun hc _ => ln Try.underlying25 (gt hc rfl)) rfl <| fW rfl rfl rfl rfl rfl rfl (fun hc _ => bsu (gt hc rfl) rfl (inI (by (try simp only [Bool.or_eq_true, Bool.or_eq_false_iff, Bool.and_eq_true, Bool.and_eq_false_iff, decide_eq_true_eq, decide_eq_false_iff_not, beq_iff_eq, bne_iff_ne, beq_eq_false_iff_ne, bne_eq_false_iff_eq, Bool.not_eq_true', Bool.not_eq_false', Bool.not_eq_true, Bool.not_eq_false, Int.not_lt, Int.not_le, Nat.not_lt, Nat.not_le, ne_eq, Classical.not_not] at hc); omega))) rfl <| fW rfl rfl rfl rfl rfl rfl (fun hc _ => iA ((((((findP f a b).length : Nat) : Int)) - 1).toNat) Try.underlying25 eF4 (gt hc rfl) (gt hc rfl) (OP_22.has.adr (Nat.zero_lt_of_lt (show (((((findP f a b).length : Nat) : Int)) - 1).toNat < _ from (by omega)))) (by (try simp only [Bool.or_eq_true, Bool.or_eq_false_iff, Bool.and_eq_true, Bool.and_eq_false_iff, decide_eq_true_eq, decide_eq_false_iff_not, beq_iff_eq, bne_iff_ne, beq_eq_false_iff_ne, bne_eq_false_iff_eq, Bool.not_eq_true', Bool.not_eq_false', Bool.not_eq_true, Bool.not_eq_false, Int.not_lt, Int.not_le, Nat.not_lt, Nat.not_le, ne_eq, Classical.not_not] at hc); omega) (by omega)) rfl <| fQ rfl rfl rfl rfl rfl rfl (fun hc _ x => ld (gt hc rfl) (Rep.SHas.elt hcC ((OP_22.later x).has.adh (Nat.zero_lt_of_lt (show (((((findP f a b).length : Nat) : Int)) - 1).toNat < _ from (by omega)))) (by rw [show (((((findP f a b).length : Nat) : Int)) - 1).toNat = (findP f a b).length - 1 by omega]; exact hb0) eF3 eF4)) rfl <| ?_
  have B_19 := B_19.later (Ext.tr x_26 (Ext.tr x_29 (Ext.tr x_33 x_42)))
  refine fQ rfl rfl rfl rfl rfl rfl (fun hc _ x => ld rfl ((B_19.later x).all eF3 eF4)) rfl <| fW rfl rfl rfl rfl rfl rfl (fun hc _ => bnS Pb_eqs_api_Cell Pb_eqg_api_Cell (p := b) (q := b) (gt hc rfl) (gt hc rfl)) rfl <| fw rfl rfl (fun _ => pO rfl rfl rfl rfl) rfl <| fw rfl rfl (fun _ => mv rfl) rfl <| fW rfl rfl rfl rfl rfl rfl (fun hc _ => mv rfl) rfl <| fW rfl rfl rfl rfl rfl rfl (fun hc _ => fa eF2 rfl) rfl <| fQ rfl rfl rfl rfl rfl rfl (fun hc _ x => ld (gt hc rfl) ((B_19.later x).one eF1 rfl)) rfl <| fW rfl rfl rfl rfl rfl rfl (fun hc _ => fa eF21 rfl) rfl <| ?_
  have B_5 := B_5.later (Ext.tr x_33 x_42)
  refine fQ rfl rfl rfl rfl rfl rfl (fun hc _ x => ld (gt hc rfl) ((B_5.later x).one eF1 rfl)) rfl <| fW rfl rfl rfl rfl rfl rfl (fun hc _ => bmu (gt hc rfl) (gt hc rfl) (inI (by (try simp only [Bool.or_eq_true, Bool.or_eq_false_iff, Bool.and_eq_true, Bool.and_eq_false_iff, decide_eq_true_eq, decide_eq_false_iff_not, beq_iff_eq, bne_iff_ne, beq_eq_false_iff_ne, bne_eq_false_iff_eq, Bool.not_eq_true', Bool.not_eq_false', Bool.not_eq_true, Bool.not_eq_false, Int.not_lt, Int.not_le, Nat.not_lt, Nat.not_le, ne_eq, Classical.not_not] at hc); omega))) rfl <| fW rfl rfl rfl rfl rfl rfl (fun hc _ => fa eF0 rfl) rfl <| fQ rfl rfl rfl rfl rfl rfl (fun hc _ x => ld (gt hc rfl) ((B_19.later x).one eF1 rfl)) rfl <| fW rfl rfl rfl rfl rfl rfl (fun hc _ => bad (gt hc rfl) (gt hc rfl) (inI (by (try simp only [Bool.or_eq_true, Bool.or_eq_false_iff, Bool.and_eq_true, Bool.and_eq_false_iff, decide_eq_true_eq, decide_eq_false_iff_not, beq_iff_eq, bne_iff_ne, beq_eq_false_iff_ne, bne_eq_false_iff_eq, Bool.not_eq_true', Bool.not_eq_false', Bool.not_eq_true, Bool.not_eq_false, Int.not_lt, Int.not_le, Nat.not_lt, Nat.not_le, ne_eq, Classical.not_not] at hc); omega))) rfl <| fW rfl rfl rfl rfl rfl rfl (fun hc _ => iA (((b.y * f.wide) + b.x).toNat) Try.underlying22 eF36 (gt hc rfl) (gt hc rfl) (OF38.has.adr (Nat.zero_lt_of_lt (show ((b.y * f.wide) + b.x).toNat < _ from (fr_lt hf fe.len hib).1))) (by (try simp only [Bool.or_eq_true, Bool.or_eq_false_iff, Bool.and_eq_true, Bool.and_eq_false_iff, decide_eq_true_eq, decide_eq_false_iff_not, beq_iff_eq, bne_iff_ne, beq_eq_false_iff_ne, bne_eq_false_iff_eq, Bool.not_eq_true', Bool.not_eq_false', Bool.not_eq_true, Bool.not_eq_false, Int.not_lt, Int.not_le, Nat.not_lt, Nat.not_le, ne_eq, Classical.not_not] at hc); omega) (fr_lt hf fe.len hib).1) rfl <| fQ rfl rfl rfl rfl rfl rfl (fun hc _ x => ld (gt hc rfl) (Rep.SHas.one' hcI ((OF38.later x).has.adh (Nat.zero_lt_of_lt (show ((b.y * f.wide) + b.x).toNat < _ from (fr_lt hf fe.len hib).1))) (fr_get hf fe.len hib) rfl eF1)) rfl <| fW rfl rfl rfl rfl rfl rfl (fun hc _ => mv rfl) rfl <| fW rfl rfl rfl rfl rfl rfl (fun hc _ => bne (gt hc rfl) (gt hc rfl)) rfl <| fw rfl rfl (fun _ => pO rfl rfl rfl rfl) rfl <| fn fun w_44 x_45 => ?_
  have q_46 := x_45.size
  have z_44 := Ext.tr z_41 x_45
  refine nT <| ?_
  have h_47 : (((((E38 != 0) || (((((findP f a b).length : Nat) : Int)) == 0)) || (!decide (a = a))) || (!decide (b = b))) || ((f.fr far38 b) != (findK f a b))) = false := by simp [e3, hfk, hnn]
  refine cF (by rw [← h_47]; rfl) <| sk <| nT <| sq <| rg <| vl (as_ rfl) rfl <| nl <| nT <| sq <| sq <| rg <| vl (as_ rfl) rfl <| nl <| nT <| bk <| ?_
  have B_5 := B_5.later x_45
  have OP_22 := OP_22.later x_45
  refine lp (fun mI EI wI => ∃ k : Nat, ∃ sm : Int, EI = [(3, .pointer (some ⟨b_2, 0, none⟩)), (7, .slice A_22 ((findP f a b).length) c_22), (8, .int .i64 (findK f a b)), (12, .int .i64 sm), (13, .int .i64 (k : Int))] ∧ mI = (findP f a b).length - k ∧ Ext w wI ∧ Blk wI b_2 [.int .i64 f.wide, .int .i64 f.high, .slice P f.places.length pc] 24 (0, 0) ∧ Cel.rep.SOwn 35 16 wI w_15.heap.size (Rep.blkOf A_22) A_22 c_22 (findP f a b) ∧ (1 ≤ k) ∧ (k ≤ (findP f a b).length) ∧ (sm = fr ((findP f a b).getD (k - 1) default))) _ _ ⟨1, 0, rfl, rfl, z_44, B_5, OP_22, by omega, by omega, by rw [show 1 - 1 = 0 by rfl, hP0, hfa]⟩ (.cons rfl (.cons rfl (.cons rfl (.cons rfl (.cons rfl .nil))))) ?_
  rintro m_49 E_50 w_48 ⟨k, sm, rfl, rfl, z_48, B_5, OP_22, hk0, hk1, hsm⟩
  have q_51 := z_48.size
  have q_52 := B_5.lt
  have u_53 := fun q hq => (OP_22.lt q hq).2
  refine sq <| sq <| rg <| vl (mv rfl) rfl <| vl (mv rfl) rfl <| vl (ln Try.underlying25 rfl) rfl <| vl (blt rfl rfl) rfl <| nl <| nT <| ?_
  refine clt rfl (fun h_54 => ?_) (fun h_54 => ?_)
  ·obtain ⟨cn, hcn0⟩ : ∃ cn, (findP f a b).getD k default = cn := ⟨_, rfl⟩
   obtain ⟨cp, hcp0⟩ : ∃ cp, (findP f a b).getD (k - 1) default = cp := ⟨_, rfl⟩
   have hcn : (findP f a b)[k]? = some cn := by rw [← hcn0]; exact get_d (by omega)
   have hcp : (findP f a b)[k - 1]? = some cp := by rw [← hcp0]; exact get_d (by omega)
   have hst := hstp (k - 1) (by omega)
   rw [show k - 1 + 1 = k by omega, hcn0, hcp0] at hst
   obtain ⟨t1, t2, t3⟩ := hst
   rw [hcp0] at hsm
   obtain ⟨sq1, sq2, sq3⟩ := sq_one t1
   have hin := Fld.ground_in t2
   obtain ⟨in1, in2, in3, in4, in5, in6⟩ := Fld.idx hf hin
   have hip := Fld.ground_in (hgr cp (by rw [← hcp0]; exact mem_dd (by omega)))
   obtain ⟨ip1, ip2, ip3, ip4, ip5, ip6⟩ := Fld.idx hf hip
   have hbn := hbd cn (by rw [← hcn0]; exact mem_dd (by omega))
   have hbp := hbd cp (by rw [← hcp0]; exact mem_dd (by omega))
   have hat := Fld.at_in hf hin
   obtain ⟨cg1, cg2⟩ := cost_ground hf hin
   have cg3 : costK (f.atV cn) = f.kost cn := by rw [hat.2]; exact cg2 t2
   have k1_ : (f.atE cn != 0) = false := by rw [hat.1]; rfl
   have k2_ : (costE (f.atV cn) != 0) = false := by rw [hat.2, bne_eq_false_iff_eq]; exact beq_iff_eq.1 (by rw [cg1]; exact t2)
   have hkb := f.kost_bd (c := cn)
   refine sk <| nT <| sq <| bk <| sq <| ?_
   refine rd [(0, 0), (4, 0), (5, 0)] [0, 1, 2, 3, 4, 5, 6, 7, 8, 9, 10] (by kernel_rfl) (by kernel_rfl) ?_
   refine fq rfl rfl (fun _ x => ld rfl ((B_5.later x).all eF22 eF23)) rfl <| fw rfl rfl (fun _ => mv rfl) rfl <| fw rfl rfl (fun _ => mv rfl) rfl <| fw rfl rfl (fun _ => iA k Try.underlying25 eF4 rfl rfl (OP_22.has.adr (Nat.zero_lt_of_lt (show k < _ from (by omega)))) rfl (by omega)) rfl <| fq rfl rfl (fun _ x => ld rfl (Rep.SHas.elt hcC ((OP_22.later x).has.adh (Nat.zero_lt_of_lt (show k < _ from (by omega)))) hcn eF3 eF4)) rfl <| fc rfl rfl eF24 rfl (fun _ x => fldAt2 f cn _ _ _ (hP.keep (Ext.tr z_48 x))) rfl <| fw rfl rfl (fun _ => mv rfl) rfl <| fw rfl rfl (fun _ => ex rfl rfl) rfl <| fw rfl rfl (fun _ => ex rfl rfl) rfl <| fw rfl rfl (fun _ => as_ rfl) rfl <| fw rfl rfl (fun _ => as_ rfl) rfl <| fn fun w_55 x_56 => ?_
   have q_57 := x_56.size
   have z_55 := Ext.tr z_48 x_56
   refine nT <| sq <| rg <| vl (mv rfl) rfl <| ca eF25 rfl rfl ((fcost_any (f.atV cn) _).mono ?_)
   rintro e w_58 ⟨rfl, x_59⟩
   refine ⟨_, rfl, ?_⟩
   have q_60 := x_59.size
   have z_58 := Ext.tr z_55 x_59
   refine vl (mv rfl) rfl <| vl (ex rfl rfl) rfl <| vl (ex rfl rfl) rfl <| vl (as_ rfl) rfl <| vl (as_ rfl) rfl <| nl <| nT <| sq <| ?_
   refine rd [(4, 0), (10, 0), (16, 0), (22, 0)] [0, 1, 2, 3, 4, 5, 6, 7, 8, 9, 10, 11, 12, 13, 14, 15, 16, 17, 18, 19, 20, 21, 22, 23, 24, 25] (by kernel_rfl) (by kernel_rfl) ?_
   refine fw rfl rfl (fun _ => mv rfl) rfl <| fw rfl rfl (fun _ => mv rfl) rfl <| ?_
   have OP_22 := OP_22.later (Ext.tr x_56 x_59)
   refine fw rfl rfl (fun _ => iA k Try.underlying25 eF4 rfl rfl (OP_22.has.adr (Nat.zero_lt_of_lt (show k < _ from (by omega)))) rfl (by omega)) rfl <| fw rfl rfl (fun _ => fa eF0 rfl) rfl <| fq rfl rfl (fun _ x => ld rfl (Rep.SHas.fld hcC ((OP_22.later x).has.adh (Nat.zero_lt_of_lt (show k < _ from (by omega)))) 0 hcn rfl eF1)) rfl <| fw rfl rfl (fun _ => mv rfl) rfl <| fw rfl rfl (fun _ => mv rfl) rfl <| fw rfl rfl (fun _ => bsu rfl rfl (inI (by omega))) rfl <| fw rfl rfl (fun _ => iA (((k : Int) - 1).toNat) Try.underlying25 eF4 rfl rfl (OP_22.has.adr (Nat.zero_lt_of_lt (show ((k : Int) - 1).toNat < _ from (by omega)))) (by omega) (by omega)) rfl <| fw rfl rfl (fun _ => fa eF0 rfl) rfl <| fq rfl rfl (fun _ x => ld rfl (Rep.SHas.fld hcC ((OP_22.later x).has.adh (Nat.zero_lt_of_lt (show ((k : Int) - 1).toNat < _ from (by omega)))) 0 (by rw [show ((k : Int) - 1).toNat = k - 1 by omega]; exact hcp) rfl eF1)) rfl <| fw rfl rfl (fun _ => bsu rfl rfl (inI (by omega))) rfl <| fw rfl rfl (fun _ => mv rfl) rfl <| fw rfl rfl (fun _ => mv rfl) rfl <| fw rfl rfl (fun _ => iA k Try.underlying25 eF4 rfl rfl (OP_22.has.adr (Nat.zero_lt_of_lt (show k < _ from (by omega)))) rfl (by omega)) rfl <| fw rfl rfl (fun _ => fa eF2 rfl) rfl <| fq rfl rfl (fun _ x => ld rfl (Rep.SHas.fld hcC ((OP_22.later x).has.adh (Nat.zero_lt_of_lt (show k < _ from (by omega)))) 1 hcn rfl eF1)) rfl <| fw rfl rfl (fun _ => mv rfl) rfl <| fw rfl rfl (fun _ => mv rfl) rfl <| fw rfl rfl (fun _ => bsu rfl rfl (inI (by omega))) rfl <| fw rfl rfl (fun _ => iA (((k : Int) - 1).toNat) Try.underlying25 eF4 rfl rfl (OP_22.has.adr (Nat.zero_lt_of_lt (show ((k : Int) - 1).toNat < _ from (by omega)))) (by omega) (by omega)) rfl <| fw rfl rfl (fun _ => fa eF2 rfl) rfl <| fq rfl rfl (fun _ x => ld rfl (Rep.SHas.fld hcC ((OP_22.later x).has.adh (Nat.zero_lt_of_lt (show ((k : Int) - 1).toNat < _ from (by omega)))) 1 (by rw [show ((k : Int) - 1).toNat = k - 1 by omega]; exact hcp) rfl eF1)) rfl <| fw rfl rfl (fun _ => bsu rfl rfl (inI (by omega))) rfl <| fw rfl rfl (fun _ => as_ rfl) rfl <| fw rfl rfl (fun _ => as_ rfl) rfl <| ?_
   refine fn fun w_61 x_62 => ?_
   have q_63 := x_62.size
   have z_61 := Ext.tr z_58 x_62
   refine nT <| sq <| sq <| ?_
   skip
   ·refine rg <| vl (mv rfl) rfl <| vl (bne rfl rfl) rfl <| vl (mv (evb rfl k1_)) rfl <| ug rfl rfl rfl <| vl (mv rfl) rfl <| ug rfl rfl rfl <| vl (bne rfl rfl) rfl <| vl (pkF rfl (evb rfl k2_)) rfl <| vl (mv rfl) rfl <| ug rfl rfl rfl <| vl (mv rfl) rfl <| ug rfl rfl rfl <| vl (mv rfl) rfl <| ug rfl rfl rfl <| vl (bmu rfl rfl (inI (by omega))) rfl <| ug rfl rfl rfl <| vl (mv rfl) rfl <| ug rfl rfl rfl <| vl (mv rfl) rfl <| ug rfl rfl rfl <| vl (bmu rfl rfl (inI (by omega))) rfl <| ug rfl rfl rfl <| vl (bad rfl rfl (inI (by omega))) rfl <| ?_
    refine ug rfl rfl rfl <| vl (bne rfl rfl) rfl <| vl (pkF rfl rfl) rfl <| nl <| nT <| ?_
    have h_64 : ((((cn.x - cp.x) * (cn.x - cp.x)) + ((cn.y - cp.y) * (cn.y - cp.y))) != 1) = false := by rw [bne_eq_false_iff_eq]; omega
    refine cF (by rw [← h_64]; rfl) <| sk <| nT <| rg <| vl (mv rfl) rfl <| vl (mv rfl) rfl <| vl (bad rfl rfl (inI (by omega))) rfl <| vl (as_ rfl) rfl <| nl <| nB <| nT <| rg <| vl (mv rfl) rfl <| vl (bad rfl rfl (inI (by omega))) rfl <| vl (as_ rfl) rfl <| nl <| ?_
    have B_5 := B_5.later (Ext.tr x_56 (Ext.tr x_59 x_62))
    have OP_22 := OP_22.later x_62
    exact nI _ _ ⟨k + 1, sm + costK (f.atV cn), rfl, rfl, z_61, B_5, OP_22, by omega, by omega, by rw [show k + 1 - 1 = k by omega, hcn0, t3, cg3, hsm]⟩ (by omega) (.cons rfl (.cons rfl (.cons rfl (.cons rfl (.cons (loI rfl (by first | omega | rfl | (simp <;> omega))) .nil)))))
  ·refine xt <| xT <| xK <| xB <| nT <| sq <| rg <| vl (mv rfl) rfl <| vl (mv rfl) rfl <| vl (beq rfl rfl) rfl <| vl (as_ rfl) rfl <| nl <| nT <| rt <| tR (.tmp rfl .nil) <| ?_
   exact ⟨ret_true (by rw [beq_iff_eq, hsm, show k - 1 = (findP f a b).length - 1 by omega, hP1, hfb]), z_48⟩
theorem pathBest_any (c0 : Array Value) (c1 : Array Value) (c2 : Array Value) (w : World) (h0 : (.cons (.int .i64) (.cons (.int .i64) (.cons (.slice (.int .i64) 8) .nil)) : Sh).Ok w c0.toList) (h1 : (.cons (.int .i64) (.cons (.int .i64) .nil) : Sh).Ok w c1.toList) (h2 : (.cons (.int .i64) (.cons (.int .i64) .nil) : Sh).Ok w c2.toList) :
  Calls Try.prog 7 #[.agg c0, .agg c1, .agg c2] w fun e w' => e = .returned (.bool true) ∧ Below w.heap.size w w' := by
 obtain ⟨f, A, cp, e0, hP, hkw, hkh⟩ := Fld.opens w _ (show Wd.fsh.Ok w c0.toList from h0)
 have hc : c0 = #[.int .i64 f.wide, .int .i64 f.high, .slice A f.places.length cp] := by rw [← e0]
 subst hc
 obtain ⟨a, e1⟩ := Cel.opens_v w _ (show Cel.sh.Ok w c1.toList from h1)
 have hc1 : c1 = #[.int .i64 a.x, .int .i64 a.y] := by rw [← e1]
 subst hc1
 obtain ⟨b, e2⟩ := Cel.opens_v w _ (show Cel.sh.Ok w c2.toList from h2)
 have hc2 : c2 = #[.int .i64 b.x, .int .i64 b.y] := by rw [← e2]
 subst hc2
 by_cases he : findE f a b = 0
 ·exact pathBest_ok f a b A cp w hP he
 ·exact pathBest_bad f a b A cp w hP he
end
end Go.Proofs.Ytmpkaphcpaigdaa
