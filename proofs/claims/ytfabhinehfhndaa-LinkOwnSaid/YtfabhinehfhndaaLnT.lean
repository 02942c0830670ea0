/-
  link.taken. (Printed by bin/linkt.py.)
-/
import Derived.Test.YtfabhinehfhndaaLnC
import Derived.Test.YtfabhinehfhndaaFnd
import Derived.Test.YtfabhinehfhndaaGolC
set_option linter.unusedVariables false
set_option linter.unusedSimpArgs false
namespace Go.Proofs.Ytfabhinehfhndaa
open Go.RowKit

theorem LnT_sz_int : Sz Try.prog 3 1 := fun _ => by kernel_rfl
theorem LnT_el_S_int : ElT Try.prog repI 38 3 8 := ElT.mk_ (z := .int .i64 0) (k := 1) Try.underlying38 info_int rfl rfl (by decide) (fun j u h => raw0I j u h)
theorem LnT_ag_S_int : Ag Try.prog 38 false := fun _ => by kernel_rfl
theorem LnT_ag_int : Ag Try.prog 3 false := fun _ => by kernel_rfl
theorem LnT_en_slices_Delete_S_int_int_ : Enters Try.prog 89 := en Try.func89 (by kernel_rfl) (by kernel_rfl)
theorem LnT_sz_S_int : Sz Try.prog 38 1 := fun _ => by kernel_rfl
/-- A link in a block of its own, its lists apart. -/
structure LAt (w : World) (Z b : Nat) (a : Lnk.At) (L : Lnk) : Prop where
  blk : Blk w b (Lnk.cells a L) 55 (0, 0)
  own : LOwn w Z a L
  le : Z ≤ b
  bS : ∀ q ∈ Rep.blkOf a.S, q = b → False
  bW : ∀ q ∈ Rep.blkOf a.W, q = b → False
  bK : ∀ q ∈ Rep.blkOf a.K, q = b → False
  bG : ∀ q ∈ Rep.blkOf a.G, q = b → False
  bH : ∀ q ∈ Rep.blkOf a.H, q = b → False
def lft (a : Lnk.At) : List Nat := Rep.blkOf a.S ++ (Rep.blkOf a.W ++ (Rep.blkOf a.K ++ (Rep.blkOf a.G ++ Rep.blkOf a.H)))
theorem lft_or {a : Lnk.At} {q : Nat} (h : q ∈ lft a) : q ∈ Rep.blkOf a.S ∨ q ∈ Rep.blkOf a.W ∨ q ∈ Rep.blkOf a.K ∨ q ∈ Rep.blkOf a.G ∨ q ∈ Rep.blkOf a.H := by simpa [lft] using h
theorem lft_in {a : Lnk.At} {P : Nat → Prop} (hS : ∀ q ∈ Rep.blkOf a.S, P q) (hW : ∀ q ∈ Rep.blkOf a.W, P q) (hK : ∀ q ∈ Rep.blkOf a.K, P q) (hG : ∀ q ∈ Rep.blkOf a.G, P q) (hH : ∀ q ∈ Rep.blkOf a.H, P q) : ∀ q ∈ lft a, P q := fun q hq => by
  rcases lft_or hq with h | h | h | h | h
  · exact hS q h
  · exact hW q h
  · exact hK q h
  · exact hG q h
  · exact hH q h
/-- The blocks of a link that stands in a block. -/
def lF (b : Nat) (a : Lnk.At) : List Nat := b :: (Rep.blkOf a.S ++ (Rep.blkOf a.W ++ (Rep.blkOf a.K ++ (Rep.blkOf a.G ++ Rep.blkOf a.H))))
section
variable {b q : Nat} {a : Lnk.At}
theorem in_lF_S (h : q ∈ Rep.blkOf a.S) : q ∈ lF b a := List.mem_cons_of_mem _ (List.mem_append_left _ h)
theorem in_lF_W (h : q ∈ Rep.blkOf a.W) : q ∈ lF b a := List.mem_cons_of_mem _ (List.mem_append_right _ (List.mem_append_left _ h))
theorem in_lF_K (h : q ∈ Rep.blkOf a.K) : q ∈ lF b a := List.mem_cons_of_mem _ (List.mem_append_right _ (List.mem_append_right _ (List.mem_append_left _ h)))
theorem in_lF_G (h : q ∈ Rep.blkOf a.G) : q ∈ lF b a := List.mem_cons_of_mem _ (List.mem_append_right _ (List.mem_append_right _ (List.mem_append_right _ (List.mem_append_left _ h))))
theorem in_lF_H (h : q ∈ Rep.blkOf a.H) : q ∈ lF b a := List.mem_cons_of_mem _ (List.mem_append_right _ (List.mem_append_right _ (List.mem_append_right _ (List.mem_append_right _ h))))
theorem lF_or (h : q ∈ lF b a) : q = b ∨ q ∈ Rep.blkOf a.S ∨ q ∈ Rep.blkOf a.W ∨ q ∈ Rep.blkOf a.K ∨ q ∈ Rep.blkOf a.G ∨ q ∈ Rep.blkOf a.H := by
  simpa [lF] using h
theorem lF_ge {w : World} {Z : Nat} {L : Lnk} (h : LAt w Z b a L) : ∀ q ∈ lF b a, Z ≤ q := fun q hq => by
  have := h.le
  rcases lF_or hq with h1 | h1 | h1 | h1 | h1 | h1
  · omega
  · exact (h.own.S.lt q h1).1
  · exact (h.own.W.lt q h1).1
  · exact (h.own.K.lt q h1).1
  · exact (h.own.G.lt q h1).1
  · exact (h.own.H.lt q h1).1
end
def tkOk (l : List Int) (i : Int) : Bool := decide (0 ≤ i) && decide (i < (l.length : Int))
def tkN (l : List Int) (i : Int) : Int := if tkOk l i = true then l.getD i.toNat 0 else 0
def tkL (l : List Int) (i : Int) (keep : Bool) : List Int := if tkOk l i = true ∧ keep = false then l.take i.toNat ++ l.drop (i.toNat + 1) else l
section
variable {l : List Int} {i : Int} {k : Nat} {keep : Bool}
theorem tk_in (h : k < l.length) : tkOk l (k : Int) = true := by unfold tkOk; simp; omega
theorem tkN_out (h : tkOk l i = false) : tkN l i = 0 := by unfold tkN; rw [h]; rfl
theorem tkL_out (h : tkOk l i = false) : tkL l i keep = l := by unfold tkL; rw [h]; simp
theorem tkN_in (h : k < l.length) : tkN l (k : Int) = l.getD k 0 := by unfold tkN; rw [if_pos (tk_in h)]; rfl
theorem tkL_keep : tkL l i true = l := by unfold tkL; simp
theorem tkL_del (h : k < l.length) : tkL l (k : Int) false = l.take k ++ l.drop (k + 1) := by unfold tkL; rw [if_pos ⟨tk_in h, rfl⟩]; rfl
end
set_option maxRecDepth 100000 in
set_option maxHeartbeats 400000 in
theorem delAt_Z (w0 : World) (A : Option Addr) (c i j : Nat) (l : List Int) (w : World) (hx0 : Ext w0 w) (hO : repI.SOwn 3 8 w w0.heap.size (Rep.blkOf A) A c l) (hij : i < j) (hj : j ≤ l.length) :
    Calls Try.prog 89 #[.slice A l.length c, .int .i64 (i : Int), .int .i64 (j : Int)] w (fun e w' => e = .returned (.slice A (l.take i ++ l.drop j).length c) ∧ repI.SOwn 3 8 w' w0.heap.size (Rep.blkOf A) A c (l.take i ++ l.drop j) ∧ Mod (Rep.blkOf A) w w') := by
  have hl0 := hO.has
  have hll := hl0.len_le
  have hlc := hl0.1
  have hlb := hO.1
  have uA := fun q hq => (hO.lt q hq).2
  have lA : ∀ q ∈ Rep.blkOf A, w0.heap.size ≤ q := fun q hq => (hO.lt q hq).1
  have hx0s := hx0.size
  have hA := hO.block (by omega)
  have ht1 : (l.take i).length = i := by rw [List.length_take]; omega
  have ht2 : ((l.drop j).take (l.length - j)).length = l.length - j := by rw [List.length_take, List.length_drop]; omega
  refine calls_W (n := 33) Try.func89 rfl rfl rfl ?_
  refine sq <| rg <| vl (as_ rfl) rfl <| nl <| nT <| sq <| rg <| vl (mv rfl) rfl <| vl (mv rfl) rfl <| vl (mv rfl) rfl <| vl (mv rfl) rfl <| vl (ln Try.underlying38 rfl) rfl <| vl (s3 i j l.length Try.underlying38 LnT_sz_int rfl rfl rfl rfl rfl rfl rfl (by omega) (by omega) (by omega)) rfl <| nl <| nT <| sq <| sq <| rg <| vl (mv rfl) rfl <| vl (mv rfl) rfl <| vl (beq rfl rfl) rfl <| nl <| nT <| ?_
  have h_1 : ((i : Int) == (j : Int)) = false := by simp only [beq_eq_false_iff_ne]; omega
  refine cF (by rw [← h_1]; rfl) <| sk <| nT <| sq <| rg <| vl (mv rfl) rfl <| vl (ln Try.underlying38 rfl) rfl <| vl (as_ rfl) rfl <| nl <| nT <| sq <| ?_
  refine rd [(6, 3)] [0, 1, 2, 3, 4, 5, 6, 7] (by kernel_rfl) (by kernel_rfl) ?_
  refine fw rfl rfl (fun _ => mv rfl) rfl <| fw rfl rfl (fun _ => mv rfl) rfl <| fw rfl rfl (fun _ => sP i (l.take i).length Try.underlying38 LnT_sz_int rfl rfl rfl (by omega) ht1) rfl <| fw rfl rfl (fun _ => mv rfl) rfl <| fw rfl rfl (fun _ => mv rfl) rfl <| fw rfl rfl (fun _ => sT j Try.underlying38 LnT_sz_int rfl rfl rfl (by omega)) rfl <| fb rfl rfl rfl fun w_2 x_3 Q hK => apf LnT_el_S_int Rep.flat_bare (Rep.SOwn.cut (hO.later x_3) Rep.flat_bare i (by omega)) hA ((hO.later x_3).has.sub j l.length (by omega) (by omega)) (sA_some hA) rfl (by rw [ht2]; rfl) (by omega) (by omega) (Nat.le_trans hx0s (by have := x_3.size; omega)) rfl fun w_4 m_5 O_6 => hK _ _ ?_
  have q_7 := x_3.size
  have z_2 := (Mod.rf (Rep.blkOf A) w).trans (Mod.of_ext x_3)
  have q_8 := m_5.size
  have z_4 := z_2.md m_5 (fun q hq => .inl hq)
  refine fw rfl rfl (fun _ => as_ rfl) rfl <| fn fun w_9 x_10 => ?_
  have q_11 := x_10.size
  have z_9 := z_4.trans (Mod.of_ext x_10)
  refine nT <| sq <| rg <| vl (mv rfl) rfl <| vl (mv rfl) rfl <| vl (ln Try.underlying38 rfl) rfl <| vl (mv rfl) rfl <| vl (sI ((l.take i).length + ((l.drop j).take (l.length - j)).length) l.length Try.underlying38 LnT_sz_int rfl rfl rfl rfl rfl (by omega) (by omega)) rfl <| ?_
  have O_6 := O_6.later x_10
  refine cl (k := (l.take i).length + ((l.drop j).take (l.length - j)).length) (q := l.length - ((l.take i).length + ((l.drop j).take (l.length - j)).length)) (z := .int .i64 0) (m := 1) Try.underlying38 info_int rfl (by decide) rfl (by decide) (fun j u h => raw0I j u h) O_6 Rep.flat_bare (by rw [List.length_append]; omega) (by omega) (by omega) hA rfl fun w_12 m_13 O_14 => ?_
  have q_15 := m_13.size
  have z_12 := z_9.md m_13 (fun q hq => .inl hq)
  refine nl <| nT <| sq <| rg <| vl (mv rfl) rfl <| vl (as_ rfl) rfl <| nl <| nT <| rt <| tR (.tmp rfl .nil) <| ?_
  have hF := O_14
  rw [List.take_of_length_le (by rw [List.length_append]; exact Nat.le_refl _), List.take_of_length_le (l := l.drop j) (by rw [List.length_drop]; exact Nat.le_refl _)] at hF
  exact ⟨by rw [List.length_append, List.take_of_length_le (l := l.drop j) (by rw [List.length_drop]; exact Nat.le_refl _)]; rfl, hF, z_12⟩
set_option maxRecDepth 100000 in
set_option maxHeartbeats 400000 in
theorem taken_W_out (w0 : World) (b : Nat) (a : Lnk.At) (L : Lnk) (i : Int) (keep : Bool) (w : World) (hx0 : Ext w0 w) (hl : LAt w w0.heap.size b a L) (ho : tkOk L.way i = false) :
    Calls Try.prog 73 #[.pointer (some ⟨b, 4, none⟩), .int .i64 i, .bool keep] w (fun e w' => e = .returned (.tuple #[.int .i64 (tkN L.way i), .bool (tkOk L.way i)]) ∧ Blk w' b (Lnk.cells a { L with way := tkL L.way i keep }) 55 (0, 0) ∧ repI.SOwn 3 8 w' w0.heap.size (Rep.blkOf a.W) a.W a.w (tkL L.way i keep) ∧ Mod (b :: Rep.blkOf a.W) w w') := by
  have hx0s := hx0.size
  have HB := hl.blk
  have hZb := hl.le
  have qB := HB.lt
  have OS := hl.own.S
  have OW := hl.own.W
  have OK := hl.own.K
  have OG := hl.own.G
  have OH := hl.own.H
  have uS := fun q hq => (OS.lt q hq).2
  have uW := fun q hq => (OW.lt q hq).2
  have uK := fun q hq => (OK.lt q hq).2
  have uG := fun q hq => (OG.lt q hq).2
  have uH := fun q hq => (OH.lt q hq).2
  have lS : ∀ q ∈ Rep.blkOf a.S, w0.heap.size ≤ q := fun q hq => (OS.lt q hq).1
  have lW : ∀ q ∈ Rep.blkOf a.W, w0.heap.size ≤ q := fun q hq => (OW.lt q hq).1
  have lK : ∀ q ∈ Rep.blkOf a.K, w0.heap.size ≤ q := fun q hq => (OK.lt q hq).1
  have lG : ∀ q ∈ Rep.blkOf a.G, w0.heap.size ≤ q := fun q hq => (OG.lt q hq).1
  have lH : ∀ q ∈ Rep.blkOf a.H, w0.heap.size ≤ q := fun q hq => (OH.lt q hq).1
  have eS := OS.has.len_le
  have eW := OW.has.len_le
  have eK := OK.has.len_le
  have eG := OG.has.len_le
  have eH := OH.has.len_le
  have cS := OS.1
  have cW := OW.1
  have cK := OK.1
  have cG := OG.1
  have cH := OH.1
  have hgF := lF_ge hl
  have hn0 := okI_iff.1 hl.own.nums.1
  have hn1 := okI_iff.1 hl.own.nums.2.1
  have hn2 := okI_iff.1 hl.own.nums.2.2
  have hoo : i < 0 ∨ (L.way.length : Int) ≤ i := by unfold tkOk at ho; simp at ho; omega
  have hgz : ∀ q ∈ b :: Rep.blkOf a.W, w0.heap.size ≤ q := fun q hq => (List.mem_cons.1 hq).elim (fun e => by omega) (lW q)
  refine calls_W (n := 37) Try.func73 rfl rfl rfl ?_
  refine sq <| rg <| vl (as_ rfl) rfl <| vl (as_ rfl) rfl <| nl <| nT <| sq <| sq <| rg <| vl (mv rfl) rfl <| vl (blt rfl rfl) rfl <| vl (mv rfl) rfl <| vQ rfl rfl rfl rfl (fun hc => mv rfl) rfl <| vQ rfl rfl rfl rfl (fun hc => mv rfl) rfl <| vQ rfl rfl rfl rfl (fun hc => nc (gt hc rfl)) rfl <| vQ rfl rfl rfl rfl (fun hc => ld (gt hc rfl) (HB.one LnT_ag_S_int rfl)) rfl <| vQ rfl rfl rfl rfl (fun hc => ln Try.underlying38 (gt hc rfl)) rfl <| vQ rfl rfl rfl rfl (fun hc => bge (gt hc rfl) (gt hc rfl)) rfl <| vl (pO rfl rfl rfl rfl) rfl <| nl <| nT <| ?_
  have h_1 : ((decide (i < 0)) || (decide ((L.way.length : Int) ≤ i))) = true := by first | (simp only [Bool.or_eq_true, decide_eq_true_eq]; omega)
  refine cT (by rw [← h_1]; rfl) <| sq <| rg <| vl (as_ rfl) rfl <| vl (as_ rfl) rfl <| nl <| nT <| rt <| tT <| tR (.tmp rfl (.tmp rfl .nil)) <| ?_
  exact ⟨by rw [tkN_out ho, ho]; rfl, by rw [tkL_out ho]; exact HB, by rw [tkL_out ho]; exact OW, (Mod.rf (b :: Rep.blkOf a.W) w)⟩
set_option maxRecDepth 100000 in
set_option maxHeartbeats 400000 in
theorem taken_W_in (w0 : World) (b : Nat) (a : Lnk.At) (L : Lnk) (k : Nat) (keep : Bool) (w : World) (hx0 : Ext w0 w) (hl : LAt w w0.heap.size b a L) (hk : k < L.way.length) :
    Calls Try.prog 73 #[.pointer (some ⟨b, 4, none⟩), .int .i64 (k : Int), .bool keep] w (fun e w' => e = .returned (.tuple #[.int .i64 (tkN L.way (k : Int)), .bool (tkOk L.way (k : Int))]) ∧ Blk w' b (Lnk.cells a { L with way := tkL L.way (k : Int) keep }) 55 (0, 0) ∧ repI.SOwn 3 8 w' w0.heap.size (Rep.blkOf a.W) a.W a.w (tkL L.way (k : Int) keep) ∧ Mod (b :: Rep.blkOf a.W) w w') := by
  have hx0s := hx0.size
  have HB := hl.blk
  have hZb := hl.le
  have qB := HB.lt
  have OS := hl.own.S
  have OW := hl.own.W
  have OK := hl.own.K
  have OG := hl.own.G
  have OH := hl.own.H
  have uS := fun q hq => (OS.lt q hq).2
  have uW := fun q hq => (OW.lt q hq).2
  have uK := fun q hq => (OK.lt q hq).2
  have uG := fun q hq => (OG.lt q hq).2
  have uH := fun q hq => (OH.lt q hq).2
  have lS : ∀ q ∈ Rep.blkOf a.S, w0.heap.size ≤ q := fun q hq => (OS.lt q hq).1
  have lW : ∀ q ∈ Rep.blkOf a.W, w0.heap.size ≤ q := fun q hq => (OW.lt q hq).1
  have lK : ∀ q ∈ Rep.blkOf a.K, w0.heap.size ≤ q := fun q hq => (OK.lt q hq).1
  have lG : ∀ q ∈ Rep.blkOf a.G, w0.heap.size ≤ q := fun q hq => (OG.lt q hq).1
  have lH : ∀ q ∈ Rep.blkOf a.H, w0.heap.size ≤ q := fun q hq => (OH.lt q hq).1
  have eS := OS.has.len_le
  have eW := OW.has.len_le
  have eK := OK.has.len_le
  have eG := OG.has.len_le
  have eH := OH.has.len_le
  have cS := OS.1
  have cW := OW.1
  have cK := OK.1
  have cG := OG.1
  have cH := OH.1
  have hgF := lF_ge hl
  have hn0 := okI_iff.1 hl.own.nums.1
  have hn1 := okI_iff.1 hl.own.nums.2.1
  have hn2 := okI_iff.1 hl.own.nums.2.2
  have hgz : ∀ q ∈ b :: Rep.blkOf a.W, w0.heap.size ≤ q := fun q hq => (List.mem_cons.1 hq).elim (fun e => by omega) (lW q)
  refine calls_W (n := 37) Try.func73 rfl rfl rfl ?_
  refine sq <| rg <| vl (as_ rfl) rfl <| vl (as_ rfl) rfl <| nl <| nT <| sq <| sq <| rg <| vl (mv rfl) rfl <| vl (blt rfl rfl) rfl <| vl (mv rfl) rfl <| vQ rfl rfl rfl rfl (fun hc => mv rfl) rfl <| vQ rfl rfl rfl rfl (fun hc => mv rfl) rfl <| vQ rfl rfl rfl rfl (fun hc => nc (gt hc rfl)) rfl <| vQ rfl rfl rfl rfl (fun hc => ld (gt hc rfl) (HB.one LnT_ag_S_int rfl)) rfl <| vQ rfl rfl rfl rfl (fun hc => ln Try.underlying38 (gt hc rfl)) rfl <| vQ rfl rfl rfl rfl (fun hc => bge (gt hc rfl) (gt hc rfl)) rfl <| vl (pO rfl rfl rfl rfl) rfl <| nl <| nT <| ?_
  have h_1 : ((decide ((k : Int) < 0)) || (decide ((L.way.length : Int) ≤ (k : Int)))) = false := by simp only [Bool.or_eq_false_iff, decide_eq_false_iff_not]; omega
  refine cF (by rw [← h_1]; rfl) <| sk <| nT <| sq <| rg <| vl (mv rfl) rfl <| vl (nc rfl) rfl <| vl (ld rfl (HB.one LnT_ag_S_int rfl)) rfl <| vl (mv rfl) rfl <| vl (iA k Try.underlying38 LnT_sz_int rfl rfl (OW.has.adr (Nat.zero_lt_of_lt (show k < _ from (by omega)))) rfl (by omega)) rfl <| vl (ld rfl (Rep.SHas.one' hcI (OW.has.adh (Nat.zero_lt_of_lt (show k < _ from (by omega)))) (get_d (l := L.way) (u := 0) (by omega)) rfl LnT_ag_int)) rfl <| vl (as_ rfl) rfl <| nl <| nT <| sq <| sq <| rg <| vl (mv rfl) rfl <| vl (nt rfl) rfl <| nl <| nT <| ?_
  refine cb rfl (fun h_2 => ?_) (fun h_2 => ?_)
  · obtain rfl : keep = false := by simpa using h_2
    refine rg <| vl (mv rfl) rfl <| vl (mv rfl) rfl <| vl (nc rfl) rfl <| vl (ld rfl (HB.one LnT_ag_S_int rfl)) rfl <| vl (mv rfl) rfl <| vl (mv rfl) rfl <| vl (bad rfl rfl (inI (by omega))) rfl <| ca LnT_en_slices_Delete_S_int_int_ rfl rfl ((delAt_Z w0 _ _ k (k + 1) _ _ (Ext.mod hx0 (Mod.rf (b :: Rep.blkOf a.W) w) hgz) OW (by omega) (by omega)).mono ?_)
    rintro e w_5 ⟨rfl, OD_3, m_4⟩
    refine ⟨_, rfl, ?_⟩
    have q_6 := m_4.size
    have z_5 := (Mod.rf (b :: Rep.blkOf a.W) w).md m_4 (fun q hq => .inl (List.mem_cons_of_mem _ hq))
    refine vl (nc rfl) rfl <| ?_
    have HB := HB.mod m_4 (fun hq => hl.bW _ hq rfl)
    refine st (new := [.int .i64 L.window, .slice a.S L.sent.length a.s, .int .i64 L.base, .int .i64 L.next, .slice a.W ((L.way.take k ++ L.way.drop (k + 1)).length) a.w, .slice a.K L.acks.length a.k, .slice a.G L.got.length a.g, .slice a.H L.held.length a.h]) rfl rfl HB rfl LnT_sz_S_int rfl rfl rfl fun w_7 m_8 HB => ?_
    have q_10 := m_8.size
    have z_7 := z_5.md m_8 (fun q hq => .inl (by rw [List.mem_singleton.1 hq]; exact List.mem_cons_self))
    have q_9 := m_8.size
    refine nl <| nT <| sq <| rg <| vl (mv rfl) rfl <| vl (as_ rfl) rfl <| vl (as_ rfl) rfl <| nl <| nT <| rt <| tR (.tmp rfl (.tmp rfl .nil)) <| ?_
    have OD_3 := OD_3.mod m_8 (fun q hq h => by have hb := List.mem_singleton.1 h; exfalso; (exact hl.bW q hq hb))
    exact ⟨by rw [tkN_in hk, tk_in hk]; rfl, by rw [tkL_del hk]; exact HB, by rw [tkL_del hk]; exact OD_3, z_7⟩
  · obtain rfl : keep = true := by simpa using h_2
    refine sk <| nT <| sq <| rg <| vl (mv rfl) rfl <| vl (as_ rfl) rfl <| vl (as_ rfl) rfl <| nl <| nT <| rt <| tR (.tmp rfl (.tmp rfl .nil)) <| ?_
    exact ⟨by rw [tkN_in hk, tk_in hk]; rfl, by rw [tkL_keep]; exact HB, by rw [tkL_keep]; exact OW, (Mod.rf (b :: Rep.blkOf a.W) w)⟩
theorem taken_W (w0 : World) (b : Nat) (a : Lnk.At) (L : Lnk) (i : Int) (keep : Bool) (w : World) (hx0 : Ext w0 w) (hl : LAt w w0.heap.size b a L) : Calls Try.prog 73 #[.pointer (some ⟨b, 4, none⟩), .int .i64 i, .bool keep] w (fun e w' => e = .returned (.tuple #[.int .i64 (tkN L.way i), .bool (tkOk L.way i)]) ∧ Blk w' b (Lnk.cells a { L with way := tkL L.way i keep }) 55 (0, 0) ∧ repI.SOwn 3 8 w' w0.heap.size (Rep.blkOf a.W) a.W a.w (tkL L.way i keep) ∧ Mod (b :: Rep.blkOf a.W) w w') := by
  cases ho : tkOk L.way i with
  | false => have := taken_W_out w0 b a L i keep w hx0 hl ho; rwa [ho] at this
  | true =>
    obtain ⟨k, rfl⟩ : ∃ k : Nat, i = (k : Int) := ⟨i.toNat, by unfold tkOk at ho; simp at ho; omega⟩
    have hk : k < L.way.length := by unfold tkOk at ho; simp at ho; omega
    have := taken_W_in w0 b a L k keep w hx0 hl hk; rwa [ho] at this
set_option maxRecDepth 100000 in
set_option maxHeartbeats 400000 in
theorem taken_K_out (w0 : World) (b : Nat) (a : Lnk.At) (L : Lnk) (i : Int) (keep : Bool) (w : World) (hx0 : Ext w0 w) (hl : LAt w w0.heap.size b a L) (ho : tkOk L.acks i = false) :
    Calls Try.prog 73 #[.pointer (some ⟨b, 5, none⟩), .int .i64 i, .bool keep] w (fun e w' => e = .returned (.tuple #[.int .i64 (tkN L.acks i), .bool (tkOk L.acks i)]) ∧ Blk w' b (Lnk.cells a { L with acks := tkL L.acks i keep }) 55 (0, 0) ∧ repI.SOwn 3 8 w' w0.heap.size (Rep.blkOf a.K) a.K a.k (tkL L.acks i keep) ∧ Mod (b :: Rep.blkOf a.K) w w') := by
  have hx0s := hx0.size
  have HB := hl.blk
  have hZb := hl.le
  have qB := HB.lt
  have OS := hl.own.S
  have OW := hl.own.W
  have OK := hl.own.K
  have OG := hl.own.G
  have OH := hl.own.H
  have uS := fun q hq => (OS.lt q hq).2
  have uW := fun q hq => (OW.lt q hq).2
  have uK := fun q hq => (OK.lt q hq).2
  have uG := fun q hq => (OG.lt q hq).2
  have uH := fun q hq => (OH.lt q hq).2
  have lS : ∀ q ∈ Rep.blkOf a.S, w0.heap.size ≤ q := fun q hq => (OS.lt q hq).1
  have lW : ∀ q ∈ Rep.blkOf a.W, w0.heap.size ≤ q := fun q hq => (OW.lt q hq).1
  have lK : ∀ q ∈ Rep.blkOf a.K, w0.heap.size ≤ q := fun q hq => (OK.lt q hq).1
  have lG : ∀ q ∈ Rep.blkOf a.G, w0.heap.size ≤ q := fun q hq => (OG.lt q hq).1
  have lH : ∀ q ∈ Rep.blkOf a.H, w0.heap.size ≤ q := fun q hq => (OH.lt q hq).1
  have eS := OS.has.len_le
  have eW := OW.has.len_le
  have eK := OK.has.len_le
  have eG := OG.has.len_le
  have eH := OH.has.len_le
  have cS := OS.1
  have cW := OW.1
  have cK := OK.1
  have cG := OG.1
  have cH := OH.1
  have hgF := lF_ge hl
  have hn0 := okI_iff.1 hl.own.nums.1
  have hn1 := okI_iff.1 hl.own.nums.2.1
  have hn2 := okI_iff.1 hl.own.nums.2.2
  have hoo : i < 0 ∨ (L.acks.length : Int) ≤ i := by unfold tkOk at ho; simp at ho; omega
  have hgz : ∀ q ∈ b :: Rep.blkOf a.K, w0.heap.size ≤ q := fun q hq => (List.mem_cons.1 hq).elim (fun e => by omega) (lK q)
  refine calls_W (n := 37) Try.func73 rfl rfl rfl ?_
  refine sq <| rg <| vl (as_ rfl) rfl <| vl (as_ rfl) rfl <| nl <| nT <| sq <| sq <| rg <| vl (mv rfl) rfl <| vl (blt rfl rfl) rfl <| vl (mv rfl) rfl <| vQ rfl rfl rfl rfl (fun hc => mv rfl) rfl <| vQ rfl rfl rfl rfl (fun hc => mv rfl) rfl <| vQ rfl rfl rfl rfl (fun hc => nc (gt hc rfl)) rfl <| vQ rfl rfl rfl rfl (fun hc => ld (gt hc rfl) (HB.one LnT_ag_S_int rfl)) rfl <| vQ rfl rfl rfl rfl (fun hc => ln Try.underlying38 (gt hc rfl)) rfl <| vQ rfl rfl rfl rfl (fun hc => bge (gt hc rfl) (gt hc rfl)) rfl <| vl (pO rfl rfl rfl rfl) rfl <| nl <| nT <| ?_
  have h_1 : ((decide (i < 0)) || (decide ((L.acks.length : Int) ≤ i))) = true := by first | (simp only [Bool.or_eq_true, decide_eq_true_eq]; omega)
  refine cT (by rw [← h_1]; rfl) <| sq <| rg <| vl (as_ rfl) rfl <| vl (as_ rfl) rfl <| nl <| nT <| rt <| tT <| tR (.tmp rfl (.tmp rfl .nil)) <| ?_
  exact ⟨by rw [tkN_out ho, ho]; rfl, by rw [tkL_out ho]; exact HB, by rw [tkL_out ho]; exact OK, (Mod.rf (b :: Rep.blkOf a.K) w)⟩
set_option maxRecDepth 100000 in
set_option maxHeartbeats 400000 in
theorem taken_K_in (w0 : World) (b : Nat) (a : Lnk.At) (L : Lnk) (k : Nat) (keep : Bool) (w : World) (hx0 : Ext w0 w) (hl : LAt w w0.heap.size b a L) (hk : k < L.acks.length) :
    Calls Try.prog 73 #[.pointer (some ⟨b, 5, none⟩), .int .i64 (k : Int), .bool keep] w (fun e w' => e = .returned (.tuple #[.int .i64 (tkN L.acks (k : Int)), .bool (tkOk L.acks (k : Int))]) ∧ Blk w' b (Lnk.cells a { L with acks := tkL L.acks (k : Int) keep }) 55 (0, 0) ∧ repI.SOwn 3 8 w' w0.heap.size (Rep.blkOf a.K) a.K a.k (tkL L.acks (k : Int) keep) ∧ Mod (b :: Rep.blkOf a.K) w w') := by
  have hx0s := hx0.size
  have HB := hl.blk
  have hZb := hl.le
  have qB := HB.lt
  have OS := hl.own.S
  have OW := hl.own.W
  have OK := hl.own.K
  have OG := hl.own.G
  have OH := hl.own.H
  have uS := fun q hq => (OS.lt q hq).2
  have uW := fun q hq => (OW.lt q hq).2
  have uK := fun q hq => (OK.lt q hq).2
  have uG := fun q hq => (OG.lt q hq).2
  have uH := fun q hq => (OH.lt q hq).2
  have lS : ∀ q ∈ Rep.blkOf a.S, w0.heap.size ≤ q := fun q hq => (OS.lt q hq).1
  have lW : ∀ q ∈ Rep.blkOf a.W, w0.heap.size ≤ q := fun q hq => (OW.lt q hq).1
  have lK : ∀ q ∈ Rep.blkOf a.K, w0.heap.size ≤ q := fun q hq => (OK.lt q hq).1
  have lG : ∀ q ∈ Rep.blkOf a.G, w0.heap.size ≤ q := fun q hq => (OG.lt q hq).1
  have lH : ∀ q ∈ Rep.blkOf a.H, w0.heap.size ≤ q := fun q hq => (OH.lt q hq).1
  have eS := OS.has.len_le
  have eW := OW.has.len_le
  have eK := OK.has.len_le
  have eG := OG.has.len_le
  have eH := OH.has.len_le
  have cS := OS.1
  have cW := OW.1
  have cK := OK.1
  have cG := OG.1
  have cH := OH.1
  have hgF := lF_ge hl
  have hn0 := okI_iff.1 hl.own.nums.1
  have hn1 := okI_iff.1 hl.own.nums.2.1
  have hn2 := okI_iff.1 hl.own.nums.2.2
  have hgz : ∀ q ∈ b :: Rep.blkOf a.K, w0.heap.size ≤ q := fun q hq => (List.mem_cons.1 hq).elim (fun e => by omega) (lK q)
  refine calls_W (n := 37) Try.func73 rfl rfl rfl ?_
  refine sq <| rg <| vl (as_ rfl) rfl <| vl (as_ rfl) rfl <| nl <| nT <| sq <| sq <| rg <| vl (mv rfl) rfl <| vl (blt rfl rfl) rfl <| vl (mv rfl) rfl <| vQ rfl rfl rfl rfl (fun hc => mv rfl) rfl <| vQ rfl rfl rfl rfl (fun hc => mv rfl) rfl <| vQ rfl rfl rfl rfl (fun hc => nc (gt hc rfl)) rfl <| vQ rfl rfl rfl rfl (fun hc => ld (gt hc rfl) (HB.one LnT_ag_S_int rfl)) rfl <| vQ rfl rfl rfl rfl (fun hc => ln Try.underlying38 (gt hc rfl)) rfl <| vQ rfl rfl rfl rfl (fun hc => bge (gt hc rfl) (gt hc rfl)) rfl <| vl (pO rfl rfl rfl rfl) rfl <| nl <| nT <| ?_
  have h_1 : ((decide ((k : Int) < 0)) || (decide ((L.acks.length : Int) ≤ (k : Int)))) = false := by simp only [Bool.or_eq_false_iff, decide_eq_false_iff_not]; omega
  refine cF (by rw [← h_1]; rfl) <| sk <| nT <| sq <| rg <| vl (mv rfl) rfl <| vl (nc rfl) rfl <| vl (ld rfl (HB.one LnT_ag_S_int rfl)) rfl <| vl (mv rfl) rfl <| vl (iA k Try.underlying38 LnT_sz_int rfl rfl (OK.has.adr (Nat.zero_lt_of_lt (show k < _ from (by omega)))) rfl (by omega)) rfl <| vl (ld rfl (Rep.SHas.one' hcI (OK.has.adh (Nat.zero_lt_of_lt (show k < _ from (by omega)))) (get_d (l := L.acks) (u := 0) (by omega)) rfl LnT_ag_int)) rfl <| vl (as_ rfl) rfl <| nl <| nT <| sq <| sq <| rg <| vl (mv rfl) rfl <| vl (nt rfl) rfl <| nl <| nT <| ?_
  refine cb rfl (fun h_2 => ?_) (fun h_2 => ?_)
  · obtain rfl : keep = false := by simpa using h_2
    refine rg <| vl (mv rfl) rfl <| vl (mv rfl) rfl <| vl (nc rfl) rfl <| vl (ld rfl (HB.one LnT_ag_S_int rfl)) rfl <| vl (mv rfl) rfl <| vl (mv rfl) rfl <| vl (bad rfl rfl (inI (by omega))) rfl <| ca LnT_en_slices_Delete_S_int_int_ rfl rfl ((delAt_Z w0 _ _ k (k + 1) _ _ (Ext.mod hx0 (Mod.rf (b :: Rep.blkOf a.K) w) hgz) OK (by omega) (by omega)).mono ?_)
    rintro e w_5 ⟨rfl, OD_3, m_4⟩
    refine ⟨_, rfl, ?_⟩
    have q_6 := m_4.size
    have z_5 := (Mod.rf (b :: Rep.blkOf a.K) w).md m_4 (fun q hq => .inl (List.mem_cons_of_mem _ hq))
    refine vl (nc rfl) rfl <| ?_
    have HB := HB.mod m_4 (fun hq => hl.bK _ hq rfl)
    refine st (new := [.int .i64 L.window, .slice a.S L.sent.length a.s, .int .i64 L.base, .int .i64 L.next, .slice a.W L.way.length a.w, .slice a.K ((L.acks.take k ++ L.acks.drop (k + 1)).length) a.k, .slice a.G L.got.length a.g, .slice a.H L.held.length a.h]) rfl rfl HB rfl LnT_sz_S_int rfl rfl rfl fun w_7 m_8 HB => ?_
    have q_10 := m_8.size
    have z_7 := z_5.md m_8 (fun q hq => .inl (by rw [List.mem_singleton.1 hq]; exact List.mem_cons_self))
    have q_9 := m_8.size
    refine nl <| nT <| sq <| rg <| vl (mv rfl) rfl <| vl (as_ rfl) rfl <| vl (as_ rfl) rfl <| nl <| nT <| rt <| tR (.tmp rfl (.tmp rfl .nil)) <| ?_
    have OD_3 := OD_3.mod m_8 (fun q hq h => by have hb := List.mem_singleton.1 h; exfalso; (exact hl.bK q hq hb))
    exact ⟨by rw [tkN_in hk, tk_in hk]; rfl, by rw [tkL_del hk]; exact HB, by rw [tkL_del hk]; exact OD_3, z_7⟩
  · obtain rfl : keep = true := by simpa using h_2
    refine sk <| nT <| sq <| rg <| vl (mv rfl) rfl <| vl (as_ rfl) rfl <| vl (as_ rfl) rfl <| nl <| nT <| rt <| tR (.tmp rfl (.tmp rfl .nil)) <| ?_
    exact ⟨by rw [tkN_in hk, tk_in hk]; rfl, by rw [tkL_keep]; exact HB, by rw [tkL_keep]; exact OK, (Mod.rf (b :: Rep.blkOf a.K) w)⟩
theorem taken_K (w0 : World) (b : Nat) (a : Lnk.At) (L : Lnk) (i : Int) (keep : Bool) (w : World) (hx0 : Ext w0 w) (hl : LAt w w0.heap.size b a L) : Calls Try.prog 73 #[.pointer (some ⟨b, 5, none⟩), .int .i64 i, .bool keep] w (fun e w' => e = .returned (.tuple #[.int .i64 (tkN L.acks i), .bool (tkOk L.acks i)]) ∧ Blk w' b (Lnk.cells a { L with acks := tkL L.acks i keep }) 55 (0, 0) ∧ repI.SOwn 3 8 w' w0.heap.size (Rep.blkOf a.K) a.K a.k (tkL L.acks i keep) ∧ Mod (b :: Rep.blkOf a.K) w w') := by
  cases ho : tkOk L.acks i with
  | false => have := taken_K_out w0 b a L i keep w hx0 hl ho; rwa [ho] at this
  | true =>
    obtain ⟨k, rfl⟩ : ∃ k : Nat, i = (k : Int) := ⟨i.toNat, by unfold tkOk at ho; simp at ho; omega⟩
    have hk : k < L.acks.length := by unfold tkOk at ho; simp at ho; omega
    have := taken_K_in w0 b a L k keep w hx0 hl hk; rwa [ho] at this
end Go.Proofs.Ytfabhinehfhndaa
