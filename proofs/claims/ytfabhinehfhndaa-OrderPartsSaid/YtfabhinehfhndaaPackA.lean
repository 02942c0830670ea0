/-
  The walks of pack.Unfold, pack.PutAll and pack.GetAll.
-/
import Derived.Test.YtfabhinehfhndaaPackW
import Derived.Test.YtfabhinehfhndaaPackL
import Derived.Test.YtfabhinehfhndaaPackS
import Derived.Test.YtfabhinehfhndaaInts
set_option linter.unusedVariables false
set_option linter.unusedSimpArgs false
namespace Go.Proofs.Ytfabhinehfhndaa.Pack
open Go.RowKit Go.Proofs.Ytfabhinehfhndaa Go.Proofs.Ytfabhinehfhndaa.Bv

theorem bits_i64_range (op : BinOp) (a b : Int) : -9223372036854775808 ≤ bits op .i64 a b ∧ bits op .i64 a b ≤ 9223372036854775807 := by
  have h : bits op .i64 a b = IntKind.i64.wrap (bits op .i64 a b) := by
    unfold bits
    rw [IntKind.wrap_i64, IntKind.wrap_i64]
    omega
  rw [h, IntKind.wrap_i64]
  omega
theorem eqi64 {x y : Int} (h0 : -9223372036854775808 ≤ x) (h1 : x ≤ 9223372036854775807) (g0 : -9223372036854775808 ≤ y) (g1 : y ≤ 9223372036854775807) (h : BitVec.ofInt 64 x = BitVec.ofInt 64 y) : x = y := by
  have e := congrArg BitVec.toInt h
  rw [BitVec.toInt_ofInt, BitVec.toInt_ofInt] at e
  simp only [Int.bmod] at e
  omega
theorem xor_zero64 (x : Int) (h0 : -9223372036854775808 ≤ x) (h1 : x ≤ 9223372036854775807) : bits .xor .i64 x 0 = x := by
  refine eqi64 (bits_i64_range _ _ _).1 (bits_i64_range _ _ _).2 h0 h1 ?_
  rw [of_xori64]
  simp
theorem xor_neg64 (x : Int) (h0 : -9223372036854775808 ≤ x) (h1 : x ≤ 9223372036854775807) : bits .xor .i64 x (-1) = -x - 1 := by
  refine eqi64 (bits_i64_range _ _ _).1 (bits_i64_range _ _ _).2 (by omega) (by omega) ?_
  rw [of_xori64]
  have e1 : BitVec.ofInt 64 (-1) = BitVec.allOnes 64 := by decide
  rw [e1, BitVec.xor_allOnes]
  have e2 : (-x - 1 : Int) = -x + -1 := by omega
  rw [e2, BitVec.ofInt_add, BitVec.ofInt_neg, e1]
  rw [BitVec.not_eq_neg_add, BitVec.sub_eq_add_neg, show -1#64 = BitVec.allOnes 64 from by decide]
set_option maxRecDepth 100000 in
theorem unfold_any (n : Nat) (hn : n < 18446744073709551616) (w : World) :
    Calls Try.prog 106 #[.int .u64 (n : Int)] w fun e w' => e = .returned (.int .i64 (unfoldN n)) ∧ w = w' := by
  have h2 : n / 2 < 9223372036854775808 := by omega
  have hx0 := xor_zero64 ((n / 2 : Nat) : Int) (by omega) (by omega)
  have hx1 := xor_neg64 ((n / 2 : Nat) : Int) (by omega) (by omega)
  have hd : (n : Int) / 2 = ((n / 2 : Nat) : Int) := by omega
  have ha : bits .and .u64 (n : Int) 1 = ((n % 2 : Nat) : Int) := by
    have h := (bits_nat .u64 64 (by decide) wraps_u64 n 1 (by omega) (by decide)).1
    rw [Nat.and_one_is_mod] at h
    exact h
  unfold unfoldN
  obtain ⟨m, HM⟩ : ∃ m, Hid (n / 2 = m) := ⟨_, Lib.hid rfl⟩
  rw [HM.out] at h2 hx0 hx1 hd ⊢
  rcases Nat.mod_two_eq_zero_or_one n with h | h
  · rw [h] at ha ⊢
    rw [if_pos rfl]
    have ha : bits .and .u64 (n : Int) 1 = 0 := ha
    clear h
    go_enter Try.func106, Try.ntmps106
    go_wp2_with fail
    go_ret
    exact ⟨rfl, rfl⟩
  · rw [h] at ha ⊢
    rw [if_neg (by decide)]
    have ha : bits .and .u64 (n : Int) 1 = 1 := ha
    clear h
    go_enter Try.func106, Try.ntmps106
    go_wp2_with fail
    go_ret
    exact ⟨rfl, rfl⟩
theorem built_later {T e : TypeId} {B b : Nat} {p : Value} {bs : List Value} {w w' : World} (h : Lib.BuilderAt T e B b p bs w) (hb : Below w.heap.size w w') : Lib.BuilderAt T e B b p bs w' := by
  have hlt := h.lt
  obtain ⟨hB, v, hbk, hown, hne⟩ := h
  exact ⟨hB, v, by rw [hb.block b hlt]; exact hbk, ownsRow_later hown hb, hne⟩
set_option maxHeartbeats 1000000 in
set_option maxRecDepth 100000 in
theorem putAll_any (A : Option Addr) (n c : Nat) (l : List Int) (hl : l.length = n) (hn : n ≤ 1000) (h64 : I64 l) (w : World) (hr : Rd w 1 A n (cellsI l)) :
    Calls Try.prog 80 #[.slice A n c] w fun e w' => e = .returned (.tuple #[.string (strOf (putAllL l)), .int .i64 0]) ∧ Below w.heap.size w w' := by
  have hB : Lib.IsBuilder 179 5 w.heap.size w.heap.size [] (w.alloc (.cells #[.pointer none, .slice none 0 0] 179)) :=
    .inl ⟨Nat.le_refl _, .slice none 0 0, heap_alloc_new w _, World.ownsRow_nil _ _ _ _, by simp [Value.ownBlock]⟩
  have hb0 : Below w.heap.size w (w.alloc (.cells #[.pointer none, .slice none 0 0] 179)) := (Below.refl _ _).alloc (Nat.le_refl _) _
  have hw : IntKind.u64.wrap (n : Int) = (n : Int) := by rw [IntKind.wrap_u64]; omega
  have HL := Lib.hid hl
  clear hl
  go_enter Try.func80, Try.ntmps80
  go_wp2_with fail
  refine (put_any n (by omega) _ rfl _).mono ?_
  rintro e w1 ⟨rfl, hb1⟩
  have hB1 : Lib.IsBuilder 179 5 w.heap.size w.heap.size [] w1 := by
    rcases hB with h | h
    · exact .inl (built_later h hb1)
    · exact .inr (built_later h hb1)
  have hb2 := hb0.trans (hb1.mono hb0.size)
  clear hB hb1
  have hpl := putL_len n
  go_wp2_with fail
  refine (write_any w.heap.size w.heap.size [] (strOf (putL n)) w1 hB1 (by rw [strOf_size]; simp; omega) hb2.size).mono ?_
  rintro e w2 ⟨rfl, hB2, hb3⟩
  have hb4 := hb2.trans hb3
  rw [List.nil_append, Lib.strCells_eq, strOf_list] at hB2
  clear hB1 hb2 hb3
  go_wp2_with fail
  go_loopw [17] (fun i wr => ∃ k : Nat, k ≤ n ∧ i = .int .i64 (k : Int) ∧ Lib.BuilderAt 179 5 w.heap.size w.heap.size (.pointer (some ⟨w.heap.size, 0, none⟩)) (Lib.byteCells (putL n ++ items (l.take k))) wr ∧ Below w.heap.size w wr) (fun i _ => n - (intOf i).toNat)
  case atStart => exact ⟨0, Nat.zero_le _, rfl, by simpa [items] using hB2, hb4⟩
  case round =>
    clear hB2 hb4
    obtain ⟨k, hk, rfl, hB, hb⟩ := hrel
    by_cases hlt : k < n
    · obtain ⟨b, o, rfl, hc⟩ := hr.2 (by omega)
      have hkl : k < l.length := by rw [HL.out]; exact hlt
      have hx := cell_below hb (hc k _ (cellsI_get l k hkl)) (World.block_lt_of_cell? w _ (hc k _ (cellsI_get l k hkl)))
      have hx64 := h64 l[k] (List.getElem_mem hkl)
      have htk : items (l.take (k + 1)) = items (l.take k) ++ putL (foldN l[k]) := by rw [List.take_succ_eq_append_getElem hkl, items_snoc]
      have HT := Lib.hid htk
      generalize l[k] = x at *
      have hfl := foldN_lt x hx64.1 hx64.2
      have hfold := fold_any x hx64.1 hx64.2
      have hpl2 := putL_len (foldN x)
      have hil := items_len (l.take k)
      have htl : (l.take k).length ≤ k := List.length_take_le _ _
      clear htk
      generalize foldN x = y at *
      go_wp2_with fail
      refine (hfold _).mono ?_
      rintro e w' ⟨rfl, rfl⟩
      go_wp2_with fail
      refine (put_any y hfl _ rfl _).mono ?_
      rintro e w5 ⟨rfl, hb5⟩
      have hB5 := built_later hB hb5
      have hb6 := hb.trans (hb5.mono hb.size)
      go_wp2_with fail
      refine (write_any w.heap.size w.heap.size _ (strOf (putL y)) w5 (.inr hB5) (by rw [strOf_size, Lib.byteCells_length]; simp; omega) hb6.size).mono ?_
      rintro e w6 ⟨rfl, hB6, hb7⟩
      have hb8 := hb6.trans hb7
      rw [Lib.strCells_eq, strOf_list, ← Lib.byteCells_append, List.append_assoc, ← HT.out] at hB6
      clear hB hB5 hb hb5 hb6 hb7
      go_wp2_with fail
      go_roundw
      case rel => exact ⟨k + 1, by omega, by go_num, hB6, hb8⟩
      case measure => simp [intOf]; omega
    · obtain rfl : k = n := by omega
      rw [List.take_of_length_le (by rw [HL.out]; exact Nat.le_refl _)] at hB
      go_wp2_with fail
      refine (Try.Builder_String_any w.heap.size w.heap.size (putL k ++ items l) wr (.inr hB) hb.size).mono ?_
      rintro e w9 ⟨rfl, hb9⟩
      go_wp2_with fail
      go_ret2
      refine ⟨?_, hb.trans hb9⟩
      unfold putAllL strOf
      rw [HL.out]
      rfl
/-- How GetAll ends. -/
def GetAllPost (s : ByteArray) (w : World) (e : Ending) (w' : World) : Prop :=
  ∃ (out : List Int) (k : Int) (A : Option Addr) (n c : Nat), GotAll s.data.toList out k ∧ e = .returned (.tuple #[.slice A n c, .int .i64 k]) ∧ Own w' w.heap.size 3 1 GI (.slice A n c) out.length (cellsI out) ∧ Below w.heap.size w w'
set_option maxHeartbeats 2000000 in
set_option maxRecDepth 100000 in
theorem getAll_any (s : ByteArray) (hs : s.size ≤ 9223372036854775807) (w : World) : Calls Try.prog 83 #[.string s] w (GetAllPost s w) := by
  obtain ⟨i0, hi, hz0, hz1, hz2⟩ := info_parts infoI64
  go_enter Try.func83, Try.ntmps83
  go_wp2_with fail
  refine (get_any s hs w).mono ?_
  rintro e w1 ⟨n, rest, k, hG, rfl, hb1⟩
  have HG := Lib.hid hG
  by_cases hk : k = 0
  · subst hk
    obtain ⟨hsr, hn64⟩ := get_ok hG
    have HS := Lib.hid hsr
    have HN := Lib.hid hn64
    have hsz : rest.length ≤ s.size := by
      have h := congrArg List.length hsr
      simp at h
      have e : s.data.size = s.size := rfl
      omega
    clear hsr hG hn64
    by_cases hn : 1000 < n
    · have hn2 : (1000 : Int) < (n : Int) := by omega
      go_wp2_with fail
      go_ret2
      exact ⟨[], 2, none, 0, 0, bad_count HG.out (.inr hn) (by decide), rfl, Own.nil _ _ _ _ _, hb1⟩
    · have hn2 : ¬ (1000 : Int) < (n : Int) := by omega
      go_wp2_with fail
      go_loopw [0, 5, 6, 24] (fun S E v i wr => ∃ (j : Nat) (out : List Int) (r : List UInt8), j ≤ n ∧ i = .int .u64 (j : Int) ∧ S = .string (strOf r) ∧ E = .int .i64 0 ∧ out.length = j ∧ Own wr w.heap.size 3 1 GI v j (cellsI out) ∧ Below w.heap.size w wr ∧
          Hid (s.data.toList = putL n ++ (items out ++ r)) ∧ Hid (I64 out) ∧ r.length ≤ s.size) (fun _ _ _ i _ => n - (intOf i).toNat)
      case atStart => exact ⟨0, [], rest, Nat.zero_le _, rfl, rfl, rfl, rfl, Own.nil _ _ _ _ _, hb1, HS, (fun x hx => by cases hx), hsz⟩
      case round =>
        clear hb1 HS hsz
        obtain ⟨j, out, r, hj, rfl, rfl, rfl, hol, hown, hb, HS, HI, hrs⟩ := hrel
        have HO := Lib.hid hol
        clear hol
        by_cases hlt : j < n
        · go_wp2_with fail
          refine (get_any (strOf r) (by rw [strOf_size]; omega) wr).mono ?_
          rintro e w2 ⟨m, r2, k2, hG2, rfl, hb2⟩
          rw [strOf_list] at hG2
          have hb3 := hb.trans (hb2.mono hb.size)
          by_cases hk2 : k2 = 0
          · subst hk2
            obtain ⟨hr2, hm64⟩ := get_ok hG2
            have hunf := unfold_any m hm64
            have hbd := unfoldN_bd m hm64
            have hfu := fold_unfold m
            have HS2 : Hid (s.data.toList = putL n ++ (items (out ++ [unfoldN m]) ++ r2)) := by
              show _ = _
              rw [HS.out, hr2, items_snoc, hfu, List.append_assoc]
            have HI2 : Hid (I64 (out ++ [unfoldN m])) := by
              intro x hx
              rcases List.mem_append.1 hx with h | h
              · exact HI.out x h
              · simp at h; subst h; exact hbd
            have hrs2 : r2.length ≤ s.size := by
              have h := congrArg List.length hr2
              simp at h; omega
            have hown2 := hown.later hb2
            have HM := Lib.hid hm64
            clear hr2 hm64 hfu hG2 hbd hown HS HI
            generalize unfoldN m = x at *
            have hb4 := hb3.alloc hb3.size (.cells #[.int .i64 x] 3)
            have hown4 := hown2.later ((Below.refl w2.heap.size w2).alloc (Nat.le_refl _) (.cells #[.int .i64 x] 3))
            have hrd : Rd (w2.alloc (.cells #[.int .i64 x] 3)) 1 (some ⟨w2.heap.size, 0, none⟩) 1 [.int .i64 x] :=
              ⟨rfl, fun _ => ⟨w2.heap.size, 0, rfl, fun q u hq => by
                match q, hq with
                | 0, hq => simp at hq; subst hq; simp⟩⟩
            have HOW := Lib.hid hown4
            have HRD := Lib.hid hrd
            clear hown2 hown4 hrd
            go_wp2_with fail
            refine (hunf _).mono ?_
            rintro e w' ⟨rfl, rfl⟩
            go_wp2_with (at_builtin; refine wpList_append_all _ rfl _ _ 38 rfl w.heap.size 3 i0 (.int .i64 0) 1 8 Try.underlying38 hi hz0 hz1 hz2 rfl (by decide) GI ?g1 _ j (cellsI out) rfl HOW.out (some ⟨w2.heap.size, 0, none⟩) 1 1 [.int .i64 x] rfl HRD.out ?g2 ?g3 ?g4 ?g5 ?g6 ?_)
            case g1 => intro q u hq; match q, hq with | 0, hq => exact ⟨0, (Option.some.inj hq).symm⟩
            case g2 => intro u hu; simp at hu; subst hu; rfl
            case g3 => intro q u hq; match q, hq with | 0, hq => exact ⟨x, (Option.some.inj hq).symm⟩
            case g4 => unfold maxLen; omega
            case g5 => omega
            case g6 => exact hb4.size
            intro v' w5 hown5 hgrow _ hat
            have hb5 := hb4.grown hgrow hb4.size (fun q hq => (HOW.out.row.lt q hq).1)
            rw [← cellsI_snoc] at hown5
            clear hgrow hat hb4 hb3 hb2
            go_wp2_with fail
            go_roundw
            case rel => exact ⟨j + 1, out ++ [x], r2, by omega, by go_num, rfl, rfl, by simp [HO.out], hown5, hb5, HS2, HI2, hrs2⟩
            case measure => simp [intOf]; omega
          · have hk3 : (k2 != 0) = true := by rw [bne_iff_ne]; exact hk2
            have HK := Lib.hid hk2
            have hbad := bad_item HS.out HN.out HI.out (by rw [HO.out]; exact hlt) hG2 HK.out
            have HB := Lib.hid hbad
            clear hk2 hG2 hbad
            go_wp2_with fail
            go_ret2
            exact ⟨[], k2, none, 0, 0, HB.out, rfl, Own.nil _ _ _ _ _, hb3⟩
        · obtain rfl : j = n := by omega
          by_cases hr : r = []
          · subst hr
            have h1 : (strOf []).toList = [] := by rw [ByteArray.toList_eq, strOf_list]
            have h2 : (!(strOf []).toList.isEmpty) = false := by rw [ByteArray.toList_eq, strOf_list]; rfl
            obtain ⟨A, c, rfl, _⟩ := hown.shape
            have HE := Lib.hid (good_end HS.out HI.out HO.out (by omega))
            clear HS
            go_wp2_with fail
            go_ret2
            exact ⟨out, 0, A, j, c, HE.out, rfl, by rw [HO.out]; exact hown, hb⟩
          · have h1 : ¬ (strOf r).toList = [] := by rw [ByteArray.toList_eq, strOf_list]; exact hr
            have h2 : (!(strOf r).toList.isEmpty) = true := by rw [ByteArray.toList_eq, strOf_list]; simpa using hr
            have HE := Lib.hid (bad_end (k := 4) HS.out HN.out HI.out HO.out hr (by decide))
            clear HS hr
            go_wp2_with fail
            go_ret2
            exact ⟨[], 4, none, 0, 0, HE.out, rfl, Own.nil _ _ _ _ _, hb⟩
  · have hk3 : (k != 0) = true := by rw [bne_iff_ne]; exact hk
    have hk4 : (k == 0) = false := by rw [beq_eq_false_iff_ne]; exact hk
    have HK := Lib.hid hk
    clear hk hG
    go_wp2_with fail
    go_ret2
    exact ⟨[], k, none, 0, 0, bad_count HG.out (.inl HK.out) HK.out, rfl, Own.nil _ _ _ _ _, hb1⟩
end Go.Proofs.Ytfabhinehfhndaa.Pack
