/-
  TroopNear. (Printed by bin/troM.py.)
-/
import Derived.Test.YthjolbdjokopnaaTroK
import Derived.Test.YthjolbdjokopnaaTroP
import Derived.Test.YthjolbdjokopnaaIntS
import Derived.Test.YthjolbdjokopnaaIntT
set_option linter.unusedVariables false
namespace Go.Proofs.Ythjolbdjokopnaa
open Go.RowKit

theorem nearE_cases {W : Wd} {r : Int} : nearE W r = 0 → W.chk = 0 ∧ inB r 0 12 = true := by
  unfold nearE
  intro h
  by_cases h0 : W.chk = 0
  · rw [if_neg (by simpa using h0)] at h
    split at h
    · exact ⟨h0, by assumption⟩
    · cases h
  · rw [if_pos h0] at h; exact absurd h h0
theorem nearIds_at {W : Wd} {c : Cel} {r id : Int} (h : id ∈ nearIds W c r) : ∃ (i : Nat) (t : Trp), W.troops[i]? = some t ∧ t.id = id ∧ nearT c r t = true := by
  unfold nearIds at h
  obtain ⟨t, ht, rfl⟩ := List.mem_map.1 h
  obtain ⟨h1, h2⟩ := List.mem_filter.1 ht
  obtain ⟨i, hi, rfl⟩ := List.mem_iff_getElem.1 h1
  exact ⟨i, _, List.getElem?_eq_getElem hi, rfl, h2⟩
theorem nearIds_mem {W : Wd} {c : Cel} {r : Int} {i : Nat} {t : Trp} (ht : W.troops[i]? = some t) (h : nearT c r t = true) : (nearIds W c r).contains t.id = true := by
  rw [List.contains_iff_mem]
  exact List.mem_map.2 ⟨t, List.mem_filter.2 ⟨List.mem_of_getElem? ht, h⟩, rfl⟩
theorem nearT_more {c : Cel} {a b : Int} {t : Trp} (h : nearT c a t = true) (hab : a ≤ b) : nearT c b t = true := by
  unfold nearT at *
  rw [Bool.and_eq_true] at *
  have := inB_true h.1
  have := inB_true h.2
  exact ⟨inB_mk (by omega) (by omega), inB_mk (by omega) (by omega)⟩
theorem nearT_back {c : Cel} {a : Int} {t u : Trp} (h : nearT c a t = true) (hu : u.spot = c) : nearT t.spot a u = true := by
  unfold nearT at *
  rw [Bool.and_eq_true] at *
  have := inB_true h.1
  have := inB_true h.2
  rw [hu]
  exact ⟨inB_mk (by omega) (by omega), inB_mk (by omega) (by omega)⟩
theorem rise_filter {p : Trp → Bool} : ∀ (l : List Trp), (∀ (i j : Nat) t u, i < j → l[i]? = some t → l[j]? = some u → t.id < u.id) → ((l.filter p).map (·.id)).Pairwise (· ≤ ·)
  | [], _ => List.Pairwise.nil
  | x :: r, h => by
    have ih := rise_filter (p := p) r fun i j t u hij hi hj => h (i + 1) (j + 1) t u (by omega) (by simpa using hi) (by simpa using hj)
    by_cases hp : p x = true
    · rw [List.filter_cons_of_pos hp, List.map_cons, List.pairwise_cons]
      refine ⟨fun y hy => ?_, ih⟩
      obtain ⟨u, hu, rfl⟩ := List.mem_map.1 hy
      obtain ⟨j, hj, rfl⟩ := List.mem_iff_getElem.1 (List.mem_filter.1 hu).1
      exact Int.le_of_lt (h 0 (j + 1) x r[j] (by omega) rfl (by simp [hj]))
    · rw [List.filter_cons_of_neg hp]; exact ih
theorem near_sorted {W : Wd} (h : W.chk = 0) (c : Cel) (r : Int) : ∀ (i j : Nat) x y, i < j → (nearIds W c r)[i]? = some x → (nearIds W c r)[j]? = some y → x ≤ y := by
  intro i j x y hij hi hj
  have hp := rise_filter (p := nearT c r) W.troops fun i j t u hij hi hj => id_lt h hi hj hij
  obtain ⟨h1, h2⟩ := List.getElem?_eq_some_iff.1 hi
  obtain ⟨h3, h4⟩ := List.getElem?_eq_some_iff.1 hj
  rw [← h2, ← h4]
  exact List.pairwise_iff_getElem.1 hp i j h1 h3 hij
theorem near_len (W : Wd) (c : Cel) (r : Int) : (nearIds W c r).length ≤ W.troops.length := by
  unfold nearIds
  rw [List.length_map]
  exact List.length_filter_le _ _
theorem near_zero (p : Cel) (r : Int) (a : Wd.At) (W : Wd) (w : World) (hW : Wd.Has w a W) (h0 : nearE W r = 0) :
    Calls Try.prog 40 #[.agg (Wd.cells a W).toArray, .agg #[.int .i64 p.x, .int .i64 p.y], .int .i64 r] w fun e w' => ∃ (A : Option Addr) (q : Nat) (l : List Int) (f : List Nat), e = .returned (.tuple #[.slice A l.length q, .int .i64 0]) ∧ l = nearIds W p r ∧ repI.SOwn 3 8 w' w.heap.size f A q l ∧ Below w.heap.size w w' := by
  have hn := near_any p r a W w hW
  have h2 : ∀ e w', NearPost W p r w e w' → ∃ (A : Option Addr) (q : Nat) (l : List Int) (f : List Nat), e = .returned (.tuple #[.slice A l.length q, .int .i64 0]) ∧ l = nearIds W p r ∧ repI.SOwn 3 8 w' w.heap.size f A q l ∧ Below w.heap.size w w' := by
    intro e w' h
    unfold NearPost at h
    rw [h0] at h
    simp only [if_true] at h
    exact h
  exact hn.mono h2
set_option maxRecDepth 100000 in
set_option maxHeartbeats 2000000 in
theorem troopNear_walk (p : Cel) (a2 a3 : Int) (a : Wd.At) (W : Wd) (w : World) (hW : Wd.Has w a W) :
    Calls Try.prog 14 #[.agg (Wd.cells a W).toArray, .agg #[.int .i64 p.x, .int .i64 p.y], .int .i64 a2, .int .i64 a3] w fun e w' => e = .returned (.bool true) ∧ Below w.heap.size w w' := by
  have hfi := fun id V (h : Wd.Has V a W) => find_any id a W V h
  have hne := fun c r V (h : Wd.Has V a W) => near_any c r a W V h
  have hnz := fun h0 c V (h : Wd.Has V a W) => near_zero c a2 a W V h h0
  obtain ⟨aP, aB, aS, aM, aT, kP, kB, kS, kM, kT⟩ := a
  show Calls _ _ #[.agg #[.int .i64 W.field.wide, .int .i64 W.field.high, .slice aP W.field.places.length kP, .slice aB W.bases.length kB, .slice aS W.stocks.length kS, .slice aM W.mines.length kM, .slice aT W.troops.length kT, .int .i64 W.next, .int .i64 W.now], .agg #[.int .i64 p.x, .int .i64 p.y], .int .i64 a2, .int .i64 a3] _ _
  have hb0 := below_alloc0 w (.cells (Wd.cells ⟨aP, aB, aS, aM, aT, kP, kB, kS, kM, kT⟩ W).toArray 81)
  have HA := Lib.hid (Blk.new w (Wd.cells ⟨aP, aB, aS, aM, aT, kP, kB, kS, kM, kT⟩ W) 81 (0, 0))
  have HH := Lib.hid (hW.keep hb0)
  obtain ⟨w0, HW0⟩ : ∃ w0, Hid (w.alloc (.cells (Wd.cells ⟨aP, aB, aS, aM, aT, kP, kB, kS, kM, kT⟩ W).toArray 81) = w0) := ⟨_, Lib.hid rfl⟩
  rw [HW0.out] at hb0 HH
  have HA : Hid (Blk w0 w.heap.size (Wd.cells ⟨aP, aB, aS, aM, aT, kP, kB, kS, kM, kT⟩ W) 81 (0, 0)) := by rw [← HW0.out]; exact HA
  have hbB := below_alloc0 w0 (.cells #[.int .i64 p.x, .int .i64 p.y] 85)
  have hBB := Blk.new w0 [.int .i64 p.x, .int .i64 p.y] 85 (0, 0)
  have hsz0 : w0.heap.size = w.heap.size + 1 := by rw [← HW0.out]; simp
  rw [hsz0] at hBB
  obtain ⟨w1, HWB⟩ : ∃ w1, Hid (w0.alloc (.cells #[.int .i64 p.x, .int .i64 p.y] 85) = w1) := ⟨_, Lib.hid rfl⟩
  rw [HWB.out] at hbB
  have HBB : Hid (Blk w1 (w.heap.size + 1) p.cells 85 (0, 0)) := by rw [← HWB.out]; exact hBB
  have hb1 := hb0.trans (hbB.mono hb0.size)
  have HA1 := Lib.hid (HA.out.later hbB)
  have HFI := Lib.hid (fun id V (h : Below w1.heap.size w1 V) => hfi id V ((HH.out.keep hbB).keep h))
  have HNE := Lib.hid (fun c r V (h : Below w1.heap.size w1 V) => hne c r V ((HH.out.keep hbB).keep h))
  have HNZ := Lib.hid (fun h0 c V (h : Below w1.heap.size w1 V) => hnz h0 c V ((HH.out.keep hbB).keep h))
  rw [Wd.cells_eq] at HFI HNE HNZ
  have HNZ : Hid (∀ (h0 : nearE W a2 = 0) (c : Cel) V, Below w1.heap.size w1 V → Calls Try.prog 40 #[.agg #[.int .i64 W.field.wide, .int .i64 W.field.high, .slice aP W.field.places.length kP, .slice aB W.bases.length kB, .slice aS W.stocks.length kS, .slice aM W.mines.length kM, .slice aT W.troops.length kT, .int .i64 W.next, .int .i64 W.now], .agg #[.int .i64 c.x, .int .i64 c.y], .int .i64 a2] V fun e w' => ∃ (A : Option Addr) (q : Nat) (l : List Int) (f : List Nat), e = .returned (.tuple #[.slice A l.length q, .int .i64 0]) ∧ l = nearIds W c a2 ∧ repI.SOwn 3 8 w' V.heap.size f A q l ∧ Below V.heap.size V w') := HNZ
  have HFI : Hid (∀ id V, Below w1.heap.size w1 V → Calls Try.prog 37 #[.agg #[.int .i64 W.field.wide, .int .i64 W.field.high, .slice aP W.field.places.length kP, .slice aB W.bases.length kB, .slice aS W.stocks.length kS, .slice aM W.mines.length kM, .slice aT W.troops.length kT, .int .i64 W.next, .int .i64 W.now], .int .i64 id] V (FindPost W (isId id) V)) := HFI
  have HNE : Hid (∀ (c : Cel) r V, Below w1.heap.size w1 V → Calls Try.prog 40 #[.agg #[.int .i64 W.field.wide, .int .i64 W.field.high, .slice aP W.field.places.length kP, .slice aB W.bases.length kB, .slice aS W.stocks.length kS, .slice aM W.mines.length kM, .slice aT W.troops.length kT, .int .i64 W.next, .int .i64 W.now], .agg #[.int .i64 c.x, .int .i64 c.y], .int .i64 r] V (NearPost W c r V)) := HNE
  have HLV := Lib.hid (fun V => tlives_any V)
  have HW1 : Hid (w.alloc (.cells #[.int .i64 W.field.wide, .int .i64 W.field.high, .slice aP W.field.places.length kP, .slice aB W.bases.length kB, .slice aS W.stocks.length kS, .slice aM W.mines.length kM, .slice aT W.troops.length kT, .int .i64 W.next, .int .i64 W.now] 81) = w0) := by rw [← HW0.out]; rfl
  obtain ⟨c0, c1, c2, c3, c4, c5, c6, c7, c8⟩ := Wd.wblk HA1.out
  obtain ⟨k0, k1⟩ := Cel.blk HBB.out
  clear hW hfi hne hnz hBB
  by_cases hok : nearE W a2 = 0 ∧ nearE W a3 = 0 ∧ a2 ≤ a3
  · obtain ⟨n1, n2, hab⟩ := hok
    obtain ⟨h0, hr2⟩ := nearE_cases n1
    obtain ⟨_, hr3⟩ := nearE_cases n2
    obtain ⟨nt, HNT⟩ : ∃ n, Hid (W.troops.length = n) := ⟨_, Lib.hid rfl⟩
    have h100 : nt ≤ 100 := by rw [← HNT.out]; exact (good_spots h0).2.2.1
    have H0 := Lib.hid h0
    have HN1 := Lib.hid n1
    have HN2 := Lib.hid n2
    have hd : decide (a3 < a2) = false := by simpa using hab
    have HAB := Lib.hid hab
    have HHT : Hid (Trp.rep.SHas 56 w1 aT kT W.troops) := Lib.hid (HH.out.T.keep hbB)
    rw [HNT.out] at HFI HNE HNZ c6 HW1
    clear hr2 hr3 h0 n1 n2 hab
    go_enter Try.func14, Try.ntmps14
    rw [HNT.out]
    go_wp2_with fail
    rw [HW1.out, HWB.out]
    go_wp2_with fail
    refine (HNE.out p a2 _ (Below.refl _ _)).mono ?_; rintro e w2 ⟨A1, q1, l1, f1, rfl, hl1, hso1, hb2⟩
    have HL1 := Lib.hid hl1
    have HS1 := Lib.hid hso1.has
    rw [HN1.out]
    have d0 := cell_later hb2 c0
    have d1 := cell_later hb2 c1
    have d2 := cell_later hb2 c2
    have d3 := cell_later hb2 c3
    have d4 := cell_later hb2 c4
    have d5 := cell_later hb2 c5
    have d6 := cell_later hb2 c6
    have d7 := cell_later hb2 c7
    have d8 := cell_later hb2 c8
    have e0 := cell_later hb2 k0
    have e1 := cell_later hb2 k1
    clear c0 c1 c2 c3 c4 c5 c6 c7 c8 k0 k1 hl1 hso1
    go_wp2_with fail
    refine (HNE.out p a3 _ hb2).mono ?_; rintro e w3 ⟨A2, q2, l2, f2, rfl, hl2, hso2, hb3⟩
    have t3 := below_on hb2 hb3
    have HL2 := Lib.hid hl2
    have HS2 := Lib.hid hso2.has
    have HS1 := Lib.hid (HS1.out.keep hb3)
    rw [HN2.out]
    rw [if_pos HN1.out] at HL1
    rw [if_pos HN2.out] at HL2
    clear d0 d1 d2 d3 d4 d5 d6 d7 d8 e0 e1 hl2 hso2 hb2 hb3
    go_wp2_with fail
    refine (HLV.out _).mono ?_; rintro e w4 ⟨rfl, hb4⟩
    have t4 := below_on t3 hb4
    have HS1 := Lib.hid (HS1.out.keep hb4)
    have HS2 := Lib.hid (HS2.out.keep hb4)
    obtain ⟨n1, HM1⟩ : ∃ n, Hid (l1.length = n) := ⟨_, Lib.hid rfl⟩
    obtain ⟨n2, HM2⟩ : ∃ n, Hid (l2.length = n) := ⟨_, Lib.hid rfl⟩
    have hn1 : n1 ≤ 100 := by rw [← HM1.out, HL1.out]; have := near_len W p a2; have := HNT.out; omega
    have hn2 : n2 ≤ nt := by rw [← HM2.out, HL2.out]; have := near_len W p a3; have := HNT.out; omega
    rw [HM1.out, HM2.out]
    clear t3 hb4
    go_wp2_with fail
    have HA4 := Lib.hid (HA1.out.later t4)
    have HB4 := Lib.hid (HBB.out.later t4)
    have HT4 := Lib.hid (HHT.out.keep t4)
    have hb14 := hb1.trans (t4.mono hb1.size)
    have HSRT := Lib.hid (fun V (h : Below w4.heap.size w4 V) => sorted_int A2 q2 8 l2 V (HS2.out.keep h) (by rw [HL2.out]; exact near_sorted H0.out p a3))
    rw [HM2.out] at HSRT
    clear hd
    go_loopw [54] (fun iv wr => ∃ j : Nat, j ≤ n1 ∧ iv = .int .i64 (j : Int) ∧ Below w4.heap.size w4 wr) (fun iv _ => n1 - (intOf iv).toNat)
    case atStart => exact ⟨0, Nat.zero_le _, rfl, Below.refl _ _⟩
    case round =>
      obtain ⟨j, hj, rfl, hb⟩ := hrel
      obtain ⟨wo, rfl⟩ : ∃ wo : World, wo = wr := ⟨_, rfl⟩
      have hb1r := below_on t4 hb
      obtain ⟨d0, d1, d2, d3, d4, d5, d6, d7, d8⟩ := Wd.wblk (HA4.out.later hb)
      rw [HNT.out] at d6
      by_cases hlt : j < n1
      · obtain ⟨id, hid⟩ := get_of (l := l1) (i := j) (by rw [HM1.out]; exact hlt)
        obtain ⟨i0, t0, ht0, htid, htn⟩ := nearIds_at (W := W) (c := p) (r := a2) (id := id) (by rw [← HL1.out]; exact List.mem_of_getElem? hid)
        have hix : idxI (isId id) W.troops = (i0 : Int) := idx_of_unique ht0 (by simp [isId, htid]) fun q u hq hu => id_inj H0.out hq ht0 (by rw [htid]; simpa [isId] using hu)
        obtain ⟨e1, e2⟩ := which_ok H0.out (isId id)
        rw [hix] at e1 e2
        have e3 : whichI W (isId id) = (i0 : Int) := by rw [e1]; omega
        have e4 : whichB W (isId id) = true := by rw [e2]; simp
        have hcon : l2.contains id = true := by rw [HL2.out, ← htid]; exact nearIds_mem ht0 (nearT_more htn HAB.out)
        have HF : Hid (Calls Try.prog 37 #[.agg #[.int .i64 W.field.wide, .int .i64 W.field.high, .slice aP W.field.places.length kP, .slice aB W.bases.length kB, .slice aS W.stocks.length kS, .slice aM W.mines.length kM, .slice aT nt kT, .int .i64 W.next, .int .i64 W.now], .int .i64 id] wo fun e w' => e = .returned (.tuple #[.int .i64 (i0 : Int), .bool true, .int .i64 0]) ∧ Below wo.heap.size wo w') := Lib.hid (by
          have := HFI.out id wo hb1r
          unfold FindPost at this
          rw [e3, e4, H0.out] at this
          exact this)
        have HC := Lib.hid (fun V (h : Below wo.heap.size wo V) => has_int id A2 q2 8 l2 V ((HS2.out.keep hb).keep h))
        rw [HM2.out, hcon] at HC
        have hi0 : i0 < nt := by have := (List.getElem?_eq_some_iff.1 ht0).1; rw [HNT.out] at this; exact this
        obtain ⟨b1, o1, rfl, hcell⟩ := repI_at (HS1.out.keep hb) (by rw [HM1.out]; omega)
        have p0 := hcell j id hid
        have HT0 := Lib.hid ht0
        have HTN := Lib.hid htn
        have hji : (j : Int) < (n1 : Int) := by omega
        have hj0 : (0 : Int) ≤ (j : Int) := by omega
        have hii : (i0 : Int) < (nt : Int) := by omega
        have hi00 : (0 : Int) ≤ (i0 : Int) := by omega
        clear hid hix e1 e2 e3 e4 hcon hcell ht0 htn htid
        go_wp2_with fail
        refine HF.out.mono ?_; rintro e w5 ⟨rfl, hb5⟩
        have d0 := cell_later hb5 d0
        have d6 := cell_later hb5 d6
        go_wp2_with fail
        refine (HC.out _ hb5).mono ?_; rintro e w6 ⟨rfl, hb6⟩
        have t6 := below_on hb5 hb6
        have t46 := below_on hb t6
        have t16 := below_on hb1r t6
        have d6 := cell_later hb6 d6
        clear d0 d1 d2 d3 d4 d5 d7 d8 p0 hb5 hb6
        go_wp2_with fail
        clear d6
        go_loopw [19, 20, 21, 80] (fun _ _ _ iv wr => ∃ k : Nat, k ≤ nt ∧ iv = .int .i64 (k : Int) ∧ Below w6.heap.size w6 wr) (fun _ _ _ iv _ => nt - (intOf iv).toNat)
        case atStart => exact ⟨0, Nat.zero_le _, rfl, Below.refl _ _⟩
        case round =>
          obtain ⟨k, hk, rfl, hbq⟩ := hrel
          have t4q := below_on t46 hbq
          have t1q := below_on t16 hbq
          by_cases hltk : k < nt
          · obtain ⟨t, ht⟩ := get_of (l := W.troops) (i := k) (by rw [HNT.out]; exact hltk)
            have hTq := HT4.out.keep t4q
            obtain ⟨b, o, rfl, hcell⟩ := Trp.at_ hTq (by rw [HNT.out]; omega)
            obtain ⟨p0, p1, p2, p3, p4, p5, p6⟩ := hcell k t ht
            obtain ⟨_, _, _, z3, z4, _, _⟩ := hcell i0 t0 HT0.out
            obtain ⟨d0, d1, d2, d3, d4, d5, d6, d7, d8⟩ := Wd.wblk (HA4.out.later t4q)
            rw [HNT.out] at d6
            obtain ⟨k0, k1⟩ := Cel.blk (HB4.out.later t4q)
            have hsz1 : w.heap.size + 1 < wr.heap.size := (HB4.out.later t4q).lt
            have hki : (k : Int) < (nt : Int) := by omega
            have hk0 : (0 : Int) ≤ (k : Int) := by omega
            have hb7 := below_alloc0 wr (.cells #[.int .i64 t.id, .int .i64 t.owner, .int .i64 t.kind, .int .i64 t.spot.x, .int .i64 t.spot.y, .int .i64 t.life, .int .i64 t.load] 87)
            obtain ⟨w7, HW7⟩ : ∃ w7, Hid (wr.alloc (.cells #[.int .i64 t.id, .int .i64 t.owner, .int .i64 t.kind, .int .i64 t.spot.x, .int .i64 t.spot.y, .int .i64 t.life, .int .i64 t.load] 87) = w7) := ⟨_, Lib.hid rfl⟩
            have hBT := Blk.new wr t.cells 87 (0, 0)
            rw [HW7.out] at hb7
            have HBT : Hid (Blk w7 wr.heap.size t.cells 87 (0, 0)) := by rw [← HW7.out]; exact hBT
            have t67 := below_on hbq hb7
            have t17 := below_on t1q hb7
            clear hTq hcell hBT
            by_cases hsp : t.spot = p
            · have hx : (t.spot.x == p.x) = true := by rw [hsp]; simp
              have hy : (t.spot.y == p.y) = true := by rw [hsp]; simp
              have hcon : (nearIds W t0.spot a2).contains t.id = true := nearIds_mem ht (nearT_back HTN.out hsp)
              have HCON := Lib.hid hcon
              have HN7 := Lib.hid (fun V (h : Below w7.heap.size w7 V) => HNZ.out HN1.out t0.spot V (below_on t17 h))
              clear ht hsp hcon
              go_wp2_with fail
              rw [HW7.out]
              have f0 := cell_later hb7 d0
              have f1 := cell_later hb7 d1
              have f2 := cell_later hb7 d2
              have f3 := cell_later hb7 d3
              have f4 := cell_later hb7 d4
              have f5 := cell_later hb7 d5
              have f6 := cell_later hb7 d6
              have f7 := cell_later hb7 d7
              have f8 := cell_later hb7 d8
              have g3 := cell_later hb7 z3
              have g4 := cell_later hb7 z4
              clear d0 d1 d2 d3 d4 d5 d6 d7 d8 z3 z4 p0 p1 p2 p3 p4 p5 p6 k0 k1 hx hy
              have HS := Lib.hid (fun (wx : World) (h : Below w7.heap.size w7 wx) => (⟨h, cell_later h f0, cell_later h f1, cell_later h f2, cell_later h f3, cell_later h f4, cell_later h f5, cell_later h f6, cell_later h f7, cell_later h f8, cell_later h g3, cell_later h g4⟩ : Below w7.heap.size w7 wx ∧ wx.cell? ⟨w.heap.size, 0, none⟩ = some (.int .i64 W.field.wide) ∧ wx.cell? ⟨w.heap.size, 1, none⟩ = some (.int .i64 W.field.high) ∧ wx.cell? ⟨w.heap.size, 2, none⟩ = some (.slice aP W.field.places.length kP) ∧ wx.cell? ⟨w.heap.size, 3, none⟩ = some (.slice aB W.bases.length kB) ∧ wx.cell? ⟨w.heap.size, 4, none⟩ = some (.slice aS W.stocks.length kS) ∧ wx.cell? ⟨w.heap.size, 5, none⟩ = some (.slice aM W.mines.length kM) ∧ wx.cell? ⟨w.heap.size, 6, none⟩ = some (.slice (some ⟨b, o, none⟩) nt kT) ∧ wx.cell? ⟨w.heap.size, 7, none⟩ = some (.int .i64 W.next) ∧ wx.cell? ⟨w.heap.size, 8, none⟩ = some (.int .i64 W.now) ∧ wx.cell? ⟨b, o + i0 * 7 + 3, none⟩ = some (.int .i64 t0.spot.x) ∧ wx.cell? ⟨b, o + i0 * 7 + 4, none⟩ = some (.int .i64 t0.spot.y)))
              have hbr0 := Below.refl w7.heap.size w7
              go_region_held3 (fun wx => Below w7.heap.size w7 wx ∧ wx.cell? ⟨w.heap.size, 0, none⟩ = some (.int .i64 W.field.wide) ∧ wx.cell? ⟨w.heap.size, 1, none⟩ = some (.int .i64 W.field.high) ∧ wx.cell? ⟨w.heap.size, 2, none⟩ = some (.slice aP W.field.places.length kP) ∧ wx.cell? ⟨w.heap.size, 3, none⟩ = some (.slice aB W.bases.length kB) ∧ wx.cell? ⟨w.heap.size, 4, none⟩ = some (.slice aS W.stocks.length kS) ∧ wx.cell? ⟨w.heap.size, 5, none⟩ = some (.slice aM W.mines.length kM) ∧ wx.cell? ⟨w.heap.size, 6, none⟩ = some (.slice (some ⟨b, o, none⟩) nt kT) ∧ wx.cell? ⟨w.heap.size, 7, none⟩ = some (.int .i64 W.next) ∧ wx.cell? ⟨w.heap.size, 8, none⟩ = some (.int .i64 W.now) ∧ wx.cell? ⟨b, o + i0 * 7 + 3, none⟩ = some (.int .i64 t0.spot.x) ∧ wx.cell? ⟨b, o + i0 * 7 + 4, none⟩ = some (.int .i64 t0.spot.y)) (exact HS.out _ (by first | assumption | exact Below.drew (by assumption) | exact below_drewN (by assumption) _)) ((go_at_call 40; refine (HN7.out _ (by first | assumption | exact Below.drew (by assumption))).mono ?_; rintro e w8 ⟨A3, q3, l3, f3, rfl, hl3, hso3, hb8⟩; have HL3 := Lib.hid hl3; clear hl3; have hb83 : Below w7.heap.size w7 w8 := (by first | exact below_on (by assumption) hb8 | exact below_onD (by assumption) hb8)))
              have h83 := hb83
              have HC3 := Lib.hid (has_int t.id A3 q3 8 l3 _ hso3.has)
              have hcc : l3.contains t.id = true := by rw [HL3.out]; exact HCON.out
              rw [hcc] at HC3
              obtain ⟨v0, _⟩ := Trp.blk (HBT.out.later h83)
              clear f0 f1 f2 f3 f4 f5 f6 f7 f8 g3 g4 hcc hso3
              go_wp2_with fail
              refine HC3.out.mono ?_; rintro e w9 ⟨rfl, hb9⟩
              go_wp2_with fail
              go_roundw
              case rel => exact ⟨k + 1, by omega, by go_num, below_on (below_on t67 h83) hb9⟩
              case measure => simp [intOf]; omega
            · have key : (t.spot.x == p.x) = false ∨ ((t.spot.x == p.x) = true ∧ (t.spot.y == p.y) = false) := by
                obtain ⟨_, _, _, ⟨a, b⟩, _, _⟩ := t
                obtain ⟨c, d⟩ := p
                simp at hsp ⊢
                omega
              clear hsp ht z3 z4
              rcases key with h1 | ⟨h1, h2⟩
              all_goals
                go_wp2_with fail
                rw [HW7.out]
                go_wp2_with fail
                go_roundw
                case rel => exact ⟨k + 1, by omega, by go_num, t67⟩
                case measure => simp [intOf]; omega
          · go_wp2_with fail
            go_roundw
            case rel => exact ⟨j + 1, by omega, by go_num, t4q⟩
            case measure => simp [intOf]; omega
      · have hle : decide ((n2 : Int) ≤ (nt : Int)) = true := by simp; omega
        go_wp2_with fail
        refine (HSRT.out _ hb).mono ?_; rintro e w5 ⟨rfl, hb5⟩
        have d6 := cell_later hb5 d6
        go_wp2_with fail
        go_ret
        exact ⟨rfl, hb14.trans ((below_on hb hb5).mono hb14.size)⟩
  · have key : (nearE W a2 != 0) = true ∨ ((nearE W a2 != 0) = false ∧ (nearE W a3 != 0) = true) ∨ ((nearE W a2 != 0) = false ∧ (nearE W a3 != 0) = false ∧ decide (a3 < a2) = true) := by
      by_cases h1 : nearE W a2 = 0
      · by_cases h2 : nearE W a3 = 0
        · have : ¬ a2 ≤ a3 := fun h => hok ⟨h1, h2, h⟩
          simp [h1, h2]; omega
        · simp [h1, h2]
      · simp [h1]
    obtain ⟨x2, HX2⟩ : ∃ x, Hid (nearE W a2 = x) := ⟨_, Lib.hid rfl⟩
    obtain ⟨x3, HX3⟩ : ∃ x, Hid (nearE W a3 = x) := ⟨_, Lib.hid rfl⟩
    rw [HX2.out, HX3.out] at key
    have HK : Hid ((x2 != 0) = true ∨ ((x2 != 0) = false ∧ (x3 != 0) = true) ∨ ((x2 != 0) = false ∧ (x3 != 0) = false ∧ decide (a3 < a2) = true)) := Lib.hid key
    clear hok key HNZ
    go_enter Try.func14, Try.ntmps14
    go_wp2_with fail
    rw [HW1.out, HWB.out]
    go_wp2_with fail
    refine (HNE.out p a2 _ (Below.refl _ _)).mono ?_; rintro e w2 ⟨A1, q1, l1, f1, rfl, hl1, hso1, hb2⟩
    rw [HX2.out]
    clear hl1 hso1
    have d0 := cell_later hb2 c0
    have d1 := cell_later hb2 c1
    have d2 := cell_later hb2 c2
    have d3 := cell_later hb2 c3
    have d4 := cell_later hb2 c4
    have d5 := cell_later hb2 c5
    have d6 := cell_later hb2 c6
    have d7 := cell_later hb2 c7
    have d8 := cell_later hb2 c8
    have e0 := cell_later hb2 k0
    have e1 := cell_later hb2 k1
    clear c0 c1 c2 c3 c4 c5 c6 c7 c8 k0 k1
    go_wp2_with fail
    refine (HNE.out p a3 _ hb2).mono ?_; rintro e w3 ⟨A2, q2, l2, f2, rfl, hl2, hso2, hb3⟩
    rw [HX3.out]
    have t3 := below_on hb2 hb3
    clear hl2 hso2 d0 d1 d2 d3 d4 d5 d6 d7 d8 e0 e1
    go_wp2_with fail
    refine (HLV.out _).mono ?_; rintro e w4 ⟨rfl, hb4⟩
    have t4 := below_on t3 hb4
    have key := HK.out
    rcases key with h | ⟨h, h2⟩ | ⟨h, h2, h3⟩
    all_goals
      go_wp2_with fail
      refine (HLV.out _).mono ?_; rintro e w5 ⟨rfl, hb5⟩
      go_wp2_with fail
      go_ret
      exact ⟨rfl, hb1.trans ((below_on t4 hb5).mono hb1.size)⟩
theorem troopNear_any (c0 : Array Value) (c1 : Array Value) (a2 : Int) (a3 : Int) (w : World) (h0 : (.cons (.cons (.int .i64) (.cons (.int .i64) (.cons (.slice (.int .i64) 8) .nil))) (.cons (.slice (.cons (.int .i64) (.cons (.int .i64) .nil)) 16) (.cons (.slice (.int .i64) 8) (.cons (.slice (.int .i64) 8) (.cons (.slice (.cons (.int .i64) (.cons (.int .i64) (.cons (.int .i64) (.cons (.cons (.int .i64) (.cons (.int .i64) .nil)) (.cons (.int .i64) (.cons (.int .i64) .nil)))))) 56) (.cons (.int .i64) (.cons (.int .i64) .nil)))))) : Sh).Ok w c0.toList) (h1 : (.cons (.int .i64) (.cons (.int .i64) .nil) : Sh).Ok w c1.toList) (w2 : (Lit.int .i64 a2).wf = true) (w3 : (Lit.int .i64 a3).wf = true) :
    Calls Try.prog 14 #[.agg c0, .agg c1, .int .i64 a2, .int .i64 a3] w fun e w' => e = .returned (.bool true) ∧ Below w.heap.size w w' := by
  obtain ⟨a, W, e, hW⟩ := Wd.opens w _ (show Wd.sh.Ok w c0.toList from h0)
  obtain ⟨p, e2, _⟩ := Cel.opens w _ (show Cel.sh.Ok w c1.toList from h1)
  have hc : c0 = (Wd.cells a W).toArray := by rw [← e]
  have hc2 : c1 = p.cells.toArray := by rw [← e2]
  subst hc
  subst hc2
  exact troopNear_walk p a2 a3 a W w hW
end Go.Proofs.Ythjolbdjokopnaa
