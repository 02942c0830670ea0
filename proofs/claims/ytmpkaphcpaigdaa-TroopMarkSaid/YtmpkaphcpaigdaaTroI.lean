import Derived.Test.YtmpkaphcpaigdaaGolC
import Derived.Shelf.Spec.SlicesInsertGrow
import Derived.Shelf.Slices.SearchI
import Derived.Shelf.Slices.Empties
import Derived.Test.YtmpkaphcpaigdaaMul
import Derived.Laws.IdiomStrings
import Derived.Laws.Strings
import Derived.Test.YtmpkaphcpaigdaaBas
import Derived.Test.YtmpkaphcpaigdaaProg
import Derived.Test.YtmpkaphcpaigdaaEqI
set_option linter.unusedVariables false
set_option linter.unusedSimpArgs false
set_option maxRecDepth 100000
set_option maxHeartbeats 4000000
namespace Go.Proofs.Ytmpkaphcpaigdaa
section
open Go.RowKit
def binI (l : List Int) (x : Int) : Nat := l.countP λ y => decide (y < x)
def encI' (n : Int) : Value := .int .i64 n
def setL (cur : List Value) : Nat → List Value → List Value
 | _, [] => cur
 | o, v :: r => setL (cur.set o v) (o + 1) r
theorem Blk.setCells {g : Nat} {e : TypeId} : ∀ (zs : List Value) (o : Nat) (w : World) (cur : List Value), Blk w g cur e (0, 0) → Blk (w.setCells g o zs) g (setL cur o zs) e (0, 0)
 | [], _, _, _, h => h
 | v :: r, o, w, cur, h => Blk.setCells r (o + 1) _ _ (h.set o v)
theorem Mod.cells (g : Nat) : ∀ (zs : List Value) (o : Nat) (w : World), Mod [g] w (w.setCells g o zs)
 | [], _, w => Mod.of_ext (Ext.rf w)
 | v :: r, o, w => by
  rw [World.setCells]
  exact (Mod.setCell w ⟨g, o, none⟩ v).trans (Mod.cells g r (o + 1) _)
end
section
open Go.RowKit
theorem cvn {P : Program} {E : List (Nat × Value)} {w : World} {d : Option Nat} {ty : TypeId} {pos : String} {af : Array Edge} {g : Option (Nat × Bool)} {x : Operand} {src dst : TypeId} {k k' : IntKind} {i r : Int} (hr : ∀ w, (convert src dst (.int k i)).run P w = .ok (.int k' (k'.wrap i)) w) (h : k'.wrap i = r) (hx : ev E x = some (.int k i)) :
  Runs P E ⟨d, .convert src dst x, ty, pos, af, g⟩ w (.int k' r) w := λ n a ha => by
 subst h
 simp only [execOp, ha.ev hx, Sem.run_bind, hr w, Result.andThen_ok, Sem.run_pure]
theorem wU {x : Int} (h0 : 0 ≤ x) (h1 : x < 18446744073709551616) : IntKind.u64.wrap x = x := by rw [IntKind.wrap_u64]; omega
end
section
open Go.RowKit
def repY : Rep UInt8 := Rep.flat 1 (λ b => [.int .u8 (b.toNat : Int)]) (λ _ => True) (λ _ u => ∃ n : Int, u = .int .u8 n) (λ _ => rfl) (by intro a u hu; simp at hu; subst hu; rfl) (by
 intro a j u hu
 cases j with
 | zero => simp at hu; exact ⟨_, hu.symm⟩
 | succ j => simp at hu)
theorem hcY {w : World} {cs : List Value} {a : UInt8} (h : repY.has w cs a) : cs = [.int .u8 (a.toNat : Int)] := And.left (show cs = [.int .u8 (a.toNat : Int)] ∧ True from h)
theorem info_u8 : (Try.prog.info? 5).map (λ i => (i.zero, i.size, i.bytes)) = some (some (.int .u8 0), 1, 1) := by kernel_rfl
theorem raw0Y : ∀ (j : Nat) u, (Value.int .u8 0).cells[j]? = some u → repY.raw j u := by
 intro j u hu
 have hu : (#[(.int .u8 0 : Value)] : Array Value)[j]? = some u := hu
 match j, hu with
 | 0, hu => exact ⟨0, (Option.some.inj hu).symm⟩
 | j + 1, hu => simp at hu
theorem repY_at {by_ : Nat} {w : World} {A : Option Addr} {c : Nat} {l : List UInt8} (h : repY.SHas by_ w A c l) (h0 : 0 < l.length) : ∃ b o, A = some ⟨b, o, none⟩ ∧ ∀ (i : Nat) (a : UInt8), l[i]? = some a → w.cell? ⟨b, o + i, none⟩ = some (.int .u8 (a.toNat : Int)) := by
 obtain ⟨b, o, e, hc⟩ := h.at_ h0
 refine ⟨b, o, e, λ i a ha => ?_⟩
 obtain ⟨es, ⟨rfl, _⟩, hj⟩ := hc i a ha
 have := hj 0 _ rfl
 simpa [repY, Rep.flat] using this
def bytesS (l : List UInt8) : ByteArray := ⟨l.toArray⟩
section
variable {P : Program} {n : Nat} {E E' : List (Nat × Value)} {w : World} {d : Option Nat} {ty : TypeId} {pos : String} {af : Array Edge} {g : Option (Nat × Bool)} {x y z u : Operand} {t t2 : TypeId}
theorem cvB {e : TypeId} {A : Option Addr} {c : Nat} {l : List UInt8} {by_ : Nat} (hs : P.underlying t = some (.slice e)) (he : P.underlying e = some (.int .u8)) (hd : P.underlying t2 = some .string) (h : repY.SHas by_ w A c l) (hx : ev E x = some (.slice A l.length c)) :
  Runs P E ⟨d, .convert t t2 x, ty, pos, af, g⟩ w (.string (bytesS l)) w := λ n a ha => by
 have hr : (convert t t2 (.slice A l.length c)).run P w = .ok (.string (bytesS l)) w := by
  cases A with
  | none =>
   have hc : c = 0 := h.2.2.2.1 rfl
   have hl : l = [] := List.eq_nil_of_length_eq_zero (by have := h.1; omega)
   subst hl; subst hc
   show (convert t t2 (.slice none 0 0)).run P w = _
   rw [run_convert_bytes_string w t t2 e none 0 0 hs he hd]
   simp [Conv.bytesToString]
   rfl
  | some p =>
   cases hl : l with
   | nil =>
    have : ∀ j (hj : j < ([] : List UInt8).length), w.cell? (p.add j) = some (.int .u8 (([] : List UInt8)[j].toNat : Int)) := λ j hj => nomatch hj
    exact run_convert_bytes_back w t t2 e p c [] hs he hd this
   | cons b r =>
    rw [← hl]
    obtain ⟨b, o, rfl', hc⟩ := repY_at h (by rw [hl]; simp)
    injection rfl' with rfl'
    subst rfl'
    exact run_convert_bytes_back w t t2 e _ c l hs he hd λ j hj => by
     have := hc j _ (List.getElem?_eq_getElem hj)
     have e : (⟨b, o, none⟩ : Addr).add j = ⟨b, o + j, none⟩ := by
      unfold Addr.add
      by_cases h0 : j = 0
      ·subst h0; simp
      ·simp [h0]
     rw [e]; exact this
 simp only [execOp, ha.ev hx, Sem.run_bind, hr, Result.andThen_ok, Sem.run_pure]
theorem lnS {s : ByteArray} (ht : P.underlying t = some .string) (hx : ev E x = some (.string s)) (hs : (s.size : Int) ≤ 9223372036854775807) : Runs P E ⟨d, .call { callee := .builtin .len, args := #[x], argTypes := #[t] }, ty, pos, af, g⟩ w (.int .i64 (s.size : Int)) w :=
 bi (vs := [.string s]) (by simp only [evs, hx]) λ cs => by
  have := run_len_string (P := P) w t ty s ht
  simp only [builtin, Sem.run_bind, this, Result.andThen_ok, Sem.run_pure]; rfl
end
end
section
open Go.RowKit
theorem wY {x : Int} (h0 : 0 ≤ x) (h1 : x < 256) : IntKind.u8.wrap x = ((UInt8.ofNat x.toNat).toNat : Int) := by
 rw [show IntKind.u8.wrap x = x % 256 by rw [IntKind.wrap_u8]]
 rw [UInt8.toNat_ofNat']; omega
theorem bytes_size (l : List UInt8) : (bytesS l).size = l.length := by show l.toArray.size = _; simp
theorem bytes_app (l m : List UInt8) : bytesS l ++ bytesS m = bytesS (l ++ m) := by
 apply ByteArray.ext
 simp [bytesS]
theorem join1 {n : Nat} {R : List UInt8} (h : True) : bytesS [UInt8.ofNat (128 + (n : Int) % 128).toNat] ++ bytesS R = bytesS (UInt8.ofNat (n % 128 + 128) :: R) := by
 rw [bytes_app, show (128 + (n : Int) % 128).toNat = n % 128 + 128 by omega]; rfl
theorem take_snoc_d {l : List Int} {k : Nat} {x : Int} (hk : k < l.length) (hx : l.getD k 0 = x) : l.take (k + 1) = l.take k ++ [x] := by
 rw [← hx, List.getD_eq_getElem?_getD, List.getElem?_eq_getElem hk, ← List.take_append_getElem hk]; rfl
section
variable {P : Program} {E : List (Nat × Value)} {w : World} {d : Option Nat} {ty : TypeId} {pos : String} {af : Array Edge} {g : Option (Nat × Bool)} {x y : Operand} {t u : TypeId}
theorem bqU {i j : Int} (hx : ev E x = some (.int .u64 i)) (hy : ev E y = some (.int .u64 j)) (h0 : 0 ≤ i) (h1 : 0 < j) (h2 : i < 18446744073709551616) : Runs P E ⟨d, .binOp .quo t x y u, ty, pos, af, g⟩ w (.int .u64 (i / j)) w := by
 have e0 : 0 ≤ i / j := Int.ediv_nonneg h0 (by omega)
 have e1 : i / j ≤ i := Int.ediv_le_self _ h0
 exact run_bin hx hy (binOp_quo t .u64 i j) (by
  have : Op.intDiv .quo .u64 i j = pure (.int .u64 (i / j)) := by
   rw [show i / j = Int.tdiv i j from (Int.tdiv_eq_ediv_of_nonneg h0).symm] at e0 e1 ⊢
   simp [Op.intDiv, show j ≠ 0 by omega, wU e0 (by omega)]
  rw [this]; rfl)
theorem uLit {k k' : IntKind} {i j : Int} {v : Value} {op : BinOp} (hx : ev E x = some (.int k i)) (hy : ev E y = some (.int k' j)) (h : ∀ w, (binOp op t (.int k i) (.int k' j)).run P w = .ok v w) : Runs P E ⟨d, .binOp op t x y u, ty, pos, af, g⟩ w v w := run_bin hx hy rfl (h w)
theorem uxor {k : IntKind} {i j r : Int} (hx : ev E x = some (.int k i)) (hy : ev E y = some (.int k j)) (h : bits .xor k i j = r) : Runs P E ⟨d, .binOp .xor t x y u, ty, pos, af, g⟩ w (.int k r) w := by
 subst h; exact run_bin hx hy (binOp_xor t k i j) rfl
theorem uadd {k : IntKind} {i j r : Int} (hx : ev E x = some (.int k i)) (hy : ev E y = some (.int k j)) (h : k.wrap (i + j) = r) : Runs P E ⟨d, .binOp .add t x y u, ty, pos, af, g⟩ w (.int k r) w := by
 subst h; exact badW hx hy
end
theorem sjn2 {P : Program} {E : List (Nat × Value)} {w : World} {d : Option Nat} {ty : TypeId} {pos : String} {af : Array Edge} {g : Option (Nat × Bool)} {x y : Operand} {t u : TypeId} {a b : ByteArray} (hx : ev E x = some (.string a)) (hy : ev E y = some (.string b)) (h : a.size + b.size ≤ 9223372036854775807) :
  Runs P E ⟨d, .binOp .add t x y u, ty, pos, af, g⟩ w (.string (a ++ b)) w := λ n act ha => by
 simp only [execOp, ha.ev hx, ha.ev hy, eqGuard, binOp_string_add, Sem.run_bind, Sem.run_pure, Result.andThen_ok]
 have hs : (Op.stringOp .add a b).run P w = .ok (.string (a ++ b)) w := by first | exact run_string_add_sum _ _ h | exact run_string_add_sum P w a b h | exact run_string_add_sum (P := P) (w := w) a b h
 simp [hs]
theorem bytes1_any (x : Int) (A : Option Addr) (c : Nat) (w : World) (hx : repI.SHas 8 w A c [x]) (h0 : 0 ≤ x) (h1 : x < 256) :
  Calls Try.prog 79 #[.slice A 1 c] w (λ e w' => e = .returned (.string (bytesS [UInt8.ofNat x.toNat])) ∧ Ext w w') := by
 refine calls_W (n := 24) Try.func79 rfl rfl rfl ?_
 refine sg <| va rfl <| nK <| sg <| vm rfl <| vL (ln Try.underlying22 rfl) <| mO (R := repY) (by_ := 1) (B := w.heap.size) (c := 1) (zv := (.int .u8 0)) (q := 0) Rep.flat_plain Try.underlying101 info_u8 rfl rfl (λ j u h => raw0Y j u h) (λ _ => ⟨rfl, trivial⟩) rfl rfl rfl (by omega) (by omega) (by omega) λ w_1 b_2 x_3 l_4 O_5 => ?_
 have := x_3.size
 have z_1 := Ext.tr (Ext.rf w) x_3
 have u_7 := λ q hq => (O_5.lt q hq).2
 refine va rfl <| nK <| sq <| sg <| vm rfl <| vL (ln Try.underlying22 rfl) <| vm rfl <| nK <| bk <| lu 2 <| lr <| sg <| vL (blt rfl rfl) <| nK <| sq <| cT rfl <| sK <| sq <| ?_
 refine bk <| sg <| vm rfl <| vL (iA 0 Try.underlying22 eF22 rfl rfl ((hx.keep z_1).adr (Nat.zero_lt_of_lt (show 0 < _ from (by simp)))) rfl (by simp)) <| vL (ld rfl (Rep.SHas.one' hcI ((hx.keep z_1).adh (Nat.zero_lt_of_lt (show 0 < _ from (by simp)))) rfl rfl eF7)) <| va rfl <| va rfl <| nK <| rg <| vm rfl <| vm rfl <| vm rfl <| vL (cvn (r := ((UInt8.ofNat (x).toNat).toNat : Int)) (λ _ => by kernel_rfl) (wY (by omega) (by omega)) rfl) <| vL (iA 0 Try.underlying101 eF36 rfl rfl (O_5.has.adr (Nat.zero_lt_of_lt (show 0 < _ from (by simp)))) rfl (by simp)) <| so (q' := (UInt8.ofNat (x).toNat)) (j := 0) (i := 0) O_5 Rep.flat_bare (get_d (l := List.replicate 1 0) (u := 0) (by simp)) rfl rfl rfl rfl (λ _ cs h => by have ok_ := (show _ ∧ _ from h).2; obtain rfl := hcY h; exact ⟨rfl, trivial⟩) rfl rfl eF36 λ w_9 m_10 O_11 => ?_
 have := m_10.size
 have z_9 := Ext.mod z_1 m_10 (λ q hq => (O_5.lt q hq).1)
 have := m_10.size
 refine nl <| nB <| nT <| rg <| vL (badL (r := 1) rfl rfl (by decide) (by decide)) <| vm rfl <| nl <| nR <| lr <| sg <| vL (blt rfl rfl) <| nK <| sq <| cF rfl <| xt <| xT <| xK <| xB <| nT <| sg <| vm rfl <| ?_
 refine vL (cvB Try.underlying101 Try.underlying5 Try.underlying9 O_11.has rfl) <| va rfl <| nK <| rt <| tR (.tmp rfl .nil) <| ?_
 exact ⟨rfl, z_9⟩
theorem packed_small (n : Nat) (w : World) (h0 : n < 128) :
  Calls Try.prog 56 #[.int .u64 (n : Int)] w (λ e w' => e = .returned (.string (bytesS [UInt8.ofNat n])) ∧ Ext w w') := by
 refine calls_W (n := 19) Try.func56 rfl rfl rfl ?_
 refine sg <| va rfl <| nK <| sq <| sg <| vm rfl <| vL (blt rfl rfl) <| nK <| ?_
 have h_1 : (decide ((n : Int) < 128)) = true := by exact decide_eq_true (by omega)
 refine cT (by rw [← h_1]; rfl) <| sg <| vm rfl <| vL (cvn (r := (n : Int)) (λ _ => by kernel_rfl) (inI (by omega)) rfl) <| bs (e := 3) (cs := [.int .i64 (n : Int)]) rfl (λ _ => by kernel_rfl) rfl λ w_2 b_3 x_4 l_5 B_6 => ?_
 have := x_4.size
 have z_2 := Ext.tr (Ext.rf w) x_4
 have q_8 := B_6.lt
 refine ca eF37 rfl rfl ((bytes1_any (n : Int) _ _ _ (Blk.hasN (R := repI) (by_ := 8) (k := [(n : Int)]) B_6 [[.int .i64 (n : Int)]] rfl (⟨⟨rfl, okI_iff.2 (by omega)⟩, trivial⟩) (by simp) (by simp)) (by omega) (by omega)).mono ?_)
 rintro e w_9 ⟨rfl, x_10⟩
 refine ⟨_, rfl, ?_⟩
 have := x_10.size
 have z_9 := Ext.tr z_2 x_10
 refine va rfl <| nK <| rt <| tT <| tR (.tmp rfl .nil) <| ?_
 exact ⟨rfl, z_9⟩
theorem packed_big (n : Nat) (R : List UInt8) (w : World) (h0 : 128 ≤ n) (h1 : n < 18446744073709551616) (hR : R.length ≤ 100) (ih : ∀ w, Calls Try.prog 56 #[.int .u64 ((n / 128 : Nat) : Int)] w (λ e w' => e = .returned (.string (bytesS R)) ∧ Ext w w')) :
  Calls Try.prog 56 #[.int .u64 (n : Int)] w (λ e w' => e = .returned (.string (bytesS (UInt8.ofNat (n % 128 + 128) :: R))) ∧ Ext w w') := by
 have ih2 : ∀ w, Calls Try.prog 56 #[.int .u64 ((n : Int) / 128)] w (λ e w' => e = .returned (.string (bytesS R)) ∧ Ext w w') := λ w => by have h_ := ih w; rw [Int.natCast_ediv] at h_; exact h_
 refine calls_W (n := 19) Try.func56 rfl rfl rfl ?_
 refine sg <| va rfl <| nK <| sq <| sg <| vm rfl <| vL (blt rfl rfl) <| nK <| ?_
 have h_1 : (decide ((n : Int) < 128)) = false := by exact decide_eq_false (by omega)
 refine cF (by rw [← h_1]; rfl) <| sK <| sg <| vm rfl <| vL (bre rfl rfl (by omega) (by omega)) <| vL (cvn (r := ((n : Int) % 128)) (λ _ => by kernel_rfl) (inI (by omega)) rfl) <| vL (bad rfl rfl (inI (by omega))) <| bs (e := 3) (cs := [.int .i64 (128 + ((n : Int) % 128))]) rfl (λ _ => by kernel_rfl) rfl λ w_2 b_3 x_4 l_5 B_6 => ?_
 have := x_4.size
 have z_2 := Ext.tr (Ext.rf w) x_4
 have q_8 := B_6.lt
 refine ca eF37 rfl rfl ((bytes1_any (128 + ((n : Int) % 128)) _ _ _ (Blk.hasN (R := repI) (by_ := 8) (k := [128 + ((n : Int) % 128)]) B_6 [[.int .i64 (128 + ((n : Int) % 128))]] rfl (⟨⟨rfl, okI_iff.2 (by omega)⟩, trivial⟩) (by simp) (by simp)) (by omega) (by omega)).mono ?_)
 rintro e w_9 ⟨rfl, x_10⟩
 refine ⟨_, rfl, ?_⟩
 have := x_10.size
 have z_9 := Ext.tr z_2 x_10
 refine vm rfl <| vL (bqU rfl rfl (by omega) (by omega) (by omega)) <| ca eF38 rfl rfl ((ih2 _).mono ?_)
 rintro e w_12 ⟨rfl, x_13⟩
 refine ⟨_, rfl, ?_⟩
 have := x_13.size
 have z_12 := Ext.tr z_9 x_13
 refine vL (sjn2 (b := bytesS R) rfl rfl (by (simp only [bytes_size, List.length_cons, List.length_nil]; omega))) <| va rfl <| nK <| rt <| tR (.tmp rfl .nil) <| ?_
 exact ⟨by rw [show bytesS [UInt8.ofNat (128 + (n : Int) % 128).toNat] ++ bytesS R = bytesS (UInt8.ofNat (n % 128 + 128) :: R) from join1 trivial]; rfl, z_12⟩
theorem packed_any : ∀ (k n : Nat), k ≤ 9 → n < 128 ^ (k + 1) → n < 18446744073709551616 → ∀ w, Calls Try.prog 56 #[.int .u64 (n : Int)] w (λ e w' => e = .returned (.string (bytesS (Pack.putF k n))) ∧ Ext w w')
 | 0, n, _, h, _, w => packed_small n w (by simpa using h)
 | k + 1, n, hk, h, h2, w => by
  unfold Pack.putF
  by_cases h0 : n < 128
  ·rw [if_pos h0]; exact packed_small n w h0
  ·rw [if_neg h0]
   have hl := (Pack.putF_len k (n / 128)).1
   exact packed_big n _ w (by omega) h2 (by omega) (packed_any k (n / 128) (by omega) (Pack.pow_lt_div h) (by omega))
theorem packed_L (n : Nat) (h : n < 18446744073709551616) (w : World) : Calls Try.prog 56 #[.int .u64 (n : Int)] w (λ e w' => e = .returned (.string (bytesS (Pack.putL n))) ∧ Ext w w') := packed_any 9 n (Nat.le_refl _) (Nat.lt_of_lt_of_le h (by decide)) h w
theorem folded_any (x : Int) (w : World) (hx : okI x) :
  Calls Try.prog 57 #[.int .i64 x] w (λ e w' => e = .returned (.int .u64 (Pack.foldN x : Int)) ∧ Ext w w') := by
 have hx2 := okI_iff.1 hx
 refine calls_W (n := 14) Try.func57 rfl rfl rfl ?_
 refine sg <| va rfl <| nK <| sq <| sg <| vm rfl <| vL (bge rfl rfl) <| nK <| ?_
 refine cle rfl (λ h_1 => ?_) (λ h_1 => ?_)
 ·refine sg <| vm rfl <| vL (cvn (r := x) (λ _ => by kernel_rfl) (wU (by omega) (by omega)) rfl) <| vL (bmu rfl rfl (wU (by omega) (by omega))) <| va rfl <| nK <| rt <| tT <| tR (.tmp rfl .nil) <| ?_
  exact ⟨by rw [show (2 * x : Int) = (Pack.foldN x : Int) by unfold Pack.foldN; split <;> omega]; rfl, (Ext.rf w)⟩
 ·refine sK <| sg <| vm rfl <| vL (bad rfl rfl (inI (by omega))) <| vL (ng rfl (inI (by omega))) <| vL (cvn (r := (-(x + 1))) (λ _ => by kernel_rfl) (wU (by omega) (by omega)) rfl) <| vL (bmu rfl rfl (wU (by omega) (by omega))) <| vL (bad rfl rfl (wU (by omega) (by omega))) <| va rfl <| nK <| rt <| tR (.tmp rfl .nil) <| ?_
  exact ⟨by rw [show ((2 * (-(x + 1))) + 1 : Int) = (Pack.foldN x : Int) by unfold Pack.foldN; split <;> omega]; rfl, (Ext.rf w)⟩
theorem packedAll_any (l : List Int) (A : Option Addr) (c : Nat) (w : World) (hl : repI.SHas 8 w A c l) :
  Calls Try.prog 31 #[.slice A l.length c] w (λ e w' => (∃ k, e = .returned (.tuple #[.string (bytesS (packN l)), .int .i64 k])) ∧ Ext w w') := by
 have hll := hl.len_le
 refine calls_W (n := 27) Try.func31 rfl rfl rfl ?_
 refine sg <| va rfl <| va rfl <| nK <| sq <| sg <| vm rfl <| vL (ln Try.underlying22 rfl) <| vL (bgt rfl rfl) <| nK <| ?_
 refine clt rfl (λ h_1 => ?_) (λ h_1 => ?_)
 ·refine sg <| va rfl <| va rfl <| nK <| rt <| tT <| tR (.tmp rfl (.tmp rfl .nil)) <| ?_
  exact ⟨⟨2, by unfold packN; rw [if_neg (by omega)]; rfl⟩, (Ext.rf w)⟩
 ·refine sK <| sg <| vm rfl <| vL (ln Try.underlying22 rfl) <| vL (cvn (r := (l.length : Int)) (λ _ => by kernel_rfl) (wU (by omega) (by omega)) rfl) <| ca eF38 rfl rfl ((packed_L (l.length) (by first | omega | exact Pack.foldN_lt x (okI_iff.1 hxo).1 (okI_iff.1 hxo).2) _).mono ?_)
  rintro e w_2 ⟨rfl, x_3⟩
  refine ⟨_, rfl, ?_⟩
  have := x_3.size
  have z_2 := Ext.tr (Ext.rf w) x_3
  refine va rfl <| nK <| sq <| sg <| vm rfl <| vL (ln Try.underlying22 rfl) <| vm rfl <| nK <| bk <| ?_
  refine lp (λ mI EI wI => ∃ k : Nat, ∃ s : ByteArray, EI = [(2, .string (bytesS [])), (3, .int .i64 0), (4, .string s), (14, .slice A l.length c), (15, .int .i64 (l.length : Int)), (16, .int .i64 (k : Int))] ∧ mI = l.length - k ∧ Ext w wI ∧ (k ≤ l.length) ∧ (s = bytesS (Pack.putL l.length ++ Pack.items (l.take k)))) _ _ ⟨0, bytesS (Pack.putL (l.length)), rfl, rfl, z_2, by omega, by rw [List.take_zero]; show _ = bytesS (Pack.putL l.length ++ []); rw [List.append_nil]⟩ (.cons rfl (.cons rfl (.cons rfl (.cons rfl (.cons rfl (.cons (loI rfl (by first | omega | rfl | (simp <;> omega))) .nil)))))) ?_
  rintro m_6 E_7 w_5 ⟨k, s, rfl, rfl, z_5, hk, hs⟩
  have := z_5.size
  refine sg <| vL (blt rfl rfl) <| nK <| sq <| ?_
  refine clt rfl (λ h_9 => ?_) (λ h_9 => ?_)
  ·obtain ⟨x, hx0⟩ : ∃ x, l.getD k 0 = x := ⟨_, rfl⟩
   have hxo : okI x := repI_ok hl x (by rw [← hx0]; exact mem_dd (by omega))
   have hpl := (Pack.putL_len (Pack.foldN x)).1
   have hst : (s.size) ≤ 10 + 10 * k := by rw [hs, bytes_size, List.length_append]; have h1_ := (Pack.putL_len l.length).1; have h2_ := Pack.items_len (l.take k); rw [List.length_take] at h2_; omega
   refine sK <| sq <| bk <| sg <| vL (iA k Try.underlying22 eF22 rfl rfl ((hl.keep z_5).adr (Nat.zero_lt_of_lt (show k < _ from (by omega)))) rfl (by omega)) <| vL (ld rfl (Rep.SHas.one' hcI ((hl.keep z_5).adh (Nat.zero_lt_of_lt (show k < _ from (by omega)))) (show l[k]? = some x by rw [← hx0]; exact get_d (u := 0) (by omega)) rfl eF7)) <| va rfl <| nK <| rg <| vm rfl <| vm rfl <| ca eF39 rfl rfl ((folded_any x _ hxo).mono ?_)
   rintro e w_10 ⟨rfl, x_11⟩
   refine ⟨_, rfl, ?_⟩
   have := x_11.size
   have z_10 := Ext.tr z_5 x_11
   refine ca eF38 rfl rfl ((packed_L (Pack.foldN x) (by first | omega | exact Pack.foldN_lt x (okI_iff.1 hxo).1 (okI_iff.1 hxo).2) _).mono ?_)
   rintro e w_13 ⟨rfl, x_14⟩
   refine ⟨_, rfl, ?_⟩
   have := x_14.size
   have z_13 := Ext.tr z_10 x_14
   refine vL (sjn2 (b := bytesS (Pack.putL (Pack.foldN x))) rfl rfl (by (rw [bytes_size]; omega))) <| va rfl <| nl <| nB <| nT <| rg <| vL (bad rfl rfl (inI (by omega))) <| vm rfl <| nl <| ?_
   exact nI _ _ ⟨k + 1, s ++ (bytesS (Pack.putL (Pack.foldN x))), rfl, rfl, z_13, by omega, by rw [hs, bytes_app, List.append_assoc, take_snoc_d (by omega) hx0, Pack.items_snoc]⟩ (by omega) (.cons rfl (.cons rfl (.cons rfl (.cons rfl (.cons rfl (.cons (loI rfl (by first | omega | rfl | (simp <;> omega))) .nil))))))
  ·refine xt <| xT <| xK <| xB <| nT <| sg <| vm rfl <| va rfl <| va rfl <| nK <| rt <| tR (.tmp rfl (.tmp rfl .nil)) <| ?_
   exact ⟨⟨0, by unfold packN; rw [if_pos (by omega), hs, show k = l.length by omega, List.take_length]; rfl⟩, z_5⟩
end
end Go.Proofs.Ytmpkaphcpaigdaa
namespace Go.Proofs.Ytmpkaphcpaigdaa.Crc
open Go.Proofs.Ytmpkaphcpaigdaa.Bv
def step (n : BitVec 32) : BitVec 32 := n >>> 1 ^^^ (3988292384#32 &&& -(n &&& 1#32))
def steps : Nat → BitVec 32 → BitVec 32
 | 0, n => n
 | k + 1, n => steps k (step n)
def take (n : BitVec 32) (b : UInt8) : BitVec 32 := steps 8 (n ^^^ b.toBitVec.setWidth 32)
def fold (n : BitVec 32) (l : List UInt8) : BitVec 32 := l.foldl take n
def more (n : BitVec 32) (l : List UInt8) : BitVec 32 := ~~~(fold (~~~n) l)
def of (l : List UInt8) : BitVec 32 := more 0#32 l

end Go.Proofs.Ytmpkaphcpaigdaa.Crc
namespace Go.Proofs.Ytmpkaphcpaigdaa
end Go.Proofs.Ytmpkaphcpaigdaa
set_option linter.unusedVariables false
set_option linter.unusedSimpArgs false
namespace Go.Proofs.Ytmpkaphcpaigdaa.Crc
open Go.RowKit Go.Proofs.Ytmpkaphcpaigdaa.Bv
def le4 (n : BitVec 32) : List UInt8 := [UInt8.ofNat n.toNat, UInt8.ofNat (n.toNat / 256), UInt8.ofNat (n.toNat / 65536), UInt8.ofNat (n.toNat / 16777216)]
def sealS (s : ByteArray) : ByteArray := s ++ ⟨(le4 (of s.data.toList)).toArray⟩
def openS (s : ByteArray) : ByteArray × Int :=
 if s.size < 4 then (⟨#[]⟩, 3) else if sealS (s.extract 0 (s.size - 4)) = s then (s.extract 0 (s.size - 4), 0) else (⟨#[]⟩, 5)

end Go.Proofs.Ytmpkaphcpaigdaa.Crc
namespace Go.Proofs.Ytmpkaphcpaigdaa
end Go.Proofs.Ytmpkaphcpaigdaa
namespace Go.Proofs.Ytmpkaphcpaigdaa.Crc
open Go.Proofs.Ytmpkaphcpaigdaa.Bv

def bit8 (j : Nat) : UInt8 := 1 <<< UInt8.ofNat j
def lowb (b : BitVec 32) : Nat → BitVec 32
 | 0 => 0#32
 | k + 1 => lowb b k ^^^ (if b.getLsbD k then 1#32 <<< k else 0#32)
end Go.Proofs.Ytmpkaphcpaigdaa.Crc
namespace Go.Proofs.Ytmpkaphcpaigdaa
end Go.Proofs.Ytmpkaphcpaigdaa
set_option linter.unusedVariables false
set_option linter.unusedSimpArgs false
namespace Go.Proofs.Ytmpkaphcpaigdaa.Crc
open Go.RowKit Go.Proofs.Ytmpkaphcpaigdaa.Bv

def cells (l : List UInt8) : List Value := l.map fun b => Value.int .u8 (b.toNat : Int)
theorem bytesRow_cells (s : ByteArray) (c : Nat) : bytesRow s c = (cells (s.data.toList ++ List.replicate (c - s.size) 0)).toArray := by
 unfold bytesRow cells
 apply Array.toList_inj.1
 simp
theorem bytes_of (w1 : World) (T : ByteArray) : ∃ C w2 L, (convert 9 101 (.string T)).run Try.prog w1 = .ok (.slice (some ⟨w1.heap.size, 0, none⟩) T.size C) w2 ∧ Below w1.heap.size w1 w2 ∧
  Blk w2 w1.heap.size (cells (T.data.toList ++ List.replicate (C - T.size) 0)) 5 (L, L + 1) ∧ T.size ≤ L := by
 refine ⟨grownCap w1 T.size 0 5, _, (bytesRow T (grownCap w1 T.size 0 5)).size, run_bytes_of_string (P := Try.prog) w1 9 101 5 T Try.underlying9 Try.underlying101 Try.underlying5, (Below.refl _ _).drew.alloc (Nat.le_refl _) _, ?_, ?_⟩
 ·rw [bytesRow_cells]
  exact Blk.new w1.drew _ _ _
 ·unfold bytesRow
  rw [Array.size_append, Array.size_map]
  exact Nat.le_add_right _ _
structure Inv (T : ByteArray) (b : BitVec 32) (p N k : Nat) (t : List UInt8) : Prop where
 len : t.length = N
 low : ∀ j, j < k → b.getLsbD j = true → p + j < 8 * N
 sum : fold (~~~0#32) t = fold (~~~0#32) T.data.toList ^^^ steps (8 * N - p) (lowb b k)
end Go.Proofs.Ytmpkaphcpaigdaa.Crc
namespace Go.Proofs.Ytmpkaphcpaigdaa
section
open Go.RowKit
def BytB (Z : Nat) (w : World) (A : Option Addr) (c : Nat) (t : List UInt8) : Prop :=
 ∃ (g : Nat) (R : List UInt8) (L : Nat), A = some ⟨g, 0, none⟩ ∧ Z ≤ g ∧ Blk w g (Crc.cells (t ++ R)) 5 (L, L + 1) ∧ t.length ≤ L ∧ t.length ≤ c ∧ c ≤ 9223372036854775807 ∧ t.length ≤ 140737488355328
section
variable {Z : Nat} {w w' : World} {A : Option Addr} {c : Nat} {t : List UInt8} {S : List Nat}
theorem BytB.lt (h : BytB Z w A c t) : ∀ q ∈ Rep.blkOf A, Z ≤ q ∧ q < w.heap.size := by
 obtain ⟨g, R, L, rfl, hz, hB, _⟩ := h
 intro q hq
 rw [List.mem_singleton.1 hq]; exact ⟨hz, hB.lt⟩
theorem BytB.mod (h : BytB Z w A c t) (m : Mod S w w') (hd : ∀ q ∈ Rep.blkOf A, q ∉ S) : BytB Z w' A c t := by
 obtain ⟨g, R, L, rfl, hz, hB, hr⟩ := h
 exact ⟨g, R, L, rfl, hz, (m.block g hB.lt (hd g (List.mem_singleton.2 rfl))).trans hB, hr⟩
theorem BytB.later (h : BytB Z w A c t) (x : Ext w w') : BytB Z w' A c t := by
 obtain ⟨g, R, L, rfl, hz, hB, hr⟩ := h
 exact ⟨g, R, L, rfl, hz, hB.later x, hr⟩
theorem all_bytes {w : World} : ∀ l : List UInt8, All2 (λ es a => repY.has w es a) (l.map λ b => [Value.int .u8 (b.toNat : Int)]) l
 | [] => trivial
 | b :: l => ⟨⟨rfl, trivial⟩, all_bytes l⟩
theorem bytes_flat : ∀ l : List UInt8, (l.map λ b => [Value.int .u8 (b.toNat : Int)]).flatten = Crc.cells l
 | [] => rfl
 | b :: l => by rw [List.map_cons, List.flatten_cons, bytes_flat l]; rfl
theorem BytB.has (h : BytB Z w A c t) : repY.SHas 1 w A c t := by
 obtain ⟨g, R, L, rfl, hz, hB, h1, h2, h3, h4⟩ := h
 refine ⟨h2, h3, by omega, (λ e => nomatch e), _, all_bytes t, ?_⟩
 rw [bytes_flat]
 refine ⟨by unfold Crc.cells; rw [List.length_map]; exact (Nat.mul_one _).symm, λ _ => ⟨g, 0, rfl, λ j u hu => ?_⟩⟩
 rw [Nat.zero_add, hB.cell j]
 unfold Crc.cells at hu ⊢
 rw [List.map_append, List.getElem?_append_left (by have := (List.getElem?_eq_some_iff.1 hu).1; exact this)]
 exact hu
end
section
variable {P : Program} {n : Nat} {E E' : List (Nat × Value)} {a : Act} {w w' w0 w1 : World} {Q : Exit → Act → World → Prop} {ops : Array Oper} {v : Value}
variable {d : Option Nat} {ty : TypeId} {pos : String} {af : Array Edge} {g : Option (Nat × Bool)} {x y z : Operand} {t u : TypeId} {rest : List Oper} {i j : Int} {k k' : IntKind}
theorem cvT {T : ByteArray} {dd : Nat} (hs : ev E x = some (.string T)) (hT : T.size ≤ 140737488351232) (hd : Nat.blt dd n = true)
  (h : ∀ w1 A C, Ext w w1 → BytB w.heap.size w1 A C T.data.toList → WL Try.prog n ops Q rest ((dd, .slice A T.size C) :: E) w1) :
  WL Try.prog n ops Q (⟨some dd, .convert 9 101 x, ty, pos, af, none⟩ :: rest) E w := by
 obtain ⟨C, w2, L, hrun, hB, hb, hL⟩ := Crc.bytes_of w T
 have hC : T.size ≤ C ∧ C ≤ 9223372036854775807 := by
  have h1 := run_bytes_of_string (P := Try.prog) w 9 101 5 T Try.underlying9 Try.underlying101 Try.underlying5
  rw [h1] at hrun
  injection hrun with e1 e2
  injection e1 with _ _ e3
  rw [← e3]
  exact ⟨grownCap_ge w T.size 0 _, grownCap_le_maxLen w T.size 0 _ (by simp only [maxLen]; omega)⟩
 refine vl (v := .slice (some ⟨w.heap.size, 0, none⟩) T.size C) (w' := w2) (λ m a ha => ?_) hd (h w2 _ _ hB ⟨w.heap.size, List.replicate (C - T.size) 0, L, rfl, Nat.le_refl _, hb, hL, hC.1, hC.2, by show T.size ≤ _; omega⟩)
 simp only [execOp, ha.ev hs, Sem.run_bind, hrun, Result.andThen_ok, Sem.run_pure]
end
end
section
open Go.RowKit
open Go.Proofs.Ytmpkaphcpaigdaa.Bv
theorem U_nonneg (a : BitVec 64) : 0 ≤ U a := Int.natCast_nonneg _
theorem U_lt (a : BitVec 64) : U a < 18446744073709551616 := by have := a.isLt; unfold U; omega
theorem times_fin {a b : BitVec 64} {e : Int} (h : e = U (a * b)) : Ending.returned (.int .u64 e) = .returned (.int .u64 (U (a * b))) := by rw [h]
theorem U_mul (a b : BitVec 64) : U (a * b) = (U a * U b) % 18446744073709551616 := by
 unfold U; rw [BitVec.toNat_mul, ← Int.natCast_mul]
 show ((a.toNat * b.toNat % 18446744073709551616 : Nat) : Int) = _
 omega
theorem times_eq {x y : Int} (h0 : 0 ≤ x) (h1 : x < 18446744073709551616) : IntKind.u64.wrap (IntKind.u64.wrap (IntKind.u64.wrap (IntKind.u64.wrap (0 + IntKind.u64.wrap (IntKind.u64.wrap (y * (x / 1 % 65536)) * 1)) + IntKind.u64.wrap (IntKind.u64.wrap (y * (x / 65536 % 65536)) * 65536)) + IntKind.u64.wrap (IntKind.u64.wrap (y * (x / 4294967296 % 65536)) * 4294967296)) + IntKind.u64.wrap (IntKind.u64.wrap (y * (x / 281474976710656 % 65536)) * 281474976710656)) = (x * y) % 18446744073709551616 := by
 simp only [IntKind.wrap_u64]
 have e : x = x / 1 % 65536 + (x / 65536 % 65536) * 65536 + (x / 4294967296 % 65536) * 4294967296 + (x / 281474976710656 % 65536) * 281474976710656 := by omega
 have e2 : x * y = y * (x / 1 % 65536) + y * (x / 65536 % 65536) * 65536 + y * (x / 4294967296 % 65536) * 4294967296 + y * (x / 281474976710656 % 65536) * 281474976710656 := by
  conv => lhs; rw [Int.mul_comm, e]
  simp only [Int.mul_add, Int.mul_assoc]
 rw [e2]
 generalize y * (x / 1 % 65536) = A
 generalize y * (x / 65536 % 65536) = B
 generalize y * (x / 4294967296 % 65536) = C
 generalize y * (x / 281474976710656 % 65536) = D
 omega
def leafK (s : List UInt8) (k : Nat) : BitVec 64 := (s.take k).foldl (λ m b => Mark.mix (m ^^^ BitVec.ofNat 64 b.toNat)) (Mark.mix (BitVec.ofNat 64 s.length))
theorem leafK_succ {s : List UInt8} {k : Nat} {b : UInt8} (h : s[k]? = some b) : leafK s (k + 1) = Mark.mix (leafK s k ^^^ BitVec.ofNat 64 b.toNat) := by
 have hk := (List.getElem?_eq_some_iff.1 h).1
 have e := (List.getElem?_eq_some_iff.1 h).2
 unfold leafK; rw [← List.take_append_getElem hk, e, List.foldl_append]; rfl
theorem leafK_all (s : List UInt8) : leafK s s.length = Tree.leafF s := by unfold leafK Tree.leafF; rw [List.take_length]
theorem len_U {s : List UInt8} (hs : s.length ≤ 20000) : IntKind.u64.wrap (((bytesS s).size : Nat) : Int) = U (BitVec.ofNat 64 s.length) := by
 rw [bytes_size, wU (by omega) (by omega)]; unfold U; rw [BitVec.toNat_ofNat]; omega
theorem byte_U (b : UInt8) : IntKind.u64.wrap (b.toNat : Int) = U (BitVec.ofNat 64 b.toNat) := by
 have := b.toNat_lt
 rw [wU (by omega) (by omega)]; unfold U; rw [BitVec.toNat_ofNat]; omega
theorem times_any (a b : BitVec 64) (w : World) :
  Calls Try.prog 30 #[.int .u64 (U a), .int .u64 (U b)] w (λ e w' => e = .returned (.int .u64 (U (a * b))) ∧ Ext w w') := by
 have ha0 := U_nonneg a
 have ha1 := U_lt a
 refine calls_W (n := 28) Try.func30 rfl rfl rfl ?_
 refine sg <| va rfl <| nK <| sg <| va rfl <| nK <| sq <| sg <| vm rfl <| nK <| bk <| lu 5 <| lr <| sg <| vL (blt rfl rfl) <| nK <| ?_
 refine sq <| cT rfl <| sK <| sq <| bk <| sg <| vm rfl <| va rfl <| nK <| sg <| vm rfl <| vm rfl <| vL (bmuL (r := 0) rfl rfl (by decide) (by decide)) <| vL (v := .int .u64 1) (uLit rfl rfl (λ _ => by kernel_rfl)) <| vL (bqU rfl rfl (by omega) (by omega) (by omega)) <| vL (bre rfl rfl (by omega) (by omega)) <| va rfl <| nK <| rg <| ?_
 refine vm rfl <| vm rfl <| vm rfl <| vL (bmuW rfl rfl) <| vm rfl <| vL (bmuL (r := 0) rfl rfl (by decide) (by decide)) <| vL (v := .int .u64 1) (uLit rfl rfl (λ _ => by kernel_rfl)) <| vL (bmuW rfl rfl) <| vL (badW rfl rfl) <| va rfl <| nl <| nB <| nT <| rg <| vL (badL (r := 1) rfl rfl (by decide) (by decide)) <| vm rfl <| nl <| nR <| lr <| sg <| vL (blt rfl rfl) <| nK <| ?_
 refine sq <| cT rfl <| sK <| sq <| bk <| sg <| vm rfl <| va rfl <| nK <| sg <| vm rfl <| vm rfl <| vL (bmuL (r := 16) rfl rfl (by decide) (by decide)) <| vL (v := .int .u64 65536) (uLit rfl rfl (λ _ => by kernel_rfl)) <| vL (bqU rfl rfl (by omega) (by omega) (by omega)) <| vL (bre rfl rfl (by omega) (by omega)) <| va rfl <| nK <| rg <| ?_
 refine vm rfl <| vm rfl <| vm rfl <| vL (bmuW rfl rfl) <| vm rfl <| vL (bmuL (r := 16) rfl rfl (by decide) (by decide)) <| vL (v := .int .u64 65536) (uLit rfl rfl (λ _ => by kernel_rfl)) <| vL (bmuW rfl rfl) <| vL (badW rfl rfl) <| va rfl <| nl <| nB <| nT <| rg <| vL (badL (r := 2) rfl rfl (by decide) (by decide)) <| vm rfl <| nl <| nR <| lr <| sg <| vL (blt rfl rfl) <| nK <| ?_
 refine sq <| cT rfl <| sK <| sq <| bk <| sg <| vm rfl <| va rfl <| nK <| sg <| vm rfl <| vm rfl <| vL (bmuL (r := 32) rfl rfl (by decide) (by decide)) <| vL (v := .int .u64 4294967296) (uLit rfl rfl (λ _ => by kernel_rfl)) <| vL (bqU rfl rfl (by omega) (by omega) (by omega)) <| vL (bre rfl rfl (by omega) (by omega)) <| va rfl <| nK <| rg <| ?_
 refine vm rfl <| vm rfl <| vm rfl <| vL (bmuW rfl rfl) <| vm rfl <| vL (bmuL (r := 32) rfl rfl (by decide) (by decide)) <| vL (v := .int .u64 4294967296) (uLit rfl rfl (λ _ => by kernel_rfl)) <| vL (bmuW rfl rfl) <| vL (badW rfl rfl) <| va rfl <| nl <| nB <| nT <| rg <| vL (badL (r := 3) rfl rfl (by decide) (by decide)) <| vm rfl <| nl <| nR <| lr <| sg <| vL (blt rfl rfl) <| nK <| ?_
 refine sq <| cT rfl <| sK <| sq <| bk <| sg <| vm rfl <| va rfl <| nK <| sg <| vm rfl <| vm rfl <| vL (bmuL (r := 48) rfl rfl (by decide) (by decide)) <| vL (v := .int .u64 281474976710656) (uLit rfl rfl (λ _ => by kernel_rfl)) <| vL (bqU rfl rfl (by omega) (by omega) (by omega)) <| vL (bre rfl rfl (by omega) (by omega)) <| va rfl <| nK <| rg <| ?_
 refine vm rfl <| vm rfl <| vm rfl <| vL (bmuW rfl rfl) <| vm rfl <| vL (bmuL (r := 48) rfl rfl (by decide) (by decide)) <| vL (v := .int .u64 281474976710656) (uLit rfl rfl (λ _ => by kernel_rfl)) <| vL (bmuW rfl rfl) <| vL (badW rfl rfl) <| va rfl <| nl <| nB <| nT <| rg <| vL (badL (r := 4) rfl rfl (by decide) (by decide)) <| vm rfl <| nl <| nR <| lr <| sg <| vL (blt rfl rfl) <| nK <| ?_
 refine sq <| cF rfl <| xt <| xT <| xK <| xB <| nT <| sg <| vm rfl <| va rfl <| nK <| rt <| tR (.tmp rfl .nil) <| ?_
 exact ⟨times_fin (by rw [times_eq ha0 ha1, U_mul]), (Ext.rf w)⟩
theorem mixed_any (m : BitVec 64) (w : World) :
  Calls Try.prog 12 #[.int .u64 (U m)] w (λ e w' => e = .returned (.int .u64 (U (Mark.mix m))) ∧ Ext w w') := by
 refine calls_W (n := 21) Try.func12 rfl rfl rfl ?_
 refine sg <| va rfl <| nK <| sg <| vm rfl <| vL (uadd rfl rfl (Mark.add_num m)) <| va rfl <| nK <| sg <| vm rfl <| vm rfl <| ?_
 have hn_ := U_nonneg (m + Mark.gold)
 have hl_ := U_lt (m + Mark.gold)
 refine vL (bqU rfl rfl hn_ (by decide) hl_) <| vL (uxor rfl rfl (Mark.xs30 (m + Mark.gold))) <| va rfl <| nK <| sg <| vm rfl <| ca eF40 rfl rfl (((show Calls _ _ #[_, .int .u64 13787848793156543929] _ _ from (by rw [show (13787848793156543929 : Int) = U Mark.c1 by decide +kernel]; exact times_any (Mark.xs 30 (m + Mark.gold)) Mark.c1 _))).mono ?_)
 rintro e w_1 ⟨rfl, x_2⟩
 refine ⟨_, rfl, ?_⟩
 have := x_2.size
 have z_1 := Ext.tr (Ext.rf w) x_2
 refine va rfl <| nK <| sg <| vm rfl <| vm rfl <| ?_
 have hn_ := U_nonneg ((Mark.xs 30 (m + Mark.gold)) * Mark.c1)
 have hl_ := U_lt ((Mark.xs 30 (m + Mark.gold)) * Mark.c1)
 refine vL (bqU rfl rfl hn_ (by decide) hl_) <| vL (uxor rfl rfl (Mark.xs27 ((Mark.xs 30 (m + Mark.gold)) * Mark.c1))) <| va rfl <| nK <| sg <| vm rfl <| ca eF40 rfl rfl (((show Calls _ _ #[_, .int .u64 10723151780598845931] _ _ from (by rw [show (10723151780598845931 : Int) = U Mark.c2 by decide +kernel]; exact times_any (Mark.xs 27 ((Mark.xs 30 (m + Mark.gold)) * Mark.c1)) Mark.c2 _))).mono ?_)
 rintro e w_4 ⟨rfl, x_5⟩
 refine ⟨_, rfl, ?_⟩
 have := x_5.size
 have z_4 := Ext.tr z_1 x_5
 refine va rfl <| nK <| sg <| vm rfl <| vm rfl <| ?_
 have hn_ := U_nonneg ((Mark.xs 27 ((Mark.xs 30 (m + Mark.gold)) * Mark.c1)) * Mark.c2)
 have hl_ := U_lt ((Mark.xs 27 ((Mark.xs 30 (m + Mark.gold)) * Mark.c1)) * Mark.c2)
 refine vL (bqU rfl rfl hn_ (by decide) hl_) <| vL (uxor rfl rfl (Mark.xs31 ((Mark.xs 27 ((Mark.xs 30 (m + Mark.gold)) * Mark.c1)) * Mark.c2))) <| va rfl <| nK <| rt <| tR (.tmp rfl .nil) <| ?_
 exact ⟨rfl, z_4⟩
theorem leafOf_any (s : List UInt8) (w : World) (hs : s.length ≤ 20000) :
  Calls Try.prog 32 #[.string (bytesS s)] w (λ e w' => e = .returned (.int .u64 (U (Tree.leafF s))) ∧ Ext w w') := by
 have hbs := bytes_size s
 refine calls_W (n := 24) Try.func32 rfl rfl rfl ?_
 refine sg <| va rfl <| nK <| sg <| vm rfl <| vL (lnS Try.underlying9 rfl (by rw [bytes_size]; omega)) <| vL (cvn (r := U (BitVec.ofNat 64 s.length)) (λ _ => by kernel_rfl) (len_U hs) rfl) <| ca eF41 rfl rfl ((mixed_any (BitVec.ofNat 64 s.length) _).mono ?_)
 rintro e w_1 ⟨rfl, x_2⟩
 refine ⟨_, rfl, ?_⟩
 have := x_2.size
 have z_1 := Ext.tr (Ext.rf w) x_2
 refine va rfl <| nK <| sq <| sg <| vm rfl <| cvT rfl (by rw [bytes_size]; omega) rfl λ w_4 A_5 C_6 x_7 OB_8 => ?_
 have := x_7.size
 have z_4 := Ext.tr z_1 x_7
 have OB_8 : BytB w_1.heap.size w_4 A_5 C_6 s := OB_8
 have u_10 := λ q hq => (OB_8.lt q hq).2
 have lo_11 := λ q hq => (OB_8.lt q hq).1
 refine vL (ln Try.underlying101 rfl) <| vm rfl <| nK <| bk <| ?_
 refine lp (λ mI EI wI => ∃ k : Nat, ∃ m : BitVec 64, EI = [(2, .int .u64 0), (3, .int .u64 (U m)), (11, .slice A_5 ((bytesS s).size) C_6), (12, .int .i64 ((((bytesS s).size : Nat) : Int))), (13, .int .i64 (k : Int))] ∧ mI = (bytesS s).size - k ∧ Ext w wI ∧ BytB w_1.heap.size wI A_5 C_6 (s) ∧ (k ≤ (bytesS s).size) ∧ (m = leafK s k)) _ _ ⟨0, Mark.mix (BitVec.ofNat 64 s.length), rfl, rfl, z_4, OB_8, by omega, rfl⟩ (.cons rfl (.cons rfl (.cons rfl (.cons rfl (.cons (loI rfl (by first | omega | rfl | (simp <;> omega))) .nil))))) ?_
 rintro m_13 E_14 w_12 ⟨k, m, rfl, rfl, z_12, OB_8, hk, hm⟩
 have := z_12.size
 have u_16 := λ q hq => (OB_8.lt q hq).2
 refine sg <| vL (blt rfl rfl) <| nK <| sq <| ?_
 refine clt rfl (λ h_17 => ?_) (λ h_17 => ?_)
 ·have hks : k < s.length := by rw [← bytes_size]; omega
  obtain ⟨b, hb⟩ : ∃ b, s[k]? = some b := ⟨_, List.getElem?_eq_getElem hks⟩
  refine sK <| sq <| bk <| sg <| vL (iA k Try.underlying101 eF36 rfl rfl (OB_8.has.adr (Nat.zero_lt_of_lt (show k < _ from (by first | exact hks | (rw [bytes_size]; exact hks))))) rfl (by first | exact hks | (rw [bytes_size]; exact hks))) <| vL (ld rfl (Rep.SHas.one' hcY (OB_8.has.adh (Nat.zero_lt_of_lt (show k < _ from (by first | exact hks | (rw [bytes_size]; exact hks))))) hb rfl eF42)) <| va rfl <| nK <| rg <| vm rfl <| vm rfl <| vL (cvn (r := U (BitVec.ofNat 64 b.toNat)) (λ _ => by kernel_rfl) (byte_U b) rfl) <| vL (uxor rfl rfl (Tree.xor_num m (BitVec.ofNat 64 b.toNat))) <| ca eF41 rfl rfl ((mixed_any (m ^^^ (BitVec.ofNat 64 b.toNat)) _).mono ?_)
  rintro e w_18 ⟨rfl, x_19⟩
  refine ⟨_, rfl, ?_⟩
  have := x_19.size
  have z_18 := Ext.tr z_12 x_19
  refine va rfl <| nl <| nB <| nT <| rg <| vL (bad rfl rfl (inI (by omega))) <| vm rfl <| nl <| ?_
  have OB_8 := OB_8.later x_19
  exact nI _ _ ⟨k + 1, (Mark.mix (m ^^^ (BitVec.ofNat 64 b.toNat))), rfl, rfl, z_18, OB_8, by omega, by rw [leafK_succ hb, ← hm]⟩ (by omega) (.cons rfl (.cons rfl (.cons rfl (.cons rfl (.cons (loI rfl (by first | omega | rfl | (simp <;> omega))) .nil)))))
 ·refine xt <| xT <| xK <| xB <| nT <| sg <| vm rfl <| va rfl <| nK <| rt <| tR (.tmp rfl .nil) <| ?_
  exact ⟨by rw [hm, show k = s.length by rw [bytes_size] at *; omega, leafK_all]; rfl, z_12⟩
theorem leafN_any (l : List Int) (A : Option Addr) (c : Nat) (w : World) (hl : repI.SHas 8 w A c l) :
  Calls Try.prog 13 #[.slice A l.length c] w (λ e w' => e = .returned (.int .u64 (U (leafN l))) ∧ Ext w w') := by
 refine calls_W (n := 12) Try.func13 rfl rfl rfl ?_
 refine sg <| va rfl <| nK <| sg <| vm rfl <| ca eF43 rfl rfl ((packedAll_any l _ _ _ (hl.keep (Ext.rf w))).mono ?_)
 rintro e w_2 ⟨⟨k_1, rfl⟩, x_3⟩
 refine ⟨_, rfl, ?_⟩
 have := x_3.size
 have z_2 := Ext.tr (Ext.rf w) x_3
 refine vm rfl <| vL (ex rfl rfl) <| vL (ex rfl rfl) <| va rfl <| va rfl <| nK <| sg <| vm rfl <| ca eF44 rfl rfl ((leafOf_any (packN l) _ (packN_len _)).mono ?_)
 rintro e w_5 ⟨rfl, x_6⟩
 refine ⟨_, rfl, ?_⟩
 have := x_6.size
 have z_5 := Ext.tr z_2 x_6
 refine va rfl <| nK <| rt <| tR (.tmp rfl .nil) <| ?_
 exact ⟨rfl, z_5⟩
end
section
open Go.RowKit
theorem Fnd_el_S_api_Troop : ElT Try.prog Trp.rep 26 37 56 := ElT.mk_ (z := Trp.zero) (k := 7) Try.underlying26 Trp.info rfl rfl (by decide) Trp.zero_raw
theorem sA_some {A : Option Addr} {c lo s : Nat} (hA : ∃ b, A = some ⟨b, 0, none⟩) : ∃ a, sA A c lo s = some a := by
 obtain ⟨b, rfl⟩ := hA
 unfold sA
 split
 ·exact ⟨_, rfl⟩
 ·exact ⟨_, rfl⟩
theorem delAt_T (w0 : World) (A : Option Addr) (c i j : Nat) (l : List Trp) (w : World) (hx0 : Ext w0 w) (hO : Trp.rep.SOwn 37 56 w w0.heap.size (Rep.blkOf A) A c l) (hij : i < j) (hj : j ≤ l.length) :
  Calls Try.prog 10 #[.slice A l.length c, .int .i64 (i : Int), .int .i64 (j : Int)] w (λ e w' => e = .returned (.slice A (l.take i ++ l.drop j).length c) ∧ Trp.rep.SOwn 37 56 w' w0.heap.size (Rep.blkOf A) A c (l.take i ++ l.drop j) ∧ Mod (Rep.blkOf A) w w') := by
 have hl0 := hO.has
 have hll := hl0.len_le
 have hlc := hl0.1
 have hlb := hO.1
 have uA := λ q hq => (hO.lt q hq).2
 have lA : ∀ q ∈ Rep.blkOf A, w0.heap.size ≤ q := λ q hq => (hO.lt q hq).1
 have hx0s := hx0.size
 have hA := hO.block (by omega)
 have ht1 : (l.take i).length = i := by rw [List.length_take]; omega
 have ht2 : ((l.drop j).take (l.length - j)).length = l.length - j := by rw [List.length_take, List.length_drop]; omega
 refine calls_W (n := 33) Try.func10 rfl rfl rfl ?_
 refine sg <| va rfl <| nK <| sg <| vm rfl <| vm rfl <| vm rfl <| vm rfl <| vL (ln Try.underlying26 rfl) <| vL (s3 i j l.length Try.underlying26 eF26 rfl rfl rfl rfl rfl rfl rfl (by omega) (by omega) (by omega)) <| nK <| sq <| sg <| vm rfl <| vm rfl <| vL (beq rfl rfl) <| nK <| ?_
 have h_1 : ((i : Int) == (j : Int)) = false := by simp only [beq_eq_false_iff_ne]; omega
 refine cF (by rw [← h_1]; rfl) <| sK <| sg <| vm rfl <| vL (ln Try.underlying26 rfl) <| va rfl <| nK <| sq <| ?_
 refine rd [(6, 3)] [0, 1, 2, 3, 4, 5, 6, 7] (by kernel_rfl) (by kernel_rfl) ?_
 refine fw1 rfl (λ _ => mv rfl) <| fw1 rfl (λ _ => mv rfl) <| fw1 rfl (λ _ => sP i (l.take i).length Try.underlying26 eF26 rfl rfl rfl (by omega) ht1) <| fw1 rfl (λ _ => mv rfl) <| fw1 rfl (λ _ => mv rfl) <| fw1 rfl (λ _ => sT j Try.underlying26 eF26 rfl rfl rfl (by omega)) <| fb rfl rfl rfl λ w_2 x_3 Q hK => apf Fnd_el_S_api_Troop Rep.flat_bare (Rep.SOwn.cut (hO.later x_3) Rep.flat_bare i (by omega)) hA ((hO.later x_3).has.sub j l.length (by omega) (by omega)) (sA_some hA) rfl (by rw [ht2]; rfl) (by omega) (by omega) (Nat.le_trans hx0s (by have := x_3.size; omega)) rfl λ w_4 m_5 O_6 => hK _ _ ?_
 have := x_3.size
 have z_2 := (Mod.rf (Rep.blkOf A) w).trans (Mod.of_ext x_3)
 have := m_5.size
 have z_4 := z_2.md m_5 (λ q hq => .inl hq)
 refine fw1 rfl (λ _ => as_ rfl) <| fn λ w_9 x_10 => ?_
 have := x_10.size
 have z_9 := z_4.trans (Mod.of_ext x_10)
 refine nT <| sg <| vm rfl <| vm rfl <| vL (ln Try.underlying26 rfl) <| vm rfl <| vL (sI ((l.take i).length + ((l.drop j).take (l.length - j)).length) l.length Try.underlying26 eF26 rfl rfl rfl rfl rfl (by omega) (by omega)) <| ?_
 have O_6 := O_6.later x_10
 refine cl (k := (l.take i).length + ((l.drop j).take (l.length - j)).length) (q := l.length - ((l.take i).length + ((l.drop j).take (l.length - j)).length)) (z := Trp.zero) (m := 7) Try.underlying26 Trp.info rfl (by decide) rfl (by decide) Trp.zero_raw O_6 Rep.flat_bare (by rw [List.length_append]; omega) (by omega) (by omega) hA rfl λ w_12 m_13 O_14 => ?_
 have := m_13.size
 have z_12 := z_9.md m_13 (λ q hq => .inl hq)
 refine nK <| sg <| vm rfl <| va rfl <| nK <| rt <| tR (.tmp rfl .nil) <| ?_
 have hF := O_14
 rw [List.take_of_length_le (by rw [List.length_append]; exact Nat.le_refl _), List.take_of_length_le (l := l.drop j) (by rw [List.length_drop]; exact Nat.le_refl _)] at hF
 exact ⟨by rw [List.length_append, List.take_of_length_le (l := l.drop j) (by rw [List.length_drop]; exact Nat.le_refl _)]; rfl, hF, z_12⟩
end
section
open Go.RowKit
theorem find1 (t : Trp) (id : Int) (g : Nat) (w : World) (hg : w.cell? ⟨g, 0, none⟩ = some (.int .i64 id)) :
  Calls Try.prog 52 #[.agg #[.int .i64 t.id, .int .i64 t.owner, .int .i64 t.kind, .int .i64 t.spot.x, .int .i64 t.spot.y, .int .i64 t.life, .int .i64 t.load], .pointer (some ⟨g, 0, none⟩)] w λ e w' => e = .returned (.bool (isId id t)) ∧ Below w.heap.size w w' := by
 have hb := below_alloc0 w (.cells #[.int .i64 t.id, .int .i64 t.owner, .int .i64 t.kind, .int .i64 t.spot.x, .int .i64 t.spot.y, .int .i64 t.life, .int .i64 t.load] 37)
 have hlt := World.block_lt_of_cell? w _ hg
 simp only at hlt
 go_enter Try.func52, Try.ntmps52
 go_wp2_with fail
 go_ret
 exact ⟨rfl, hb⟩
theorem on1 (t : Trp) (p : Cel) (g : Nat) (w : World) (hg : w.cell? ⟨g, 0, none⟩ = some (.int .i64 p.x) ∧ w.cell? ⟨g, 1, none⟩ = some (.int .i64 p.y)) :
  Calls Try.prog 53 #[.agg #[.int .i64 t.id, .int .i64 t.owner, .int .i64 t.kind, .int .i64 t.spot.x, .int .i64 t.spot.y, .int .i64 t.life, .int .i64 t.load], .pointer (some ⟨g, 0, none⟩)] w λ e w' => e = .returned (.bool (isAt p t)) ∧ Below w.heap.size w w' := by
 have hb := below_alloc0 w (.cells #[.int .i64 t.id, .int .i64 t.owner, .int .i64 t.kind, .int .i64 t.spot.x, .int .i64 t.spot.y, .int .i64 t.life, .int .i64 t.load] 37)
 obtain ⟨hg, hg2⟩ := hg
 have hlt := World.block_lt_of_cell? w _ hg
 simp only at hlt
 by_cases h : t.spot = p
 ·have hr : isAt p t = true := by unfold isAt; simp [h]
  rw [hr]
  subst h
  clear hr
  go_enter Try.func53, Try.ntmps53
  go_wp2_with fail
  go_ret
  exact ⟨rfl, hb⟩
 ·have hr : isAt p t = false := by unfold isAt; simp [h]
  have hne : (t.spot.x == p.x) = false ∨ ((t.spot.x == p.x) = true ∧ (t.spot.y == p.y) = false) := by
   obtain ⟨_, _, _, ⟨a, b⟩, _, _⟩ := t
   obtain ⟨c, d⟩ := p
   simp at h ⊢
   omega
  rw [hr]
  clear hr h
  rcases hne with h1 | ⟨h1, h2⟩
  all_goals
   go_enter Try.func53, Try.ntmps53
   go_wp2_with fail
   go_ret
   exact ⟨ret_bool (by simp_all), hb⟩
theorem idx_id (id : Int) (g : Nat) (A : Option Addr) (c : Nat) (l : List Trp) (w : World) (hl : Trp.rep.SHas 56 w A c l) (hg : w.cell? ⟨g, 0, none⟩ = some (.int .i64 id)) :
  Calls Try.prog 78 #[.slice A l.length c, .func (.func 52) #[] #[.pointer (some ⟨g, 0, none⟩)]] w λ e w' => e = .returned (.int .i64 (idxI (isId id) l)) ∧ Below w.heap.size w w' := by
 obtain ⟨n, hn⟩ : ∃ n, l.length = n := ⟨_, rfl⟩
 have hle : n ≤ 9223372036854775807 := by have := hl.1; have := hl.2.1; omega
 rw [hn]
 have HL := Lib.hid hl
 have HN := Lib.hid hn
 clear hl hn
 go_enter Try.func78, Try.ntmps78
 go_wp2_with fail
 go_loopw [5, 8] (λ _ iv wr => ∃ k : Nat, k ≤ n ∧ iv = .int .i64 (k : Int) ∧ Hid (∀ j (hj : j < k) (hj2 : j < l.length), (isId id) l[j] = false) ∧ Below w.heap.size w wr) (λ _ iv _ => n - (intOf iv).toNat)
 case atStart => exact ⟨0, Nat.zero_le _, rfl, (λ j hj => by omega), Below.refl _ _⟩
 case round =>
  obtain ⟨k, hk, rfl, HK, hb⟩ := hrel
  by_cases hlt : k < n
  ·have hkl : k < l.length := by rw [HN.out]; exact hlt
   obtain ⟨b, o, rfl, hcell⟩ := Trp.at_ (HL.out.keep hb) (by omega)
   obtain ⟨x, hxe⟩ : ∃ x, l[k]'hkl = x := ⟨_, rfl⟩
   obtain ⟨q0, q1, q2, q3, q4, q5, q6⟩ := hcell k x (by rw [List.getElem?_eq_getElem hkl, hxe])
   have HXE := Lib.hid hxe
   have hg' : wr.cell? ⟨g, 0, none⟩ = some (.int .i64 id) := cell_later hb hg
   have hc := find1 x id g wr hg'
   clear hcell hxe
   cases hbad : (isId id) x with
   | true =>
    have hres : idxI (isId id) l = (k : Int) := idxI_some hkl (by rw [HXE.out]; exact hbad) λ j hj => HK.out j hj (by omega)
    rw [hbad] at hc
    have HRES := Lib.hid hres
    clear hres hbad
    go_wp2_with (go_at_call 52; refine hc.mono ?_; rintro e w' ⟨rfl, hb2⟩)
    go_ret
    exact ⟨by rw [HRES.out]; rfl, hb.trans (hb2.mono hb.size)⟩
   | false =>
    rw [hbad] at hc
    have HK2 : Hid (∀ j (hj : j < k + 1) (hj2 : j < l.length), (isId id) l[j] = false) := by
     intro j hj hj2
     by_cases h : j < k
     ·exact HK.out j h hj2
     ·obtain rfl : j = k := by omega
      rw [HXE.out]; exact hbad
    clear hbad
    go_wp2_with (go_at_call 52; refine hc.mono ?_; rintro e w' ⟨rfl, hb2⟩)
    go_roundw
    case rel => exact ⟨k + 1, by omega, by go_num, HK2, hb.trans (hb2.mono hb.size)⟩
    case measure => simp [intOf]; omega
  ·have hres : idxI (isId id) l = -1 := idxI_none λ j hj => HK.out j (by have := HN.out; omega) hj
   have HRES := Lib.hid hres
   clear hres
   go_wp2_with fail
   go_ret
   exact ⟨by rw [HRES.out]; rfl, hb⟩
theorem idx_at (p : Cel) (g : Nat) (A : Option Addr) (c : Nat) (l : List Trp) (w : World) (hl : Trp.rep.SHas 56 w A c l) (hg : w.cell? ⟨g, 0, none⟩ = some (.int .i64 p.x) ∧ w.cell? ⟨g, 1, none⟩ = some (.int .i64 p.y)) :
  Calls Try.prog 78 #[.slice A l.length c, .func (.func 53) #[] #[.pointer (some ⟨g, 0, none⟩)]] w λ e w' => e = .returned (.int .i64 (idxI (isAt p) l)) ∧ Below w.heap.size w w' := by
 obtain ⟨n, hn⟩ : ∃ n, l.length = n := ⟨_, rfl⟩
 have hle : n ≤ 9223372036854775807 := by have := hl.1; have := hl.2.1; omega
 rw [hn]
 have HL := Lib.hid hl
 have HN := Lib.hid hn
 clear hl hn
 go_enter Try.func78, Try.ntmps78
 go_wp2_with fail
 go_loopw [5, 8] (λ _ iv wr => ∃ k : Nat, k ≤ n ∧ iv = .int .i64 (k : Int) ∧ Hid (∀ j (hj : j < k) (hj2 : j < l.length), (isAt p) l[j] = false) ∧ Below w.heap.size w wr) (λ _ iv _ => n - (intOf iv).toNat)
 case atStart => exact ⟨0, Nat.zero_le _, rfl, (λ j hj => by omega), Below.refl _ _⟩
 case round =>
  obtain ⟨k, hk, rfl, HK, hb⟩ := hrel
  by_cases hlt : k < n
  ·have hkl : k < l.length := by rw [HN.out]; exact hlt
   obtain ⟨b, o, rfl, hcell⟩ := Trp.at_ (HL.out.keep hb) (by omega)
   obtain ⟨x, hxe⟩ : ∃ x, l[k]'hkl = x := ⟨_, rfl⟩
   obtain ⟨q0, q1, q2, q3, q4, q5, q6⟩ := hcell k x (by rw [List.getElem?_eq_getElem hkl, hxe])
   have HXE := Lib.hid hxe
   have hg' : wr.cell? ⟨g, 0, none⟩ = some (.int .i64 p.x) ∧ wr.cell? ⟨g, 1, none⟩ = some (.int .i64 p.y) := ⟨cell_later hb hg.1, cell_later hb hg.2⟩
   have hc := on1 x p g wr hg'
   clear hcell hxe
   cases hbad : (isAt p) x with
   | true =>
    have hres : idxI (isAt p) l = (k : Int) := idxI_some hkl (by rw [HXE.out]; exact hbad) λ j hj => HK.out j hj (by omega)
    rw [hbad] at hc
    have HRES := Lib.hid hres
    clear hres hbad
    go_wp2_with (go_at_call 53; refine hc.mono ?_; rintro e w' ⟨rfl, hb2⟩)
    go_ret
    exact ⟨by rw [HRES.out]; rfl, hb.trans (hb2.mono hb.size)⟩
   | false =>
    rw [hbad] at hc
    have HK2 : Hid (∀ j (hj : j < k + 1) (hj2 : j < l.length), (isAt p) l[j] = false) := by
     intro j hj hj2
     by_cases h : j < k
     ·exact HK.out j h hj2
     ·obtain rfl : j = k := by omega
      rw [HXE.out]; exact hbad
    clear hbad
    go_wp2_with (go_at_call 53; refine hc.mono ?_; rintro e w' ⟨rfl, hb2⟩)
    go_roundw
    case rel => exact ⟨k + 1, by omega, by go_num, HK2, hb.trans (hb2.mono hb.size)⟩
    case measure => simp [intOf]; omega
  ·have hres : idxI (isAt p) l = -1 := idxI_none λ j hj => HK.out j (by have := HN.out; omega) hj
   have HRES := Lib.hid hres
   clear hres
   go_wp2_with fail
   go_ret
   exact ⟨by rw [HRES.out]; rfl, hb⟩
end
section
open Go.RowKit
theorem which_any (fv : Value) (p : Trp → Bool) (a : Wd.At) (W : Wd) (w : World) (hW : Wd.Has w a W)
  (hidx : ∀ V, Below w.heap.size w V → Calls Try.prog 78 #[.slice a.T W.troops.length a.t, fv] V λ e w' => e = .returned (.int .i64 (idxI p W.troops)) ∧ Below V.heap.size V w') :
  Calls Try.prog 51 #[.agg (Wd.cells a W).toArray, fv] w λ e w' => e = .returned (.tuple #[.int .i64 (whichI W p), .bool (whichB W p), .int .i64 W.chk]) ∧ Below w.heap.size w w' := by
 have hch := λ V (h : Wd.Has V a W) => check_any a W V h
 obtain ⟨aP, aB, aS, aM, aT, kP, kB, kS, kM, kT⟩ := a
 show Calls _ _ #[.agg #[.int .i64 W.field.wide, .int .i64 W.field.high, .slice aP W.field.places.length kP, .slice aB W.bases.length kB, .slice aS W.stocks.length kS, .slice aM W.mines.length kM, .slice aT W.troops.length kT, .int .i64 W.next, .int .i64 W.now], fv] _ _
 have hb0 := below_alloc0 w (.cells (Wd.cells ⟨aP, aB, aS, aM, aT, kP, kB, kS, kM, kT⟩ W).toArray 28)
 have HA := Lib.hid (Blk.new w (Wd.cells ⟨aP, aB, aS, aM, aT, kP, kB, kS, kM, kT⟩ W) 28 (0, 0))
 have HH := Lib.hid (hW.keep hb0)
 obtain ⟨w0, HW0⟩ : ∃ w0, Hid (w.alloc (.cells (Wd.cells ⟨aP, aB, aS, aM, aT, kP, kB, kS, kM, kT⟩ W).toArray 28) = w0) := ⟨_, Lib.hid rfl⟩
 rw [HW0.out] at hb0 HH
 have HA : Hid (Blk w0 w.heap.size (Wd.cells ⟨aP, aB, aS, aM, aT, kP, kB, kS, kM, kT⟩ W) 28 (0, 0)) := by rw [← HW0.out]; exact HA
 have HCH := Lib.hid (hch w0 HH.out)
 rw [Wd.cells_eq] at HCH
 have HCH : Hid (Calls Try.prog 22 #[.agg #[.int .i64 W.field.wide, .int .i64 W.field.high, .slice aP W.field.places.length kP, .slice aB W.bases.length kB, .slice aS W.stocks.length kS, .slice aM W.mines.length kM, .slice aT W.troops.length kT, .int .i64 W.next, .int .i64 W.now]] w0 λ e w' => e = .returned (.int .i64 W.chk) ∧ Below w0.heap.size w0 w') := HCH
 have HIX : Hid (∀ V, Below w.heap.size w V → Calls Try.prog 78 #[.slice aT W.troops.length kT, fv] V λ e w' => e = .returned (.int .i64 (idxI p W.troops)) ∧ Below V.heap.size V w') := Lib.hid hidx
 have HW1 : Hid (w.alloc (.cells #[.int .i64 W.field.wide, .int .i64 W.field.high, .slice aP W.field.places.length kP, .slice aB W.bases.length kB, .slice aS W.stocks.length kS, .slice aM W.mines.length kM, .slice aT W.troops.length kT, .int .i64 W.next, .int .i64 W.now] 28) = w0) := by rw [← HW0.out]; rfl
 obtain ⟨c0, c1, c2, c3, c4, c5, c6, c7, c8⟩ := Wd.wblk HA.out
 clear hW hch hidx
 by_cases h0 : W.chk = 0
 ·obtain ⟨e1, e2⟩ := which_ok h0 p
  rw [e1, e2]
  rw [h0] at HCH ⊢
  clear e1 e2 h0
  have hr : -1 ≤ idxI p W.troops ∧ idxI p W.troops ≤ (W.troops.length : Int) := by
   rcases idxI_cases p W.troops with ⟨h, _⟩ | ⟨k, hk, h, _⟩
   ·omega
   ·omega
  generalize idxI p W.troops = r at *
  generalize W.field.places.length = np at *
  generalize W.bases.length = nb at *
  generalize W.stocks.length = ns at *
  generalize W.mines.length = nm at *
  generalize W.troops.length = nt at *
  clear hr
  go_enter Try.func51, Try.ntmps51
  go_wp2_with fail
  rw [HW1.out]
  go_wp2_with fail
  refine HCH.out.mono ?_; rintro e w2 ⟨rfl, hb2⟩
  have d6 := cell_later hb2 c6
  clear c0 c1 c2 c3 c4 c5 c6 c7 c8
  have hb02 := hb0.trans (hb2.mono hb0.size)
  go_wp2_with fail
  refine (HIX.out _ hb02).mono ?_; rintro e w3 ⟨rfl, hb3⟩
  go_wp2_with fail
  go_ret3
  exact ⟨rfl, hb02.trans (hb3.mono hb02.size)⟩
 ·obtain ⟨e1, e2⟩ := which_bad h0 p
  have hd : (W.chk == 0) = false := by simpa using h0
  have hd2 : (W.chk != 0) = true := by simpa using h0
  rw [e1, e2]
  clear e1 e2 h0
  generalize W.chk = k at *
  generalize W.field.places.length = np at *
  generalize W.bases.length = nb at *
  generalize W.stocks.length = ns at *
  generalize W.mines.length = nm at *
  generalize W.troops.length = nt at *
  go_enter Try.func51, Try.ntmps51
  go_wp2_with fail
  rw [HW1.out]
  go_wp2_with fail
  refine HCH.out.mono ?_; rintro e w2 ⟨rfl, hb2⟩
  go_wp2_with fail
  go_ret3
  exact ⟨rfl, hb0.trans (hb2.mono hb0.size)⟩
def FindPost (W : Wd) (p : Trp → Bool) (w : World) (e : Ending) (w' : World) : Prop := e = .returned (.tuple #[.int .i64 (whichI W p), .bool (whichB W p), .int .i64 W.chk]) ∧ Below w.heap.size w w'
theorem find_any (id : Int) (a : Wd.At) (W : Wd) (w : World) (hW : Wd.Has w a W) :
  Calls Try.prog 25 #[.agg (Wd.cells a W).toArray, .int .i64 id] w (FindPost W (isId id) w) := by
 have hch := λ fv V (h : Wd.Has V a W) hi => which_any fv (isId id) a W V h hi
 obtain ⟨aP, aB, aS, aM, aT, kP, kB, kS, kM, kT⟩ := a
 show Calls _ _ #[.agg #[.int .i64 W.field.wide, .int .i64 W.field.high, .slice aP W.field.places.length kP, .slice aB W.bases.length kB, .slice aS W.stocks.length kS, .slice aM W.mines.length kM, .slice aT W.troops.length kT, .int .i64 W.next, .int .i64 W.now], .int .i64 id] _ _
 have hb0 := below_alloc0 w (.cells (Wd.cells ⟨aP, aB, aS, aM, aT, kP, kB, kS, kM, kT⟩ W).toArray 28)
 have HA := Lib.hid (Blk.new w (Wd.cells ⟨aP, aB, aS, aM, aT, kP, kB, kS, kM, kT⟩ W) 28 (0, 0))
 have HH := Lib.hid (hW.keep hb0)
 obtain ⟨w0, HW0⟩ : ∃ w0, Hid (w.alloc (.cells (Wd.cells ⟨aP, aB, aS, aM, aT, kP, kB, kS, kM, kT⟩ W).toArray 28) = w0) := ⟨_, Lib.hid rfl⟩
 rw [HW0.out] at hb0 HH
 have HA : Hid (Blk w0 w.heap.size (Wd.cells ⟨aP, aB, aS, aM, aT, kP, kB, kS, kM, kT⟩ W) 28 (0, 0)) := by rw [← HW0.out]; exact HA
 have hbB := below_alloc0 w0 (.cells #[.int .i64 id] 3)
 have hBB := Blk.new w0 [.int .i64 id] 3 (0, 0)
 have hsz0 : w0.heap.size = w.heap.size + 1 := by rw [← HW0.out]; simp
 rw [hsz0] at hBB
 obtain ⟨w1, HWB⟩ : ∃ w1, Hid (w0.alloc (.cells #[.int .i64 id] 3) = w1) := ⟨_, Lib.hid rfl⟩
 rw [HWB.out] at hbB
 have hBB : Blk w1 (w.heap.size + 1) [.int .i64 id] 3 (0, 0) := by rw [← HWB.out]; exact hBB
 have HT : Hid (Trp.rep.SHas 56 w1 aT kT W.troops) := Lib.hid (HH.out.T.keep hbB)
 have HBB := Lib.hid hBB
 have HA1 := HA.out.later hbB
 have HCH := Lib.hid (hch (.func (.func 52) #[] #[.pointer (some ⟨w.heap.size + 1, 0, none⟩)]) w1 (HH.out.keep hbB) (λ V hV => idx_id id (w.heap.size + 1) aT kT W.troops V (HT.out.keep hV) (cell_later hV (HBB.out.cell 0))))
 rw [Wd.cells_eq] at HCH
 have HCH : Hid (Calls Try.prog 51 #[.agg #[.int .i64 W.field.wide, .int .i64 W.field.high, .slice aP W.field.places.length kP, .slice aB W.bases.length kB, .slice aS W.stocks.length kS, .slice aM W.mines.length kM, .slice aT W.troops.length kT, .int .i64 W.next, .int .i64 W.now], .func (.func 52) #[] #[.pointer (some ⟨w.heap.size + 1, 0, none⟩)]] w1 λ e w' => e = .returned (.tuple #[.int .i64 (whichI W (isId id)), .bool (whichB W (isId id)), .int .i64 W.chk]) ∧ Below w1.heap.size w1 w') := HCH
 have HW1 : Hid (w.alloc (.cells #[.int .i64 W.field.wide, .int .i64 W.field.high, .slice aP W.field.places.length kP, .slice aB W.bases.length kB, .slice aS W.stocks.length kS, .slice aM W.mines.length kM, .slice aT W.troops.length kT, .int .i64 W.next, .int .i64 W.now] 28) = w0) := by rw [← HW0.out]; rfl
 obtain ⟨c0, c1, c2, c3, c4, c5, c6, c7, c8⟩ := Wd.wblk HA1
 have hb01 := hb0.trans (hbB.mono hb0.size)
 unfold FindPost
 clear hW hch hBB HA1
 generalize whichI W (isId id) = r1 at *
 generalize whichB W (isId id) = r2 at *
 generalize W.chk = r3 at *
 go_enter Try.func25, Try.ntmps25
 go_wp2_with fail
 rw [HW1.out, HWB.out]
 go_wp2_with fail
 refine HCH.out.mono ?_; rintro e w2 ⟨rfl, hb2⟩
 go_wp2_with fail
 go_ret3
 exact ⟨rfl, hb01.trans (hb2.mono hb01.size)⟩
theorem on_any (p : Cel) (a : Wd.At) (W : Wd) (w : World) (hW : Wd.Has w a W) :
  Calls Try.prog 27 #[.agg (Wd.cells a W).toArray, .agg #[.int .i64 p.x, .int .i64 p.y]] w (FindPost W (isAt p) w) := by
 have hch := λ fv V (h : Wd.Has V a W) hi => which_any fv (isAt p) a W V h hi
 obtain ⟨aP, aB, aS, aM, aT, kP, kB, kS, kM, kT⟩ := a
 show Calls _ _ #[.agg #[.int .i64 W.field.wide, .int .i64 W.field.high, .slice aP W.field.places.length kP, .slice aB W.bases.length kB, .slice aS W.stocks.length kS, .slice aM W.mines.length kM, .slice aT W.troops.length kT, .int .i64 W.next, .int .i64 W.now], .agg #[.int .i64 p.x, .int .i64 p.y]] _ _
 have hb0 := below_alloc0 w (.cells (Wd.cells ⟨aP, aB, aS, aM, aT, kP, kB, kS, kM, kT⟩ W).toArray 28)
 have HA := Lib.hid (Blk.new w (Wd.cells ⟨aP, aB, aS, aM, aT, kP, kB, kS, kM, kT⟩ W) 28 (0, 0))
 have HH := Lib.hid (hW.keep hb0)
 obtain ⟨w0, HW0⟩ : ∃ w0, Hid (w.alloc (.cells (Wd.cells ⟨aP, aB, aS, aM, aT, kP, kB, kS, kM, kT⟩ W).toArray 28) = w0) := ⟨_, Lib.hid rfl⟩
 rw [HW0.out] at hb0 HH
 have HA : Hid (Blk w0 w.heap.size (Wd.cells ⟨aP, aB, aS, aM, aT, kP, kB, kS, kM, kT⟩ W) 28 (0, 0)) := by rw [← HW0.out]; exact HA
 have hbB := below_alloc0 w0 (.cells #[.int .i64 p.x, .int .i64 p.y] 35)
 have hBB := Blk.new w0 [.int .i64 p.x, .int .i64 p.y] 35 (0, 0)
 have hsz0 : w0.heap.size = w.heap.size + 1 := by rw [← HW0.out]; simp
 rw [hsz0] at hBB
 obtain ⟨w1, HWB⟩ : ∃ w1, Hid (w0.alloc (.cells #[.int .i64 p.x, .int .i64 p.y] 35) = w1) := ⟨_, Lib.hid rfl⟩
 rw [HWB.out] at hbB
 have hBB : Blk w1 (w.heap.size + 1) [.int .i64 p.x, .int .i64 p.y] 35 (0, 0) := by rw [← HWB.out]; exact hBB
 have HT : Hid (Trp.rep.SHas 56 w1 aT kT W.troops) := Lib.hid (HH.out.T.keep hbB)
 have HBB := Lib.hid hBB
 have HA1 := HA.out.later hbB
 have HCH := Lib.hid (hch (.func (.func 53) #[] #[.pointer (some ⟨w.heap.size + 1, 0, none⟩)]) w1 (HH.out.keep hbB) (λ V hV => idx_at p (w.heap.size + 1) aT kT W.troops V (HT.out.keep hV) ⟨cell_later hV (HBB.out.cell 0), cell_later hV (HBB.out.cell 1)⟩))
 rw [Wd.cells_eq] at HCH
 have HCH : Hid (Calls Try.prog 51 #[.agg #[.int .i64 W.field.wide, .int .i64 W.field.high, .slice aP W.field.places.length kP, .slice aB W.bases.length kB, .slice aS W.stocks.length kS, .slice aM W.mines.length kM, .slice aT W.troops.length kT, .int .i64 W.next, .int .i64 W.now], .func (.func 53) #[] #[.pointer (some ⟨w.heap.size + 1, 0, none⟩)]] w1 λ e w' => e = .returned (.tuple #[.int .i64 (whichI W (isAt p)), .bool (whichB W (isAt p)), .int .i64 W.chk]) ∧ Below w1.heap.size w1 w') := HCH
 have HW1 : Hid (w.alloc (.cells #[.int .i64 W.field.wide, .int .i64 W.field.high, .slice aP W.field.places.length kP, .slice aB W.bases.length kB, .slice aS W.stocks.length kS, .slice aM W.mines.length kM, .slice aT W.troops.length kT, .int .i64 W.next, .int .i64 W.now] 28) = w0) := by rw [← HW0.out]; rfl
 obtain ⟨c0, c1, c2, c3, c4, c5, c6, c7, c8⟩ := Wd.wblk HA1
 have hb01 := hb0.trans (hbB.mono hb0.size)
 unfold FindPost
 clear hW hch hBB HA1
 generalize whichI W (isAt p) = r1 at *
 generalize whichB W (isAt p) = r2 at *
 generalize W.chk = r3 at *
 go_enter Try.func27, Try.ntmps27
 go_wp2_with fail
 rw [HW1.out, HWB.out]
 go_wp2_with fail
 refine HCH.out.mono ?_; rintro e w2 ⟨rfl, hb2⟩
 go_wp2_with fail
 go_ret3
 exact ⟨rfl, hb01.trans (hb2.mono hb01.size)⟩
end
end Go.Proofs.Ytmpkaphcpaigdaa
