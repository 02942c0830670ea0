import Derived.Test.YtmpkaphcpaigdaaFcs
import Derived.Test.YtmpkaphcpaigdaaSigG
import Derived.Test.YtmpkaphcpaigdaaIfc
import Derived.Laws.IdiomStrings
import Derived.Laws.Strings
import Derived.Test.YtmpkaphcpaigdaaFd2
import Derived.Test.YtmpkaphcpaigdaaShelf
set_option linter.unusedVariables false
set_option linter.unusedSimpArgs false
set_option maxRecDepth 100000
set_option maxHeartbeats 4000000
namespace Go.Proofs.Ytmpkaphcpaigdaa
section
open Go.RowKit
def seenH (f : Fld) (c : Cel) (r : Int) : Nat := (min (f.high - 1) (c.y + r) - max 0 (c.y - r) + 1).toNat
def seenW (f : Fld) (c : Cel) (r : Int) : Nat := (min (f.wide - 1) (c.x + r) - max 0 (c.x - r) + 1).toNat
def seenAt (c : Cel) (r : Int) (k j : Nat) : Cel := ⟨max 0 (c.x - r) + (j : Int), max 0 (c.y - r) + (k : Int)⟩
def seenB (f : Fld) (c n : Cel) : Bool := bareC f c n || bareC f n c
def seenRow (f : Fld) (c : Cel) (r : Int) (k j : Nat) : List Cel := ((List.range j).map (seenAt c r k)).filter (seenB f c)
def seenTo (f : Fld) (c : Cel) (r : Int) (k : Nat) : List Cel := (List.range k).flatMap fun i => seenRow f c r i (seenW f c r)
def seenE (f : Fld) (c : Cel) (r : Int) : Int := if f.atE c ≠ 0 then f.atE c else if r < 0 ∨ 12 < r then 1 else 0
def seenL (f : Fld) (c : Cel) (r : Int) : List Cel := if seenE f c r ≠ 0 then [] else seenTo f c r (seenH f c r)
end
section
open Go.RowKit
theorem chunk_any (A : Option Addr) (len c n : Nat) (w : World) (hn : 1 ≤ n) :
  Calls Try.prog 85 #[.slice A len c, .int .i64 (n : Int)] w (fun e w' => ∃ b2 b3, e = .returned (.func (.func 93) #[] #[.pointer (some ⟨b2, 0, none⟩), .pointer (some ⟨b3, 0, none⟩)]) ∧ Blk w' b2 [.slice A len c] 22 (0, 0) ∧ Blk w' b3 [.int .i64 (n : Int)] 3 (0, 0) ∧ w.heap.size ≤ b2 ∧ b2 < b3 ∧ Ext w w') := by
 refine calls_W (n := 9) Try.func85 rfl rfl rfl ?_
 refine sq <| rg <| bx rfl rfl rfl rfl fun w_1 b_2 x_3 l_4 B_5 => ?_
 have q_6 := x_3.size
 have z_1 := Ext.tr (Ext.rf w) x_3
 have q_7 := B_5.lt
 refine bx rfl rfl rfl rfl fun w_8 b_9 x_10 l_11 B_12 => ?_
 have q_13 := x_10.size
 have z_8 := Ext.tr z_1 x_10
 have q_14 := B_12.lt
 refine vl (as_ rfl) rfl <| nl <| nT <| sq <| sq <| rg <| vl (ld rfl (B_12.one eF1 rfl)) rfl <| vl (blt rfl rfl) rfl <| nl <| nT <| ?_
 have h_15 : (decide ((n : Int) < 1)) = false := by rw [decide_eq_false_iff_not]; omega
 refine cF (by rw [← h_15]; rfl) <| sk <| nT <| sq <| rg <| vl (mf rfl rfl) rfl <| vl (as_ rfl) rfl <| nl <| nT <| rt <| tR (.tmp rfl .nil) <| ?_
 have B_5 := B_5.later x_10
 exact ⟨b_2, b_9, rfl, B_5, B_12, by omega, by omega, z_8⟩
theorem chunk_in (q n len c b2 b3 : Nat) (A : Option Addr) (w0 : World) (hn : 1 ≤ n) (hlen : len = q * n) (hlc : len ≤ c) (hcm : c ≤ 9223372036854775807) (m : Nat) (B20 : Blk w0 b2 [.slice A len c] 22 (0, 0)) (B30 : Blk w0 b3 [.int .i64 (n : Int)] 3 (0, 0)) :
  SeqStopsK (fen none) m Try.prog 93 #[.pointer (some ⟨b2, 0, none⟩), .pointer (some ⟨b3, 0, none⟩)] (fun k : Fin q => #[.slice (sA A (k.1 * n + n) (k.1 * n) 1) n n]) (Keep2 b2 b3) (fun xs => xs = List.finRange q) (fun _ => True) q w0 := by
 intro l J Jx W hb hab habx hY hj0
 have B2 := B20.keepc (hb.block b2 B20.lt)
 have B3 := B30.keepc (hb.block b3 B30.lt)
 have hJ : JAt W.heap.size J [] W := ⟨hab, hj0⟩
 refine Rd.calls_I (n := 31) Try.func93 rfl rfl rfl ?_
 refine Rd.sq <| Rd.rg <| vl (as_ rfl) rfl <| nl <| Rd.nT <| Rd.bk <| ?_
 refine Rd.lp (fun mI EI wI => ∃ k : Nat, EI = [(0, .func (.yield l) #[] #[]), (1, .pointer (some ⟨b2, 0, none⟩)), (2, .pointer (some ⟨b3, 0, none⟩)), (4, .int .i64 (((k * n : Nat) : Int)))] ∧ mI = q - k ∧ True ∧ Blk wI b2 [.slice A len c] 22 (0, 0) ∧ Blk wI b3 [.int .i64 (n : Int)] 3 (0, 0) ∧ JAt W.heap.size J ((List.finRange q).take k) wI ∧ (k ≤ q)) _ _ ⟨0, rfl, rfl, trivial, B2, B3, (hJ : JAt W.heap.size J [] _), by omega⟩ (.cons rfl (.cons rfl (.cons rfl (.cons (loI rfl (by first | omega | rfl | (simp <;> omega))) .nil)))) ?_
 rintro m_2 E_3 w_1 ⟨k, rfl, rfl, z_1, B2, B3, hJ, hk⟩
 have q_4 := B2.lt
 have q_5 := B3.lt
 have hc := k
 refine Rd.sq <| Rd.sq <| Rd.rg <| vl (mv rfl) rfl <| vl (ld rfl (B2.one eF20 rfl)) rfl <| vl (ln Try.underlying22 rfl) rfl <| vl (blt rfl rfl) rfl <| nl <| Rd.nT <| ?_
 refine Rd.clt rfl (fun h_6 => ?_) (fun h_6 => ?_)
 ·have hkq : k < q := Nat.lt_of_mul_lt_mul_right (a := n) (by omega)
  have hkn : k * n + n ≤ q * n := by rw [← Nat.succ_mul]; exact Nat.mul_le_mul_right _ hkq
  refine Rd.sk <| Rd.nT <| Rd.sq <| Rd.bk <| Rd.sq <| ?_
  refine Rd.rd [(0, 0), (1, 0)] [0, 1, 2, 3, 4, 5, 6] (by kernel_rfl) (by kernel_rfl) ?_
  refine fq rfl rfl (fun _ x => ld rfl ((B3.later x).one eF1 rfl)) rfl <| fq rfl rfl (fun _ x => ld rfl ((B2.later x).one eF20 rfl)) rfl <| fw rfl rfl (fun _ => mv rfl) rfl <| fw rfl rfl (fun _ => sL (k * n) Try.underlying22 eF21 rfl rfl rfl (by omega)) rfl <| fw rfl rfl (fun _ => ln Try.underlying22 rfl) rfl <| fw rfl rfl (fun _ => mn rfl rfl) rfl <| fw rfl rfl (fun _ => as_ rfl) rfl <| fn fun w_7 x_8 => ?_
  have q_9 := x_8.size
  refine Rd.nT <| Rd.sq <| Ri.rg <| Ri.vl (mv rfl) rfl <| ?_
  have B2 := B2.later x_8
  refine Ri.vl (ld rfl (B2.one eF20 rfl)) rfl <| Ri.vl (mv rfl) rfl <| Ri.vl (mv rfl) rfl <| Ri.vl (mv rfl) rfl <| Ri.vl (bad rfl rfl (inI (by omega))) rfl <| Ri.vl (mv rfl) rfl <| Ri.vl (mv rfl) rfl <| Ri.vl (bad rfl rfl (inI (by omega))) rfl <| Ri.vl (sJ (k * n) (k * n + n) n Try.underlying22 eF21 rfl rfl rfl rfl rfl (by omega) (by omega) (by omega) (by omega) (by omega)) rfl <| ?_
  have B3 := B3.later x_8
  have hJ := hJ.later x_8
  refine Ri.yd rfl rfl rfl (ymono (hY _ (⟨k, hkq⟩ : Fin q) _ hJ.at_ (by rw [List.length_take, List.length_finRange]; omega)) ?_)
  rintro e wy hres
  obtain ⟨bq, rfl, h1, h2⟩ := yres hres
  refine ⟨_, rfl, ?_⟩
  replace h1 : bq = true → JAt W.heap.size J ((List.finRange q).take k ++ [⟨k, hkq⟩]) wy ∧ Keep2 b2 b3 _ wy := fun h => ⟨⟨hJ.ab, (h1 h).1⟩, (h1 h).2⟩
  refine Ri.vl (nt rfl) rfl <| Ri.nl <| Rd.nT <| ?_
  refine Rd.cb rfl (fun h_10 => ?_) (fun h_10 => ?_)
  ·refine Rd.rt <| tB <| Rd.tT <| tK <| tB <| tR .nil <| ?_
   exact ⟨⟨_, rfl⟩, .inr ⟨_, trivial, h2 (by simpa using h_10)⟩⟩
  ·obtain ⟨hJ2, hk2⟩ := h1 (by simpa using h_10)
   have B2 := B2.keepc hk2.1
   have B3 := B3.keepc hk2.2
   refine Rd.sk <| Rd.nB <| Rd.nT <| Rd.rg <| vl (mv rfl) rfl <| vl (ld rfl (B3.one eF1 rfl)) rfl <| vl (bad rfl rfl (inI (by omega))) rfl <| vl (as_ rfl) rfl <| nl <| ?_
   exact Rd.nI _ _ ⟨k + 1, rfl, rfl, trivial, B2, B3, (by rw [← fin_take hkq]; exact hJ2), by omega⟩ (by omega) (.cons rfl (.cons rfl (.cons rfl (.cons (loI rfl (by rw [Nat.succ_mul]; omega)) .nil))))
 ·have hkq : k = q := Nat.le_antisymm hk (Nat.le_of_mul_le_mul_right (c := n) (by omega) hn)
  refine Rd.xt <| Rd.xT <| xK <| Rd.xB <| Rd.ne <| tR .nil <| ?_
  exact ⟨⟨_, rfl⟩, .inl ⟨_, rfl, by have := hJ.at_; rwa [hkq, List.take_of_length_le (by rw [List.length_finRange]; omega)] at this⟩⟩
end
section
open Go.RowKit
def repY : Rep UInt8 := Rep.flat 1 (fun b => [.int .u8 (b.toNat : Int)]) (fun _ => True) (fun _ u => ∃ n : Int, u = .int .u8 n) (fun _ => rfl) (by intro a u hu; simp at hu; subst hu; rfl) (by
 intro a j u hu
 cases j with
 | zero => simp at hu; exact ⟨_, hu.symm⟩
 | succ j => simp at hu)
theorem info_u8 : (Try.prog.info? 5).map (fun i => (i.zero, i.size, i.bytes)) = some (some (.int .u8 0), 1, 1) := by kernel_rfl
theorem raw0Y : ∀ (j : Nat) u, (Value.int .u8 0).cells[j]? = some u → repY.raw j u := by
 intro j u hu
 have hu : (#[(.int .u8 0 : Value)] : Array Value)[j]? = some u := hu
 match j, hu with
 | 0, hu => exact ⟨0, (Option.some.inj hu).symm⟩
 | j + 1, hu => simp at hu
theorem repY_at {by_ : Nat} {w : World} {A : Option Addr} {c : Nat} {l : List UInt8} (h : repY.SHas by_ w A c l) (h0 : 0 < l.length) : ∃ b o, A = some ⟨b, o, none⟩ ∧ ∀ (i : Nat) (a : UInt8), l[i]? = some a → w.cell? ⟨b, o + i, none⟩ = some (.int .u8 (a.toNat : Int)) := by
 obtain ⟨b, o, e, hc⟩ := h.at_ h0
 refine ⟨b, o, e, fun i a ha => ?_⟩
 obtain ⟨es, ⟨rfl, _⟩, hj⟩ := hc i a ha
 have := hj 0 _ rfl
 simpa [repY, Rep.flat] using this
def bytesS (l : List UInt8) : ByteArray := ⟨l.toArray⟩
section
variable {P : Program} {n : Nat} {E E' : List (Nat × Value)} {w : World} {d : Option Nat} {ty : TypeId} {pos : String} {af : Array Edge} {g : Option (Nat × Bool)} {x y z u : Operand} {t t2 : TypeId}
theorem si {s : ByteArray} {k : IntKind} {i : Int} {v : UInt8} (ht : P.underlying t = some .string) (hx : ev E x = some (.string s)) (hy : ev E y = some (.int k i)) (h0 : 0 ≤ i) (hv : s.data.toList[i.toNat]? = some v) :
  Runs P E ⟨d, .index t x y, ty, pos, af, g⟩ w (.int .u8 (v.toNat : Int)) w := fun n a ha => by
 have hlt := (List.getElem?_eq_some_iff.1 hv).1
 have hsz : i.toNat < s.size := by simpa using hlt
 have hi : 0 ≤ i ∧ i < s.size := by omega
 have hr := run_index_string (P := P) w t s k i ht
 rw [dif_pos hi] at hr
 have e : (s[i.toNat]'hsz) = v := by
  have := (List.getElem?_eq_some_iff.1 hv).2
  simpa [ByteArray.getElem_eq_getElem_data] using this
 simp only [execOp, ha.ev hx, ha.ev hy, Sem.run_bind, hr, Result.andThen_ok, Sem.run_pure, e]
theorem cvB {e : TypeId} {A : Option Addr} {c : Nat} {l : List UInt8} {by_ : Nat} (hs : P.underlying t = some (.slice e)) (he : P.underlying e = some (.int .u8)) (hd : P.underlying t2 = some .string) (h : repY.SHas by_ w A c l) (hx : ev E x = some (.slice A l.length c)) :
  Runs P E ⟨d, .convert t t2 x, ty, pos, af, g⟩ w (.string (bytesS l)) w := fun n a ha => by
 have hr : (convert t t2 (.slice A l.length c)).run P w = .ok (.string (bytesS l)) w := by
  cases A with
  | none =>
   have hc : c = 0 := h.2.2.2.1 rfl
   have hl : l = [] := List.eq_nil_of_length_eq_zero (by have := h.1; omega)
   subst hl; subst hc
   show (convert t t2 (.slice none 0 0)).run P w = _
   rw [run_convert_bytes_string w t t2 e none 0 0 hs he hd]
   simp [Conv.bytesToString]
   rfl
  | some p =>
   cases hl : l with
   | nil =>
    have : ∀ j (hj : j < ([] : List UInt8).length), w.cell? (p.add j) = some (.int .u8 (([] : List UInt8)[j].toNat : Int)) := fun j hj => nomatch hj
    exact run_convert_bytes_back w t t2 e p c [] hs he hd this
   | cons b r =>
    rw [← hl]
    obtain ⟨b, o, rfl', hc⟩ := repY_at h (by rw [hl]; simp)
    injection rfl' with rfl'
    subst rfl'
    exact run_convert_bytes_back w t t2 e _ c l hs he hd fun j hj => by
     have := hc j _ (List.getElem?_eq_getElem hj)
     have e : (⟨b, o, none⟩ : Addr).add j = ⟨b, o + j, none⟩ := by
      unfold Addr.add
      by_cases h0 : j = 0
      ·subst h0; simp
      ·simp [h0]
     rw [e]; exact this
 simp only [execOp, ha.ev hx, Sem.run_bind, hr, Result.andThen_ok, Sem.run_pure]
theorem str_beq (p q : ByteArray) : (p == q) = decide (p = q) := by
 rw [Bool.eq_iff_iff, decide_eq_true_eq]
 constructor
 ·intro h
  obtain ⟨a⟩ := p
  obtain ⟨b⟩ := q
  have : a = b := by simpa using (show (a == b) = true from h)
  rw [this]
 ·rintro rfl
  obtain ⟨a⟩ := p
  show (a == a) = true
  simp
theorem bnT {p q : ByteArray} (ht : P.underlying t = some .string) (hx : ev E x = some (.string p)) (hy : ev E y = some (.string q)) : Runs P E ⟨d, .binOp .neq t x y t2, ty, pos, af, g⟩ w (.bool (!decide (p = q))) w := fun n a ha => by
 have : (eqGuard .neq t x y (.string p) (.string q)).run P w = .ok () w := by cases x <;> cases y <;> rfl
 have h2 : (binOp .neq t (.string p) (.string q)).run P w = .ok (.bool (!decide (p = q))) w := by
  simp only [binOp, Op.stringOp, Sem.run_pure]; simp [bne, str_beq]; rw [← beq_toListBytes, str_beq]
 simp only [execOp, ha.ev hx, ha.ev hy, Sem.run_bind, this, h2, Result.andThen_ok, Sem.run_pure]
theorem lnS {s : ByteArray} (ht : P.underlying t = some .string) (hx : ev E x = some (.string s)) (hs : (s.size : Int) ≤ 9223372036854775807) : Runs P E ⟨d, .call { callee := .builtin .len, args := #[x], argTypes := #[t] }, ty, pos, af, g⟩ w (.int .i64 (s.size : Int)) w :=
 bi (vs := [.string s]) (by simp only [evs, hx]) fun cs => by
  have := run_len_string (P := P) w t ty s ht
  simp only [builtin, Sem.run_bind, this, Result.andThen_ok, Sem.run_pure]; rfl
end
end
section
open Go.RowKit
theorem FldW_el_S_uint8 : ElT Try.prog repY 101 5 1 := ElT.mk_ (z := .int .u8 0) (k := 1) Try.underlying101 info_u8 rfl rfl (by decide) (fun j u h => raw0Y j u h)
def sgn8 (p : Int) : UInt8 := ([46, 35, 116, 111] : List UInt8).getD p.toNat 0
def rowT (f : Fld) (k j : Nat) : List UInt8 := (((f.places.drop (k * f.wide.toNat)).take (k * f.wide.toNat + f.wide.toNat - k * f.wide.toNat)).take j).map sgn8
def txt (f : Fld) (pre : List (Fin f.high.toNat)) : List UInt8 := pre.flatMap fun k => rowT f k.1 f.wide.toNat ++ [10]
theorem txt_app (f : Fld) (pre : List (Fin f.high.toNat)) (x : Fin f.high.toNat) : txt f (pre ++ [x]) = txt f pre ++ rowT f x.1 f.wide.toNat ++ [10] := by
 unfold txt; rw [List.flatMap_append]; simp
theorem rowT_0 (f : Fld) (k : Nat) : rowT f k 0 = [] := rfl
theorem rowT_len (f : Fld) (k j : Nat) : (rowT f k j).length ≤ j := by unfold rowT; rw [List.length_map, List.length_take]; omega
theorem chunk_anyZ (A : Option Addr) (len c : Nat) (i : Int) (w : World) (hi : 1 ≤ i) : Calls Try.prog 85 #[.slice A len c, .int .i64 i] w (fun e w' => ∃ b2 b3, e = .returned (.func (.func 93) #[] #[.pointer (some ⟨b2, 0, none⟩), .pointer (some ⟨b3, 0, none⟩)]) ∧ Blk w' b2 [.slice A len c] 22 (0, 0) ∧ Blk w' b3 [.int .i64 (i.toNat : Int)] 3 (0, 0) ∧ w.heap.size ≤ b2 ∧ b2 < b3 ∧ Ext w w') := by
 have e : i = (i.toNat : Int) := by omega
 have := chunk_any A len c i.toNat w (by omega)
 rw [← e] at this
 rw [← e]; exact this
theorem Fld.mul_len {f : Fld} (h : f.chk = 0) : f.places.length = f.high.toNat * f.wide.toNat := by
 obtain ⟨y1, y2, y3, y4, y5, y6⟩ := Fld.good h
 have e1 : f.wide = (f.wide.toNat : Int) := by omega
 have e2 : f.high = (f.high.toNat : Int) := by omega
 rw [e1, e2] at y5
 have : (f.places.length : Int) = ((f.high.toNat * f.wide.toNat : Nat) : Int) := by rw [y5, Int.natCast_mul, Int.mul_comm]
 omega
theorem txt_len (f : Fld) : ∀ pre : List (Fin f.high.toNat), (txt f pre).length ≤ pre.length * (f.wide.toNat + 1)
 | [] => Nat.zero_le _
 | x :: r => by
  have h1 := txt_len f r
  have h2 := rowT_len f x.1 f.wide.toNat
  have e : txt f (x :: r) = rowT f x.1 f.wide.toNat ++ [10] ++ txt f r := rfl
  rw [e, List.length_cons, Nat.succ_mul]
  simp only [List.length_append, List.length_cons, List.length_nil]
  omega
theorem txt_small (f : Fld) (pre : List (Fin f.high.toNat)) (h : pre.length < f.high.toNat) (y1 : 1 ≤ f.wide) (y2 : f.wide ≤ 40) (y3 : 1 ≤ f.high) (y4 : f.high ≤ 40) : (txt f pre).length ≤ 1640 ∧ f.wide.toNat ≤ 40 := by
 have h1 := txt_len f pre
 have h2 : pre.length * (f.wide.toNat + 1) ≤ 40 * 41 := Nat.mul_le_mul (by omega) (by omega)
 omega
theorem place_at2 {f : Fld} {x j n : Nat} (h : ∀ p ∈ f.places, 0 ≤ p ∧ p ≤ 3) (hn : n = f.wide.toNat) (hj : x * n + j < f.places.length) (hjn : j < n) : ∃ p : Int, ((f.places.drop (x * f.wide.toNat)).take (x * f.wide.toNat + f.wide.toNat - x * f.wide.toNat)).getD j 0 = p ∧ 0 ≤ p ∧ p ≤ 3 := by
 subst hn
 refine ⟨_, rfl, ?_⟩
 have e : ((f.places.drop (x * f.wide.toNat)).take (x * f.wide.toNat + f.wide.toNat - x * f.wide.toNat)).getD j 0 = f.places[x * f.wide.toNat + j] := by
  rw [List.getD_eq_getElem?_getD, List.getElem?_take, if_pos (by omega), List.getElem?_drop, List.getElem?_eq_getElem hj]; rfl
 rw [e]
 exact h _ (List.getElem_mem hj)
theorem place_get {q : Int} (h : ∃ p : Int, q = p ∧ 0 ≤ p ∧ p ≤ 3) : 0 ≤ q ∧ (bytesS [46, 35, 116, 111]).data.toList[q.toNat]? = some (sgn8 q) := by
 obtain ⟨p, rfl, h0, h3⟩ := h
 have : q = 0 ∨ q = 1 ∨ q = 2 ∨ q = 3 := by omega
 rcases this with rfl | rfl | rfl | rfl <;> exact ⟨by decide, rfl⟩
theorem rowT_succ {f : Fld} {x j : Nat} (hj : j < ((f.places.drop (x * f.wide.toNat)).take (x * f.wide.toNat + f.wide.toNat - x * f.wide.toNat)).length) : rowT f x (j + 1) = rowT f x j ++ [sgn8 (((f.places.drop (x * f.wide.toNat)).take (x * f.wide.toNat + f.wide.toNat - x * f.wide.toNat)).getD j 0)] := by
 unfold rowT
 rw [List.take_succ_eq_append_getElem hj, List.map_append, List.getD_eq_getElem?_getD, List.getElem?_eq_getElem hj]; rfl
def fldText (f : Fld) : ByteArray := if f.chk ≠ 0 then bytesS [] else bytesS (txt f (List.finRange f.high.toNat))
theorem write_bad {f : Fld} (h : ¬ f.chk = 0) : fldText f = bytesS [] := by unfold fldText; rw [if_pos h]
theorem write_ok {f : Fld} (h : f.chk = 0) : fldText f = bytesS (txt f (List.finRange f.high.toNat)) := by unfold fldText; rw [if_neg (by simpa using h)]
theorem write_any (f : Fld) (A : Option Addr) (c : Nat) (w : World) (hP : repI.SHas 8 w A c f.places) :
  Calls Try.prog 65 #[.agg #[.int .i64 f.wide, .int .i64 f.high, .slice A f.places.length c]] w (fun e w' => e = .returned (.tuple #[.string (fldText f), .int .i64 f.chk]) ∧ Ext w w') := by
 refine Rd.calls_W (m := 5) (n := 37) Try.func65 rfl rfl rfl ?_
 refine Rd.sq <| Rd.rg <| bx rfl rfl rfl rfl fun w_1 b_2 x_3 l_4 B_5 => ?_
 have q_6 := x_3.size
 have z_1 := Ext.tr (Ext.rf w) x_3
 have q_7 := B_5.lt
 refine vl (as_ rfl) rfl <| vl (as_ rfl) rfl <| nl <| Rd.nT <| Rd.sq <| Rd.sq <| Rd.rg <| vl (ld rfl (B_5.all eF16 eF17)) rfl <| ca eF18 rfl rfl ((fldCheck f A c _ (hP.keep z_1)).mono ?_)
 rintro e w_8 ⟨rfl, x_9⟩
 refine ⟨_, rfl, ?_⟩
 have q_10 := x_9.size
 have z_8 := Ext.tr z_1 x_9
 refine vl (as_ rfl) rfl <| nl <| Rd.nT <| Rd.sq <| Rd.rg <| vl (mv rfl) rfl <| vl (bne rfl rfl) rfl <| nl <| Rd.nT <| ?_
 refine Rd.cne rfl (fun h_11 => ?_) (fun h_11 => ?_)
 ·refine Rd.sq <| Rd.rg <| vl (mv rfl) rfl <| vl (as_ rfl) rfl <| vl (as_ rfl) rfl <| nl <| Rd.nT <| Rd.rt <| Rd.tT <| Rd.tR (.tmp rfl (.tmp rfl .nil)) <| ?_
  exact ⟨by rw [write_bad h_11]; rfl, z_8⟩
 ·obtain ⟨y1, y2, y3, y4, y5, y6⟩ := Fld.good h_11
  have hpl := Fld.len_le h_11
  have hlen := Fld.mul_len h_11
  refine Rd.sk <| Rd.nT <| Rd.sq <| Rd.rg <| al rfl eF34 rfl rfl fun w_12 b_13 x_14 l_15 B_16 => ?_
  have q_17 := x_14.size
  have z_12 := Ext.tr z_8 x_14
  have q_18 := B_16.lt
  refine nl <| Rd.nT <| Rd.sq <| Rd.sq <| Rd.rg <| vl (fa eF19 rfl) rfl <| ?_
  have B_5 := B_5.later (Ext.tr x_9 x_14)
  refine vl (ld rfl (B_5.one eF20 rfl)) rfl <| vl (fa eF0 rfl) rfl <| vl (ld rfl (B_5.one eF1 rfl)) rfl <| ca eF35 rfl rfl ((chunk_anyZ _ _ _ f.wide _ (by omega)).mono ?_)
  rintro e w_19 ⟨b2, b3, rfl, C2, C3, l2, l3, x_20⟩
  refine ⟨_, rfl, ?_⟩
  have q_21 := x_20.size
  have z_19 := Ext.tr z_12 x_20
  have q2 := C2.lt
  have q3 := C3.lt
  refine nl <| Rd.nT <| Rd.bk <| ?_
  have B_16 := B_16.later x_20
  refine Rd.rf (enc := (fun k : Fin f.high.toNat => .slice (sA A (k.1 * f.wide.toNat + f.wide.toNat) (k.1 * f.wide.toNat) 1) f.wide.toNat f.wide.toNat)) rfl eF36 (chunk_in f.high.toNat f.wide.toNat f.places.length c b2 b3 A _ (by omega) hlen (hP.1) hP.2.1 _ C2 C3) (by omega) (by omega) (Ext.rf _) (by decide) rfl rfl (fun pre W => ∃ Ao : Option Addr, ∃ co : Nat, Blk W b_13 [.slice Ao ((txt f pre).length) co] 101 (0, 0) ∧ repY.SOwn 5 1 W w_19.heap.size (Rep.blkOf Ao) Ao co (txt f pre) ∧ Mod [b_13] w_19 W) (by rintro s_ W1_ W2_ S_ ⟨Ao, co, B5, OO, z_⟩ m_ hS_; exact ⟨Ao, co, B5.mod m_ (fun hq => (hS_ _ hq).2 _ _ _ B5), OO.mod m_ (fun q hq hs => by obtain ⟨_, _, _, hc⟩ := OO.cellsAt q hq; exact (hS_ q hs).2 _ _ _ hc), z_.md m_ (fun q hq => .inr (hS_ q hq).1)⟩) ⟨none, 0, B_16, Rep.SOwn.nil _, Mod.rf _ _⟩ ?_ ?_
  ·intro l_ pre x wB hI_ hlen_
   obtain ⟨Ao, co, B5, OO, zB⟩ := hI_
   have hzb : ∀ q ∈ [b_13], w.heap.size ≤ q := fun q hq => by rw [List.mem_singleton.1 hq]; omega
   have hKF : KF w_19.heap.size wB wB := KF.rf _ _
   have q_22 := zB.size
   have q_23 := B5.lt
   have u_24 := fun q hq => (OO.lt q hq).2
   have lo_25 := fun q hq => (OO.lt q hq).1
   have hx := x.2
   have hxm : x.1 * f.wide.toNat + f.wide.toNat ≤ f.high.toNat * f.wide.toNat := by rw [← Nat.succ_mul]; exact Nat.mul_le_mul_right _ hx
   have htl := txt_len f pre
   have hpre : pre.length < f.high.toNat := hlen_
   have hpm := txt_small f pre hpre y1 y2 y3 y4
   refine Rd.bk <| Rd.sq <| Rd.sq <| Rd.rg <| vl (mv rfl) rfl <| vl (ln Try.underlying22 rfl) rfl <| vl (mv rfl) rfl <| nl <| Rd.nT <| Rd.bk <| ?_
   refine Rd.lp (fun mI EI wI => ∃ j : Nat, ∃ Aj : Option Addr, ∃ cj : Nat, EI = [(2, .string (bytesS [])), (3, .int .i64 0), (5, .pointer (some ⟨b_13, 0, none⟩)), (6, .slice (sA A (x.1 * f.wide.toNat + f.wide.toNat) (x.1 * f.wide.toNat) 1) f.wide.toNat f.wide.toNat), (20, .slice (sA A (x.1 * f.wide.toNat + f.wide.toNat) (x.1 * f.wide.toNat) 1) f.wide.toNat f.wide.toNat), (21, .int .i64 (f.wide.toNat : Int)), (22, .int .i64 (j : Int))] ∧ mI = f.wide.toNat - j ∧ Mod [b_13] w_19 wI ∧ KF w_19.heap.size wB wI ∧ Blk wI b_13 [.slice Aj (((txt f pre ++ rowT f x.1 j)).length) cj] 101 (0, 0) ∧ repY.SOwn 5 1 wI w_19.heap.size (Rep.blkOf Aj) Aj cj (txt f pre ++ rowT f x.1 j) ∧ (j ≤ f.wide.toNat) ∧ (∀ q ∈ Rep.blkOf Aj, q = b_13 → False)) _ _ ⟨0, Ao, co, rfl, rfl, zB, hKF, (by rw [rowT_0, List.append_nil]; exact B5), (by rw [rowT_0, List.append_nil]; exact OO), by omega, (fun q hq hb => by (have := lo_25 q hq; omega))⟩ (.cons rfl (.cons rfl (.cons rfl (.cons rfl (.cons rfl (.cons rfl (.cons (loI rfl (by first | omega | rfl | (simp <;> omega))) .nil))))))) ?_
   rintro m_28 E_29 w_27 ⟨j, Aj, cj, rfl, rfl, z_27, hKF, B6, OJ, hj, d_26⟩
   have q_30 := z_27.size
   have q_31 := B6.lt
   have u_32 := fun q hq => (OJ.lt q hq).2
   have lo_33 := fun q hq => (OJ.lt q hq).1
   have hrl := rowT_len f x.1 j
   have hrow : ((f.places.drop (x.1 * f.wide.toNat)).take (x.1 * f.wide.toNat + f.wide.toNat - x.1 * f.wide.toNat)).length = f.wide.toNat := by rw [List.length_take, List.length_drop]; omega
   refine Rd.sq <| Rd.rg <| vl (blt rfl rfl) rfl <| nl <| Rd.nT <| Rd.sq <| ?_
   refine Rd.clt rfl (fun h_34 => ?_) (fun h_34 => ?_)
   ·have hj2 := place_at2 (f := f) (j := j) y6 (x := x.1) (n := f.wide.toNat) (by omega) (by omega) (by omega)
    refine Rd.sk <| Rd.nT <| Rd.sq <| Rd.bk <| Rd.sq <| Rd.rg <| vl (iA j Try.underlying22 eF21 rfl rfl (((hP.keep (Ext.mod z_19 z_27 hzb)).chunk (x.1 * f.wide.toNat) (x.1 * f.wide.toNat + f.wide.toNat) (by omega) (by omega)).adr (Nat.zero_lt_of_lt (show j < _ from (by rw [List.length_take, List.length_drop]; omega)))) rfl (by omega)) rfl <| vl (ld rfl (Rep.SHas.one' hcI (((hP.keep (Ext.mod z_19 z_27 hzb)).chunk (x.1 * f.wide.toNat) (x.1 * f.wide.toNat + f.wide.toNat) (by omega) (by omega)).adh (Nat.zero_lt_of_lt (show j < _ from (by rw [List.length_take, List.length_drop]; omega)))) (get_d (l := (f.places.drop (x.1 * f.wide.toNat)).take (x.1 * f.wide.toNat + f.wide.toNat - x.1 * f.wide.toNat)) (u := 0) (by rw [List.length_take, List.length_drop]; omega)) rfl eF1)) rfl <| vl (as_ rfl) rfl <| nl <| Rd.nT <| ?_
    refine Rd.rd [(0, 0), (3, 2), (4, 3), (5, 3)] [0, 1, 2, 3, 4, 5] (by kernel_rfl) (by kernel_rfl) ?_
    refine fq rfl rfl (fun _ x => ld rfl ((B6.later x).one eF37 rfl)) rfl <| fw rfl rfl (fun _ => mv rfl) rfl <| fw rfl rfl (fun _ => si Try.underlying9 rfl rfl (place_get hj2).1 (place_get hj2).2) rfl <| fx rfl rfl rfl fun w_35 x_36 Q hK => bs (e := 5) (cs := [.int .u8 (((sgn8 (((f.places.drop (x.1 * f.wide.toNat)).take (x.1 * f.wide.toNat + f.wide.toNat - x.1 * f.wide.toNat)).getD j 0)).toNat : Int))]) rfl (fun _ => by kernel_rfl) rfl fun w_37 b_38 x_39 l_40 B_41 => hK _ _ ⟨Ext.tr x_36 x_39, ?_⟩
    have q_42 := x_36.size
    have z_35 := z_27.trans (Mod.of_ext x_36)
    have q_43 := x_39.size
    have z_37 := z_35.trans (Mod.of_ext x_39)
    have q_44 := B_41.lt
    have OJ := OJ.later (Ext.tr x_36 x_39)
    have pc_47 := OJ
    refine fb rfl rfl rfl fun w_45 x_46 Q hK => ap FldW_el_S_uint8 Rep.flat_bare (OJ.later x_46) ((Blk.has1 (R := repY) (by_ := 1) (q := (sgn8 (((f.places.drop (x.1 * f.wide.toNat)).take (x.1 * f.wide.toNat + f.wide.toNat - x.1 * f.wide.toNat)).getD j 0))) B_41 ⟨rfl, trivial⟩ (by decide)).keep x_46) rfl rfl (by simp only [List.length_append, List.length_cons, List.length_nil]; omega) (by simp only [List.length_append, List.length_cons, List.length_nil]; omega) (by have := x_46.size; omega) rfl fun w_48 A_49 c_50 m_51 O_52 g_53 n_54 => hK _ _ ?_
    have q_55 := x_46.size
    have z_45 := z_37.trans (Mod.of_ext x_46)
    have q_56 := m_51.size
    have z_48 := z_45.md m_51 (fun q hq => .inr ((fun q hq => Nat.le_trans (by omega) ((OJ.later x_46).lt q hq).1) q hq))
    have u_57 := fun q hq => (O_52.lt q hq).2
    have q_58 := m_51.size
    have B6 := B6.later (Ext.tr x_36 (Ext.tr x_39 x_46))
    have B6 := B6.mod m_51 (fun hq => d_26 _ hq rfl)
    have pc_61 := B6
    refine fb rfl rfl rfl fun w_59 x_60 Q hK => st (new := [.slice A_49 ((txt f pre ++ rowT f x.1 j ++ [(sgn8 (((f.places.drop (x.1 * f.wide.toNat)).take (x.1 * f.wide.toNat + f.wide.toNat - x.1 * f.wide.toNat)).getD j 0))]).length) c_50]) rfl rfl (B6.later x_60) rfl eF38 rfl rfl rfl fun w_62 m_63 B6 => hK _ _ ?_
    have q_65 := x_60.size
    have z_59 := z_48.trans (Mod.of_ext x_60)
    have q_66 := m_63.size
    have z_62 := z_59.md m_63 (fun q hq => .inl hq)
    have q_64 := m_63.size
    refine fn fun w_67 x_68 => ?_
    have q_69 := x_68.size
    have z_67 := z_62.trans (Mod.of_ext x_68)
    refine Rd.nB <| Rd.nT <| Rd.rg <| vl (bad rfl rfl (inI (by omega))) rfl <| vl (mv rfl) rfl <| nl <| ?_
    have hKF := hKF.later (Ext.tr x_36 (Ext.tr x_39 x_46))
    have hKF := hKF.mod m_51 (fun q hq => (pc_47.later x_46).cellsAt q hq)
    have hKF := hKF.later x_60
    have hKF := hKF.mod m_63 (fun q hq => by rw [List.mem_singleton.1 hq]; exact ⟨_, _, _, (pc_61.later x_60)⟩)
    have hKF := hKF.later x_68
    have B6 := B6.later x_68
    have O_52 := O_52.later x_60
    have O_52 := O_52.mod m_63 (fun q hq h => by have hb := List.mem_singleton.1 h; exfalso; (exact Or.elim (g_53 q hq) (fun k_70 => by (exact d_26 q k_70 hb)) (fun k_70 => by omega)))
    have O_52 := O_52.later x_68
    exact Rd.nI _ _ ⟨j + 1, A_49, c_50, rfl, rfl, z_67, hKF, (by rw [rowT_succ (by omega), ← List.append_assoc]; exact B6), (by rw [rowT_succ (by omega), ← List.append_assoc]; exact O_52), by omega, (fun q hq hb => by (exact Or.elim (g_53 q hq) (fun k_71 => by (exact d_26 q k_71 hb)) (fun k_71 => by omega)))⟩ (by omega) (.cons rfl (.cons rfl (.cons rfl (.cons rfl (.cons rfl (.cons rfl (.cons (loI rfl (by first | omega | rfl | (simp <;> omega))) .nil)))))))
   ·refine Rd.xt <| Rd.xT <| xK <| Rd.xB <| Rd.nT <| Rd.rg <| vl (ld rfl (B6.one eF37 rfl)) rfl <| bs (e := 5) (cs := [.int .u8 10]) rfl (fun _ => by kernel_rfl) rfl fun w_72 b_73 x_74 l_75 B_76 => ?_
    have q_77 := x_74.size
    have z_72 := z_27.trans (Mod.of_ext x_74)
    have q_78 := B_76.lt
    have OJ := OJ.later x_74
    have pc_79 := OJ
    refine ap FldW_el_S_uint8 Rep.flat_bare OJ (Blk.has1 (R := repY) (by_ := 1) (q := (10 : UInt8)) B_76 ⟨rfl, trivial⟩ (by decide)) rfl rfl (by simp only [List.length_append, List.length_cons, List.length_nil]; omega) (by simp only [List.length_append, List.length_cons, List.length_nil]; omega) (by omega) rfl fun w_80 A_81 c_82 m_83 O_84 g_85 n_86 => ?_
    have q_87 := m_83.size
    have z_80 := z_72.md m_83 (fun q hq => .inr ((fun q hq => Nat.le_trans (by omega) (OJ.lt q hq).1) q hq))
    have u_88 := fun q hq => (O_84.lt q hq).2
    have q_89 := m_83.size
    have B6 := B6.later x_74
    have B6 := B6.mod m_83 (fun hq => d_26 _ hq rfl)
    have pc_90 := B6
    refine st (new := [.slice A_81 ((txt f pre ++ rowT f x.1 j ++ [(10 : UInt8)]).length) c_82]) rfl rfl B6 rfl eF38 rfl rfl rfl fun w_91 m_92 B6 => ?_
    have q_94 := m_92.size
    have z_91 := z_80.md m_92 (fun q hq => .inl hq)
    have q_93 := m_92.size
    refine nl <| Rd.nB <| ?_
    have hKF := hKF.later x_74
    have hKF := hKF.mod m_83 (fun q hq => pc_79.cellsAt q hq)
    have hKF := hKF.mod m_92 (fun q hq => by rw [List.mem_singleton.1 hq]; exact ⟨_, _, _, pc_90⟩)
    have O_84 := O_84.mod m_92 (fun q hq h => by have hb := List.mem_singleton.1 h; exfalso; (exact Or.elim (g_85 q hq) (fun k_95 => by (exact d_26 q k_95 hb)) (fun k_95 => by omega)))
    have hjw : j = f.wide.toNat := by omega
    rw [hjw] at B6 O_84
    exact fun _ _ => ⟨hKF, Mod.keep22 zB z_91 ⟨by omega, by omega⟩ (nm1 (by omega)) (nm1 (by omega)), ⟨A_81, c_82, (by rw [txt_app]; exact B6), (by rw [txt_app]; exact O_84), z_91⟩⟩
  ·intro D xs_ wD hD_ hS_ hI_ hDK
   obtain ⟨Ao, co, B5, OO, zD⟩ := hI_
   have hS2 : xs_ = List.finRange f.high.toNat := hS_
   subst hS2
   have q_96 := zD.size
   have zD2 := Ext.mod z_19 zD (fun q hq => by rw [List.mem_singleton.1 hq]; omega)
   refine Rt.nB <| Rt.nT <| Rt.sq <| Rt.rg <| Rt.vl (ld rfl (B5.one eF37 rfl)) rfl <| Rt.vl (cvB Try.underlying101 Try.underlying5 Try.underlying9 OO.has rfl) rfl <| Rt.vl (as_ rfl) rfl <| Rt.vl (as_ rfl) rfl <| Rt.nl <| Rt.nT <| Rt.rt <| Rt.tR hDK (.tmp rfl (.tmp rfl .nil)) <| ?_
   exact ⟨by rw [write_ok h_11, h_11]; rfl, Ext.mod zD2 hDK.un (fun q hq => by rw [List.mem_singleton.1 hq]; omega)⟩
end
section
open Go.RowKit
theorem FldR_el_S_int : ElT Try.prog repI 22 3 8 := ElT.mk_ (z := .int .i64 0) (k := 1) Try.underlying22 info_int rfl rfl (by decide) (fun j u h => raw0I j u h)
theorem idxB (s : ByteArray) (b : UInt8) (w : World) : Calls Try.prog 63 #[.string s, .int .u8 (b.toNat : Int)] w fun e w' => e = .returned (.int .i64 (Lib.indexByte s.data.toList b)) ∧ Ext w w' :=
 (Try.strings_IndexByte s (b.toNat : Int) w).mono fun e w' h => ⟨by rw [h.1]; simp, by rw [h.2]; exact Ext.rf _⟩
theorem cntB (s : ByteArray) (b : UInt8) (w : World) : Calls Try.prog 64 #[.string s, .string (bytesS [b])] w fun e w' => e = .returned (.int .i64 ((Lib.countByte s.data.toList b : Nat) : Int)) ∧ Ext w w' :=
 (Try.strings_Count_one s b w).mono fun e w' h => ⟨by rw [h.1], by rw [h.2]; exact Ext.rf _⟩
theorem str_get {s : ByteArray} {k : Nat} (h : k < s.size) : s.data.toList[(k : Int).toNat]? = some (s.data.toList.getD k 0) := by
 rw [Int.toNat_natCast]
 exact get_d (by rw [Array.length_toList]; exact h)
theorem idx_bd : ∀ (l : List UInt8) (b : UInt8), -1 ≤ Lib.indexByte l b ∧ Lib.indexByte l b < (l.length : Int)
 | [], b => ⟨Int.le_refl _, by show (-1 : Int) < 0; omega⟩
 | x :: l, b => by
  have := idx_bd l b
  unfold Lib.indexByte
  rw [List.length_cons]
  split
  ·omega
  ·split <;> omega
def readPl (l : List UInt8) : List Int := (l.map fun b => Lib.indexByte ([46, 35, 116, 111] : List UInt8) b).filter fun n => decide (0 ≤ n)
theorem readPl_len (l : List UInt8) : (readPl l).length ≤ l.length := by unfold readPl; exact Nat.le_trans (List.length_filter_le _ _) (by rw [List.length_map]; exact Nat.le_refl _)
theorem readPl_take {l : List UInt8} {k : Nat} (hk : k < l.length) : readPl (l.take (k + 1)) = readPl (l.take k) ++ [Lib.indexByte ([46, 35, 116, 111] : List UInt8) (l.getD k 0)].filter fun n => decide (0 ≤ n) := by
 rw [List.take_succ_eq_append_getElem hk]
 unfold readPl
 rw [List.map_append, List.filter_append, List.getD_eq_getElem?_getD, List.getElem?_eq_getElem hk]; rfl
theorem read_yes {s : ByteArray} {k : Nat} (hk : k < s.size) (h : 0 ≤ Lib.indexByte ([46, 35, 116, 111] : List UInt8) (s.data.toList.getD k 0)) : readPl (s.data.toList.take (k + 1)) = readPl (s.data.toList.take k) ++ [Lib.indexByte ([46, 35, 116, 111] : List UInt8) (s.data.toList.getD k 0)] := by
 rw [readPl_take (by rw [Array.length_toList]; exact hk), List.filter_cons, if_pos (decide_eq_true h)]; rfl
theorem read_no {s : ByteArray} {k : Nat} (hk : k < s.size) (h : ¬ 0 ≤ Lib.indexByte ([46, 35, 116, 111] : List UInt8) (s.data.toList.getD k 0)) : readPl (s.data.toList.take (k + 1)) = readPl (s.data.toList.take k) := by
 rw [readPl_take (by rw [Array.length_toList]; exact hk), List.filter_cons, if_neg (by rw [decide_eq_false h]; decide)]; simp
def readFld (s : ByteArray) : Fld := ⟨Lib.indexByte s.data.toList 10, ((Lib.countByte s.data.toList 10 : Nat) : Int), readPl s.data.toList⟩
def readE (s : ByteArray) : Int := if ((readFld s).chk != 0 || !decide (fldText (readFld s) = s)) = true then 4 else 0
def readW (s : ByteArray) : Fld := if ((readFld s).chk != 0 || !decide (fldText (readFld s) = s)) = true then ⟨0, 0, []⟩ else readFld s
theorem read_ok {s : ByteArray} (h : ((readFld s).chk != 0 || !decide (fldText (readFld s) = s)) = false) : readW s = readFld s ∧ readE s = 0 := by unfold readW readE; rw [h]; exact ⟨rfl, rfl⟩
theorem read_none {s : ByteArray} {w w' : World} (h : ((readFld s).chk != 0 || !decide (fldText (readFld s) = s)) = true) (x : Ext w w') : ∃ A c, (Ending.returned (.tuple #[.agg #[.int .i64 0, .int .i64 0, .slice none 0 0], .int .i64 4]) = .returned (.tuple #[.agg #[.int .i64 (readW s).wide, .int .i64 (readW s).high, .slice A (readW s).places.length c], .int .i64 (readE s)])) ∧ repI.SOwn 3 8 w' w.heap.size (Rep.blkOf A) A c (readW s).places ∧ Ext w w' := by
 have e1 : readW s = ⟨0, 0, []⟩ := by unfold readW; rw [if_pos h]
 have e2 : readE s = 4 := by unfold readE; rw [if_pos h]
 rw [e1, e2]
 exact ⟨none, 0, rfl, Rep.SOwn.nil _, x⟩
theorem read_any (s : ByteArray) (w : World) (hs : s.size ≤ 17592186044415) :
  Calls Try.prog 38 #[.string s] w (fun e w' => ∃ A c, e = .returned (.tuple #[.agg #[.int .i64 (readW s).wide, .int .i64 (readW s).high, .slice A (readW s).places.length c], .int .i64 (readE s)]) ∧ repI.SOwn 3 8 w' w.heap.size (Rep.blkOf A) A c (readW s).places ∧ Ext w w') := by
 refine calls_W (n := 46) Try.func38 rfl rfl rfl ?_
 refine sq <| rg <| al rfl eF39 rfl rfl fun w_1 b_2 x_3 l_4 B_5 => ?_
 have q_6 := x_3.size
 have z_1 := Ext.tr (Ext.rf w) x_3
 have q_7 := B_5.lt
 refine vl (as_ rfl) rfl <| nl <| nT <| sq <| rg <| vl (mv rfl) rfl <| ca eF40 rfl rfl ((idxB s (10 : UInt8) _).mono ?_)
 rintro e w_8 ⟨rfl, x_9⟩
 refine ⟨_, rfl, ?_⟩
 have q_10 := x_9.size
 have z_8 := Ext.tr z_1 x_9
 refine vl (mv rfl) rfl <| ca eF41 rfl rfl ((cntB s 10 _).mono ?_)
 rintro e w_11 ⟨rfl, x_12⟩
 refine ⟨_, rfl, ?_⟩
 have q_13 := x_12.size
 have z_11 := Ext.tr z_8 x_12
 refine vl (v := .agg #[.int .i64 (Lib.indexByte s.data.toList (10 : UInt8)), .int .i64 (((Lib.countByte s.data.toList 10 : Nat) : Int)), .slice none 0 0]) (bd rfl (by kernel_rfl)) rfl <| al rfl eF39 rfl rfl fun w_14 b_15 x_16 l_17 B_18 => ?_
 have q_19 := x_16.size
 have z_14 := Ext.tr z_11 x_16
 have q_20 := B_18.lt
 refine st (new := [.int .i64 (Lib.indexByte s.data.toList (10 : UInt8)), .int .i64 (((Lib.countByte s.data.toList 10 : Nat) : Int)), .slice none 0 0]) rfl rfl B_18 rfl eF17 rfl rfl rfl fun w_21 m_22 B_18 => ?_
 have q_24 := m_22.size
 have z_21 := Ext.mod z_14 m_22 (ge1 (by omega))
 have q_23 := m_22.size
 refine nl <| nT <| sq <| sq <| rg <| vl (mv rfl) rfl <| vl (lnS Try.underlying9 rfl (by omega)) rfl <| vl (mv rfl) rfl <| nl <| nT <| bk <| ?_
 have B_5 := B_5.later (Ext.tr x_9 (Ext.tr x_12 x_16))
 have B_5 := B_5.mod m_22 (nm1 (by omega))
 refine lp (fun mI EI wI => ∃ k : Nat, ∃ Ao : Option Addr, ∃ co : Nat, EI = [(0, .string s), (2, .pointer (some ⟨b_2, 0, none⟩)), (3, .int .i64 0), (4, .pointer (some ⟨b_15, 0, none⟩)), (15, .int .i64 (((s).size : Int))), (16, .int .i64 (k : Int))] ∧ mI = s.size - k ∧ Ext w wI ∧ Blk wI b_2 [.int .i64 0, .int .i64 0, .slice none 0 0] 24 (0, 0) ∧ Blk wI b_15 [.int .i64 (Lib.indexByte s.data.toList (10 : UInt8)), .int .i64 (((Lib.countByte s.data.toList 10 : Nat) : Int)), .slice Ao ((readPl (s.data.toList.take k)).length) co] 24 (0, 0) ∧ repI.SOwn 3 8 wI w.heap.size (Rep.blkOf Ao) Ao co (readPl (s.data.toList.take k)) ∧ (k ≤ s.size) ∧ (∀ q ∈ Rep.blkOf Ao, q = b_2 → False) ∧ (∀ q ∈ Rep.blkOf Ao, q = b_15 → False)) _ _ ⟨0, none, 0, rfl, rfl, z_21, B_5, B_18, (Rep.SOwn.nil _), by omega, (fun q hq hb => by (simp [Rep.blkOf] at hq)), (fun q hq hb => by (simp [Rep.blkOf] at hq))⟩ (.cons rfl (.cons rfl (.cons rfl (.cons rfl (.cons rfl (.cons (loI rfl (by first | omega | rfl | (simp <;> omega))) .nil)))))) ?_
 rintro m_28 E_29 w_27 ⟨k, Ao, co, rfl, rfl, z_27, B_5, B4, OO, hk, d_25, d_26⟩
 have q_30 := z_27.size
 have q_31 := B_5.lt
 have q_32 := B4.lt
 have u_33 := fun q hq => (OO.lt q hq).2
 have hrl := readPl_len (s.data.toList.take k)
 have htl : (s.data.toList.take k).length ≤ k := List.length_take_le _ _
 refine sq <| rg <| vl (blt rfl rfl) rfl <| nl <| nT <| sq <| ?_
 refine clt rfl (fun h_34 => ?_) (fun h_34 => ?_)
 ·have hib := idx_bd ([46, 35, 116, 111] : List UInt8) (s.data.toList.getD k 0)
  refine sk <| nT <| sq <| bk <| sq <| rg <| vl (mv rfl) rfl <| vl (as_ rfl) rfl <| nl <| nT <| sq <| rg <| vl (mv rfl) rfl <| vl (mv rfl) rfl <| vl (si Try.underlying9 rfl rfl (by omega) (str_get (s := s) (by omega))) rfl <| ca eF40 rfl rfl ((idxB (bytesS [46, 35, 116, 111]) (s.data.toList.getD k 0) _).mono ?_)
  rintro e w_35 ⟨rfl, x_36⟩
  refine ⟨_, rfl, ?_⟩
  have q_37 := x_36.size
  have z_35 := Ext.tr z_27 x_36
  refine vl (as_ rfl) rfl <| nl <| nT <| sq <| rg <| vl (mv rfl) rfl <| vl (bge rfl rfl) rfl <| nl <| nT <| ?_
  refine cle rfl (fun h_38 => ?_) (fun h_38 => ?_)
  ·refine rg <| vl (fa eF19 rfl) rfl <| ?_
   have B4 := B4.later x_36
   refine vl (ld rfl (B4.one eF20 rfl)) rfl <| vl (mv rfl) rfl <| bs (e := 3) (cs := [.int .i64 (Lib.indexByte ([46, 35, 116, 111] : List UInt8) (s.data.toList.getD k 0))]) rfl (fun _ => by kernel_rfl) rfl fun w_39 b_40 x_41 l_42 B_43 => ?_
   have q_44 := x_41.size
   have z_39 := Ext.tr z_35 x_41
   have q_45 := B_43.lt
   have OO := OO.later (Ext.tr x_36 x_41)
   refine ap FldR_el_S_int Rep.flat_bare OO (Blk.has1 (R := repI) (by_ := 8) (q := Lib.indexByte ([46, 35, 116, 111] : List UInt8) (s.data.toList.getD k 0)) B_43 ⟨rfl, okI_iff.2 (by have := hib.2; simp only [List.length_cons, List.length_nil] at this; omega)⟩ (by decide)) rfl rfl (by simp only [List.length_cons, List.length_nil]; omega) (by simp only [List.length_cons, List.length_nil]; omega) z_39.size rfl fun w_46 A_47 c_48 m_49 O_50 g_51 n_52 => ?_
   have q_53 := m_49.size
   have z_46 := Ext.mod z_39 m_49 (fun q hq => (OO.lt q hq).1)
   have u_54 := fun q hq => (O_50.lt q hq).2
   have q_55 := m_49.size
   refine vl (fa eF19 rfl) rfl <| ?_
   have B4 := B4.later x_41
   have B4 := B4.mod m_49 (fun hq => d_26 _ hq rfl)
   refine st (new := [.int .i64 (Lib.indexByte s.data.toList (10 : UInt8)), .int .i64 (((Lib.countByte s.data.toList 10 : Nat) : Int)), .slice A_47 ((readPl (s.data.toList.take k) ++ [Lib.indexByte ([46, 35, 116, 111] : List UInt8) (s.data.toList.getD k 0)]).length) c_48]) rfl rfl B4 rfl eF42 rfl rfl rfl fun w_56 m_57 B4 => ?_
   have q_59 := m_57.size
   have z_56 := Ext.mod z_46 m_57 (ge1 (by omega))
   have q_58 := m_57.size
   refine nl <| nB <| nT <| rg <| vl (bad rfl rfl (inI (by omega))) rfl <| vl (mv rfl) rfl <| nl <| ?_
   have e1 : readPl (s.data.toList.take (k + 1)) = readPl (s.data.toList.take k) ++ [Lib.indexByte ([46, 35, 116, 111] : List UInt8) (s.data.toList.getD k 0)] := read_yes (by omega) h_38
   have B_5 := B_5.later (Ext.tr x_36 x_41)
   have B_5 := B_5.mod m_49 (fun hq => d_25 _ hq rfl)
   have B_5 := B_5.mod m_57 (nm1 (by omega))
   have O_50 := O_50.mod m_57 (fun q hq h => by have hb := List.mem_singleton.1 h; exfalso; (exact Or.elim (g_51 q hq) (fun k_60 => by (exact d_26 q k_60 hb)) (fun k_60 => by omega)))
   exact nI _ _ ⟨k + 1, A_47, c_48, rfl, rfl, z_56, B_5, (by rw [e1]; exact B4), (by rw [e1]; exact O_50), by omega, (fun q hq hb => by (exact Or.elim (g_51 q hq) (fun k_61 => by (exact d_25 q k_61 hb)) (fun k_61 => by omega))), (fun q hq hb => by (exact Or.elim (g_51 q hq) (fun k_62 => by (exact d_26 q k_62 hb)) (fun k_62 => by omega)))⟩ (by omega) (.cons rfl (.cons rfl (.cons rfl (.cons rfl (.cons rfl (.cons (loI rfl (by first | omega | rfl | (simp <;> omega))) .nil))))))
  ·refine sk <| nB <| nT <| rg <| vl (bad rfl rfl (inI (by omega))) rfl <| vl (mv rfl) rfl <| nl <| ?_
   have e1 : readPl (s.data.toList.take (k + 1)) = readPl (s.data.toList.take k) := read_no (by omega) h_38
   have B_5 := B_5.later x_36
   have B4 := B4.later x_36
   have OO := OO.later x_36
   exact nI _ _ ⟨k + 1, Ao, co, rfl, rfl, z_35, B_5, (by rw [e1]; exact B4), (by rw [e1]; exact OO), by omega, (fun q hq hb => by (exact d_25 q hq hb)), (fun q hq hb => by (exact d_26 q hq hb))⟩ (by omega) (.cons rfl (.cons rfl (.cons rfl (.cons rfl (.cons rfl (.cons (loI rfl (by first | omega | rfl | (simp <;> omega))) .nil))))))
 ·refine xt <| xT <| xK <| xB <| nT <| sq <| sq <| rg <| vl (ld rfl (B4.all eF16 eF17)) rfl <| ca eF43 rfl rfl ((write_any (⟨Lib.indexByte s.data.toList (10 : UInt8), ((Lib.countByte s.data.toList 10 : Nat) : Int), readPl (s.data.toList.take k)⟩ : Fld) _ _ _ OO.has).mono ?_)
  rintro e w_63 ⟨rfl, x_64⟩
  refine ⟨_, rfl, ?_⟩
  have q_65 := x_64.size
  have z_63 := Ext.tr z_27 x_64
  refine vl (mv rfl) rfl <| vl (ex rfl rfl) rfl <| vl (ex rfl rfl) rfl <| vl (as_ rfl) rfl <| vl (as_ rfl) rfl <| nl <| nT <| sq <| rg <| vl (mv rfl) rfl <| vl (bne rfl rfl) rfl <| vl (mv rfl) rfl <| vQ rfl rfl rfl rfl (fun hc => mv rfl) rfl <| vQ rfl rfl rfl rfl (fun hc => mv rfl) rfl <| vQ rfl rfl rfl rfl (fun hc => bnT Try.underlying9 (gt hc rfl) (gt hc rfl)) rfl <| vl (pO rfl rfl rfl rfl) rfl <| nl <| nT <| ?_
  refine cb rfl (fun h_66 => ?_) (fun h_66 => ?_)
  ·have ek : (⟨Lib.indexByte s.data.toList (10 : UInt8), ((Lib.countByte s.data.toList 10 : Nat) : Int), readPl (s.data.toList.take k)⟩ : Fld) = readFld s := by unfold readFld; rw [List.take_of_length_le (by rw [Array.length_toList]; show s.size ≤ k; omega)]
   refine sq <| rg <| vl (v := .agg #[.int .i64 0, .int .i64 0, .slice none 0 0]) (bd rfl (by kernel_rfl)) rfl <| ?_
   have B_5 := B_5.later x_64
   refine st (new := [.int .i64 0, .int .i64 0, .slice none 0 0]) rfl rfl B_5 rfl eF17 rfl rfl rfl fun w_67 m_68 B_5 => ?_
   have q_70 := m_68.size
   have z_67 := Ext.mod z_63 m_68 (ge1 (by omega))
   have q_69 := m_68.size
   refine vl (as_ rfl) rfl <| nl <| nT <| rt <| tT <| tR (.cell rfl (B_5.all eF16 eF17) (.tmp rfl .nil)) <| ?_
   exact read_none (by rw [← ek]; exact h_66) z_67
  ·have ek : (⟨Lib.indexByte s.data.toList (10 : UInt8), ((Lib.countByte s.data.toList 10 : Nat) : Int), readPl (s.data.toList.take k)⟩ : Fld) = readFld s := by unfold readFld; rw [List.take_of_length_le (by rw [Array.length_toList]; show s.size ≤ k; omega)]
   refine sk <| nT <| sq <| rg <| ?_
   have B4 := B4.later x_64
   refine vl (ld rfl (B4.all eF16 eF17)) rfl <| ?_
   have B_5 := B_5.later x_64
   refine st (new := [.int .i64 (Lib.indexByte s.data.toList (10 : UInt8)), .int .i64 (((Lib.countByte s.data.toList 10 : Nat) : Int)), .slice Ao ((readPl (s.data.toList.take k)).length) co]) rfl rfl B_5 rfl eF17 rfl rfl rfl fun w_71 m_72 B_5 => ?_
   have q_74 := m_72.size
   have z_71 := Ext.mod z_63 m_72 (ge1 (by omega))
   have q_73 := m_72.size
   refine vl (as_ rfl) rfl <| nl <| nT <| rt <| tR (.cell rfl (B_5.all eF16 eF17) (.tmp rfl .nil)) <| ?_
   have OO := OO.later x_64
   have OO := OO.mod m_72 (fun q hq h => by have hb := List.mem_singleton.1 h; exfalso; (exact d_25 q hq hb))
   obtain ⟨r1, r2⟩ := read_ok (s := s) (by rw [← ek]; exact h_66)
   rw [r1, r2]
   exact ⟨Ao, co, by rw [← ek]; rfl, by rw [← ek]; exact OO, z_71⟩
end
section
open Go.RowKit
def sightF : Fld := ⟨3, 2, [0, 1, 0, 0, 0, 0]⟩
end
section
open Go.RowKit
theorem read_flood (w : World) : Calls Try.prog 38 #[.string (bytesS [46, 46, 10, 35, 116, 10])] w fun e w' => ∃ A c, e = .returned (.tuple #[.agg #[.int .i64 floodFl.wide, .int .i64 floodFl.high, .slice A floodFl.places.length c], .int .i64 0]) ∧ repI.SOwn 3 8 w' w.heap.size (Rep.blkOf A) A c floodFl.places ∧ Ext w w' := by
 have e1 : readW (bytesS [46, 46, 10, 35, 116, 10]) = floodFl := by decide +kernel
 have e2 : readE (bytesS [46, 46, 10, 35, 116, 10]) = 0 := by decide +kernel
 have := read_any (bytesS [46, 46, 10, 35, 116, 10]) w (by decide)
 rw [e1, e2] at this
 exact this
theorem from_small (P A : Option Addr) (pc ac : Nat) (w : World) (hP : repI.SHas 8 w P pc floodFl.places) (hS : Cel.rep.SHas 16 w A ac [(⟨0, 0⟩ : Cel)]) :
  Calls Try.prog 14 #[.agg #[.int .i64 floodFl.wide, .int .i64 floodFl.high, .slice P floodFl.places.length pc], .slice A 1 ac] w (fun e w' => ∃ A' k, e = .returned (.tuple #[.slice A' 4 k, .int .i64 0]) ∧ repI.SOwn 3 8 w' w.heap.size (Rep.blkOf A') A' k ([0, 2, -1, 5] : List Int) ∧ Ext w w') := by
 refine (from_any floodFl [⟨0, 0⟩] P A pc ac w hP hS).mono ?_
 rintro e w' ⟨e', A', k, far, rfl, h1, h2, h3⟩
 obtain ⟨h4, h5⟩ := h2.zero (by decide) (by decide) (by decide)
 have h6 := h5.list (by decide) flood_small
 subst h6; subst h4
 exact ⟨A', k, rfl, h1, h3⟩
theorem floodLives_any  (w : World) :
  Calls Try.prog 15 #[] w (fun e w' => e = .returned (.bool true) ∧ Ext w w') := by
 refine calls_W (n := 27) Try.func15 rfl rfl rfl ?_
 refine sq <| rg <| vl (as_ rfl) rfl <| nl <| nT <| sq <| rg <| ca eF44 rfl rfl ((read_flood _).mono ?_)
 rintro e w_4 ⟨A_1, c_1, rfl, OR_1, x_5⟩
 refine ⟨_, rfl, ?_⟩
 have q_6 := x_5.size
 have z_4 := Ext.tr (Ext.rf w) x_5
 have u_2 := fun q hq => (OR_1.lt q hq).2
 have lo_3 := fun q hq => (OR_1.lt q hq).1
 refine vl (mv rfl) rfl <| vl (ex rfl rfl) rfl <| vl (ex rfl rfl) rfl <| al rfl eF39 rfl rfl fun w_7 b_8 x_9 l_10 B_11 => ?_
 have q_12 := x_9.size
 have z_7 := Ext.tr z_4 x_9
 have q_13 := B_11.lt
 refine st (new := [.int .i64 floodFl.wide, .int .i64 floodFl.high, .slice A_1 floodFl.places.length c_1]) rfl rfl B_11 rfl eF17 rfl rfl rfl fun w_14 m_15 B_11 => ?_
 have q_17 := m_15.size
 have z_14 := Ext.mod z_7 m_15 (ge1 (by omega))
 have q_16 := m_15.size
 refine vl (as_ rfl) rfl <| nl <| nT <| sq <| rg <| vl (ld rfl (B_11.all eF16 eF17)) rfl <| vl (v := .agg #[.int .i64 0, .int .i64 0]) (bd rfl (by kernel_rfl)) rfl <| bs (e := 35) (cs := [.int .i64 0, .int .i64 0]) rfl (fun _ => by kernel_rfl) rfl fun w_18 b_19 x_20 l_21 B_22 => ?_
 have q_23 := x_20.size
 have z_18 := Ext.tr z_14 x_20
 have q_24 := B_22.lt
 have OR_1 := OR_1.later x_9
 have OR_1 := OR_1.mod m_15 (fk1 u_2 (by omega))
 have OR_1 := OR_1.later x_20
 refine ca eF45 rfl rfl ((from_small _ _ _ _ _ OR_1.has (Blk.hasN (R := Cel.rep) (by_ := 16) (k := [(⟨0, 0⟩ : Cel)]) B_22 [[.int .i64 0, .int .i64 0]] rfl (⟨⟨rfl, ⟨okI_iff.2 (by decide), okI_iff.2 (by decide)⟩⟩, trivial⟩) (by simp) (by simp))).mono ?_)
 rintro e w_28 ⟨A25, c25, rfl, OF25, x_29⟩
 refine ⟨_, rfl, ?_⟩
 have q_30 := x_29.size
 have z_28 := Ext.tr z_18 x_29
 have u_26 := fun q hq => (OF25.lt q hq).2
 have lo_27 := fun q hq => (OF25.lt q hq).1
 refine vl (mv rfl) rfl <| vl (ex rfl rfl) rfl <| vl (ex rfl rfl) rfl <| vl (as_ rfl) rfl <| vl (as_ rfl) rfl <| nl <| nT <| sq <| rg <| vl (mv rfl) rfl <| vl (beq rfl rfl) rfl <| vl (mv rfl) rfl <| ug rfl rfl rfl <| vl (mv rfl) rfl <| ug rfl rfl rfl <| vl (beq rfl rfl) rfl <| vl (pkT rfl rfl) rfl <| vl (mv rfl) rfl <| ug rfl rfl rfl <| vl (mv rfl) rfl <| ug rfl rfl rfl <| bs (e := 3) (cs := [.int .i64 0, .int .i64 2, .int .i64 (-1), .int .i64 5]) rfl (fun _ => by kernel_rfl) rfl fun w_31 b_32 x_33 l_34 B_35 => ?_
 have q_36 := x_33.size
 have z_31 := Ext.tr z_28 x_33
 have q_37 := B_35.lt
 refine ug rfl rfl rfl <| ?_
 have OF25 := OF25.later x_33
 refine ca eF46 rfl rfl ((equal_I _ _ _ _ _ _ ([0, 2, -1, 5] : List Int) ([0, 2, -1, 5]) _ OF25.has (Blk.hasN (R := repI) (by_ := 8) (k := [0, 2, -1, 5]) B_35 [[.int .i64 0], [.int .i64 2], [.int .i64 (-1)], [.int .i64 5]] rfl (⟨⟨rfl, okI_iff.2 (by decide)⟩, ⟨⟨rfl, okI_iff.2 (by decide)⟩, ⟨⟨rfl, okI_iff.2 (by decide)⟩, ⟨⟨rfl, okI_iff.2 (by decide)⟩, trivial⟩⟩⟩⟩) (by simp) (by simp))).mono ?_)
 rintro e w_38 ⟨rfl, x_39⟩
 refine ⟨_, rfl, ?_⟩
 have q_40 := x_39.size
 have z_38 := Ext.tr z_31 x_39
 refine vl (pkT rfl rfl) rfl <| vl (as_ rfl) rfl <| nl <| nT <| rt <| tR (.tmp rfl .nil) <| ?_
 exact ⟨ret_true (by decide), z_38⟩
end
section
open Go.RowKit
def BE (D : Nat) (w w' : World) : Prop := w.heap.size ≤ w'.heap.size ∧ (D ≤ w.heap.size → Below D w w')
theorem BE.rf (D : Nat) (w : World) : BE D w w := ⟨Nat.le_refl _, fun _ => Below.refl _ w⟩
theorem BE.tr {D : Nat} {a b c : World} (h : BE D a b) (k : BE D b c) : BE D a c := ⟨Nat.le_trans h.1 k.1, fun hd => Below.trans (h.2 hd) (k.2 (Nat.le_trans hd h.1))⟩
theorem BE.of {D : Nat} {a b : World} (h : Ext a b) : BE D a b := ⟨h.size, fun hd => Below.mono h hd⟩
theorem BE.at {a b : World} (h : BE a.heap.size a b) : Ext a b := h.2 (Nat.le_refl _)
section
variable {D : Nat} {P : Program} {ops : Array Oper} {Q : Exit → Act → World → Prop} {kd : Nat → Nat}
def QInD (D : Nat) (P : Program) (ops : Array Oper) (w0 : World) (o : Oper) (v : Value) (a : Act) : Prop :=
  (Region.wanted o (yielded ops a.tmps) = true ∧ ∀ w, BE D w0 w → qUpon P w v ((execOp a.eval o).run P w)) ∨
  (Region.wanted o (yielded ops a.tmps) = false ∧ v = undef)
def stepFD (D : Nat) (P : Program) (ops : Array Oper) (Q : Exit → Act → World → Prop) (kd : Nat → Nat) (i : Nat) (K : Act → World → Prop) (a : Act) (w0 : World) : Prop :=
  ∃ o, ops[i]? = some o ∧
    ((kd i ≤ 1 ∧ ∃ v, QInD D P ops w0 o v a ∧ K (a.put o.dst v) w0) ∨
     (1 < kd i ∧ ∀ w, Ext w0 w → wpOp P ops Q i (fun a' w' => (kd i = 2 → BE D w0 w') ∧ K a' w') a w))
def anyFD (D : Nat) (P : Program) (ops : Array Oper) (Q : Exit → Act → World → Prop) (kd : Nat → Nat) : Nat → Array Bool → Act → World → Prop
  | 0, l, a, w0 => Region.ready .any ops l = [] ∧ ∀ w, Ext w0 w → Q .normal a w
  | f + 1, l, a, w0 => (Region.ready .any ops l = [] → ∀ w, Ext w0 w → Q .normal a w) ∧ ∀ i ∈ Region.ready .any ops l, stepFD D P ops Q kd i (anyFD D P ops Q kd f (l.setIfInBounds i true)) a w0
def wpFlowD (D : Nat) (P : Program) (ops : Array Oper) (Q : Exit → Act → World → Prop) (kd : Nat → Nat) : List Nat → Act → World → Prop
  | [], a, w0 => ∀ w, Ext w0 w → Q .normal a w
  | i :: r, a, w0 => ∃ o, ops[i]? = some o ∧
      ((kd i = 0 ∧ ∃ v, QInD D P ops w0 o v a ∧ wpFlowD D P ops Q kd r (a.put o.dst v) w0) ∨
       (kd i = 1 ∧ ∃ v, Yields P ops o v a ∧ wpFlowD D P ops Q kd r (a.put o.dst v) w0) ∨
       (1 < kd i ∧ ∀ w, Ext w0 w → wpOp P ops Q i (fun a' w' => (kd i = 2 → BE D w0 w') ∧ wpFlowD D P ops Q kd r a' w') a w))
end
section
variable {D : Nat} {P : Program} {n : Nat} {E E' : List (Nat × Value)} {a : Act} {w w' w0 w1 : World} {Q : Exit → Act → World → Prop} {ops : Array Oper} {v : Value} {kd : Nat → Nat}
variable {d : Option Nat} {ty : TypeId} {pos : String} {af : Array Edge} {g : Option (Nat × Bool)} {x y z : Operand} {t : TypeId} {rest : List Oper} {τ : List Nat} {i : Nat}
def FLD (D : Nat) (P : Program) (n : Nat) (ops : Array Oper) (Q : Exit → Act → World → Prop) (kd : Nat → Nat) (τ : List Nat) (E : List (Nat × Value)) (w0 : World) : Prop := ∀ a, Agr n E a → wpFlowD D P ops (nrm (Q .normal)) kd τ a w0
end
end
section
open Go.RowKit
theorem Fld.opens (w : World) (cs : List Value) (h : Wd.fsh.Ok w cs) : ∃ (f : Fld) (A : Option Addr) (c : Nat), cs = [.int .i64 f.wide, .int .i64 f.high, .slice A f.places.length c] ∧ repI.SHas 8 w A c f.places ∧ okI f.wide ∧ okI f.high := by
 obtain ⟨_, _, rfl, _, _, ⟨x0, rfl, k0⟩, _, _, rfl, _, _, ⟨x1, rfl, k1⟩, _, _, rfl, _, _, hP, rfl⟩ := h
 obtain ⟨aP, cP, lP, rfl, HP⟩ := Rep.opens_slice (R := repI) repI_opens rfl (by decide) hP
 exact ⟨⟨x0, x1, lP⟩, aP, cP, rfl, HP, k0, k1⟩
def Fld.plainAt (f : Fld) (i : Nat) : Fld := { f with places := f.places.set i 0 }
end
end Go.Proofs.Ytmpkaphcpaigdaa
