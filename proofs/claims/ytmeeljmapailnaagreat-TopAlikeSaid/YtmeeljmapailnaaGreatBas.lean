import Derived.Lib.Hide
import Derived.WalkSpells
import Derived.WalkLawsBesides
import Derived.BigQuiet
import Derived.Deep.RegionHeld3
import Derived.Laws.CopyOwn
import Derived.Lib.Strings
import Derived.Deep.AppendLies
import Derived.Shelf.SlicesE.Clone
import Derived.Deep.Fields
import Derived.WideKeyEntry
import Derived.Handy
set_option linter.unusedVariables false
set_option linter.unusedSimpArgs false
set_option maxRecDepth 100000
set_option maxHeartbeats 4000000
open Go.RowKit
namespace Go.Proofs.YtmeeljmapailnaaGreat
theorem Z.{u} {α:Sort u} {a:α}:a=a:=Eq.refl a
abbrev aTA:=@Option.some.inj
abbrev aTC:=@List.getElem?_eq_some_iff
abbrev aTD:=@List.length_take
abbrev aTE:=@List.length_append
abbrev aTF:=@List.getElem?_eq_getElem
abbrev aTH:=@List.length_set
abbrev aTI:=@List.length_cons
abbrev aTJ:=@Go.Result.andThen_ok
abbrev aTK:=@Nat.le_refl
abbrev aTL:=@if_neg
abbrev aTM:=@Bool.and_eq_true
abbrev aTO:=@if_pos
abbrev aTP:=@List.mem_append
abbrev aTQ:=@Go.Sem.run_bind
abbrev aTR:=@List.getElem?_append_left
abbrev aTS:=@List.mem_cons_of_mem
abbrev aTU:=@List.getElem?_append_right
abbrev aTV:=@Go.Sem.run_pure
abbrev aTW:=@List.length_drop
abbrev aTX:=@List.append_assoc
abbrev aTY:=@List.getElem?_map
abbrev aTZ:=@List.mem_cons
abbrev aT0:=@List.take_of_length_le
abbrev aT2:=@List.getElem?_set_self
abbrev aT6:=@List.append_nil
abbrev aT7:=@List.eq_nil_of_length_eq_zero
abbrev aT8:=@List.map_append
abbrev aT9:=@List.getElem?_set_ne
abbrev aUb:=@Go.RowKit.Below.refl
abbrev aUc:=@Nat.le_trans
abbrev aUd:=@Array.getElem?_eq_some_iff
abbrev aUf:=@List.getElem?_take
abbrev aUg:=@List.mem_of_getElem?
abbrev aUh:=@List.mem_map
abbrev aUi:=@List.mem_range
abbrev aUk:=@Nat.mul_le_mul_right
abbrev aUm:=@Bool.false_eq_true
abbrev aUp:=@List.all_eq_true
abbrev aUr:=@Bool.or_eq_true
abbrev aUs:=@List.map_cons
abbrev aUt:=@Nat.lt_or_ge
abbrev aUu:=@List.nodup_append
abbrev aUv:=@Nat.zero_le
abbrev aUw:=@List.flatten_cons
abbrev aUy:=@List.getElem?_drop
abbrev aUz:=@List.length_map
abbrev aUA:=@Go.MapKept.run_getObj_map
abbrev aUB:=@List.mem_iff_getElem
abbrev aUC:=@beq_iff_eq
abbrev aUD:=@Array.getElem?_eq_none
abbrev aUE:=@BitVec.ofInt_natCast
abbrev aUH:=@List.getElem?_eq_none
abbrev aUI:=@Array.getElem?_toList
abbrev aUK:=@of_decide_eq_true
abbrev aUM:=@Option.getD_some
abbrev aUN:=@List.mem_flatten
abbrev aUQ:=@Go.run_underlying
abbrev aUS:=@List.ext_getElem?
abbrev aUT:=@Bool.not_eq_true'
abbrev aUU:=@Nat.mul_comm
abbrev aUV:=@List.getElem_mem
abbrev aUX:=@Nat.zero_add
abbrev aUY:=@List.map_set
abbrev aUZ:=@List.drop_drop
abbrev aU0:=@Nat.mod_eq_of_lt
abbrev aU1:=@List.any_eq_true
abbrev aU3:=@Go.MapKept.run_setObj_map
abbrev aU5:=@if_false
abbrev aU6:=@Option.map_some
abbrev aU7:=@List.find?_eq_none
abbrev aU9:=@Nat.add_mul
abbrev aVb:=@List.take_append_drop
abbrev aVc:=@Array.ext'
abbrev aVd:=@Array.setIfInBounds_comm
abbrev aVe:=@List.size_toArray
abbrev aVh:=@List.nil_append
abbrev aVn:=@BitVec.toNat_ofNat
abbrev aVo:=@if_true
abbrev aVp:=@Go.Region.free_spec
abbrev aVr:=@List.set_getElem_self
abbrev aVs:=@List.set_append_right
abbrev aVu:=@List.mem_or_eq_of_mem_set
abbrev aVy:=@List.map_nil
abbrev aVA:=@Array.getElem?_setIfInBounds_ne
abbrev aVB:=@Array.length_toList
abbrev aVC:=@List.take_left
abbrev aVE:=@Int.eq_ofNat_of_zero_le
abbrev aVF:=@Go.ByteArray.toList_eq
abbrev aVG:=@Go.World.block_lt_of_cell?
abbrev aVI:=@Nat.mod_lt
abbrev aVL:=@List.find?_cons_of_neg
abbrev aVN:=@Int.natCast_nonneg
abbrev aVR:=@Go.Act.put_comm
abbrev aVT:=@Go.ChangeMaps.modify_eq_set
abbrev aV1:=@Go.getD_set_ne
abbrev aV2:=@Array.getElem?_eq_getElem
abbrev aV5:=@List.flatten_append
abbrev aV6:=@Array.toList_modify
abbrev aV7:=@Go.wpOp_mono
abbrev aV8:=@List.getElem_append_left
abbrev aV9:=@Nat.mul_add_mod
abbrev aWb:=@BitVec.setWidth_eq
abbrev aWc:=@BitVec.ofNat_toNat
abbrev aWe:=@List.findIdx?_eq_some_iff_getElem
abbrev aWf:=@Go.ready_mono
abbrev aWg:=@Option.some.injEq
abbrev aWm:=@Go.execOp_put
abbrev aWn:=@Go.Region.noSelect_spec
abbrev aWp:=@Ne.symm
abbrev aWq:=@List.map_map
abbrev aWs:=@Nat.eq_zero_or_pos
abbrev aWv:=@Array.empty_append
abbrev aWx:=@List.findIdx?_eq_none_iff
abbrev aWy:=@Go.wanted_put
abbrev aWz:=@Go.heap_alloc_new
abbrev aWJ:=@List.getElem_map
abbrev aWP:=@List.find?_cons_of_pos
abbrev aWR:=@List.nodup_cons
abbrev aWX:=@Nat.div_lt_iff_lt_mul
abbrev aWY:=@List.mem_append_right
abbrev aW2:=@Array.getElem?_modify
abbrev aW4:=@List.mem_append_left
abbrev aW6:=@Int.emod_emod_of_dvd
abbrev aW8:=@Array.getElem?_range
abbrev aXa:=@List.take_succ_cons
abbrev aXb:=@List.getElem?_range
abbrev aXd:=@Array.toList_append
abbrev aXi:=@Go.mem_ready
abbrev aXk:=@Nat.blt_eq
abbrev aXn:=@BitVec.toInt_ofInt
abbrev aXo:=@Array.getElem?_map
abbrev aXq:=@Go.wp_region_any
abbrev aXu:=@List.getElem?_inj
abbrev aXv:=@List.any_eq_false
abbrev aXB:=@Array.size_append
abbrev aXC:=@Go.heap_setCell_other
abbrev aXD:=@Go.Calls.mono
abbrev aXG:=@List.take_append
abbrev aXI:=@List.map_toArray
abbrev aXO:=@Nat.div_add_mod
abbrev aXV:=@List.nodup_nil
abbrev aXZ:=@Bool.false_and
abbrev aX5:=@Go.Oper.apart_spec
abbrev aX6:=@Go.WideElems.findIdx_born
abbrev aYc:=@Go.WideElems.findIdx_arr
abbrev aYd:=@Go.RowKit.Below.mono
abbrev aYe:=@List.flatten_eq_nil_iff
abbrev aYi:=@Nat.zero_mul
abbrev aYo:=@Int.dvd_refl
abbrev aYr:=@Go.WideElems.set_self
abbrev aYs:=@BitVec.eq_of_toNat_eq
abbrev aYu:=@List.set_append_left
abbrev aYA:=@Go.wp_mono
abbrev aYE:=@List.map_congr_left
abbrev aYJ:=@Nat.lt_of_le_of_lt
abbrev aYP:=@Go.cell_of_row
abbrev aYU:=@List.length_range
abbrev aYW:=@Bool.eq_false_iff
end Go.Proofs.YtmeeljmapailnaaGreat
namespace Go.Proofs.YtmeeljmapailnaaGreat.ey
def U {n:Nat} (b:BitVec n):Int:=(b.toNat:Int)

theorem UT {n:Nat} (b:BitVec n):0≤U b:=aVN _
theorem aqt (b:BitVec 32):U b<4294967296:=by have:=b.isLt;unfold U;omega
theorem aqu (b:BitVec 64):U b<18446744073709551616:=by have:=b.isLt;unfold U;omega
theorem aqs (b:BitVec 32):U b≤4294967295:=by have:=b.isLt;unfold U;omega
theorem vX {n:Nat} (b:BitVec n):BitVec.ofInt n (U b)=b:=by
  unfold U;rw [aUE,aWc,aWb]
theorem aqv (x:Int) (aK:0≤x) (τ:x<4294967296):U (BitVec.ofInt 32 x)=x:=by
  obtain ⟨m,rfl⟩:=aVE aK;unfold U;rw [aUE,aVn];omega
theorem aqw (x:Int) (aK:0≤x) (τ:x<18446744073709551616):U (BitVec.ofInt 64 x)=x:=by
  obtain ⟨m,rfl⟩:=aVE aK;unfold U;rw [aUE,aVn];omega
theorem Qj {x:Int} {b:BitVec 32} (aK:0≤x) (τ:x<4294967296) (h:BitVec.ofInt 32 x=b):x=U b:=by
  rw [← h,aqv x aK τ]
theorem Qk {x:Int} {b:BitVec 64} (aK:0≤x) (τ:x<18446744073709551616) (h:BitVec.ofInt 64 x=b):x=U b:=by
  rw [← h,aqw x aK τ]
theorem PB (k:IntKind) (op:BinOp) (a b:Int) (hs:k.signed=false):0≤bits op k a b∧bits op k a b<2 ^ k.bits:=by
  have hp:(0:Int)<2 ^ k.bits:=Int.pow_pos (by decide);have key:∀ n:Int,0≤k.wrap n∧k.wrap n<2 ^ k.bits:=by
    intro n;simp only [IntKind.wrap,hs,aXZ,aUm,aU5];exact ⟨Int.emod_nonneg _ (by omega),Int.emod_lt_of_pos _ hp⟩
  unfold bits;exact key _
theorem Pz (op:BinOp) (a b:Int):0≤bits op .u32 a b:=(PB .u32 op a b rfl).1
theorem Py (op:BinOp) (a b:Int):bits op .u32 a b<4294967296:=(PB .u32 op a b rfl).2
theorem Vc (op:BinOp) (a b:Int):0≤bits op .u64 a b:=(PB .u64 op a b rfl).1
theorem Vb (op:BinOp) (a b:Int):bits op .u64 a b<18446744073709551616:=(PB .u64 op a b rfl).2
theorem M6 (k:IntKind) (n:Int):BitVec.ofInt k.bits (k.wrap n)=BitVec.ofInt k.bits n:=by
  apply BitVec.eq_of_toInt_eq;simp only [aXn];have h:(k.wrap n) % (2 ^ k.bits:Int)=n % (2 ^ k.bits:Int):=by
    unfold IntKind.wrap;dsimp only;split
    · rw [Int.sub_emod,Int.emod_self,Int.sub_zero,aW6 _ (aYo _),aW6 _ (aYo _)]
    · rw [aW6 _ (aYo _)]
  have e:((2 ^ k.bits:Nat):Int)=(2:Int) ^ k.bits:=by simp
  simp only [Int.bmod,e,h]

theorem aCD (n:Int):BitVec.ofInt 32 (n % 4294967296)=BitVec.ofInt 32 n:=by
  have:=M6 .u32 n;rw [IntKind.wrap_u32] at this;exact this
theorem aCH (n:Int):BitVec.ofInt 64 (IntKind.u64.wrap n)=BitVec.ofInt 64 n:=M6 .u64 n
theorem Zd (k:IntKind) (a b:Int):BitVec.ofInt k.bits (bits .xor k a b)=BitVec.ofInt k.bits a ^^^ BitVec.ofInt k.bits b:=by
  unfold bits;rw [M6,aUE];dsimp only;rw [aWc,aWb]
theorem aCA (k:IntKind) (a b:Int):BitVec.ofInt k.bits (bits .and k a b)=BitVec.ofInt k.bits a &&& BitVec.ofInt k.bits b:=by
  unfold bits;rw [M6,aUE];dsimp only;rw [aWc,aWb]
theorem aCB (k:IntKind) (a b:Int):BitVec.ofInt k.bits (bits .andNot k a b)=BitVec.ofInt k.bits a &&& ~~~(BitVec.ofInt k.bits b):=by
  unfold bits;rw [M6,aUE];dsimp only;rw [aWc,aWb]

theorem Ze (a b:Int):BitVec.ofInt 32 (bits .xor .u32 a b)=BitVec.ofInt 32 a ^^^ BitVec.ofInt 32 b:=Zd .u32 a b
theorem aki (a b:Int):BitVec.ofInt 32 (bits .and .u32 a b)=BitVec.ofInt 32 a &&& BitVec.ofInt 32 b:=aCA .u32 a b
theorem aCC (a b:Int):BitVec.ofInt 32 (bits .andNot .u32 a b)=BitVec.ofInt 32 a &&& ~~~(BitVec.ofInt 32 b):=aCB .u32 a b
theorem Zf (a b:Int):BitVec.ofInt 64 (bits .xor .u64 a b)=BitVec.ofInt 64 a ^^^ BitVec.ofInt 64 b:=Zd .u64 a b
theorem akn (a b:Int):BitVec.ofInt 64 (bits .xor .i64 a b)=BitVec.ofInt 64 a ^^^ BitVec.ofInt 64 b:=Zd .i64 a b
theorem akm {n:Nat} (x:Int) (s:Nat) (aK:0≤x) (τ:x<2 ^ n):BitVec.ofInt n (x / 2 ^ s)=BitVec.ofInt n x >>> s:=by
  obtain ⟨m,rfl⟩:=aVE aK;have Fk:m<2 ^ n:=by exact_mod_cast τ
  have e:((m:Int) / 2 ^ s)=((m / 2 ^ s:Nat):Int):=by rw [Int.natCast_ediv];simp
  rw [e,aUE,aUE];apply aYs;rw [BitVec.toNat_ushiftRight,aVn,aVn,aU0 Fk,Nat.shiftRight_eq_div_pow];exact aU0 (aYJ (Nat.div_le_self _ _) Fk)

theorem aCz {n:Nat} (a b:Int):BitVec.ofInt n (a+b)=BitVec.ofInt n a+BitVec.ofInt n b:=BitVec.ofInt_add ..
theorem akk {n:Nat} (a b:Int):BitVec.ofInt n (a * b)=BitVec.ofInt n a * BitVec.ofInt n b:=BitVec.ofInt_mul ..
theorem aCG {n:Nat} (a:Int):BitVec.ofInt n (-a)= -BitVec.ofInt n a:=BitVec.ofInt_neg ..
theorem aCF {n:Nat} (a:Nat):BitVec.ofInt n (a:Int)=BitVec.ofNat n a:=aUE ..

end Go.Proofs.YtmeeljmapailnaaGreat.ey
namespace Go.Proofs.YtmeeljmapailnaaGreat
def aKi (k:IntKind) (w:World) (a:Option Addr) (len cap:Nat) (zs:List Int):Prop :=
  (a=none∧len=0∧cap=0∧zs= [])∨
  ∃ x,a=some x∧len≤cap∧cap≤maxLen∧zs.length=cap∧(∀ i,i<zs.length→w.cell? (x.add i)=some (.int k (zs.getD i 0)))∧∀ n∈zs,(Lit.int k n).wf=true
theorem acy (b j:Nat):(⟨b,0,none⟩:Addr).add j=⟨b,j,none⟩:=by
  unfold Addr.add;split<;>simp_all
theorem Vh {a b:ByteArray} (h:a.data.toList=b.data.toList):a=b:=ByteArray.ext (Array.toList_inj.1 h)
theorem ac0 (a b:ByteArray):(a.toList == b.toList)=decide (a=b):=by
  rw [aVF,aVF];by_cases h:a=b
  · subst h;simp
  · have τ:¬ a.data=b.data:=fun e=>h (ByteArray.ext e)
    simp [h,τ]
theorem ac2 {a b:ByteArray} (h:a=b):(a.toList == b.toList)=true:=by rw [ac0];simp [h]
theorem ac1 {a b:ByteArray} (h:¬ a=b):(a.toList == b.toList)=false:=by rw [ac0];simp [h]
theorem ak8 {a:Bool} (h:a=true):Ending.returned (.bool a)= .returned (.bool true):=by rw [h]
theorem Ho (b off j:Nat):(⟨b,off,none⟩:Addr).add j=⟨b,off+j,none⟩:=by
  unfold Addr.add;split<;>simp_all
theorem aCX {w w':World} {base:Nat} {e:TypeId} {size:Nat} {v:Value} {n:Nat} {xs:List Value} (h:w.ownsRow base e size v n xs) (γ:Below w.heap.size w w'):w'.ownsRow base e size v n xs:=by
  obtain ⟨τ,ae⟩:=h;refine ⟨τ, ?_⟩;rcases ae with ae | ⟨g,cap,cur,hv,aM,fI,r⟩
  · exact .inl ae
  · exact .inr ⟨g,cap,cur,hv,aM,by rw [γ.block g (aUd.1 fI).1];exact fI,r⟩
theorem cell_later {w w':World} (γ:Below w.heap.size w w') {a:Addr} {v:Value} (h:w.cell? a=some v):w'.cell? a=some v:=by
  rw [γ.cell (aVG w a h)];exact h
theorem ar7 {B:Nat} {w w':World} (γ:Below B w w') {a:Addr} {v:Value} (h:w.cell? a=some v) (ha:a.block<B):w'.cell? a=some v:=by
  rw [γ.cell ha];exact h
def aR (w:World) (g:Nat) (cur:List Value) (e:TypeId) (aD:Nat×Nat):Prop:=w.heap[g]? =some (.cells cur.toArray e aD)
theorem aR.lt {w:World} {g:Nat} {cur:List Value} {e:TypeId} {aD:Nat×Nat} (h:aR w g cur e aD):g<w.heap.size:=(aUd.1 h).1
theorem aR.cell {w:World} {g:Nat} {cur:List Value} {e:TypeId} {aD:Nat×Nat} (h:aR w g cur e aD) (j:Nat):w.cell? ⟨g,j,none⟩=cur[j]? :=by
  rw [aYP w g j _ e aD h];simp
theorem aR.free {w:World} {g:Nat} {cur:List Value} {e:TypeId} {aD:Nat×Nat} (h:aR w g cur e aD) (j:Nat) (aA:j<aD.1∨aD.2≤j):w.frozen? ⟨g,j,none⟩=false:=by
  unfold aR at h;obtain ⟨lo,ar⟩:=aD;simp only [World.frozen?,h];simp only at aA;simp;omega
theorem aR.set {w:World} {g:Nat} {cur:List Value} {e:TypeId} {aD:Nat×Nat} (h:aR w g cur e aD) (j:Nat) (v:Value):aR (w.setCell ⟨g,j,none⟩ v) g (cur.set j v) e aD:=by
  unfold aR at *
  simp only [World.setCell,aW2,h];simp
theorem aR.later {w w':World} {g:Nat} {cur:List Value} {e:TypeId} {aD:Nat×Nat} (h:aR w g cur e aD) (γ:Below w.heap.size w w'):aR w' g cur e aD:=by
  have aC:=h.lt;unfold aR at *
  rw [γ.block g aC];exact h
theorem aR.drew {w:World} {g:Nat} {cur:List Value} {e:TypeId} {aD:Nat×Nat} (h:aR w g cur e aD):aR w.drew g cur e aD:=h
theorem aR.drewN {w:World} {g:Nat} {cur:List Value} {e:TypeId} {aD:Nat×Nat} (h:aR w g cur e aD) (n:Nat):aR (w.drewN n) g cur e aD:=h
theorem aR.new (w:World) (cur:List Value) (e:TypeId) (aD:Nat×Nat):aR (w.alloc (.cells cur.toArray e aD)) w.heap.size cur e aD:=aWz w _
theorem aR.setRow {w:World} {g:Nat} {cur:List Value} {e:TypeId} {aD:Nat×Nat} (h:aR w g cur e aD) (new:List Value):aR (w.setRow g new.toArray) g new e aD:=setRow_heap w g _ _ e aD h
theorem aR.other {w:World} {g g':Nat} {cur:List Value} {e:TypeId} {aD:Nat×Nat} (h:aR w g cur e aD) (aM:g≠g') (j:Nat) (v:Value):aR (w.setCell ⟨g',j,none⟩ v) g cur e aD:=by
  unfold aR at *
  rw [aXC _ _ _ _ aM];exact h
theorem below_drewN {B:Nat} {a w:World} (h:Below B a w) (n:Nat):Below B a (w.drewN n):=⟨h.os,h.tape,h.output,h.size,h.block⟩
def Rd (w:World) (size:Nat) (A:Option Addr) (n:Nat) (xs:List Value):Prop :=
  xs.length=n * size∧(0<n→∃ b o,A=some ⟨b,o,none⟩∧∀ j u,xs[j]? =some u→w.cell? ⟨b,o+j,none⟩=some u)
theorem Rd.zero (w:World) (size:Nat) (A:Option Addr):Rd w size A 0 []:=⟨by simp,fun h=>absurd h (by decide)⟩
theorem Rd.later {w w':World} {size n:Nat} {A:Option Addr} {xs:List Value} (h:Rd w size A n xs) (γ:Below w.heap.size w w'):Rd w' size A n xs :=
  ⟨h.1,fun aK=>by
    obtain ⟨b,o,e,hc⟩:=h.2 aK;exact ⟨b,o,e,fun j u hu=>cell_later γ (hc j u hu)⟩⟩
theorem Rd.drewN {w:World} {size n:Nat} {A:Option Addr} {xs:List Value} (h:Rd w size A n xs) (k:Nat):Rd (w.drewN k) size A n xs:=h
def Own (w:World) (base:Nat) (e:TypeId) (size:Nat) (G:Nat→Value→Prop) (v:Value) (n:Nat) (xs:List Value):Prop :=
  xs.length=n * size∧
  ((v= .slice none 0 0∧n=0)∨
   ∃ g cap cur,v= .slice (some ⟨g,0,none⟩) n cap∧base≤g∧w.heap[g]? =some (.cells cur e (0,0))∧n≤cap∧cap≤maxLen∧cur.size=cap * size∧cur.toList.take (n * size)=xs∧∀ j u,cur[j]? =some u→G (j % size) u)
section
variable {w w':World} {base e size:Nat} {G:Nat→Value→Prop} {v:Value} {n:Nat} {xs:List Value}
theorem Own.row (h:Own w base e size G v n xs):w.ownsRow base e size v n xs:=by
  obtain ⟨τ,ae⟩:=h;refine ⟨τ, ?_⟩;rcases ae with ae | ⟨g,cap,cur,a,b,c,d,e,f,i,_⟩
  · exact .inl ae
  · exact .inr ⟨g,cap,cur,a,b,c,d,e,f,i⟩
theorem Own.nil (w:World) (base e size:Nat) (G:Nat→Value→Prop):Own w base e size G (.slice none 0 0) 0 []:=⟨by simp, .inl ⟨rfl,rfl⟩⟩
theorem Own.of_block {B:Nat} (h:Own w base e size G v n xs) (γ:∀ g,v.ownBlock=some g→w'.heap[g]? =w.heap[g]?):Own w' base e size G v n xs:=by
  obtain ⟨τ,ae⟩:=h;refine ⟨τ, ?_⟩;rcases ae with ae | ⟨g,cap,cur,rfl,b,c,d⟩
  · exact .inl ae
  · exact .inr ⟨g,cap,cur,rfl,b,(γ g rfl).trans c,d⟩
theorem Own.later (h:Own w base e size G v n xs) (γ:Below w.heap.size w w'):Own w' base e size G v n xs :=
  h.of_block (B:=0) fun g aM=>γ.block g (h.row.lt g aM).2
theorem Own.drewN (h:Own w base e size G v n xs) (k:Nat):Own (w.drewN k) base e size G v n xs:=h
theorem Own.drew (h:Own w base e size G v n xs):Own w.drew base e size G v n xs:=h
theorem Own.mono (h:Own w base e size G v n xs) {acQ:Nat} (γ:acQ≤base):Own w acQ e size G v n xs:=by
  obtain ⟨τ,ae⟩:=h;refine ⟨τ, ?_⟩;rcases ae with ae | ⟨g,cap,cur,a,b,r⟩
  · exact .inl ae
  · exact .inr ⟨g,cap,cur,a,aUc γ b,r⟩
theorem Own.rd (h:Own w base e size G v n xs) {A:Option Addr} {c:Nat} (hv:v= .slice A n c):Rd w size A n xs:=by
  obtain ⟨τ,ae⟩:=h;refine ⟨τ,fun aK=> ?_⟩;rcases ae with ⟨_,ae⟩ | ⟨g,cap,cur,rfl,b,c,d,e,f,i,_⟩
  · omega
  · injection hv with hv _ _
    refine ⟨g,0,hv.symm,fun j u hu=> ?_⟩;rw [aUX,aYP w g j cur _ (0,0) c,← aUI];rw [← i,aUf] at hu;split at hu
    · exact hu
    · cases hu
theorem Own.shape (h:Own w base e size G v n xs):∃ A c,v= .slice A n c∧n≤c∧c≤maxLen∧Rd w size A n xs∧(∀ a,A=some a→base≤a.block∧a.block<w.heap.size)∧(A=none→v= .slice none 0 0):=by
  have c7:=h;obtain ⟨τ,ae⟩:=h;rcases ae with ⟨rfl,rfl⟩ | ⟨g,cap,cur,rfl,b,c,d,e,f,i,_⟩
  · exact ⟨none,0,rfl,aTK _,aUv _,c7.rd rfl,(fun a ha=>by cases ha),fun _=>rfl⟩
  · refine ⟨_,cap,rfl,d,e,c7.rd rfl,fun a ha=> ?_,fun h=>by cases h⟩
    injection ha with ha
    subst ha;exact ⟨b,(aUd.1 c).1⟩
theorem aI8 {z:Array Value} (bG:z.size=size) (hs:0<size) (bQ:∀ j u,z[j]? =some u→G j u) (k:Nat):∀ j u,(Builtin.zeroCells z k)[j]? =some u→G (j % size) u:=by
  intro j u hu;unfold Builtin.zeroCells at hu;subst bG;have aA:=(aUd.1 hu).1;simp at aA;have bA:j % z.size<z.size:=aVI _ hs;rw [aXo,aW8,aTO aA] at hu;simp only [aU6,aWg] at hu;refine bQ _ u ?_;rw [← hu];simp [bA]
theorem Own.stored {g c:Nat} (h:Own w base e size G (.slice (some ⟨g,0,none⟩) n c) n xs) (j:Nat) (u:Value) (hu:G (j % size) u):
    Own (w.setCell ⟨g,j,none⟩ u) base e size G (.slice (some ⟨g,0,none⟩) n c) n (xs.set j u):=by
  obtain ⟨τ,ae⟩:=h;refine ⟨by rw [aTH];exact τ, ?_⟩;rcases ae with ⟨ae,_⟩ | ⟨g',cap,cur,hv,b,fI,d,hm,hs,aJ,bQ⟩
  · cases ae
  · injection hv with hv _ hc
    injection hv with hv
    injection hv with hv
    subst hv;subst hc;refine .inr ⟨g,c,cur.setIfInBounds j u,Z,b, ?_,d,hm,by simp [hs], ?_, ?_⟩
    · simp only [World.setCell,aW2,fI]
      simp
    · rw [← aJ]
      simp only [Array.toList_setIfInBounds];rw [List.take_set]
    · intro i v hv
      by_cases hl:j=i
      · subst hl
        have bA:j<cur.size:=by
          have:=(aUd.1 hv).1;simpa using this
        rw [Array.getElem?_setIfInBounds_self_of_lt bA] at hv;obtain rfl:=aTA hv;exact hu
      · rw [aVA hl] at hv
        exact bQ i v hv
theorem Own.cell {g c:Nat} (h:Own w base e size G (.slice (some ⟨g,0,none⟩) n c) n xs) (j:Nat) (aA:j<n * size):w.cell? ⟨g,j,none⟩=xs[j]? :=h.row.cellAt j aA
theorem Own.free {g c:Nat} (h:Own w base e size G (.slice (some ⟨g,0,none⟩) n c) n xs) (j:Nat):w.frozen? ⟨g,j,none⟩=false:=h.row.frozenAt j
theorem Own.some_ {g c:Nat} (h:Own w base e size G (.slice (some ⟨g,0,none⟩) n c) n xs) (j:Nat) (aA:j<c * size):∃ u,w.cell? ⟨g,j,none⟩=some u∧G (j % size) u:=by
  obtain ⟨τ,ae⟩:=h;rcases ae with ⟨ae,_⟩ | ⟨g',cap,cur,hv,b,fI,d,hm,hs,aJ,bQ⟩
  · cases ae
  · injection hv with hv _ hc
    injection hv with hv
    injection hv with hv
    subst hv;subst hc;have bA:j<cur.size:=by rw [hs];exact aA
    rw [aYP w g j cur _ (0,0) fI];exact ⟨cur[j],aV2 bA,bQ j _ (aV2 bA)⟩
theorem Own.lit (w:World) (cs:Array Value) (n:Nat) (γ:base≤w.heap.size) (hm:n≤maxLen) (hs:cs.size=n * size) (bQ:∀ j u,cs[j]? =some u→G (j % size) u):
    Own (w.alloc (.cells cs e)) base e size G (.slice (some ⟨w.heap.size,0,none⟩) n n) n cs.toList :=
  ⟨by simpa using hs, .inr ⟨w.heap.size,n,cs,rfl,γ,aWz w _,aTK _,hm,hs,aT0 (by simp [hs]),bQ⟩⟩
theorem Own.empty (w:World) (γ:base≤w.heap.size):Own (w.alloc (.cells #[] e)) base e size G (.slice (some ⟨w.heap.size,0,none⟩) 0 0) 0 [] :=
  Own.lit w #[] 0 γ (aUv _) (by simp) (fun j u h=>by simp at h)
end
section
variable {P:Program} (w:World)
theorem alf (base:Nat) (t ty e:TypeId) (i:TypeInfo) (z:Value) (size bytes:Nat) (aJ:P.underlying t=some (.slice e)) (ar:P.info? e=some i) (bG:i.zero=some z)
    (xD:i.size=size) (pW:i.bytes=bytes) (sW:z.cells.size=size) (jL:0<size) (G:Nat→Value→Prop) (xG:∀ j u,z.cells[j]? =some u→G j u)
    (v:Value) (n:Nat) (xs:List Value) (eT:Own w base e size G v n xs)
    (A:Option Addr) (m c:Nat) (news:List Value) (hr:Rd w size A m news) (τ:∀ u∈news,u.oneCell'=true) (LW:∀ j u,news[j]? =some u→G (j % size) u)
    (rH:n+m≤maxLen) (rM:(n+m) * bytes≤140737488355328) (pU:base≤w.heap.size):
    ∃ v' w',(Builtin.append_ #[t,t] ty #[v, .slice A m c]).run P w= .ok v' w'∧Own w' base e size G v' (n+m) (xs++news)∧w.grownBy w' v.ownBlock∧
      (v'= .slice none 0 0↔v= .slice none 0 0∧m=0)∧(v'.ownBlock=v.ownBlock∨v'.ownBlock=some w.heap.size):=by
  subst xD;subst pW;have aOe:n+m≤9223372036854775807:=by simp only [maxLen] at rH;omega
  have aC:news.length=m * i.size:=hr.1;have IC:xs.length=n * i.size:=eT.1;have hlen:(xs++news).length=(n+m) * i.size:=by rw [aTE,IC,aC,aU9]
  have age:(∀ j u,xs[j]? =some u→G (j % i.size) u)→∀ j u,(xs++news)[j]? =some u→G (j % i.size) u:=by
    intro hx j u hu;by_cases aA:j<xs.length
    · rw [aTR aA] at hu;exact hx j u hu
    · rw [aTU (by omega)] at hu
      have:=LW _ u hu;rw [IC] at this aA;have e:j % i.size=(j - n * i.size) % i.size:=by
        conv=>lhs;rw [show j=n * i.size+(j - n * i.size) from by omega]
        rw [aUU n,aV9]
      rw [e];exact this
  -- what the growing arm leaves, whatever was there before
  have grown:(∀ j u,xs[j]? =some u→G (j % i.size) u)→∀ (old:Nat),old<n+m→∀ (row:Option Nat),
      Own (w.drew.alloc (.cells (xs.toArray++news.toArray++Builtin.zeroCells z.cells (grownCap w (n+m) old e - (n+m))) e)) base e i.size G
        (.slice (some ⟨w.heap.size,0,none⟩) (n+m) (grownCap w (n+m) old e)) (n+m) (xs++news)∧
      w.grownBy (w.drew.alloc (.cells (xs.toArray++news.toArray++Builtin.zeroCells z.cells (grownCap w (n+m) old e - (n+m))) e)) row:=by
    intro Ru old cc row;have n9:=grownCap_ge w (n+m) old e;have rO:grownCap w (n+m) old e≤maxLen:=grownCap_le_maxLen w (n+m) old e rH;refine ⟨⟨hlen, .inr ⟨w.heap.size,_,_,Z,pU,aWz w.drew _,n9,rO, ?_, ?_, ?_⟩⟩,⟨Z,Z,Z,by simp,fun k au _=>heap_alloc_old w.drew _ au⟩⟩
    · simp only [aXB,aVe,size_zeroCells,sW,IC,aC,← aU9]
      congr 1;omega
    · simp only [aXd,aTX]
      rw [← aTX,← hlen];exact aVC
    · intro j u hu
      rw [← aUI] at hu;simp only [aXd] at hu;by_cases aA:j<(xs++news).length
      · rw [aTR aA] at hu;exact age Ru j u hu
      · rw [aTU (by simpa using aA)] at hu
        rw [aUI] at hu;have:=aI8 sW jL xG _ _ u hu;have kO:(xs.toArray.toList++news.toArray.toList).length=(n+m) * i.size:=hlen;rw [kO] at this;rw [hlen] at aA;have e:j % i.size=(j - (n+m) * i.size) % i.size:=by
          conv=>lhs;rw [show j=(n+m) * i.size+(j - (n+m) * i.size) from by omega]
          rw [aUU (n+m),aV9]
        rw [e];exact this
  have Yg:A=none∨∃ a,A=some a:=by cases A with | none=>exact .inl rfl | some a=>exact .inr ⟨a,rfl⟩
  rcases Yg with rfl | ⟨ad,rfl⟩
  · have hm:m=0:=by
      rcases aWs m with aK | aK
      · exact aK
      · obtain ⟨b,o,h,_⟩:=hr.2 aK
        cases h
    subst hm;have hn:news= []:=aT7 (by simpa using aC);subst hn;refine ⟨v,w, ?_,by simpa using eT,World.grownBy.refl w _,by simp, .inl rfl⟩;rcases eT.2 with ⟨rfl,rfl⟩ | ⟨g,cap,cur,rfl,_,_,Dv,_⟩
    · simp [Builtin.append_,aUQ aJ,sizeOf,typeInfo,ar,Builtin.lenOf,Builtin.firstCells]
    · simp [Builtin.append_,aUQ aJ,sizeOf,typeInfo,ar,Builtin.lenOf,Builtin.firstCells,Dv,storeCells]
  have LY:∀ j u,news[j]? =some u→w.cell? (ad.add j)=some u:=by
    intro j u hu;rcases aWs m with aK | aK
    · subst aK
      have hn:news= []:=aT7 (by simpa using aC);subst hn;simp at hu
    · obtain ⟨b,o,h,hc⟩:=hr.2 aK
      injection h with h
      subst h;rw [Ho];exact hc j u hu
  rcases eT.2 with ⟨rfl,rfl⟩ | ⟨g,cap,cur,rfl,Xv,aM,Dv,rO,zC,Yk,bQ⟩
  · have hx:xs= []:=aT7 (by simpa using IC)
    subst hx;by_cases hm:m=0
    · subst hm
      have hn:news= []:=aT7 (by simpa using aC);subst hn;refine ⟨.slice none 0 0,w, ?_,Own.nil w base e i.size G,⟨Z,Z,Z,aTK _,fun _ _ _=>Z⟩,by simp,Or.inl rfl⟩;simp [Builtin.append_,aUQ aJ,sizeOf,typeInfo,ar,Builtin.lenOf,Builtin.firstCells,loadCells,loadCellsFrom]
    · have hr:=run_append_nil (P:=P) w t ty e i z aJ ar bG ad m c news aC LY (by omega) (by omega) (by have γ:=rM;simp only [aUX] at γ;omega)
      have Dn:=grown (fun j u hu=>by simp at hu) 0 (by omega) (Value.ownBlock (.slice none 0 0));simp only [aUX,aVh,aWv] at Dn ⊢;exact ⟨_,_,hr,Dn.1,Dn.2,by simp [hm],Or.inr rfl⟩
  · have Ru:∀ j u,xs[j]? =some u→G (j % i.size) u:=by
      intro j u hu;rw [← Yk,aUf] at hu;split at hu
      · exact bQ j u (by rw [← aUI];exact hu)
      · cases hu
    by_cases Yc:n+m≤cap
    · have XL:n * i.size+news.length≤cur.size:=by rw [aC,zC,← aU9];exact aUk _ Yc
      have hr:=run_append_room (P:=P) w t ty e i aJ ar g n cap cur aM ad m c news aC LY τ Yc XL;refine ⟨_,_,hr,⟨hlen, .inr ⟨g,cap,_,Z,Xv,setRow_heap w g cur _ e _ aM,Yc,rO, ?_, ?_, ?_⟩⟩,⟨Z,Z,Z,by simp,fun k _ au=>setRow_other w g k _ (fun e=>au (by simp [Value.ownBlock,e]))⟩,by simp,Or.inl rfl⟩
      · simp only [aVe,aTE,aTD,aTW,aVB]
        omega
      · rw [Yk,← hlen]
        exact aVC
      · intro j u hu
        rw [Yk] at hu;have hu:((xs++news)++cur.toList.drop (n * i.size+news.length))[j]? =some u:=by simpa using hu
        by_cases aA:j<(xs++news).length
        · rw [aTR aA] at hu;exact age Ru j u hu
        · rw [aTU (by omega),aUy] at hu
          rw [hlen] at hu aA;rw [aC,← aU9,show (n+m) * i.size+(j - (n+m) * i.size)=j from by omega] at hu;exact bQ j u (by rw [← aUI];exact hu)
    · have holds:∀ j u,xs[j]? =some u→w.cell? ((⟨g,0,none⟩:Addr).add j)=some u:=eT.row.cells (g:=g) rfl
      have hr:=run_append_grow (P:=P) w t ty e i z aJ ar bG ⟨g,0,none⟩ n cap xs IC holds ad m c news aC LY (by omega) (by omega) (growslice_fits (by omega) rM);have Dn:=grown Ru cap (by omega) (Value.ownBlock (.slice (some ⟨g,0,none⟩) n cap));exact ⟨_,_,hr,Dn.1,Dn.2,by simp,Or.inr rfl⟩

theorem aHK {o:Oper} {a:Act} {K:Act→World→Prop} {Q:Exit→Act→World→Prop} (s x:Operand) (t:TypeId)
    (cc:o.op= .call {callee:= .builtin .append,args:=#[s,x],argTypes:=#[t,t]})
    (base:Nat) (e:TypeId) (i:TypeInfo) (z:Value) (size bytes:Nat) (aJ:P.underlying t=some (.slice e)) (ar:P.info? e=some i) (bG:i.zero=some z)
    (xD:i.size=size) (pW:i.bytes=bytes) (sW:z.cells.size=size) (jL:0<size) (G:Nat→Value→Prop) (xG:∀ j u,z.cells[j]? =some u→G j u)
    (v:Value) (n:Nat) (xs:List Value) (hs:a.eval s=v) (eT:Own w base e size G v n xs)
    (A:Option Addr) (m c:Nat) (news:List Value) (hx:a.eval x= .slice A m c) (hr:Rd w size A m news) (τ:∀ u∈news,u.oneCell'=true) (LW:∀ j u,news[j]? =some u→G (j % size) u)
    (rH:n+m≤maxLen) (rM:(n+m) * bytes≤140737488355328) (pU:base≤w.heap.size)
    (h:∀ v' w',Own w' base e size G v' (n+m) (xs++news)→w.grownBy w' v.ownBlock→(v'= .slice none 0 0↔v= .slice none 0 0∧m=0)→(v'.ownBlock=v.ownBlock∨v'.ownBlock=some w.heap.size)→K (a.put o.dst v') w'):o.wp P a w K Q:=by
  obtain ⟨v',w',kQ,ae,aw,aU,bz⟩:=alf (P:=P) w base t o.type e i z size bytes aJ ar bG xD pW sW jL G xG v n xs eT A m c news hr τ LW rH rM pU;unfold Oper.wp execOp;simp only [cc,resolve,invoke,builtin,aTQ,aTV,aTJ,aXI,aUs,aVy,hs,hx,kQ];exact h v' w' ae aw aU bz
theorem GG {ops:Array Oper} {rest:List Oper} {o:Oper} {a:Act} {Q:Exit→Act→World→Prop} (XP:o.guard=none) (s x:Operand) (t:TypeId)
    (cc:o.op= .call {callee:= .builtin .append,args:=#[s,x],argTypes:=#[t,t]})
    (base:Nat) (e:TypeId) (i:TypeInfo) (z:Value) (size bytes:Nat) (aJ:P.underlying t=some (.slice e)) (ar:P.info? e=some i) (bG:i.zero=some z)
    (xD:i.size=size) (pW:i.bytes=bytes) (sW:z.cells.size=size) (jL:0<size) (G:Nat→Value→Prop) (xG:∀ j u,z.cells[j]? =some u→G j u)
    (v:Value) (n:Nat) (xs:List Value) (hs:a.eval s=v) (eT:Own w base e size G v n xs)
    (A:Option Addr) (m c:Nat) (news:List Value) (hx:a.eval x= .slice A m c) (hr:Rd w size A m news) (τ:∀ u∈news,u.oneCell'=true) (LW:∀ j u,news[j]? =some u→G (j % size) u)
    (rH:n+m≤maxLen) (rM:(n+m) * bytes≤140737488355328) (pU:base≤w.heap.size)
    (h:∀ v' w',Own w' base e size G v' (n+m) (xs++news)→w.grownBy w' v.ownBlock→(v'= .slice none 0 0↔v= .slice none 0 0∧m=0)→(v'.ownBlock=v.ownBlock∨v'.ownBlock=some w.heap.size)→wpList P ops Q rest (a.put o.dst v') w'):wpList P ops Q (o::rest) a w :=
  wpList_plain XP fun _ hK=>aHK w s x t cc base e i z size bytes aJ ar bG xD pW sW jL G xG v n xs hs eT A m c news hx hr τ LW rH rM pU fun v' w' ae aw aU bz=>hK _ _ (h v' w' ae aw aU bz)
end
open Go.ChangeShapes Go.WideShapes Go.Deep Go.RowKit
inductive gK where
  | int (k:IntKind)
  | bool
  | str
  | slice (e:gK) (bytes:Nat)
  | nil
  | cons (a b:gK)
def gK.size:gK→Nat
  | .int _ | .bool | .str | .slice _ _=>1
  | .nil=>0
  | .cons a b=>a.size+b.size
def partsOf (P:Program) (t:TypeId):Option (List (TypeId×Nat)):=
  match P.underlying t with
  | some (.struct fs)=>some (fs.toList.map fun f=>(f.type,f.offset))
  | some (.array n e)=>some ((List.range n).map fun i=>(e,i * P.cellsOf e))
  | _=>none
def gK.fit (P:Program):gK→TypeId ⊕ (Nat×List (TypeId×Nat))→Bool
  | .int k, .inl t=>match P.underlying t with | some (.int k')=>decide (k'=k) | _=>false
  | .bool, .inl t=>match P.underlying t with | some .bool=>true | _=>false
  | .str, .inl t=>match P.underlying t with | some .string=>true | _=>false
  | .slice e by_, .inl t=>match P.underlying t with | some (.slice u)=>P.cellsOf u == e.size && P.bytesOf u == by_ && e.fit P (.inl u) | _=>false
  | .nil, .inl t=>P.cellsOf t == 0 && (match P.underlying t with | some (.struct _)=>true | some (.array ..)=>true | _=>false)
  | .cons a b, .inl t=>P.cellsOf t == a.size+b.size && (match partsOf P t with
      | some ((u,o)::r)=>o == 0 && P.cellsOf u == a.size && a.fit P (.inl u) && b.fit P (.inr (a.size,r))
      | _=>false)
  | .nil, .inr (_,fs)=>fs.isEmpty
  | .cons a b, .inr (off,fs)=>match fs with
    | (u,o)::r=>o == off && P.cellsOf u == a.size && a.fit P (.inl u) && b.fit P (.inr (off+a.size,r))
    | []=>false
  | _, .inr _=>false
def gK.jn (w:World):gK→List Value→Prop
  | .int k,cs=>∃ n,cs= [.int k n]∧(Lit.int k n).wf=true
  | .bool,cs=>∃ b,cs= [.bool b]
  | .str,cs=>∃ s:ByteArray,cs= [.string s]∧s.size≤maxLen∧s.size≤140737488351232
  | .slice e by_,cs=>cs= [.slice none 0 0]∨∃ (a:Addr) (len cap:Nat),cs= [.slice (some a) len cap]∧len≤cap∧cap≤maxLen∧cap * by_≤140737488351232∧
      ∀ i,i<cap→∃ es:List Value,es.length=e.size∧(∀ j v,es[j]? =some v→w.cell? (a.add (i * e.size+j))=some v)∧e.jn w es
  | .nil,cs=>cs= []
  | .cons a b,cs=>∃ xs ys,cs=xs++ys∧xs.length=a.size∧ys.length=b.size∧a.jn w xs∧b.jn w ys
variable {H:Type} {enc:TypeId×Value→H} {P:Program} {w:World} {base:Nat} {held:Bool}
theorem amZ {e:TypeId} {l:List (DataW H)} {d:DataW H} (h:d∈l):∀ n∈d.weights P e,n∈DataW.weightsAll P e l:=by
  induction l with
  | nil=>cases h
  | cons x r bK =>
    intro n hn;simp only [DataW.weightsAll,aTP];rcases aTZ.1 h with rfl | h
    · exact .inl hn
    · exact .inr (bK h n hn)
def J6 (enc:TypeId×Value→H) (P:Program) (w:World) (base:Nat) (held:Bool) (n:Nat) (cs:List Value) (fs:List (TypeId×Nat)) (xs:List (DataW H×List MemPlace)):Prop :=
  xs.length=fs.length∧∀ (i:Nat) (f:TypeId×Nat),fs[i]? =some f→DataW.trod enc P w base (fun _=>true) held n f.1 ((cs.drop f.2).take (P.cellsOf f.1))=xs[i]?
theorem J6.cons {n:Nat} {cs:List Value} {f:TypeId×Nat} {r:List (TypeId×Nat)} {xs:List (DataW H×List MemPlace)} (h:J6 enc P w base held n cs (f::r) xs):
    ∃ x ys,xs=x::ys∧DataW.trod enc P w base (fun _=>true) held n f.1 ((cs.drop f.2).take (P.cellsOf f.1))=some x∧J6 enc P w base held n cs r ys:=by
  obtain ⟨aC,hf⟩:=h
  match xs,aC with
  | x::ys,aC =>
    refine ⟨x,ys,Z,hf 0 f Z,by simpa using aC,fun i g aM=> ?_⟩;exact hf (i+1) g aM
def Goal (P:Program) (w:World) (sh:gK):TypeId ⊕ (Nat×List (TypeId×Nat))→Prop
  | .inl t=>∀ (H:Type) (enc:TypeId×Value→H) (base:Nat) (held:Bool) (fuel:Nat) (cs:List Value) (x:DataW H×List MemPlace),DataW.trod enc P w base (fun _=>true) held fuel t cs=some x→(∀ n∈x.1.weights P t,n≤reachBytes)→cs.length=sh.size∧sh.jn w cs
  | .inr (off,fs)=>∀ (H:Type) (enc:TypeId×Value→H) (base:Nat) (held:Bool) (n:Nat) (cs:List Value) (xs:List (DataW H×List MemPlace)),J6 enc P w base held n cs fs xs→cs.length=off+sh.size→(∀ n∈DataW.weightsEach P (fs.map (·.1)) (xs.map (·.1)),n≤reachBytes)→sh.jn w (cs.drop off)
theorem Goal.fields {a b:gK} (az8:∀ t,a.fit P t=true→Goal P w a t) (az9:∀ t,b.fit P t=true→Goal P w b t) {off:Nat} {f:TypeId×Nat} {r:List (TypeId×Nat)} (τ:f.2=off) (ae:P.cellsOf f.1=a.size) (aw:a.fit P (.inl f.1)=true) (aU:b.fit P (.inr (off+a.size,r))=true):
    Goal P w (.cons a b) (.inr (off,f::r)):=by
  intro H enc base held n cs xs hx aC hw;obtain ⟨x,ys,rfl,aJ,hr⟩:=hx.cons;have ha:=az8 _ aw H enc base held n _ x aJ (fun m hm=>hw m (by simp only [aUs,DataW.weightsEach,aTP];exact .inl hm));have jL:(gK.cons a b).size=a.size+b.size:=rfl;have γ:=az9 _ aU H enc base held n cs ys hr (by omega) (fun m hm=>hw m (by simp only [aUs,DataW.weightsEach,aTP];exact .inr hm));rw [τ,ae] at ha;refine ⟨_,_, ?_,ha.1, ?_,ha.2,γ⟩
  · rw [← aUZ,aVb]
  · rw [aTW];omega
theorem am0 {e:TypeId}:∀ (l:List (DataW H)) (ts:List TypeId),ts.length=l.length→(∀ t∈ts,t=e)→DataW.weightsEach P ts l=DataW.weightsAll P e l
  | [], [],_,_=>rfl
  | d::l,t::ts,h,aJ=>by
    rw [DataW.weightsEach,DataW.weightsAll,aJ t (by simp),am0 l ts (by simpa using h) (fun u hu=>aJ u (by simp [hu]))]
  | [],_::_,h,_=>by simp at h
  | _::_, [],h,_=>by simp at h
theorem amb {t:TypeId} {fs:List (TypeId×Nat)} {fuel:Nat} {cs:List Value} {x:DataW H×List MemPlace} (hp:partsOf P t=some fs) (h:DataW.trod enc P w base (fun _=>true) held fuel t cs=some x):
    cs.length=P.cellsOf t∧∃ (xs:List (DataW H×List MemPlace)) (n:Nat),J6 enc P w base held n cs fs xs∧x.1.weights P t=DataW.weightsEach P (fs.map (·.1)) (xs.map (·.1)):=by
  unfold partsOf at hp;split at hp
  · rename_i gs hu
    obtain rfl:=aTA hp;obtain ⟨xs,n,_,rfl,aC,hlen,hf⟩:=DataW.trod_struct hu h;refine ⟨aC,xs,n,⟨by rw [hlen];simp,fun i f aM=> ?_⟩, ?_⟩
    · rw [aTY] at aM
      match ax6:gs.toList[i]?,aM with
      | some g,aM =>
        obtain rfl:=aTA aM;exact hf i g (by rw [← aUI];exact ax6)
    · simp only [DataW.weights,hu,aWq]
      rfl
  · rename_i m e hu
    obtain rfl:=aTA hp;obtain ⟨xs,n,_,rfl,aC,hlen,hf⟩:=DataW.trod_array hu h;refine ⟨aC,xs,n,⟨by rw [hlen];simp,fun i f aM=> ?_⟩, ?_⟩
    · rw [aTY] at aM
      have ar:i<m:=by
        rcases aUt i m with h | h
        · exact h
        · rw [aUH (by simpa using h)] at aM;cases aM
      rw [aXb ar] at aM;obtain rfl:=aTA aM;exact hf i ar
    · simp only [DataW.weights,hu]
      rw [am0 (e:=e)]
      · simp [hlen]
      · intro u hu;simp at hu;exact hu.2.symm
  · cases hp
theorem HZ (P:Program) (w:World):∀ (sh:gK) (t:TypeId ⊕ (Nat×List (TypeId×Nat))),sh.fit P t=true→Goal P w sh t
  | .int k, .inl t,h=>by
    intro H enc base held fuel cs x aJ _;unfold gK.fit at h;split at h
    · rename_i k' hu
      obtain rfl:k'=k:=aUK h;cases fuel with
      | zero=>simp [DataW.trod] at aJ
      | succ n =>
        unfold DataW.trod at aJ;rw [hu] at aJ;split at aJ<;>simp_all;exact ⟨Z,_,Z,aJ.1.2⟩
    · cases h
  | .bool, .inl t,h=>by
    intro H enc base held fuel cs x aJ _;unfold gK.fit at h;split at h
    · rename_i hu
      cases fuel with
      | zero=>simp [DataW.trod] at aJ
      | succ n =>
        unfold DataW.trod at aJ;rw [hu] at aJ;split at aJ<;>simp_all;exact ⟨Z,_,Z⟩
    · cases h
  | .str, .inl t,h=>by
    intro H enc base held fuel cs x aJ hw;unfold gK.fit at h;split at h
    · rename_i hu
      cases fuel with
      | zero=>simp [DataW.trod] at aJ
      | succ n =>
        unfold DataW.trod at aJ;rw [hu] at aJ;split at aJ<;>simp_all;obtain ⟨τ,rfl⟩:=aJ;refine ⟨Z,_,Z,τ, ?_⟩;simpa [DataW.weights,reachBytes] using hw
    · cases h
  | .slice e by_, .inl t,h=>by
    intro H enc base held fuel cs x aJ hw;unfold gK.fit at h;split at h
    · rename_i u hu
      simp only [aTM,aUC] at h;obtain ⟨⟨τ,ae⟩,aw⟩:=h;rcases open_slice hu aJ with ⟨rfl,_⟩ | ⟨a,len,cap,m,n,D,aKD,rfl,_,aC,hm,Re,rfl,ar⟩
      · exact ⟨rfl, .inl rfl⟩
      · simp only [aVo] at Re
        subst Re;refine ⟨Z, .inr ⟨a,len,m,Z,aC,hm, ?_,fun i ax9=> ?_⟩⟩
        · have:=hw ((((List.range len).map D).length+((List.range (m - len)).map fun j=>D (len+j)).length) * P.bytesOf u) (by simp [DataW.weights,hu])
          rw [ae] at this;simp only [aUz,aYU,reachBytes] at this;rw [show len+(m - len)=m from by omega] at this;exact this
        · obtain ⟨ady,hc,azw⟩:=ar i ax9
          have aM:=HZ P w e (.inl u) aw H enc base held n ady _ azw (fun k au=>hw k (by
            simp only [DataW.weights,hu,aTZ,aTP];right;by_cases Ip:i<len
            · exact .inl (amZ (aUh.2 ⟨i,aUi.2 Ip,rfl⟩) k au)
            · exact .inr (amZ (aUh.2 ⟨i - len,aUi.2 (by omega),by rw [show len+(i - len)=i from by omega]⟩) k au)))
          obtain ⟨_,rN,fA⟩:=World.cells?_some hc;refine ⟨ady,aM.1,fun j v hv=> ?_,aM.2⟩;have aA:j<P.cellsOf u:=by have:=(aTC.1 hv).1;omega
          rw [τ] at fA aA;rw [← Go.Deep.add_add,fA j aA,hv]
    · cases h
  | .nil, .inl t,h=>by
    intro H enc base held fuel cs x aJ hw;unfold gK.fit at h;simp only [aTM,aUC] at h;obtain ⟨aK,τ⟩:=h;have hp:∃ fs,partsOf P t=some fs:=by
      unfold partsOf;split at τ
      · exact ⟨_,rfl⟩
      · exact ⟨_,rfl⟩
      · cases τ
    obtain ⟨fs,hp⟩:=hp;have aC:=(amb hp aJ).1;rw [aK] at aC;exact ⟨aC,aT7 aC⟩
  | .cons a b, .inl t,h=>by
    intro H enc base held fuel cs x aJ hw;unfold gK.fit at h;simp only [aTM,aUC] at h;obtain ⟨aK,h⟩:=h;split at h
    · rename_i u o r hp
      obtain ⟨aC,xs,n,hx,he⟩:=amb hp aJ;rw [aK] at aC;refine ⟨aC, ?_⟩;simp only [aTM,aUC] at h;obtain ⟨⟨⟨τ,ae⟩,aw⟩,aU⟩:=h;have aU:b.fit P (.inr (0+a.size,r))=true:=by rw [aUX];exact aU
      exact Goal.fields (w:=w) (f:=(u,o)) (fun t aJ=>HZ P w a t aJ) (fun t aJ=>HZ P w b t aJ) τ ae aw aU H enc base held n cs xs hx (by rw [aC];show _=0+(a.size+b.size);omega) (fun m hm=>hw m (by rw [he];exact hm))
    · cases h
  | .nil, .inr (off,fs),h=>by
    intro H enc base held n cs xs hx aC hw;exact aT7 (by rw [aTW,aC];simp [gK.size])
  | .cons a b, .inr (off,fs),h=>by
    unfold gK.fit at h;split at h
    · rename_i u o r
      simp only [aTM,aUC] at h;obtain ⟨⟨⟨τ,ae⟩,aw⟩,aU⟩:=h;exact Goal.fields (f:=(u,o)) (fun t aJ=>HZ P w a t aJ) (fun t aJ=>HZ P w b t aJ) τ ae aw aU
    · cases h
  | .int _, .inr _,h=>by simp [gK.fit] at h
  | .bool, .inr _,h=>by simp [gK.fit] at h
  | .str, .inr _,h=>by simp [gK.fit] at h
  | .slice _ _, .inr _,h=>by simp [gK.fit] at h
theorem akq {ts:List TypeId} {ds:List (DataW H)} (sh:gK) {j:Nat} {t:TypeId} {v:Value} {d:DataW H} {p:List MemPlace} (XL:sh.fit P (.inl t)=true)
    (jL:(DataW.weightsEach P ts ds).all (· ≤reachBytes)=true) (aJ:ts[j]? =some t) (hd:ds[j]? =some d) (h:DataW.Trod enc P w base (fun _=>true) held t v d p):
    v.cells.toList.length=sh.size∧sh.jn w v.cells.toList:=by
  obtain ⟨fuel,hf⟩:=h;exact HZ P w sh (.inl t) XL H enc base held fuel _ (d,p) hf (fun n hn=>by
    have:=aUp.1 jL _ (DataW.weights_mem_each aJ hd n hn);simpa using this)
theorem ajA {α:Type} (n:Nat) (p:Nat→α→Prop) (h:∀ i,i<n→∃ x,p i x):∃ l:List α,l.length=n∧∀ i (ar:i<l.length),p i l[i]:=by
  induction n with
  | zero=>exact ⟨[],rfl,fun i ar=>absurd ar (by simp)⟩
  | succ n bK =>
    obtain ⟨l,aC,hp⟩:=bK (fun i ar=>h i (by omega));obtain ⟨x,hx⟩:=h n (by omega);refine ⟨l++ [x],by simp [aC],fun i ar=> ?_⟩;by_cases dE:i<l.length
    · rw [aV8 dE];exact hp i dE
    · have:i=n:=by simp at ar;omega
      subst this;rw [List.getElem_append_right (by omega)];simpa [aC] using hx
def dm {β α:Type} (P:β→α→Prop):List β→List α→Prop
  | [], []=>True
  | b::cu,a::m=>P b a∧dm P cu m
  | _,_=>False
section
variable {β α:Type} {P Q:β→α→Prop}
theorem dm.length:∀ {l:List β} {m:List α},dm P l m→l.length=m.length
  | [], [],_=>rfl
  | _::_,_::_,h=>by rw [aTI,aTI,dm.length h.2]
  | [],_::_,h=>h.elim
  | _::_, [],h=>h.elim
theorem dm.imp {l:List β} (ar:∀ b a,b∈l→P b a→Q b a):∀ {m:List α},dm P l m→dm Q l m:=by
  induction l with
  | nil=>intro m h;cases m with | nil=>trivial | cons=>exact h
  | cons b r bK =>
    intro m h;cases m with
    | nil=>exact h
    | cons a s=>exact ⟨ar b a (by simp) h.1,bK (fun b a γ=>ar b a (by simp [γ])) h.2⟩
theorem dm.app:∀ {l:List β} {m:List α} {iD:List β} {m':List α},dm P l m→dm P iD m'→dm P (l++iD) (m++m')
  | [], [],_,_,_,h=>h
  | _::_,_::_,_,_,h,c7=>⟨h.1,dm.app h.2 c7⟩
  | [],_::_,_,_,h,_=>h.elim
  | _::_, [],_,_,h,_=>h.elim
theorem dm.at_:∀ {l:List β} {m:List α} {i:Nat} {a:α},dm P l m→m[i]? =some a→∃ b,l[i]? =some b∧P b a
  | [], [],_,_,_,h=>by simp at h
  | b::_,_::_,0,_,h,e=>⟨b,rfl,by simp at e;subst e;exact h.1⟩
  | _::_,_::_,i+1,_,h,e=>by
    obtain ⟨b,τ,ae⟩:=dm.at_ (i:=i) h.2 (by simpa using e);exact ⟨b,by simpa using τ,ae⟩
  | [],_::_,_,_,h,_=>h.elim
  | _::_, [],_,_,h,_=>h.elim
theorem dm.Z5:∀ {l:List β} {m:List α} {i:Nat} {b:β} {a:α},dm P l m→P b a→dm P (l.set i b) (m.set i a)
  | [], [],_,_,_,_,_=>trivial
  | _::_,_::_,0,_,_,h,e=>⟨e,h.2⟩
  | _::_,_::_,_+1,_,_,h,e=>⟨h.1,dm.Z5 h.2 e⟩
  | [],_::_,_,_,_,h,_=>h.elim
  | _::_, [],_,_,_,h,_=>h.elim
theorem dm.NA:∀ {l:List β} {m:List α} (k:Nat),dm P l m→dm P (l.take k) (m.take k)
  | [], [],_,_=>by simp [dm]
  | _::_,_::_,0,_=>trivial
  | _::_,_::_,k+1,h=>⟨h.1,dm.NA k h.2⟩
  | [],_::_,_,h=>h.elim
  | _::_, [],_,h=>h.elim
theorem dm.left:∀ {l:List β} {m:List α},dm P l m→∀ b∈l,∃ a,P b a
  | [],_,_,b,γ=>by simp at γ
  | c::_, [],h,_,_=>h.elim
  | c::_,a::_,h,b,γ=>by
    rcases aTZ.1 γ with rfl | γ
    · exact ⟨a,h.1⟩
    · exact dm.left h.2 b γ
end
theorem Be {k:Nat}:∀ {l:List (List Value)},(∀ x∈l,x.length=k)→l.flatten.length=l.length * k
  | [],_=>by simp
  | x::r,h=>by rw [aUw,aTE,h x (by simp),Be (l:=r) (fun y aF=>h y (by simp [aF])),aTI,aU9];omega
theorem HV {k:Nat}:∀ {l:List (List Value)} {i j:Nat} {es:List Value},(∀ x∈l,x.length=k)→l[i]? =some es→j<k→l.flatten[i * k+j]? =es[j]?
  | [],_,_,_,_,h,_=>by simp at h
  | x::r,0,j,es,h,e,aA=>by
    have e:x=es:=by simpa using e
    subst e;rw [aUw,aYi,aUX,aTR (by rw [h x (by simp)];exact aA)]
  | x::r,i+1,j,es,h,e,aA=>by
    have hx:=h x (by simp);rw [aUw,aTU (by rw [hx,aU9];omega),hx,show (i+1) * k+j - k=i * k+j from by rw [aU9];omega];exact HV (fun y aF=>h y (by simp [aF])) (by simpa using e) aA
theorem afh {k:Nat}:∀ {l:List (List Value)} {i j:Nat} {es:List Value} (u:Value),(∀ x∈l,x.length=k)→l[i]? =some es→j<k→l.flatten.set (i * k+j) u=(l.set i (es.set j u)).flatten
  | [],_,_,_,_,_,h,_=>by simp at h
  | x::r,0,j,es,u,h,e,aA=>by
    have e:x=es:=by simpa using e
    subst e;rw [aUw,aYi,aUX,aYu _ _ (by rw [h x (by simp)];exact aA)];rfl
  | x::r,i+1,j,es,u,h,e,aA=>by
    have hx:=h x (by simp);rw [aUw,aVs _ _ (by rw [hx,aU9];omega),hx,show (i+1) * k+j - k=i * k+j from by rw [aU9];omega,afh u (fun y aF=>h y (by simp [aF])) (by simpa using e) aA];rfl
theorem afi {k:Nat}:∀ {l:List (List Value)} (i:Nat),(∀ x∈l,x.length=k)→l.flatten.take (i * k)=(l.take i).flatten
  | [],_,_=>by simp
  | x::r,0,_=>by simp
  | x::r,i+1,h=>by
    have hx:=h x (by simp);rw [aUw,aXa,aUw,aXG,hx,aT0 (by rw [hx,aU9];omega),show (i+1) * k - k=i * k from by rw [aU9];omega,afi i (fun y aF=>h y (by simp [aF]))]
structure aa (α:Type) where
  size:Nat
  has:World→List Value→α→Prop
  own:World→Nat→List Nat→List Value→α→Prop
  raw:Nat→Value→Prop
  len:∀ {w cs a},has w cs a→cs.length=size
  one:∀ {w cs a},has w cs a→∀ u∈cs,u.oneCell'=true
  wb:∀ {w cs a},has w cs a→∀ (j:Nat) u,cs[j]? =some u→raw j u
  keep:∀ {w w' cs a},has w cs a→Below w.heap.size w w'→has w' cs a
  s5:∀ {w B f cs a},own w B f cs a→has w cs a
  r_:∀ {w w' B f cs a},own w B f cs a→(∀ g∈f,w'.heap[g]? =w.heap[g]?)→own w' B f cs a
  vY:∀ {w B f cs a},own w B f cs a→∀ g∈f,B≤g∧g<w.heap.size
  BP:∀ {w B rb f cs a},own w B f cs a→rb≤B→own w rb f cs a
namespace aa
variable {α β:Type} {w w':World} {B rb:Nat} {f:List Nat} {cs:List Value} {a:α}
theorem Zi (R:aa α) (h:R.own w B f cs a):cs.length=R.size:=R.len (R.s5 h)
def Wu (size:Nat) (cells:α→List Value) (ok:α→Prop) (raw:Nat→Value→Prop) (aC:∀ a,(cells a).length=size) (τ:∀ a,∀ u∈cells a,u.oneCell'=true) (hr:∀ a,ok a→∀ (j:Nat) u,(cells a)[j]? =some u→raw j u):aa α where
  size:=size
  has:=fun _ cs a=>cs=cells a∧ok a
  own:=fun _ _ f cs a=>f= []∧cs=cells a∧ok a
  raw:=raw
  len:=by rintro w cs a ⟨rfl,_⟩;exact aC a
  one:=by rintro w cs a ⟨rfl,_⟩;exact τ a
  wb:=by rintro w cs a ⟨rfl,h⟩;exact hr a h
  keep:=fun h _=>h
  s5:=fun h=>h.2
  r_:=fun h _=>h
  vY:=by rintro w B f cs a ⟨rfl,_⟩ g aM;simp at aM
  BP:=fun h _=>h
def flat (size:Nat) (cells:α→List Value) (ok:α→Prop) (raw:Nat→Value→Prop) (aC:∀ a,(cells a).length=size) (τ:∀ a,∀ u∈cells a,u.oneCell'=true) (hr:∀ a (j:Nat) u,(cells a)[j]? =some u→raw j u):aa α where
  size:=size
  has:=fun _ cs a=>cs=cells a∧ok a
  own:=fun _ _ f cs a=>f= []∧cs=cells a∧ok a
  raw:=raw
  len:=by rintro w cs a ⟨rfl,_⟩;exact aC a
  one:=by rintro w cs a ⟨rfl,_⟩;exact τ a
  wb:=by rintro w cs a ⟨rfl,_⟩;exact hr a
  keep:=fun h _=>h
  s5:=fun h=>h.2
  r_:=fun h _=>h
  vY:=by rintro w B f cs a ⟨rfl,_⟩ g aM;simp at aM
  BP:=fun h _=>h
def pair (R:aa α) (S:aa β):aa (α×β) where
  size:=R.size+S.size
  has:=fun w cs p=>∃ xs ys,cs=xs++ys∧R.has w xs p.1∧S.has w ys p.2
  own:=fun w B f cs p=>∃ xs ys f1 f2,cs=xs++ys∧f=f1++f2∧R.own w B f1 xs p.1∧S.own w B f2 ys p.2
  raw:=fun j u=>if j<R.size then R.raw j u else S.raw (j - R.size) u
  len:=by rintro w cs p ⟨xs,ys,rfl,τ,ae⟩;rw [aTE,R.len τ,S.len ae]
  one:=by
    rintro w cs p ⟨xs,ys,rfl,τ,ae⟩ u hu;rcases aTP.1 hu with hu | hu
    · exact R.one τ u hu
    · exact S.one ae u hu
  wb:=by
    rintro w cs p ⟨xs,ys,rfl,τ,ae⟩ j u hu;by_cases aA:j<R.size
    · rw [aTO aA];rw [aTR (by rw [R.len τ];exact aA)] at hu;exact R.wb τ j u hu
    · rw [aTL aA];rw [aTU (by rw [R.len τ];omega),R.len τ] at hu;exact S.wb ae _ u hu
  keep:=by rintro w w' cs p ⟨xs,ys,rfl,τ,ae⟩ γ;exact ⟨xs,ys,Z,R.keep τ γ,S.keep ae γ⟩
  s5:=by rintro w B f cs p ⟨xs,ys,f1,f2,rfl,rfl,τ,ae⟩;exact ⟨xs,ys,Z,R.s5 τ,S.s5 ae⟩
  r_:=by
    rintro w w' B f cs p ⟨xs,ys,f1,f2,rfl,rfl,τ,ae⟩ au;exact ⟨xs,ys,f1,f2,Z,Z,R.r_ τ (fun g aM=>au g (by simp [aM])),S.r_ ae (fun g aM=>au g (by simp [aM]))⟩
  vY:=by
    rintro w B f cs p ⟨xs,ys,f1,f2,rfl,rfl,τ,ae⟩ g aM;rcases aTP.1 aM with aM | aM
    · exact R.vY τ g aM
    · exact S.vY ae g aM
  BP:=by
    rintro w B rb f cs p ⟨xs,ys,f1,f2,rfl,rfl,τ,ae⟩ γ;exact ⟨xs,ys,f1,f2,Z,Z,R.BP τ γ,S.BP ae γ⟩
def via (R:aa α) (g:β→α):aa β where
  size:=R.size
  has:=fun w cs b=>R.has w cs (g b)
  own:=fun w B f cs b=>R.own w B f cs (g b)
  raw:=R.raw
  len:=fun h=>R.len h
  one:=fun h=>R.one h
  wb:=fun h=>R.wb h
  keep:=fun h γ=>R.keep h γ
  s5:=fun h=>R.s5 h
  r_:=fun h au=>R.r_ h au
  vY:=fun h=>R.vY h
  BP:=fun h γ=>R.BP h γ
def aj:Option Addr→List Nat
  | none=> []
  | some a=> [a.block]
theorem aBQ {A:Option Addr} {g:Nat}:g∈aj A↔∃ a,A=some a∧a.block=g:=by
  cases A with
  | none=>simp [aj]
  | some a=>simp [aj,eq_comm]
def aG (R:aa α) (by_:Nat) (w:World) (A:Option Addr) (c:Nat) (l:List α):Prop :=
  l.length≤c∧c≤9223372036854775807∧l.length * by_≤140737488355328∧(A=none→c=0)∧
  ∃ ess,dm (fun es a=>R.has w es a) ess l∧Rd w R.size A l.length ess.flatten
def aH (R:aa α) (E:TypeId) (by_:Nat) (w:World) (B:Nat) (f:List Nat) (A:Option Addr) (c:Nat) (l:List α):Prop :=
  l.length * by_≤140737488355328∧
  ∃ ps:List (List Nat×List Value),f=aj A++(ps.map (·.1)).flatten∧f.Nodup∧Own w B E R.size R.raw (.slice A l.length c) l.length (ps.map (·.2)).flatten∧
    dm (fun x a=>R.own w B x.1 x.2 a) ps l
theorem aG.keep {R:aa α} {by_:Nat} {A:Option Addr} {c:Nat} {l:List α} (h:R.aG by_ w A c l) (γ:Below w.heap.size w w'):R.aG by_ w' A c l:=by
  obtain ⟨τ,ae,aw,aU,ess,bz,cb⟩:=h;exact ⟨τ,ae,aw,aU,ess,bz.imp (fun es a _ h=>R.keep h γ),cb.later γ⟩
theorem aG.drewN {R:aa α} {by_:Nat} {A:Option Addr} {c:Nat} {l:List α} (h:R.aG by_ w A c l) (k:Nat):R.aG by_ (w.drewN k) A c l:=h.keep (below_drewN (aUb _ w) k)
theorem dm.Y2 {β ann α:Type} (g:β→ann) {P:ann→α→Prop}:∀ {l:List β} {m:List α},dm (fun b a=>P (g b) a) l m→dm P (l.map g) m
  | [], [],_=>trivial
  | _::_,_::_,h=>⟨h.1,dm.Y2 g h.2⟩
  | [],_::_,h=>h.elim
  | _::_, [],h=>h.elim
theorem aH.has {R:aa α} {E:TypeId} {by_:Nat} {A:Option Addr} {c:Nat} {l:List α} (h:R.aH E by_ w B f A c l):R.aG by_ w A c l:=by
  obtain ⟨τ,ps,rfl,aw,aU,bz⟩:=h;obtain ⟨bL,bX,e,hle,hmx,L6,_,kv⟩:=aU.shape;injection e with aY _ bb
  subst aY;subst bb;refine ⟨hle,by unfold maxLen at hmx;omega,τ,fun hn=>by have:=kv hn;injection this,_,dm.Y2 (fun x:List Nat×List Value=>x.2) (bz.imp fun x a _ h=>R.s5 h),L6⟩
theorem aH.keep {R:aa α} {E:TypeId} {by_:Nat} {A:Option Addr} {c:Nat} {l:List α} (h:R.aH E by_ w B f A c l) (au:∀ g∈f,w'.heap[g]? =w.heap[g]?):R.aH E by_ w' B f A c l:=by
  obtain ⟨τ,ps,rfl,aw,aU,bz⟩:=h;refine ⟨τ,ps,Z,aw,aU.of_block (B:=0) fun g aM=>au g ?_,bz.imp fun x a hx h=>R.r_ h fun g aM=>au g ?_⟩
  · cases A with
    | none=>cases aM
    | some a=>injection aM with aM;simp [aj,aM]
  · exact aTP.2 (.inr (aUN.2 ⟨x.1,aUh.2 ⟨x,hx,rfl⟩,aM⟩))
theorem aH.lt {R:aa α} {E:TypeId} {by_:Nat} {A:Option Addr} {c:Nat} {l:List α} (h:R.aH E by_ w B f A c l):∀ g∈f,B≤g∧g<w.heap.size:=by
  obtain ⟨τ,ps,rfl,aw,aU,bz⟩:=h;intro g aM;rcases aTP.1 aM with aM | aM
  · obtain ⟨a,rfl,rfl⟩:=aBQ.1 aM
    exact aU.row.lt _ Z
  · obtain ⟨y,aF,aM⟩:=aUN.1 aM
    obtain ⟨x,hx,rfl⟩:=aUh.1 aF;obtain ⟨a,ha⟩:=bz.left x hx;exact R.vY ha g aM
theorem aH.later {R:aa α} {E:TypeId} {by_:Nat} {A:Option Addr} {c:Nat} {l:List α} (h:R.aH E by_ w B f A c l) (γ:Below w.heap.size w w'):R.aH E by_ w' B f A c l:=h.keep fun g aM=>γ.block g (h.lt g aM).2
theorem aH.nodup {R:aa α} {E:TypeId} {by_:Nat} {A:Option Addr} {c:Nat} {l:List α} (h:R.aH E by_ w B f A c l):f.Nodup:=by
  obtain ⟨_,ps,rfl,aw,_⟩:=h;exact aw
theorem aH.down {R:aa α} {E:TypeId} {by_:Nat} {A:Option Addr} {c:Nat} {l:List α} (h:R.aH E by_ w B f A c l) (γ:rb≤B):R.aH E by_ w rb f A c l:=by
  obtain ⟨τ,ps,rfl,aw,aU,bz⟩:=h;exact ⟨τ,ps,Z,aw,aU.mono γ,bz.imp fun x a _ h=>R.BP h γ⟩
def slice (R:aa α) (E:TypeId) (by_:Nat):aa (List α) where
  size:=1
  has:=fun w cs l=>∃ A c,cs= [.slice A l.length c]∧R.aG by_ w A c l
  own:=fun w B f cs l=>∃ A c,cs= [.slice A l.length c]∧R.aH E by_ w B f A c l
  raw:=fun _ u=>∃ A n c,u= .slice A n c
  len:=by rintro w cs l ⟨A,c,rfl,_⟩;rfl
  one:=by rintro w cs l ⟨A,c,rfl,_⟩ u hu;simp at hu;subst hu;rfl
  wb:=by
    rintro w cs l ⟨A,c,rfl,_⟩ j u hu;cases j with
    | zero=>simp at hu;exact ⟨_,_,_,hu.symm⟩
    | succ j=>simp at hu
  keep:=by rintro w w' cs l ⟨A,c,rfl,h⟩ γ;exact ⟨A,c,Z,h.keep γ⟩
  s5:=by rintro w B f cs l ⟨A,c,rfl,h⟩;exact ⟨A,c,Z,h.has⟩
  r_:=by rintro w w' B f cs l ⟨A,c,rfl,h⟩ au;exact ⟨A,c,Z,h.keep au⟩
  vY:=by rintro w B f cs l ⟨A,c,rfl,h⟩;exact h.lt
  BP:=by rintro w B rb f cs l ⟨A,c,rfl,h⟩ γ;exact ⟨A,c,Z,h.down γ⟩
theorem dm.akj {β α:Type} {P:β→α→Prop}:∀ {l:List β} {m:List α},l.length=m.length→(∀ (k:Nat) b a,l[k]? =some b→m[k]? =some a→P b a)→dm P l m
  | [], [],_,_=>trivial
  | b::l,a::m,aC,h=>⟨h 0 b a rfl rfl,dm.akj (by simpa using aC) (fun k b a τ ae=>h (k+1) b a (by simpa using τ) (by simpa using ae))⟩
  | [],_::_,aC,_=>by simp at aC
  | _::_, [],aC,_=>by simp at aC
section
variable {R:aa α} {E:TypeId} {by_:Nat} {A:Option Addr} {c:Nat} {l:List α}
theorem lens {ess:List (List Value)} (h:dm (fun es a=>R.has w es a) ess l):∀ x∈ess,x.length=R.size:=fun x hx=>by
  obtain ⟨a,ha⟩:=h.left x hx;exact R.len ha
theorem aG.at_ (h:R.aG by_ w A c l) (aK:0<l.length):∃ b o,A=some ⟨b,o,none⟩∧∀ (i:Nat) a,l[i]? =some a→∃ es,R.has w es a∧∀ (j:Nat) u,es[j]? =some u→w.cell? ⟨b,o+(i * R.size+j),none⟩=some u:=by
  obtain ⟨_,_,_,_,ess,bz,cb,ej⟩:=h;obtain ⟨b,o,e,hc⟩:=ej aK;refine ⟨b,o,e,fun i a ha=> ?_⟩;obtain ⟨es,fq,vC⟩:=bz.at_ ha;refine ⟨es,vC,fun j u hu=>hc _ u ?_⟩;have aA:=(aTC.1 hu).1;rw [R.len vC] at aA;rw [HV (lens bz) fq aA];exact hu
theorem aG.y7 {Q:α→Prop} (I:∀ {w cs a},R.has w cs a→Q a) (h:R.aG by_ w A c l):∀ a∈l,Q a:=by
  obtain ⟨_,_,_,_,ess,bz,_⟩:=h;intro a ha;obtain ⟨i,ar,rfl⟩:=aUB.1 ha;obtain ⟨es,_,he⟩:=bz.at_ (aTF ar);exact I he
theorem I2 {e:gK} (he:∀ w cs,e.jn w cs→∃ a,R.has w cs a) (hs:e.size=R.size) (aK:0<R.size) {cs:List Value} (h:(gK.slice e by_).jn w cs):∃ A c l,cs= [.slice A (List.length l) c]∧R.aG by_ w A c l:=by
  rcases h with rfl | ⟨a,len,cap,rfl,aC,hm,hr,ar⟩
  · exact ⟨none,0, [],rfl,aTK _,by simp,by simp,fun _=>rfl, [],trivial,Rd.zero w R.size none⟩
  · obtain ⟨ess,hlen,FC⟩:=ajA len (fun i es=>List.length es=e.size∧(∀ j v,es[j]? =some v→w.cell? (a.add (i * e.size+j))=some v)∧e.jn w es) (fun i xy=>ar i (by omega))
    obtain ⟨l,kO,Q_⟩:=ajA len (fun i x=>∃ es,ess[i]? =some es∧R.has w es x) (fun i xy=>by
      obtain ⟨x,hx⟩:=he w (ess[i]'(by omega)) (FC i (by omega)).2.2;exact ⟨x,_,aTF _,hx⟩)
    have dD:dm (fun es x=>R.has w es x) ess l:=by
      refine dm.akj (by omega) fun k es x τ ae=> ?_;have au:=(aTC.1 ae);obtain ⟨pX,ff⟩:=au;obtain ⟨aMw,aw,aU⟩:=Q_ k pX;rw [τ] at aw;obtain rfl:=aTA aw;rw [← ff];exact aU
    refine ⟨some a,cap,l,by rw [kO],by omega,by unfold maxLen at hm;omega, ?_,fun h=>(by cases h),ess,dD,by rw [Be (lens dD),dD.length],fun aMT=> ?_⟩
    · have:=aUk by_ aC
      rw [kO];omega
    · obtain ⟨b,off,spot⟩:=a
      have mP:=(FC 0 (by omega)).2.1 0;obtain ⟨v,hv⟩:∃ v,(ess[0]'(by omega))[0]? =some v:=by
        have:=(FC 0 (by omega)).1;exact ⟨_,aTF (by omega)⟩
      have sV:=mP v hv;have Bt:spot=none:=by simpa [Addr.add] using World.cell?_spot sV
      subst Bt;refine ⟨b,off,Z,fun j u hu=> ?_⟩;have bA:=(aTC.1 hu).1;rw [Be (lens dD)] at bA;have aA:j % R.size<R.size:=aVI _ aK;have hd:j / R.size<ess.length:=by rw [aWX aK];exact bA
      have Rp:j / R.size * R.size+j % R.size=j:=by rw [aUU];exact aXO j R.size
      have cb:=HV (j:=j % R.size) (lens dD) (i:=j / R.size) (es:=ess[j / R.size]'hd) (aTF hd) aA;rw [Rp,hu] at cb;have ej:=(FC (j / R.size) hd).2.1 _ u cb.symm;rw [Ho,hs,Rp] at ej;exact ej
theorem aG.eZ {A:Option Addr} {c:Nat} {l:List α} {by_:Nat} {R:aa α} (h:R.aG by_ w A c l):l.length≤9223372036854775807:=aUc h.1 h.2.1
theorem aG.NA {A:Option Addr} {c:Nat} {l:List α} {by_:Nat} {R:aa α} (h:R.aG by_ w A c l) (k:Nat):R.aG by_ w A c (l.take k):=by
  obtain ⟨τ,ae,aw,aU,ess,bz,cb⟩:=h;have aC:(l.take k).length≤l.length:=by rw [aTD];omega
  have hm:=aUk by_ aC;have ej:=bz.NA k;refine ⟨by omega,ae,by omega,aU,ess.take k,ej,by rw [Be (lens ej),ej.length],fun aK=> ?_⟩;obtain ⟨b,o,e,hc⟩:=cb.2 (by omega);refine ⟨b,o,e,fun j u hu=>hc j u ?_⟩;rw [← afi k (lens bz),aUf] at hu;split at hu
  · exact hu
  · cases hu
theorem aG.nil (w:World):R.aG by_ w none 0 []:=⟨aTK _,by simp,by simp,fun _=>rfl, [],trivial,Rd.zero w R.size none⟩
theorem aH.nil (w:World):R.aH E by_ w B [] none 0 []:=⟨by simp, [],rfl,aXV,Own.nil w B E R.size R.raw,trivial⟩
end
def EP (R:aa α) (E:TypeId) (by_:Nat) (w:World) (B:Nat) (aD:List Nat) (g c:Nat) (l:List α) (i:Nat) (es:List Value):Prop :=
  l.length * by_≤140737488355328∧ 
  ∃ ps:List (List Nat×List Value),aD=g::(ps.map (·.1)).flatten∧aD.Nodup∧Own w B E R.size R.raw (.slice (some ⟨g,0,none⟩) l.length c) l.length (ps.map (·.2)).flatten∧
    ps[i]? =some ([],es)∧es.length=R.size∧ps.length=l.length∧∀ k a,k≠i→l[k]? =some a→∃ x,ps[k]? =some x∧R.own w B x.1 x.2 a
section
variable {R:aa α} {E:TypeId} {by_:Nat} {A:Option Addr} {c:Nat} {l:List α} {g i:Nat} {es:List Value} {aD:List Nat}
theorem R9 {ps:List (List Nat×List Value)} (h:dm (fun x a=>R.own w B x.1 x.2 a) ps l):∀ x∈ps.map (·.2),x.length=R.size:=fun x hx=>by
  obtain ⟨y,aF,rfl⟩:=aUh.1 hx;obtain ⟨a,ha⟩:=h.left y aF;exact R.Zi ha
theorem aH.block (h:R.aH E by_ w B f A c l) (aK:0<l.length):∃ g,A=some ⟨g,0,none⟩:=by
  obtain ⟨_,ps,_,_,aU,_⟩:=h;obtain ⟨_,bz⟩:=aU;rcases bz with ⟨_,bz⟩ | ⟨g,cap,cur,hv,_⟩
  · omega
  · injection hv with hv;exact ⟨g,hv⟩
theorem EP.lens (h:R.EP E by_ w B aD g c l i es):∃ ps:List (List Nat×List Value),aD=g::(ps.map (·.1)).flatten∧aD.Nodup∧Own w B E R.size R.raw (.slice (some ⟨g,0,none⟩) l.length c) l.length (ps.map (·.2)).flatten∧
    ps[i]? =some ([],es)∧es.length=R.size∧ps.length=l.length∧(∀ k a,k≠i→l[k]? =some a→∃ x,ps[k]? =some x∧R.own w B x.1 x.2 a)∧∀ x∈ps.map (·.2),x.length=R.size:=by
  obtain ⟨_,ps,ae,aw,aU,bz,cb,ej,fq⟩:=h;refine ⟨ps,ae,aw,aU,bz,cb,ej,fq,fun x hx=> ?_⟩;obtain ⟨k,au,rfl⟩:=aUB.1 hx;rw [aUz] at au;rw [aWJ];by_cases pY:k=i
  · subst pY
    rw [aTF au] at bz;rw [aTA bz];exact cb
  · obtain ⟨y,aF,cc⟩:=fq k (l[k]'(by omega)) pY (aTF _)
    rw [aTF au] at aF;rw [aTA aF];exact R.Zi cc
theorem EP.keep (h:R.EP E by_ w B aD g c l i es) (au:∀ x∈aD,w'.heap[x]? =w.heap[x]?):R.EP E by_ w' B aD g c l i es:=by
  obtain ⟨τ,ps,ae,aw,aU,bz,cb,ej,fq⟩:=h;refine ⟨τ,ps,ae,aw,aU.of_block (B:=0) (fun x hx=>au x ?_),bz,cb,ej,fun k a pY ha=> ?_⟩
  · injection hx with hx;rw [ae,← hx];simp
  · obtain ⟨x,hx,cc⟩:=fq k a pY ha
    refine ⟨x,hx,R.r_ cc fun y aF=>au y ?_⟩;rw [ae];exact aTS _ (aUN.2 ⟨x.1,aUh.2 ⟨x,aUg hx,Z⟩,aF⟩)
theorem EP.cell (h:R.EP E by_ w B aD g c l i es) (ar:i<l.length) {j:Nat} {u:Value} (hu:es[j]? =some u):w.cell? ⟨g,i * R.size+j,none⟩=some u:=by
  obtain ⟨ps,ae,aw,aU,bz,cb,ej,fq,aC⟩:=h.lens;have aA:j<R.size:=by rw [← cb];exact (aTC.1 hu).1
  have:=aU.cell (i * R.size+j) (by
    have:(i+1) * R.size≤l.length * R.size:=aUk _ ar;rw [aU9] at this;omega)
  rw [this,HV aC (by rw [aTY,bz];rfl) aA];exact hu
theorem aH.free (h:R.aH E by_ w B f (some ⟨g,0,none⟩) c l) (j:Nat):w.frozen? ⟨g,j,none⟩=false:=by
  obtain ⟨_,ps,rfl,_,aU,_⟩:=h;exact aU.free j
end

section
variable {P:Program} {R:aa α} {by_:Nat}
theorem R_ (A:Option Addr) (n c:Nat):(Value.slice A n c).ownBlock.toList=aj A:=by cases A<;>rfl
theorem aEF (ty:TypeId) (base:Nat) (t e:TypeId) (i:TypeInfo) (z:Value) (aJ:P.underlying t=some (.slice e)) (ar:P.info? e=some i) (bG:i.zero=some z)
    (xD:i.size=R.size) (pW:i.bytes=by_) (sW:z.cells.size=R.size) (jL:0<R.size) (xG:∀ (j:Nat) u,z.cells[j]? =some u→R.raw j u)
    (f:List Nat) (A:Option Addr) (c:Nat) (l:List α) (h:R.aH e by_ w base f A c l)
    (dg:Option Addr) (m c2:Nat) (k:List α) (kX:List (List Nat×List Value)) (I:dm (fun x a=>R.own w base x.1 x.2 a) kX k) (hm:k.length=m) (hr:Rd w R.size dg m (kX.map (·.2)).flatten)
    (jK:(f++(kX.map (·.1)).flatten).Nodup) (rH:l.length+m≤9223372036854775807) (rM:(l.length+m) * by_≤140737488355328) (pU:base≤w.heap.size):
    ∃ bL bX f' w',(Builtin.append_ #[t,t] ty #[.slice A l.length c, .slice dg m c2]).run P w= .ok (.slice bL (l.length+m) bX) w'∧R.aH e by_ w' base f' bL bX (l++k)∧w.grownBy w' (Value.slice A l.length c).ownBlock∧(bL=A∨∃ a,bL=some a∧a.block=w.heap.size)∧(∀ x∈f',x∈f∨x∈(kX.map (·.1)).flatten∨x=w.heap.size)∧(bL=none↔A=none∧m=0)∧base≤w'.heap.size:=by
  obtain ⟨τ,ps,rfl,aw,aU,bz⟩:=h;have LY:∀ (j:Nat) u,(kX.map (·.2)).flatten[j]? =some u→R.raw (j % R.size) u:=by
    intro j u hu;have aC:=R9 I;have bA:=(aTC.1 hu).1;rw [Be aC,aUz] at bA;have aA:j % R.size<R.size:=aVI _ jL;have hd:j / R.size<kX.length:=by rw [aWX jL];exact bA
    have aOa:kX[j / R.size]? =some (kX[j / R.size]'hd):=aTF hd;have ayp:k[j / R.size]? =some (k[j / R.size]'(by rw [← I.length];exact hd)):=aTF _;obtain ⟨x,hx,cc⟩:=I.at_ ayp;have:=HV (j:=j % R.size) aC (i:=j / R.size) (es:=x.2) (by rw [aTY,hx];rfl) aA;rw [show j / R.size * R.size+j % R.size=j from by rw [aUU];exact aXO j R.size,hu] at this;exact R.wb (R.s5 cc) _ u this.symm
  have mS:∀ u∈(kX.map (·.2)).flatten,u.oneCell'=true:=by
    intro u hu;obtain ⟨y,aF,hu⟩:=aUN.1 hu;obtain ⟨x,hx,rfl⟩:=aUh.1 aF;obtain ⟨a,ha⟩:=I.left x hx;exact R.one (R.s5 ha) u hu
  obtain ⟨v',w',kQ,eT,iU,lF,fA⟩:=alf (P:=P) w base t ty e i z R.size by_ aJ ar bG xD pW sW jL R.raw xG _ _ _ aU dg m c2 _ hr mS LY (by unfold maxLen;omega) rM pU;obtain ⟨bL,bX,rfl,hle,hmx,L6,Ig,kv⟩:=eT.shape;have ayD:∀ x,(Value.slice A l.length c).ownBlock=some x→x∈aj A:=fun x hx=>by rw [← R_ A l.length c,hx];simp
  have hA:∀ x∈aj bL,x∈aj A∨x=w.heap.size:=by
    intro x hx;rw [← R_ bL (l.length+m) bX] at hx;rcases fA with fA | fA
    · rw [fA,R_] at hx;exact .inl hx
    · rw [fA] at hx;simp at hx;exact .inr hx
  have X9:∀ x∈ps,∀ y∈x.1,y<w.heap.size∧y∉aj A:=by
    intro x hx y aF;obtain ⟨a,ha⟩:=bz.left x hx;refine ⟨(R.vY ha y aF).2,fun γ=> ?_⟩;rw [aUu] at aw;exact aw.2.2 y γ y (aUN.2 ⟨x.1,aUh.2 ⟨x,hx,Z⟩,aF⟩) Z
  have aze:∀ x∈kX,∀ y∈x.1,y<w.heap.size∧y∉aj A:=by
    intro x hx y aF;obtain ⟨a,ha⟩:=I.left x hx;refine ⟨(R.vY ha y aF).2,fun γ=> ?_⟩;rw [aUu] at jK;exact jK.2.2 y (aW4 _ γ) y (aUN.2 ⟨x.1,aUh.2 ⟨x,hx,Z⟩,aF⟩) Z
  have axw:∀ y,y<w.heap.size→y∉aj A→w'.heap[y]? =w.heap[y]? :=fun y aF hn=>iU.block y aF fun e=>hn (ayD y e.symm);have XV:∀ x∈ps++kX,∀ y∈x.1,y<w.heap.size∧y∉aj A:=fun x hx=>by
    rcases aTP.1 hx with hx | hx
    · exact X9 x hx
    · exact aze x hx
  refine ⟨bL,bX,aj bL++((ps++kX).map (·.1)).flatten,w',kQ,⟨by rw [aTE,hm];exact rM,ps++kX,rfl, ?_, ?_, ?_⟩,iU, ?_, ?_, ?_,aUc pU iU.size⟩
  · rw [aTX,← aV5,← aT8,aUu] at jK
    rw [aUu];refine ⟨by cases bL<;>simp [aj],jK.2.1,fun x hx y aF e=> ?_⟩;subst e;obtain ⟨z,bG,aF⟩:=aUN.1 aF;obtain ⟨v,hv,rfl⟩:=aUh.1 bG;have cb:=XV v hv x aF;rcases hA x hx with ej | ej
    · exact cb.2 ej
    · omega
  · rw [aT8,aV5,aTE,hm];exact eT
  · exact (bz.app I).imp fun x a hx cc=>R.r_ cc fun y aF=>axw y (XV x hx y aF).1 (XV x hx y aF).2
  · rcases fA with fA | fA
    · cases bL with
      | none =>
        cases A with
        | none=>exact .inl rfl
        | some a=>cases fA
      | some a' =>
        cases A with
        | none=>cases fA
        | some a =>
          obtain ⟨_,cb⟩:=aU;obtain ⟨_,ej⟩:=eT;rcases cb with ⟨cb,_⟩ | ⟨g,cap,cur,cb,_⟩
          · cases cb
          rcases ej with ⟨ej,_⟩ | ⟨g',aL3,C1,ej,_⟩
          · cases ej
          injection cb with cb
          injection ej with ej
          rw [cb,ej] at fA ⊢;injection fA with fA
          have fA:g'=g:=fA
          left;rw [fA]
    · cases bL with
      | none=>cases fA
      | some a'=>injection fA with fA;exact .inr ⟨a',Z,fA⟩
  · intro x hx
    rcases aTP.1 hx with hx | hx
    · rcases hA x hx with h | h
      · exact .inl (aW4 _ h)
      · exact .inr (.inr h)
    · rw [aT8,aV5] at hx
      rcases aTP.1 hx with hx | hx
      · exact .inl (aWY _ hx)
      · exact .inr (.inl hx)
  · have Fl:A=none→Value.slice A l.length c= .slice none 0 0:=fun e=>by
      obtain ⟨_,_,jq,_,_,_,_,ayO⟩:=aU.shape;injection jq with aY _ bb
      subst aY;subst bb;exact ayO e
    constructor
    · intro e
      obtain ⟨cb,ej⟩:=lF.1 (kv e);injection cb with cb
      exact ⟨cb,ej⟩
    · rintro ⟨e,aK⟩
      have:=lF.2 ⟨Fl e,aK⟩;injection this
theorem aHL {o:Oper} {a:Act} {K:Act→World→Prop} {Q:Exit→Act→World→Prop} (s x:Operand) (base:Nat) (t e:TypeId) (i:TypeInfo) (z:Value) (aJ:P.underlying t=some (.slice e)) (ar:P.info? e=some i) (bG:i.zero=some z)
    (xD:i.size=R.size) (pW:i.bytes=by_) (sW:z.cells.size=R.size) (jL:0<R.size) (xG:∀ (j:Nat) u,z.cells[j]? =some u→R.raw j u)
    (f:List Nat) (A:Option Addr) (c:Nat) (l:List α) (h:R.aH e by_ w base f A c l)
    (dg:Option Addr) (m c2:Nat) (k:List α) (kX:List (List Nat×List Value)) (I:dm (fun x a=>R.own w base x.1 x.2 a) kX k) (hm:k.length=m) (hr:Rd w R.size dg m (kX.map (·.2)).flatten)
    (jK:(f++(kX.map (·.1)).flatten).Nodup) (rH:l.length+m≤9223372036854775807) (rM:(l.length+m) * by_≤140737488355328) (pU:base≤w.heap.size)
    (cc:o.op= .call {callee:= .builtin .append,args:=#[s,x],argTypes:=#[t,t]}) (hs:a.eval s= .slice A l.length c) (hx:a.eval x= .slice dg m c2)
    (hK:∀ bL bX f' w',R.aH e by_ w' base f' bL bX (l++k)∧w.grownBy w' (Value.slice A l.length c).ownBlock∧(bL=A∨∃ a,bL=some a∧a.block=w.heap.size)∧(∀ x∈f',x∈f∨x∈(kX.map (·.1)).flatten∨x=w.heap.size)∧(bL=none↔A=none∧m=0)∧base≤w'.heap.size→K (a.put o.dst (.slice bL (l.length+m) bX)) w'):o.wp P a w K Q:=by
  obtain ⟨bL,bX,f',w',kQ,ae⟩:=aEF (P:=P) (w:=w) o.type base t e i z aJ ar bG xD pW sW jL xG f A c l h dg m c2 k kX I hm hr jK rH rM pU;unfold Oper.wp execOp;simp only [cc,resolve,invoke,builtin,aTQ,aTV,aTJ,aXI,aUs,aVy,hs,hx,kQ];exact hK bL bX f' w' ae
theorem aHI {ops:Array Oper} {rest:List Oper} {o:Oper} {a:Act} {Q:Exit→Act→World→Prop} (XP:o.guard=none) (s x:Operand) (base:Nat) (t e:TypeId) (i:TypeInfo) (z:Value) (aJ:P.underlying t=some (.slice e)) (ar:P.info? e=some i) (bG:i.zero=some z)
    (xD:i.size=R.size) (pW:i.bytes=by_) (sW:z.cells.size=R.size) (jL:0<R.size) (xG:∀ (j:Nat) u,z.cells[j]? =some u→R.raw j u)
    (f:List Nat) (A:Option Addr) (c:Nat) (l:List α) (h:R.aH e by_ w base f A c l)
    (dg:Option Addr) (m c2:Nat) (k:List α) (kX:List (List Nat×List Value)) (I:dm (fun x a=>R.own w base x.1 x.2 a) kX k) (hm:k.length=m) (hr:Rd w R.size dg m (kX.map (·.2)).flatten)
    (jK:(f++(kX.map (·.1)).flatten).Nodup) (rH:l.length+m≤9223372036854775807) (rM:(l.length+m) * by_≤140737488355328) (pU:base≤w.heap.size)
    (cc:o.op= .call {callee:= .builtin .append,args:=#[s,x],argTypes:=#[t,t]}) (hs:a.eval s= .slice A l.length c) (hx:a.eval x= .slice dg m c2)
    (hK:∀ bL bX f' w',R.aH e by_ w' base f' bL bX (l++k)∧w.grownBy w' (Value.slice A l.length c).ownBlock∧(bL=A∨∃ a,bL=some a∧a.block=w.heap.size)∧(∀ x∈f',x∈f∨x∈(kX.map (·.1)).flatten∨x=w.heap.size)∧(bL=none↔A=none∧m=0)∧base≤w'.heap.size→wpList P ops Q rest (a.put o.dst (.slice bL (l.length+m) bX)) w'):wpList P ops Q (o::rest) a w :=
  wpList_plain XP fun _ awI=>aHL s x base t e i z aJ ar bG xD pW sW jL xG f A c l h dg m c2 k kX I hm hr jK rH rM pU cc hs hx fun bL bX f' w' ae=>awI _ _ (hK bL bX f' w' ae)
def Plain (R:aa α):Prop:=∀ {w B cs a},R.has w cs a→R.own w B [] cs a
theorem n1 {size:Nat} {cells:α→List Value} {ok:α→Prop} {raw:Nat→Value→Prop} {aC τ hr}:(flat size cells ok raw aC τ hr).Plain:=fun h=>⟨rfl,h⟩
theorem avP {size:Nat} {cells:α→List Value} {ok:α→Prop} {raw:Nat→Value→Prop} {aC τ hr}:(Wu size cells ok raw aC τ hr).Plain:=fun h=>⟨rfl,h⟩
theorem dm.plain {ess:List (List Value)} {l:List α} (hp:R.Plain) (h:dm (fun es a=>R.has w es a) ess l):dm (fun x a=>R.own w B x.1 x.2 a) (ess.map fun es=>(([]:List Nat),es)) l :=
  dm.Y2 (P:=fun (x:List Nat×List Value) a=>R.own w B x.1 x.2 a) (fun es=>(([]:List Nat),es)) (h.imp fun _ _ _ h=>hp h)
theorem akF (ess:List (List Value)):((ess.map fun es=>(([]:List Nat),es)).map (·.1)).flatten= []∧(ess.map fun es=>(([]:List Nat),es)).map (·.2)=ess:=by
  constructor
  · induction ess with
    | nil=>rfl
    | cons x r bK=>simp
  · rw [aWq]
    exact List.map_id' ess
theorem aH.zS {E:TypeId} {A:Option Addr} {c:Nat} {l:List α} (hp:R.Plain) {ess:List (List Value)} (h:dm (fun es a=>R.has w es a) ess l) (γ:l.length * by_≤140737488355328) (cc:Own w B E R.size R.raw (.slice A l.length c) l.length ess.flatten):R.aH E by_ w B (aj A) A c l:=by
  obtain ⟨aY,bb⟩:=akF ess;exact ⟨γ,_,by rw [aY,aT6],by cases A<;>simp [aj],by rw [bb];exact cc,dm.plain hp h⟩
theorem aH.av1 {E:TypeId} {A:Option Addr} {c:Nat} {l:List α} (hp:∀ {w B f cs a},R.own w B f cs a→f= []) (h:R.aH E by_ w B f A c l):f=aj A:=by
  obtain ⟨_,ps,rfl,_,_,bz⟩:=h;have:(ps.map (·.1)).flatten= []:=by
    rw [aYe];intro x hx;obtain ⟨y,aF,rfl⟩:=aUh.1 hx;obtain ⟨a,ha⟩:=bz.left y aF;exact hp ha
  rw [this,aT6]
end
end aa

theorem Fg {α:Type} {R:aa α} {w:World} {ess:List (List Value)} {l:List α} (h:dm (fun es a=>R.has w es a) ess l) (aK:0<R.size) {j:Nat} {u:Value} (hu:ess.flatten[j]? =some u):R.raw (j % R.size) u:=by
  have aC:=aa.lens h;have bA:=(aTC.1 hu).1;rw [Be aC] at bA;have aA:j % R.size<R.size:=aVI _ aK;have hd:j / R.size<ess.length:=by rw [aWX aK];exact bA
  have Rp:j / R.size * R.size+j % R.size=j:=by rw [aUU];exact aXO j R.size
  have cb:=HV (j:=j % R.size) aC (i:=j / R.size) (es:=ess[j / R.size]'hd) (aTF hd) aA;rw [Rp,hu] at cb;obtain ⟨a,ha⟩:=h.left _ (aUV hd);exact R.wb ha _ u cb.symm
namespace aa
variable {α:Type} {w w':World} {B:Nat} {f:List Nat} {R:aa α} {E:TypeId} {A:Option Addr} {by_ g c:Nat} {l:List α}
def re (R:aa α):Prop:=R.Plain∧∀ {w B f cs a},R.own w B f cs a→f= []
theorem dj {size:Nat} {cells:α→List Value} {ok:α→Prop} {raw:Nat→Value→Prop} {aC τ hr}:(flat size cells ok raw aC τ hr).re:=⟨n1,fun h=>h.1⟩
theorem avO {size:Nat} {cells:α→List Value} {ok:α→Prop} {raw:Nat→Value→Prop} {aC τ hr}:(Wu size cells ok raw aC τ hr).re:=⟨avP,fun h=>h.1⟩
theorem aH.aFk (h:R.aH E by_ w B f (some ⟨g,0,none⟩) c l) (hp:R.re) {i j:Nat} {a a':α} {u:Value} (ar:l[i]? =some a) (aA:j<R.size) (hu:∀ cs,R.has w cs a→R.has (w.setCell ⟨g,i * R.size+j,none⟩ u) (cs.set j u) a'):
    R.aH E by_ (w.setCell ⟨g,i * R.size+j,none⟩ u) B f (some ⟨g,0,none⟩) c (l.set i a'):=by
  obtain ⟨γ,ps,rfl,hn,cc,dD⟩:=h;obtain ⟨x,hx,Me⟩:=dD.at_ ar;have aC:=R9 dD;have fB:x.1= []:=hp.2 Me;have IC:x.2.length=R.size:=R.Zi Me;have ag5:=hu x.2 (R.s5 Me);have n':R.raw j u:=R.wb ag5 j u (by rw [aT2 (by omega)]);have vC:=cc.stored (i * R.size+j) u (by rw [aUU,aV9,aU0 aA];exact n');rw [afh u aC (i:=i) (es:=x.2) (by rw [aTY,hx];rfl) aA] at vC;have bA:=(aTC.1 hx).1;have aY:(ps.set i (x.1,x.2.set j u)).map (·.1)=ps.map (·.1):=by
    rw [aUY];have:(ps.map (·.1))[i]? =some x.1:=by rw [aTY,hx];rfl
    obtain ⟨ae,aw⟩:=aTC.1 this
    conv=>lhs;rw [← aw]
    exact aVr _
  have bb:(ps.set i (x.1,x.2.set j u)).map (·.2)=(ps.map (·.2)).set i (x.2.set j u):=by rw [aUY]
  have XF:∀ y∈ps,∀ q∈y.1,q≠g:=fun y aF q I e=>by
    obtain ⟨b,Ft⟩:=dD.left y aF;rw [hp.2 Ft] at I;simp at I
  have Xq:dm (fun x a=>R.own (w.setCell ⟨g,i * R.size+j,none⟩ u) B x.1 x.2 a) ps l:=dD.imp fun y a aF ID=>R.r_ ID fun q I=>aXC _ _ _ _ (XF y aF q I);refine ⟨by rw [aTH];exact γ,ps.set i (x.1,x.2.set j u),by rw [aY],hn,by rw [aTH,bb];exact vC, ?_⟩;exact Xq.Z5 (P:=fun (x:List Nat×List Value) a=>R.own (w.setCell ⟨g,i * R.size+j,none⟩ u) B x.1 x.2 a) (by rw [fB];exact hp.1 ag5)
theorem aH.other (h:R.aH E by_ w B f A c l) {p:Addr} (hp:p.block∉f) (u:Value):R.aH E by_ (w.setCell p u) B f A c l :=
  h.keep fun g aM=>aXC _ _ _ _ fun e=>hp (e ▸ aM)
theorem aH.drewN (h:R.aH E by_ w B f A c l) (k:Nat):R.aH E by_ (w.drewN k) B f A c l:=h.keep fun _ _=>rfl
theorem aH.drew (h:R.aH E by_ w B f A c l):R.aH E by_ w.drew B f A c l:=h.keep fun _ _=>rfl
end aa
def c9 (n lo ar:Int):Bool:=decide (lo≤n) && decide (n≤ar)
theorem kR {n lo ar:Int} (h:c9 n lo ar=true):lo≤n∧n≤ar:=by simpa [c9] using h
theorem aAa {n lo ar:Int} (h:c9 n lo ar=false):n<lo∨ar<n:=by
  simp [c9] at h;omega
theorem o2 {n lo ar:Int} (τ:lo≤n) (ae:n≤ar):c9 n lo ar=true:=by simp [c9,τ,ae]
theorem p1 {n lo ar:Int} (h:n<lo∨ar<n):c9 n lo ar=false:=by
  cases γ:c9 n lo ar with
  | false=>rfl
  | true=>have:=kR γ;omega
def fP {α:Type} (p:α→Bool) (l:List α):Int:=match l.findIdx? p with | some k=>(k:Int) | none=> -1
theorem FO {α:Type} {p:α→Bool} {l:List α} {k:Nat} (au:k<l.length) (τ:p l[k]=true) (ae:∀ j (aA:j<k),p (l[j]'(by omega))=false):fP p l=(k:Int):=by
  unfold fP;have:l.findIdx? p=some k:=by
    rw [aWe];exact ⟨au,τ,fun j aA=>by rw [ae j aA];simp⟩
  rw [this]
theorem FN {α:Type} {p:α→Bool} {l:List α} (ae:∀ j (aA:j<l.length),p l[j]=false):fP p l= -1:=by
  unfold fP;have:l.findIdx? p=none:=by
    rw [aWx];intro x hx;obtain ⟨j,aA,rfl⟩:=aUB.1 hx;exact ae j aA
  rw [this]
theorem Mi {α:Type} (p:α→Bool) (l:List α):decide (0≤fP p l)=l.any p:=by
  by_cases h:∀ j (aA:j<l.length),p l[j]=false
  · rw [FN h]
    have:l.any p=false:=by
      rw [aXv];intro x hx;obtain ⟨j,aA,rfl⟩:=aUB.1 hx;rw [h j aA];simp
    rw [this];rfl
  · have:l.any p=true:=by
      rw [aU1];simp only [Classical.not_forall] at h;obtain ⟨j,aA,h⟩:=h;exact ⟨l[j],aUV aA,by simpa using h⟩
    rw [this];unfold fP;cases hf:l.findIdx? p with
    | none =>
      rw [aWx] at hf;rw [aU1] at this;obtain ⟨x,hx,hp⟩:=this;rw [hf x hx] at hp;cases hp
    | some k=>simp
theorem Mj {α:Type} (p:α→Bool) (l:List α):fP p l= -1∧(∀ x∈l,p x=false)∨∃ (k:Nat) (h:k<l.length),fP p l=(k:Int)∧p l[k]=true∧∀ j (aA:j<k),p (l[j]'(by omega))=false:=by
  unfold fP;cases hf:l.findIdx? p with
  | none=>exact .inl ⟨rfl,fun x hx=>aWx.1 hf x hx⟩
  | some k =>
    obtain ⟨τ,ae,aw⟩:=aWe.1 hf;exact .inr ⟨k,τ,Z,ae,fun j aA=>by have:=aw j aA;simpa using this⟩
open Go.RowKit Go.Maps

def ji (w:World) (b:Nat) (es:Array MapEntry) (clock:Nat):World:=Go.ChangeMaps.setBlock w b (.map es clock)
theorem D0 {w:World} {b:Nat} {es:Array MapEntry} {clock:Nat} (h:b<w.heap.size):(ji w b es clock).heap[b]? =some (.map es clock):=by
  simp [ji,Go.ChangeMaps.setBlock,h]
theorem Ns {w:World} {b g:Nat} {es:Array MapEntry} {clock:Nat} (h:g≠b):(ji w b es clock).heap[g]? =w.heap[g]? :=by
  simp [ji,Go.ChangeMaps.setBlock,aVA (aWp h)]
theorem alx {w:World} {b:Nat} {es:Array MapEntry} {clock:Nat}:(ji w b es clock).heap.size=w.heap.size:=by
  simp [ji,Go.ChangeMaps.setBlock]
theorem aFh {B:Nat} {a w:World} {b:Nat} {es:Array MapEntry} {clock:Nat} (h:Below B a w) (γ:B≤b):Below B a (ji w b es clock):=
  h.trans ⟨rfl,rfl,rfl,by simp [alx],fun k au=>Ns (by omega)⟩
def dS {κ:Type} (key:κ→Value) (e:κ×Int×Nat):MapEntry:=⟨key e.1, .int .i64 e.2.1,e.2.2⟩
structure dP {κ:Type} (key:κ→Value) (w:World) (b:Nat) (l:List (κ×Int×Nat)) (clock:Nat):Prop where
  gV:w.heap[b]? =some (.map (l.map (dS key)).toArray clock)
  born:∀ e∈l,e.2.2<clock
  stamps:(l.map (·.2.2)).Nodup
structure Uq {κ:Type} (P:Program) (k:TypeId) (key:κ→Value) (wf:κ→Prop):Prop where
  keyed:Keyed P k
  lit:∀ x,wf x→∃ l,keyOf P k (key x)=some l
  inj:∀ x y,key x=key y→x=y
namespace dP
section
variable {κ:Type} {key:κ→Value} {w:World} {b:Nat} {l:List (κ×Int×Nat)} {clock:Nat}
theorem lt (h:dP key w b l clock):b<w.heap.size:=(aUd.1 h.gV).1
theorem keep {w':World} (h:dP key w b l clock) (au:w'.heap[b]? =w.heap[b]?):dP key w' b l clock:=⟨au.trans h.gV,h.born,h.stamps⟩
theorem later {w':World} (h:dP key w b l clock) (γ:Below w.heap.size w w'):dP key w' b l clock:=h.keep (γ.block b h.lt)
theorem made (w:World):dP key (w.alloc (.map #[] 0)) w.heap.size [] 0:=⟨aWz w _,(by simp),(by simp)⟩
theorem aAz {P:Program} {k:TypeId} {wf:κ→Prop} (K:Uq P k key wf) (hw:∀ e∈l,wf e.1):∀ y∈l.map (dS key),∃ z,keyOf P k y.key=some z:=by
  intro y aF;obtain ⟨a,ha,rfl⟩:=aUh.1 aF;exact K.lit a.1 (hw a ha)
end
variable {κ:Type} [DecidableEq κ] {key:κ→Value} {w:World} {b:Nat} {l:List (κ×Int×Nat)} {clock:Nat}
def get (l:List (κ×Int×Nat)) (x:κ):Option Int:=(l.find? fun e=>decide (e.1=x)).map (·.2.1)
def put (l:List (κ×Int×Nat)) (clock:Nat) (x:κ) (v:Int):List (κ×Int×Nat):=
  if l.any (fun e=>decide (e.1=x)) then l.map (fun e=>if e.1=x then (e.1,v,e.2.2) else e) else l++ [(x,v,clock)]
def tick (l:List (κ×Int×Nat)) (clock:Nat) (x:κ):Nat:=if l.any (fun e=>decide (e.1=x)) then clock else clock+1
theorem Bk (l:List (κ×Int×Nat)) (c:Nat) (x y:κ) (v:Int):get (put l c x v) y=if y=x then some v else get l y:=by
  unfold get put;by_cases h:l.any (fun e=>decide (e.1=x))=true
  · rw [aTO h]
    induction l with
    | nil=>simp at h
    | cons e r bK =>
      rw [aUs];by_cases hex:e.1=x
      · rw [aTO hex]
        by_cases aF:y=x
        · subst aF
          rw [aWP (by simp [hex])];simp
        · rw [aTL aF,aVL (by simp [hex,aWp aF]),aVL (by simp [hex,aWp aF])]
          by_cases hr:r.any (fun e=>decide (e.1=x))=true
          · have:=bK hr
            rw [aTL aF] at this;exact this
          · have e0:r.map (fun e=>if e.1=x then (e.1,v,e.2.2) else e)=r:=by
              conv=>rhs;rw [← List.map_id r]
              refine aYE fun a ha=> ?_;rw [aTL];rfl;intro he;exact hr (aU1.2 ⟨a,ha,by simp [he]⟩)
            rw [e0]
      · rw [aTL hex]
        have hr:r.any (fun e=>decide (e.1=x))=true:=by simpa [hex] using h
        by_cases LL:e.1=y
        · have azO:¬ y=x:=fun h=>hex (LL.trans h)
          rw [aWP (by simp [LL]),aWP (by simp [LL]),aTL azO]
        · rw [aVL (by simp [LL]),aVL (by simp [LL])]
          exact bK hr
  · rw [aTL h,List.find?_append]
    by_cases aF:y=x
    · subst aF
      have:l.find? (fun e=>decide (e.1=y))=none:=by
        rw [aU7];intro e he hd;exact h (aU1.2 ⟨e,he,hd⟩)
      rw [this];simp
    · rw [aTL aF]
      cases l.find? (fun e=>decide (e.1=y))<;>simp [aWp aF]
theorem Y4 {l:List (κ×Int×Nat)} {c:Nat} {x:κ} {v:Int} {wf:κ→Prop} (aC:∀ e∈l,wf e.1) (hx:wf x):∀ e∈put l c x v,wf e.1:=by
  intro e he;unfold put at he;split at he
  · obtain ⟨a,ha,rfl⟩:=aUh.1 he
    split
    · exact aC a ha
    · exact aC a ha
  · rcases aTP.1 he with he | he
    · exact aC e he
    · simp at he;subst he;exact hx
theorem gH {l:List (κ×Int×Nat)} (hn:(l.map (·.1)).Nodup) {j n:Nat} {x:κ} {v:Int} (aA:l[j]? =some (x,v,n)):get l x=some v:=by
  unfold get;induction l generalizing j with
  | nil=>simp at aA
  | cons e r bK =>
    rw [aUs,aWR] at hn;cases j with
    | zero=>simp at aA;subst aA;simp
    | succ j =>
      have aA:r[j]? =some (x,v,n):=by simpa using aA
      have:e.1≠x:=fun he=>hn.1 (aUh.2 ⟨(x,v,n),aUg aA,he.symm⟩);rw [aVL (by simpa using this)];exact bK hn.2 aA
theorem IE {l:List (κ×Int×Nat)} (hn:(l.map (·.1)).Nodup) (c:Nat) (x:κ) (v:Int):((put l c x v).map (·.1)).Nodup:=by
  unfold put;split
  · rw [aWq]
    have:((fun e:κ×Int×Nat=>e.1) ∘ fun e=>if e.1=x then (e.1,v,e.2.2) else e)=fun e=>e.1:=by
      funext e;simp only [Function.comp];split<;>rfl
    rw [this];exact hn
  · rename_i h
    rw [aT8,aUu];refine ⟨hn,by simp,fun a ha c hc e=> ?_⟩;simp at hc;obtain ⟨y,aF,rfl⟩:=aUh.1 ha;exact h (aU1.2 ⟨y,aF,by simp [e,hc]⟩)
variable {P:Program} {k e t:TypeId} {wf:κ→Prop} (K:Uq P k key wf)
include K
theorem found (h:dP key w b l clock) (hw:∀ e∈l,wf e.1) (x:κ) (hx:wf x):
    ((Instr.findKey k (key x) (l.map (dS key))).run P w= .ok none w∧get l x=none∧∀ a∈l,a.1≠x)∨
    ∃ (j:Nat) (v:Int) (n:Nat),(Instr.findKey k (key x) (l.map (dS key))).run P w= .ok (some (j, .int .i64 v)) w∧l[j]? =some (x,v,n):=by
  obtain ⟨hZ,rT⟩:=K.lit x hx;rcases K.keyed.find w rT (l.map (dS key)) (aAz K hw) with ⟨τ,ae⟩ | ⟨j,e0,τ,ae,aw⟩
  · have kx:∀ a∈l,a.1≠x:=fun a ha ug=>ae (dS key a) (aUh.2 ⟨a,ha,rfl⟩) (by simp [dS,ug])
    refine .inl ⟨τ, ?_,kx⟩;unfold get;rw [aU7.2 fun a ha=>by simpa using kx a ha];rfl
  · rw [aTY] at ae
    cases aA:l[j]? with
    | none=>rw [aA] at ae;cases ae
    | some a =>
      rw [aA] at ae;obtain rfl:=aTA ae;obtain rfl:a.1=x:=K.inj _ _ aw;exact .inr ⟨j,a.2.1,a.2.2,τ,aA⟩
theorem lookup (aJ:P.underlying t=some (.map k e)) (bG:(zeroValue e).run P w= .ok (.int .i64 0) w) (h:dP key w b l clock) (hw:∀ e∈l,wf e.1) (hn:(l.map (·.1)).Nodup) (x:κ) (hx:wf x):
    (Instr.lookup t (.map (some b)) (key x) false).run P w= .ok (.int .i64 ((get l x).getD 0)) w∧
    (Instr.lookup t (.map (some b)) (key x) true).run P w= .ok (.tuple #[.int .i64 ((get l x).getD 0), .bool (get l x).isSome]) w:=by
  obtain ⟨hZ,rT⟩:=K.lit x hx;rcases found K h hw x hx with ⟨τ,ae,_⟩ | ⟨j,v,n,τ,ae⟩
  · rw [ae]
    constructor<;>simp [Instr.lookup,aUQ aJ,aUA h.gV,K.keyed.check w _ rT,τ,bG,Result.andThen]
  · rw [gH hn ae]
    constructor<;>simp [Instr.lookup,aUQ aJ,aUA h.gV,K.keyed.check w _ rT,τ,Result.andThen]
theorem entry (aJ:P.underlying t=some (.map k e)) (bG:∀ u:World,(zeroValue e).run P u= .ok (.int .i64 0) u) (h:dP key w b l clock) (hw:∀ e∈l,wf e.1) (hn:(l.map (·.1)).Nodup) (x:κ) (hx:wf x):
    ∃ (st:Nat) (cz:List (κ×Int×Nat)) (c1:Nat),(∀ n,(Instr.mapEntry t (.map (some b)) (key x)).run P (w.drewN n)= .ok (.tuple #[.int .i64 ((get l x).getD 0), .int .i64 (st:Int)]) ((ji w b (cz.map (dS key)).toArray c1).drewN n))∧
      dP key (ji w b (cz.map (dS key)).toArray c1) b cz c1∧(∀ e∈cz,wf e.1)∧(cz.map (·.1)).Nodup∧get cz x=some ((get l x).getD 0)∧
      ∀ v n,(Instr.entryStore t (.map (some b)) (.int .i64 (st:Int)) (.int .i64 v)).run P ((ji w b (cz.map (dS key)).toArray c1).drewN n)= .ok () ((ji w b ((put l clock x v).map (dS key)).toArray (tick l clock x)).drewN n)∧
        dP key (ji w b ((put l clock x v).map (dS key)).toArray (tick l clock x)) b (put l clock x v) (tick l clock x):=by
  obtain ⟨hZ,rT⟩:=K.lit x hx;have γ:=h.gV;have bA:=h.lt;have Di:∀ n,(w.drewN n).heap[b]? =some (.map (l.map (dS key)).toArray clock):=fun n=>γ;have idxOf:∀ (m:List (κ×Int×Nat)) (j:Nat) (a:κ×Int×Nat),(m.map (·.2.2)).Nodup→m[j]? =some a→((m.map (dS key)).toArray).findIdx? (fun y=>((y.born:Nat):Int)== ((a.2.2:Nat):Int))=some j:=by
    intro m j a hm aA;rw [aYc];refine aX6 (l:=m.map (dS key)) (j:=j) (e0:=dS key a) ?_ (by rw [aTY,aA];rfl);rw [aWq];exact hm
  rcases found K h hw x hx with ⟨τ,ae,aw⟩ | ⟨j,v0,n0,τ,ae⟩
  · have pS:l.any (fun e=>decide (e.1=x))=false:=by
      rw [aYW];intro ha;obtain ⟨a,ha,hd⟩:=aU1.1 ha;exact aw a ha (by simpa using hd)
    have Dx:∀ v,put l clock x v=l++ [(x,v,clock)]:=fun v=>by unfold put;rw [aTL (by rw [pS];decide)]
    have Yl:tick l clock x=clock+1:=by unfold tick;rw [aTL (by rw [pS];decide)]
    have hY:∀ v,dP key (ji w b ((l++ [(x,v,clock)]).map (dS key)).toArray (clock+1)) b (l++ [(x,v,clock)]) (clock+1):=fun v=>by
      refine ⟨D0 bA,fun a ha=> ?_, ?_⟩
      · rcases aTP.1 ha with ha | ha
        · have:=h.born a ha;omega
        · simp at ha;subst ha;simp
      · rw [aT8,aUu]
        refine ⟨h.stamps,by simp,fun a ha c hc e=> ?_⟩;simp at hc;obtain ⟨y,aF,rfl⟩:=aUh.1 ha;have:=h.born y aF;omega
    have WV:∀ n,(Instr.findKey k (key x) (l.map (dS key))).run P (w.drewN n)= .ok none (w.drewN n):=fun n=>by
      rcases found (w:=w.drewN n) K ⟨Di n,h.born,h.stamps⟩ hw x hx with ⟨τ,_,_⟩ | ⟨j,v,m,_,aA⟩
      · exact τ
      · exact absurd rfl (aw _ (aUg aA))
    refine ⟨clock,l++ [(x,0,clock)],clock+1,fun n=> ?_,hY 0,fun a ha=> ?_, ?_, ?_,fun v n=> ?_⟩
    · rw [ae]
      have:(l.map (dS key)).toArray.push (⟨key x, .int .i64 0,clock⟩:MapEntry)=((l++ [(x,0,clock)]).map (dS key)).toArray:=by simp [dS]
      simp [Instr.mapEntry,aUQ aJ,aUA (Di n),K.keyed.check (w.drewN n) false rT,WV n,bG,aU3 _ (Di n),Result.andThen,ji,Go.ChangeMaps.setBlock,goInt,dS];rfl
    · rcases aTP.1 ha with ha | ha
      · exact hw a ha
      · simp at ha;subst ha;exact hx
    · have:=IE hn clock x 0
      rw [Dx] at this;exact this
    · have:=Bk l clock x x 0
      rw [Dx,aTO rfl] at this;rw [this,ae];rfl
    · rw [Dx,Yl]
      refine ⟨?_,hY v⟩;have eG:=idxOf (l++ [(x,0,clock)]) l.length (x,0,clock) (hY 0).stamps (by simp);have FH:((l++ [(x,0,clock)]).map (dS key)).toArray.modify l.length (fun e=> {e with val:=Value.int .i64 v})=((l++ [(x,v,clock)]).map (dS key)).toArray:=by
        apply aVc;rw [aV6];have hlen:l.length=(l.map (dS key)).length:=by simp
        rw [hlen];simp only [aT8,aUs,aVy];rw [Go.WideElems.modify_last];rfl
      have c8:((ji w b ((l++ [(x,0,clock)]).map (dS key)).toArray (clock+1)).drewN n).heap[b]? =some (.map ((l++ [(x,0,clock)]).map (dS key)).toArray (clock+1)):=D0 bA;have kQ:(Instr.entryStore t (.map (some b)) (goInt clock) (.int .i64 v)).run P ((ji w b ((l++ [(x,0,clock)]).map (dS key)).toArray (clock+1)).drewN n)= .ok () (ji ((ji w b ((l++ [(x,0,clock)]).map (dS key)).toArray (clock+1)).drewN n) b ((l++ [(x,v,clock)]).map (dS key)).toArray (clock+1)):=by
        rw [← FH];simp only [Instr.entryStore,aTQ,aUA c8,aTJ,asInt,asIntOf,goInt,aTV];rw [eG];exact aU3 _ c8
      refine kQ.trans ?_;simp [ji,Go.ChangeMaps.setBlock,World.drewN]
  · have pS:l.any (fun e=>decide (e.1=x))=true:=aU1.2 ⟨_,aUg ae,by simp⟩
    have Dx:∀ v,put l clock x v=l.map (fun e=>if e.1=x then (e.1,v,e.2.2) else e):=fun v=>by unfold put;rw [aTO pS]
    have Yl:tick l clock x=clock:=by unfold tick;rw [aTO pS]
    have agK:=gH hn ae;have vL:∀ v,l.map (fun e=>if e.1=x then (e.1,v,e.2.2) else e)=l.set j (x,v,n0):=by
      intro v;refine aUS fun i=> ?_;rw [aTY];by_cases hl:j=i
      · subst hl
        rw [ae,aT2 (aTC.1 ae).1];simp
      · rw [aT9 hl]
        cases ar:l[i]? with
        | none=>rfl
        | some a =>
          have:a.1≠x:=by
            intro ug;have xy:=(aTC.1 ar);have FE:=(aTC.1 ae);have aY:(l.map (·.1))[i]? =(l.map (·.1))[j]? :=by rw [aTY,aTY,ar,ae];simp [ug]
            obtain ⟨lD,_⟩:=xy;obtain ⟨kO,_⟩:=FE;have:=(aXu (by simpa using lD) hn).1 aY;exact hl this.symm
          simp [this]
    have WV:∀ n,(Instr.findKey k (key x) (l.map (dS key))).run P (w.drewN n)= .ok (some (j, .int .i64 v0)) (w.drewN n):=fun n=>by
      rcases found (w:=w.drewN n) K ⟨Di n,h.born,h.stamps⟩ hw x hx with ⟨_,_,aw⟩ | ⟨zE,v,m,Fk,aA⟩
      · exact absurd rfl (aw (x,v0,n0) (aUg ae))
      · have aY:(l.map (·.1))[zE]? =(l.map (·.1))[j]? :=by rw [aTY,aTY,aA,ae];rfl
        have:=(aXu (by simpa using (aTC.1 aA).1) hn).1 aY;subst this;rw [ae] at aA;injection aA with aA
        injection aA with _ aA
        injection aA with ayh _
        rw [Fk,ayh]
    have hY:∀ v,dP key (ji w b ((l.set j (x,v,n0)).map (dS key)).toArray clock) b (l.set j (x,v,n0)) clock:=fun v=>by
      refine ⟨D0 bA,fun a ha=> ?_, ?_⟩
      · rcases aVu ha with ha | ha
        · exact h.born a ha
        · rw [ha];exact h.born (x,v0,n0) (aUg ae)
      · rw [aUY]
        have:(l.map (·.2.2)).set j n0=l.map (·.2.2):=by
          have ayB:=(aTC.1 ae);obtain ⟨lD,kO⟩:=ayB;have e:(l.map (·.2.2))[j]'(by simpa using lD)=n0:=by rw [aWJ,kO]
          conv=>lhs;rw [← e]
          exact aVr _
        rw [this];exact h.stamps
    refine ⟨n0,l,clock,fun n=> ?_,⟨D0 bA,h.born,h.stamps⟩,hw,hn,by rw [agK];rfl,fun v n=> ?_⟩
    · rw [agK]
      have aA:(l.map (dS key)).toArray[j]? =some (dS key (x,v0,n0)):=by simp [ae]
      have Ye:(l.map (dS key)).toArray.modify j (fun e=> {e with key:=key x})=(l.map (dS key)).toArray:=by
        apply aVc;rw [aV6,aVT _ _ _ _ (by rw [aTY,ae];rfl)];exact aYr _ _ _ (by rw [aTY,ae];rfl)
      have XU:(dS key (x,v0,n0)).key=key x:=rfl;have Xx:(dS key (x,v0,n0)).born=n0:=rfl;simp only [Instr.mapEntry,aTQ,aUQ aJ,aTJ,aUA (Di n),K.keyed.check (w.drewN n) false rT,WV n,aA,aU6,aUM,XU,K.keyed.stays (w.drewN n) rT,Ye,aU3 _ (Di n),Xx,aTV];rfl
    · rw [Dx,Yl,vL]
      refine ⟨?_,hY v⟩;have eG:=idxOf l j (x,v0,n0) h.stamps ae;have FH:(l.map (dS key)).toArray.modify j (fun e=> {e with val:=Value.int .i64 v})=((l.set j (x,v,n0)).map (dS key)).toArray:=by
        apply aVc;rw [aV6,aVT _ _ _ _ (by rw [aTY,ae];rfl),aUY];rfl
      have c8:((ji w b (l.map (dS key)).toArray clock).drewN n).heap[b]? =some (.map (l.map (dS key)).toArray clock):=D0 bA;have kQ:(Instr.entryStore t (.map (some b)) (goInt n0) (.int .i64 v)).run P ((ji w b (l.map (dS key)).toArray clock).drewN n)= .ok () (ji ((ji w b (l.map (dS key)).toArray clock).drewN n) b ((l.set j (x,v,n0)).map (dS key)).toArray clock):=by
        rw [← FH];simp only [Instr.entryStore,aTQ,aUA c8,aTJ,asInt,asIntOf,goInt,aTV];rw [eG];exact aU3 _ c8
      refine kQ.trans ?_;simp [ji,Go.ChangeMaps.setBlock,World.drewN]
end dP

theorem alg {P:Program} {w:World} {o:Oper} {a:Act} (f:FuncId) (fn:Func) (hf:P.funcs[f]? =some fn) (hn:(fn.name == "runtime.NumGoroutine")=false) (γ:fn.body.isNone=false)
    (xs:Array Operand) (ts:Array TypeId) (vJ:o.op=Op.call {callee:=Callee.value (Operand.func f),args:=xs,argTypes:=ts}) (args:Array Value) (QU:xs.map a.eval=args):
    (execOp a.eval o).run P w= .ok (.enter f args) w:=by
  unfold execOp;have he:a.eval (.func f)= .func (.func f) #[] #[]:=rfl;have hp:Sem.run P program w= .ok P w:=rfl;simp only [vJ,resolve,invoke,Deferred.ofValue,he,callFunc,aTQ,aTV,aTJ,QU,hp,hf,hn,γ,aWv,Array.append_empty,aUm,aU5]
theorem SG {P:Program} {ops:Array Oper} {o:Oper} {a:Act} {w:World} {K:Act→World→Prop} {Q:Exit→Act→World→Prop} {E:Prop}
    (aM:o.guard=none) (f:FuncId) (fn:Func) (hf:P.funcs[f]? =some fn) (hn:(fn.name == "runtime.NumGoroutine")=false) (γ:fn.body.isNone=false)
    (xs:Array Operand) (ts:Array TypeId) (vJ:o.op=Op.call {callee:=Callee.value (Operand.func f),args:=xs,argTypes:=ts}) (args:Array Value) (QU:xs.map a.eval=args)
    (hc:Calls P f args w fun e w'=>∃ v,e= .returned v∧K (a.put o.dst v) w'):
    if Region.wanted o (yielded ops a.tmps)=true then Oper.wp P o a w K Q else E:=by
  have hw:Region.wanted o (yielded ops a.tmps)=true:=by simp [Region.wanted,aM]
  rw [aTO hw];unfold Oper.wp;rw [alg f fn hf hn γ xs ts vJ args QU,Oper.upon_enter];refine hc.mono fun e jM fI=> ?_;obtain ⟨v,rfl,h⟩:=fI;exact h
theorem nX {wr aS w':World} (h:Below wr.heap.size wr aS) (ae:Below aS.heap.size aS w'):Below wr.heap.size wr w':=h.trans (ae.mono h.size)
theorem acS {wr aS w':World} (h:Below wr.heap.size wr aS) (ae:Below aS.drew.heap.size aS.drew w'):Below wr.heap.size wr w':=h.drew.trans (ae.mono h.size)
theorem To {P:Program} {id:Nat} {Q:Exit→Act→World→Prop} {a:Act} {w:World} {l:List Oper} (hm:P.follows .mixedOrders=true) (bj:Region.lexB .any l.toArray=true)
    (h:wpQuiet P l.toArray (fun w'=>Below w.heap.size w w') (fun a'=>∀ w',Below w.heap.size w w'→Q .normal a' w') l a):(Code.region id l.toArray true).wp P Q a w :=
  wp_region_quiet (C:=fun w'=>Below w.heap.size w w') hm bj (below_drewN (aUb _ w) 1) (by simpa using h)
theorem aD7 {P:Program} {o:Oper} {a:Act} {C:World→Prop} {w:World} {v:Value} (h:(execOp a.eval o).run P w= .ok (.value v) w):o.quietAt P a C w v:=by
  unfold Oper.quietAt;rw [h];exact ⟨Z,Z⟩
theorem aD6 {P:Program} {o:Oper} {a:Act} {C:World→Prop} {w:World} {v:Value} {f:FuncId} {args:Array Value} (h:(execOp a.eval o).run P w= .ok (.enter f args) w) (hc:Calls P f args w fun e jM=>e= .returned v∧C jM):o.quietAt P a C w v:=by
  unfold Oper.quietAt;rw [h];exact ⟨Z,hc⟩
theorem Sl {P:Program} {o:Oper} {a:Act} {C:World→Prop} {w:World} {v:Value} {r:Result Next} (h:(execOp a.eval o).run P w=r) (hr:r= .ok (.value v) w):o.quietAt P a C w v:=aD7 (h.trans hr)
theorem Sk {P:Program} {o:Oper} {a:Act} {C:World→Prop} {w:World} {v:Value} {f:FuncId} {args:Array Value} {r:Result Next} (h:(execOp a.eval o).run P w=r) (hr:r= .ok (.enter f args) w) (hc:Calls P f args w fun e jM=>e= .returned v∧C jM):o.quietAt P a C w v:=aD6 (h.trans hr) hc
abbrev Ext (w w':World):Prop:=Below w.heap.size w w'
theorem Ext.bg (w:World):Ext w w:=aUb _ w
theorem Ext.nL {a b c:World} (h:Ext a b) (k:Ext b c):Ext a c:=Below.trans h (aYd k h.size)
section
variable {P:Program} {ops:Array Oper} {Q:Exit→Act→World→Prop} {aT:Nat→Nat}
def zU (P:Program) (w:World) (v:Value):Result Next→Prop
  | .ok (.value u) w'=>w'=w∧u=v
  | .ok .skip w'=>w'=w∧v=undef
  | .ok (.enter f args) w'=>w'=w∧Calls P f args w (fun e jM=>e= .returned v∧Ext w jM)
  | _=>False
def tQ (P:Program) (ops:Array Oper) (w0:World) (o:Oper) (v:Value) (a:Act):Prop :=
  (Region.wanted o (yielded ops a.tmps)=true∧∀ w,Ext w0 w→zU P w v ((execOp a.eval o).run P w))∨
  (Region.wanted o (yielded ops a.tmps)=false∧v=undef)
theorem tQ.of_same {w0:World} {o:Oper} {v:Value} {a a':Act} (h:tQ P ops w0 o v a) (he:execOp a'.eval o=execOp a.eval o) (hw:Region.wanted o (yielded ops a'.tmps)=Region.wanted o (yielded ops a.tmps)):tQ P ops w0 o v a':=by
  unfold tQ at *;rw [he,hw];exact h
theorem tQ.on {w0 aS:World} {o:Oper} {v:Value} {a:Act} (h:tQ P ops w0 o v a) (hx:Ext w0 aS):tQ P ops aS o v a :=
  h.imp (fun ⟨τ,ae⟩=>⟨τ,fun w hw=>ae w (hx.nL hw)⟩) id
theorem Yields.akX {w0:World} {o:Oper} {v:Value} {a:Act} (h:Yields P ops o v a):tQ P ops w0 o v a :=
  h.imp (fun ⟨τ,ae⟩=>⟨τ,fun w _=>by rw [ae w];exact ⟨rfl,rfl⟩⟩) id
def aFQ (P:Program) (ops:Array Oper) (Q:Exit→Act→World→Prop) (aT:Nat→Nat) (i:Nat) (K:Act→World→Prop) (a:Act) (w0:World):Prop :=
  ∃ o,ops[i]? =some o∧
    ((aT i≤1∧∃ v,tQ P ops w0 o v a∧K (a.put o.dst v) w0)∨
     (1<aT i∧∀ w,Ext w0 w→wpOp P ops Q i (fun a' w'=>(aT i=2→Ext w0 w')∧K a' w') a w))
def CS (P:Program) (ops:Array Oper) (Q:Exit→Act→World→Prop) (aT:Nat→Nat):Nat→Array Bool→Act→World→Prop
  | 0,l,a,w0=>Region.ready .any ops l= []∧∀ w,Ext w0 w→Q .normal a w
  | f+1,l,a,w0=>(Region.ready .any ops l= []→∀ w,Ext w0 w→Q .normal a w)∧∀ i∈Region.ready .any ops l,aFQ P ops Q aT i (CS P ops Q aT f (l.setIfInBounds i true)) a w0
theorem CT:∀ (f:Nat) (l:Array Bool) (a:Act) (w0:World),CS P ops Q aT f l a w0→∀ w,Ext w0 w→wpAny P .any ops Q f l a w
  | 0,_,_,_,h,w,hw=>⟨h.1,h.2 w hw⟩
  | f+1,l,a,w0,h,w,hw=>⟨fun aK=>h.1 aK w hw,fun i ar=>by
      obtain ⟨o,cc,ae⟩:=h.2 i ar;rcases ae with ⟨_,v,I,au⟩ | ⟨_,ae⟩
      · unfold wpOp
        simp only [cc];rcases I with ⟨nz,I⟩ | ⟨nz,rfl⟩
        · rw [aTO nz]
          refine .inl ?_;have I:=I w hw;unfold Oper.wp;generalize (execOp a.eval o).run P w=r at *
          cases r with
          | ok n w' =>
            cases n<;>simp only [zU] at I<;>simp only [Oper.upon]
            case value u=>obtain ⟨rfl,rfl⟩:=I;exact CT f _ _ _ au _ hw
            case skip=>obtain ⟨rfl,rfl⟩:=I;exact CT f _ _ _ au _ hw
            case enter f' args=>obtain ⟨rfl,hc⟩:=I;exact hc.mono fun e jM ⟨he,hx⟩=>by subst he;exact CT f _ _ _ au _ (hw.nL hx)
          | halt x w'=>simp only [zU] at I
        · rw [aTL (by rw [nz];decide)]
          exact CT f _ _ _ au _ hw
      · exact aV7 (fun a' w' aw=>CT f _ _ _ aw.2 _ (Ext.bg w')) (ae w hw)⟩
theorem aaM {aE:Act→Prop} {j:Nat} {dst:Option Tmp} {dc:Oper} {v:Value} (aA:ops[j]? =some dc) (τ:∀ d,dst=some d→d∉dc.looksAt ops) (ae:∀ d,dst=some d→dc.dst≠some d)
    (xE:∀ cs b,dc.op≠ .select cs b) (iC:∀ c a w,¬ Q (.panic c) a w) (keep:∀ a u,aE a→aE (a.put dc.dst u)) (aAt:∀ a d,aE a→aE {a with defers:=d::a.defers})
    {K:Act→World→Prop} {a:Act} {w:World} (aF:aE a) (h:wpOp P ops Q j K (a.put dst v) w):wpOp P ops Q j (fun a' w'=>aE a'∧K (a'.put dst v) w') a w:=by
  unfold wpOp at *
  simp only [aA] at *
  rw [aWy dc a dst v τ] at h;by_cases hw:Region.wanted dc (yielded ops a.tmps)=true
  · rw [aTO hw] at h ⊢
    rcases h with h | ⟨agb,ayy⟩
    case inr=>exact .inr ⟨by unfold Oper.asks at *;rw [aWm dc xE a dst v τ] at agb;exact agb,ayy⟩
    refine .inl ?_;unfold Oper.wp at *
    rw [aWm dc xE a dst v τ] at h;generalize (execOp a.eval dc).run P w=r at *
    cases r with
    | ok n w' =>
      cases n<;>simp only [Oper.upon] at h ⊢
      case value u=>exact ⟨keep a u aF,by rw [← aVR a v u ae];exact h⟩
      case skip=>exact ⟨keep a _ aF,by rw [← aVR a v undef ae];exact h⟩
      case defer d =>
        refine ⟨keep _ _ (aAt a d aF), ?_⟩;rw [← aVR _ v undef ae,← Act.put_defers];exact h
      case enter f args =>
        refine aXD h fun e jM he=> ?_;cases e with
        | returned u=>exact ⟨keep a u aF,by rw [← aVR a v u ae];exact he⟩
        | panicked c=>exact (iC _ _ _ he).elim
        | outgrown=>exact he
      case row row args=>exact Rows.mono h fun u jM he=>⟨keep a u aF,by rw [← aVR a v u ae];exact he⟩
    | halt x w' =>
      cases x<;>simp only [Oper.upon] at h ⊢
      case panic u=>exact (iC _ _ _ h).elim
  · rw [aTL hw] at h ⊢
    exact ⟨keep a _ aF,by rw [← aVR a v undef ae];exact h⟩
theorem Qo {i:Nat} {dN:Oper} {v:Value} (ar:ops[i]? =some dN) (au:aT i≤1) (ny:∀ (j:Nat) (o:Oper) cs b,ops[j]? =some o→o.op≠ .select cs b)
    (iC:∀ c a w,¬ Q (.panic c) a w) (aE:World→Act→Prop) (mv:∀ w0 a,aE w0 a→tQ P ops w0 dN v a)
    (z2:∀ w0 a a',aE w0 a→execOp a'.eval dN=execOp a.eval dN→Region.wanted dN (yielded ops a'.tmps)=Region.wanted dN (yielded ops a.tmps)→aE w0 a')
    (z3:∀ w0 aS a,Ext w0 aS→aE w0 a→aE aS a) (R:Nat→Bool) (xH:Array Bool)
    (hR:∀ j dc,ops[j]? =some dc→j≠i→(∀ e∈dc.after,Region.binds .any e=true→R e.on=true)→R j=true)
    (bj:(∀ w0 aS a,aE w0 a→aE aS a)∨∀ j,R j=true→3≤aT j→xH.getD j true=true):
    ∀ (f:Nat) (l:Array Bool) (a:Act) (w0:World),(∀ j,l.getD j false=true→R j=true)→(∀ j,xH.getD j true=true→l.getD j true=true)→
      (∀ j dc,ops[j]? =some dc→j≠i→l.getD j true=false→(∀ e∈dc.after,Region.binds .any e=true→e.on≠i)→dN.apart ops dc=true)→
      i∈Region.ready .any ops l→aE w0 a→CS P ops Q aT f (l.setIfInBounds i true) (a.put dN.dst v) w0→CS P ops Q aT (f+1) l a w0:=by
  intro f;induction f with
  | zero =>
    intro l a w0 _ _ _ hr bG H;refine ⟨fun h=>(by rw [h] at hr;cases hr),fun j aA=> ?_⟩;by_cases hO:j=i
    · subst hO;exact ⟨dN,ar, .inl ⟨au,v,mv _ _ bG,H⟩⟩
    · have:=aWf aA hO
      rw [H.1] at this;cases this
  | succ f bK =>
    intro l a w0 Dq vH Dk hr bG H;refine ⟨fun h=>(by rw [h] at hr;cases hr),fun j aA=> ?_⟩;by_cases hO:j=i
    · subst hO;exact ⟨dN,ar, .inl ⟨au,v,mv _ _ bG,H⟩⟩
    · obtain ⟨dc,kP,τ⟩:=H.2 j (aWf aA hO)
      obtain ⟨xA,gQ,Dw,dD⟩:=aXi.1 aA;obtain rfl:gQ=dc:=by rw [kP] at Dw;exact (aTA Dw).symm
      have LZ:∀ e∈gQ.after,Region.binds .any e=true→e.on≠i:=fun e he γ heq=>by
        have τ:=dD e he γ;have aK:=(aXi.1 hr).1;rw [heq] at τ;rcases aUt i l.size with c7 | c7
        · simp [c7] at aK τ;rw [aK] at τ;cases τ
        · simp [aUD c7] at τ
      have LB:=Dk j gQ kP hO xA LZ;obtain ⟨cF,a2,a3⟩:=aX5 LB;have Ma:∀ cs b,dN.op≠ .select cs b:=fun cs b=>ny i dN cs b ar;have xE:∀ cs b,gQ.op≠ .select cs b:=fun cs b=>ny j gQ cs b kP;have keep:∀ aS a u,aE aS a→aE aS (a.put gQ.dst u):=fun aS a u bG=>z2 _ _ _ bG (aWm dN Ma a gQ.dst u a3) (aWy dN a gQ.dst u a3);have De:R j=true:=hR j gQ kP hO fun e he γ=>Dq _ (dD e he γ);have Dr:∀ k,(l.setIfInBounds j true).getD k false=true→R k=true:=fun k au=>by
        by_cases hb:j=k
        · rw [← hb];exact De
        · rw [aV1 false hb] at au;exact Dq k au
      have Dp:∀ k,xH.getD k true=true→(l.setIfInBounds j true).getD k true=true:=fun k au=>by
        by_cases hb:j=k
        · subst hb
          rcases aUt j l.size with c7 | c7
          · simp [c7]
          · simp [aUD c7]
        · rw [aV1 true hb];exact vH k au
      have Dl:∀ k ok,ops[k]? =some ok→k≠i→(l.setIfInBounds j true).getD k true=false→
          (∀ e∈ok.after,Region.binds .any e=true→e.on≠i)→dN.apart ops ok=true:=fun k ok au pY DA kx=>by
        refine Dk k ok au pY ?_ kx;by_cases hb:j=k
        · subst hb;exact xA
        · rw [aV1 true hb] at DA;exact DA
      have Dz:=aWf hr (aWp hO);rcases τ with ⟨xB,u,I,hK⟩ | ⟨xB,τ⟩
      · refine ⟨gQ,kP, .inl ⟨xB,u,I.of_same (aWm gQ xE a dN.dst v cF).symm (aWy gQ a dN.dst v cF).symm, ?_⟩⟩
        refine bK _ _ _ Dr Dp Dl Dz (keep _ _ _ bG) ?_;rw [aVd _ _ hO,← aVR a v u a2];exact hK
      · refine ⟨gQ,kP, .inr ⟨xB,fun w hw=> ?_⟩⟩
        refine aV7 (fun a' w' aw=>⟨aw.2.1, ?_⟩) (aaM (aE:=aE w0) kP cF a2 xE iC (keep w0) (fun a d bG=>z2 _ _ _ bG Z Z) bG (τ w hw));have Mf:aE w' a':=by
          rcases aUt (aT j) 3 with bA | n9
          · exact z3 _ _ _ (aw.2.1 (by omega)) aw.1
          · rcases bj with bj | bj
            · exact bj _ _ _ aw.1
            · have:=vH j (bj j De n9);rw [xA] at this;cases this
        refine bK _ _ _ Dr Dp Dl Dz Mf ?_;rw [aVd _ _ hO];exact aw.2.2
def uD (P:Program) (ops:Array Oper) (Q:Exit→Act→World→Prop) (aT:Nat→Nat):List Nat→Act→World→Prop
  | [],a,w0=>∀ w,Ext w0 w→Q .normal a w
  | i::r,a,w0=>∃ o,ops[i]? =some o∧
      ((aT i=0∧∃ v,tQ P ops w0 o v a∧uD P ops Q aT r (a.put o.dst v) w0)∨
       (aT i=1∧∃ v,Yields P ops o v a∧uD P ops Q aT r (a.put o.dst v) w0)∨
       (1<aT i∧∀ w,Ext w0 w→wpOp P ops Q i (fun a' w'=>(aT i=2→Ext w0 w')∧uD P ops Q aT r a' w') a w))
def ZY (ops:Array Oper) (i:Nat):Array Bool :=
  ops.foldl (init:=#[]) fun acc o=>acc.push (acc.size != i && o.after.all fun e=> !Region.binds .any e || acc.getD e.on false)
def Pw (ops:Array Oper) (aT:Nat→Nat) (l:Array Bool) (i:Nat):Bool :=
  (List.range ops.size).all (fun j=>l.getD j true || Nat.blt (aT j) 3) ||
  (let R:=ZY ops i
   (List.range ops.size).all fun j=>(j == i || R.getD j false || !((ops[j]?).map (·.after.all fun e=> !Region.binds .any e || R.getD e.on false)).getD false) && (!l.getD j false || R.getD j false) && (!R.getD j false || Nat.blt (aT j) 3 || l.getD j true))
def kd (ops:Array Oper) (aT:Nat→Nat):List Nat→Array Bool→Bool
  | [],l=>(Region.ready .any ops l).isEmpty
  | i::r,l=>(match aT i with
      | 0=>Region.free .any ops l i && (Region.ready .any ops l).contains i && Pw ops aT l i
      | 1=>Region.free .any ops l i && (Region.ready .any ops l).contains i
      | _=>Region.ready .any ops l == [i]) && kd ops aT r (l.setIfInBounds i true)
theorem Px {l:Array Bool} {i:Nat} (aC:l.size=ops.size) (h:Pw ops aT l i=true):∃ R:Nat→Bool,
    (∀ j dc,ops[j]? =some dc→j≠i→(∀ e∈dc.after,Region.binds .any e=true→R e.on=true)→R j=true)∧
    (∀ j,l.getD j false=true→R j=true)∧(∀ j,R j=true→3≤aT j→l.getD j true=true):=by
  unfold Pw at h;have out:∀ j,¬ j<ops.size→l.getD j true=true:=fun j aA=>by simp [aUD (by omega:l.size≤j)]
  rw [aUr] at h;rcases h with h | h
  · refine ⟨fun _=>true,fun _ _ _ _ _=>rfl,fun _ _=>rfl,fun j _ aw=> ?_⟩
    by_cases aA:j<ops.size
    · have:=aUp.1 h j (aUi.2 aA)
      rw [aUr] at this;rcases this with h | h
      · exact h
      · rw [aXk] at h;omega
    · exact out j aA
  · refine ⟨fun j=>(ZY ops i).getD j false,fun j dc kP hO hd=> ?_,fun j aA=> ?_,fun j aA aw=> ?_⟩
    · have bA:=(aUd.1 kP).1
      have:=aUp.1 h j (aUi.2 bA);simp only [kP,aU6,aUM,aTM,aUr,aUC,hO,false_or,aUT] at this;rcases this.1.1 with h | h
      · exact h
      · have dD:dc.after.all (fun e=> !Region.binds .any e || (ZY ops i).getD e.on false)=true:=by
          rw [Array.all_eq_true_iff_forall_mem];intro e he;cases γ:Region.binds .any e
          · rfl
          · have:=hd e he γ;simp only at this;simp [this]
        rw [dD] at h;cases h
    · have bA:j<ops.size:=by
        rcases aUt j l.size with c7 | c7
        · omega
        · simp [aUD c7] at aA
      have:=aUp.1 h j (aUi.2 bA);simp only [aTM,aUr,aUT] at this;rcases this.1.2 with h | h
      · rw [h] at aA;cases aA
      · exact h
    · by_cases bA:j<ops.size
      · have:=aUp.1 h j (aUi.2 bA)
        simp only [aTM,aUr,aUT] at this;rcases this.2 with (h | h) | h
        · simp only at aA;rw [h] at aA;cases aA
        · (rw [aXk] at h;omega)
        · exact h
      · exact out j bA
theorem EX (hs:Region.noSelect ops=true) (iC:∀ c a w,¬ Q (.panic c) a w):∀ (r:List Nat) (l:Array Bool) (a:Act) (w0:World),l.size=ops.size→kd ops aT r l=true→uD P ops Q aT r a w0→CS P ops Q aT r.length l a w0
  | [],l,a,w0,_,bj,h=>⟨by simpa [kd] using bj,h⟩
  | i::r,l,a,w0,aC,bj,h=>by
    obtain ⟨o,cc,h⟩:=h;have ny:=aWn hs;rcases h with ⟨au,v,I,hK⟩ | ⟨au,v,I,hK⟩ | ⟨au,h⟩
    · simp only [kd,au,aTM] at bj
      obtain ⟨⟨⟨hf,hr⟩,γ⟩,bj⟩:=bj;obtain ⟨R,r1,r2,se⟩:=Px aC γ;exact Qo cc (by omega) ny iC (fun w0 a=>tQ P ops w0 o v a) (fun _ _ h=>h) (fun _ _ _ h he hw=>h.of_same he hw) (fun _ _ _ hx h=>h.on hx) R l r1 (.inr se) _ _ _ _ r2 (fun _ h=>h) (aVp cc hf) (by simpa using hr) I
        (EX hs iC r _ _ _ (by simpa using aC) bj hK)
    · simp only [kd,au,aTM] at bj
      obtain ⟨⟨hf,hr⟩,bj⟩:=bj;exact Qo cc (by omega) ny iC (fun _ a=>Yields P ops o v a) (fun _ _ h=>Yields.akX h) (fun _ _ _ h he hw=>h.of_same he hw) (fun _ _ _ _ h=>h) (fun _=>true) l (fun _ _ _ _ _=>Z) (.inl fun _ _ _ h=>h) _ _ _ _ (fun _ _=>Z) (fun _ h=>h) (aVp cc hf) (by simpa using hr) I
        (EX hs iC r _ _ _ (by simpa using aC) bj hK)
    · obtain ⟨k,ff⟩:∃ k,aT i=k+2:=⟨aT i - 2,by omega⟩
      simp only [kd,ff,aTM,aUC] at bj;obtain ⟨hr,bj⟩:=bj;refine ⟨fun aK=>(by rw [hr] at aK;cases aK),fun j aA=> ?_⟩;rw [hr] at aA;obtain rfl:j=i:=by simpa using aA
      exact ⟨o,cc, .inr ⟨au,fun w hw=>aV7 (fun a' w' aw=>⟨aw.1,EX hs iC r _ _ _ (by simpa using aC) bj aw.2⟩) (h w hw)⟩⟩
def hz (K:Act→World→Prop):Exit→Act→World→Prop
  | .normal,a,w=>K a w
  | _,_,_=>False
theorem aEj {id:Nat} {a:Act} {w:World} (bV:List Nat) (hm:P.follows .mixedOrders=true) (bj:(Region.noSelect ops && (bV.length == ops.size) && kd ops aT bV (Array.replicate ops.size false))=true)
    (h:uD P ops (hz (Q .normal)) aT bV a w):(Code.region id ops true).wp P Q a w:=by
  simp only [aTM,aUC] at bj;obtain ⟨⟨hs,aC⟩,bj⟩:=bj;refine aYA (aXq hm (Q:=hz (Q .normal)) ?_) (fun e a w I=>by cases e<;>first | exact I | exact I.elim);have:=EX (P:=P) hs (Q:=hz (Q .normal)) (fun _ _ _ h=>h) bV (Array.replicate ops.size false) a w (by simp) bj h;rw [aC] at this;exact CT _ _ _ _ this _ (aUb _ w).drew
end
end Go.Proofs.YtmeeljmapailnaaGreat
