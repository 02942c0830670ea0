import Derived.Lib.Hide
import Derived.WalkSpells
import Derived.WalkLawsBesides
import Derived.BigQuiet
import Derived.Deep.RegionHeld3
import Derived.Laws.CopyOwn
import Derived.Lib.Strings
import Derived.Deep.AppendLies
import Derived.Shelf.SlicesE.Clone
import Derived.Deep.Fields
import Derived.WideKeyEntry
import Derived.Handy
set_option linter.unusedVariables false
set_option linter.unusedSimpArgs false
set_option maxRecDepth 100000
set_option maxHeartbeats 4000000
open Go.RowKit
namespace Go.Proofs.YtlikikpgmmkjbaaGreat
theorem Z.{u} {α:Sort u} {a:α}:a=a:=Eq.refl a
abbrev aUh:=@Option.some.inj
abbrev aUj:=@List.getElem?_eq_some_iff
abbrev aUk:=@List.getElem?_eq_getElem
abbrev aUm:=@List.length_take
abbrev aUn:=@List.length_cons
abbrev aUo:=@Go.Result.andThen_ok
abbrev aUp:=@Bool.and_eq_true
abbrev aUq:=@List.length_append
abbrev aUr:=@if_neg
abbrev aUs:=@List.length_set
abbrev aUu:=@Nat.le_refl
abbrev aUv:=@Go.Sem.run_bind
abbrev aUx:=@List.getElem?_map
abbrev aUy:=@List.mem_append
abbrev aUz:=@if_pos
abbrev aUA:=@Go.Sem.run_pure
abbrev aUB:=@List.mem_cons_of_mem
abbrev aUC:=@List.getElem?_append_left
abbrev aUD:=@List.mem_cons
abbrev aUE:=@List.length_drop
abbrev aUF:=@List.getElem?_append_right
abbrev aUG:=@List.getElem?_set_self
abbrev aUI:=@List.take_of_length_le
abbrev aUJ:=@List.getElem?_set_ne
abbrev aUK:=@List.map_append
abbrev aUN:=@Go.RowKit.Below.refl
abbrev aUP:=@Nat.le_trans
abbrev aUQ:=@List.eq_nil_of_length_eq_zero
abbrev aUR:=@List.mem_map
abbrev aUT:=@Array.getElem?_eq_some_iff
abbrev aUV:=@List.append_nil
abbrev aUW:=@List.mem_of_getElem?
abbrev aUX:=@List.append_assoc
abbrev aUY:=@Bool.false_eq_true
abbrev aUZ:=@List.length_map
abbrev aU0:=@List.mem_range
abbrev aU2:=@List.getElem?_take
abbrev aU3:=@Nat.mul_le_mul_right
abbrev aU4:=@List.map_cons
abbrev aU5:=@List.nodup_append
abbrev aU6:=@Nat.zero_le
abbrev aU7:=@List.all_eq_true
abbrev aU9:=@Bool.or_eq_true
abbrev aVb:=@List.flatten_cons
abbrev aVe:=@Go.MapKept.run_getObj_map
abbrev aVf:=@Nat.lt_or_ge
abbrev aVg:=@Array.getElem?_toList
abbrev aVh:=@beq_iff_eq
abbrev aVi:=@Array.getElem?_eq_none
abbrev aVj:=@List.mem_iff_getElem
abbrev aVk:=@BitVec.ofInt_natCast
abbrev aVm:=@Nat.zero_add
abbrev aVn:=@Bool.not_eq_true'
abbrev aVo:=@List.getElem?_drop
abbrev aVp:=@List.getElem?_eq_none
abbrev aVq:=@Option.getD_some
abbrev aVs:=@if_false
abbrev aVt:=@Nat.mod_eq_of_lt
abbrev aVu:=@List.mem_flatten
abbrev aVv:=@List.getElem_mem
abbrev aVw:=@Go.run_underlying
abbrev aVz:=@of_decide_eq_true
abbrev aVB:=@Nat.mul_comm
abbrev aVC:=@List.size_toArray
abbrev aVD:=@List.map_set
abbrev aVE:=@List.any_eq_true
abbrev aVF:=@Go.MapKept.run_setObj_map
abbrev aVH:=@List.find?_eq_none
abbrev aVJ:=@List.ext_getElem?
abbrev aVK:=@Array.ext'
abbrev aVL:=@Option.map_some
abbrev aVM:=@Array.getElem?_setIfInBounds_ne
abbrev aVQ:=@Array.setIfInBounds_comm
abbrev aVV:=@Nat.add_mul
abbrev aVY:=@BitVec.toNat_ofNat
abbrev aVZ:=@if_true
abbrev aV0:=@Go.Region.free_spec
abbrev aV1:=@List.set_getElem_self
abbrev aV2:=@List.mem_or_eq_of_mem_set
abbrev aV8:=@List.map_nil
abbrev aWb:=@Int.eq_ofNat_of_zero_le
abbrev aWc:=@Go.ByteArray.toList_eq
abbrev aWd:=@Go.World.block_lt_of_cell?
abbrev aWg:=@List.find?_cons_of_neg
abbrev aWh:=@Int.natCast_nonneg
abbrev aWi:=@Go.Act.put_comm
abbrev aWl:=@List.take_append_drop
abbrev aWm:=@Option.some.injEq
abbrev aWn:=@Go.ChangeMaps.modify_eq_set
abbrev aWt:=@Nat.mod_lt
abbrev aWy:=@Go.getD_set_ne
abbrev aWB:=@List.flatten_append
abbrev aWC:=@Array.toList_modify
abbrev aWD:=@Array.length_toList
abbrev aWE:=@Go.wpOp_mono
abbrev aWG:=@List.getElem_append_left
abbrev aWI:=@List.nodup_cons
abbrev aWJ:=@List.nil_append
abbrev aWN:=@BitVec.setWidth_eq
abbrev aWO:=@BitVec.ofNat_toNat
abbrev aWP:=@List.findIdx?_eq_some_iff_getElem
abbrev aWQ:=@Go.ready_mono
abbrev aW0:=@Go.execOp_put
abbrev aW1:=@Nat.mul_add_mod
abbrev aW2:=@Go.Region.noSelect_spec
abbrev aW4:=@Ne.symm
abbrev aW5:=@List.map_map
abbrev aW7:=@Nat.eq_zero_or_pos
abbrev aW8:=@Nat.blt_eq
abbrev aW9:=@Array.empty_append
abbrev aXb:=@List.findIdx?_eq_none_iff
abbrev aXc:=@Go.wanted_put
abbrev aXd:=@Go.heap_alloc_new
abbrev aXl:=@List.getElem_map
abbrev aXm:=@Go.wp_region_any
abbrev aXt:=@List.find?_cons_of_pos
abbrev aXu:=@Go.mem_ready
abbrev aXB:=@Nat.div_lt_iff_lt_mul
abbrev aXC:=@List.set_append_right
abbrev aXD:=@List.mem_append_right
abbrev aXG:=@Array.getElem?_modify
abbrev aXH:=@Go.Calls.mono
abbrev aXI:=@Array.getElem?_setIfInBounds_self_of_lt
abbrev aXJ:=@List.take_left
abbrev aXK:=@List.nodup_nil
abbrev aXM:=@List.mem_append_left
abbrev aXO:=@Int.emod_emod_of_dvd
abbrev aXQ:=@Array.getElem?_range
abbrev aXS:=@List.getElem?_range
abbrev aXT:=@Array.toList_append
abbrev aXZ:=@BitVec.toInt_ofInt
abbrev aX0:=@Array.getElem?_map
abbrev aX5:=@List.getElem?_inj
abbrev aX6:=@List.any_eq_false
abbrev aYc:=@Array.size_append
abbrev aYd:=@Go.heap_setCell_other
abbrev aYf:=@List.take_append
abbrev aYh:=@List.map_toArray
abbrev aYm:=@Nat.div_add_mod
abbrev aYs:=@List.drop_drop
abbrev aYz:=@Go.Oper.apart_spec
abbrev aYA:=@Go.WideElems.findIdx_born
abbrev aYG:=@Go.WideElems.findIdx_arr
abbrev aYH:=@Go.RowKit.Below.mono
abbrev aYJ:=@List.flatten_eq_nil_iff
abbrev aYM:=@Nat.zero_mul
abbrev aYS:=@Int.dvd_refl
abbrev aYV:=@Go.WideElems.set_self
abbrev aYW:=@BitVec.eq_of_toNat_eq
abbrev aY2:=@Go.wp_mono
abbrev aY4:=@List.take_succ_cons
abbrev aY6:=@List.map_congr_left
abbrev aZb:=@Nat.lt_of_le_of_lt
abbrev aZl:=@List.length_range
abbrev aZn:=@Bool.eq_false_iff
end Go.Proofs.YtlikikpgmmkjbaaGreat
namespace Go.Proofs.YtlikikpgmmkjbaaGreat.fj
def U {n:Nat} (b:BitVec n):Int:=(b.toNat:Int)

theorem UQ {n:Nat} (b:BitVec n):0≤U b:=aWh _
theorem apH (b:BitVec 32):U b<4294967296:=by have:=b.isLt;unfold U;omega
theorem apI (b:BitVec 64):U b<18446744073709551616:=by have:=b.isLt;unfold U;omega
theorem apG (b:BitVec 32):U b≤4294967295:=by have:=b.isLt;unfold U;omega
theorem wA {n:Nat} (b:BitVec n):BitVec.ofInt n (U b)=b:=by
  unfold U;rw [aVk,aWO,aWN]
theorem apJ (x:Int) (aI:0≤x) (γ:x<4294967296):U (BitVec.ofInt 32 x)=x:=by
  obtain ⟨m,rfl⟩:=aWb aI;unfold U;rw [aVk,aVY];omega
theorem apK (x:Int) (aI:0≤x) (γ:x<18446744073709551616):U (BitVec.ofInt 64 x)=x:=by
  obtain ⟨m,rfl⟩:=aWb aI;unfold U;rw [aVk,aVY];omega
theorem QD {x:Int} {b:BitVec 32} (aI:0≤x) (γ:x<4294967296) (h:BitVec.ofInt 32 x=b):x=U b:=by
  rw [← h,apJ x aI γ]
theorem QE {x:Int} {b:BitVec 64} (aI:0≤x) (γ:x<18446744073709551616) (h:BitVec.ofInt 64 x=b):x=U b:=by
  rw [← h,apK x aI γ]
theorem PW (k:IntKind) (op:BinOp) (a b:Int) (hs:k.signed=false):0≤bits op k a b∧bits op k a b<2 ^ k.bits:=by
  have hp:(0:Int)<2 ^ k.bits:=Int.pow_pos (by decide);have key:∀ n:Int,0≤k.wrap n∧k.wrap n<2 ^ k.bits:=by
    intro n;simp only [IntKind.wrap,hs,Bool.false_and,aUY,aVs];exact ⟨Int.emod_nonneg _ (by omega),Int.emod_lt_of_pos _ hp⟩
  unfold bits;exact key _
theorem PU (op:BinOp) (a b:Int):0≤bits op .u32 a b:=(PW .u32 op a b rfl).1
theorem PT (op:BinOp) (a b:Int):bits op .u32 a b<4294967296:=(PW .u32 op a b rfl).2
theorem U8 (op:BinOp) (a b:Int):0≤bits op .u64 a b:=(PW .u64 op a b rfl).1
theorem U7 (op:BinOp) (a b:Int):bits op .u64 a b<18446744073709551616:=(PW .u64 op a b rfl).2
theorem NA (k:IntKind) (n:Int):BitVec.ofInt k.bits (k.wrap n)=BitVec.ofInt k.bits n:=by
  apply BitVec.eq_of_toInt_eq;simp only [aXZ];have h:(k.wrap n) % (2 ^ k.bits:Int)=n % (2 ^ k.bits:Int):=by
    unfold IntKind.wrap;dsimp only;split
    · rw [Int.sub_emod,Int.emod_self,Int.sub_zero,aXO _ (aYS _),aXO _ (aYS _)]
    · rw [aXO _ (aYS _)]
  have e:((2 ^ k.bits:Nat):Int)=(2:Int) ^ k.bits:=by simp
  simp only [Int.bmod,e,h]

theorem aBX (n:Int):BitVec.ofInt 32 (n % 4294967296)=BitVec.ofInt 32 n:=by
  have:=NA .u32 n;rw [IntKind.wrap_u32] at this;exact this
theorem aB1 (n:Int):BitVec.ofInt 64 (IntKind.u64.wrap n)=BitVec.ofInt 64 n:=NA .u64 n
theorem Y7 (k:IntKind) (a b:Int):BitVec.ofInt k.bits (bits .xor k a b)=BitVec.ofInt k.bits a ^^^ BitVec.ofInt k.bits b:=by
  unfold bits;rw [NA,aVk];dsimp only;rw [aWO,aWN]
theorem aBU (k:IntKind) (a b:Int):BitVec.ofInt k.bits (bits .and k a b)=BitVec.ofInt k.bits a &&& BitVec.ofInt k.bits b:=by
  unfold bits;rw [NA,aVk];dsimp only;rw [aWO,aWN]
theorem aBV (k:IntKind) (a b:Int):BitVec.ofInt k.bits (bits .andNot k a b)=BitVec.ofInt k.bits a &&& ~~~(BitVec.ofInt k.bits b):=by
  unfold bits;rw [NA,aVk];dsimp only;rw [aWO,aWN]

theorem Y8 (a b:Int):BitVec.ofInt 32 (bits .xor .u32 a b)=BitVec.ofInt 32 a ^^^ BitVec.ofInt 32 b:=Y7 .u32 a b
theorem akt (a b:Int):BitVec.ofInt 32 (bits .and .u32 a b)=BitVec.ofInt 32 a &&& BitVec.ofInt 32 b:=aBU .u32 a b
theorem aBW (a b:Int):BitVec.ofInt 32 (bits .andNot .u32 a b)=BitVec.ofInt 32 a &&& ~~~(BitVec.ofInt 32 b):=aBV .u32 a b
theorem Y9 (a b:Int):BitVec.ofInt 64 (bits .xor .u64 a b)=BitVec.ofInt 64 a ^^^ BitVec.ofInt 64 b:=Y7 .u64 a b
theorem aky (a b:Int):BitVec.ofInt 64 (bits .xor .i64 a b)=BitVec.ofInt 64 a ^^^ BitVec.ofInt 64 b:=Y7 .i64 a b
theorem akx {n:Nat} (x:Int) (s:Nat) (aI:0≤x) (γ:x<2 ^ n):BitVec.ofInt n (x / 2 ^ s)=BitVec.ofInt n x >>> s:=by
  obtain ⟨m,rfl⟩:=aWb aI;have Fx:m<2 ^ n:=by exact_mod_cast γ
  have e:((m:Int) / 2 ^ s)=((m / 2 ^ s:Nat):Int):=by rw [Int.natCast_ediv];simp
  rw [e,aVk,aVk];apply aYW;rw [BitVec.toNat_ushiftRight,aVY,aVY,aVt Fx,Nat.shiftRight_eq_div_pow];exact aVt (aZb (Nat.div_le_self _ _) Fx)

theorem aBT {n:Nat} (a b:Int):BitVec.ofInt n (a+b)=BitVec.ofInt n a+BitVec.ofInt n b:=BitVec.ofInt_add ..
theorem akv {n:Nat} (a b:Int):BitVec.ofInt n (a * b)=BitVec.ofInt n a * BitVec.ofInt n b:=BitVec.ofInt_mul ..
theorem aB0 {n:Nat} (a:Int):BitVec.ofInt n (-a)= -BitVec.ofInt n a:=BitVec.ofInt_neg ..
theorem aBZ {n:Nat} (a:Nat):BitVec.ofInt n (a:Int)=BitVec.ofNat n a:=aVk ..

end Go.Proofs.YtlikikpgmmkjbaaGreat.fj
namespace Go.Proofs.YtlikikpgmmkjbaaGreat
def aJh (k:IntKind) (w:World) (a:Option Addr) (len cap:Nat) (zs:List Int):Prop :=
  (a=none∧len=0∧cap=0∧zs= [])∨
  ∃ x,a=some x∧len≤cap∧cap≤maxLen∧zs.length=cap∧(∀ i,i<zs.length→w.cell? (x.add i)=some (.int k (zs.getD i 0)))∧∀ n∈zs,(Lit.int k n).wf=true
theorem ac7 (b j:Nat):(⟨b,0,none⟩:Addr).add j=⟨b,j,none⟩:=by
  unfold Addr.add;split<;>simp_all
theorem Va {a b:ByteArray} (h:a.data.toList=b.data.toList):a=b:=ByteArray.ext (Array.toList_inj.1 h)
theorem ady (a b:ByteArray):(a.toList == b.toList)=decide (a=b):=by
  rw [aWc,aWc];by_cases h:a=b
  · subst h;simp
  · have γ:¬ a.data=b.data:=fun e=>h (ByteArray.ext e)
    simp [h,γ]
theorem adA {a b:ByteArray} (h:a=b):(a.toList == b.toList)=true:=by rw [ady];simp [h]
theorem adz {a b:ByteArray} (h:¬ a=b):(a.toList == b.toList)=false:=by rw [ady];simp [h]
theorem alo {a:Bool} (h:a=true):Ending.returned (.bool a)= .returned (.bool true):=by rw [h]
theorem Hw (b off j:Nat):(⟨b,off,none⟩:Addr).add j=⟨b,off+j,none⟩:=by
  unfold Addr.add;split<;>simp_all
theorem aCi {w w':World} {base:Nat} {e:TypeId} {size:Nat} {v:Value} {n:Nat} {xs:List Value} (h:w.ownsRow base e size v n xs) (Φ:Below w.heap.size w w'):w'.ownsRow base e size v n xs:=by
  obtain ⟨γ,aa⟩:=h;refine ⟨γ, ?_⟩;rcases aa with aa | ⟨g,cap,cur,hv,aS,fp,r⟩
  · exact .inl aa
  · exact .inr ⟨g,cap,cur,hv,aS,by rw [Φ.block g (aUT.1 fp).1];exact fp,r⟩
theorem cell_later {w w':World} (Φ:Below w.heap.size w w') {a:Addr} {v:Value} (h:w.cell? a=some v):w'.cell? a=some v:=by
  rw [Φ.cell (aWd w a h)];exact h
theorem aq8 {B:Nat} {w w':World} (Φ:Below B w w') {a:Addr} {v:Value} (h:w.cell? a=some v) (ha:a.block<B):w'.cell? a=some v:=by
  rw [Φ.cell ha];exact h
def aN (w:World) (g:Nat) (cur:List Value) (e:TypeId) (aC:Nat×Nat):Prop:=w.heap[g]? =some (.cells cur.toArray e aC)
theorem aN.lt {w:World} {g:Nat} {cur:List Value} {e:TypeId} {aC:Nat×Nat} (h:aN w g cur e aC):g<w.heap.size:=(aUT.1 h).1
theorem aN.cell {w:World} {g:Nat} {cur:List Value} {e:TypeId} {aC:Nat×Nat} (h:aN w g cur e aC) (j:Nat):w.cell? ⟨g,j,none⟩=cur[j]? :=by
  rw [cell_of_row w g j _ e aC h];simp
theorem aN.free {w:World} {g:Nat} {cur:List Value} {e:TypeId} {aC:Nat×Nat} (h:aN w g cur e aC) (j:Nat) (aA:j<aC.1∨aC.2≤j):w.frozen? ⟨g,j,none⟩=false:=by
  unfold aN at h;obtain ⟨lo,aq⟩:=aC;simp only [World.frozen?,h];simp only at aA;simp;omega
theorem aN.set {w:World} {g:Nat} {cur:List Value} {e:TypeId} {aC:Nat×Nat} (h:aN w g cur e aC) (j:Nat) (v:Value):aN (w.setCell ⟨g,j,none⟩ v) g (cur.set j v) e aC:=by
  unfold aN at *
  simp only [World.setCell,aXG,h];simp
theorem aN.later {w w':World} {g:Nat} {cur:List Value} {e:TypeId} {aC:Nat×Nat} (h:aN w g cur e aC) (Φ:Below w.heap.size w w'):aN w' g cur e aC:=by
  have aB:=h.lt;unfold aN at *
  rw [Φ.block g aB];exact h
theorem aN.drew {w:World} {g:Nat} {cur:List Value} {e:TypeId} {aC:Nat×Nat} (h:aN w g cur e aC):aN w.drew g cur e aC:=h
theorem aN.drewN {w:World} {g:Nat} {cur:List Value} {e:TypeId} {aC:Nat×Nat} (h:aN w g cur e aC) (n:Nat):aN (w.drewN n) g cur e aC:=h
theorem aN.new (w:World) (cur:List Value) (e:TypeId) (aC:Nat×Nat):aN (w.alloc (.cells cur.toArray e aC)) w.heap.size cur e aC:=aXd w _
theorem aN.setRow {w:World} {g:Nat} {cur:List Value} {e:TypeId} {aC:Nat×Nat} (h:aN w g cur e aC) (new:List Value):aN (w.setRow g new.toArray) g new e aC:=setRow_heap w g _ _ e aC h
theorem aN.other {w:World} {g g':Nat} {cur:List Value} {e:TypeId} {aC:Nat×Nat} (h:aN w g cur e aC) (aS:g≠g') (j:Nat) (v:Value):aN (w.setCell ⟨g',j,none⟩ v) g cur e aC:=by
  unfold aN at *
  rw [aYd _ _ _ _ aS];exact h
theorem below_drewN {B:Nat} {a w:World} (h:Below B a w) (n:Nat):Below B a (w.drewN n):=⟨h.os,h.tape,h.output,h.size,h.block⟩
def Rd (w:World) (size:Nat) (A:Option Addr) (n:Nat) (xs:List Value):Prop :=
  xs.length=n * size∧(0<n→∃ b o,A=some ⟨b,o,none⟩∧∀ j u,xs[j]? =some u→w.cell? ⟨b,o+j,none⟩=some u)
theorem Rd.zero (w:World) (size:Nat) (A:Option Addr):Rd w size A 0 []:=⟨by simp,fun h=>absurd h (by decide)⟩
theorem Rd.later {w w':World} {size n:Nat} {A:Option Addr} {xs:List Value} (h:Rd w size A n xs) (Φ:Below w.heap.size w w'):Rd w' size A n xs :=
  ⟨h.1,fun aI=>by
    obtain ⟨b,o,e,hc⟩:=h.2 aI;exact ⟨b,o,e,fun j u hu=>cell_later Φ (hc j u hu)⟩⟩
theorem Rd.drewN {w:World} {size n:Nat} {A:Option Addr} {xs:List Value} (h:Rd w size A n xs) (k:Nat):Rd (w.drewN k) size A n xs:=h
def Own (w:World) (base:Nat) (e:TypeId) (size:Nat) (G:Nat→Value→Prop) (v:Value) (n:Nat) (xs:List Value):Prop :=
  xs.length=n * size∧
  ((v= .slice none 0 0∧n=0)∨
   ∃ g cap cur,v= .slice (some ⟨g,0,none⟩) n cap∧base≤g∧w.heap[g]? =some (.cells cur e (0,0))∧n≤cap∧cap≤maxLen∧cur.size=cap * size∧cur.toList.take (n * size)=xs∧∀ j u,cur[j]? =some u→G (j % size) u)
section
variable {w w':World} {base e size:Nat} {G:Nat→Value→Prop} {v:Value} {n:Nat} {xs:List Value}
theorem Own.row (h:Own w base e size G v n xs):w.ownsRow base e size v n xs:=by
  obtain ⟨γ,aa⟩:=h;refine ⟨γ, ?_⟩;rcases aa with aa | ⟨g,cap,cur,a,b,c,d,e,f,i,_⟩
  · exact .inl aa
  · exact .inr ⟨g,cap,cur,a,b,c,d,e,f,i⟩
theorem Own.nil (w:World) (base e size:Nat) (G:Nat→Value→Prop):Own w base e size G (.slice none 0 0) 0 []:=⟨by simp, .inl ⟨rfl,rfl⟩⟩
theorem Own.of_block {B:Nat} (h:Own w base e size G v n xs) (Φ:∀ g,v.ownBlock=some g→w'.heap[g]? =w.heap[g]?):Own w' base e size G v n xs:=by
  obtain ⟨γ,aa⟩:=h;refine ⟨γ, ?_⟩;rcases aa with aa | ⟨g,cap,cur,rfl,b,c,d⟩
  · exact .inl aa
  · exact .inr ⟨g,cap,cur,rfl,b,(Φ g rfl).trans c,d⟩
theorem Own.later (h:Own w base e size G v n xs) (Φ:Below w.heap.size w w'):Own w' base e size G v n xs :=
  h.of_block (B:=0) fun g aS=>Φ.block g (h.row.lt g aS).2
theorem Own.drewN (h:Own w base e size G v n xs) (k:Nat):Own (w.drewN k) base e size G v n xs:=h
theorem Own.drew (h:Own w base e size G v n xs):Own w.drew base e size G v n xs:=h
theorem Own.mono (h:Own w base e size G v n xs) {adq:Nat} (Φ:adq≤base):Own w adq e size G v n xs:=by
  obtain ⟨γ,aa⟩:=h;refine ⟨γ, ?_⟩;rcases aa with aa | ⟨g,cap,cur,a,b,r⟩
  · exact .inl aa
  · exact .inr ⟨g,cap,cur,a,aUP Φ b,r⟩
theorem Own.rd (h:Own w base e size G v n xs) {A:Option Addr} {c:Nat} (hv:v= .slice A n c):Rd w size A n xs:=by
  obtain ⟨γ,aa⟩:=h;refine ⟨γ,fun aI=> ?_⟩;rcases aa with ⟨_,aa⟩ | ⟨g,cap,cur,rfl,b,c,d,e,f,i,_⟩
  · omega
  · injection hv with hv _ _
    refine ⟨g,0,hv.symm,fun j u hu=> ?_⟩;rw [aVm,cell_of_row w g j cur _ (0,0) c,← aVg];rw [← i,aU2] at hu;split at hu
    · exact hu
    · cases hu
theorem Own.shape (h:Own w base e size G v n xs):∃ A c,v= .slice A n c∧n≤c∧c≤maxLen∧Rd w size A n xs∧(∀ a,A=some a→base≤a.block∧a.block<w.heap.size)∧(A=none→v= .slice none 0 0):=by
  have dk:=h;obtain ⟨γ,aa⟩:=h;rcases aa with ⟨rfl,rfl⟩ | ⟨g,cap,cur,rfl,b,c,d,e,f,i,_⟩
  · exact ⟨none,0,rfl,aUu _,aU6 _,dk.rd rfl,(fun a ha=>by cases ha),fun _=>rfl⟩
  · refine ⟨_,cap,rfl,d,e,dk.rd rfl,fun a ha=> ?_,fun h=>by cases h⟩
    injection ha with ha
    subst ha;exact ⟨b,(aUT.1 c).1⟩
theorem aIe {z:Array Value} (bB:z.size=size) (hs:0<size) (bD:∀ j u,z[j]? =some u→G j u) (k:Nat):∀ j u,(Builtin.zeroCells z k)[j]? =some u→G (j % size) u:=by
  intro j u hu;unfold Builtin.zeroCells at hu;subst bB;have aA:=(aUT.1 hu).1;simp at aA;have bE:j % z.size<z.size:=aWt _ hs;rw [aX0,aXQ,aUz aA] at hu;simp only [aVL,aWm] at hu;refine bD _ u ?_;rw [← hu];simp [bE]
theorem Own.stored {g c:Nat} (h:Own w base e size G (.slice (some ⟨g,0,none⟩) n c) n xs) (j:Nat) (u:Value) (hu:G (j % size) u):
    Own (w.setCell ⟨g,j,none⟩ u) base e size G (.slice (some ⟨g,0,none⟩) n c) n (xs.set j u):=by
  obtain ⟨γ,aa⟩:=h;refine ⟨by rw [aUs];exact γ, ?_⟩;rcases aa with ⟨aa,_⟩ | ⟨g',cap,cur,hv,b,fp,d,hm,hs,aF,bD⟩
  · cases aa
  · injection hv with hv _ hc
    injection hv with hv
    injection hv with hv
    subst hv;subst hc;refine .inr ⟨g,c,cur.setIfInBounds j u,Z,b, ?_,d,hm,by simp [hs], ?_, ?_⟩
    · simp only [World.setCell,aXG,fp]
      simp
    · rw [← aF]
      simp only [Array.toList_setIfInBounds];rw [List.take_set]
    · intro i v hv
      by_cases jK:j=i
      · subst jK
        have bE:j<cur.size:=by
          have:=(aUT.1 hv).1;simpa using this
        rw [aXI bE] at hv;obtain rfl:=aUh hv;exact hu
      · rw [aVM jK] at hv
        exact bD i v hv
theorem Own.cell {g c:Nat} (h:Own w base e size G (.slice (some ⟨g,0,none⟩) n c) n xs) (j:Nat) (aA:j<n * size):w.cell? ⟨g,j,none⟩=xs[j]? :=h.row.cellAt j aA
theorem Own.free {g c:Nat} (h:Own w base e size G (.slice (some ⟨g,0,none⟩) n c) n xs) (j:Nat):w.frozen? ⟨g,j,none⟩=false:=h.row.frozenAt j
theorem Own.lit (w:World) (cs:Array Value) (n:Nat) (Φ:base≤w.heap.size) (hm:n≤maxLen) (hs:cs.size=n * size) (bD:∀ j u,cs[j]? =some u→G (j % size) u):
    Own (w.alloc (.cells cs e)) base e size G (.slice (some ⟨w.heap.size,0,none⟩) n n) n cs.toList :=
  ⟨by simpa using hs, .inr ⟨w.heap.size,n,cs,rfl,Φ,aXd w _,aUu _,hm,hs,aUI (by simp [hs]),bD⟩⟩
theorem Own.empty (w:World) (Φ:base≤w.heap.size):Own (w.alloc (.cells #[] e)) base e size G (.slice (some ⟨w.heap.size,0,none⟩) 0 0) 0 [] :=
  Own.lit w #[] 0 Φ (aU6 _) (by simp) (fun j u h=>by simp at h)
end
section
variable {P:Program} (w:World)
theorem alu (base:Nat) (t ty e:TypeId) (i:TypeInfo) (z:Value) (size bytes:Nat) (aF:P.underlying t=some (.slice e)) (aq:P.info? e=some i) (bB:i.zero=some z)
    (xS:i.size=size) (pY:i.bytes=bytes) (s8:z.cells.size=size) (jh:0<size) (G:Nat→Value→Prop) (xV:∀ j u,z.cells[j]? =some u→G j u)
    (v:Value) (n:Nat) (xs:List Value) (fq:Own w base e size G v n xs)
    (A:Option Addr) (m c:Nat) (news:List Value) (hr:Rd w size A m news) (γ:∀ u∈news,u.oneCell'=true) (Mf:∀ j u,news[j]? =some u→G (j % size) u)
    (rV:n+m≤maxLen) (r0:(n+m) * bytes≤140737488355328) (pX:base≤w.heap.size):
    ∃ v' w',(Builtin.append_ #[t,t] ty #[v, .slice A m c]).run P w= .ok v' w'∧Own w' base e size G v' (n+m) (xs++news)∧w.grownBy w' v.ownBlock∧
      (v'= .slice none 0 0↔v= .slice none 0 0∧m=0)∧(v'.ownBlock=v.ownBlock∨v'.ownBlock=some w.heap.size):=by
  subst xS;subst pY;have aMI:n+m≤9223372036854775807:=by simp only [maxLen] at rV;omega
  have aB:news.length=m * i.size:=hr.1;have IL:xs.length=n * i.size:=fq.1;have hlen:(xs++news).length=(n+m) * i.size:=by rw [aUq,IL,aB,aVV]
  have agN:(∀ j u,xs[j]? =some u→G (j % i.size) u)→∀ j u,(xs++news)[j]? =some u→G (j % i.size) u:=by
    intro hx j u hu;by_cases aA:j<xs.length
    · rw [aUC aA] at hu;exact hx j u hu
    · rw [aUF (by omega)] at hu
      have:=Mf _ u hu;rw [IL] at this aA;have e:j % i.size=(j - n * i.size) % i.size:=by
        conv=>lhs;rw [show j=n * i.size+(j - n * i.size) from by omega]
        rw [aVB n,aW1]
      rw [e];exact this
  -- what the growing arm leaves, whatever was there before
  have grown:(∀ j u,xs[j]? =some u→G (j % i.size) u)→∀ (old:Nat),old<n+m→∀ (row:Option Nat),
      Own (w.drew.alloc (.cells (xs.toArray++news.toArray++Builtin.zeroCells z.cells (grownCap w (n+m) old e - (n+m))) e)) base e i.size G
        (.slice (some ⟨w.heap.size,0,none⟩) (n+m) (grownCap w (n+m) old e)) (n+m) (xs++news)∧
      w.grownBy (w.drew.alloc (.cells (xs.toArray++news.toArray++Builtin.zeroCells z.cells (grownCap w (n+m) old e - (n+m))) e)) row:=by
    intro RL old b5 row;have uJ:=grownCap_ge w (n+m) old e;have r4:grownCap w (n+m) old e≤maxLen:=grownCap_le_maxLen w (n+m) old e rV;refine ⟨⟨hlen, .inr ⟨w.heap.size,_,_,Z,pX,aXd w.drew _,uJ,r4, ?_, ?_, ?_⟩⟩,⟨Z,Z,Z,by simp,fun k aw _=>heap_alloc_old w.drew _ aw⟩⟩
    · simp only [aYc,aVC,size_zeroCells,s8,IL,aB,← aVV]
      congr 1;omega
    · simp only [aXT,aUX]
      rw [← aUX,← hlen];exact aXJ
    · intro j u hu
      rw [← aVg] at hu;simp only [aXT] at hu;by_cases aA:j<(xs++news).length
      · rw [aUC aA] at hu;exact agN RL j u hu
      · rw [aUF (by simpa using aA)] at hu
        rw [aVg] at hu;have:=aIe s8 jh xV _ _ u hu;have o3:(xs.toArray.toList++news.toArray.toList).length=(n+m) * i.size:=hlen;rw [o3] at this;rw [hlen] at aA;have e:j % i.size=(j - (n+m) * i.size) % i.size:=by
          conv=>lhs;rw [show j=(n+m) * i.size+(j - (n+m) * i.size) from by omega]
          rw [aVB (n+m),aW1]
        rw [e];exact this
  have X0:A=none∨∃ a,A=some a:=by cases A with | none=>exact .inl rfl | some a=>exact .inr ⟨a,rfl⟩
  rcases X0 with rfl | ⟨ad,rfl⟩
  · have hm:m=0:=by
      rcases aW7 m with aI | aI
      · exact aI
      · obtain ⟨b,o,h,_⟩:=hr.2 aI
        cases h
    subst hm;have hn:news= []:=aUQ (by simpa using aB);subst hn;refine ⟨v,w, ?_,by simpa using fq,World.grownBy.refl w _,by simp, .inl rfl⟩;rcases fq.2 with ⟨rfl,rfl⟩ | ⟨g,cap,cur,rfl,_,_,Dy,_⟩
    · simp [Builtin.append_,aVw aF,sizeOf,typeInfo,aq,Builtin.lenOf,Builtin.firstCells]
    · simp [Builtin.append_,aVw aF,sizeOf,typeInfo,aq,Builtin.lenOf,Builtin.firstCells,Dy,storeCells]
  have Mh:∀ j u,news[j]? =some u→w.cell? (ad.add j)=some u:=by
    intro j u hu;rcases aW7 m with aI | aI
    · subst aI
      have hn:news= []:=aUQ (by simpa using aB);subst hn;simp at hu
    · obtain ⟨b,o,h,hc⟩:=hr.2 aI
      injection h with h
      subst h;rw [Hw];exact hc j u hu
  rcases fq.2 with ⟨rfl,rfl⟩ | ⟨g,cap,cur,rfl,Xe,aS,Dy,r4,qO,X3,bD⟩
  · have hx:xs= []:=aUQ (by simpa using IL)
    subst hx;by_cases hm:m=0
    · subst hm
      have hn:news= []:=aUQ (by simpa using aB);subst hn;refine ⟨.slice none 0 0,w, ?_,Own.nil w base e i.size G,⟨Z,Z,Z,aUu _,fun _ _ _=>Z⟩,by simp,Or.inl rfl⟩;simp [Builtin.append_,aVw aF,sizeOf,typeInfo,aq,Builtin.lenOf,Builtin.firstCells,loadCells,loadCellsFrom]
    · have hr:=run_append_nil (P:=P) w t ty e i z aF aq bB ad m c news aB Mh (by omega) (by omega) (by have Φ:=r0;simp only [aVm] at Φ;omega)
      have Dm:=grown (fun j u hu=>by simp at hu) 0 (by omega) (Value.ownBlock (.slice none 0 0));simp only [aVm,aWJ,aW9] at Dm ⊢;exact ⟨_,_,hr,Dm.1,Dm.2,by simp [hm],Or.inr rfl⟩
  · have RL:∀ j u,xs[j]? =some u→G (j % i.size) u:=by
      intro j u hu;rw [← X3,aU2] at hu;split at hu
      · exact bD j u (by rw [← aVg];exact hu)
      · cases hu
    by_cases XW:n+m≤cap
    · have Xw:n * i.size+news.length≤cur.size:=by rw [aB,qO,← aVV];exact aU3 _ XW
      have hr:=run_append_room (P:=P) w t ty e i aF aq g n cap cur aS ad m c news aB Mh γ XW Xw;refine ⟨_,_,hr,⟨hlen, .inr ⟨g,cap,_,Z,Xe,setRow_heap w g cur _ e _ aS,XW,r4, ?_, ?_, ?_⟩⟩,⟨Z,Z,Z,by simp,fun k _ aw=>setRow_other w g k _ (fun e=>aw (by simp [Value.ownBlock,e]))⟩,by simp,Or.inl rfl⟩
      · simp only [aVC,aUq,aUm,aUE,aWD]
        omega
      · rw [X3,← hlen]
        exact aXJ
      · intro j u hu
        rw [X3] at hu;have hu:((xs++news)++cur.toList.drop (n * i.size+news.length))[j]? =some u:=by simpa using hu
        by_cases aA:j<(xs++news).length
        · rw [aUC aA] at hu;exact agN RL j u hu
        · rw [aUF (by omega),aVo] at hu
          rw [hlen] at hu aA;rw [aB,← aVV,show (n+m) * i.size+(j - (n+m) * i.size)=j from by omega] at hu;exact bD j u (by rw [← aVg];exact hu)
    · have holds:∀ j u,xs[j]? =some u→w.cell? ((⟨g,0,none⟩:Addr).add j)=some u:=fq.row.cells (g:=g) rfl
      have hr:=run_append_grow (P:=P) w t ty e i z aF aq bB ⟨g,0,none⟩ n cap xs IL holds ad m c news aB Mh (by omega) (by omega) (growslice_fits (by omega) r0);have Dm:=grown RL cap (by omega) (Value.ownBlock (.slice (some ⟨g,0,none⟩) n cap));exact ⟨_,_,hr,Dm.1,Dm.2,by simp,Or.inr rfl⟩

theorem aGJ {o:Oper} {a:Act} {K:Act→World→Prop} {Q:Exit→Act→World→Prop} (s x:Operand) (t:TypeId)
    (b5:o.op= .call {callee:= .builtin .append,args:=#[s,x],argTypes:=#[t,t]})
    (base:Nat) (e:TypeId) (i:TypeInfo) (z:Value) (size bytes:Nat) (aF:P.underlying t=some (.slice e)) (aq:P.info? e=some i) (bB:i.zero=some z)
    (xS:i.size=size) (pY:i.bytes=bytes) (s8:z.cells.size=size) (jh:0<size) (G:Nat→Value→Prop) (xV:∀ j u,z.cells[j]? =some u→G j u)
    (v:Value) (n:Nat) (xs:List Value) (hs:a.eval s=v) (fq:Own w base e size G v n xs)
    (A:Option Addr) (m c:Nat) (news:List Value) (hx:a.eval x= .slice A m c) (hr:Rd w size A m news) (γ:∀ u∈news,u.oneCell'=true) (Mf:∀ j u,news[j]? =some u→G (j % size) u)
    (rV:n+m≤maxLen) (r0:(n+m) * bytes≤140737488355328) (pX:base≤w.heap.size)
    (h:∀ v' w',Own w' base e size G v' (n+m) (xs++news)→w.grownBy w' v.ownBlock→(v'= .slice none 0 0↔v= .slice none 0 0∧m=0)→(v'.ownBlock=v.ownBlock∨v'.ownBlock=some w.heap.size)→K (a.put o.dst v') w'):o.wp P a w K Q:=by
  obtain ⟨v',w',lH,aa,av,aV,bJ⟩:=alu (P:=P) w base t o.type e i z size bytes aF aq bB xS pY s8 jh G xV v n xs fq A m c news hr γ Mf rV r0 pX;unfold Oper.wp execOp;simp only [b5,resolve,invoke,builtin,aUv,aUA,aUo,aYh,aU4,aV8,hs,hx,lH];exact h v' w' aa av aV bJ
theorem JY {ops:Array Oper} {rest:List Oper} {o:Oper} {a:Act} {Q:Exit→Act→World→Prop} (XB:o.guard=none) (s x:Operand) (t:TypeId)
    (b5:o.op= .call {callee:= .builtin .append,args:=#[s,x],argTypes:=#[t,t]})
    (base:Nat) (e:TypeId) (i:TypeInfo) (z:Value) (size bytes:Nat) (aF:P.underlying t=some (.slice e)) (aq:P.info? e=some i) (bB:i.zero=some z)
    (xS:i.size=size) (pY:i.bytes=bytes) (s8:z.cells.size=size) (jh:0<size) (G:Nat→Value→Prop) (xV:∀ j u,z.cells[j]? =some u→G j u)
    (v:Value) (n:Nat) (xs:List Value) (hs:a.eval s=v) (fq:Own w base e size G v n xs)
    (A:Option Addr) (m c:Nat) (news:List Value) (hx:a.eval x= .slice A m c) (hr:Rd w size A m news) (γ:∀ u∈news,u.oneCell'=true) (Mf:∀ j u,news[j]? =some u→G (j % size) u)
    (rV:n+m≤maxLen) (r0:(n+m) * bytes≤140737488355328) (pX:base≤w.heap.size)
    (h:∀ v' w',Own w' base e size G v' (n+m) (xs++news)→w.grownBy w' v.ownBlock→(v'= .slice none 0 0↔v= .slice none 0 0∧m=0)→(v'.ownBlock=v.ownBlock∨v'.ownBlock=some w.heap.size)→wpList P ops Q rest (a.put o.dst v') w'):wpList P ops Q (o::rest) a w :=
  wpList_plain XB fun _ hK=>aGJ w s x t b5 base e i z size bytes aF aq bB xS pY s8 jh G xV v n xs hs fq A m c news hx hr γ Mf rV r0 pX fun v' w' aa av aV bJ=>hK _ _ (h v' w' aa av aV bJ)
end
open Go.ChangeShapes Go.WideShapes Go.Deep Go.RowKit
inductive fP where
  | int (k:IntKind)
  | bool
  | str
  | slice (e:fP) (bytes:Nat)
  | nil
  | cons (a b:fP)
def fP.size:fP→Nat
  | .int _ | .bool | .str | .slice _ _=>1
  | .nil=>0
  | .cons a b=>a.size+b.size
def partsOf (P:Program) (t:TypeId):Option (List (TypeId×Nat)):=
  match P.underlying t with
  | some (.struct fs)=>some (fs.toList.map fun f=>(f.type,f.offset))
  | some (.array n e)=>some ((List.range n).map fun i=>(e,i * P.cellsOf e))
  | _=>none
def fP.fit (P:Program):fP→TypeId ⊕ (Nat×List (TypeId×Nat))→Bool
  | .int k, .inl t=>match P.underlying t with | some (.int k')=>decide (k'=k) | _=>false
  | .bool, .inl t=>match P.underlying t with | some .bool=>true | _=>false
  | .str, .inl t=>match P.underlying t with | some .string=>true | _=>false
  | .slice e by_, .inl t=>match P.underlying t with | some (.slice u)=>P.cellsOf u == e.size && P.bytesOf u == by_ && e.fit P (.inl u) | _=>false
  | .nil, .inl t=>P.cellsOf t == 0 && (match P.underlying t with | some (.struct _)=>true | some (.array ..)=>true | _=>false)
  | .cons a b, .inl t=>P.cellsOf t == a.size+b.size && (match partsOf P t with
      | some ((u,o)::r)=>o == 0 && P.cellsOf u == a.size && a.fit P (.inl u) && b.fit P (.inr (a.size,r))
      | _=>false)
  | .nil, .inr (_,fs)=>fs.isEmpty
  | .cons a b, .inr (off,fs)=>match fs with
    | (u,o)::r=>o == off && P.cellsOf u == a.size && a.fit P (.inl u) && b.fit P (.inr (off+a.size,r))
    | []=>false
  | _, .inr _=>false
def fP.hV (w:World):fP→List Value→Prop
  | .int k,cs=>∃ n,cs= [.int k n]∧(Lit.int k n).wf=true
  | .bool,cs=>∃ b,cs= [.bool b]
  | .str,cs=>∃ s:ByteArray,cs= [.string s]∧s.size≤maxLen∧s.size≤140737488351232
  | .slice e by_,cs=>cs= [.slice none 0 0]∨∃ (a:Addr) (len cap:Nat),cs= [.slice (some a) len cap]∧len≤cap∧cap≤maxLen∧cap * by_≤140737488351232∧
      ∀ i,i<cap→∃ es:List Value,es.length=e.size∧(∀ j v,es[j]? =some v→w.cell? (a.add (i * e.size+j))=some v)∧e.hV w es
  | .nil,cs=>cs= []
  | .cons a b,cs=>∃ xs ys,cs=xs++ys∧xs.length=a.size∧ys.length=b.size∧a.hV w xs∧b.hV w ys
variable {H:Type} {enc:TypeId×Value→H} {P:Program} {w:World} {base:Nat} {held:Bool}
theorem am7 {e:TypeId} {l:List (DataW H)} {d:DataW H} (h:d∈l):∀ n∈d.weights P e,n∈DataW.weightsAll P e l:=by
  induction l with
  | nil=>cases h
  | cons x r bI =>
    intro n hn;simp only [DataW.weightsAll,aUy];rcases aUD.1 h with rfl | h
    · exact .inl hn
    · exact .inr (bI h n hn)
def Ko (enc:TypeId×Value→H) (P:Program) (w:World) (base:Nat) (held:Bool) (n:Nat) (cs:List Value) (fs:List (TypeId×Nat)) (xs:List (DataW H×List MemPlace)):Prop :=
  xs.length=fs.length∧∀ (i:Nat) (f:TypeId×Nat),fs[i]? =some f→DataW.trod enc P w base (fun _=>true) held n f.1 ((cs.drop f.2).take (P.cellsOf f.1))=xs[i]?
theorem Ko.cons {n:Nat} {cs:List Value} {f:TypeId×Nat} {r:List (TypeId×Nat)} {xs:List (DataW H×List MemPlace)} (h:Ko enc P w base held n cs (f::r) xs):
    ∃ x ys,xs=x::ys∧DataW.trod enc P w base (fun _=>true) held n f.1 ((cs.drop f.2).take (P.cellsOf f.1))=some x∧Ko enc P w base held n cs r ys:=by
  obtain ⟨aB,hf⟩:=h
  match xs,aB with
  | x::ys,aB =>
    refine ⟨x,ys,Z,hf 0 f Z,by simpa using aB,fun i g aS=> ?_⟩;exact hf (i+1) g aS
def Goal (P:Program) (w:World) (sh:fP):TypeId ⊕ (Nat×List (TypeId×Nat))→Prop
  | .inl t=>∀ (H:Type) (enc:TypeId×Value→H) (base:Nat) (held:Bool) (fuel:Nat) (cs:List Value) (x:DataW H×List MemPlace),DataW.trod enc P w base (fun _=>true) held fuel t cs=some x→(∀ n∈x.1.weights P t,n≤reachBytes)→cs.length=sh.size∧sh.hV w cs
  | .inr (off,fs)=>∀ (H:Type) (enc:TypeId×Value→H) (base:Nat) (held:Bool) (n:Nat) (cs:List Value) (xs:List (DataW H×List MemPlace)),Ko enc P w base held n cs fs xs→cs.length=off+sh.size→(∀ n∈DataW.weightsEach P (fs.map (·.1)) (xs.map (·.1)),n≤reachBytes)→sh.hV w (cs.drop off)
theorem Goal.fields {a b:fP} (azC:∀ t,a.fit P t=true→Goal P w a t) (azD:∀ t,b.fit P t=true→Goal P w b t) {off:Nat} {f:TypeId×Nat} {r:List (TypeId×Nat)} (γ:f.2=off) (aa:P.cellsOf f.1=a.size) (av:a.fit P (.inl f.1)=true) (aV:b.fit P (.inr (off+a.size,r))=true):
    Goal P w (.cons a b) (.inr (off,f::r)):=by
  intro H enc base held n cs xs hx aB hw;obtain ⟨x,ys,rfl,aF,hr⟩:=hx.cons;have ha:=azC _ av H enc base held n _ x aF (fun m hm=>hw m (by simp only [aU4,DataW.weightsEach,aUy];exact .inl hm));have jh:(fP.cons a b).size=a.size+b.size:=rfl;have Φ:=azD _ aV H enc base held n cs ys hr (by omega) (fun m hm=>hw m (by simp only [aU4,DataW.weightsEach,aUy];exact .inr hm));rw [γ,aa] at ha;refine ⟨_,_, ?_,ha.1, ?_,ha.2,Φ⟩
  · rw [← aYs,aWl]
  · rw [aUE];omega
theorem am8 {e:TypeId}:∀ (l:List (DataW H)) (ts:List TypeId),ts.length=l.length→(∀ t∈ts,t=e)→DataW.weightsEach P ts l=DataW.weightsAll P e l
  | [], [],_,_=>rfl
  | d::l,t::ts,h,aF=>by
    rw [DataW.weightsEach,DataW.weightsAll,aF t (by simp),am8 l ts (by simpa using h) (fun u hu=>aF u (by simp [hu]))]
  | [],_::_,h,_=>by simp at h
  | _::_, [],h,_=>by simp at h
theorem ame {t:TypeId} {fs:List (TypeId×Nat)} {fuel:Nat} {cs:List Value} {x:DataW H×List MemPlace} (hp:partsOf P t=some fs) (h:DataW.trod enc P w base (fun _=>true) held fuel t cs=some x):
    cs.length=P.cellsOf t∧∃ (xs:List (DataW H×List MemPlace)) (n:Nat),Ko enc P w base held n cs fs xs∧x.1.weights P t=DataW.weightsEach P (fs.map (·.1)) (xs.map (·.1)):=by
  unfold partsOf at hp;split at hp
  · rename_i gs hu
    obtain rfl:=aUh hp;obtain ⟨xs,n,_,rfl,aB,hlen,hf⟩:=DataW.trod_struct hu h;refine ⟨aB,xs,n,⟨by rw [hlen];simp,fun i f aS=> ?_⟩, ?_⟩
    · rw [aUx] at aS
      match axo:gs.toList[i]?,aS with
      | some g,aS =>
        obtain rfl:=aUh aS;exact hf i g (by rw [← aVg];exact axo)
    · simp only [DataW.weights,hu,aW5]
      rfl
  · rename_i m e hu
    obtain rfl:=aUh hp;obtain ⟨xs,n,_,rfl,aB,hlen,hf⟩:=DataW.trod_array hu h;refine ⟨aB,xs,n,⟨by rw [hlen];simp,fun i f aS=> ?_⟩, ?_⟩
    · rw [aUx] at aS
      have aq:i<m:=by
        rcases aVf i m with h | h
        · exact h
        · rw [aVp (by simpa using h)] at aS;cases aS
      rw [aXS aq] at aS;obtain rfl:=aUh aS;exact hf i aq
    · simp only [DataW.weights,hu]
      rw [am8 (e:=e)]
      · simp [hlen]
      · intro u hu;simp at hu;exact hu.2.symm
  · cases hp
theorem H_ (P:Program) (w:World):∀ (sh:fP) (t:TypeId ⊕ (Nat×List (TypeId×Nat))),sh.fit P t=true→Goal P w sh t
  | .int k, .inl t,h=>by
    intro H enc base held fuel cs x aF _;unfold fP.fit at h;split at h
    · rename_i k' hu
      obtain rfl:k'=k:=aVz h;cases fuel with
      | zero=>simp [DataW.trod] at aF
      | succ n =>
        unfold DataW.trod at aF;rw [hu] at aF;split at aF<;>simp_all;exact ⟨Z,_,Z,aF.1.2⟩
    · cases h
  | .bool, .inl t,h=>by
    intro H enc base held fuel cs x aF _;unfold fP.fit at h;split at h
    · rename_i hu
      cases fuel with
      | zero=>simp [DataW.trod] at aF
      | succ n =>
        unfold DataW.trod at aF;rw [hu] at aF;split at aF<;>simp_all;exact ⟨Z,_,Z⟩
    · cases h
  | .str, .inl t,h=>by
    intro H enc base held fuel cs x aF hw;unfold fP.fit at h;split at h
    · rename_i hu
      cases fuel with
      | zero=>simp [DataW.trod] at aF
      | succ n =>
        unfold DataW.trod at aF;rw [hu] at aF;split at aF<;>simp_all;obtain ⟨γ,rfl⟩:=aF;refine ⟨Z,_,Z,γ, ?_⟩;simpa [DataW.weights,reachBytes] using hw
    · cases h
  | .slice e by_, .inl t,h=>by
    intro H enc base held fuel cs x aF hw;unfold fP.fit at h;split at h
    · rename_i u hu
      simp only [aUp,aVh] at h;obtain ⟨⟨γ,aa⟩,av⟩:=h;rcases open_slice hu aF with ⟨rfl,_⟩ | ⟨a,len,cap,m,n,D,aJl,rfl,_,aB,hm,Rs,rfl,aq⟩
      · exact ⟨rfl, .inl rfl⟩
      · simp only [aVZ] at Rs
        subst Rs;refine ⟨Z, .inr ⟨a,len,m,Z,aB,hm, ?_,fun i axr=> ?_⟩⟩
        · have:=hw ((((List.range len).map D).length+((List.range (m - len)).map fun j=>D (len+j)).length) * P.bytesOf u) (by simp [DataW.weights,hu])
          rw [aa] at this;simp only [aUZ,aZl,reachBytes] at this;rw [show len+(m - len)=m from by omega] at this;exact this
        · obtain ⟨ad3,hc,ayR⟩:=aq i axr
          have aS:=H_ P w e (.inl u) av H enc base held n ad3 _ ayR (fun k aw=>hw k (by
            simp only [DataW.weights,hu,aUD,aUy];right;by_cases IB:i<len
            · exact .inl (am7 (aUR.2 ⟨i,aU0.2 IB,rfl⟩) k aw)
            · exact .inr (am7 (aUR.2 ⟨i - len,aU0.2 (by omega),by rw [show len+(i - len)=i from by omega]⟩) k aw)))
          obtain ⟨_,r3,fU⟩:=World.cells?_some hc;refine ⟨ad3,aS.1,fun j v hv=> ?_,aS.2⟩;have aA:j<P.cellsOf u:=by have:=(aUj.1 hv).1;omega
          rw [γ] at fU aA;rw [← Go.Deep.add_add,fU j aA,hv]
    · cases h
  | .nil, .inl t,h=>by
    intro H enc base held fuel cs x aF hw;unfold fP.fit at h;simp only [aUp,aVh] at h;obtain ⟨aI,γ⟩:=h;have hp:∃ fs,partsOf P t=some fs:=by
      unfold partsOf;split at γ
      · exact ⟨_,rfl⟩
      · exact ⟨_,rfl⟩
      · cases γ
    obtain ⟨fs,hp⟩:=hp;have aB:=(ame hp aF).1;rw [aI] at aB;exact ⟨aB,aUQ aB⟩
  | .cons a b, .inl t,h=>by
    intro H enc base held fuel cs x aF hw;unfold fP.fit at h;simp only [aUp,aVh] at h;obtain ⟨aI,h⟩:=h;split at h
    · rename_i u o r hp
      obtain ⟨aB,xs,n,hx,he⟩:=ame hp aF;rw [aI] at aB;refine ⟨aB, ?_⟩;simp only [aUp,aVh] at h;obtain ⟨⟨⟨γ,aa⟩,av⟩,aV⟩:=h;have aV:b.fit P (.inr (0+a.size,r))=true:=by rw [aVm];exact aV
      exact Goal.fields (w:=w) (f:=(u,o)) (fun t aF=>H_ P w a t aF) (fun t aF=>H_ P w b t aF) γ aa av aV H enc base held n cs xs hx (by rw [aB];show _=0+(a.size+b.size);omega) (fun m hm=>hw m (by rw [he];exact hm))
    · cases h
  | .nil, .inr (off,fs),h=>by
    intro H enc base held n cs xs hx aB hw;exact aUQ (by rw [aUE,aB];simp [fP.size])
  | .cons a b, .inr (off,fs),h=>by
    unfold fP.fit at h;split at h
    · rename_i u o r
      simp only [aUp,aVh] at h;obtain ⟨⟨⟨γ,aa⟩,av⟩,aV⟩:=h;exact Goal.fields (f:=(u,o)) (fun t aF=>H_ P w a t aF) (fun t aF=>H_ P w b t aF) γ aa av aV
    · cases h
  | .int _, .inr _,h=>by simp [fP.fit] at h
  | .bool, .inr _,h=>by simp [fP.fit] at h
  | .str, .inr _,h=>by simp [fP.fit] at h
  | .slice _ _, .inr _,h=>by simp [fP.fit] at h
theorem akB {ts:List TypeId} {ds:List (DataW H)} (sh:fP) {j:Nat} {t:TypeId} {v:Value} {d:DataW H} {p:List MemPlace} (Xw:sh.fit P (.inl t)=true)
    (jh:(DataW.weightsEach P ts ds).all (· ≤reachBytes)=true) (aF:ts[j]? =some t) (hd:ds[j]? =some d) (h:DataW.Trod enc P w base (fun _=>true) held t v d p):
    v.cells.toList.length=sh.size∧sh.hV w v.cells.toList:=by
  obtain ⟨fuel,hf⟩:=h;exact H_ P w sh (.inl t) Xw H enc base held fuel _ (d,p) hf (fun n hn=>by
    have:=aU7.1 jh _ (DataW.weights_mem_each aF hd n hn);simpa using this)
theorem Yw {α:Type} (n:Nat) (p:Nat→α→Prop) (h:∀ i,i<n→∃ x,p i x):∃ l:List α,l.length=n∧∀ i (aq:i<l.length),p i l[i]:=by
  induction n with
  | zero=>exact ⟨[],rfl,fun i aq=>absurd aq (by simp)⟩
  | succ n bI =>
    obtain ⟨l,aB,hp⟩:=bI (fun i aq=>h i (by omega));obtain ⟨x,hx⟩:=h n (by omega);refine ⟨l++ [x],by simp [aB],fun i aq=> ?_⟩;by_cases dJ:i<l.length
    · rw [aWG dJ];exact hp i dJ
    · have:i=n:=by simp at aq;omega
      subst this;rw [List.getElem_append_right (by omega)];simpa [aB] using hx
def de {β α:Type} (P:β→α→Prop):List β→List α→Prop
  | [], []=>True
  | b::c6,a::m=>P b a∧de P c6 m
  | _,_=>False
section
variable {β α:Type} {P Q:β→α→Prop}
theorem de.length:∀ {l:List β} {m:List α},de P l m→l.length=m.length
  | [], [],_=>rfl
  | _::_,_::_,h=>by rw [aUn,aUn,de.length h.2]
  | [],_::_,h=>h.elim
  | _::_, [],h=>h.elim
theorem de.imp {l:List β} (aq:∀ b a,b∈l→P b a→Q b a):∀ {m:List α},de P l m→de Q l m:=by
  induction l with
  | nil=>intro m h;cases m with | nil=>trivial | cons=>exact h
  | cons b r bI =>
    intro m h;cases m with
    | nil=>exact h
    | cons a s=>exact ⟨aq b a (by simp) h.1,bI (fun b a Φ=>aq b a (by simp [Φ])) h.2⟩
theorem de.app:∀ {l:List β} {m:List α} {uO:List β} {m':List α},de P l m→de P uO m'→de P (l++uO) (m++m')
  | [], [],_,_,_,h=>h
  | _::_,_::_,_,_,h,dk=>⟨h.1,de.app h.2 dk⟩
  | [],_::_,_,_,h,_=>h.elim
  | _::_, [],_,_,h,_=>h.elim
theorem de.at_:∀ {l:List β} {m:List α} {i:Nat} {a:α},de P l m→m[i]? =some a→∃ b,l[i]? =some b∧P b a
  | [], [],_,_,_,h=>by simp at h
  | b::_,_::_,0,_,h,e=>⟨b,rfl,by simp at e;subst e;exact h.1⟩
  | _::_,_::_,i+1,_,h,e=>by
    obtain ⟨b,γ,aa⟩:=de.at_ (i:=i) h.2 (by simpa using e);exact ⟨b,by simpa using γ,aa⟩
  | [],_::_,_,_,h,_=>h.elim
  | _::_, [],_,_,h,_=>h.elim
theorem de.ZM:∀ {l:List β} {m:List α} {i:Nat} {b:β} {a:α},de P l m→P b a→de P (l.set i b) (m.set i a)
  | [], [],_,_,_,_,_=>trivial
  | _::_,_::_,0,_,_,h,e=>⟨e,h.2⟩
  | _::_,_::_,_+1,_,_,h,e=>⟨h.1,de.ZM h.2 e⟩
  | [],_::_,_,_,_,h,_=>h.elim
  | _::_, [],_,_,_,h,_=>h.elim
theorem de.N0:∀ {l:List β} {m:List α} (k:Nat),de P l m→de P (l.take k) (m.take k)
  | [], [],_,_=>by simp [de]
  | _::_,_::_,0,_=>trivial
  | _::_,_::_,k+1,h=>⟨h.1,de.N0 k h.2⟩
  | [],_::_,_,h=>h.elim
  | _::_, [],_,h=>h.elim
theorem de.left:∀ {l:List β} {m:List α},de P l m→∀ b∈l,∃ a,P b a
  | [],_,_,b,Φ=>by simp at Φ
  | c::_, [],h,_,_=>h.elim
  | c::_,a::_,h,b,Φ=>by
    rcases aUD.1 Φ with rfl | Φ
    · exact ⟨a,h.1⟩
    · exact de.left h.2 b Φ
end
theorem A1 {k:Nat}:∀ {l:List (List Value)},(∀ x∈l,x.length=k)→l.flatten.length=l.length * k
  | [],_=>by simp
  | x::r,h=>by rw [aVb,aUq,h x (by simp),A1 (l:=r) (fun y aH=>h y (by simp [aH])),aUn,aVV];omega
theorem H5 {k:Nat}:∀ {l:List (List Value)} {i j:Nat} {es:List Value},(∀ x∈l,x.length=k)→l[i]? =some es→j<k→l.flatten[i * k+j]? =es[j]?
  | [],_,_,_,_,h,_=>by simp at h
  | x::r,0,j,es,h,e,aA=>by
    have e:x=es:=by simpa using e
    subst e;rw [aVb,aYM,aVm,aUC (by rw [h x (by simp)];exact aA)]
  | x::r,i+1,j,es,h,e,aA=>by
    have hx:=h x (by simp);rw [aVb,aUF (by rw [hx,aVV];omega),hx,show (i+1) * k+j - k=i * k+j from by rw [aVV];omega];exact H5 (fun y aH=>h y (by simp [aH])) (by simpa using e) aA
theorem afR {k:Nat}:∀ {l:List (List Value)} {i j:Nat} {es:List Value} (u:Value),(∀ x∈l,x.length=k)→l[i]? =some es→j<k→l.flatten.set (i * k+j) u=(l.set i (es.set j u)).flatten
  | [],_,_,_,_,_,h,_=>by simp at h
  | x::r,0,j,es,u,h,e,aA=>by
    have e:x=es:=by simpa using e
    subst e;rw [aVb,aYM,aVm,List.set_append_left _ _ (by rw [h x (by simp)];exact aA)];rfl
  | x::r,i+1,j,es,u,h,e,aA=>by
    have hx:=h x (by simp);rw [aVb,aXC _ _ (by rw [hx,aVV];omega),hx,show (i+1) * k+j - k=i * k+j from by rw [aVV];omega,afR u (fun y aH=>h y (by simp [aH])) (by simpa using e) aA];rfl
theorem afS {k:Nat}:∀ {l:List (List Value)} (i:Nat),(∀ x∈l,x.length=k)→l.flatten.take (i * k)=(l.take i).flatten
  | [],_,_=>by simp
  | x::r,0,_=>by simp
  | x::r,i+1,h=>by
    have hx:=h x (by simp);rw [aVb,aY4,aVb,aYf,hx,aUI (by rw [hx,aVV];omega),show (i+1) * k - k=i * k from by rw [aVV];omega,afS i (fun y aH=>h y (by simp [aH]))]
structure κ (α:Type) where
  size:Nat
  has:World→List Value→α→Prop
  own:World→Nat→List Nat→List Value→α→Prop
  raw:Nat→Value→Prop
  len:∀ {w cs a},has w cs a→cs.length=size
  one:∀ {w cs a},has w cs a→∀ u∈cs,u.oneCell'=true
  wD:∀ {w cs a},has w cs a→∀ (j:Nat) u,cs[j]? =some u→raw j u
  keep:∀ {w w' cs a},has w cs a→Below w.heap.size w w'→has w' cs a
  tr:∀ {w B f cs a},own w B f cs a→has w cs a
  tu:∀ {w w' B f cs a},own w B f cs a→(∀ g∈f,w'.heap[g]? =w.heap[g]?)→own w' B f cs a
  wB:∀ {w B f cs a},own w B f cs a→∀ g∈f,B≤g∧g<w.heap.size
  BC:∀ {w B rp f cs a},own w B f cs a→rp≤B→own w rp f cs a
namespace κ
variable {α β:Type} {w w':World} {B rp:Nat} {f:List Nat} {cs:List Value} {a:α}
theorem Za (R:κ α) (h:R.own w B f cs a):cs.length=R.size:=R.len (R.tr h)
def au9 (size:Nat) (cells:α→List Value) (ok:α→Prop) (raw:Nat→Value→Prop) (aB:∀ a,(cells a).length=size) (γ:∀ a,∀ u∈cells a,u.oneCell'=true) (hr:∀ a,ok a→∀ (j:Nat) u,(cells a)[j]? =some u→raw j u):κ α where
  size:=size
  has:=fun _ cs a=>cs=cells a∧ok a
  own:=fun _ _ f cs a=>f= []∧cs=cells a∧ok a
  raw:=raw
  len:=by rintro w cs a ⟨rfl,_⟩;exact aB a
  one:=by rintro w cs a ⟨rfl,_⟩;exact γ a
  wD:=by rintro w cs a ⟨rfl,h⟩;exact hr a h
  keep:=fun h _=>h
  tr:=fun h=>h.2
  tu:=fun h _=>h
  wB:=by rintro w B f cs a ⟨rfl,_⟩ g aS;simp at aS
  BC:=fun h _=>h
def flat (size:Nat) (cells:α→List Value) (ok:α→Prop) (raw:Nat→Value→Prop) (aB:∀ a,(cells a).length=size) (γ:∀ a,∀ u∈cells a,u.oneCell'=true) (hr:∀ a (j:Nat) u,(cells a)[j]? =some u→raw j u):κ α where
  size:=size
  has:=fun _ cs a=>cs=cells a∧ok a
  own:=fun _ _ f cs a=>f= []∧cs=cells a∧ok a
  raw:=raw
  len:=by rintro w cs a ⟨rfl,_⟩;exact aB a
  one:=by rintro w cs a ⟨rfl,_⟩;exact γ a
  wD:=by rintro w cs a ⟨rfl,_⟩;exact hr a
  keep:=fun h _=>h
  tr:=fun h=>h.2
  tu:=fun h _=>h
  wB:=by rintro w B f cs a ⟨rfl,_⟩ g aS;simp at aS
  BC:=fun h _=>h
def pair (R:κ α) (S:κ β):κ (α×β) where
  size:=R.size+S.size
  has:=fun w cs p=>∃ xs ys,cs=xs++ys∧R.has w xs p.1∧S.has w ys p.2
  own:=fun w B f cs p=>∃ xs ys f1 f2,cs=xs++ys∧f=f1++f2∧R.own w B f1 xs p.1∧S.own w B f2 ys p.2
  raw:=fun j u=>if j<R.size then R.raw j u else S.raw (j - R.size) u
  len:=by rintro w cs p ⟨xs,ys,rfl,γ,aa⟩;rw [aUq,R.len γ,S.len aa]
  one:=by
    rintro w cs p ⟨xs,ys,rfl,γ,aa⟩ u hu;rcases aUy.1 hu with hu | hu
    · exact R.one γ u hu
    · exact S.one aa u hu
  wD:=by
    rintro w cs p ⟨xs,ys,rfl,γ,aa⟩ j u hu;by_cases aA:j<R.size
    · rw [aUz aA];rw [aUC (by rw [R.len γ];exact aA)] at hu;exact R.wD γ j u hu
    · rw [aUr aA];rw [aUF (by rw [R.len γ];omega),R.len γ] at hu;exact S.wD aa _ u hu
  keep:=by rintro w w' cs p ⟨xs,ys,rfl,γ,aa⟩ Φ;exact ⟨xs,ys,Z,R.keep γ Φ,S.keep aa Φ⟩
  tr:=by rintro w B f cs p ⟨xs,ys,f1,f2,rfl,rfl,γ,aa⟩;exact ⟨xs,ys,Z,R.tr γ,S.tr aa⟩
  tu:=by
    rintro w w' B f cs p ⟨xs,ys,f1,f2,rfl,rfl,γ,aa⟩ aw;exact ⟨xs,ys,f1,f2,Z,Z,R.tu γ (fun g aS=>aw g (by simp [aS])),S.tu aa (fun g aS=>aw g (by simp [aS]))⟩
  wB:=by
    rintro w B f cs p ⟨xs,ys,f1,f2,rfl,rfl,γ,aa⟩ g aS;rcases aUy.1 aS with aS | aS
    · exact R.wB γ g aS
    · exact S.wB aa g aS
  BC:=by
    rintro w B rp f cs p ⟨xs,ys,f1,f2,rfl,rfl,γ,aa⟩ Φ;exact ⟨xs,ys,f1,f2,Z,Z,R.BC γ Φ,S.BC aa Φ⟩
def via (R:κ α) (g:β→α):κ β where
  size:=R.size
  has:=fun w cs b=>R.has w cs (g b)
  own:=fun w B f cs b=>R.own w B f cs (g b)
  raw:=R.raw
  len:=fun h=>R.len h
  one:=fun h=>R.one h
  wD:=fun h=>R.wD h
  keep:=fun h Φ=>R.keep h Φ
  tr:=fun h=>R.tr h
  tu:=fun h aw=>R.tu h aw
  wB:=fun h=>R.wB h
  BC:=fun h Φ=>R.BC h Φ
def ae:Option Addr→List Nat
  | none=> []
  | some a=> [a.block]
theorem aBb {A:Option Addr} {g:Nat}:g∈ae A↔∃ a,A=some a∧a.block=g:=by
  cases A with
  | none=>simp [ae]
  | some a=>simp [ae,eq_comm]
def aK (R:κ α) (by_:Nat) (w:World) (A:Option Addr) (c:Nat) (l:List α):Prop :=
  l.length≤c∧c≤9223372036854775807∧l.length * by_≤140737488355328∧(A=none→c=0)∧
  ∃ ess,de (fun es a=>R.has w es a) ess l∧Rd w R.size A l.length ess.flatten
def aD (R:κ α) (E:TypeId) (by_:Nat) (w:World) (B:Nat) (f:List Nat) (A:Option Addr) (c:Nat) (l:List α):Prop :=
  l.length * by_≤140737488355328∧
  ∃ ps:List (List Nat×List Value),f=ae A++(ps.map (·.1)).flatten∧f.Nodup∧Own w B E R.size R.raw (.slice A l.length c) l.length (ps.map (·.2)).flatten∧
    de (fun x a=>R.own w B x.1 x.2 a) ps l
theorem aK.keep {R:κ α} {by_:Nat} {A:Option Addr} {c:Nat} {l:List α} (h:R.aK by_ w A c l) (Φ:Below w.heap.size w w'):R.aK by_ w' A c l:=by
  obtain ⟨γ,aa,av,aV,ess,bJ,cg⟩:=h;exact ⟨γ,aa,av,aV,ess,bJ.imp (fun es a _ h=>R.keep h Φ),cg.later Φ⟩
theorem aK.drewN {R:κ α} {by_:Nat} {A:Option Addr} {c:Nat} {l:List α} (h:R.aK by_ w A c l) (k:Nat):R.aK by_ (w.drewN k) A c l:=h.keep (below_drewN (aUN _ w) k)
theorem de.YR {β anz α:Type} (g:β→anz) {P:anz→α→Prop}:∀ {l:List β} {m:List α},de (fun b a=>P (g b) a) l m→de P (l.map g) m
  | [], [],_=>trivial
  | _::_,_::_,h=>⟨h.1,de.YR g h.2⟩
  | [],_::_,h=>h.elim
  | _::_, [],h=>h.elim
theorem aD.has {R:κ α} {E:TypeId} {by_:Nat} {A:Option Addr} {c:Nat} {l:List α} (h:R.aD E by_ w B f A c l):R.aK by_ w A c l:=by
  obtain ⟨γ,ps,rfl,av,aV,bJ⟩:=h;obtain ⟨bL,b_,e,hle,hmx,Mo,_,lG⟩:=aV.shape;injection e with a8 _ bl
  subst a8;subst bl;refine ⟨hle,by unfold maxLen at hmx;omega,γ,fun hn=>by have:=lG hn;injection this,_,de.YR (fun x:List Nat×List Value=>x.2) (bJ.imp fun x a _ h=>R.tr h),Mo⟩
theorem aD.keep {R:κ α} {E:TypeId} {by_:Nat} {A:Option Addr} {c:Nat} {l:List α} (h:R.aD E by_ w B f A c l) (aw:∀ g∈f,w'.heap[g]? =w.heap[g]?):R.aD E by_ w' B f A c l:=by
  obtain ⟨γ,ps,rfl,av,aV,bJ⟩:=h;refine ⟨γ,ps,Z,av,aV.of_block (B:=0) fun g aS=>aw g ?_,bJ.imp fun x a hx h=>R.tu h fun g aS=>aw g ?_⟩
  · cases A with
    | none=>cases aS
    | some a=>injection aS with aS;simp [ae,aS]
  · exact aUy.2 (.inr (aVu.2 ⟨x.1,aUR.2 ⟨x,hx,rfl⟩,aS⟩))
theorem aD.lt {R:κ α} {E:TypeId} {by_:Nat} {A:Option Addr} {c:Nat} {l:List α} (h:R.aD E by_ w B f A c l):∀ g∈f,B≤g∧g<w.heap.size:=by
  obtain ⟨γ,ps,rfl,av,aV,bJ⟩:=h;intro g aS;rcases aUy.1 aS with aS | aS
  · obtain ⟨a,rfl,rfl⟩:=aBb.1 aS
    exact aV.row.lt _ Z
  · obtain ⟨y,aH,aS⟩:=aVu.1 aS
    obtain ⟨x,hx,rfl⟩:=aUR.1 aH;obtain ⟨a,ha⟩:=bJ.left x hx;exact R.wB ha g aS
theorem aD.later {R:κ α} {E:TypeId} {by_:Nat} {A:Option Addr} {c:Nat} {l:List α} (h:R.aD E by_ w B f A c l) (Φ:Below w.heap.size w w'):R.aD E by_ w' B f A c l:=h.keep fun g aS=>Φ.block g (h.lt g aS).2
theorem aD.nodup {R:κ α} {E:TypeId} {by_:Nat} {A:Option Addr} {c:Nat} {l:List α} (h:R.aD E by_ w B f A c l):f.Nodup:=by
  obtain ⟨_,ps,rfl,av,_⟩:=h;exact av
theorem aD.down {R:κ α} {E:TypeId} {by_:Nat} {A:Option Addr} {c:Nat} {l:List α} (h:R.aD E by_ w B f A c l) (Φ:rp≤B):R.aD E by_ w rp f A c l:=by
  obtain ⟨γ,ps,rfl,av,aV,bJ⟩:=h;exact ⟨γ,ps,Z,av,aV.mono Φ,bJ.imp fun x a _ h=>R.BC h Φ⟩
def slice (R:κ α) (E:TypeId) (by_:Nat):κ (List α) where
  size:=1
  has:=fun w cs l=>∃ A c,cs= [.slice A l.length c]∧R.aK by_ w A c l
  own:=fun w B f cs l=>∃ A c,cs= [.slice A l.length c]∧R.aD E by_ w B f A c l
  raw:=fun _ u=>∃ A n c,u= .slice A n c
  len:=by rintro w cs l ⟨A,c,rfl,_⟩;rfl
  one:=by rintro w cs l ⟨A,c,rfl,_⟩ u hu;simp at hu;subst hu;rfl
  wD:=by
    rintro w cs l ⟨A,c,rfl,_⟩ j u hu;cases j with
    | zero=>simp at hu;exact ⟨_,_,_,hu.symm⟩
    | succ j=>simp at hu
  keep:=by rintro w w' cs l ⟨A,c,rfl,h⟩ Φ;exact ⟨A,c,Z,h.keep Φ⟩
  tr:=by rintro w B f cs l ⟨A,c,rfl,h⟩;exact ⟨A,c,Z,h.has⟩
  tu:=by rintro w w' B f cs l ⟨A,c,rfl,h⟩ aw;exact ⟨A,c,Z,h.keep aw⟩
  wB:=by rintro w B f cs l ⟨A,c,rfl,h⟩;exact h.lt
  BC:=by rintro w B rp f cs l ⟨A,c,rfl,h⟩ Φ;exact ⟨A,c,Z,h.down Φ⟩
theorem de.aku {β α:Type} {P:β→α→Prop}:∀ {l:List β} {m:List α},l.length=m.length→(∀ (k:Nat) b a,l[k]? =some b→m[k]? =some a→P b a)→de P l m
  | [], [],_,_=>trivial
  | b::l,a::m,aB,h=>⟨h 0 b a rfl rfl,de.aku (by simpa using aB) (fun k b a γ aa=>h (k+1) b a (by simpa using γ) (by simpa using aa))⟩
  | [],_::_,aB,_=>by simp at aB
  | _::_, [],aB,_=>by simp at aB
section
variable {R:κ α} {E:TypeId} {by_:Nat} {A:Option Addr} {c:Nat} {l:List α}
theorem lens {ess:List (List Value)} (h:de (fun es a=>R.has w es a) ess l):∀ x∈ess,x.length=R.size:=fun x hx=>by
  obtain ⟨a,ha⟩:=h.left x hx;exact R.len ha
theorem aK.at_ (h:R.aK by_ w A c l) (aI:0<l.length):∃ b o,A=some ⟨b,o,none⟩∧∀ (i:Nat) a,l[i]? =some a→∃ es,R.has w es a∧∀ (j:Nat) u,es[j]? =some u→w.cell? ⟨b,o+(i * R.size+j),none⟩=some u:=by
  obtain ⟨_,_,_,_,ess,bJ,cg,ef⟩:=h;obtain ⟨b,o,e,hc⟩:=ef aI;refine ⟨b,o,e,fun i a ha=> ?_⟩;obtain ⟨es,gz,s3⟩:=bJ.at_ ha;refine ⟨es,s3,fun j u hu=>hc _ u ?_⟩;have aA:=(aUj.1 hu).1;rw [R.len s3] at aA;rw [H5 (lens bJ) gz aA];exact hu
theorem aK.AM {Q:α→Prop} (I:∀ {w cs a},R.has w cs a→Q a) (h:R.aK by_ w A c l):∀ a∈l,Q a:=by
  obtain ⟨_,_,_,_,ess,bJ,_⟩:=h;intro a ha;obtain ⟨i,aq,rfl⟩:=aVj.1 ha;obtain ⟨es,_,he⟩:=bJ.at_ (aUk aq);exact I he
theorem tv {e:fP} (he:∀ w cs,e.hV w cs→∃ a,R.has w cs a) (hs:e.size=R.size) (aI:0<R.size) {cs:List Value} (h:(fP.slice e by_).hV w cs):∃ A c l,cs= [.slice A (List.length l) c]∧R.aK by_ w A c l:=by
  rcases h with rfl | ⟨a,len,cap,rfl,aB,hm,hr,aq⟩
  · exact ⟨none,0, [],rfl,aUu _,by simp,by simp,fun _=>rfl, [],trivial,Rd.zero w R.size none⟩
  · obtain ⟨ess,hlen,FO⟩:=Yw len (fun i es=>List.length es=e.size∧(∀ j v,es[j]? =some v→w.cell? (a.add (i * e.size+j))=some v)∧e.hV w es) (fun i FP=>aq i (by omega))
    obtain ⟨l,o3,Ro⟩:=Yw len (fun i x=>∃ es,ess[i]? =some es∧R.has w es x) (fun i FP=>by
      obtain ⟨x,hx⟩:=he w (ess[i]'(by omega)) (FO i (by omega)).2.2;exact ⟨x,_,aUk _,hx⟩)
    have dB:de (fun es x=>R.has w es x) ess l:=by
      refine de.aku (by omega) fun k es x γ aa=> ?_;have aw:=(aUj.1 aa);obtain ⟨p0,gv⟩:=aw;obtain ⟨aK8,av,aV⟩:=Ro k p0;rw [γ] at av;obtain rfl:=aUh av;rw [← gv];exact aV
    refine ⟨some a,cap,l,by rw [o3],by omega,by unfold maxLen at hm;omega, ?_,fun h=>(by cases h),ess,dB,by rw [A1 (lens dB),dB.length],fun aLu=> ?_⟩
    · have:=aU3 by_ aB
      rw [o3];omega
    · obtain ⟨b,off,spot⟩:=a
      have mU:=(FO 0 (by omega)).2.1 0;obtain ⟨v,hv⟩:∃ v,(ess[0]'(by omega))[0]? =some v:=by
        have:=(FO 0 (by omega)).1;exact ⟨_,aUk (by omega)⟩
      have s5:=mU v hv;have Bi:spot=none:=by simpa [Addr.add] using World.cell?_spot s5
      subst Bi;refine ⟨b,off,Z,fun j u hu=> ?_⟩;have bE:=(aUj.1 hu).1;rw [A1 (lens dB)] at bE;have aA:j % R.size<R.size:=aWt _ aI;have hd:j / R.size<ess.length:=by rw [aXB aI];exact bE
      have RG:j / R.size * R.size+j % R.size=j:=by rw [aVB];exact aYm j R.size
      have cg:=H5 (j:=j % R.size) (lens dB) (i:=j / R.size) (es:=ess[j / R.size]'hd) (aUk hd) aA;rw [RG,hu] at cg;have ef:=(FO (j / R.size) hd).2.1 _ u cg.symm;rw [Hw,hs,RG] at ef;exact ef
theorem aK.dT {A:Option Addr} {c:Nat} {l:List α} {by_:Nat} {R:κ α} (h:R.aK by_ w A c l):l.length≤9223372036854775807:=aUP h.1 h.2.1
theorem aK.N0 {A:Option Addr} {c:Nat} {l:List α} {by_:Nat} {R:κ α} (h:R.aK by_ w A c l) (k:Nat):R.aK by_ w A c (l.take k):=by
  obtain ⟨γ,aa,av,aV,ess,bJ,cg⟩:=h;have aB:(l.take k).length≤l.length:=by rw [aUm];omega
  have hm:=aU3 by_ aB;have ef:=bJ.N0 k;refine ⟨by omega,aa,by omega,aV,ess.take k,ef,by rw [A1 (lens ef),ef.length],fun aI=> ?_⟩;obtain ⟨b,o,e,hc⟩:=cg.2 (by omega);refine ⟨b,o,e,fun j u hu=>hc j u ?_⟩;rw [← afS k (lens bJ),aU2] at hu;split at hu
  · exact hu
  · cases hu
theorem aK.nil (w:World):R.aK by_ w none 0 []:=⟨aUu _,by simp,by simp,fun _=>rfl, [],trivial,Rd.zero w R.size none⟩
theorem aD.nil (w:World):R.aD E by_ w B [] none 0 []:=⟨by simp, [],rfl,aXK,Own.nil w B E R.size R.raw,trivial⟩
end
def E7 (R:κ α) (E:TypeId) (by_:Nat) (w:World) (B:Nat) (aC:List Nat) (g c:Nat) (l:List α) (i:Nat) (es:List Value):Prop :=
  l.length * by_≤140737488355328∧ 
  ∃ ps:List (List Nat×List Value),aC=g::(ps.map (·.1)).flatten∧aC.Nodup∧Own w B E R.size R.raw (.slice (some ⟨g,0,none⟩) l.length c) l.length (ps.map (·.2)).flatten∧
    ps[i]? =some ([],es)∧es.length=R.size∧ps.length=l.length∧∀ k a,k≠i→l[k]? =some a→∃ x,ps[k]? =some x∧R.own w B x.1 x.2 a
section
variable {R:κ α} {E:TypeId} {by_:Nat} {A:Option Addr} {c:Nat} {l:List α} {g i:Nat} {es:List Value} {aC:List Nat}
theorem Sn {ps:List (List Nat×List Value)} (h:de (fun x a=>R.own w B x.1 x.2 a) ps l):∀ x∈ps.map (·.2),x.length=R.size:=fun x hx=>by
  obtain ⟨y,aH,rfl⟩:=aUR.1 hx;obtain ⟨a,ha⟩:=h.left y aH;exact R.Za ha
theorem aD.block (h:R.aD E by_ w B f A c l) (aI:0<l.length):∃ g,A=some ⟨g,0,none⟩:=by
  obtain ⟨_,ps,_,_,aV,_⟩:=h;obtain ⟨_,bJ⟩:=aV;rcases bJ with ⟨_,bJ⟩ | ⟨g,cap,cur,hv,_⟩
  · omega
  · injection hv with hv;exact ⟨g,hv⟩
theorem E7.lens (h:R.E7 E by_ w B aC g c l i es):∃ ps:List (List Nat×List Value),aC=g::(ps.map (·.1)).flatten∧aC.Nodup∧Own w B E R.size R.raw (.slice (some ⟨g,0,none⟩) l.length c) l.length (ps.map (·.2)).flatten∧
    ps[i]? =some ([],es)∧es.length=R.size∧ps.length=l.length∧(∀ k a,k≠i→l[k]? =some a→∃ x,ps[k]? =some x∧R.own w B x.1 x.2 a)∧∀ x∈ps.map (·.2),x.length=R.size:=by
  obtain ⟨_,ps,aa,av,aV,bJ,cg,ef,gz⟩:=h;refine ⟨ps,aa,av,aV,bJ,cg,ef,gz,fun x hx=> ?_⟩;obtain ⟨k,aw,rfl⟩:=aVj.1 hx;rw [aUZ] at aw;rw [aXl];by_cases p1:k=i
  · subst p1
    rw [aUk aw] at bJ;rw [aUh bJ];exact cg
  · obtain ⟨y,aH,b5⟩:=gz k (l[k]'(by omega)) p1 (aUk _)
    rw [aUk aw] at aH;rw [aUh aH];exact R.Za b5
theorem E7.keep (h:R.E7 E by_ w B aC g c l i es) (aw:∀ x∈aC,w'.heap[x]? =w.heap[x]?):R.E7 E by_ w' B aC g c l i es:=by
  obtain ⟨γ,ps,aa,av,aV,bJ,cg,ef,gz⟩:=h;refine ⟨γ,ps,aa,av,aV.of_block (B:=0) (fun x hx=>aw x ?_),bJ,cg,ef,fun k a p1 ha=> ?_⟩
  · injection hx with hx;rw [aa,← hx];simp
  · obtain ⟨x,hx,b5⟩:=gz k a p1 ha
    refine ⟨x,hx,R.tu b5 fun y aH=>aw y ?_⟩;rw [aa];exact aUB _ (aVu.2 ⟨x.1,aUR.2 ⟨x,aUW hx,Z⟩,aH⟩)
theorem E7.cell (h:R.E7 E by_ w B aC g c l i es) (aq:i<l.length) {j:Nat} {u:Value} (hu:es[j]? =some u):w.cell? ⟨g,i * R.size+j,none⟩=some u:=by
  obtain ⟨ps,aa,av,aV,bJ,cg,ef,gz,aB⟩:=h.lens;have aA:j<R.size:=by rw [← cg];exact (aUj.1 hu).1
  have:=aV.cell (i * R.size+j) (by
    have:(i+1) * R.size≤l.length * R.size:=aU3 _ aq;rw [aVV] at this;omega)
  rw [this,H5 aB (by rw [aUx,bJ];rfl) aA];exact hu
theorem aD.free (h:R.aD E by_ w B f (some ⟨g,0,none⟩) c l) (j:Nat):w.frozen? ⟨g,j,none⟩=false:=by
  obtain ⟨_,ps,rfl,_,aV,_⟩:=h;exact aV.free j
end

section
variable {P:Program} {R:κ α} {by_:Nat}
theorem Sp (A:Option Addr) (n c:Nat):(Value.slice A n c).ownBlock.toList=ae A:=by cases A<;>rfl
theorem aDJ (ty:TypeId) (base:Nat) (t e:TypeId) (i:TypeInfo) (z:Value) (aF:P.underlying t=some (.slice e)) (aq:P.info? e=some i) (bB:i.zero=some z)
    (xS:i.size=R.size) (pY:i.bytes=by_) (s8:z.cells.size=R.size) (jh:0<R.size) (xV:∀ (j:Nat) u,z.cells[j]? =some u→R.raw j u)
    (f:List Nat) (A:Option Addr) (c:Nat) (l:List α) (h:R.aD e by_ w base f A c l)
    (cX:Option Addr) (m c2:Nat) (k:List α) (kX:List (List Nat×List Value)) (I:de (fun x a=>R.own w base x.1 x.2 a) kX k) (hm:k.length=m) (hr:Rd w R.size cX m (kX.map (·.2)).flatten)
    (iQ:(f++(kX.map (·.1)).flatten).Nodup) (rV:l.length+m≤9223372036854775807) (r0:(l.length+m) * by_≤140737488355328) (pX:base≤w.heap.size):
    ∃ bL b_ f' w',(Builtin.append_ #[t,t] ty #[.slice A l.length c, .slice cX m c2]).run P w= .ok (.slice bL (l.length+m) b_) w'∧R.aD e by_ w' base f' bL b_ (l++k)∧w.grownBy w' (Value.slice A l.length c).ownBlock∧(bL=A∨∃ a,bL=some a∧a.block=w.heap.size)∧(∀ x∈f',x∈f∨x∈(kX.map (·.1)).flatten∨x=w.heap.size)∧(bL=none↔A=none∧m=0)∧base≤w'.heap.size:=by
  obtain ⟨γ,ps,rfl,av,aV,bJ⟩:=h;have Mh:∀ (j:Nat) u,(kX.map (·.2)).flatten[j]? =some u→R.raw (j % R.size) u:=by
    intro j u hu;have aB:=Sn I;have bE:=(aUj.1 hu).1;rw [A1 aB,aUZ] at bE;have aA:j % R.size<R.size:=aWt _ jh;have hd:j / R.size<kX.length:=by rw [aXB jh];exact bE
    have aME:kX[j / R.size]? =some (kX[j / R.size]'hd):=aUk hd;have axI:k[j / R.size]? =some (k[j / R.size]'(by rw [← I.length];exact hd)):=aUk _;obtain ⟨x,hx,b5⟩:=I.at_ axI;have:=H5 (j:=j % R.size) aB (i:=j / R.size) (es:=x.2) (by rw [aUx,hx];rfl) aA;rw [show j / R.size * R.size+j % R.size=j from by rw [aVB];exact aYm j R.size,hu] at this;exact R.wD (R.tr b5) _ u this.symm
  have o4:∀ u∈(kX.map (·.2)).flatten,u.oneCell'=true:=by
    intro u hu;obtain ⟨y,aH,hu⟩:=aVu.1 hu;obtain ⟨x,hx,rfl⟩:=aUR.1 aH;obtain ⟨a,ha⟩:=I.left x hx;exact R.one (R.tr ha) u hu
  obtain ⟨v',w',lH,fq,jJ,mV,fU⟩:=alu (P:=P) w base t ty e i z R.size by_ aF aq bB xS pY s8 jh R.raw xV _ _ _ aV cX m c2 _ hr o4 Mh (by unfold maxLen;omega) r0 pX;obtain ⟨bL,b_,rfl,hle,hmx,Mo,Ir,lG⟩:=fq.shape;have axY:∀ x,(Value.slice A l.length c).ownBlock=some x→x∈ae A:=fun x hx=>by rw [← Sp A l.length c,hx];simp
  have hA:∀ x∈ae bL,x∈ae A∨x=w.heap.size:=by
    intro x hx;rw [← Sp bL (l.length+m) b_] at hx;rcases fU with fU | fU
    · rw [fU,Sp] at hx;exact .inl hx
    · rw [fU] at hx;simp at hx;exact .inr hx
  have ayx:∀ x∈ps,∀ y∈x.1,y<w.heap.size∧y∉ae A:=by
    intro x hx y aH;obtain ⟨a,ha⟩:=bJ.left x hx;refine ⟨(R.wB ha y aH).2,fun Φ=> ?_⟩;rw [aU5] at av;exact av.2.2 y Φ y (aVu.2 ⟨x.1,aUR.2 ⟨x,hx,Z⟩,aH⟩) Z
  have ayA:∀ x∈kX,∀ y∈x.1,y<w.heap.size∧y∉ae A:=by
    intro x hx y aH;obtain ⟨a,ha⟩:=I.left x hx;refine ⟨(R.wB ha y aH).2,fun Φ=> ?_⟩;rw [aU5] at iQ;exact iQ.2.2 y (aXM _ Φ) y (aVu.2 ⟨x.1,aUR.2 ⟨x,hx,Z⟩,aH⟩) Z
  have awU:∀ y,y<w.heap.size→y∉ae A→w'.heap[y]? =w.heap[y]? :=fun y aH hn=>jJ.block y aH fun e=>hn (axY y e.symm);have XG:∀ x∈ps++kX,∀ y∈x.1,y<w.heap.size∧y∉ae A:=fun x hx=>by
    rcases aUy.1 hx with hx | hx
    · exact ayx x hx
    · exact ayA x hx
  refine ⟨bL,b_,ae bL++((ps++kX).map (·.1)).flatten,w',lH,⟨by rw [aUq,hm];exact r0,ps++kX,rfl, ?_, ?_, ?_⟩,jJ, ?_, ?_, ?_,aUP pX jJ.size⟩
  · rw [aUX,← aWB,← aUK,aU5] at iQ
    rw [aU5];refine ⟨by cases bL<;>simp [ae],iQ.2.1,fun x hx y aH e=> ?_⟩;subst e;obtain ⟨z,bB,aH⟩:=aVu.1 aH;obtain ⟨v,hv,rfl⟩:=aUR.1 bB;have cg:=XG v hv x aH;rcases hA x hx with ef | ef
    · exact cg.2 ef
    · omega
  · rw [aUK,aWB,aUq,hm];exact fq
  · exact (bJ.app I).imp fun x a hx b5=>R.tu b5 fun y aH=>awU y (XG x hx y aH).1 (XG x hx y aH).2
  · rcases fU with fU | fU
    · cases bL with
      | none =>
        cases A with
        | none=>exact .inl rfl
        | some a=>cases fU
      | some a' =>
        cases A with
        | none=>cases fU
        | some a =>
          obtain ⟨_,cg⟩:=aV;obtain ⟨_,ef⟩:=fq;rcases cg with ⟨cg,_⟩ | ⟨g,cap,cur,cg,_⟩
          · cases cg
          rcases ef with ⟨ef,_⟩ | ⟨g',aKJ,CY,ef,_⟩
          · cases ef
          injection cg with cg
          injection ef with ef
          rw [cg,ef] at fU ⊢;injection fU with fU
          have fU:g'=g:=fU
          left;rw [fU]
    · cases bL with
      | none=>cases fU
      | some a'=>injection fU with fU;exact .inr ⟨a',Z,fU⟩
  · intro x hx
    rcases aUy.1 hx with hx | hx
    · rcases hA x hx with h | h
      · exact .inl (aXM _ h)
      · exact .inr (.inr h)
    · rw [aUK,aWB] at hx
      rcases aUy.1 hx with hx | hx
      · exact .inl (aXD _ hx)
      · exact .inr (.inl hx)
  · have Fy:A=none→Value.slice A l.length c= .slice none 0 0:=fun e=>by
      obtain ⟨_,_,jP,_,_,_,_,ax9⟩:=aV.shape;injection jP with a8 _ bl
      subst a8;subst bl;exact ax9 e
    constructor
    · intro e
      obtain ⟨cg,ef⟩:=mV.1 (lG e);injection cg with cg
      exact ⟨cg,ef⟩
    · rintro ⟨e,aI⟩
      have:=mV.2 ⟨Fy e,aI⟩;injection this
theorem aGK {o:Oper} {a:Act} {K:Act→World→Prop} {Q:Exit→Act→World→Prop} (s x:Operand) (base:Nat) (t e:TypeId) (i:TypeInfo) (z:Value) (aF:P.underlying t=some (.slice e)) (aq:P.info? e=some i) (bB:i.zero=some z)
    (xS:i.size=R.size) (pY:i.bytes=by_) (s8:z.cells.size=R.size) (jh:0<R.size) (xV:∀ (j:Nat) u,z.cells[j]? =some u→R.raw j u)
    (f:List Nat) (A:Option Addr) (c:Nat) (l:List α) (h:R.aD e by_ w base f A c l)
    (cX:Option Addr) (m c2:Nat) (k:List α) (kX:List (List Nat×List Value)) (I:de (fun x a=>R.own w base x.1 x.2 a) kX k) (hm:k.length=m) (hr:Rd w R.size cX m (kX.map (·.2)).flatten)
    (iQ:(f++(kX.map (·.1)).flatten).Nodup) (rV:l.length+m≤9223372036854775807) (r0:(l.length+m) * by_≤140737488355328) (pX:base≤w.heap.size)
    (b5:o.op= .call {callee:= .builtin .append,args:=#[s,x],argTypes:=#[t,t]}) (hs:a.eval s= .slice A l.length c) (hx:a.eval x= .slice cX m c2)
    (hK:∀ bL b_ f' w',R.aD e by_ w' base f' bL b_ (l++k)∧w.grownBy w' (Value.slice A l.length c).ownBlock∧(bL=A∨∃ a,bL=some a∧a.block=w.heap.size)∧(∀ x∈f',x∈f∨x∈(kX.map (·.1)).flatten∨x=w.heap.size)∧(bL=none↔A=none∧m=0)∧base≤w'.heap.size→K (a.put o.dst (.slice bL (l.length+m) b_)) w'):o.wp P a w K Q:=by
  obtain ⟨bL,b_,f',w',lH,aa⟩:=aDJ (P:=P) (w:=w) o.type base t e i z aF aq bB xS pY s8 jh xV f A c l h cX m c2 k kX I hm hr iQ rV r0 pX;unfold Oper.wp execOp;simp only [b5,resolve,invoke,builtin,aUv,aUA,aUo,aYh,aU4,aV8,hs,hx,lH];exact hK bL b_ f' w' aa
theorem aGH {ops:Array Oper} {rest:List Oper} {o:Oper} {a:Act} {Q:Exit→Act→World→Prop} (XB:o.guard=none) (s x:Operand) (base:Nat) (t e:TypeId) (i:TypeInfo) (z:Value) (aF:P.underlying t=some (.slice e)) (aq:P.info? e=some i) (bB:i.zero=some z)
    (xS:i.size=R.size) (pY:i.bytes=by_) (s8:z.cells.size=R.size) (jh:0<R.size) (xV:∀ (j:Nat) u,z.cells[j]? =some u→R.raw j u)
    (f:List Nat) (A:Option Addr) (c:Nat) (l:List α) (h:R.aD e by_ w base f A c l)
    (cX:Option Addr) (m c2:Nat) (k:List α) (kX:List (List Nat×List Value)) (I:de (fun x a=>R.own w base x.1 x.2 a) kX k) (hm:k.length=m) (hr:Rd w R.size cX m (kX.map (·.2)).flatten)
    (iQ:(f++(kX.map (·.1)).flatten).Nodup) (rV:l.length+m≤9223372036854775807) (r0:(l.length+m) * by_≤140737488355328) (pX:base≤w.heap.size)
    (b5:o.op= .call {callee:= .builtin .append,args:=#[s,x],argTypes:=#[t,t]}) (hs:a.eval s= .slice A l.length c) (hx:a.eval x= .slice cX m c2)
    (hK:∀ bL b_ f' w',R.aD e by_ w' base f' bL b_ (l++k)∧w.grownBy w' (Value.slice A l.length c).ownBlock∧(bL=A∨∃ a,bL=some a∧a.block=w.heap.size)∧(∀ x∈f',x∈f∨x∈(kX.map (·.1)).flatten∨x=w.heap.size)∧(bL=none↔A=none∧m=0)∧base≤w'.heap.size→wpList P ops Q rest (a.put o.dst (.slice bL (l.length+m) b_)) w'):wpList P ops Q (o::rest) a w :=
  wpList_plain XB fun _ av0=>aGK s x base t e i z aF aq bB xS pY s8 jh xV f A c l h cX m c2 k kX I hm hr iQ rV r0 pX b5 hs hx fun bL b_ f' w' aa=>av0 _ _ (hK bL b_ f' w' aa)
def Plain (R:κ α):Prop:=∀ {w B cs a},R.has w cs a→R.own w B [] cs a
theorem o0 {size:Nat} {cells:α→List Value} {ok:α→Prop} {raw:Nat→Value→Prop} {aB γ hr}:(flat size cells ok raw aB γ hr).Plain:=fun h=>⟨rfl,h⟩
theorem de.plain {ess:List (List Value)} {l:List α} (hp:R.Plain) (h:de (fun es a=>R.has w es a) ess l):de (fun x a=>R.own w B x.1 x.2 a) (ess.map fun es=>(([]:List Nat),es)) l :=
  de.YR (P:=fun (x:List Nat×List Value) a=>R.own w B x.1 x.2 a) (fun es=>(([]:List Nat),es)) (h.imp fun _ _ _ h=>hp h)
theorem akQ (ess:List (List Value)):((ess.map fun es=>(([]:List Nat),es)).map (·.1)).flatten= []∧(ess.map fun es=>(([]:List Nat),es)).map (·.2)=ess:=by
  constructor
  · induction ess with
    | nil=>rfl
    | cons x r bI=>simp
  · rw [aW5]
    exact List.map_id' ess
theorem aD.BE {E:TypeId} {A:Option Addr} {c:Nat} {l:List α} (hp:R.Plain) {ess:List (List Value)} (h:de (fun es a=>R.has w es a) ess l) (Φ:l.length * by_≤140737488355328) (b5:Own w B E R.size R.raw (.slice A l.length c) l.length ess.flatten):R.aD E by_ w B (ae A) A c l:=by
  obtain ⟨a8,bl⟩:=akQ ess;exact ⟨Φ,_,by rw [a8,aUV],by cases A<;>simp [ae],by rw [bl];exact b5,de.plain hp h⟩
theorem aD.avk {E:TypeId} {A:Option Addr} {c:Nat} {l:List α} (hp:∀ {w B f cs a},R.own w B f cs a→f= []) (h:R.aD E by_ w B f A c l):f=ae A:=by
  obtain ⟨_,ps,rfl,_,_,bJ⟩:=h;have:(ps.map (·.1)).flatten= []:=by
    rw [aYJ];intro x hx;obtain ⟨y,aH,rfl⟩:=aUR.1 hx;obtain ⟨a,ha⟩:=bJ.left y aH;exact hp ha
  rw [this,aUV]
end
end κ

theorem H6 {α:Type} {R:κ α} {w:World} {ess:List (List Value)} {l:List α} (h:de (fun es a=>R.has w es a) ess l) (aI:0<R.size) {j:Nat} {u:Value} (hu:ess.flatten[j]? =some u):R.raw (j % R.size) u:=by
  have aB:=κ.lens h;have bE:=(aUj.1 hu).1;rw [A1 aB] at bE;have aA:j % R.size<R.size:=aWt _ aI;have hd:j / R.size<ess.length:=by rw [aXB aI];exact bE
  have RG:j / R.size * R.size+j % R.size=j:=by rw [aVB];exact aYm j R.size
  have cg:=H5 (j:=j % R.size) aB (i:=j / R.size) (es:=ess[j / R.size]'hd) (aUk hd) aA;rw [RG,hu] at cg;obtain ⟨a,ha⟩:=h.left _ (aVv hd);exact R.wD ha _ u cg.symm
namespace κ
variable {α:Type} {w w':World} {B:Nat} {f:List Nat} {R:κ α} {E:TypeId} {A:Option Addr} {by_ g c:Nat} {l:List α}
def An (R:κ α):Prop:=R.Plain∧∀ {w B f cs a},R.own w B f cs a→f= []
theorem dE {size:Nat} {cells:α→List Value} {ok:α→Prop} {raw:Nat→Value→Prop} {aB γ hr}:(flat size cells ok raw aB γ hr).An:=⟨o0,fun h=>h.1⟩
theorem aD.aD9 (h:R.aD E by_ w B f (some ⟨g,0,none⟩) c l) (hp:R.An) {i j:Nat} {a a':α} {u:Value} (aq:l[i]? =some a) (aA:j<R.size) (hu:∀ cs,R.has w cs a→R.has (w.setCell ⟨g,i * R.size+j,none⟩ u) (cs.set j u) a'):
    R.aD E by_ (w.setCell ⟨g,i * R.size+j,none⟩ u) B f (some ⟨g,0,none⟩) c (l.set i a'):=by
  obtain ⟨Φ,ps,rfl,hn,b5,dB⟩:=h;obtain ⟨x,hx,My⟩:=dB.at_ aq;have aB:=Sn dB;have ka:x.1= []:=hp.2 My;have IL:x.2.length=R.size:=R.Za My;have ahI:=hu x.2 (R.tr My);have qT:R.raw j u:=R.wD ahI j u (by rw [aUG (by omega)]);have s3:=b5.stored (i * R.size+j) u (by rw [aVB,aW1,aVt aA];exact qT);rw [afR u aB (i:=i) (es:=x.2) (by rw [aUx,hx];rfl) aA] at s3;have bE:=(aUj.1 hx).1;have a8:(ps.set i (x.1,x.2.set j u)).map (·.1)=ps.map (·.1):=by
    rw [aVD];have:(ps.map (·.1))[i]? =some x.1:=by rw [aUx,hx];rfl
    obtain ⟨aa,av⟩:=aUj.1 this
    conv=>lhs;rw [← av]
    exact aV1 _
  have bl:(ps.set i (x.1,x.2.set j u)).map (·.2)=(ps.map (·.2)).set i (x.2.set j u):=by rw [aVD]
  have Xp:∀ y∈ps,∀ q∈y.1,q≠g:=fun y aH q I e=>by
    obtain ⟨b,FF⟩:=dB.left y aH;rw [hp.2 FF] at I;simp at I
  have Xa:de (fun x a=>R.own (w.setCell ⟨g,i * R.size+j,none⟩ u) B x.1 x.2 a) ps l:=dB.imp fun y a aH RM=>R.tu RM fun q I=>aYd _ _ _ _ (Xp y aH q I);refine ⟨by rw [aUs];exact Φ,ps.set i (x.1,x.2.set j u),by rw [a8],hn,by rw [aUs,bl];exact s3, ?_⟩;exact Xa.ZM (P:=fun (x:List Nat×List Value) a=>R.own (w.setCell ⟨g,i * R.size+j,none⟩ u) B x.1 x.2 a) (by rw [ka];exact hp.1 ahI)
theorem aD.other (h:R.aD E by_ w B f A c l) {p:Addr} (hp:p.block∉f) (u:Value):R.aD E by_ (w.setCell p u) B f A c l :=
  h.keep fun g aS=>aYd _ _ _ _ fun e=>hp (e ▸ aS)
theorem aD.drewN (h:R.aD E by_ w B f A c l) (k:Nat):R.aD E by_ (w.drewN k) B f A c l:=h.keep fun _ _=>rfl
theorem aD.drew (h:R.aD E by_ w B f A c l):R.aD E by_ w.drew B f A c l:=h.keep fun _ _=>rfl
end κ
def cR (n lo aq:Int):Bool:=decide (lo≤n) && decide (n≤aq)
theorem kR {n lo aq:Int} (h:cR n lo aq=true):lo≤n∧n≤aq:=by simpa [cR] using h
theorem azE {n lo aq:Int} (h:cR n lo aq=false):n<lo∨aq<n:=by
  simp [cR] at h;omega
theorem o6 {n lo aq:Int} (γ:lo≤n) (aa:n≤aq):cR n lo aq=true:=by simp [cR,γ,aa]
theorem p4 {n lo aq:Int} (h:n<lo∨aq<n):cR n lo aq=false:=by
  cases Φ:cR n lo aq with
  | false=>rfl
  | true=>have:=kR Φ;omega
def gA {α:Type} (p:α→Bool) (l:List α):Int:=match l.findIdx? p with | some k=>(k:Int) | none=> -1
theorem F0 {α:Type} {p:α→Bool} {l:List α} {k:Nat} (aw:k<l.length) (γ:p l[k]=true) (aa:∀ j (aA:j<k),p (l[j]'(by omega))=false):gA p l=(k:Int):=by
  unfold gA;have:l.findIdx? p=some k:=by
    rw [aWP];exact ⟨aw,γ,fun j aA=>by rw [aa j aA];simp⟩
  rw [this]
theorem FZ {α:Type} {p:α→Bool} {l:List α} (aa:∀ j (aA:j<l.length),p l[j]=false):gA p l= -1:=by
  unfold gA;have:l.findIdx? p=none:=by
    rw [aXb];intro x hx;obtain ⟨j,aA,rfl⟩:=aVj.1 hx;exact aa j aA
  rw [this]
theorem MB {α:Type} (p:α→Bool) (l:List α):decide (0≤gA p l)=l.any p:=by
  by_cases h:∀ j (aA:j<l.length),p l[j]=false
  · rw [FZ h]
    have:l.any p=false:=by
      rw [aX6];intro x hx;obtain ⟨j,aA,rfl⟩:=aVj.1 hx;rw [h j aA];simp
    rw [this];rfl
  · have:l.any p=true:=by
      rw [aVE];simp only [Classical.not_forall] at h;obtain ⟨j,aA,h⟩:=h;exact ⟨l[j],aVv aA,by simpa using h⟩
    rw [this];unfold gA;cases hf:l.findIdx? p with
    | none =>
      rw [aXb] at hf;rw [aVE] at this;obtain ⟨x,hx,hp⟩:=this;rw [hf x hx] at hp;cases hp
    | some k=>simp
theorem Ya {α:Type} (p:α→Bool) (l:List α):gA p l= -1∧(∀ x∈l,p x=false)∨∃ (k:Nat) (h:k<l.length),gA p l=(k:Int)∧p l[k]=true∧∀ j (aA:j<k),p (l[j]'(by omega))=false:=by
  unfold gA;cases hf:l.findIdx? p with
  | none=>exact .inl ⟨rfl,fun x hx=>aXb.1 hf x hx⟩
  | some k =>
    obtain ⟨γ,aa,av⟩:=aWP.1 hf;exact .inr ⟨k,γ,Z,aa,fun j aA=>by have:=av j aA;simpa using this⟩
open Go.RowKit Go.Maps

def iT (w:World) (b:Nat) (es:Array MapEntry) (clock:Nat):World:=Go.ChangeMaps.setBlock w b (.map es clock)
theorem D5 {w:World} {b:Nat} {es:Array MapEntry} {clock:Nat} (h:b<w.heap.size):(iT w b es clock).heap[b]? =some (.map es clock):=by
  simp [iT,Go.ChangeMaps.setBlock,h]
theorem NR {w:World} {b g:Nat} {es:Array MapEntry} {clock:Nat} (h:g≠b):(iT w b es clock).heap[g]? =w.heap[g]? :=by
  simp [iT,Go.ChangeMaps.setBlock,aVM (aW4 h)]
theorem alH {w:World} {b:Nat} {es:Array MapEntry} {clock:Nat}:(iT w b es clock).heap.size=w.heap.size:=by
  simp [iT,Go.ChangeMaps.setBlock]
theorem aD7 {B:Nat} {a w:World} {b:Nat} {es:Array MapEntry} {clock:Nat} (h:Below B a w) (Φ:B≤b):Below B a (iT w b es clock):=
  h.trans ⟨rfl,rfl,rfl,by simp [alH],fun k aw=>NR (by omega)⟩
def dR {gD:Type} (key:gD→Value) (e:gD×Int×Nat):MapEntry:=⟨key e.1, .int .i64 e.2.1,e.2.2⟩
structure dO {gD:Type} (key:gD→Value) (w:World) (b:Nat) (l:List (gD×Int×Nat)) (clock:Nat):Prop where
  fB:w.heap[b]? =some (.map (l.map (dR key)).toArray clock)
  born:∀ e∈l,e.2.2<clock
  stamps:(l.map (·.2.2)).Nodup
structure Uv {gD:Type} (P:Program) (k:TypeId) (key:gD→Value) (wf:gD→Prop):Prop where
  keyed:Keyed P k
  lit:∀ x,wf x→∃ l,keyOf P k (key x)=some l
  inj:∀ x y,key x=key y→x=y
namespace dO
section
variable {gD:Type} {key:gD→Value} {w:World} {b:Nat} {l:List (gD×Int×Nat)} {clock:Nat}
theorem lt (h:dO key w b l clock):b<w.heap.size:=(aUT.1 h.fB).1
theorem keep {w':World} (h:dO key w b l clock) (aw:w'.heap[b]? =w.heap[b]?):dO key w' b l clock:=⟨aw.trans h.fB,h.born,h.stamps⟩
theorem later {w':World} (h:dO key w b l clock) (Φ:Below w.heap.size w w'):dO key w' b l clock:=h.keep (Φ.block b h.lt)
theorem made (w:World):dO key (w.alloc (.map #[] 0)) w.heap.size [] 0:=⟨aXd w _,(by simp),(by simp)⟩
theorem az3 {P:Program} {k:TypeId} {wf:gD→Prop} (K:Uv P k key wf) (hw:∀ e∈l,wf e.1):∀ y∈l.map (dR key),∃ z,keyOf P k y.key=some z:=by
  intro y aH;obtain ⟨a,ha,rfl⟩:=aUR.1 aH;exact K.lit a.1 (hw a ha)
end
variable {gD:Type} [DecidableEq gD] {key:gD→Value} {w:World} {b:Nat} {l:List (gD×Int×Nat)} {clock:Nat}
def get (l:List (gD×Int×Nat)) (x:gD):Option Int:=(l.find? fun e=>decide (e.1=x)).map (·.2.1)
def put (l:List (gD×Int×Nat)) (clock:Nat) (x:gD) (v:Int):List (gD×Int×Nat):=
  if l.any (fun e=>decide (e.1=x)) then l.map (fun e=>if e.1=x then (e.1,v,e.2.2) else e) else l++ [(x,v,clock)]
def tick (l:List (gD×Int×Nat)) (clock:Nat) (x:gD):Nat:=if l.any (fun e=>decide (e.1=x)) then clock else clock+1
theorem A9 (l:List (gD×Int×Nat)) (c:Nat) (x y:gD) (v:Int):get (put l c x v) y=if y=x then some v else get l y:=by
  unfold get put;by_cases h:l.any (fun e=>decide (e.1=x))=true
  · rw [aUz h]
    induction l with
    | nil=>simp at h
    | cons e r bI =>
      rw [aU4];by_cases hex:e.1=x
      · rw [aUz hex]
        by_cases aH:y=x
        · subst aH
          rw [aXt (by simp [hex])];simp
        · rw [aUr aH,aWg (by simp [hex,aW4 aH]),aWg (by simp [hex,aW4 aH])]
          by_cases hr:r.any (fun e=>decide (e.1=x))=true
          · have:=bI hr
            rw [aUr aH] at this;exact this
          · have e0:r.map (fun e=>if e.1=x then (e.1,v,e.2.2) else e)=r:=by
              conv=>rhs;rw [← List.map_id r]
              refine aY6 fun a ha=> ?_;rw [aUr];rfl;intro he;exact hr (aVE.2 ⟨a,ha,by simp [he]⟩)
            rw [e0]
      · rw [aUr hex]
        have hr:r.any (fun e=>decide (e.1=x))=true:=by simpa [hex] using h
        by_cases L6:e.1=y
        · have azl:¬ y=x:=fun h=>hex (L6.trans h)
          rw [aXt (by simp [L6]),aXt (by simp [L6]),aUr azl]
        · rw [aWg (by simp [L6]),aWg (by simp [L6])]
          exact bI hr
  · rw [aUr h,List.find?_append]
    by_cases aH:y=x
    · subst aH
      have:l.find? (fun e=>decide (e.1=y))=none:=by
        rw [aVH];intro e he hd;exact h (aVE.2 ⟨e,he,hd⟩)
      rw [this];simp
    · rw [aUr aH]
      cases l.find? (fun e=>decide (e.1=y))<;>simp [aW4 aH]
theorem YT {l:List (gD×Int×Nat)} {c:Nat} {x:gD} {v:Int} {wf:gD→Prop} (aB:∀ e∈l,wf e.1) (hx:wf x):∀ e∈put l c x v,wf e.1:=by
  intro e he;unfold put at he;split at he
  · obtain ⟨a,ha,rfl⟩:=aUR.1 he
    split
    · exact aB a ha
    · exact aB a ha
  · rcases aUy.1 he with he | he
    · exact aB e he
    · simp at he;subst he;exact hx
theorem hC {l:List (gD×Int×Nat)} (hn:(l.map (·.1)).Nodup) {j n:Nat} {x:gD} {v:Int} (aA:l[j]? =some (x,v,n)):get l x=some v:=by
  unfold get;induction l generalizing j with
  | nil=>simp at aA
  | cons e r bI =>
    rw [aU4,aWI] at hn;cases j with
    | zero=>simp at aA;subst aA;simp
    | succ j =>
      have aA:r[j]? =some (x,v,n):=by simpa using aA
      have:e.1≠x:=fun he=>hn.1 (aUR.2 ⟨(x,v,n),aUW aA,he.symm⟩);rw [aWg (by simpa using this)];exact bI hn.2 aA
theorem IM {l:List (gD×Int×Nat)} (hn:(l.map (·.1)).Nodup) (c:Nat) (x:gD) (v:Int):((put l c x v).map (·.1)).Nodup:=by
  unfold put;split
  · rw [aW5]
    have:((fun e:gD×Int×Nat=>e.1) ∘ fun e=>if e.1=x then (e.1,v,e.2.2) else e)=fun e=>e.1:=by
      funext e;simp only [Function.comp];split<;>rfl
    rw [this];exact hn
  · rename_i h
    rw [aUK,aU5];refine ⟨hn,by simp,fun a ha c hc e=> ?_⟩;simp at hc;obtain ⟨y,aH,rfl⟩:=aUR.1 ha;exact h (aVE.2 ⟨y,aH,by simp [e,hc]⟩)
variable {P:Program} {k e t:TypeId} {wf:gD→Prop} (K:Uv P k key wf)
include K
theorem found (h:dO key w b l clock) (hw:∀ e∈l,wf e.1) (x:gD) (hx:wf x):
    ((Instr.findKey k (key x) (l.map (dR key))).run P w= .ok none w∧get l x=none∧∀ a∈l,a.1≠x)∨
    ∃ (j:Nat) (v:Int) (n:Nat),(Instr.findKey k (key x) (l.map (dR key))).run P w= .ok (some (j, .int .i64 v)) w∧l[j]? =some (x,v,n):=by
  obtain ⟨fD,r8⟩:=K.lit x hx;rcases K.keyed.find w r8 (l.map (dR key)) (az3 K hw) with ⟨γ,aa⟩ | ⟨j,e0,γ,aa,av⟩
  · have kO:∀ a∈l,a.1≠x:=fun a ha Bc=>aa (dR key a) (aUR.2 ⟨a,ha,rfl⟩) (by simp [dR,Bc])
    refine .inl ⟨γ, ?_,kO⟩;unfold get;rw [aVH.2 fun a ha=>by simpa using kO a ha];rfl
  · rw [aUx] at aa
    cases aA:l[j]? with
    | none=>rw [aA] at aa;cases aa
    | some a =>
      rw [aA] at aa;obtain rfl:=aUh aa;obtain rfl:a.1=x:=K.inj _ _ av;exact .inr ⟨j,a.2.1,a.2.2,γ,aA⟩
theorem lookup (aF:P.underlying t=some (.map k e)) (bB:(zeroValue e).run P w= .ok (.int .i64 0) w) (h:dO key w b l clock) (hw:∀ e∈l,wf e.1) (hn:(l.map (·.1)).Nodup) (x:gD) (hx:wf x):
    (Instr.lookup t (.map (some b)) (key x) false).run P w= .ok (.int .i64 ((get l x).getD 0)) w∧
    (Instr.lookup t (.map (some b)) (key x) true).run P w= .ok (.tuple #[.int .i64 ((get l x).getD 0), .bool (get l x).isSome]) w:=by
  obtain ⟨fD,r8⟩:=K.lit x hx;rcases found K h hw x hx with ⟨γ,aa,_⟩ | ⟨j,v,n,γ,aa⟩
  · rw [aa]
    constructor<;>simp [Instr.lookup,aVw aF,aVe h.fB,K.keyed.check w _ r8,γ,bB,Result.andThen]
  · rw [hC hn aa]
    constructor<;>simp [Instr.lookup,aVw aF,aVe h.fB,K.keyed.check w _ r8,γ,Result.andThen]
theorem entry (aF:P.underlying t=some (.map k e)) (bB:∀ u:World,(zeroValue e).run P u= .ok (.int .i64 0) u) (h:dO key w b l clock) (hw:∀ e∈l,wf e.1) (hn:(l.map (·.1)).Nodup) (x:gD) (hx:wf x):
    ∃ (st:Nat) (eE:List (gD×Int×Nat)) (c1:Nat),(∀ n,(Instr.mapEntry t (.map (some b)) (key x)).run P (w.drewN n)= .ok (.tuple #[.int .i64 ((get l x).getD 0), .int .i64 (st:Int)]) ((iT w b (eE.map (dR key)).toArray c1).drewN n))∧
      dO key (iT w b (eE.map (dR key)).toArray c1) b eE c1∧(∀ e∈eE,wf e.1)∧(eE.map (·.1)).Nodup∧get eE x=some ((get l x).getD 0)∧
      ∀ v n,(Instr.entryStore t (.map (some b)) (.int .i64 (st:Int)) (.int .i64 v)).run P ((iT w b (eE.map (dR key)).toArray c1).drewN n)= .ok () ((iT w b ((put l clock x v).map (dR key)).toArray (tick l clock x)).drewN n)∧
        dO key (iT w b ((put l clock x v).map (dR key)).toArray (tick l clock x)) b (put l clock x v) (tick l clock x):=by
  obtain ⟨fD,r8⟩:=K.lit x hx;have Φ:=h.fB;have bE:=h.lt;have FJ:∀ n,(w.drewN n).heap[b]? =some (.map (l.map (dR key)).toArray clock):=fun n=>Φ;have idxOf:∀ (m:List (gD×Int×Nat)) (j:Nat) (a:gD×Int×Nat),(m.map (·.2.2)).Nodup→m[j]? =some a→((m.map (dR key)).toArray).findIdx? (fun y=>((y.born:Nat):Int)== ((a.2.2:Nat):Int))=some j:=by
    intro m j a hm aA;rw [aYG];refine aYA (l:=m.map (dR key)) (j:=j) (e0:=dR key a) ?_ (by rw [aUx,aA];rfl);rw [aW5];exact hm
  rcases found K h hw x hx with ⟨γ,aa,av⟩ | ⟨j,v0,n0,γ,aa⟩
  · have pV:l.any (fun e=>decide (e.1=x))=false:=by
      rw [aZn];intro ha;obtain ⟨a,ha,hd⟩:=aVE.1 ha;exact av a ha (by simpa using hd)
    have DA:∀ v,put l clock x v=l++ [(x,v,clock)]:=fun v=>by unfold put;rw [aUr (by rw [pV];decide)]
    have X4:tick l clock x=clock+1:=by unfold tick;rw [aUr (by rw [pV];decide)]
    have hh:∀ v,dO key (iT w b ((l++ [(x,v,clock)]).map (dR key)).toArray (clock+1)) b (l++ [(x,v,clock)]) (clock+1):=fun v=>by
      refine ⟨D5 bE,fun a ha=> ?_, ?_⟩
      · rcases aUy.1 ha with ha | ha
        · have:=h.born a ha;omega
        · simp at ha;subst ha;simp
      · rw [aUK,aU5]
        refine ⟨h.stamps,by simp,fun a ha c hc e=> ?_⟩;simp at hc;obtain ⟨y,aH,rfl⟩:=aUR.1 ha;have:=h.born y aH;omega
    have WH:∀ n,(Instr.findKey k (key x) (l.map (dR key))).run P (w.drewN n)= .ok none (w.drewN n):=fun n=>by
      rcases found (w:=w.drewN n) K ⟨FJ n,h.born,h.stamps⟩ hw x hx with ⟨γ,_,_⟩ | ⟨j,v,m,_,aA⟩
      · exact γ
      · exact absurd rfl (av _ (aUW aA))
    refine ⟨clock,l++ [(x,0,clock)],clock+1,fun n=> ?_,hh 0,fun a ha=> ?_, ?_, ?_,fun v n=> ?_⟩
    · rw [aa]
      have:(l.map (dR key)).toArray.push (⟨key x, .int .i64 0,clock⟩:MapEntry)=((l++ [(x,0,clock)]).map (dR key)).toArray:=by simp [dR]
      simp [Instr.mapEntry,aVw aF,aVe (FJ n),K.keyed.check (w.drewN n) false r8,WH n,bB,aVF _ (FJ n),Result.andThen,iT,Go.ChangeMaps.setBlock,goInt,dR];rfl
    · rcases aUy.1 ha with ha | ha
      · exact hw a ha
      · simp at ha;subst ha;exact hx
    · have:=IM hn clock x 0
      rw [DA] at this;exact this
    · have:=A9 l clock x x 0
      rw [DA,aUz rfl] at this;rw [this,aa];rfl
    · rw [DA,X4]
      refine ⟨?_,hh v⟩;have eD:=idxOf (l++ [(x,0,clock)]) l.length (x,0,clock) (hh 0).stamps (by simp);have uL:((l++ [(x,0,clock)]).map (dR key)).toArray.modify l.length (fun e=> {e with val:=Value.int .i64 v})=((l++ [(x,v,clock)]).map (dR key)).toArray:=by
        apply aVK;rw [aWC];have hlen:l.length=(l.map (dR key)).length:=by simp
        rw [hlen];simp only [aUK,aU4,aV8];rw [Go.WideElems.modify_last];rfl
      have cV:((iT w b ((l++ [(x,0,clock)]).map (dR key)).toArray (clock+1)).drewN n).heap[b]? =some (.map ((l++ [(x,0,clock)]).map (dR key)).toArray (clock+1)):=D5 bE;have lH:(Instr.entryStore t (.map (some b)) (goInt clock) (.int .i64 v)).run P ((iT w b ((l++ [(x,0,clock)]).map (dR key)).toArray (clock+1)).drewN n)= .ok () (iT ((iT w b ((l++ [(x,0,clock)]).map (dR key)).toArray (clock+1)).drewN n) b ((l++ [(x,v,clock)]).map (dR key)).toArray (clock+1)):=by
        rw [← uL];simp only [Instr.entryStore,aUv,aVe cV,aUo,asInt,asIntOf,goInt,aUA];rw [eD];exact aVF _ cV
      refine lH.trans ?_;simp [iT,Go.ChangeMaps.setBlock,World.drewN]
  · have pV:l.any (fun e=>decide (e.1=x))=true:=aVE.2 ⟨_,aUW aa,by simp⟩
    have DA:∀ v,put l clock x v=l.map (fun e=>if e.1=x then (e.1,v,e.2.2) else e):=fun v=>by unfold put;rw [aUz pV]
    have X4:tick l clock x=clock:=by unfold tick;rw [aUz pV]
    have ahl:=hC hn aa;have wh:∀ v,l.map (fun e=>if e.1=x then (e.1,v,e.2.2) else e)=l.set j (x,v,n0):=by
      intro v;refine aVJ fun i=> ?_;rw [aUx];by_cases jK:j=i
      · subst jK
        rw [aa,aUG (aUj.1 aa).1];simp
      · rw [aUJ jK]
        cases aq:l[i]? with
        | none=>rfl
        | some a =>
          have:a.1≠x:=by
            intro Bc;have FP:=(aUj.1 aq);have L9:=(aUj.1 aa);have a8:(l.map (·.1))[i]? =(l.map (·.1))[j]? :=by rw [aUx,aUx,aq,aa];simp [Bc]
            obtain ⟨qQ,_⟩:=FP;obtain ⟨o3,_⟩:=L9;have:=(aX5 (by simpa using qQ) hn).1 a8;exact jK this.symm
          simp [this]
    have WH:∀ n,(Instr.findKey k (key x) (l.map (dR key))).run P (w.drewN n)= .ok (some (j, .int .i64 v0)) (w.drewN n):=fun n=>by
      rcases found (w:=w.drewN n) K ⟨FJ n,h.born,h.stamps⟩ hw x hx with ⟨_,_,av⟩ | ⟨azR,v,m,Fx,aA⟩
      · exact absurd rfl (av (x,v0,n0) (aUW aa))
      · have a8:(l.map (·.1))[azR]? =(l.map (·.1))[j]? :=by rw [aUx,aUx,aA,aa];rfl
        have:=(aX5 (by simpa using (aUj.1 aA).1) hn).1 a8;subst this;rw [aa] at aA;injection aA with aA
        injection aA with _ aA
        injection aA with axz _
        rw [Fx,axz]
    have hh:∀ v,dO key (iT w b ((l.set j (x,v,n0)).map (dR key)).toArray clock) b (l.set j (x,v,n0)) clock:=fun v=>by
      refine ⟨D5 bE,fun a ha=> ?_, ?_⟩
      · rcases aV2 ha with ha | ha
        · exact h.born a ha
        · rw [ha];exact h.born (x,v0,n0) (aUW aa)
      · rw [aVD]
        have:(l.map (·.2.2)).set j n0=l.map (·.2.2):=by
          have axV:=(aUj.1 aa);obtain ⟨qQ,o3⟩:=axV;have e:(l.map (·.2.2))[j]'(by simpa using qQ)=n0:=by rw [aXl,o3]
          conv=>lhs;rw [← e]
          exact aV1 _
        rw [this];exact h.stamps
    refine ⟨n0,l,clock,fun n=> ?_,⟨D5 bE,h.born,h.stamps⟩,hw,hn,by rw [ahl];rfl,fun v n=> ?_⟩
    · rw [ahl]
      have aA:(l.map (dR key)).toArray[j]? =some (dR key (x,v0,n0)):=by simp [aa]
      have XY:(l.map (dR key)).toArray.modify j (fun e=> {e with key:=key x})=(l.map (dR key)).toArray:=by
        apply aVK;rw [aWC,aWn _ _ _ _ (by rw [aUx,aa];rfl)];exact aYV _ _ _ (by rw [aUx,aa];rfl)
      have XF:(dR key (x,v0,n0)).key=key x:=rfl;have Xg:(dR key (x,v0,n0)).born=n0:=rfl;simp only [Instr.mapEntry,aUv,aVw aF,aUo,aVe (FJ n),K.keyed.check (w.drewN n) false r8,WH n,aA,aVL,aVq,XF,K.keyed.stays (w.drewN n) r8,XY,aVF _ (FJ n),Xg,aUA];rfl
    · rw [DA,X4,wh]
      refine ⟨?_,hh v⟩;have eD:=idxOf l j (x,v0,n0) h.stamps aa;have uL:(l.map (dR key)).toArray.modify j (fun e=> {e with val:=Value.int .i64 v})=((l.set j (x,v,n0)).map (dR key)).toArray:=by
        apply aVK;rw [aWC,aWn _ _ _ _ (by rw [aUx,aa];rfl),aVD];rfl
      have cV:((iT w b (l.map (dR key)).toArray clock).drewN n).heap[b]? =some (.map (l.map (dR key)).toArray clock):=D5 bE;have lH:(Instr.entryStore t (.map (some b)) (goInt n0) (.int .i64 v)).run P ((iT w b (l.map (dR key)).toArray clock).drewN n)= .ok () (iT ((iT w b (l.map (dR key)).toArray clock).drewN n) b ((l.set j (x,v,n0)).map (dR key)).toArray clock):=by
        rw [← uL];simp only [Instr.entryStore,aUv,aVe cV,aUo,asInt,asIntOf,goInt,aUA];rw [eD];exact aVF _ cV
      refine lH.trans ?_;simp [iT,Go.ChangeMaps.setBlock,World.drewN]
end dO

theorem alv {P:Program} {w:World} {o:Oper} {a:Act} (f:FuncId) (fn:Func) (hf:P.funcs[f]? =some fn) (hn:(fn.name == "runtime.NumGoroutine")=false) (Φ:fn.body.isNone=false)
    (xs:Array Operand) (ts:Array TypeId) (wg:o.op=Op.call {callee:=Callee.value (Operand.func f),args:=xs,argTypes:=ts}) (args:Array Value) (Q':xs.map a.eval=args):
    (execOp a.eval o).run P w= .ok (.enter f args) w:=by
  unfold execOp;have he:a.eval (.func f)= .func (.func f) #[] #[]:=rfl;have hp:Sem.run P program w= .ok P w:=rfl;simp only [wg,resolve,invoke,Deferred.ofValue,he,callFunc,aUv,aUA,aUo,Q',hp,hf,hn,Φ,aW9,Array.append_empty,aUY,aVs]
theorem SV {P:Program} {ops:Array Oper} {o:Oper} {a:Act} {w:World} {K:Act→World→Prop} {Q:Exit→Act→World→Prop} {E:Prop}
    (aS:o.guard=none) (f:FuncId) (fn:Func) (hf:P.funcs[f]? =some fn) (hn:(fn.name == "runtime.NumGoroutine")=false) (Φ:fn.body.isNone=false)
    (xs:Array Operand) (ts:Array TypeId) (wg:o.op=Op.call {callee:=Callee.value (Operand.func f),args:=xs,argTypes:=ts}) (args:Array Value) (Q':xs.map a.eval=args)
    (hc:Calls P f args w fun e w'=>∃ v,e= .returned v∧K (a.put o.dst v) w'):
    if Region.wanted o (yielded ops a.tmps)=true then Oper.wp P o a w K Q else E:=by
  have hw:Region.wanted o (yielded ops a.tmps)=true:=by simp [Region.wanted,aS]
  rw [aUz hw];unfold Oper.wp;rw [alv f fn hf hn Φ xs ts wg args Q',Oper.upon_enter];refine hc.mono fun e lN fp=> ?_;obtain ⟨v,rfl,h⟩:=fp;exact h
theorem oa {wr aP w':World} (h:Below wr.heap.size wr aP) (aa:Below aP.heap.size aP w'):Below wr.heap.size wr w':=h.trans (aa.mono h.size)
theorem adr {wr aP w':World} (h:Below wr.heap.size wr aP) (aa:Below aP.drew.heap.size aP.drew w'):Below wr.heap.size wr w':=h.drew.trans (aa.mono h.size)
theorem TC {P:Program} {id:Nat} {Q:Exit→Act→World→Prop} {a:Act} {w:World} {l:List Oper} (hm:P.follows .mixedOrders=true) (ba:Region.lexB .any l.toArray=true)
    (h:wpQuiet P l.toArray (fun w'=>Below w.heap.size w w') (fun a'=>∀ w',Below w.heap.size w w'→Q .normal a' w') l a):(Code.region id l.toArray true).wp P Q a w :=
  wp_region_quiet (C:=fun w'=>Below w.heap.size w w') hm ba (below_drewN (aUN _ w) 1) (by simpa using h)
theorem aDu {P:Program} {o:Oper} {a:Act} {C:World→Prop} {w:World} {v:Value} (h:(execOp a.eval o).run P w= .ok (.value v) w):o.quietAt P a C w v:=by
  unfold Oper.quietAt;rw [h];exact ⟨Z,Z⟩
theorem aDt {P:Program} {o:Oper} {a:Act} {C:World→Prop} {w:World} {v:Value} {f:FuncId} {args:Array Value} (h:(execOp a.eval o).run P w= .ok (.enter f args) w) (hc:Calls P f args w fun e lN=>e= .returned v∧C lN):o.quietAt P a C w v:=by
  unfold Oper.quietAt;rw [h];exact ⟨Z,hc⟩
theorem Sz {P:Program} {o:Oper} {a:Act} {C:World→Prop} {w:World} {v:Value} {r:Result Next} (h:(execOp a.eval o).run P w=r) (hr:r= .ok (.value v) w):o.quietAt P a C w v:=aDu (h.trans hr)
theorem Sy {P:Program} {o:Oper} {a:Act} {C:World→Prop} {w:World} {v:Value} {f:FuncId} {args:Array Value} {r:Result Next} (h:(execOp a.eval o).run P w=r) (hr:r= .ok (.enter f args) w) (hc:Calls P f args w fun e lN=>e= .returned v∧C lN):o.quietAt P a C w v:=aDt (h.trans hr) hc
abbrev Ext (w w':World):Prop:=Below w.heap.size w w'
theorem Ext.bK (w:World):Ext w w:=aUN _ w
theorem Ext.qg {a b c:World} (h:Ext a b) (k:Ext b c):Ext a c:=Below.trans h (aYH k h.size)
section
variable {P:Program} {ops:Array Oper} {Q:Exit→Act→World→Prop} {a6:Nat→Nat}
def zG (P:Program) (w:World) (v:Value):Result Next→Prop
  | .ok (.value u) w'=>w'=w∧u=v
  | .ok .skip w'=>w'=w∧v=undef
  | .ok (.enter f args) w'=>w'=w∧Calls P f args w (fun e lN=>e= .returned v∧Ext w lN)
  | _=>False
def ui (P:Program) (ops:Array Oper) (w0:World) (o:Oper) (v:Value) (a:Act):Prop :=
  (Region.wanted o (yielded ops a.tmps)=true∧∀ w,Ext w0 w→zG P w v ((execOp a.eval o).run P w))∨
  (Region.wanted o (yielded ops a.tmps)=false∧v=undef)
theorem ui.of_same {w0:World} {o:Oper} {v:Value} {a a':Act} (h:ui P ops w0 o v a) (he:execOp a'.eval o=execOp a.eval o) (hw:Region.wanted o (yielded ops a'.tmps)=Region.wanted o (yielded ops a.tmps)):ui P ops w0 o v a':=by
  unfold ui at *;rw [he,hw];exact h
theorem ui.on {w0 aP:World} {o:Oper} {v:Value} {a:Act} (h:ui P ops w0 o v a) (hx:Ext w0 aP):ui P ops aP o v a :=
  h.imp (fun ⟨γ,aa⟩=>⟨γ,fun w hw=>aa w (hx.qg hw)⟩) id
theorem Yields.ald {w0:World} {o:Oper} {v:Value} {a:Act} (h:Yields P ops o v a):ui P ops w0 o v a :=
  h.imp (fun ⟨γ,aa⟩=>⟨γ,fun w _=>by rw [aa w];exact ⟨rfl,rfl⟩⟩) id
def aEC (P:Program) (ops:Array Oper) (Q:Exit→Act→World→Prop) (a6:Nat→Nat) (i:Nat) (K:Act→World→Prop) (a:Act) (w0:World):Prop :=
  ∃ o,ops[i]? =some o∧
    ((a6 i≤1∧∃ v,ui P ops w0 o v a∧K (a.put o.dst v) w0)∨
     (1<a6 i∧∀ w,Ext w0 w→wpOp P ops Q i (fun a' w'=>(a6 i=2→Ext w0 w')∧K a' w') a w))
def AN (P:Program) (ops:Array Oper) (Q:Exit→Act→World→Prop) (a6:Nat→Nat):Nat→Array Bool→Act→World→Prop
  | 0,l,a,w0=>Region.ready .any ops l= []∧∀ w,Ext w0 w→Q .normal a w
  | f+1,l,a,w0=>(Region.ready .any ops l= []→∀ w,Ext w0 w→Q .normal a w)∧∀ i∈Region.ready .any ops l,aEC P ops Q a6 i (AN P ops Q a6 f (l.setIfInBounds i true)) a w0
theorem AO:∀ (f:Nat) (l:Array Bool) (a:Act) (w0:World),AN P ops Q a6 f l a w0→∀ w,Ext w0 w→wpAny P .any ops Q f l a w
  | 0,_,_,_,h,w,hw=>⟨h.1,h.2 w hw⟩
  | f+1,l,a,w0,h,w,hw=>⟨fun aI=>h.1 aI w hw,fun i aq=>by
      obtain ⟨o,b5,aa⟩:=h.2 i aq;rcases aa with ⟨_,v,I,aw⟩ | ⟨_,aa⟩
      · unfold wpOp
        simp only [b5];rcases I with ⟨kQ,I⟩ | ⟨kQ,rfl⟩
        · rw [aUz kQ]
          refine .inl ?_;have I:=I w hw;unfold Oper.wp;generalize (execOp a.eval o).run P w=r at *
          cases r with
          | ok n w' =>
            cases n<;>simp only [zG] at I<;>simp only [Oper.upon]
            case value u=>obtain ⟨rfl,rfl⟩:=I;exact AO f _ _ _ aw _ hw
            case skip=>obtain ⟨rfl,rfl⟩:=I;exact AO f _ _ _ aw _ hw
            case enter f' args=>obtain ⟨rfl,hc⟩:=I;exact hc.mono fun e lN ⟨he,hx⟩=>by subst he;exact AO f _ _ _ aw _ (hw.qg hx)
          | halt x w'=>simp only [zG] at I
        · rw [aUr (by rw [kQ];decide)]
          exact AO f _ _ _ aw _ hw
      · exact aWE (fun a' w' av=>AO f _ _ _ av.2 _ (Ext.bK w')) (aa w hw)⟩
theorem aaw {ax:Act→Prop} {j:Nat} {dst:Option Tmp} {dm:Oper} {v:Value} (aA:ops[j]? =some dm) (γ:∀ d,dst=some d→d∉dm.looksAt ops) (aa:∀ d,dst=some d→dm.dst≠some d)
    (xT:∀ cs b,dm.op≠ .select cs b) (il:∀ c a w,¬ Q (.panic c) a w) (keep:∀ a u,ax a→ax (a.put dm.dst u)) (azX:∀ a d,ax a→ax {a with defers:=d::a.defers})
    {K:Act→World→Prop} {a:Act} {w:World} (aH:ax a) (h:wpOp P ops Q j K (a.put dst v) w):wpOp P ops Q j (fun a' w'=>ax a'∧K (a'.put dst v) w') a w:=by
  unfold wpOp at *
  simp only [aA] at *
  rw [aXc dm a dst v γ] at h;by_cases hw:Region.wanted dm (yielded ops a.tmps)=true
  · rw [aUz hw] at h ⊢
    rcases h with h | ⟨agK,axT⟩
    case inr=>exact .inr ⟨by unfold Oper.asks at *;rw [aW0 dm xT a dst v γ] at agK;exact agK,axT⟩
    refine .inl ?_;unfold Oper.wp at *
    rw [aW0 dm xT a dst v γ] at h;generalize (execOp a.eval dm).run P w=r at *
    cases r with
    | ok n w' =>
      cases n<;>simp only [Oper.upon] at h ⊢
      case value u=>exact ⟨keep a u aH,by rw [← aWi a v u aa];exact h⟩
      case skip=>exact ⟨keep a _ aH,by rw [← aWi a v undef aa];exact h⟩
      case defer d =>
        refine ⟨keep _ _ (azX a d aH), ?_⟩;rw [← aWi _ v undef aa,← Act.put_defers];exact h
      case enter f args =>
        refine aXH h fun e lN he=> ?_;cases e with
        | returned u=>exact ⟨keep a u aH,by rw [← aWi a v u aa];exact he⟩
        | panicked c=>exact (il _ _ _ he).elim
        | outgrown=>exact he
      case row row args=>exact Rows.mono h fun u lN he=>⟨keep a u aH,by rw [← aWi a v u aa];exact he⟩
    | halt x w' =>
      cases x<;>simp only [Oper.upon] at h ⊢
      case panic u=>exact (il _ _ _ h).elim
  · rw [aUr hw] at h ⊢
    exact ⟨keep a _ aH,by rw [← aWi a v undef aa];exact h⟩
theorem QI {i:Nat} {dL:Oper} {v:Value} (aq:ops[i]? =some dL) (aw:a6 i≤1) (nH:∀ (j:Nat) (o:Oper) cs b,ops[j]? =some o→o.op≠ .select cs b)
    (il:∀ c a w,¬ Q (.panic c) a w) (ax:World→Act→Prop) (lQ:∀ w0 a,ax w0 a→ui P ops w0 dL v a)
    (z2:∀ w0 a a',ax w0 a→execOp a'.eval dL=execOp a.eval dL→Region.wanted dL (yielded ops a'.tmps)=Region.wanted dL (yielded ops a.tmps)→ax w0 a')
    (z3:∀ w0 aP a,Ext w0 aP→ax w0 a→ax aP a) (R:Nat→Bool) (xX:Array Bool)
    (hR:∀ j dm,ops[j]? =some dm→j≠i→(∀ e∈dm.after,Region.binds .any e=true→R e.on=true)→R j=true)
    (ba:(∀ w0 aP a,ax w0 a→ax aP a)∨∀ j,R j=true→3≤a6 j→xX.getD j true=true):
    ∀ (f:Nat) (l:Array Bool) (a:Act) (w0:World),(∀ j,l.getD j false=true→R j=true)→(∀ j,xX.getD j true=true→l.getD j true=true)→
      (∀ j dm,ops[j]? =some dm→j≠i→l.getD j true=false→(∀ e∈dm.after,Region.binds .any e=true→e.on≠i)→dL.apart ops dm=true)→
      i∈Region.ready .any ops l→ax w0 a→AN P ops Q a6 f (l.setIfInBounds i true) (a.put dL.dst v) w0→AN P ops Q a6 (f+1) l a w0:=by
  intro f;induction f with
  | zero =>
    intro l a w0 _ _ _ hr bB H;refine ⟨fun h=>(by rw [h] at hr;cases hr),fun j aA=> ?_⟩;by_cases hY:j=i
    · subst hY;exact ⟨dL,aq, .inl ⟨aw,v,lQ _ _ bB,H⟩⟩
    · have:=aWQ aA hY
      rw [H.1] at this;cases this
  | succ f bI =>
    intro l a w0 Dq Dn Dj hr bB H;refine ⟨fun h=>(by rw [h] at hr;cases hr),fun j aA=> ?_⟩;by_cases hY:j=i
    · subst hY;exact ⟨dL,aq, .inl ⟨aw,v,lQ _ _ bB,H⟩⟩
    · obtain ⟨dm,kP,γ⟩:=H.2 j (aWQ aA hY)
      obtain ⟨xO,gP,Dz,dB⟩:=aXu.1 aA;obtain rfl:gP=dm:=by rw [kP] at Dz;exact (aUh Dz).symm
      have Mi:∀ e∈gP.after,Region.binds .any e=true→e.on≠i:=fun e he Φ heq=>by
        have γ:=dB e he Φ;have aI:=(aXu.1 hr).1;rw [heq] at γ;rcases aVf i l.size with dk | dk
        · simp [dk] at aI γ;rw [aI] at γ;cases γ
        · simp [aVi dk] at γ
      have LW:=Dj j gP kP hY xO Mi;obtain ⟨cy,a2,a3⟩:=aYz LW;have Mv:∀ cs b,dL.op≠ .select cs b:=fun cs b=>nH i dL cs b aq;have xT:∀ cs b,gP.op≠ .select cs b:=fun cs b=>nH j gP cs b kP;have keep:∀ aP a u,ax aP a→ax aP (a.put gP.dst u):=fun aP a u bB=>z2 _ _ _ bB (aW0 dL Mv a gP.dst u a3) (aXc dL a gP.dst u a3);have Da:R j=true:=hR j gP kP hY fun e he Φ=>Dq _ (dB e he Φ);have Dr:∀ k,(l.setIfInBounds j true).getD k false=true→R k=true:=fun k aw=>by
        by_cases hg:j=k
        · rw [← hg];exact Da
        · rw [aWy false hg] at aw;exact Dq k aw
      have Dp:∀ k,xX.getD k true=true→(l.setIfInBounds j true).getD k true=true:=fun k aw=>by
        by_cases hg:j=k
        · subst hg
          rcases aVf j l.size with dk | dk
          · simp [dk]
          · simp [aVi dk]
        · rw [aWy true hg];exact Dn k aw
      have Dk:∀ k ok,ops[k]? =some ok→k≠i→(l.setIfInBounds j true).getD k true=false→
          (∀ e∈ok.after,Region.binds .any e=true→e.on≠i)→dL.apart ops ok=true:=fun k ok aw p1 DC kO=>by
        refine Dj k ok aw p1 ?_ kO;by_cases hg:j=k
        · subst hg;exact xO
        · rw [aWy true hg] at DC;exact DC
      have DB:=aWQ hr (aW4 hY);rcases γ with ⟨xP,u,I,hK⟩ | ⟨xP,γ⟩
      · refine ⟨gP,kP, .inl ⟨xP,u,I.of_same (aW0 gP xT a dL.dst v cy).symm (aXc gP a dL.dst v cy).symm, ?_⟩⟩
        refine bI _ _ _ Dr Dp Dk DB (keep _ _ _ bB) ?_;rw [aVQ _ _ hY,← aWi a v u a2];exact hK
      · refine ⟨gP,kP, .inr ⟨xP,fun w hw=> ?_⟩⟩
        refine aWE (fun a' w' av=>⟨av.2.1, ?_⟩) (aaw (ax:=ax w0) kP cy a2 xT il (keep w0) (fun a d bB=>z2 _ _ _ bB Z Z) bB (γ w hw));have Mz:ax w' a':=by
          rcases aVf (a6 j) 3 with bE | uJ
          · exact z3 _ _ _ (av.2.1 (by omega)) av.1
          · rcases ba with ba | ba
            · exact ba _ _ _ av.1
            · have:=Dn j (ba j Da uJ);rw [xO] at this;cases this
        refine bI _ _ _ Dr Dp Dk DB Mz ?_;rw [aVQ _ _ hY];exact av.2.2
def u_ (P:Program) (ops:Array Oper) (Q:Exit→Act→World→Prop) (a6:Nat→Nat):List Nat→Act→World→Prop
  | [],a,w0=>∀ w,Ext w0 w→Q .normal a w
  | i::r,a,w0=>∃ o,ops[i]? =some o∧
      ((a6 i=0∧∃ v,ui P ops w0 o v a∧u_ P ops Q a6 r (a.put o.dst v) w0)∨
       (a6 i=1∧∃ v,Yields P ops o v a∧u_ P ops Q a6 r (a.put o.dst v) w0)∨
       (1<a6 i∧∀ w,Ext w0 w→wpOp P ops Q i (fun a' w'=>(a6 i=2→Ext w0 w')∧u_ P ops Q a6 r a' w') a w))
def ZI (ops:Array Oper) (i:Nat):Array Bool :=
  ops.foldl (init:=#[]) fun acc o=>acc.push (acc.size != i && o.after.all fun e=> !Region.binds .any e || acc.getD e.on false)
def PR (ops:Array Oper) (a6:Nat→Nat) (l:Array Bool) (i:Nat):Bool :=
  (List.range ops.size).all (fun j=>l.getD j true || Nat.blt (a6 j) 3) ||
  (let R:=ZI ops i
   (List.range ops.size).all fun j=>(j == i || R.getD j false || !((ops[j]?).map (·.after.all fun e=> !Region.binds .any e || R.getD e.on false)).getD false) && (!l.getD j false || R.getD j false) && (!R.getD j false || Nat.blt (a6 j) 3 || l.getD j true))
def kl (ops:Array Oper) (a6:Nat→Nat):List Nat→Array Bool→Bool
  | [],l=>(Region.ready .any ops l).isEmpty
  | i::r,l=>(match a6 i with
      | 0=>Region.free .any ops l i && (Region.ready .any ops l).contains i && PR ops a6 l i
      | 1=>Region.free .any ops l i && (Region.ready .any ops l).contains i
      | _=>Region.ready .any ops l == [i]) && kl ops a6 r (l.setIfInBounds i true)
theorem PS {l:Array Bool} {i:Nat} (aB:l.size=ops.size) (h:PR ops a6 l i=true):∃ R:Nat→Bool,
    (∀ j dm,ops[j]? =some dm→j≠i→(∀ e∈dm.after,Region.binds .any e=true→R e.on=true)→R j=true)∧
    (∀ j,l.getD j false=true→R j=true)∧(∀ j,R j=true→3≤a6 j→l.getD j true=true):=by
  unfold PR at h;have out:∀ j,¬ j<ops.size→l.getD j true=true:=fun j aA=>by simp [aVi (by omega:l.size≤j)]
  rw [aU9] at h;rcases h with h | h
  · refine ⟨fun _=>true,fun _ _ _ _ _=>rfl,fun _ _=>rfl,fun j _ av=> ?_⟩
    by_cases aA:j<ops.size
    · have:=aU7.1 h j (aU0.2 aA)
      rw [aU9] at this;rcases this with h | h
      · exact h
      · rw [aW8] at h;omega
    · exact out j aA
  · refine ⟨fun j=>(ZI ops i).getD j false,fun j dm kP hY hd=> ?_,fun j aA=> ?_,fun j aA av=> ?_⟩
    · have bE:=(aUT.1 kP).1
      have:=aU7.1 h j (aU0.2 bE);simp only [kP,aVL,aVq,aUp,aU9,aVh,hY,false_or,aVn] at this;rcases this.1.1 with h | h
      · exact h
      · have dB:dm.after.all (fun e=> !Region.binds .any e || (ZI ops i).getD e.on false)=true:=by
          rw [Array.all_eq_true_iff_forall_mem];intro e he;cases Φ:Region.binds .any e
          · rfl
          · have:=hd e he Φ;simp only at this;simp [this]
        rw [dB] at h;cases h
    · have bE:j<ops.size:=by
        rcases aVf j l.size with dk | dk
        · omega
        · simp [aVi dk] at aA
      have:=aU7.1 h j (aU0.2 bE);simp only [aUp,aU9,aVn] at this;rcases this.1.2 with h | h
      · rw [h] at aA;cases aA
      · exact h
    · by_cases bE:j<ops.size
      · have:=aU7.1 h j (aU0.2 bE)
        simp only [aUp,aU9,aVn] at this;rcases this.2 with (h | h) | h
        · simp only at aA;rw [h] at aA;cases aA
        · (rw [aW8] at h;omega)
        · exact h
      · exact out j bE
theorem CN (hs:Region.noSelect ops=true) (il:∀ c a w,¬ Q (.panic c) a w):∀ (r:List Nat) (l:Array Bool) (a:Act) (w0:World),l.size=ops.size→kl ops a6 r l=true→u_ P ops Q a6 r a w0→AN P ops Q a6 r.length l a w0
  | [],l,a,w0,_,ba,h=>⟨by simpa [kl] using ba,h⟩
  | i::r,l,a,w0,aB,ba,h=>by
    obtain ⟨o,b5,h⟩:=h;have nH:=aW2 hs;rcases h with ⟨aw,v,I,hK⟩ | ⟨aw,v,I,hK⟩ | ⟨aw,h⟩
    · simp only [kl,aw,aUp] at ba
      obtain ⟨⟨⟨hf,hr⟩,Φ⟩,ba⟩:=ba;obtain ⟨R,r1,r2,yf⟩:=PS aB Φ;exact QI b5 (by omega) nH il (fun w0 a=>ui P ops w0 o v a) (fun _ _ h=>h) (fun _ _ _ h he hw=>h.of_same he hw) (fun _ _ _ hx h=>h.on hx) R l r1 (.inr yf) _ _ _ _ r2 (fun _ h=>h) (aV0 b5 hf) (by simpa using hr) I
        (CN hs il r _ _ _ (by simpa using aB) ba hK)
    · simp only [kl,aw,aUp] at ba
      obtain ⟨⟨hf,hr⟩,ba⟩:=ba;exact QI b5 (by omega) nH il (fun _ a=>Yields P ops o v a) (fun _ _ h=>Yields.ald h) (fun _ _ _ h he hw=>h.of_same he hw) (fun _ _ _ _ h=>h) (fun _=>true) l (fun _ _ _ _ _=>Z) (.inl fun _ _ _ h=>h) _ _ _ _ (fun _ _=>Z) (fun _ h=>h) (aV0 b5 hf) (by simpa using hr) I
        (CN hs il r _ _ _ (by simpa using aB) ba hK)
    · obtain ⟨k,gv⟩:∃ k,a6 i=k+2:=⟨a6 i - 2,by omega⟩
      simp only [kl,gv,aUp,aVh] at ba;obtain ⟨hr,ba⟩:=ba;refine ⟨fun aI=>(by rw [hr] at aI;cases aI),fun j aA=> ?_⟩;rw [hr] at aA;obtain rfl:j=i:=by simpa using aA
      exact ⟨o,b5, .inr ⟨aw,fun w hw=>aWE (fun a' w' av=>⟨av.1,CN hs il r _ _ _ (by simpa using aB) ba av.2⟩) (h w hw)⟩⟩
def gO (K:Act→World→Prop):Exit→Act→World→Prop
  | .normal,a,w=>K a w
  | _,_,_=>False
theorem aDz {id:Nat} {a:Act} {w:World} (bZ:List Nat) (hm:P.follows .mixedOrders=true) (ba:(Region.noSelect ops && (bZ.length == ops.size) && kl ops a6 bZ (Array.replicate ops.size false))=true)
    (h:u_ P ops (gO (Q .normal)) a6 bZ a w):(Code.region id ops true).wp P Q a w:=by
  simp only [aUp,aVh] at ba;obtain ⟨⟨hs,aB⟩,ba⟩:=ba;refine aY2 (aXm hm (Q:=gO (Q .normal)) ?_) (fun e a w I=>by cases e<;>first | exact I | exact I.elim);have:=CN (P:=P) hs (Q:=gO (Q .normal)) (fun _ _ _ h=>h) bZ (Array.replicate ops.size false) a w (by simp) ba h;rw [aB] at this;exact AO _ _ _ _ this _ (aUN _ w).drew
end
end Go.Proofs.YtlikikpgmmkjbaaGreat
