import Derived.Lib.Hide
import Derived.WalkSpells
import Derived.WalkLawsBesides
import Derived.BigQuiet
import Derived.Deep.RegionHeld3
import Derived.Laws.CopyOwn
import Derived.Lib.Strings
import Derived.Deep.AppendLies
import Derived.Shelf.SlicesE.Clone
import Derived.Deep.Fields
import Derived.WideKeyEntry
import Derived.Handy
set_option linter.unusedVariables false
set_option linter.unusedSimpArgs false
set_option maxRecDepth 100000
set_option maxHeartbeats 4000000
open Go.RowKit
namespace Go.Proofs.YtlikikpgmmkjbaaGreat
theorem Z.{u} {α:Sort u} {a:α}:a=a:=Eq.refl a
abbrev aRR:=@Option.some.inj
abbrev aRS:=@List.getElem?_eq_some_iff
abbrev aRT:=@List.getElem?_eq_getElem
abbrev aRU:=@List.length_take
abbrev aRW:=@List.length_cons
abbrev aRX:=@List.length_append
abbrev aRY:=@Bool.and_eq_true
abbrev aRZ:=@Go.Result.andThen_ok
abbrev aR0:=@if_neg
abbrev aR1:=@List.length_set
abbrev aR3:=@Nat.le_refl
abbrev aR5:=@if_pos
abbrev aR6:=@List.mem_append
abbrev aR7:=@List.mem_cons_of_mem
abbrev aR8:=@Go.Sem.run_bind
abbrev aR9:=@Go.Sem.run_pure
abbrev aSa:=@List.getElem?_map
abbrev aSb:=@List.length_drop
abbrev aSc:=@List.mem_cons
abbrev aSd:=@List.getElem?_append_left
abbrev aSf:=@List.getElem?_append_right
abbrev aSg:=@List.getElem?_set_self
abbrev aSh:=@List.take_of_length_le
abbrev aSi:=@List.map_append
abbrev aSl:=@List.getElem?_set_ne
abbrev aSm:=@Go.RowKit.Below.refl
abbrev aSn:=@Nat.le_trans
abbrev aSp:=@List.length_map
abbrev aSq:=@List.eq_nil_of_length_eq_zero
abbrev aSs:=@Array.getElem?_eq_some_iff
abbrev aSu:=@List.append_nil
abbrev aSv:=@List.mem_of_getElem?
abbrev aSw:=@List.append_assoc
abbrev aSy:=@List.getElem?_take
abbrev aSz:=@List.mem_map
abbrev aSB:=@List.mem_range
abbrev aSE:=@Nat.mul_le_mul_right
abbrev aSF:=@Bool.or_eq_true
abbrev aSG:=@Nat.zero_le
abbrev aSH:=@List.map_cons
abbrev aSI:=@List.nodup_append
abbrev aSK:=@Bool.false_eq_true
abbrev aSL:=@List.all_eq_true
abbrev aSN:=@List.flatten_cons
abbrev aSO:=@Go.MapKept.run_getObj_map
abbrev aSP:=@List.mem_iff_getElem
abbrev aSQ:=@beq_iff_eq
abbrev aSR:=@Array.getElem?_eq_none
abbrev aSS:=@BitVec.ofInt_natCast
abbrev aSU:=@Nat.lt_or_ge
abbrev aSV:=@List.getElem?_drop
abbrev aSW:=@Array.getElem?_toList
abbrev aSX:=@Option.getD_some
abbrev aSZ:=@List.mem_flatten
abbrev aS0:=@List.getElem_mem
abbrev aS1:=@Go.run_underlying
abbrev aS3:=@of_decide_eq_true
abbrev aS5:=@Nat.zero_add
abbrev aS6:=@Nat.mul_comm
abbrev aS7:=@List.map_set
abbrev aS8:=@Bool.not_eq_true'
abbrev aS9:=@Nat.mod_eq_of_lt
abbrev aTa:=@List.any_eq_true
abbrev aTb:=@Go.MapKept.run_setObj_map
abbrev aTd:=@List.getElem?_eq_none
abbrev aTe:=@List.find?_eq_none
abbrev aTf:=@if_false
abbrev aTl:=@Array.ext'
abbrev aTm:=@Array.setIfInBounds_comm
abbrev aTn:=@List.size_toArray
abbrev aTq:=@List.ext_getElem?
abbrev aTr:=@Option.map_some
abbrev aTv:=@Nat.add_mul
abbrev aTx:=@BitVec.toNat_ofNat
abbrev aTy:=@Go.Region.free_spec
abbrev aTz:=@List.set_getElem_self
abbrev aTA:=@List.mem_or_eq_of_mem_set
abbrev aTD:=@if_true
abbrev aTF:=@List.map_nil
abbrev aTH:=@Array.getElem?_setIfInBounds_ne
abbrev aTJ:=@Int.eq_ofNat_of_zero_le
abbrev aTK:=@Go.ByteArray.toList_eq
abbrev aTL:=@Go.World.block_lt_of_cell?
abbrev aTO:=@List.find?_cons_of_neg
abbrev aTP:=@Int.natCast_nonneg
abbrev aTR:=@Go.Act.put_comm
abbrev aTT:=@List.take_append_drop
abbrev aTU:=@Go.ChangeMaps.modify_eq_set
abbrev aTY:=@Nat.mod_lt
abbrev aT1:=@Go.getD_set_ne
abbrev aT4:=@List.flatten_append
abbrev aT5:=@Array.toList_modify
abbrev aT6:=@Array.length_toList
abbrev aT7:=@Go.wpOp_mono
abbrev aT8:=@List.getElem_append_left
abbrev aUa:=@List.nil_append
abbrev aUg:=@BitVec.setWidth_eq
abbrev aUh:=@BitVec.ofNat_toNat
abbrev aUi:=@List.findIdx?_eq_some_iff_getElem
abbrev aUj:=@Go.ready_mono
abbrev aUt:=@Go.execOp_put
abbrev aUu:=@Nat.mul_add_mod
abbrev aUv:=@Go.Region.noSelect_spec
abbrev aUx:=@Ne.symm
abbrev aUy:=@List.map_map
abbrev aUA:=@Nat.eq_zero_or_pos
abbrev aUB:=@Array.empty_append
abbrev aUD:=@List.findIdx?_eq_none_iff
abbrev aUE:=@Go.wanted_put
abbrev aUF:=@Go.heap_alloc_new
abbrev aUH:=@Option.some.injEq
abbrev aUO:=@List.getElem_map
abbrev aUU:=@List.find?_cons_of_pos
abbrev aUW:=@List.nodup_cons
abbrev aU2:=@Nat.div_lt_iff_lt_mul
abbrev aU3:=@List.set_append_right
abbrev aU4:=@List.mem_append_right
abbrev aU8:=@Array.getElem?_modify
abbrev aVa:=@List.take_left
abbrev aVc:=@List.mem_append_left
abbrev aVe:=@Int.emod_emod_of_dvd
abbrev aVg:=@Array.getElem?_range
abbrev aVi:=@List.getElem?_range
abbrev aVj:=@Array.toList_append
abbrev aVm:=@Go.mem_ready
abbrev aVp:=@Nat.blt_eq
abbrev aVs:=@BitVec.toInt_ofInt
abbrev aVt:=@Array.getElem?_map
abbrev aVw:=@Go.wp_region_any
abbrev aVA:=@List.getElem?_inj
abbrev aVB:=@List.any_eq_false
abbrev aVH:=@Array.size_append
abbrev aVI:=@Go.heap_setCell_other
abbrev aVJ:=@Go.Calls.mono
abbrev aVL:=@List.take_append
abbrev aVN:=@List.map_toArray
abbrev aVS:=@Nat.div_add_mod
abbrev aVY:=@List.nodup_nil
abbrev aVZ:=@List.drop_drop
abbrev aV6:=@Go.Oper.apart_spec
abbrev aV7:=@Go.WideElems.findIdx_born
abbrev aWc:=@Go.WideElems.findIdx_arr
abbrev aWd:=@Go.RowKit.Below.mono
abbrev aWe:=@List.flatten_eq_nil_iff
abbrev aWh:=@Nat.zero_mul
abbrev aWm:=@Int.dvd_refl
abbrev aWo:=@Go.WideElems.set_self
abbrev aWp:=@BitVec.eq_of_toNat_eq
abbrev aWv:=@List.take_succ_cons
abbrev aWx:=@List.map_congr_left
abbrev aWB:=@Nat.lt_of_le_of_lt
abbrev aWL:=@List.length_range
abbrev aWN:=@Bool.eq_false_iff
end Go.Proofs.YtlikikpgmmkjbaaGreat
namespace Go.Proofs.YtlikikpgmmkjbaaGreat.fy
def U {n:Nat} (b:BitVec n):Int:=(b.toNat:Int)

theorem TN {n:Nat} (b:BitVec n):0≤U b:=aTP _
theorem ao0 (b:BitVec 32):U b<4294967296:=by have:=b.isLt;unfold U;omega
theorem ao1 (b:BitVec 64):U b<18446744073709551616:=by have:=b.isLt;unfold U;omega
theorem aoZ (b:BitVec 32):U b≤4294967295:=by have:=b.isLt;unfold U;omega
theorem vW {n:Nat} (b:BitVec n):BitVec.ofInt n (U b)=b:=by
  unfold U;rw [aSS,aUh,aUg]
theorem ao2 (x:Int) (aG:0≤x) (κ:x<4294967296):U (BitVec.ofInt 32 x)=x:=by
  obtain ⟨m,rfl⟩:=aTJ aG;unfold U;rw [aSS,aTx];omega
theorem ao3 (x:Int) (aG:0≤x) (κ:x<18446744073709551616):U (BitVec.ofInt 64 x)=x:=by
  obtain ⟨m,rfl⟩:=aTJ aG;unfold U;rw [aSS,aTx];omega
theorem PH {x:Int} {b:BitVec 32} (aG:0≤x) (κ:x<4294967296) (h:BitVec.ofInt 32 x=b):x=U b:=by
  rw [← h,ao2 x aG κ]
theorem PI {x:Int} {b:BitVec 64} (aG:0≤x) (κ:x<18446744073709551616) (h:BitVec.ofInt 64 x=b):x=U b:=by
  rw [← h,ao3 x aG κ]
theorem OS (k:IntKind) (op:BinOp) (a b:Int) (hs:k.signed=false):0≤bits op k a b∧bits op k a b<2 ^ k.bits:=by
  have hp:(0:Int)<2 ^ k.bits:=Int.pow_pos (by decide);have key:∀ n:Int,0≤k.wrap n∧k.wrap n<2 ^ k.bits:=by
    intro n;simp only [IntKind.wrap,hs,Bool.false_and,aSK,aTf];exact ⟨Int.emod_nonneg _ (by omega),Int.emod_lt_of_pos _ hp⟩
  unfold bits;exact key _
theorem OQ (op:BinOp) (a b:Int):0≤bits op .u32 a b:=(OS .u32 op a b rfl).1
theorem OP (op:BinOp) (a b:Int):bits op .u32 a b<4294967296:=(OS .u32 op a b rfl).2
theorem Ua (op:BinOp) (a b:Int):0≤bits op .u64 a b:=(OS .u64 op a b rfl).1
theorem T' (op:BinOp) (a b:Int):bits op .u64 a b<18446744073709551616:=(OS .u64 op a b rfl).2
theorem Mz (k:IntKind) (n:Int):BitVec.ofInt k.bits (k.wrap n)=BitVec.ofInt k.bits n:=by
  apply BitVec.eq_of_toInt_eq;simp only [aVs];have h:(k.wrap n) % (2 ^ k.bits:Int)=n % (2 ^ k.bits:Int):=by
    unfold IntKind.wrap;dsimp only;split
    · rw [Int.sub_emod,Int.emod_self,Int.sub_zero,aVe _ (aWm _),aVe _ (aWm _)]
    · rw [aVe _ (aWm _)]
  have e:((2 ^ k.bits:Nat):Int)=(2:Int) ^ k.bits:=by simp
  simp only [Int.bmod,e,h]

theorem aAB (n:Int):BitVec.ofInt 32 (n % 4294967296)=BitVec.ofInt 32 n:=by
  have:=Mz .u32 n;rw [IntKind.wrap_u32] at this;exact this
theorem aAF (n:Int):BitVec.ofInt 64 (IntKind.u64.wrap n)=BitVec.ofInt 64 n:=Mz .u64 n
theorem Yl (k:IntKind) (a b:Int):BitVec.ofInt k.bits (bits .xor k a b)=BitVec.ofInt k.bits a ^^^ BitVec.ofInt k.bits b:=by
  unfold bits;rw [Mz,aSS];dsimp only;rw [aUh,aUg]
theorem aAy (k:IntKind) (a b:Int):BitVec.ofInt k.bits (bits .and k a b)=BitVec.ofInt k.bits a &&& BitVec.ofInt k.bits b:=by
  unfold bits;rw [Mz,aSS];dsimp only;rw [aUh,aUg]
theorem aAz (k:IntKind) (a b:Int):BitVec.ofInt k.bits (bits .andNot k a b)=BitVec.ofInt k.bits a &&& ~~~(BitVec.ofInt k.bits b):=by
  unfold bits;rw [Mz,aSS];dsimp only;rw [aUh,aUg]

theorem Ym (a b:Int):BitVec.ofInt 32 (bits .xor .u32 a b)=BitVec.ofInt 32 a ^^^ BitVec.ofInt 32 b:=Yl .u32 a b
theorem ajQ (a b:Int):BitVec.ofInt 32 (bits .and .u32 a b)=BitVec.ofInt 32 a &&& BitVec.ofInt 32 b:=aAy .u32 a b
theorem aAA (a b:Int):BitVec.ofInt 32 (bits .andNot .u32 a b)=BitVec.ofInt 32 a &&& ~~~(BitVec.ofInt 32 b):=aAz .u32 a b
theorem Yn (a b:Int):BitVec.ofInt 64 (bits .xor .u64 a b)=BitVec.ofInt 64 a ^^^ BitVec.ofInt 64 b:=Yl .u64 a b
theorem ajV (a b:Int):BitVec.ofInt 64 (bits .xor .i64 a b)=BitVec.ofInt 64 a ^^^ BitVec.ofInt 64 b:=Yl .i64 a b
theorem ajU {n:Nat} (x:Int) (s:Nat) (aG:0≤x) (κ:x<2 ^ n):BitVec.ofInt n (x / 2 ^ s)=BitVec.ofInt n x >>> s:=by
  obtain ⟨m,rfl⟩:=aTJ aG;have EM:m<2 ^ n:=by exact_mod_cast κ
  have e:((m:Int) / 2 ^ s)=((m / 2 ^ s:Nat):Int):=by rw [Int.natCast_ediv];simp
  rw [e,aSS,aSS];apply aWp;rw [BitVec.toNat_ushiftRight,aTx,aTx,aS9 EM,Nat.shiftRight_eq_div_pow];exact aS9 (aWB (Nat.div_le_self _ _) EM)

theorem aAx {n:Nat} (a b:Int):BitVec.ofInt n (a+b)=BitVec.ofInt n a+BitVec.ofInt n b:=BitVec.ofInt_add ..
theorem ajS {n:Nat} (a b:Int):BitVec.ofInt n (a * b)=BitVec.ofInt n a * BitVec.ofInt n b:=BitVec.ofInt_mul ..
theorem aAE {n:Nat} (a:Int):BitVec.ofInt n (-a)= -BitVec.ofInt n a:=BitVec.ofInt_neg ..
theorem aAD {n:Nat} (a:Nat):BitVec.ofInt n (a:Int)=BitVec.ofNat n a:=aSS ..

end Go.Proofs.YtlikikpgmmkjbaaGreat.fy
namespace Go.Proofs.YtlikikpgmmkjbaaGreat
def aHB (k:IntKind) (w:World) (a:Option Addr) (len cap:Nat) (zs:List Int):Prop :=
  (a=none∧len=0∧cap=0∧zs= [])∨
  ∃ x,a=some x∧len≤cap∧cap≤maxLen∧zs.length=cap∧(∀ i,i<zs.length→w.cell? (x.add i)=some (.int k (zs.getD i 0)))∧∀ n∈zs,(Lit.int k n).wf=true
theorem ack (b j:Nat):(⟨b,0,none⟩:Addr).add j=⟨b,j,none⟩:=by
  unfold Addr.add;split<;>simp_all
theorem Ue {a b:ByteArray} (h:a.data.toList=b.data.toList):a=b:=ByteArray.ext (Array.toList_inj.1 h)
theorem acO (a b:ByteArray):(a.toList == b.toList)=decide (a=b):=by
  rw [aTK,aTK];by_cases h:a=b
  · subst h;simp
  · have κ:¬ a.data=b.data:=fun e=>h (ByteArray.ext e)
    simp [h,κ]
theorem acQ {a b:ByteArray} (h:a=b):(a.toList == b.toList)=true:=by rw [acO];simp [h]
theorem acP {a b:ByteArray} (h:¬ a=b):(a.toList == b.toList)=false:=by rw [acO];simp [h]
theorem RF {a:Bool} (h:a=true):Ending.returned (.bool a)= .returned (.bool true):=by rw [h]
theorem GK (b off j:Nat):(⟨b,off,none⟩:Addr).add j=⟨b,off+j,none⟩:=by
  unfold Addr.add;split<;>simp_all
theorem aAX {w w':World} {base:Nat} {e:TypeId} {size:Nat} {v:Value} {n:Nat} {xs:List Value} (h:w.ownsRow base e size v n xs) (Φ:Below w.heap.size w w'):w'.ownsRow base e size v n xs:=by
  obtain ⟨κ,aa⟩:=h;refine ⟨κ, ?_⟩;rcases aa with aa | ⟨g,cap,cur,hv,aO,fS,r⟩
  · exact .inl aa
  · exact .inr ⟨g,cap,cur,hv,aO,by rw [Φ.block g (aSs.1 fS).1];exact fS,r⟩
theorem cell_later {w w':World} (Φ:Below w.heap.size w w') {a:Addr} {v:Value} (h:w.cell? a=some v):w'.cell? a=some v:=by
  rw [Φ.cell (aTL w a h)];exact h
theorem aqz {B:Nat} {w w':World} (Φ:Below B w w') {a:Addr} {v:Value} (h:w.cell? a=some v) (ha:a.block<B):w'.cell? a=some v:=by
  rw [Φ.cell ha];exact h
def aP (w:World) (g:Nat) (cur:List Value) (e:TypeId) (aA:Nat×Nat):Prop:=w.heap[g]? =some (.cells cur.toArray e aA)
theorem aP.lt {w:World} {g:Nat} {cur:List Value} {e:TypeId} {aA:Nat×Nat} (h:aP w g cur e aA):g<w.heap.size:=(aSs.1 h).1
theorem aP.cell {w:World} {g:Nat} {cur:List Value} {e:TypeId} {aA:Nat×Nat} (h:aP w g cur e aA) (j:Nat):w.cell? ⟨g,j,none⟩=cur[j]? :=by
  rw [cell_of_row w g j _ e aA h];simp
theorem aP.free {w:World} {g:Nat} {cur:List Value} {e:TypeId} {aA:Nat×Nat} (h:aP w g cur e aA) (j:Nat) (ay:j<aA.1∨aA.2≤j):w.frozen? ⟨g,j,none⟩=false:=by
  unfold aP at h;obtain ⟨lo,ar⟩:=aA;simp only [World.frozen?,h];simp only at ay;simp;omega
theorem aP.set {w:World} {g:Nat} {cur:List Value} {e:TypeId} {aA:Nat×Nat} (h:aP w g cur e aA) (j:Nat) (v:Value):aP (w.setCell ⟨g,j,none⟩ v) g (cur.set j v) e aA:=by
  unfold aP at *
  simp only [World.setCell,aU8,h];simp
theorem aP.later {w w':World} {g:Nat} {cur:List Value} {e:TypeId} {aA:Nat×Nat} (h:aP w g cur e aA) (Φ:Below w.heap.size w w'):aP w' g cur e aA:=by
  have aB:=h.lt;unfold aP at *
  rw [Φ.block g aB];exact h
theorem aP.drew {w:World} {g:Nat} {cur:List Value} {e:TypeId} {aA:Nat×Nat} (h:aP w g cur e aA):aP w.drew g cur e aA:=h
theorem aP.drewN {w:World} {g:Nat} {cur:List Value} {e:TypeId} {aA:Nat×Nat} (h:aP w g cur e aA) (n:Nat):aP (w.drewN n) g cur e aA:=h
theorem aP.new (w:World) (cur:List Value) (e:TypeId) (aA:Nat×Nat):aP (w.alloc (.cells cur.toArray e aA)) w.heap.size cur e aA:=aUF w _
theorem aP.setRow {w:World} {g:Nat} {cur:List Value} {e:TypeId} {aA:Nat×Nat} (h:aP w g cur e aA) (new:List Value):aP (w.setRow g new.toArray) g new e aA:=setRow_heap w g _ _ e aA h
theorem aP.other {w:World} {g g':Nat} {cur:List Value} {e:TypeId} {aA:Nat×Nat} (h:aP w g cur e aA) (aO:g≠g') (j:Nat) (v:Value):aP (w.setCell ⟨g',j,none⟩ v) g cur e aA:=by
  unfold aP at *
  rw [aVI _ _ _ _ aO];exact h
theorem below_drewN {B:Nat} {a w:World} (h:Below B a w) (n:Nat):Below B a (w.drewN n):=⟨h.os,h.tape,h.output,h.size,h.block⟩
def Rd (w:World) (size:Nat) (A:Option Addr) (n:Nat) (xs:List Value):Prop :=
  xs.length=n * size∧(0<n→∃ b o,A=some ⟨b,o,none⟩∧∀ j u,xs[j]? =some u→w.cell? ⟨b,o+j,none⟩=some u)
theorem Rd.zero (w:World) (size:Nat) (A:Option Addr):Rd w size A 0 []:=⟨by simp,fun h=>absurd h (by decide)⟩
theorem Rd.later {w w':World} {size n:Nat} {A:Option Addr} {xs:List Value} (h:Rd w size A n xs) (Φ:Below w.heap.size w w'):Rd w' size A n xs :=
  ⟨h.1,fun aG=>by
    obtain ⟨b,o,e,hc⟩:=h.2 aG;exact ⟨b,o,e,fun j u hu=>cell_later Φ (hc j u hu)⟩⟩
theorem Rd.drewN {w:World} {size n:Nat} {A:Option Addr} {xs:List Value} (h:Rd w size A n xs) (k:Nat):Rd (w.drewN k) size A n xs:=h
def Own (w:World) (base:Nat) (e:TypeId) (size:Nat) (G:Nat→Value→Prop) (v:Value) (n:Nat) (xs:List Value):Prop :=
  xs.length=n * size∧
  ((v= .slice none 0 0∧n=0)∨
   ∃ g cap cur,v= .slice (some ⟨g,0,none⟩) n cap∧base≤g∧w.heap[g]? =some (.cells cur e (0,0))∧n≤cap∧cap≤maxLen∧cur.size=cap * size∧cur.toList.take (n * size)=xs∧∀ j u,cur[j]? =some u→G (j % size) u)
section
variable {w w':World} {base e size:Nat} {G:Nat→Value→Prop} {v:Value} {n:Nat} {xs:List Value}
theorem Own.row (h:Own w base e size G v n xs):w.ownsRow base e size v n xs:=by
  obtain ⟨κ,aa⟩:=h;refine ⟨κ, ?_⟩;rcases aa with aa | ⟨g,cap,cur,a,b,c,d,e,f,i,_⟩
  · exact .inl aa
  · exact .inr ⟨g,cap,cur,a,b,c,d,e,f,i⟩
theorem Own.nil (w:World) (base e size:Nat) (G:Nat→Value→Prop):Own w base e size G (.slice none 0 0) 0 []:=⟨by simp, .inl ⟨rfl,rfl⟩⟩
theorem Own.of_block {B:Nat} (h:Own w base e size G v n xs) (Φ:∀ g,v.ownBlock=some g→w'.heap[g]? =w.heap[g]?):Own w' base e size G v n xs:=by
  obtain ⟨κ,aa⟩:=h;refine ⟨κ, ?_⟩;rcases aa with aa | ⟨g,cap,cur,rfl,b,c,d⟩
  · exact .inl aa
  · exact .inr ⟨g,cap,cur,rfl,b,(Φ g rfl).trans c,d⟩
theorem Own.later (h:Own w base e size G v n xs) (Φ:Below w.heap.size w w'):Own w' base e size G v n xs :=
  h.of_block (B:=0) fun g aO=>Φ.block g (h.row.lt g aO).2
theorem Own.drewN (h:Own w base e size G v n xs) (k:Nat):Own (w.drewN k) base e size G v n xs:=h
theorem Own.drew (h:Own w base e size G v n xs):Own w.drew base e size G v n xs:=h
theorem Own.mono (h:Own w base e size G v n xs) {acE:Nat} (Φ:acE≤base):Own w acE e size G v n xs:=by
  obtain ⟨κ,aa⟩:=h;refine ⟨κ, ?_⟩;rcases aa with aa | ⟨g,cap,cur,a,b,r⟩
  · exact .inl aa
  · exact .inr ⟨g,cap,cur,a,aSn Φ b,r⟩
theorem Own.rd (h:Own w base e size G v n xs) {A:Option Addr} {c:Nat} (hv:v= .slice A n c):Rd w size A n xs:=by
  obtain ⟨κ,aa⟩:=h;refine ⟨κ,fun aG=> ?_⟩;rcases aa with ⟨_,aa⟩ | ⟨g,cap,cur,rfl,b,c,d,e,f,i,_⟩
  · omega
  · injection hv with hv _ _
    refine ⟨g,0,hv.symm,fun j u hu=> ?_⟩;rw [aS5,cell_of_row w g j cur _ (0,0) c,← aSW];rw [← i,aSy] at hu;split at hu
    · exact hu
    · cases hu
theorem Own.shape (h:Own w base e size G v n xs):∃ A c,v= .slice A n c∧n≤c∧c≤maxLen∧Rd w size A n xs∧(∀ a,A=some a→base≤a.block∧a.block<w.heap.size)∧(A=none→v= .slice none 0 0):=by
  have c6:=h;obtain ⟨κ,aa⟩:=h;rcases aa with ⟨rfl,rfl⟩ | ⟨g,cap,cur,rfl,b,c,d,e,f,i,_⟩
  · exact ⟨none,0,rfl,aR3 _,aSG _,c6.rd rfl,(fun a ha=>by cases ha),fun _=>rfl⟩
  · refine ⟨_,cap,rfl,d,e,c6.rd rfl,fun a ha=> ?_,fun h=>by cases h⟩
    injection ha with ha
    subst ha;exact ⟨b,(aSs.1 c).1⟩
theorem aGx {z:Array Value} (bE:z.size=size) (hs:0<size) (bB:∀ j u,z[j]? =some u→G j u) (k:Nat):∀ j u,(Builtin.zeroCells z k)[j]? =some u→G (j % size) u:=by
  intro j u hu;unfold Builtin.zeroCells at hu;subst bE;have ay:=(aSs.1 hu).1;simp at ay;have bC:j % z.size<z.size:=aTY _ hs;rw [aVt,aVg,aR5 ay] at hu;simp only [aTr,aUH] at hu;refine bB _ u ?_;rw [← hu];simp [bC]
theorem Own.stored {g c:Nat} (h:Own w base e size G (.slice (some ⟨g,0,none⟩) n c) n xs) (j:Nat) (u:Value) (hu:G (j % size) u):
    Own (w.setCell ⟨g,j,none⟩ u) base e size G (.slice (some ⟨g,0,none⟩) n c) n (xs.set j u):=by
  obtain ⟨κ,aa⟩:=h;refine ⟨by rw [aR1];exact κ, ?_⟩;rcases aa with ⟨aa,_⟩ | ⟨g',cap,cur,hv,b,fS,d,hm,hs,aE,bB⟩
  · cases aa
  · injection hv with hv _ hc
    injection hv with hv
    injection hv with hv
    subst hv;subst hc;refine .inr ⟨g,c,cur.setIfInBounds j u,Z,b, ?_,d,hm,by simp [hs], ?_, ?_⟩
    · simp only [World.setCell,aU8,fS]
      simp
    · rw [← aE]
      simp only [Array.toList_setIfInBounds];rw [List.take_set]
    · intro i v hv
      by_cases jG:j=i
      · subst jG
        have bC:j<cur.size:=by
          have:=(aSs.1 hv).1;simpa using this
        rw [Array.getElem?_setIfInBounds_self_of_lt bC] at hv;obtain rfl:=aRR hv;exact hu
      · rw [aTH jG] at hv
        exact bB i v hv
theorem Own.cell {g c:Nat} (h:Own w base e size G (.slice (some ⟨g,0,none⟩) n c) n xs) (j:Nat) (ay:j<n * size):w.cell? ⟨g,j,none⟩=xs[j]? :=h.row.cellAt j ay
theorem Own.free {g c:Nat} (h:Own w base e size G (.slice (some ⟨g,0,none⟩) n c) n xs) (j:Nat):w.frozen? ⟨g,j,none⟩=false:=h.row.frozenAt j
theorem Own.lit (w:World) (cs:Array Value) (n:Nat) (Φ:base≤w.heap.size) (hm:n≤maxLen) (hs:cs.size=n * size) (bB:∀ j u,cs[j]? =some u→G (j % size) u):
    Own (w.alloc (.cells cs e)) base e size G (.slice (some ⟨w.heap.size,0,none⟩) n n) n cs.toList :=
  ⟨by simpa using hs, .inr ⟨w.heap.size,n,cs,rfl,Φ,aUF w _,aR3 _,hm,hs,aSh (by simp [hs]),bB⟩⟩
theorem Own.empty (w:World) (Φ:base≤w.heap.size):Own (w.alloc (.cells #[] e)) base e size G (.slice (some ⟨w.heap.size,0,none⟩) 0 0) 0 [] :=
  Own.lit w #[] 0 Φ (aSG _) (by simp) (fun j u h=>by simp at h)
end
section
variable {P:Program} (w:World)
theorem akQ (base:Nat) (t ty e:TypeId) (i:TypeInfo) (z:Value) (size bytes:Nat) (aE:P.underlying t=some (.slice e)) (ar:P.info? e=some i) (bE:i.zero=some z)
    (xw:i.size=size) (pU:i.bytes=bytes) (sQ:z.cells.size=size) (ja:0<size) (G:Nat→Value→Prop) (xz:∀ j u,z.cells[j]? =some u→G j u)
    (v:Value) (n:Nat) (xs:List Value) (fg:Own w base e size G v n xs)
    (A:Option Addr) (m c:Nat) (news:List Value) (hr:Rd w size A m news) (κ:∀ u∈news,u.oneCell'=true) (Lm:∀ j u,news[j]? =some u→G (j % size) u)
    (rG:n+m≤maxLen) (rN:(n+m) * bytes≤140737488355328) (pS:base≤w.heap.size):
    ∃ v' w',(Builtin.append_ #[t,t] ty #[v, .slice A m c]).run P w= .ok v' w'∧Own w' base e size G v' (n+m) (xs++news)∧w.grownBy w' v.ownBlock∧
      (v'= .slice none 0 0↔v= .slice none 0 0∧m=0)∧(v'.ownBlock=v.ownBlock∨v'.ownBlock=some w.heap.size):=by
  subst xw;subst pU;have aLe:n+m≤9223372036854775807:=by simp only [maxLen] at rG;omega
  have aB:news.length=m * i.size:=hr.1;have HS:xs.length=n * i.size:=fg.1;have hlen:(xs++news).length=(n+m) * i.size:=by rw [aRX,HS,aB,aTv]
  have afW:(∀ j u,xs[j]? =some u→G (j % i.size) u)→∀ j u,(xs++news)[j]? =some u→G (j % i.size) u:=by
    intro hx j u hu;by_cases ay:j<xs.length
    · rw [aSd ay] at hu;exact hx j u hu
    · rw [aSf (by omega)] at hu
      have:=Lm _ u hu;rw [HS] at this ay;have e:j % i.size=(j - n * i.size) % i.size:=by
        conv=>lhs;rw [show j=n * i.size+(j - n * i.size) from by omega]
        rw [aS6 n,aUu]
      rw [e];exact this
  -- what the growing arm leaves, whatever was there before
  have grown:(∀ j u,xs[j]? =some u→G (j % i.size) u)→∀ (old:Nat),old<n+m→∀ (row:Option Nat),
      Own (w.drew.alloc (.cells (xs.toArray++news.toArray++Builtin.zeroCells z.cells (grownCap w (n+m) old e - (n+m))) e)) base e i.size G
        (.slice (some ⟨w.heap.size,0,none⟩) (n+m) (grownCap w (n+m) old e)) (n+m) (xs++news)∧
      w.grownBy (w.drew.alloc (.cells (xs.toArray++news.toArray++Builtin.zeroCells z.cells (grownCap w (n+m) old e - (n+m))) e)) row:=by
    intro QO old b7 row;have uf:=grownCap_ge w (n+m) old e;have rP:grownCap w (n+m) old e≤maxLen:=grownCap_le_maxLen w (n+m) old e rG;refine ⟨⟨hlen, .inr ⟨w.heap.size,_,_,Z,pS,aUF w.drew _,uf,rP, ?_, ?_, ?_⟩⟩,⟨Z,Z,Z,by simp,fun k av _=>heap_alloc_old w.drew _ av⟩⟩
    · simp only [aVH,aTn,size_zeroCells,sQ,HS,aB,← aTv]
      congr 1;omega
    · simp only [aVj,aSw]
      rw [← aSw,← hlen];exact aVa
    · intro j u hu
      rw [← aSW] at hu;simp only [aVj] at hu;by_cases ay:j<(xs++news).length
      · rw [aSd ay] at hu;exact afW QO j u hu
      · rw [aSf (by simpa using ay)] at hu
        rw [aSW] at hu;have:=aGx sQ ja xz _ _ u hu;have oS:(xs.toArray.toList++news.toArray.toList).length=(n+m) * i.size:=hlen;rw [oS] at this;rw [hlen] at ay;have e:j % i.size=(j - (n+m) * i.size) % i.size:=by
          conv=>lhs;rw [show j=(n+m) * i.size+(j - (n+m) * i.size) from by omega]
          rw [aS6 (n+m),aUu]
        rw [e];exact this
  have Xg:A=none∨∃ a,A=some a:=by cases A with | none=>exact .inl rfl | some a=>exact .inr ⟨a,rfl⟩
  rcases Xg with rfl | ⟨ad,rfl⟩
  · have hm:m=0:=by
      rcases aUA m with aG | aG
      · exact aG
      · obtain ⟨b,o,h,_⟩:=hr.2 aG
        cases h
    subst hm;have hn:news= []:=aSq (by simpa using aB);subst hn;refine ⟨v,w, ?_,by simpa using fg,World.grownBy.refl w _,by simp, .inl rfl⟩;rcases fg.2 with ⟨rfl,rfl⟩ | ⟨g,cap,cur,rfl,_,_,CS,_⟩
    · simp [Builtin.append_,aS1 aE,sizeOf,typeInfo,ar,Builtin.lenOf,Builtin.firstCells]
    · simp [Builtin.append_,aS1 aE,sizeOf,typeInfo,ar,Builtin.lenOf,Builtin.firstCells,CS,storeCells]
  have Lo:∀ j u,news[j]? =some u→w.cell? (ad.add j)=some u:=by
    intro j u hu;rcases aUA m with aG | aG
    · subst aG
      have hn:news= []:=aSq (by simpa using aB);subst hn;simp at hu
    · obtain ⟨b,o,h,hc⟩:=hr.2 aG
      injection h with h
      subst h;rw [GK];exact hc j u hu
  rcases fg.2 with ⟨rfl,rfl⟩ | ⟨g,cap,cur,rfl,Wn,aO,CS,rP,yX,Xj,bB⟩
  · have hx:xs= []:=aSq (by simpa using HS)
    subst hx;by_cases hm:m=0
    · subst hm
      have hn:news= []:=aSq (by simpa using aB);subst hn;refine ⟨.slice none 0 0,w, ?_,Own.nil w base e i.size G,⟨Z,Z,Z,aR3 _,fun _ _ _=>Z⟩,by simp,Or.inl rfl⟩;simp [Builtin.append_,aS1 aE,sizeOf,typeInfo,ar,Builtin.lenOf,Builtin.firstCells,loadCells,loadCellsFrom]
    · have hr:=run_append_nil (P:=P) w t ty e i z aE ar bE ad m c news aB Lo (by omega) (by omega) (by have Φ:=rN;simp only [aS5] at Φ;omega)
      have CJ:=grown (fun j u hu=>by simp at hu) 0 (by omega) (Value.ownBlock (.slice none 0 0));simp only [aS5,aUa,aUB] at CJ ⊢;exact ⟨_,_,hr,CJ.1,CJ.2,by simp [hm],Or.inr rfl⟩
  · have QO:∀ j u,xs[j]? =some u→G (j % i.size) u:=by
      intro j u hu;rw [← Xj,aSy] at hu;split at hu
      · exact bB j u (by rw [← aSW];exact hu)
      · cases hu
    by_cases Xa:n+m≤cap
    · have WG:n * i.size+news.length≤cur.size:=by rw [aB,yX,← aTv];exact aSE _ Xa
      have hr:=run_append_room (P:=P) w t ty e i aE ar g n cap cur aO ad m c news aB Lo κ Xa WG;refine ⟨_,_,hr,⟨hlen, .inr ⟨g,cap,_,Z,Wn,setRow_heap w g cur _ e _ aO,Xa,rP, ?_, ?_, ?_⟩⟩,⟨Z,Z,Z,by simp,fun k _ av=>setRow_other w g k _ (fun e=>av (by simp [Value.ownBlock,e]))⟩,by simp,Or.inl rfl⟩
      · simp only [aTn,aRX,aRU,aSb,aT6]
        omega
      · rw [Xj,← hlen]
        exact aVa
      · intro j u hu
        rw [Xj] at hu;have hu:((xs++news)++cur.toList.drop (n * i.size+news.length))[j]? =some u:=by simpa using hu
        by_cases ay:j<(xs++news).length
        · rw [aSd ay] at hu;exact afW QO j u hu
        · rw [aSf (by omega),aSV] at hu
          rw [hlen] at hu ay;rw [aB,← aTv,show (n+m) * i.size+(j - (n+m) * i.size)=j from by omega] at hu;exact bB j u (by rw [← aSW];exact hu)
    · have holds:∀ j u,xs[j]? =some u→w.cell? ((⟨g,0,none⟩:Addr).add j)=some u:=fg.row.cells (g:=g) rfl
      have hr:=run_append_grow (P:=P) w t ty e i z aE ar bE ⟨g,0,none⟩ n cap xs HS holds ad m c news aB Lo (by omega) (by omega) (growslice_fits (by omega) rN);have CJ:=grown QO cap (by omega) (Value.ownBlock (.slice (some ⟨g,0,none⟩) n cap));exact ⟨_,_,hr,CJ.1,CJ.2,by simp,Or.inr rfl⟩

theorem aFf {o:Oper} {a:Act} {K:Act→World→Prop} {Q:Exit→Act→World→Prop} (s x:Operand) (t:TypeId)
    (b7:o.op= .call {callee:= .builtin .append,args:=#[s,x],argTypes:=#[t,t]})
    (base:Nat) (e:TypeId) (i:TypeInfo) (z:Value) (size bytes:Nat) (aE:P.underlying t=some (.slice e)) (ar:P.info? e=some i) (bE:i.zero=some z)
    (xw:i.size=size) (pU:i.bytes=bytes) (sQ:z.cells.size=size) (ja:0<size) (G:Nat→Value→Prop) (xz:∀ j u,z.cells[j]? =some u→G j u)
    (v:Value) (n:Nat) (xs:List Value) (hs:a.eval s=v) (fg:Own w base e size G v n xs)
    (A:Option Addr) (m c:Nat) (news:List Value) (hx:a.eval x= .slice A m c) (hr:Rd w size A m news) (κ:∀ u∈news,u.oneCell'=true) (Lm:∀ j u,news[j]? =some u→G (j % size) u)
    (rG:n+m≤maxLen) (rN:(n+m) * bytes≤140737488355328) (pS:base≤w.heap.size)
    (h:∀ v' w',Own w' base e size G v' (n+m) (xs++news)→w.grownBy w' v.ownBlock→(v'= .slice none 0 0↔v= .slice none 0 0∧m=0)→(v'.ownBlock=v.ownBlock∨v'.ownBlock=some w.heap.size)→K (a.put o.dst v') w'):o.wp P a w K Q:=by
  obtain ⟨v',w',lA,aa,aw,a6,bL⟩:=akQ (P:=P) w base t o.type e i z size bytes aE ar bE xw pU sQ ja G xz v n xs fg A m c news hr κ Lm rG rN pS;unfold Oper.wp execOp;simp only [b7,resolve,invoke,builtin,aR8,aR9,aRZ,aVN,aSH,aTF,hs,hx,lA];exact h v' w' aa aw a6 bL
theorem I7 {ops:Array Oper} {rest:List Oper} {o:Oper} {a:Act} {Q:Exit→Act→World→Prop} (WL:o.guard=none) (s x:Operand) (t:TypeId)
    (b7:o.op= .call {callee:= .builtin .append,args:=#[s,x],argTypes:=#[t,t]})
    (base:Nat) (e:TypeId) (i:TypeInfo) (z:Value) (size bytes:Nat) (aE:P.underlying t=some (.slice e)) (ar:P.info? e=some i) (bE:i.zero=some z)
    (xw:i.size=size) (pU:i.bytes=bytes) (sQ:z.cells.size=size) (ja:0<size) (G:Nat→Value→Prop) (xz:∀ j u,z.cells[j]? =some u→G j u)
    (v:Value) (n:Nat) (xs:List Value) (hs:a.eval s=v) (fg:Own w base e size G v n xs)
    (A:Option Addr) (m c:Nat) (news:List Value) (hx:a.eval x= .slice A m c) (hr:Rd w size A m news) (κ:∀ u∈news,u.oneCell'=true) (Lm:∀ j u,news[j]? =some u→G (j % size) u)
    (rG:n+m≤maxLen) (rN:(n+m) * bytes≤140737488355328) (pS:base≤w.heap.size)
    (h:∀ v' w',Own w' base e size G v' (n+m) (xs++news)→w.grownBy w' v.ownBlock→(v'= .slice none 0 0↔v= .slice none 0 0∧m=0)→(v'.ownBlock=v.ownBlock∨v'.ownBlock=some w.heap.size)→wpList P ops Q rest (a.put o.dst v') w'):wpList P ops Q (o::rest) a w :=
  wpList_plain WL fun _ hK=>aFf w s x t b7 base e i z size bytes aE ar bE xw pU sQ ja G xz v n xs hs fg A m c news hx hr κ Lm rG rN pS fun v' w' aa aw a6 bL=>hK _ _ (h v' w' aa aw a6 bL)
end
open Go.ChangeShapes Go.WideShapes Go.Deep Go.RowKit
inductive gM where
  | int (k:IntKind)
  | bool
  | str
  | slice (e:gM) (bytes:Nat)
  | nil
  | cons (a b:gM)
def gM.size:gM→Nat
  | .int _ | .bool | .str | .slice _ _=>1
  | .nil=>0
  | .cons a b=>a.size+b.size
def partsOf (P:Program) (t:TypeId):Option (List (TypeId×Nat)):=
  match P.underlying t with
  | some (.struct fs)=>some (fs.toList.map fun f=>(f.type,f.offset))
  | some (.array n e)=>some ((List.range n).map fun i=>(e,i * P.cellsOf e))
  | _=>none
def gM.fit (P:Program):gM→TypeId ⊕ (Nat×List (TypeId×Nat))→Bool
  | .int k, .inl t=>match P.underlying t with | some (.int k')=>decide (k'=k) | _=>false
  | .bool, .inl t=>match P.underlying t with | some .bool=>true | _=>false
  | .str, .inl t=>match P.underlying t with | some .string=>true | _=>false
  | .slice e by_, .inl t=>match P.underlying t with | some (.slice u)=>P.cellsOf u == e.size && P.bytesOf u == by_ && e.fit P (.inl u) | _=>false
  | .nil, .inl t=>P.cellsOf t == 0 && (match P.underlying t with | some (.struct _)=>true | some (.array ..)=>true | _=>false)
  | .cons a b, .inl t=>P.cellsOf t == a.size+b.size && (match partsOf P t with
      | some ((u,o)::r)=>o == 0 && P.cellsOf u == a.size && a.fit P (.inl u) && b.fit P (.inr (a.size,r))
      | _=>false)
  | .nil, .inr (_,fs)=>fs.isEmpty
  | .cons a b, .inr (off,fs)=>match fs with
    | (u,o)::r=>o == off && P.cellsOf u == a.size && a.fit P (.inl u) && b.fit P (.inr (off+a.size,r))
    | []=>false
  | _, .inr _=>false
def gM.iY (w:World):gM→List Value→Prop
  | .int k,cs=>∃ n,cs= [.int k n]∧(Lit.int k n).wf=true
  | .bool,cs=>∃ b,cs= [.bool b]
  | .str,cs=>∃ s:ByteArray,cs= [.string s]∧s.size≤maxLen∧s.size≤140737488351232
  | .slice e by_,cs=>cs= [.slice none 0 0]∨∃ (a:Addr) (len cap:Nat),cs= [.slice (some a) len cap]∧len≤cap∧cap≤maxLen∧cap * by_≤140737488351232∧
      ∀ i,i<cap→∃ es:List Value,es.length=e.size∧(∀ j v,es[j]? =some v→w.cell? (a.add (i * e.size+j))=some v)∧e.iY w es
  | .nil,cs=>cs= []
  | .cons a b,cs=>∃ xs ys,cs=xs++ys∧xs.length=a.size∧ys.length=b.size∧a.iY w xs∧b.iY w ys
variable {H:Type} {enc:TypeId×Value→H} {P:Program} {w:World} {base:Nat} {held:Bool}
theorem amx {e:TypeId} {l:List (DataW H)} {d:DataW H} (h:d∈l):∀ n∈d.weights P e,n∈DataW.weightsAll P e l:=by
  induction l with
  | nil=>cases h
  | cons x r bF =>
    intro n hn;simp only [DataW.weightsAll,aR6];rcases aSc.1 h with rfl | h
    · exact .inl hn
    · exact .inr (bF h n hn)
def Jz (enc:TypeId×Value→H) (P:Program) (w:World) (base:Nat) (held:Bool) (n:Nat) (cs:List Value) (fs:List (TypeId×Nat)) (xs:List (DataW H×List MemPlace)):Prop :=
  xs.length=fs.length∧∀ (i:Nat) (f:TypeId×Nat),fs[i]? =some f→DataW.trod enc P w base (fun _=>true) held n f.1 ((cs.drop f.2).take (P.cellsOf f.1))=xs[i]?
theorem Jz.cons {n:Nat} {cs:List Value} {f:TypeId×Nat} {r:List (TypeId×Nat)} {xs:List (DataW H×List MemPlace)} (h:Jz enc P w base held n cs (f::r) xs):
    ∃ x ys,xs=x::ys∧DataW.trod enc P w base (fun _=>true) held n f.1 ((cs.drop f.2).take (P.cellsOf f.1))=some x∧Jz enc P w base held n cs r ys:=by
  obtain ⟨aB,hf⟩:=h
  match xs,aB with
  | x::ys,aB =>
    refine ⟨x,ys,Z,hf 0 f Z,by simpa using aB,fun i g aO=> ?_⟩;exact hf (i+1) g aO
def Goal (P:Program) (w:World) (sh:gM):TypeId ⊕ (Nat×List (TypeId×Nat))→Prop
  | .inl t=>∀ (H:Type) (enc:TypeId×Value→H) (base:Nat) (held:Bool) (fuel:Nat) (cs:List Value) (x:DataW H×List MemPlace),DataW.trod enc P w base (fun _=>true) held fuel t cs=some x→(∀ n∈x.1.weights P t,n≤reachBytes)→cs.length=sh.size∧sh.iY w cs
  | .inr (off,fs)=>∀ (H:Type) (enc:TypeId×Value→H) (base:Nat) (held:Bool) (n:Nat) (cs:List Value) (xs:List (DataW H×List MemPlace)),Jz enc P w base held n cs fs xs→cs.length=off+sh.size→(∀ n∈DataW.weightsEach P (fs.map (·.1)) (xs.map (·.1)),n≤reachBytes)→sh.iY w (cs.drop off)
theorem Goal.fields {a b:gM} (ax9:∀ t,a.fit P t=true→Goal P w a t) (aya:∀ t,b.fit P t=true→Goal P w b t) {off:Nat} {f:TypeId×Nat} {r:List (TypeId×Nat)} (κ:f.2=off) (aa:P.cellsOf f.1=a.size) (aw:a.fit P (.inl f.1)=true) (a6:b.fit P (.inr (off+a.size,r))=true):
    Goal P w (.cons a b) (.inr (off,f::r)):=by
  intro H enc base held n cs xs hx aB hw;obtain ⟨x,ys,rfl,aE,hr⟩:=hx.cons;have ha:=ax9 _ aw H enc base held n _ x aE (fun m hm=>hw m (by simp only [aSH,DataW.weightsEach,aR6];exact .inl hm));have ja:(gM.cons a b).size=a.size+b.size:=rfl;have Φ:=aya _ a6 H enc base held n cs ys hr (by omega) (fun m hm=>hw m (by simp only [aSH,DataW.weightsEach,aR6];exact .inr hm));rw [κ,aa] at ha;refine ⟨_,_, ?_,ha.1, ?_,ha.2,Φ⟩
  · rw [← aVZ,aTT]
  · rw [aSb];omega
theorem amy {e:TypeId}:∀ (l:List (DataW H)) (ts:List TypeId),ts.length=l.length→(∀ t∈ts,t=e)→DataW.weightsEach P ts l=DataW.weightsAll P e l
  | [], [],_,_=>rfl
  | d::l,t::ts,h,aE=>by
    rw [DataW.weightsEach,DataW.weightsAll,aE t (by simp),amy l ts (by simpa using h) (fun u hu=>aE u (by simp [hu]))]
  | [],_::_,h,_=>by simp at h
  | _::_, [],h,_=>by simp at h
theorem alF {t:TypeId} {fs:List (TypeId×Nat)} {fuel:Nat} {cs:List Value} {x:DataW H×List MemPlace} (hp:partsOf P t=some fs) (h:DataW.trod enc P w base (fun _=>true) held fuel t cs=some x):
    cs.length=P.cellsOf t∧∃ (xs:List (DataW H×List MemPlace)) (n:Nat),Jz enc P w base held n cs fs xs∧x.1.weights P t=DataW.weightsEach P (fs.map (·.1)) (xs.map (·.1)):=by
  unfold partsOf at hp;split at hp
  · rename_i gs hu
    obtain rfl:=aRR hp;obtain ⟨xs,n,_,rfl,aB,hlen,hf⟩:=DataW.trod_struct hu h;refine ⟨aB,xs,n,⟨by rw [hlen];simp,fun i f aO=> ?_⟩, ?_⟩
    · rw [aSa] at aO
      match awa:gs.toList[i]?,aO with
      | some g,aO =>
        obtain rfl:=aRR aO;exact hf i g (by rw [← aSW];exact awa)
    · simp only [DataW.weights,hu,aUy]
      rfl
  · rename_i m e hu
    obtain rfl:=aRR hp;obtain ⟨xs,n,_,rfl,aB,hlen,hf⟩:=DataW.trod_array hu h;refine ⟨aB,xs,n,⟨by rw [hlen];simp,fun i f aO=> ?_⟩, ?_⟩
    · rw [aSa] at aO
      have ar:i<m:=by
        rcases aSU i m with h | h
        · exact h
        · rw [aTd (by simpa using h)] at aO;cases aO
      rw [aVi ar] at aO;obtain rfl:=aRR aO;exact hf i ar
    · simp only [DataW.weights,hu]
      rw [amy (e:=e)]
      · simp [hlen]
      · intro u hu;simp at hu;exact hu.2.symm
  · cases hp
theorem Hl (P:Program) (w:World):∀ (sh:gM) (t:TypeId ⊕ (Nat×List (TypeId×Nat))),sh.fit P t=true→Goal P w sh t
  | .int k, .inl t,h=>by
    intro H enc base held fuel cs x aE _;unfold gM.fit at h;split at h
    · rename_i k' hu
      obtain rfl:k'=k:=aS3 h;cases fuel with
      | zero=>simp [DataW.trod] at aE
      | succ n =>
        unfold DataW.trod at aE;rw [hu] at aE;split at aE<;>simp_all;exact ⟨Z,_,Z,aE.1.2⟩
    · cases h
  | .bool, .inl t,h=>by
    intro H enc base held fuel cs x aE _;unfold gM.fit at h;split at h
    · rename_i hu
      cases fuel with
      | zero=>simp [DataW.trod] at aE
      | succ n =>
        unfold DataW.trod at aE;rw [hu] at aE;split at aE<;>simp_all;exact ⟨Z,_,Z⟩
    · cases h
  | .str, .inl t,h=>by
    intro H enc base held fuel cs x aE hw;unfold gM.fit at h;split at h
    · rename_i hu
      cases fuel with
      | zero=>simp [DataW.trod] at aE
      | succ n =>
        unfold DataW.trod at aE;rw [hu] at aE;split at aE<;>simp_all;obtain ⟨κ,rfl⟩:=aE;refine ⟨Z,_,Z,κ, ?_⟩;simpa [DataW.weights,reachBytes] using hw
    · cases h
  | .slice e by_, .inl t,h=>by
    intro H enc base held fuel cs x aE hw;unfold gM.fit at h;split at h
    · rename_i u hu
      simp only [aRY,aSQ] at h;obtain ⟨⟨κ,aa⟩,aw⟩:=h;rcases open_slice hu aE with ⟨rfl,_⟩ | ⟨a,len,cap,m,n,D,aHM,rfl,_,aB,hm,Qw,rfl,ar⟩
      · exact ⟨rfl, .inl rfl⟩
      · simp only [aTD] at Qw
        subst Qw;refine ⟨Z, .inr ⟨a,len,m,Z,aB,hm, ?_,fun i awd=> ?_⟩⟩
        · have:=hw ((((List.range len).map D).length+((List.range (m - len)).map fun j=>D (len+j)).length) * P.bytesOf u) (by simp [DataW.weights,hu])
          rw [aa] at this;simp only [aSp,aWL,reachBytes] at this;rw [show len+(m - len)=m from by omega] at this;exact this
        · obtain ⟨adl,hc,axB⟩:=ar i awd
          have aO:=Hl P w e (.inl u) aw H enc base held n adl _ axB (fun k av=>hw k (by
            simp only [DataW.weights,hu,aSc,aR6];right;by_cases HJ:i<len
            · exact .inl (amx (aSz.2 ⟨i,aSB.2 HJ,rfl⟩) k av)
            · exact .inr (amx (aSz.2 ⟨i - len,aSB.2 (by omega),by rw [show len+(i - len)=i from by omega]⟩) k av)))
          obtain ⟨_,rO,fL⟩:=World.cells?_some hc;refine ⟨adl,aO.1,fun j v hv=> ?_,aO.2⟩;have ay:j<P.cellsOf u:=by have:=(aRS.1 hv).1;omega
          rw [κ] at fL ay;rw [← Go.Deep.add_add,fL j ay,hv]
    · cases h
  | .nil, .inl t,h=>by
    intro H enc base held fuel cs x aE hw;unfold gM.fit at h;simp only [aRY,aSQ] at h;obtain ⟨aG,κ⟩:=h;have hp:∃ fs,partsOf P t=some fs:=by
      unfold partsOf;split at κ
      · exact ⟨_,rfl⟩
      · exact ⟨_,rfl⟩
      · cases κ
    obtain ⟨fs,hp⟩:=hp;have aB:=(alF hp aE).1;rw [aG] at aB;exact ⟨aB,aSq aB⟩
  | .cons a b, .inl t,h=>by
    intro H enc base held fuel cs x aE hw;unfold gM.fit at h;simp only [aRY,aSQ] at h;obtain ⟨aG,h⟩:=h;split at h
    · rename_i u o r hp
      obtain ⟨aB,xs,n,hx,he⟩:=alF hp aE;rw [aG] at aB;refine ⟨aB, ?_⟩;simp only [aRY,aSQ] at h;obtain ⟨⟨⟨κ,aa⟩,aw⟩,a6⟩:=h;have a6:b.fit P (.inr (0+a.size,r))=true:=by rw [aS5];exact a6
      exact Goal.fields (w:=w) (f:=(u,o)) (fun t aE=>Hl P w a t aE) (fun t aE=>Hl P w b t aE) κ aa aw a6 H enc base held n cs xs hx (by rw [aB];show _=0+(a.size+b.size);omega) (fun m hm=>hw m (by rw [he];exact hm))
    · cases h
  | .nil, .inr (off,fs),h=>by
    intro H enc base held n cs xs hx aB hw;exact aSq (by rw [aSb,aB];simp [gM.size])
  | .cons a b, .inr (off,fs),h=>by
    unfold gM.fit at h;split at h
    · rename_i u o r
      simp only [aRY,aSQ] at h;obtain ⟨⟨⟨κ,aa⟩,aw⟩,a6⟩:=h;exact Goal.fields (f:=(u,o)) (fun t aE=>Hl P w a t aE) (fun t aE=>Hl P w b t aE) κ aa aw a6
    · cases h
  | .int _, .inr _,h=>by simp [gM.fit] at h
  | .bool, .inr _,h=>by simp [gM.fit] at h
  | .str, .inr _,h=>by simp [gM.fit] at h
  | .slice _ _, .inr _,h=>by simp [gM.fit] at h
theorem ajY {ts:List TypeId} {ds:List (DataW H)} (sh:gM) {j:Nat} {t:TypeId} {v:Value} {d:DataW H} {p:List MemPlace} (WG:sh.fit P (.inl t)=true)
    (ja:(DataW.weightsEach P ts ds).all (· ≤reachBytes)=true) (aE:ts[j]? =some t) (hd:ds[j]? =some d) (h:DataW.Trod enc P w base (fun _=>true) held t v d p):
    v.cells.toList.length=sh.size∧sh.iY w v.cells.toList:=by
  obtain ⟨fuel,hf⟩:=h;exact Hl P w sh (.inl t) WG H enc base held fuel _ (d,p) hf (fun n hn=>by
    have:=aSL.1 ja _ (DataW.weights_mem_each aE hd n hn);simpa using this)
theorem ajf {α:Type} (n:Nat) (p:Nat→α→Prop) (h:∀ i,i<n→∃ x,p i x):∃ l:List α,l.length=n∧∀ i (ar:i<l.length),p i l[i]:=by
  induction n with
  | zero=>exact ⟨[],rfl,fun i ar=>absurd ar (by simp)⟩
  | succ n bF =>
    obtain ⟨l,aB,hp⟩:=bF (fun i ar=>h i (by omega));obtain ⟨x,hx⟩:=h n (by omega);refine ⟨l++ [x],by simp [aB],fun i ar=> ?_⟩;by_cases dv:i<l.length
    · rw [aT8 dv];exact hp i dv
    · have:i=n:=by simp at ar;omega
      subst this;rw [List.getElem_append_right (by omega)];simpa [aB] using hx
def c_ {β α:Type} (P:β→α→Prop):List β→List α→Prop
  | [], []=>True
  | b::cV,a::m=>P b a∧c_ P cV m
  | _,_=>False
section
variable {β α:Type} {P Q:β→α→Prop}
theorem c_.length:∀ {l:List β} {m:List α},c_ P l m→l.length=m.length
  | [], [],_=>rfl
  | _::_,_::_,h=>by rw [aRW,aRW,c_.length h.2]
  | [],_::_,h=>h.elim
  | _::_, [],h=>h.elim
theorem c_.imp {l:List β} (ar:∀ b a,b∈l→P b a→Q b a):∀ {m:List α},c_ P l m→c_ Q l m:=by
  induction l with
  | nil=>intro m h;cases m with | nil=>trivial | cons=>exact h
  | cons b r bF =>
    intro m h;cases m with
    | nil=>exact h
    | cons a s=>exact ⟨ar b a (by simp) h.1,bF (fun b a Φ=>ar b a (by simp [Φ])) h.2⟩
theorem c_.app:∀ {l:List β} {m:List α} {ui:List β} {m':List α},c_ P l m→c_ P ui m'→c_ P (l++ui) (m++m')
  | [], [],_,_,_,h=>h
  | _::_,_::_,_,_,h,c6=>⟨h.1,c_.app h.2 c6⟩
  | [],_::_,_,_,h,_=>h.elim
  | _::_, [],_,_,h,_=>h.elim
theorem c_.at_:∀ {l:List β} {m:List α} {i:Nat} {a:α},c_ P l m→m[i]? =some a→∃ b,l[i]? =some b∧P b a
  | [], [],_,_,_,h=>by simp at h
  | b::_,_::_,0,_,h,e=>⟨b,rfl,by simp at e;subst e;exact h.1⟩
  | _::_,_::_,i+1,_,h,e=>by
    obtain ⟨b,κ,aa⟩:=c_.at_ (i:=i) h.2 (by simpa using e);exact ⟨b,by simpa using κ,aa⟩
  | [],_::_,_,_,h,_=>h.elim
  | _::_, [],_,_,h,_=>h.elim
theorem c_.Y4:∀ {l:List β} {m:List α} {i:Nat} {b:β} {a:α},c_ P l m→P b a→c_ P (l.set i b) (m.set i a)
  | [], [],_,_,_,_,_=>trivial
  | _::_,_::_,0,_,_,h,e=>⟨e,h.2⟩
  | _::_,_::_,_+1,_,_,h,e=>⟨h.1,c_.Y4 h.2 e⟩
  | [],_::_,_,_,_,h,_=>h.elim
  | _::_, [],_,_,_,h,_=>h.elim
theorem c_.IE:∀ {l:List β} {m:List α} (k:Nat),c_ P l m→c_ P (l.take k) (m.take k)
  | [], [],_,_=>by simp [c_]
  | _::_,_::_,0,_=>trivial
  | _::_,_::_,k+1,h=>⟨h.1,c_.IE k h.2⟩
  | [],_::_,_,h=>h.elim
  | _::_, [],_,h=>h.elim
theorem c_.left:∀ {l:List β} {m:List α},c_ P l m→∀ b∈l,∃ a,P b a
  | [],_,_,b,Φ=>by simp at Φ
  | c::_, [],h,_,_=>h.elim
  | c::_,a::_,h,b,Φ=>by
    rcases aSc.1 Φ with rfl | Φ
    · exact ⟨a,h.1⟩
    · exact c_.left h.2 b Φ
end
theorem Av {k:Nat}:∀ {l:List (List Value)},(∀ x∈l,x.length=k)→l.flatten.length=l.length * k
  | [],_=>by simp
  | x::r,h=>by rw [aSN,aRX,h x (by simp),Av (l:=r) (fun y aK=>h y (by simp [aK])),aRW,aTv];omega
theorem Hf {k:Nat}:∀ {l:List (List Value)} {i j:Nat} {es:List Value},(∀ x∈l,x.length=k)→l[i]? =some es→j<k→l.flatten[i * k+j]? =es[j]?
  | [],_,_,_,_,h,_=>by simp at h
  | x::r,0,j,es,h,e,ay=>by
    have e:x=es:=by simpa using e
    subst e;rw [aSN,aWh,aS5,aSd (by rw [h x (by simp)];exact ay)]
  | x::r,i+1,j,es,h,e,ay=>by
    have hx:=h x (by simp);rw [aSN,aSf (by rw [hx,aTv];omega),hx,show (i+1) * k+j - k=i * k+j from by rw [aTv];omega];exact Hf (fun y aK=>h y (by simp [aK])) (by simpa using e) ay
theorem ae2 {k:Nat}:∀ {l:List (List Value)} {i j:Nat} {es:List Value} (u:Value),(∀ x∈l,x.length=k)→l[i]? =some es→j<k→l.flatten.set (i * k+j) u=(l.set i (es.set j u)).flatten
  | [],_,_,_,_,_,h,_=>by simp at h
  | x::r,0,j,es,u,h,e,ay=>by
    have e:x=es:=by simpa using e
    subst e;rw [aSN,aWh,aS5,List.set_append_left _ _ (by rw [h x (by simp)];exact ay)];rfl
  | x::r,i+1,j,es,u,h,e,ay=>by
    have hx:=h x (by simp);rw [aSN,aU3 _ _ (by rw [hx,aTv];omega),hx,show (i+1) * k+j - k=i * k+j from by rw [aTv];omega,ae2 u (fun y aK=>h y (by simp [aK])) (by simpa using e) ay];rfl
theorem ae3 {k:Nat}:∀ {l:List (List Value)} (i:Nat),(∀ x∈l,x.length=k)→l.flatten.take (i * k)=(l.take i).flatten
  | [],_,_=>by simp
  | x::r,0,_=>by simp
  | x::r,i+1,h=>by
    have hx:=h x (by simp);rw [aSN,aWv,aSN,aVL,hx,aSh (by rw [hx,aTv];omega),show (i+1) * k - k=i * k from by rw [aTv];omega,ae3 i (fun y aK=>h y (by simp [aK]))]
structure τ (α:Type) where
  size:Nat
  has:World→List Value→α→Prop
  own:World→Nat→List Nat→List Value→α→Prop
  raw:Nat→Value→Prop
  len:∀ {w cs a},has w cs a→cs.length=size
  one:∀ {w cs a},has w cs a→∀ u∈cs,u.oneCell'=true
  v7:∀ {w cs a},has w cs a→∀ (j:Nat) u,cs[j]? =some u→raw j u
  keep:∀ {w w' cs a},has w cs a→Below w.heap.size w w'→has w' cs a
  s0:∀ {w B f cs a},own w B f cs a→has w cs a
  s3:∀ {w w' B f cs a},own w B f cs a→(∀ g∈f,w'.heap[g]? =w.heap[g]?)→own w' B f cs a
  vX:∀ {w B f cs a},own w B f cs a→∀ g∈f,B≤g∧g<w.heap.size
  A7:∀ {w B q_ f cs a},own w B f cs a→q_≤B→own w q_ f cs a
namespace τ
variable {α β:Type} {w w':World} {B q_:Nat} {f:List Nat} {cs:List Value} {a:α}
theorem Yq (R:τ α) (h:R.own w B f cs a):cs.length=R.size:=R.len (R.s0 h)
def Vs (size:Nat) (cells:α→List Value) (ok:α→Prop) (raw:Nat→Value→Prop) (aB:∀ a,(cells a).length=size) (κ:∀ a,∀ u∈cells a,u.oneCell'=true) (hr:∀ a,ok a→∀ (j:Nat) u,(cells a)[j]? =some u→raw j u):τ α where
  size:=size
  has:=fun _ cs a=>cs=cells a∧ok a
  own:=fun _ _ f cs a=>f= []∧cs=cells a∧ok a
  raw:=raw
  len:=by rintro w cs a ⟨rfl,_⟩;exact aB a
  one:=by rintro w cs a ⟨rfl,_⟩;exact κ a
  v7:=by rintro w cs a ⟨rfl,h⟩;exact hr a h
  keep:=fun h _=>h
  s0:=fun h=>h.2
  s3:=fun h _=>h
  vX:=by rintro w B f cs a ⟨rfl,_⟩ g aO;simp at aO
  A7:=fun h _=>h
def flat (size:Nat) (cells:α→List Value) (ok:α→Prop) (raw:Nat→Value→Prop) (aB:∀ a,(cells a).length=size) (κ:∀ a,∀ u∈cells a,u.oneCell'=true) (hr:∀ a (j:Nat) u,(cells a)[j]? =some u→raw j u):τ α where
  size:=size
  has:=fun _ cs a=>cs=cells a∧ok a
  own:=fun _ _ f cs a=>f= []∧cs=cells a∧ok a
  raw:=raw
  len:=by rintro w cs a ⟨rfl,_⟩;exact aB a
  one:=by rintro w cs a ⟨rfl,_⟩;exact κ a
  v7:=by rintro w cs a ⟨rfl,_⟩;exact hr a
  keep:=fun h _=>h
  s0:=fun h=>h.2
  s3:=fun h _=>h
  vX:=by rintro w B f cs a ⟨rfl,_⟩ g aO;simp at aO
  A7:=fun h _=>h
def pair (R:τ α) (S:τ β):τ (α×β) where
  size:=R.size+S.size
  has:=fun w cs p=>∃ xs ys,cs=xs++ys∧R.has w xs p.1∧S.has w ys p.2
  own:=fun w B f cs p=>∃ xs ys f1 f2,cs=xs++ys∧f=f1++f2∧R.own w B f1 xs p.1∧S.own w B f2 ys p.2
  raw:=fun j u=>if j<R.size then R.raw j u else S.raw (j - R.size) u
  len:=by rintro w cs p ⟨xs,ys,rfl,κ,aa⟩;rw [aRX,R.len κ,S.len aa]
  one:=by
    rintro w cs p ⟨xs,ys,rfl,κ,aa⟩ u hu;rcases aR6.1 hu with hu | hu
    · exact R.one κ u hu
    · exact S.one aa u hu
  v7:=by
    rintro w cs p ⟨xs,ys,rfl,κ,aa⟩ j u hu;by_cases ay:j<R.size
    · rw [aR5 ay];rw [aSd (by rw [R.len κ];exact ay)] at hu;exact R.v7 κ j u hu
    · rw [aR0 ay];rw [aSf (by rw [R.len κ];omega),R.len κ] at hu;exact S.v7 aa _ u hu
  keep:=by rintro w w' cs p ⟨xs,ys,rfl,κ,aa⟩ Φ;exact ⟨xs,ys,Z,R.keep κ Φ,S.keep aa Φ⟩
  s0:=by rintro w B f cs p ⟨xs,ys,f1,f2,rfl,rfl,κ,aa⟩;exact ⟨xs,ys,Z,R.s0 κ,S.s0 aa⟩
  s3:=by
    rintro w w' B f cs p ⟨xs,ys,f1,f2,rfl,rfl,κ,aa⟩ av;exact ⟨xs,ys,f1,f2,Z,Z,R.s3 κ (fun g aO=>av g (by simp [aO])),S.s3 aa (fun g aO=>av g (by simp [aO]))⟩
  vX:=by
    rintro w B f cs p ⟨xs,ys,f1,f2,rfl,rfl,κ,aa⟩ g aO;rcases aR6.1 aO with aO | aO
    · exact R.vX κ g aO
    · exact S.vX aa g aO
  A7:=by
    rintro w B q_ f cs p ⟨xs,ys,f1,f2,rfl,rfl,κ,aa⟩ Φ;exact ⟨xs,ys,f1,f2,Z,Z,R.A7 κ Φ,S.A7 aa Φ⟩
def via (R:τ α) (g:β→α):τ β where
  size:=R.size
  has:=fun w cs b=>R.has w cs (g b)
  own:=fun w B f cs b=>R.own w B f cs (g b)
  raw:=R.raw
  len:=fun h=>R.len h
  one:=fun h=>R.one h
  v7:=fun h=>R.v7 h
  keep:=fun h Φ=>R.keep h Φ
  s0:=fun h=>R.s0 h
  s3:=fun h av=>R.s3 h av
  vX:=fun h=>R.vX h
  A7:=fun h Φ=>R.A7 h Φ
def ag:Option Addr→List Nat
  | none=> []
  | some a=> [a.block]
theorem azP {A:Option Addr} {g:Nat}:g∈ag A↔∃ a,A=some a∧a.block=g:=by
  cases A with
  | none=>simp [ag]
  | some a=>simp [ag,eq_comm]
def aJ (R:τ α) (by_:Nat) (w:World) (A:Option Addr) (c:Nat) (l:List α):Prop :=
  l.length≤c∧c≤9223372036854775807∧l.length * by_≤140737488355328∧(A=none→c=0)∧
  ∃ ess,c_ (fun es a=>R.has w es a) ess l∧Rd w R.size A l.length ess.flatten
def aF (R:τ α) (E:TypeId) (by_:Nat) (w:World) (B:Nat) (f:List Nat) (A:Option Addr) (c:Nat) (l:List α):Prop :=
  l.length * by_≤140737488355328∧
  ∃ ps:List (List Nat×List Value),f=ag A++(ps.map (·.1)).flatten∧f.Nodup∧Own w B E R.size R.raw (.slice A l.length c) l.length (ps.map (·.2)).flatten∧
    c_ (fun x a=>R.own w B x.1 x.2 a) ps l
theorem aJ.keep {R:τ α} {by_:Nat} {A:Option Addr} {c:Nat} {l:List α} (h:R.aJ by_ w A c l) (Φ:Below w.heap.size w w'):R.aJ by_ w' A c l:=by
  obtain ⟨κ,aa,aw,a6,ess,bL,ch⟩:=h;exact ⟨κ,aa,aw,a6,ess,bL.imp (fun es a _ h=>R.keep h Φ),ch.later Φ⟩
theorem aJ.drewN {R:τ α} {by_:Nat} {A:Option Addr} {c:Nat} {l:List α} (h:R.aJ by_ w A c l) (k:Nat):R.aJ by_ (w.drewN k) A c l:=h.keep (below_drewN (aSm _ w) k)
theorem c_.X8 {β amW α:Type} (g:β→amW) {P:amW→α→Prop}:∀ {l:List β} {m:List α},c_ (fun b a=>P (g b) a) l m→c_ P (l.map g) m
  | [], [],_=>trivial
  | _::_,_::_,h=>⟨h.1,c_.X8 g h.2⟩
  | [],_::_,h=>h.elim
  | _::_, [],h=>h.elim
theorem aF.has {R:τ α} {E:TypeId} {by_:Nat} {A:Option Addr} {c:Nat} {l:List α} (h:R.aF E by_ w B f A c l):R.aJ by_ w A c l:=by
  obtain ⟨κ,ps,rfl,aw,a6,bL⟩:=h;obtain ⟨bM,b8,e,hle,hmx,Lx,_,lz⟩:=a6.shape;injection e with bc _ bl
  subst bc;subst bl;refine ⟨hle,by unfold maxLen at hmx;omega,κ,fun hn=>by have:=lz hn;injection this,_,c_.X8 (fun x:List Nat×List Value=>x.2) (bL.imp fun x a _ h=>R.s0 h),Lx⟩
theorem aF.keep {R:τ α} {E:TypeId} {by_:Nat} {A:Option Addr} {c:Nat} {l:List α} (h:R.aF E by_ w B f A c l) (av:∀ g∈f,w'.heap[g]? =w.heap[g]?):R.aF E by_ w' B f A c l:=by
  obtain ⟨κ,ps,rfl,aw,a6,bL⟩:=h;refine ⟨κ,ps,Z,aw,a6.of_block (B:=0) fun g aO=>av g ?_,bL.imp fun x a hx h=>R.s3 h fun g aO=>av g ?_⟩
  · cases A with
    | none=>cases aO
    | some a=>injection aO with aO;simp [ag,aO]
  · exact aR6.2 (.inr (aSZ.2 ⟨x.1,aSz.2 ⟨x,hx,rfl⟩,aO⟩))
theorem aF.lt {R:τ α} {E:TypeId} {by_:Nat} {A:Option Addr} {c:Nat} {l:List α} (h:R.aF E by_ w B f A c l):∀ g∈f,B≤g∧g<w.heap.size:=by
  obtain ⟨κ,ps,rfl,aw,a6,bL⟩:=h;intro g aO;rcases aR6.1 aO with aO | aO
  · obtain ⟨a,rfl,rfl⟩:=azP.1 aO
    exact a6.row.lt _ Z
  · obtain ⟨y,aK,aO⟩:=aSZ.1 aO
    obtain ⟨x,hx,rfl⟩:=aSz.1 aK;obtain ⟨a,ha⟩:=bL.left x hx;exact R.vX ha g aO
theorem aF.later {R:τ α} {E:TypeId} {by_:Nat} {A:Option Addr} {c:Nat} {l:List α} (h:R.aF E by_ w B f A c l) (Φ:Below w.heap.size w w'):R.aF E by_ w' B f A c l:=h.keep fun g aO=>Φ.block g (h.lt g aO).2
theorem aF.nodup {R:τ α} {E:TypeId} {by_:Nat} {A:Option Addr} {c:Nat} {l:List α} (h:R.aF E by_ w B f A c l):f.Nodup:=by
  obtain ⟨_,ps,rfl,aw,_⟩:=h;exact aw
theorem aF.down {R:τ α} {E:TypeId} {by_:Nat} {A:Option Addr} {c:Nat} {l:List α} (h:R.aF E by_ w B f A c l) (Φ:q_≤B):R.aF E by_ w q_ f A c l:=by
  obtain ⟨κ,ps,rfl,aw,a6,bL⟩:=h;exact ⟨κ,ps,Z,aw,a6.mono Φ,bL.imp fun x a _ h=>R.A7 h Φ⟩
def slice (R:τ α) (E:TypeId) (by_:Nat):τ (List α) where
  size:=1
  has:=fun w cs l=>∃ A c,cs= [.slice A l.length c]∧R.aJ by_ w A c l
  own:=fun w B f cs l=>∃ A c,cs= [.slice A l.length c]∧R.aF E by_ w B f A c l
  raw:=fun _ u=>∃ A n c,u= .slice A n c
  len:=by rintro w cs l ⟨A,c,rfl,_⟩;rfl
  one:=by rintro w cs l ⟨A,c,rfl,_⟩ u hu;simp at hu;subst hu;rfl
  v7:=by
    rintro w cs l ⟨A,c,rfl,_⟩ j u hu;cases j with
    | zero=>simp at hu;exact ⟨_,_,_,hu.symm⟩
    | succ j=>simp at hu
  keep:=by rintro w w' cs l ⟨A,c,rfl,h⟩ Φ;exact ⟨A,c,Z,h.keep Φ⟩
  s0:=by rintro w B f cs l ⟨A,c,rfl,h⟩;exact ⟨A,c,Z,h.has⟩
  s3:=by rintro w w' B f cs l ⟨A,c,rfl,h⟩ av;exact ⟨A,c,Z,h.keep av⟩
  vX:=by rintro w B f cs l ⟨A,c,rfl,h⟩;exact h.lt
  A7:=by rintro w B q_ f cs l ⟨A,c,rfl,h⟩ Φ;exact ⟨A,c,Z,h.down Φ⟩
theorem c_.ajR {β α:Type} {P:β→α→Prop}:∀ {l:List β} {m:List α},l.length=m.length→(∀ (k:Nat) b a,l[k]? =some b→m[k]? =some a→P b a)→c_ P l m
  | [], [],_,_=>trivial
  | b::l,a::m,aB,h=>⟨h 0 b a rfl rfl,c_.ajR (by simpa using aB) (fun k b a κ aa=>h (k+1) b a (by simpa using κ) (by simpa using aa))⟩
  | [],_::_,aB,_=>by simp at aB
  | _::_, [],aB,_=>by simp at aB
section
variable {R:τ α} {E:TypeId} {by_:Nat} {A:Option Addr} {c:Nat} {l:List α}
theorem lens {ess:List (List Value)} (h:c_ (fun es a=>R.has w es a) ess l):∀ x∈ess,x.length=R.size:=fun x hx=>by
  obtain ⟨a,ha⟩:=h.left x hx;exact R.len ha
theorem aJ.at_ (h:R.aJ by_ w A c l) (aG:0<l.length):∃ b o,A=some ⟨b,o,none⟩∧∀ (i:Nat) a,l[i]? =some a→∃ es,R.has w es a∧∀ (j:Nat) u,es[j]? =some u→w.cell? ⟨b,o+(i * R.size+j),none⟩=some u:=by
  obtain ⟨_,_,_,_,ess,bL,ch,ef⟩:=h;obtain ⟨b,o,e,hc⟩:=ef aG;refine ⟨b,o,e,fun i a ha=> ?_⟩;obtain ⟨es,gB,yR⟩:=bL.at_ ha;refine ⟨es,yR,fun j u hu=>hc _ u ?_⟩;have ay:=(aRS.1 hu).1;rw [R.len yR] at ay;rw [Hf (lens bL) gB ay];exact hu
theorem aJ.yx {Q:α→Prop} (I:∀ {w cs a},R.has w cs a→Q a) (h:R.aJ by_ w A c l):∀ a∈l,Q a:=by
  obtain ⟨_,_,_,_,ess,bL,_⟩:=h;intro a ha;obtain ⟨i,ar,rfl⟩:=aSP.1 ha;obtain ⟨es,_,he⟩:=bL.at_ (aRT ar);exact I he
theorem Ij {e:gM} (he:∀ w cs,e.iY w cs→∃ a,R.has w cs a) (hs:e.size=R.size) (aG:0<R.size) {cs:List Value} (h:(gM.slice e by_).iY w cs):∃ A c l,cs= [.slice A (List.length l) c]∧R.aJ by_ w A c l:=by
  rcases h with rfl | ⟨a,len,cap,rfl,aB,hm,hr,ar⟩
  · exact ⟨none,0, [],rfl,aR3 _,by simp,by simp,fun _=>rfl, [],trivial,Rd.zero w R.size none⟩
  · obtain ⟨ess,hlen,E1⟩:=ajf len (fun i es=>List.length es=e.size∧(∀ j v,es[j]? =some v→w.cell? (a.add (i * e.size+j))=some v)∧e.iY w es) (fun i E2=>ar i (by omega))
    obtain ⟨l,oS,Qr⟩:=ajf len (fun i x=>∃ es,ess[i]? =some es∧R.has w es x) (fun i E2=>by
      obtain ⟨x,hx⟩:=he w (ess[i]'(by omega)) (E1 i (by omega)).2.2;exact ⟨x,_,aRT _,hx⟩)
    have dF:c_ (fun es x=>R.has w es x) ess l:=by
      refine c_.ajR (by omega) fun k es x κ aa=> ?_;have av:=(aRS.1 aa);obtain ⟨pW,gl⟩:=av;obtain ⟨aJK,aw,a6⟩:=Qr k pW;rw [κ] at aw;obtain rfl:=aRR aw;rw [← gl];exact a6
    refine ⟨some a,cap,l,by rw [oS],by omega,by unfold maxLen at hm;omega, ?_,fun h=>(by cases h),ess,dF,by rw [Av (lens dF),dF.length],fun aJ8=> ?_⟩
    · have:=aSE by_ aB
      rw [oS];omega
    · obtain ⟨b,off,spot⟩:=a
      have mL:=(E1 0 (by omega)).2.1 0;obtain ⟨v,hv⟩:∃ v,(ess[0]'(by omega))[0]? =some v:=by
        have:=(E1 0 (by omega)).1;exact ⟨_,aRT (by omega)⟩
      have sO:=mL v hv;have AO:spot=none:=by simpa [Addr.add] using World.cell?_spot sO
      subst AO;refine ⟨b,off,Z,fun j u hu=> ?_⟩;have bC:=(aRS.1 hu).1;rw [Av (lens dF)] at bC;have ay:j % R.size<R.size:=aTY _ aG;have hd:j / R.size<ess.length:=by rw [aU2 aG];exact bC
      have QJ:j / R.size * R.size+j % R.size=j:=by rw [aS6];exact aVS j R.size
      have ch:=Hf (j:=j % R.size) (lens dF) (i:=j / R.size) (es:=ess[j / R.size]'hd) (aRT hd) ay;rw [QJ,hu] at ch;have ef:=(E1 (j / R.size) hd).2.1 _ u ch.symm;rw [GK,hs,QJ] at ef;exact ef
theorem aJ.dU {A:Option Addr} {c:Nat} {l:List α} {by_:Nat} {R:τ α} (h:R.aJ by_ w A c l):l.length≤9223372036854775807:=aSn h.1 h.2.1
theorem aJ.IE {A:Option Addr} {c:Nat} {l:List α} {by_:Nat} {R:τ α} (h:R.aJ by_ w A c l) (k:Nat):R.aJ by_ w A c (l.take k):=by
  obtain ⟨κ,aa,aw,a6,ess,bL,ch⟩:=h;have aB:(l.take k).length≤l.length:=by rw [aRU];omega
  have hm:=aSE by_ aB;have ef:=bL.IE k;refine ⟨by omega,aa,by omega,a6,ess.take k,ef,by rw [Av (lens ef),ef.length],fun aG=> ?_⟩;obtain ⟨b,o,e,hc⟩:=ch.2 (by omega);refine ⟨b,o,e,fun j u hu=>hc j u ?_⟩;rw [← ae3 k (lens bL),aSy] at hu;split at hu
  · exact hu
  · cases hu
theorem aJ.nil (w:World):R.aJ by_ w none 0 []:=⟨aR3 _,by simp,by simp,fun _=>rfl, [],trivial,Rd.zero w R.size none⟩
theorem aF.nil (w:World):R.aF E by_ w B [] none 0 []:=⟨by simp, [],rfl,aVY,Own.nil w B E R.size R.raw,trivial⟩
end
def Em (R:τ α) (E:TypeId) (by_:Nat) (w:World) (B:Nat) (aA:List Nat) (g c:Nat) (l:List α) (i:Nat) (es:List Value):Prop :=
  l.length * by_≤140737488355328∧ 
  ∃ ps:List (List Nat×List Value),aA=g::(ps.map (·.1)).flatten∧aA.Nodup∧Own w B E R.size R.raw (.slice (some ⟨g,0,none⟩) l.length c) l.length (ps.map (·.2)).flatten∧
    ps[i]? =some ([],es)∧es.length=R.size∧ps.length=l.length∧∀ k a,k≠i→l[k]? =some a→∃ x,ps[k]? =some x∧R.own w B x.1 x.2 a
section
variable {R:τ α} {E:TypeId} {by_:Nat} {A:Option Addr} {c:Nat} {l:List α} {g i:Nat} {es:List Value} {aA:List Nat}
theorem Rp {ps:List (List Nat×List Value)} (h:c_ (fun x a=>R.own w B x.1 x.2 a) ps l):∀ x∈ps.map (·.2),x.length=R.size:=fun x hx=>by
  obtain ⟨y,aK,rfl⟩:=aSz.1 hx;obtain ⟨a,ha⟩:=h.left y aK;exact R.Yq ha
theorem aF.block (h:R.aF E by_ w B f A c l) (aG:0<l.length):∃ g,A=some ⟨g,0,none⟩:=by
  obtain ⟨_,ps,_,_,a6,_⟩:=h;obtain ⟨_,bL⟩:=a6;rcases bL with ⟨_,bL⟩ | ⟨g,cap,cur,hv,_⟩
  · omega
  · injection hv with hv;exact ⟨g,hv⟩
theorem Em.lens (h:R.Em E by_ w B aA g c l i es):∃ ps:List (List Nat×List Value),aA=g::(ps.map (·.1)).flatten∧aA.Nodup∧Own w B E R.size R.raw (.slice (some ⟨g,0,none⟩) l.length c) l.length (ps.map (·.2)).flatten∧
    ps[i]? =some ([],es)∧es.length=R.size∧ps.length=l.length∧(∀ k a,k≠i→l[k]? =some a→∃ x,ps[k]? =some x∧R.own w B x.1 x.2 a)∧∀ x∈ps.map (·.2),x.length=R.size:=by
  obtain ⟨_,ps,aa,aw,a6,bL,ch,ef,gB⟩:=h;refine ⟨ps,aa,aw,a6,bL,ch,ef,gB,fun x hx=> ?_⟩;obtain ⟨k,av,rfl⟩:=aSP.1 hx;rw [aSp] at av;rw [aUO];by_cases pX:k=i
  · subst pX
    rw [aRT av] at bL;rw [aRR bL];exact ch
  · obtain ⟨y,aK,b7⟩:=gB k (l[k]'(by omega)) pX (aRT _)
    rw [aRT av] at aK;rw [aRR aK];exact R.Yq b7
theorem Em.keep (h:R.Em E by_ w B aA g c l i es) (av:∀ x∈aA,w'.heap[x]? =w.heap[x]?):R.Em E by_ w' B aA g c l i es:=by
  obtain ⟨κ,ps,aa,aw,a6,bL,ch,ef,gB⟩:=h;refine ⟨κ,ps,aa,aw,a6.of_block (B:=0) (fun x hx=>av x ?_),bL,ch,ef,fun k a pX ha=> ?_⟩
  · injection hx with hx;rw [aa,← hx];simp
  · obtain ⟨x,hx,b7⟩:=gB k a pX ha
    refine ⟨x,hx,R.s3 b7 fun y aK=>av y ?_⟩;rw [aa];exact aR7 _ (aSZ.2 ⟨x.1,aSz.2 ⟨x,aSv hx,Z⟩,aK⟩)
theorem Em.cell (h:R.Em E by_ w B aA g c l i es) (ar:i<l.length) {j:Nat} {u:Value} (hu:es[j]? =some u):w.cell? ⟨g,i * R.size+j,none⟩=some u:=by
  obtain ⟨ps,aa,aw,a6,bL,ch,ef,gB,aB⟩:=h.lens;have ay:j<R.size:=by rw [← ch];exact (aRS.1 hu).1
  have:=a6.cell (i * R.size+j) (by
    have:(i+1) * R.size≤l.length * R.size:=aSE _ ar;rw [aTv] at this;omega)
  rw [this,Hf aB (by rw [aSa,bL];rfl) ay];exact hu
theorem aF.free (h:R.aF E by_ w B f (some ⟨g,0,none⟩) c l) (j:Nat):w.frozen? ⟨g,j,none⟩=false:=by
  obtain ⟨_,ps,rfl,_,a6,_⟩:=h;exact a6.free j
end

section
variable {P:Program} {R:τ α} {by_:Nat}
theorem Rq (A:Option Addr) (n c:Nat):(Value.slice A n c).ownBlock.toList=ag A:=by cases A<;>rfl
theorem aCq (ty:TypeId) (base:Nat) (t e:TypeId) (i:TypeInfo) (z:Value) (aE:P.underlying t=some (.slice e)) (ar:P.info? e=some i) (bE:i.zero=some z)
    (xw:i.size=R.size) (pU:i.bytes=by_) (sQ:z.cells.size=R.size) (ja:0<R.size) (xz:∀ (j:Nat) u,z.cells[j]? =some u→R.raw j u)
    (f:List Nat) (A:Option Addr) (c:Nat) (l:List α) (h:R.aF e by_ w base f A c l)
    (c0:Option Addr) (m c2:Nat) (k:List α) (kU:List (List Nat×List Value)) (I:c_ (fun x a=>R.own w base x.1 x.2 a) kU k) (hm:k.length=m) (hr:Rd w R.size c0 m (kU.map (·.2)).flatten)
    (jH:(f++(kU.map (·.1)).flatten).Nodup) (rG:l.length+m≤9223372036854775807) (rN:(l.length+m) * by_≤140737488355328) (pS:base≤w.heap.size):
    ∃ bM b8 f' w',(Builtin.append_ #[t,t] ty #[.slice A l.length c, .slice c0 m c2]).run P w= .ok (.slice bM (l.length+m) b8) w'∧R.aF e by_ w' base f' bM b8 (l++k)∧w.grownBy w' (Value.slice A l.length c).ownBlock∧(bM=A∨∃ a,bM=some a∧a.block=w.heap.size)∧(∀ x∈f',x∈f∨x∈(kU.map (·.1)).flatten∨x=w.heap.size)∧(bM=none↔A=none∧m=0)∧base≤w'.heap.size:=by
  obtain ⟨κ,ps,rfl,aw,a6,bL⟩:=h;have Lo:∀ (j:Nat) u,(kU.map (·.2)).flatten[j]? =some u→R.raw (j % R.size) u:=by
    intro j u hu;have aB:=Rp I;have bC:=(aRS.1 hu).1;rw [Av aB,aSp] at bC;have ay:j % R.size<R.size:=aTY _ ja;have hd:j / R.size<kU.length:=by rw [aU2 ja];exact bC
    have aLb:kU[j / R.size]? =some (kU[j / R.size]'hd):=aRT hd;have awt:k[j / R.size]? =some (k[j / R.size]'(by rw [← I.length];exact hd)):=aRT _;obtain ⟨x,hx,b7⟩:=I.at_ awt;have:=Hf (j:=j % R.size) aB (i:=j / R.size) (es:=x.2) (by rw [aSa,hx];rfl) ay;rw [show j / R.size * R.size+j % R.size=j from by rw [aS6];exact aVS j R.size,hu] at this;exact R.v7 (R.s0 b7) _ u this.symm
  have oU:∀ u∈(kU.map (·.2)).flatten,u.oneCell'=true:=by
    intro u hu;obtain ⟨y,aK,hu⟩:=aSZ.1 hu;obtain ⟨x,hx,rfl⟩:=aSz.1 aK;obtain ⟨a,ha⟩:=I.left x hx;exact R.one (R.s0 ha) u hu
  obtain ⟨v',w',lA,fg,jF,mM,fL⟩:=akQ (P:=P) w base t ty e i z R.size by_ aE ar bE xw pU sQ ja R.raw xz _ _ _ a6 c0 m c2 _ hr oU Lo (by unfold maxLen;omega) rN pS;obtain ⟨bM,b8,rfl,hle,hmx,Lx,HA,lz⟩:=fg.shape;have awG:∀ x,(Value.slice A l.length c).ownBlock=some x→x∈ag A:=fun x hx=>by rw [← Rq A l.length c,hx];simp
  have hA:∀ x∈ag bM,x∈ag A∨x=w.heap.size:=by
    intro x hx;rw [← Rq bM (l.length+m) b8] at hx;rcases fL with fL | fL
    · rw [fL,Rq] at hx;exact .inl hx
    · rw [fL] at hx;simp at hx;exact .inr hx
  have W5:∀ x∈ps,∀ y∈x.1,y<w.heap.size∧y∉ag A:=by
    intro x hx y aK;obtain ⟨a,ha⟩:=bL.left x hx;refine ⟨(R.vX ha y aK).2,fun Φ=> ?_⟩;rw [aSI] at aw;exact aw.2.2 y Φ y (aSZ.2 ⟨x.1,aSz.2 ⟨x,hx,Z⟩,aK⟩) Z
  have axf:∀ x∈kU,∀ y∈x.1,y<w.heap.size∧y∉ag A:=by
    intro x hx y aK;obtain ⟨a,ha⟩:=I.left x hx;refine ⟨(R.vX ha y aK).2,fun Φ=> ?_⟩;rw [aSI] at jH;exact jH.2.2 y (aVc _ Φ) y (aSZ.2 ⟨x.1,aSz.2 ⟨x,hx,Z⟩,aK⟩) Z
  have avF:∀ y,y<w.heap.size→y∉ag A→w'.heap[y]? =w.heap[y]? :=fun y aK hn=>jF.block y aK fun e=>hn (awG y e.symm);have WS:∀ x∈ps++kU,∀ y∈x.1,y<w.heap.size∧y∉ag A:=fun x hx=>by
    rcases aR6.1 hx with hx | hx
    · exact W5 x hx
    · exact axf x hx
  refine ⟨bM,b8,ag bM++((ps++kU).map (·.1)).flatten,w',lA,⟨by rw [aRX,hm];exact rN,ps++kU,rfl, ?_, ?_, ?_⟩,jF, ?_, ?_, ?_,aSn pS jF.size⟩
  · rw [aSw,← aT4,← aSi,aSI] at jH
    rw [aSI];refine ⟨by cases bM<;>simp [ag],jH.2.1,fun x hx y aK e=> ?_⟩;subst e;obtain ⟨z,bE,aK⟩:=aSZ.1 aK;obtain ⟨v,hv,rfl⟩:=aSz.1 bE;have ch:=WS v hv x aK;rcases hA x hx with ef | ef
    · exact ch.2 ef
    · omega
  · rw [aSi,aT4,aRX,hm];exact fg
  · exact (bL.app I).imp fun x a hx b7=>R.s3 b7 fun y aK=>avF y (WS x hx y aK).1 (WS x hx y aK).2
  · rcases fL with fL | fL
    · cases bM with
      | none =>
        cases A with
        | none=>exact .inl rfl
        | some a=>cases fL
      | some a' =>
        cases A with
        | none=>cases fL
        | some a =>
          obtain ⟨_,ch⟩:=a6;obtain ⟨_,ef⟩:=fg;rcases ch with ⟨ch,_⟩ | ⟨g,cap,cur,ch,_⟩
          · cases ch
          rcases ef with ⟨ef,_⟩ | ⟨g',aJd,Cj,ef,_⟩
          · cases ef
          injection ch with ch
          injection ef with ef
          rw [ch,ef] at fL ⊢;injection fL with fL
          have fL:g'=g:=fL
          left;rw [fL]
    · cases bM with
      | none=>cases fL
      | some a'=>injection fL with fL;exact .inr ⟨a',Z,fL⟩
  · intro x hx
    rcases aR6.1 hx with hx | hx
    · rcases hA x hx with h | h
      · exact .inl (aVc _ h)
      · exact .inr (.inr h)
    · rw [aSi,aT4] at hx
      rcases aR6.1 hx with hx | hx
      · exact .inl (aU4 _ hx)
      · exact .inr (.inl hx)
  · have EN:A=none→Value.slice A l.length c= .slice none 0 0:=fun e=>by
      obtain ⟨_,_,iq,_,_,_,_,awR⟩:=a6.shape;injection iq with bc _ bl
      subst bc;subst bl;exact awR e
    constructor
    · intro e
      obtain ⟨ch,ef⟩:=mM.1 (lz e);injection ch with ch
      exact ⟨ch,ef⟩
    · rintro ⟨e,aG⟩
      have:=mM.2 ⟨EN e,aG⟩;injection this
theorem aFg {o:Oper} {a:Act} {K:Act→World→Prop} {Q:Exit→Act→World→Prop} (s x:Operand) (base:Nat) (t e:TypeId) (i:TypeInfo) (z:Value) (aE:P.underlying t=some (.slice e)) (ar:P.info? e=some i) (bE:i.zero=some z)
    (xw:i.size=R.size) (pU:i.bytes=by_) (sQ:z.cells.size=R.size) (ja:0<R.size) (xz:∀ (j:Nat) u,z.cells[j]? =some u→R.raw j u)
    (f:List Nat) (A:Option Addr) (c:Nat) (l:List α) (h:R.aF e by_ w base f A c l)
    (c0:Option Addr) (m c2:Nat) (k:List α) (kU:List (List Nat×List Value)) (I:c_ (fun x a=>R.own w base x.1 x.2 a) kU k) (hm:k.length=m) (hr:Rd w R.size c0 m (kU.map (·.2)).flatten)
    (jH:(f++(kU.map (·.1)).flatten).Nodup) (rG:l.length+m≤9223372036854775807) (rN:(l.length+m) * by_≤140737488355328) (pS:base≤w.heap.size)
    (b7:o.op= .call {callee:= .builtin .append,args:=#[s,x],argTypes:=#[t,t]}) (hs:a.eval s= .slice A l.length c) (hx:a.eval x= .slice c0 m c2)
    (hK:∀ bM b8 f' w',R.aF e by_ w' base f' bM b8 (l++k)∧w.grownBy w' (Value.slice A l.length c).ownBlock∧(bM=A∨∃ a,bM=some a∧a.block=w.heap.size)∧(∀ x∈f',x∈f∨x∈(kU.map (·.1)).flatten∨x=w.heap.size)∧(bM=none↔A=none∧m=0)∧base≤w'.heap.size→K (a.put o.dst (.slice bM (l.length+m) b8)) w'):o.wp P a w K Q:=by
  obtain ⟨bM,b8,f',w',lA,aa⟩:=aCq (P:=P) (w:=w) o.type base t e i z aE ar bE xw pU sQ ja xz f A c l h c0 m c2 k kU I hm hr jH rG rN pS;unfold Oper.wp execOp;simp only [b7,resolve,invoke,builtin,aR8,aR9,aRZ,aVN,aSH,aTF,hs,hx,lA];exact hK bM b8 f' w' aa
theorem aFd {ops:Array Oper} {rest:List Oper} {o:Oper} {a:Act} {Q:Exit→Act→World→Prop} (WL:o.guard=none) (s x:Operand) (base:Nat) (t e:TypeId) (i:TypeInfo) (z:Value) (aE:P.underlying t=some (.slice e)) (ar:P.info? e=some i) (bE:i.zero=some z)
    (xw:i.size=R.size) (pU:i.bytes=by_) (sQ:z.cells.size=R.size) (ja:0<R.size) (xz:∀ (j:Nat) u,z.cells[j]? =some u→R.raw j u)
    (f:List Nat) (A:Option Addr) (c:Nat) (l:List α) (h:R.aF e by_ w base f A c l)
    (c0:Option Addr) (m c2:Nat) (k:List α) (kU:List (List Nat×List Value)) (I:c_ (fun x a=>R.own w base x.1 x.2 a) kU k) (hm:k.length=m) (hr:Rd w R.size c0 m (kU.map (·.2)).flatten)
    (jH:(f++(kU.map (·.1)).flatten).Nodup) (rG:l.length+m≤9223372036854775807) (rN:(l.length+m) * by_≤140737488355328) (pS:base≤w.heap.size)
    (b7:o.op= .call {callee:= .builtin .append,args:=#[s,x],argTypes:=#[t,t]}) (hs:a.eval s= .slice A l.length c) (hx:a.eval x= .slice c0 m c2)
    (hK:∀ bM b8 f' w',R.aF e by_ w' base f' bM b8 (l++k)∧w.grownBy w' (Value.slice A l.length c).ownBlock∧(bM=A∨∃ a,bM=some a∧a.block=w.heap.size)∧(∀ x∈f',x∈f∨x∈(kU.map (·.1)).flatten∨x=w.heap.size)∧(bM=none↔A=none∧m=0)∧base≤w'.heap.size→wpList P ops Q rest (a.put o.dst (.slice bM (l.length+m) b8)) w'):wpList P ops Q (o::rest) a w :=
  wpList_plain WL fun _ auV=>aFg s x base t e i z aE ar bE xw pU sQ ja xz f A c l h c0 m c2 k kU I hm hr jH rG rN pS b7 hs hx fun bM b8 f' w' aa=>auV _ _ (hK bM b8 f' w' aa)
def Plain (R:τ α):Prop:=∀ {w B cs a},R.has w cs a→R.own w B [] cs a
theorem oP {size:Nat} {cells:α→List Value} {ok:α→Prop} {raw:Nat→Value→Prop} {aB κ hr}:(flat size cells ok raw aB κ hr).Plain:=fun h=>⟨rfl,h⟩
theorem at4 {size:Nat} {cells:α→List Value} {ok:α→Prop} {raw:Nat→Value→Prop} {aB κ hr}:(Vs size cells ok raw aB κ hr).Plain:=fun h=>⟨rfl,h⟩
theorem c_.plain {ess:List (List Value)} {l:List α} (hp:R.Plain) (h:c_ (fun es a=>R.has w es a) ess l):c_ (fun x a=>R.own w B x.1 x.2 a) (ess.map fun es=>(([]:List Nat),es)) l :=
  c_.X8 (P:=fun (x:List Nat×List Value) a=>R.own w B x.1 x.2 a) (fun es=>(([]:List Nat),es)) (h.imp fun _ _ _ h=>hp h)
theorem akc (ess:List (List Value)):((ess.map fun es=>(([]:List Nat),es)).map (·.1)).flatten= []∧(ess.map fun es=>(([]:List Nat),es)).map (·.2)=ess:=by
  constructor
  · induction ess with
    | nil=>rfl
    | cons x r bF=>simp
  · rw [aUy]
    exact List.map_id' ess
theorem aF.A9 {E:TypeId} {A:Option Addr} {c:Nat} {l:List α} (hp:R.Plain) {ess:List (List Value)} (h:c_ (fun es a=>R.has w es a) ess l) (Φ:l.length * by_≤140737488355328) (b7:Own w B E R.size R.raw (.slice A l.length c) l.length ess.flatten):R.aF E by_ w B (ag A) A c l:=by
  obtain ⟨bc,bl⟩:=akc ess;exact ⟨Φ,_,by rw [bc,aSu],by cases A<;>simp [ag],by rw [bl];exact b7,c_.plain hp h⟩
theorem aF.aue {E:TypeId} {A:Option Addr} {c:Nat} {l:List α} (hp:∀ {w B f cs a},R.own w B f cs a→f= []) (h:R.aF E by_ w B f A c l):f=ag A:=by
  obtain ⟨_,ps,rfl,_,_,bL⟩:=h;have:(ps.map (·.1)).flatten= []:=by
    rw [aWe];intro x hx;obtain ⟨y,aK,rfl⟩:=aSz.1 hx;obtain ⟨a,ha⟩:=bL.left y aK;exact hp ha
  rw [this,aSu]
end
end τ

theorem Hg {α:Type} {R:τ α} {w:World} {ess:List (List Value)} {l:List α} (h:c_ (fun es a=>R.has w es a) ess l) (aG:0<R.size) {j:Nat} {u:Value} (hu:ess.flatten[j]? =some u):R.raw (j % R.size) u:=by
  have aB:=τ.lens h;have bC:=(aRS.1 hu).1;rw [Av aB] at bC;have ay:j % R.size<R.size:=aTY _ aG;have hd:j / R.size<ess.length:=by rw [aU2 aG];exact bC
  have QJ:j / R.size * R.size+j % R.size=j:=by rw [aS6];exact aVS j R.size
  have ch:=Hf (j:=j % R.size) aB (i:=j / R.size) (es:=ess[j / R.size]'hd) (aRT hd) ay;rw [QJ,hu] at ch;obtain ⟨a,ha⟩:=h.left _ (aS0 hd);exact R.v7 ha _ u ch.symm
namespace τ
variable {α:Type} {w w':World} {B:Nat} {f:List Nat} {R:τ α} {E:TypeId} {A:Option Addr} {by_ g c:Nat} {l:List α}
def wH (R:τ α):Prop:=R.Plain∧∀ {w B f cs a},R.own w B f cs a→f= []
theorem dt {size:Nat} {cells:α→List Value} {ok:α→Prop} {raw:Nat→Value→Prop} {aB κ hr}:(flat size cells ok raw aB κ hr).wH:=⟨oP,fun h=>h.1⟩
theorem at3 {size:Nat} {cells:α→List Value} {ok:α→Prop} {raw:Nat→Value→Prop} {aB κ hr}:(Vs size cells ok raw aB κ hr).wH:=⟨at4,fun h=>h.1⟩
theorem aF.aCS (h:R.aF E by_ w B f (some ⟨g,0,none⟩) c l) (hp:R.wH) {i j:Nat} {a a':α} {u:Value} (ar:l[i]? =some a) (ay:j<R.size) (hu:∀ cs,R.has w cs a→R.has (w.setCell ⟨g,i * R.size+j,none⟩ u) (cs.set j u) a'):
    R.aF E by_ (w.setCell ⟨g,i * R.size+j,none⟩ u) B f (some ⟨g,0,none⟩) c (l.set i a'):=by
  obtain ⟨Φ,ps,rfl,hn,b7,dF⟩:=h;obtain ⟨x,hx,LJ⟩:=dF.at_ ar;have aB:=Rp dF;have j':x.1= []:=hp.2 LJ;have HS:x.2.length=R.size:=R.Yq LJ;have agS:=hu x.2 (R.s0 LJ);have qG:R.raw j u:=R.v7 agS j u (by rw [aSg (by omega)]);have yR:=b7.stored (i * R.size+j) u (by rw [aS6,aUu,aS9 ay];exact qG);rw [ae2 u aB (i:=i) (es:=x.2) (by rw [aSa,hx];rfl) ay] at yR;have bC:=(aRS.1 hx).1;have bc:(ps.set i (x.1,x.2.set j u)).map (·.1)=ps.map (·.1):=by
    rw [aS7];have:(ps.map (·.1))[i]? =some x.1:=by rw [aSa,hx];rfl
    obtain ⟨aa,aw⟩:=aRS.1 this
    conv=>lhs;rw [← aw]
    exact aTz _
  have bl:(ps.set i (x.1,x.2.set j u)).map (·.2)=(ps.map (·.2)).set i (x.2.set j u):=by rw [aS7]
  have Wy:∀ y∈ps,∀ q∈y.1,q≠g:=fun y aK q I e=>by
    obtain ⟨b,ET⟩:=dF.left y aK;rw [hp.2 ET] at I;simp at I
  have Wk:c_ (fun x a=>R.own (w.setCell ⟨g,i * R.size+j,none⟩ u) B x.1 x.2 a) ps l:=dF.imp fun y a aK QP=>R.s3 QP fun q I=>aVI _ _ _ _ (Wy y aK q I);refine ⟨by rw [aR1];exact Φ,ps.set i (x.1,x.2.set j u),by rw [bc],hn,by rw [aR1,bl];exact yR, ?_⟩;exact Wk.Y4 (P:=fun (x:List Nat×List Value) a=>R.own (w.setCell ⟨g,i * R.size+j,none⟩ u) B x.1 x.2 a) (by rw [j'];exact hp.1 agS)
theorem aF.other (h:R.aF E by_ w B f A c l) {p:Addr} (hp:p.block∉f) (u:Value):R.aF E by_ (w.setCell p u) B f A c l :=
  h.keep fun g aO=>aVI _ _ _ _ fun e=>hp (e ▸ aO)
theorem aF.drewN (h:R.aF E by_ w B f A c l) (k:Nat):R.aF E by_ (w.drewN k) B f A c l:=h.keep fun _ _=>rfl
theorem aF.drew (h:R.aF E by_ w B f A c l):R.aF E by_ w.drew B f A c l:=h.keep fun _ _=>rfl
end τ
def cO (n lo ar:Int):Bool:=decide (lo≤n) && decide (n≤ar)
theorem kO {n lo ar:Int} (h:cO n lo ar=true):lo≤n∧n≤ar:=by simpa [cO] using h
theorem ayb {n lo ar:Int} (h:cO n lo ar=false):n<lo∨ar<n:=by
  simp [cO] at h;omega
theorem oX {n lo ar:Int} (κ:lo≤n) (aa:n≤ar):cO n lo ar=true:=by simp [cO,κ,aa]
theorem p0 {n lo ar:Int} (h:n<lo∨ar<n):cO n lo ar=false:=by
  cases Φ:cO n lo ar with
  | false=>rfl
  | true=>have:=kO Φ;omega
def gm {α:Type} (p:α→Bool) (l:List α):Int:=match l.findIdx? p with | some k=>(k:Int) | none=> -1
theorem Fa {α:Type} {p:α→Bool} {l:List α} {k:Nat} (av:k<l.length) (κ:p l[k]=true) (aa:∀ j (ay:j<k),p (l[j]'(by omega))=false):gm p l=(k:Int):=by
  unfold gm;have:l.findIdx? p=some k:=by
    rw [aUi];exact ⟨av,κ,fun j ay=>by rw [aa j ay];simp⟩
  rw [this]
theorem E' {α:Type} {p:α→Bool} {l:List α} (aa:∀ j (ay:j<l.length),p l[j]=false):gm p l= -1:=by
  unfold gm;have:l.findIdx? p=none:=by
    rw [aUD];intro x hx;obtain ⟨j,ay,rfl⟩:=aSP.1 hx;exact aa j ay
  rw [this]
theorem LM {α:Type} (p:α→Bool) (l:List α):decide (0≤gm p l)=l.any p:=by
  by_cases h:∀ j (ay:j<l.length),p l[j]=false
  · rw [E' h]
    have:l.any p=false:=by
      rw [aVB];intro x hx;obtain ⟨j,ay,rfl⟩:=aSP.1 hx;rw [h j ay];simp
    rw [this];rfl
  · have:l.any p=true:=by
      rw [aTa];simp only [Classical.not_forall] at h;obtain ⟨j,ay,h⟩:=h;exact ⟨l[j],aS0 ay,by simpa using h⟩
    rw [this];unfold gm;cases hf:l.findIdx? p with
    | none =>
      rw [aUD] at hf;rw [aTa] at this;obtain ⟨x,hx,hp⟩:=this;rw [hf x hx] at hp;cases hp
    | some k=>simp
theorem Xr {α:Type} (p:α→Bool) (l:List α):gm p l= -1∧(∀ x∈l,p x=false)∨∃ (k:Nat) (h:k<l.length),gm p l=(k:Int)∧p l[k]=true∧∀ j (ay:j<k),p (l[j]'(by omega))=false:=by
  unfold gm;cases hf:l.findIdx? p with
  | none=>exact .inl ⟨rfl,fun x hx=>aUD.1 hf x hx⟩
  | some k =>
    obtain ⟨κ,aa,aw⟩:=aUi.1 hf;exact .inr ⟨k,κ,Z,aa,fun j ay=>by have:=aw j ay;simpa using this⟩
open Go.RowKit Go.Maps

def iM (w:World) (b:Nat) (es:Array MapEntry) (clock:Nat):World:=Go.ChangeMaps.setBlock w b (.map es clock)
theorem Dg {w:World} {b:Nat} {es:Array MapEntry} {clock:Nat} (h:b<w.heap.size):(iM w b es clock).heap[b]? =some (.map es clock):=by
  simp [iM,Go.ChangeMaps.setBlock,h]
theorem MQ {w:World} {b g:Nat} {es:Array MapEntry} {clock:Nat} (h:g≠b):(iM w b es clock).heap[g]? =w.heap[g]? :=by
  simp [iM,Go.ChangeMaps.setBlock,aTH (aUx h)]
theorem ak4 {w:World} {b:Nat} {es:Array MapEntry} {clock:Nat}:(iM w b es clock).heap.size=w.heap.size:=by
  simp [iM,Go.ChangeMaps.setBlock]
theorem aCQ {B:Nat} {a w:World} {b:Nat} {es:Array MapEntry} {clock:Nat} (h:Below B a w) (Φ:B≤b):Below B a (iM w b es clock):=
  h.trans ⟨rfl,rfl,rfl,by simp [ak4],fun k av=>MQ (by omega)⟩
def dC {gu:Type} (key:gu→Value) (e:gu×Int×Nat):MapEntry:=⟨key e.1, .int .i64 e.2.1,e.2.2⟩
structure dz {gu:Type} (key:gu→Value) (w:World) (b:Nat) (l:List (gu×Int×Nat)) (clock:Nat):Prop where
  ft:w.heap[b]? =some (.map (l.map (dC key)).toArray clock)
  born:∀ e∈l,e.2.2<clock
  stamps:(l.map (·.2.2)).Nodup
structure Tu {gu:Type} (P:Program) (k:TypeId) (key:gu→Value) (wf:gu→Prop):Prop where
  keyed:Keyed P k
  lit:∀ x,wf x→∃ l,keyOf P k (key x)=some l
  inj:∀ x y,key x=key y→x=y
namespace dz
section
variable {gu:Type} {key:gu→Value} {w:World} {b:Nat} {l:List (gu×Int×Nat)} {clock:Nat}
theorem lt (h:dz key w b l clock):b<w.heap.size:=(aSs.1 h.ft).1
theorem keep {w':World} (h:dz key w b l clock) (av:w'.heap[b]? =w.heap[b]?):dz key w' b l clock:=⟨av.trans h.ft,h.born,h.stamps⟩
theorem later {w':World} (h:dz key w b l clock) (Φ:Below w.heap.size w w'):dz key w' b l clock:=h.keep (Φ.block b h.lt)
theorem made (w:World):dz key (w.alloc (.map #[] 0)) w.heap.size [] 0:=⟨aUF w _,(by simp),(by simp)⟩
theorem ayB {P:Program} {k:TypeId} {wf:gu→Prop} (K:Tu P k key wf) (hw:∀ e∈l,wf e.1):∀ y∈l.map (dC key),∃ z,keyOf P k y.key=some z:=by
  intro y aK;obtain ⟨a,ha,rfl⟩:=aSz.1 aK;exact K.lit a.1 (hw a ha)
end
variable {gu:Type} [DecidableEq gu] {key:gu→Value} {w:World} {b:Nat} {l:List (gu×Int×Nat)} {clock:Nat}
def get (l:List (gu×Int×Nat)) (x:gu):Option Int:=(l.find? fun e=>decide (e.1=x)).map (·.2.1)
def put (l:List (gu×Int×Nat)) (clock:Nat) (x:gu) (v:Int):List (gu×Int×Nat):=
  if l.any (fun e=>decide (e.1=x)) then l.map (fun e=>if e.1=x then (e.1,v,e.2.2) else e) else l++ [(x,v,clock)]
def tick (l:List (gu×Int×Nat)) (clock:Nat) (x:gu):Nat:=if l.any (fun e=>decide (e.1=x)) then clock else clock+1
theorem AB (l:List (gu×Int×Nat)) (c:Nat) (x y:gu) (v:Int):get (put l c x v) y=if y=x then some v else get l y:=by
  unfold get put;by_cases h:l.any (fun e=>decide (e.1=x))=true
  · rw [aR5 h]
    induction l with
    | nil=>simp at h
    | cons e r bF =>
      rw [aSH];by_cases hex:e.1=x
      · rw [aR5 hex]
        by_cases aK:y=x
        · subst aK
          rw [aUU (by simp [hex])];simp
        · rw [aR0 aK,aTO (by simp [hex,aUx aK]),aTO (by simp [hex,aUx aK])]
          by_cases hr:r.any (fun e=>decide (e.1=x))=true
          · have:=bF hr
            rw [aR0 aK] at this;exact this
          · have e0:r.map (fun e=>if e.1=x then (e.1,v,e.2.2) else e)=r:=by
              conv=>rhs;rw [← List.map_id r]
              refine aWx fun a ha=> ?_;rw [aR0];rfl;intro he;exact hr (aTa.2 ⟨a,ha,by simp [he]⟩)
            rw [e0]
      · rw [aR0 hex]
        have hr:r.any (fun e=>decide (e.1=x))=true:=by simpa [hex] using h
        by_cases La:e.1=y
        · have axT:¬ y=x:=fun h=>hex (La.trans h)
          rw [aUU (by simp [La]),aUU (by simp [La]),aR0 axT]
        · rw [aTO (by simp [La]),aTO (by simp [La])]
          exact bF hr
  · rw [aR0 h,List.find?_append]
    by_cases aK:y=x
    · subst aK
      have:l.find? (fun e=>decide (e.1=y))=none:=by
        rw [aTe];intro e he hd;exact h (aTa.2 ⟨e,he,hd⟩)
      rw [this];simp
    · rw [aR0 aK]
      cases l.find? (fun e=>decide (e.1=y))<;>simp [aUx aK]
theorem X_ {l:List (gu×Int×Nat)} {c:Nat} {x:gu} {v:Int} {wf:gu→Prop} (aB:∀ e∈l,wf e.1) (hx:wf x):∀ e∈put l c x v,wf e.1:=by
  intro e he;unfold put at he;split at he
  · obtain ⟨a,ha,rfl⟩:=aSz.1 he
    split
    · exact aB a ha
    · exact aB a ha
  · rcases aR6.1 he with he | he
    · exact aB e he
    · simp at he;subst he;exact hx
theorem hP {l:List (gu×Int×Nat)} (hn:(l.map (·.1)).Nodup) {j n:Nat} {x:gu} {v:Int} (ay:l[j]? =some (x,v,n)):get l x=some v:=by
  unfold get;induction l generalizing j with
  | nil=>simp at ay
  | cons e r bF =>
    rw [aSH,aUW] at hn;cases j with
    | zero=>simp at ay;subst ay;simp
    | succ j =>
      have ay:r[j]? =some (x,v,n):=by simpa using ay
      have:e.1≠x:=fun he=>hn.1 (aSz.2 ⟨(x,v,n),aSv ay,he.symm⟩);rw [aTO (by simpa using this)];exact bF hn.2 ay
theorem HT {l:List (gu×Int×Nat)} (hn:(l.map (·.1)).Nodup) (c:Nat) (x:gu) (v:Int):((put l c x v).map (·.1)).Nodup:=by
  unfold put;split
  · rw [aUy]
    have:((fun e:gu×Int×Nat=>e.1) ∘ fun e=>if e.1=x then (e.1,v,e.2.2) else e)=fun e=>e.1:=by
      funext e;simp only [Function.comp];split<;>rfl
    rw [this];exact hn
  · rename_i h
    rw [aSi,aSI];refine ⟨hn,by simp,fun a ha c hc e=> ?_⟩;simp at hc;obtain ⟨y,aK,rfl⟩:=aSz.1 ha;exact h (aTa.2 ⟨y,aK,by simp [e,hc]⟩)
variable {P:Program} {k e t:TypeId} {wf:gu→Prop} (K:Tu P k key wf)
include K
theorem found (h:dz key w b l clock) (hw:∀ e∈l,wf e.1) (x:gu) (hx:wf x):
    ((Instr.findKey k (key x) (l.map (dC key))).run P w= .ok none w∧get l x=none∧∀ a∈l,a.1≠x)∨
    ∃ (j:Nat) (v:Int) (n:Nat),(Instr.findKey k (key x) (l.map (dC key))).run P w= .ok (some (j, .int .i64 v)) w∧l[j]? =some (x,v,n):=by
  obtain ⟨iv,rU⟩:=K.lit x hx;rcases K.keyed.find w rU (l.map (dC key)) (ayB K hw) with ⟨κ,aa⟩ | ⟨j,e0,κ,aa,aw⟩
  · have jO:∀ a∈l,a.1≠x:=fun a ha AI=>aa (dC key a) (aSz.2 ⟨a,ha,rfl⟩) (by simp [dC,AI])
    refine .inl ⟨κ, ?_,jO⟩;unfold get;rw [aTe.2 fun a ha=>by simpa using jO a ha];rfl
  · rw [aSa] at aa
    cases ay:l[j]? with
    | none=>rw [ay] at aa;cases aa
    | some a =>
      rw [ay] at aa;obtain rfl:=aRR aa;obtain rfl:a.1=x:=K.inj _ _ aw;exact .inr ⟨j,a.2.1,a.2.2,κ,ay⟩
theorem lookup (aE:P.underlying t=some (.map k e)) (bE:(zeroValue e).run P w= .ok (.int .i64 0) w) (h:dz key w b l clock) (hw:∀ e∈l,wf e.1) (hn:(l.map (·.1)).Nodup) (x:gu) (hx:wf x):
    (Instr.lookup t (.map (some b)) (key x) false).run P w= .ok (.int .i64 ((get l x).getD 0)) w∧
    (Instr.lookup t (.map (some b)) (key x) true).run P w= .ok (.tuple #[.int .i64 ((get l x).getD 0), .bool (get l x).isSome]) w:=by
  obtain ⟨iv,rU⟩:=K.lit x hx;rcases found K h hw x hx with ⟨κ,aa,_⟩ | ⟨j,v,n,κ,aa⟩
  · rw [aa]
    constructor<;>simp [Instr.lookup,aS1 aE,aSO h.ft,K.keyed.check w _ rU,κ,bE,Result.andThen]
  · rw [hP hn aa]
    constructor<;>simp [Instr.lookup,aS1 aE,aSO h.ft,K.keyed.check w _ rU,κ,Result.andThen]
theorem entry (aE:P.underlying t=some (.map k e)) (bE:∀ u:World,(zeroValue e).run P u= .ok (.int .i64 0) u) (h:dz key w b l clock) (hw:∀ e∈l,wf e.1) (hn:(l.map (·.1)).Nodup) (x:gu) (hx:wf x):
    ∃ (st:Nat) (eA:List (gu×Int×Nat)) (c1:Nat),(∀ n,(Instr.mapEntry t (.map (some b)) (key x)).run P (w.drewN n)= .ok (.tuple #[.int .i64 ((get l x).getD 0), .int .i64 (st:Int)]) ((iM w b (eA.map (dC key)).toArray c1).drewN n))∧
      dz key (iM w b (eA.map (dC key)).toArray c1) b eA c1∧(∀ e∈eA,wf e.1)∧(eA.map (·.1)).Nodup∧get eA x=some ((get l x).getD 0)∧
      ∀ v n,(Instr.entryStore t (.map (some b)) (.int .i64 (st:Int)) (.int .i64 v)).run P ((iM w b (eA.map (dC key)).toArray c1).drewN n)= .ok () ((iM w b ((put l clock x v).map (dC key)).toArray (tick l clock x)).drewN n)∧
        dz key (iM w b ((put l clock x v).map (dC key)).toArray (tick l clock x)) b (put l clock x v) (tick l clock x):=by
  obtain ⟨iv,rU⟩:=K.lit x hx;have Φ:=h.ft;have bC:=h.lt;have EW:∀ n,(w.drewN n).heap[b]? =some (.map (l.map (dC key)).toArray clock):=fun n=>Φ;have idxOf:∀ (m:List (gu×Int×Nat)) (j:Nat) (a:gu×Int×Nat),(m.map (·.2.2)).Nodup→m[j]? =some a→((m.map (dC key)).toArray).findIdx? (fun y=>((y.born:Nat):Int)== ((a.2.2:Nat):Int))=some j:=by
    intro m j a hm ay;rw [aWc];refine aV7 (l:=m.map (dC key)) (j:=j) (e0:=dC key a) ?_ (by rw [aSa,ay];rfl);rw [aUy];exact hm
  rcases found K h hw x hx with ⟨κ,aa,aw⟩ | ⟨j,v0,n0,κ,aa⟩
  · have pQ:l.any (fun e=>decide (e.1=x))=false:=by
      rw [aWN];intro ha;obtain ⟨a,ha,hd⟩:=aTa.1 ha;exact aw a ha (by simpa using hd)
    have CU:∀ v,put l clock x v=l++ [(x,v,clock)]:=fun v=>by unfold put;rw [aR0 (by rw [pQ];decide)]
    have Xk:tick l clock x=clock+1:=by unfold tick;rw [aR0 (by rw [pQ];decide)]
    have iu:∀ v,dz key (iM w b ((l++ [(x,v,clock)]).map (dC key)).toArray (clock+1)) b (l++ [(x,v,clock)]) (clock+1):=fun v=>by
      refine ⟨Dg bC,fun a ha=> ?_, ?_⟩
      · rcases aR6.1 ha with ha | ha
        · have:=h.born a ha;omega
        · simp at ha;subst ha;simp
      · rw [aSi,aSI]
        refine ⟨h.stamps,by simp,fun a ha c hc e=> ?_⟩;simp at hc;obtain ⟨y,aK,rfl⟩:=aSz.1 ha;have:=h.born y aK;omega
    have VQ:∀ n,(Instr.findKey k (key x) (l.map (dC key))).run P (w.drewN n)= .ok none (w.drewN n):=fun n=>by
      rcases found (w:=w.drewN n) K ⟨EW n,h.born,h.stamps⟩ hw x hx with ⟨κ,_,_⟩ | ⟨j,v,m,_,ay⟩
      · exact κ
      · exact absurd rfl (aw _ (aSv ay))
    refine ⟨clock,l++ [(x,0,clock)],clock+1,fun n=> ?_,iu 0,fun a ha=> ?_, ?_, ?_,fun v n=> ?_⟩
    · rw [aa]
      have:(l.map (dC key)).toArray.push (⟨key x, .int .i64 0,clock⟩:MapEntry)=((l++ [(x,0,clock)]).map (dC key)).toArray:=by simp [dC]
      simp [Instr.mapEntry,aS1 aE,aSO (EW n),K.keyed.check (w.drewN n) false rU,VQ n,bE,aTb _ (EW n),Result.andThen,iM,Go.ChangeMaps.setBlock,goInt,dC];rfl
    · rcases aR6.1 ha with ha | ha
      · exact hw a ha
      · simp at ha;subst ha;exact hx
    · have:=HT hn clock x 0
      rw [CU] at this;exact this
    · have:=AB l clock x x 0
      rw [CU,aR5 rfl] at this;rw [this,aa];rfl
    · rw [CU,Xk]
      refine ⟨?_,iu v⟩;have ez:=idxOf (l++ [(x,0,clock)]) l.length (x,0,clock) (iu 0).stamps (by simp);have Lh:((l++ [(x,0,clock)]).map (dC key)).toArray.modify l.length (fun e=> {e with val:=Value.int .i64 v})=((l++ [(x,v,clock)]).map (dC key)).toArray:=by
        apply aTl;rw [aT5];have hlen:l.length=(l.map (dC key)).length:=by simp
        rw [hlen];simp only [aSi,aSH,aTF];rw [Go.WideElems.modify_last];rfl
      have cQ:((iM w b ((l++ [(x,0,clock)]).map (dC key)).toArray (clock+1)).drewN n).heap[b]? =some (.map ((l++ [(x,0,clock)]).map (dC key)).toArray (clock+1)):=Dg bC;have lA:(Instr.entryStore t (.map (some b)) (goInt clock) (.int .i64 v)).run P ((iM w b ((l++ [(x,0,clock)]).map (dC key)).toArray (clock+1)).drewN n)= .ok () (iM ((iM w b ((l++ [(x,0,clock)]).map (dC key)).toArray (clock+1)).drewN n) b ((l++ [(x,v,clock)]).map (dC key)).toArray (clock+1)):=by
        rw [← Lh];simp only [Instr.entryStore,aR8,aSO cQ,aRZ,asInt,asIntOf,goInt,aR9];rw [ez];exact aTb _ cQ
      refine lA.trans ?_;simp [iM,Go.ChangeMaps.setBlock,World.drewN]
  · have pQ:l.any (fun e=>decide (e.1=x))=true:=aTa.2 ⟨_,aSv aa,by simp⟩
    have CU:∀ v,put l clock x v=l.map (fun e=>if e.1=x then (e.1,v,e.2.2) else e):=fun v=>by unfold put;rw [aR5 pQ]
    have Xk:tick l clock x=clock:=by unfold tick;rw [aR5 pQ]
    have agu:=hP hn aa;have vL:∀ v,l.map (fun e=>if e.1=x then (e.1,v,e.2.2) else e)=l.set j (x,v,n0):=by
      intro v;refine aTq fun i=> ?_;rw [aSa];by_cases jG:j=i
      · subst jG
        rw [aa,aSg (aRS.1 aa).1];simp
      · rw [aSl jG]
        cases ar:l[i]? with
        | none=>rfl
        | some a =>
          have:a.1≠x:=by
            intro AI;have E2:=(aRS.1 ar);have Ld:=(aRS.1 aa);have bc:(l.map (·.1))[i]? =(l.map (·.1))[j]? :=by rw [aSa,aSa,ar,aa];simp [AI]
            obtain ⟨qF,_⟩:=E2;obtain ⟨oS,_⟩:=Ld;have:=(aVA (by simpa using qF) hn).1 bc;exact jG this.symm
          simp [this]
    have VQ:∀ n,(Instr.findKey k (key x) (l.map (dC key))).run P (w.drewN n)= .ok (some (j, .int .i64 v0)) (w.drewN n):=fun n=>by
      rcases found (w:=w.drewN n) K ⟨EW n,h.born,h.stamps⟩ hw x hx with ⟨_,_,aw⟩ | ⟨ayp,v,m,EM,ay⟩
      · exact absurd rfl (aw (x,v0,n0) (aSv aa))
      · have bc:(l.map (·.1))[ayp]? =(l.map (·.1))[j]? :=by rw [aSa,aSa,ay,aa];rfl
        have:=(aVA (by simpa using (aRS.1 ay).1) hn).1 bc;subst this;rw [aa] at ay;injection ay with ay
        injection ay with _ ay
        injection ay with awl _
        rw [EM,awl]
    have iu:∀ v,dz key (iM w b ((l.set j (x,v,n0)).map (dC key)).toArray clock) b (l.set j (x,v,n0)) clock:=fun v=>by
      refine ⟨Dg bC,fun a ha=> ?_, ?_⟩
      · rcases aTA ha with ha | ha
        · exact h.born a ha
        · rw [ha];exact h.born (x,v0,n0) (aSv aa)
      · rw [aS7]
        have:(l.map (·.2.2)).set j n0=l.map (·.2.2):=by
          have awD:=(aRS.1 aa);obtain ⟨qF,oS⟩:=awD;have e:(l.map (·.2.2))[j]'(by simpa using qF)=n0:=by rw [aUO,oS]
          conv=>lhs;rw [← e]
          exact aTz _
        rw [this];exact h.stamps
    refine ⟨n0,l,clock,fun n=> ?_,⟨Dg bC,h.born,h.stamps⟩,hw,hn,by rw [agu];rfl,fun v n=> ?_⟩
    · rw [agu]
      have ay:(l.map (dC key)).toArray[j]? =some (dC key (x,v0,n0)):=by simp [aa]
      have Xe:(l.map (dC key)).toArray.modify j (fun e=> {e with key:=key x})=(l.map (dC key)).toArray:=by
        apply aTl;rw [aT5,aTU _ _ _ _ (by rw [aSa,aa];rfl)];exact aWo _ _ _ (by rw [aSa,aa];rfl)
      have WR:(dC key (x,v0,n0)).key=key x:=rfl;have Wp:(dC key (x,v0,n0)).born=n0:=rfl;simp only [Instr.mapEntry,aR8,aS1 aE,aRZ,aSO (EW n),K.keyed.check (w.drewN n) false rU,VQ n,ay,aTr,aSX,WR,K.keyed.stays (w.drewN n) rU,Xe,aTb _ (EW n),Wp,aR9];rfl
    · rw [CU,Xk,vL]
      refine ⟨?_,iu v⟩;have ez:=idxOf l j (x,v0,n0) h.stamps aa;have Lh:(l.map (dC key)).toArray.modify j (fun e=> {e with val:=Value.int .i64 v})=((l.set j (x,v,n0)).map (dC key)).toArray:=by
        apply aTl;rw [aT5,aTU _ _ _ _ (by rw [aSa,aa];rfl),aS7];rfl
      have cQ:((iM w b (l.map (dC key)).toArray clock).drewN n).heap[b]? =some (.map (l.map (dC key)).toArray clock):=Dg bC;have lA:(Instr.entryStore t (.map (some b)) (goInt n0) (.int .i64 v)).run P ((iM w b (l.map (dC key)).toArray clock).drewN n)= .ok () (iM ((iM w b (l.map (dC key)).toArray clock).drewN n) b ((l.set j (x,v,n0)).map (dC key)).toArray clock):=by
        rw [← Lh];simp only [Instr.entryStore,aR8,aSO cQ,aRZ,asInt,asIntOf,goInt,aR9];rw [ez];exact aTb _ cQ
      refine lA.trans ?_;simp [iM,Go.ChangeMaps.setBlock,World.drewN]
end dz

theorem akR {P:Program} {w:World} {o:Oper} {a:Act} (f:FuncId) (fn:Func) (hf:P.funcs[f]? =some fn) (hn:(fn.name == "runtime.NumGoroutine")=false) (Φ:fn.body.isNone=false)
    (xs:Array Operand) (ts:Array TypeId) (vK:o.op=Op.call {callee:=Callee.value (Operand.func f),args:=xs,argTypes:=ts}) (args:Array Value) (Qc:xs.map a.eval=args):
    (execOp a.eval o).run P w= .ok (.enter f args) w:=by
  unfold execOp;have he:a.eval (.func f)= .func (.func f) #[] #[]:=rfl;have hp:Sem.run P program w= .ok P w:=rfl;simp only [vK,resolve,invoke,Deferred.ofValue,he,callFunc,aR8,aR9,aRZ,Qc,hp,hf,hn,Φ,aUB,Array.append_empty,aSK,aTf]
theorem RX {P:Program} {ops:Array Oper} {o:Oper} {a:Act} {w:World} {K:Act→World→Prop} {Q:Exit→Act→World→Prop} {E:Prop}
    (aO:o.guard=none) (f:FuncId) (fn:Func) (hf:P.funcs[f]? =some fn) (hn:(fn.name == "runtime.NumGoroutine")=false) (Φ:fn.body.isNone=false)
    (xs:Array Operand) (ts:Array TypeId) (vK:o.op=Op.call {callee:=Callee.value (Operand.func f),args:=xs,argTypes:=ts}) (args:Array Value) (Qc:xs.map a.eval=args)
    (hc:Calls P f args w fun e w'=>∃ v,e= .returned v∧K (a.put o.dst v) w'):
    if Region.wanted o (yielded ops a.tmps)=true then Oper.wp P o a w K Q else E:=by
  have hw:Region.wanted o (yielded ops a.tmps)=true:=by simp [Region.wanted,aO]
  rw [aR5 hw];unfold Oper.wp;rw [akR f fn hf hn Φ xs ts vK args Qc,Oper.upon_enter];refine hc.mono fun e lH fS=> ?_;obtain ⟨v,rfl,h⟩:=fS;exact h
theorem n3 {wr aW w':World} (h:Below wr.heap.size wr aW) (aa:Below aW.heap.size aW w'):Below wr.heap.size wr w':=h.trans (aa.mono h.size)
theorem acG {wr aW w':World} (h:Below wr.heap.size wr aW) (aa:Below aW.drew.heap.size aW.drew w'):Below wr.heap.size wr w':=h.drew.trans (aa.mono h.size)
theorem SB {P:Program} {id:Nat} {Q:Exit→Act→World→Prop} {a:Act} {w:World} {l:List Oper} (hm:P.follows .mixedOrders=true) (bg:Region.lexB .any l.toArray=true)
    (h:wpQuiet P l.toArray (fun w'=>Below w.heap.size w w') (fun a'=>∀ w',Below w.heap.size w w'→Q .normal a' w') l a):(Code.region id l.toArray true).wp P Q a w :=
  wp_region_quiet (C:=fun w'=>Below w.heap.size w w') hm bg (below_drewN (aSm _ w) 1) (by simpa using h)
theorem aCa {P:Program} {o:Oper} {a:Act} {C:World→Prop} {w:World} {v:Value} (h:(execOp a.eval o).run P w= .ok (.value v) w):o.quietAt P a C w v:=by
  unfold Oper.quietAt;rw [h];exact ⟨Z,Z⟩
theorem aB9 {P:Program} {o:Oper} {a:Act} {C:World→Prop} {w:World} {v:Value} {f:FuncId} {args:Array Value} (h:(execOp a.eval o).run P w= .ok (.enter f args) w) (hc:Calls P f args w fun e lH=>e= .returned v∧C lH):o.quietAt P a C w v:=by
  unfold Oper.quietAt;rw [h];exact ⟨Z,hc⟩
theorem RD {P:Program} {o:Oper} {a:Act} {C:World→Prop} {w:World} {v:Value} {r:Result Next} (h:(execOp a.eval o).run P w=r) (hr:r= .ok (.value v) w):o.quietAt P a C w v:=aCa (h.trans hr)
theorem RB {P:Program} {o:Oper} {a:Act} {C:World→Prop} {w:World} {v:Value} {f:FuncId} {args:Array Value} {r:Result Next} (h:(execOp a.eval o).run P w=r) (hr:r= .ok (.enter f args) w) (hc:Calls P f args w fun e lH=>e= .returned v∧C lH):o.quietAt P a C w v:=aB9 (h.trans hr) hc
abbrev Ext (w w':World):Prop:=Below w.heap.size w w'
theorem Ext.bI (w:World):Ext w w:=aSm _ w
theorem Ext.wa {a b c:World} (h:Ext a b) (k:Ext b c):Ext a c:=Below.trans h (aWd k h.size)
section
variable {P:Program} {ops:Array Oper} {Q:Exit→Act→World→Prop} {aZ:Nat→Nat}
def zg (P:Program) (w:World) (v:Value):Result Next→Prop
  | .ok (.value u) w'=>w'=w∧u=v
  | .ok .skip w'=>w'=w∧v=undef
  | .ok (.enter f args) w'=>w'=w∧Calls P f args w (fun e lH=>e= .returned v∧Ext w lH)
  | _=>False
def tM (P:Program) (ops:Array Oper) (w0:World) (o:Oper) (v:Value) (a:Act):Prop :=
  (Region.wanted o (yielded ops a.tmps)=true∧∀ w,Ext w0 w→zg P w v ((execOp a.eval o).run P w))∨
  (Region.wanted o (yielded ops a.tmps)=false∧v=undef)
theorem tM.of_same {w0:World} {o:Oper} {v:Value} {a a':Act} (h:tM P ops w0 o v a) (he:execOp a'.eval o=execOp a.eval o) (hw:Region.wanted o (yielded ops a'.tmps)=Region.wanted o (yielded ops a.tmps)):tM P ops w0 o v a':=by
  unfold tM at *;rw [he,hw];exact h
theorem tM.on {w0 aW:World} {o:Oper} {v:Value} {a:Act} (h:tM P ops w0 o v a) (hx:Ext w0 aW):tM P ops aW o v a :=
  h.imp (fun ⟨κ,aa⟩=>⟨κ,fun w hw=>aa w (hx.wa hw)⟩) id
theorem Yields.akB {w0:World} {o:Oper} {v:Value} {a:Act} (h:Yields P ops o v a):tM P ops w0 o v a :=
  h.imp (fun ⟨κ,aa⟩=>⟨κ,fun w _=>by rw [aa w];exact ⟨rfl,rfl⟩⟩) id
def aDj (P:Program) (ops:Array Oper) (Q:Exit→Act→World→Prop) (aZ:Nat→Nat) (i:Nat) (K:Act→World→Prop) (a:Act) (w0:World):Prop :=
  ∃ o,ops[i]? =some o∧
    ((aZ i≤1∧∃ v,tM P ops w0 o v a∧K (a.put o.dst v) w0)∨
     (1<aZ i∧∀ w,Ext w0 w→wpOp P ops Q i (fun a' w'=>(aZ i=2→Ext w0 w')∧K a' w') a w))
def B_ (P:Program) (ops:Array Oper) (Q:Exit→Act→World→Prop) (aZ:Nat→Nat):Nat→Array Bool→Act→World→Prop
  | 0,l,a,w0=>Region.ready .any ops l= []∧∀ w,Ext w0 w→Q .normal a w
  | f+1,l,a,w0=>(Region.ready .any ops l= []→∀ w,Ext w0 w→Q .normal a w)∧∀ i∈Region.ready .any ops l,aDj P ops Q aZ i (B_ P ops Q aZ f (l.setIfInBounds i true)) a w0
theorem B':∀ (f:Nat) (l:Array Bool) (a:Act) (w0:World),B_ P ops Q aZ f l a w0→∀ w,Ext w0 w→wpAny P .any ops Q f l a w
  | 0,_,_,_,h,w,hw=>⟨h.1,h.2 w hw⟩
  | f+1,l,a,w0,h,w,hw=>⟨fun aG=>h.1 aG w hw,fun i ar=>by
      obtain ⟨o,b7,aa⟩:=h.2 i ar;rcases aa with ⟨_,v,I,av⟩ | ⟨_,aa⟩
      · unfold wpOp
        simp only [b7];rcases I with ⟨nC,I⟩ | ⟨nC,rfl⟩
        · rw [aR5 nC]
          refine .inl ?_;have I:=I w hw;unfold Oper.wp;generalize (execOp a.eval o).run P w=r at *
          cases r with
          | ok n w' =>
            cases n<;>simp only [zg] at I<;>simp only [Oper.upon]
            case value u=>obtain ⟨rfl,rfl⟩:=I;exact B' f _ _ _ av _ hw
            case skip=>obtain ⟨rfl,rfl⟩:=I;exact B' f _ _ _ av _ hw
            case enter f' args=>obtain ⟨rfl,hc⟩:=I;exact hc.mono fun e lH ⟨he,hx⟩=>by subst he;exact B' f _ _ _ av _ (hw.wa hx)
          | halt x w'=>simp only [zg] at I
        · rw [aR0 (by rw [nC];decide)]
          exact B' f _ _ _ av _ hw
      · exact aT7 (fun a' w' aw=>B' f _ _ _ aw.2 _ (Ext.bI w')) (aa w hw)⟩
theorem ZM {aC:Act→Prop} {j:Nat} {dst:Option Tmp} {de:Oper} {v:Value} (ay:ops[j]? =some de) (κ:∀ d,dst=some d→d∉de.looksAt ops) (aa:∀ d,dst=some d→de.dst≠some d)
    (xx:∀ cs b,de.op≠ .select cs b) (ia:∀ c a w,¬ Q (.panic c) a w) (keep:∀ a u,aC a→aC (a.put de.dst u)) (ayv:∀ a d,aC a→aC {a with defers:=d::a.defers})
    {K:Act→World→Prop} {a:Act} {w:World} (aK:aC a) (h:wpOp P ops Q j K (a.put dst v) w):wpOp P ops Q j (fun a' w'=>aC a'∧K (a'.put dst v) w') a w:=by
  unfold wpOp at *
  simp only [ay] at *
  rw [aUE de a dst v κ] at h;by_cases hw:Region.wanted de (yielded ops a.tmps)=true
  · rw [aR5 hw] at h ⊢
    rcases h with h | ⟨afT,awB⟩
    case inr=>exact .inr ⟨by unfold Oper.asks at *;rw [aUt de xx a dst v κ] at afT;exact afT,awB⟩
    refine .inl ?_;unfold Oper.wp at *
    rw [aUt de xx a dst v κ] at h;generalize (execOp a.eval de).run P w=r at *
    cases r with
    | ok n w' =>
      cases n<;>simp only [Oper.upon] at h ⊢
      case value u=>exact ⟨keep a u aK,by rw [← aTR a v u aa];exact h⟩
      case skip=>exact ⟨keep a _ aK,by rw [← aTR a v undef aa];exact h⟩
      case defer d =>
        refine ⟨keep _ _ (ayv a d aK), ?_⟩;rw [← aTR _ v undef aa,← Act.put_defers];exact h
      case enter f args =>
        refine aVJ h fun e lH he=> ?_;cases e with
        | returned u=>exact ⟨keep a u aK,by rw [← aTR a v u aa];exact he⟩
        | panicked c=>exact (ia _ _ _ he).elim
        | outgrown=>exact he
      case row row args=>exact Rows.mono h fun u lH he=>⟨keep a u aK,by rw [← aTR a v u aa];exact he⟩
    | halt x w' =>
      cases x<;>simp only [Oper.upon] at h ⊢
      case panic u=>exact (ia _ _ _ h).elim
  · rw [aR0 hw] at h ⊢
    exact ⟨keep a _ aK,by rw [← aTR a v undef aa];exact h⟩
theorem PM {i:Nat} {dx:Oper} {v:Value} (ar:ops[i]? =some dx) (av:aZ i≤1) (nB:∀ (j:Nat) (o:Oper) cs b,ops[j]? =some o→o.op≠ .select cs b)
    (ia:∀ c a w,¬ Q (.panic c) a w) (aC:World→Act→Prop) (mr:∀ w0 a,aC w0 a→tM P ops w0 dx v a)
    (z2:∀ w0 a a',aC w0 a→execOp a'.eval dx=execOp a.eval dx→Region.wanted dx (yielded ops a'.tmps)=Region.wanted dx (yielded ops a.tmps)→aC w0 a')
    (z3:∀ w0 aW a,Ext w0 aW→aC w0 a→aC aW a) (R:Nat→Bool) (xB:Array Bool)
    (hR:∀ j de,ops[j]? =some de→j≠i→(∀ e∈de.after,Region.binds .any e=true→R e.on=true)→R j=true)
    (bg:(∀ w0 aW a,aC w0 a→aC aW a)∨∀ j,R j=true→3≤aZ j→xB.getD j true=true):
    ∀ (f:Nat) (l:Array Bool) (a:Act) (w0:World),(∀ j,l.getD j false=true→R j=true)→(∀ j,xB.getD j true=true→l.getD j true=true)→
      (∀ j de,ops[j]? =some de→j≠i→l.getD j true=false→(∀ e∈de.after,Region.binds .any e=true→e.on≠i)→dx.apart ops de=true)→
      i∈Region.ready .any ops l→aC w0 a→B_ P ops Q aZ f (l.setIfInBounds i true) (a.put dx.dst v) w0→B_ P ops Q aZ (f+1) l a w0:=by
  intro f;induction f with
  | zero =>
    intro l a w0 _ _ _ hr bE H;refine ⟨fun h=>(by rw [h] at hr;cases hr),fun j ay=> ?_⟩;by_cases hQ:j=i
    · subst hQ;exact ⟨dx,ar, .inl ⟨av,v,mr _ _ bE,H⟩⟩
    · have:=aUj ay hQ
      rw [H.1] at this;cases this
  | succ f bF =>
    intro l a w0 CM CK CG hr bE H;refine ⟨fun h=>(by rw [h] at hr;cases hr),fun j ay=> ?_⟩;by_cases hQ:j=i
    · subst hQ;exact ⟨dx,ar, .inl ⟨av,v,mr _ _ bE,H⟩⟩
    · obtain ⟨de,kN,κ⟩:=H.2 j (aUj ay hQ)
      obtain ⟨xr,gG,CT,dF⟩:=aVm.1 ay;obtain rfl:gG=de:=by rw [kN] at CT;exact (aRR CT).symm
      have Lp:∀ e∈gG.after,Region.binds .any e=true→e.on≠i:=fun e he Φ heq=>by
        have κ:=dF e he Φ;have aG:=(aVm.1 hr).1;rw [heq] at κ;rcases aSU i l.size with c6 | c6
        · simp [c6] at aG κ;rw [aG] at κ;cases κ
        · simp [aSR c6] at κ
      have KZ:=CG j gG kN hQ xr Lp;obtain ⟨cf,a2,a3⟩:=aV6 KZ;have LF:∀ cs b,dx.op≠ .select cs b:=fun cs b=>nB i dx cs b ar;have xx:∀ cs b,gG.op≠ .select cs b:=fun cs b=>nB j gG cs b kN;have keep:∀ aW a u,aC aW a→aC aW (a.put gG.dst u):=fun aW a u bE=>z2 _ _ _ bE (aUt dx LF a gG.dst u a3) (aUE dx a gG.dst u a3);have Cy:R j=true:=hR j gG kN hQ fun e he Φ=>CM _ (dF e he Φ);have CN:∀ k,(l.setIfInBounds j true).getD k false=true→R k=true:=fun k av=>by
        by_cases gU:j=k
        · rw [← gU];exact Cy
        · rw [aT1 false gU] at av;exact CM k av
      have CL:∀ k,xB.getD k true=true→(l.setIfInBounds j true).getD k true=true:=fun k av=>by
        by_cases gU:j=k
        · subst gU
          rcases aSU j l.size with c6 | c6
          · simp [c6]
          · simp [aSR c6]
        · rw [aT1 true gU];exact CK k av
      have CH:∀ k ok,ops[k]? =some ok→k≠i→(l.setIfInBounds j true).getD k true=false→
          (∀ e∈ok.after,Region.binds .any e=true→e.on≠i)→dx.apart ops ok=true:=fun k ok av pX CW jO=>by
        refine CG k ok av pX ?_ jO;by_cases gU:j=k
        · subst gU;exact xr
        · rw [aT1 true gU] at CW;exact CW
      have CV:=aUj hr (aUx hQ);rcases κ with ⟨xt,u,I,hK⟩ | ⟨xt,κ⟩
      · refine ⟨gG,kN, .inl ⟨xt,u,I.of_same (aUt gG xx a dx.dst v cf).symm (aUE gG a dx.dst v cf).symm, ?_⟩⟩
        refine bF _ _ _ CN CL CH CV (keep _ _ _ bE) ?_;rw [aTm _ _ hQ,← aTR a v u a2];exact hK
      · refine ⟨gG,kN, .inr ⟨xt,fun w hw=> ?_⟩⟩
        refine aT7 (fun a' w' aw=>⟨aw.2.1, ?_⟩) (ZM (aC:=aC w0) kN cf a2 xx ia (keep w0) (fun a d bE=>z2 _ _ _ bE Z Z) bE (κ w hw));have LK:aC w' a':=by
          rcases aSU (aZ j) 3 with bC | uf
          · exact z3 _ _ _ (aw.2.1 (by omega)) aw.1
          · rcases bg with bg | bg
            · exact bg _ _ _ aw.1
            · have:=CK j (bg j Cy uf);rw [xr] at this;cases this
        refine bF _ _ _ CN CL CH CV LK ?_;rw [aTm _ _ hQ];exact aw.2.2
def uO (P:Program) (ops:Array Oper) (Q:Exit→Act→World→Prop) (aZ:Nat→Nat):List Nat→Act→World→Prop
  | [],a,w0=>∀ w,Ext w0 w→Q .normal a w
  | i::r,a,w0=>∃ o,ops[i]? =some o∧
      ((aZ i=0∧∃ v,tM P ops w0 o v a∧uO P ops Q aZ r (a.put o.dst v) w0)∨
       (aZ i=1∧∃ v,Yields P ops o v a∧uO P ops Q aZ r (a.put o.dst v) w0)∨
       (1<aZ i∧∀ w,Ext w0 w→wpOp P ops Q i (fun a' w'=>(aZ i=2→Ext w0 w')∧uO P ops Q aZ r a' w') a w))
def YZ (ops:Array Oper) (i:Nat):Array Bool :=
  ops.foldl (init:=#[]) fun acc o=>acc.push (acc.size != i && o.after.all fun e=> !Region.binds .any e || acc.getD e.on false)
def ON (ops:Array Oper) (aZ:Nat→Nat) (l:Array Bool) (i:Nat):Bool :=
  (List.range ops.size).all (fun j=>l.getD j true || Nat.blt (aZ j) 3) ||
  (let R:=YZ ops i
   (List.range ops.size).all fun j=>(j == i || R.getD j false || !((ops[j]?).map (·.after.all fun e=> !Region.binds .any e || R.getD e.on false)).getD false) && (!l.getD j false || R.getD j false) && (!R.getD j false || Nat.blt (aZ j) 3 || l.getD j true))
def kl (ops:Array Oper) (aZ:Nat→Nat):List Nat→Array Bool→Bool
  | [],l=>(Region.ready .any ops l).isEmpty
  | i::r,l=>(match aZ i with
      | 0=>Region.free .any ops l i && (Region.ready .any ops l).contains i && ON ops aZ l i
      | 1=>Region.free .any ops l i && (Region.ready .any ops l).contains i
      | _=>Region.ready .any ops l == [i]) && kl ops aZ r (l.setIfInBounds i true)
theorem OO {l:Array Bool} {i:Nat} (aB:l.size=ops.size) (h:ON ops aZ l i=true):∃ R:Nat→Bool,
    (∀ j de,ops[j]? =some de→j≠i→(∀ e∈de.after,Region.binds .any e=true→R e.on=true)→R j=true)∧
    (∀ j,l.getD j false=true→R j=true)∧(∀ j,R j=true→3≤aZ j→l.getD j true=true):=by
  unfold ON at h;have out:∀ j,¬ j<ops.size→l.getD j true=true:=fun j ay=>by simp [aSR (by omega:l.size≤j)]
  rw [aSF] at h;rcases h with h | h
  · refine ⟨fun _=>true,fun _ _ _ _ _=>rfl,fun _ _=>rfl,fun j _ aw=> ?_⟩
    by_cases ay:j<ops.size
    · have:=aSL.1 h j (aSB.2 ay)
      rw [aSF] at this;rcases this with h | h
      · exact h
      · rw [aVp] at h;omega
    · exact out j ay
  · refine ⟨fun j=>(YZ ops i).getD j false,fun j de kN hQ hd=> ?_,fun j ay=> ?_,fun j ay aw=> ?_⟩
    · have bC:=(aSs.1 kN).1
      have:=aSL.1 h j (aSB.2 bC);simp only [kN,aTr,aSX,aRY,aSF,aSQ,hQ,false_or,aS8] at this;rcases this.1.1 with h | h
      · exact h
      · have dF:de.after.all (fun e=> !Region.binds .any e || (YZ ops i).getD e.on false)=true:=by
          rw [Array.all_eq_true_iff_forall_mem];intro e he;cases Φ:Region.binds .any e
          · rfl
          · have:=hd e he Φ;simp only at this;simp [this]
        rw [dF] at h;cases h
    · have bC:j<ops.size:=by
        rcases aSU j l.size with c6 | c6
        · omega
        · simp [aSR c6] at ay
      have:=aSL.1 h j (aSB.2 bC);simp only [aRY,aSF,aS8] at this;rcases this.1.2 with h | h
      · rw [h] at ay;cases ay
      · exact h
    · by_cases bC:j<ops.size
      · have:=aSL.1 h j (aSB.2 bC)
        simp only [aRY,aSF,aS8] at this;rcases this.2 with (h | h) | h
        · simp only at ay;rw [h] at ay;cases ay
        · (rw [aVp] at h;omega)
        · exact h
      · exact out j bC
theorem Es (hs:Region.noSelect ops=true) (ia:∀ c a w,¬ Q (.panic c) a w):∀ (r:List Nat) (l:Array Bool) (a:Act) (w0:World),l.size=ops.size→kl ops aZ r l=true→uO P ops Q aZ r a w0→B_ P ops Q aZ r.length l a w0
  | [],l,a,w0,_,bg,h=>⟨by simpa [kl] using bg,h⟩
  | i::r,l,a,w0,aB,bg,h=>by
    obtain ⟨o,b7,h⟩:=h;have nB:=aUv hs;rcases h with ⟨av,v,I,hK⟩ | ⟨av,v,I,hK⟩ | ⟨av,h⟩
    · simp only [kl,av,aRY] at bg
      obtain ⟨⟨⟨hf,hr⟩,Φ⟩,bg⟩:=bg;obtain ⟨R,r1,r2,uB⟩:=OO aB Φ;exact PM b7 (by omega) nB ia (fun w0 a=>tM P ops w0 o v a) (fun _ _ h=>h) (fun _ _ _ h he hw=>h.of_same he hw) (fun _ _ _ hx h=>h.on hx) R l r1 (.inr uB) _ _ _ _ r2 (fun _ h=>h) (aTy b7 hf) (by simpa using hr) I
        (Es hs ia r _ _ _ (by simpa using aB) bg hK)
    · simp only [kl,av,aRY] at bg
      obtain ⟨⟨hf,hr⟩,bg⟩:=bg;exact PM b7 (by omega) nB ia (fun _ a=>Yields P ops o v a) (fun _ _ h=>Yields.akB h) (fun _ _ _ h he hw=>h.of_same he hw) (fun _ _ _ _ h=>h) (fun _=>true) l (fun _ _ _ _ _=>Z) (.inl fun _ _ _ h=>h) _ _ _ _ (fun _ _=>Z) (fun _ h=>h) (aTy b7 hf) (by simpa using hr) I
        (Es hs ia r _ _ _ (by simpa using aB) bg hK)
    · obtain ⟨k,gl⟩:∃ k,aZ i=k+2:=⟨aZ i - 2,by omega⟩
      simp only [kl,gl,aRY,aSQ] at bg;obtain ⟨hr,bg⟩:=bg;refine ⟨fun aG=>(by rw [hr] at aG;cases aG),fun j ay=> ?_⟩;rw [hr] at ay;obtain rfl:j=i:=by simpa using ay
      exact ⟨o,b7, .inr ⟨av,fun w hw=>aT7 (fun a' w' aw=>⟨aw.1,Es hs ia r _ _ _ (by simpa using aB) bg aw.2⟩) (h w hw)⟩⟩
def hj (K:Act→World→Prop):Exit→Act→World→Prop
  | .normal,a,w=>K a w
  | _,_,_=>False
theorem aCf {id:Nat} {a:Act} {w:World} (b5:List Nat) (hm:P.follows .mixedOrders=true) (bg:(Region.noSelect ops && (b5.length == ops.size) && kl ops aZ b5 (Array.replicate ops.size false))=true)
    (h:uO P ops (hj (Q .normal)) aZ b5 a w):(Code.region id ops true).wp P Q a w:=by
  simp only [aRY,aSQ] at bg;obtain ⟨⟨hs,aB⟩,bg⟩:=bg;refine wp_mono (aVw hm (Q:=hj (Q .normal)) ?_) (fun e a w I=>by cases e<;>first | exact I | exact I.elim);have:=Es (P:=P) hs (Q:=hj (Q .normal)) (fun _ _ _ h=>h) b5 (Array.replicate ops.size false) a w (by simp) bg h;rw [aB] at this;exact B' _ _ _ _ this _ (aSm _ w).drew
end
end Go.Proofs.YtlikikpgmmkjbaaGreat
