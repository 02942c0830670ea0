import Derived.Lib.Hide
import Derived.WalkSpells
import Derived.WalkLawsBesides
import Derived.BigQuiet
import Derived.Deep.RegionHeld3
import Derived.Laws.CopyOwn
import Derived.Lib.Strings
import Derived.Deep.AppendLies
import Derived.Shelf.SlicesE.Clone
import Derived.Deep.Fields
import Derived.WideKeyEntry
import Derived.Handy
set_option linter.unusedVariables false
set_option linter.unusedSimpArgs false
set_option maxRecDepth 100000
set_option maxHeartbeats 4000000
open Go.RowKit
namespace Go.Proofs.YtlikikpgmmkjbaaGreat
theorem Z.{u} {α:Sort u} {a:α}:a=a:=Eq.refl a
abbrev aQL:=@Option.some.inj
abbrev aQM:=@List.getElem?_eq_some_iff
abbrev aQN:=@List.getElem?_eq_getElem
abbrev aQP:=@List.length_take
abbrev aQQ:=@List.length_cons
abbrev aQR:=@Go.Result.andThen_ok
abbrev aQS:=@List.length_set
abbrev aQT:=@Bool.and_eq_true
abbrev aQU:=@List.length_append
abbrev aQV:=@if_neg
abbrev aQW:=@Nat.le_refl
abbrev aQY:=@Go.Sem.run_bind
abbrev aQZ:=@if_pos
abbrev aQ0:=@List.mem_append
abbrev aQ1:=@List.mem_cons_of_mem
abbrev aQ3:=@Go.Sem.run_pure
abbrev aQ4:=@List.getElem?_map
abbrev aQ5:=@List.getElem?_append_left
abbrev aQ6:=@List.length_drop
abbrev aQ7:=@List.mem_cons
abbrev aQ8:=@List.getElem?_append_right
abbrev aQ9:=@List.getElem?_set_self
abbrev aRb:=@List.take_of_length_le
abbrev aRc:=@List.map_append
abbrev aRd:=@List.eq_nil_of_length_eq_zero
abbrev aRe:=@Go.RowKit.Below.refl
abbrev aRf:=@List.getElem?_set_ne
abbrev aRj:=@Nat.le_trans
abbrev aRl:=@Array.getElem?_eq_some_iff
abbrev aRn:=@List.append_nil
abbrev aRo:=@List.mem_of_getElem?
abbrev aRp:=@List.append_assoc
abbrev aRq:=@List.getElem?_take
abbrev aRr:=@Bool.false_eq_true
abbrev aRs:=@List.mem_map
abbrev aRt:=@List.mem_range
abbrev aRv:=@Bool.or_eq_true
abbrev aRw:=@List.map_cons
abbrev aRx:=@Nat.mul_le_mul_right
abbrev aRz:=@List.length_map
abbrev aRA:=@List.nodup_append
abbrev aRB:=@List.flatten_cons
abbrev aRD:=@List.all_eq_true
abbrev aRE:=@Nat.zero_le
abbrev aRG:=@Nat.lt_or_ge
abbrev aRH:=@Go.MapKept.run_getObj_map
abbrev aRK:=@beq_iff_eq
abbrev aRL:=@Array.getElem?_eq_none
abbrev aRM:=@List.mem_iff_getElem
abbrev aRN:=@BitVec.ofInt_natCast
abbrev aRO:=@List.getElem_mem
abbrev aRP:=@List.getElem?_eq_none
abbrev aRQ:=@Nat.zero_add
abbrev aRR:=@List.getElem?_drop
abbrev aRT:=@Array.getElem?_toList
abbrev aRU:=@Option.getD_some
abbrev aRV:=@List.mem_flatten
abbrev aRY:=@List.map_set
abbrev aRZ:=@if_false
abbrev aR0:=@Go.run_underlying
abbrev aR2:=@of_decide_eq_true
abbrev aR3:=@Nat.mul_comm
abbrev aR4:=@Bool.not_eq_true'
abbrev aR5:=@Nat.mod_eq_of_lt
abbrev aR6:=@List.any_eq_true
abbrev aR7:=@Go.MapKept.run_setObj_map
abbrev aSa:=@List.find?_eq_none
abbrev aSc:=@List.size_toArray
abbrev aSh:=@Array.ext'
abbrev aSi:=@Array.setIfInBounds_comm
abbrev aSk:=@if_true
abbrev aSm:=@List.ext_getElem?
abbrev aSn:=@Option.map_some
abbrev aSp:=@Array.length_toList
abbrev aSs:=@Nat.add_mul
abbrev aSu:=@Int.natCast_nonneg
abbrev aSw:=@BitVec.toNat_ofNat
abbrev aSx:=@Go.Region.free_spec
abbrev aSy:=@List.set_getElem_self
abbrev aSz:=@List.mem_or_eq_of_mem_set
abbrev aSC:=@List.map_nil
abbrev aSF:=@Array.getElem?_setIfInBounds_ne
abbrev aSH:=@Int.eq_ofNat_of_zero_le
abbrev aSI:=@Go.ByteArray.toList_eq
abbrev aSJ:=@Go.World.block_lt_of_cell?
abbrev aSK:=@Nat.mod_lt
abbrev aSN:=@List.find?_cons_of_neg
abbrev aSQ:=@Go.Act.put_comm
abbrev aSS:=@List.take_append_drop
abbrev aST:=@Go.ChangeMaps.modify_eq_set
abbrev aSZ:=@Go.getD_set_ne
abbrev aS2:=@List.flatten_append
abbrev aS3:=@Array.toList_modify
abbrev aS4:=@Go.wpOp_mono
abbrev aS6:=@List.getElem_append_left
abbrev aS7:=@List.nil_append
abbrev aTe:=@BitVec.setWidth_eq
abbrev aTf:=@BitVec.ofNat_toNat
abbrev aTh:=@List.findIdx?_eq_some_iff_getElem
abbrev aTi:=@Go.ready_mono
abbrev aTt:=@Go.execOp_put
abbrev aTu:=@Nat.mul_add_mod
abbrev aTv:=@Go.Region.noSelect_spec
abbrev aTx:=@Ne.symm
abbrev aTy:=@List.map_map
abbrev aTB:=@Nat.eq_zero_or_pos
abbrev aTE:=@Array.empty_append
abbrev aTF:=@Nat.shiftRight_eq_div_pow
abbrev aTH:=@List.findIdx?_eq_none_iff
abbrev aTI:=@Go.wanted_put
abbrev aTJ:=@Go.heap_alloc_new
abbrev aTL:=@Option.some.injEq
abbrev aTN:=@Array.size_append
abbrev aTR:=@List.getElem_map
abbrev aTZ:=@List.find?_cons_of_pos
abbrev aT1:=@List.nodup_cons
abbrev aT8:=@Nat.div_lt_iff_lt_mul
abbrev aT9:=@List.set_append_right
abbrev aUa:=@List.mem_append_right
abbrev aUe:=@BitVec.eq_of_toNat_eq
abbrev aUf:=@Array.getElem?_modify
abbrev aUh:=@List.take_left
abbrev aUj:=@List.mem_append_left
abbrev aUl:=@Int.emod_emod_of_dvd
abbrev aUn:=@Array.getElem?_range
abbrev aUp:=@List.getElem?_range
abbrev aUq:=@Array.toList_append
abbrev aUt:=@Go.mem_ready
abbrev aUv:=@Nat.blt_eq
abbrev aUA:=@BitVec.toInt_ofInt
abbrev aUB:=@Array.getElem?_map
abbrev aUE:=@Go.wp_region_any
abbrev aUI:=@List.getElem?_inj
abbrev aUJ:=@List.any_eq_false
abbrev aUP:=@Go.heap_setCell_other
abbrev aUQ:=@Go.Calls.mono
abbrev aUS:=@List.take_append
abbrev aUU:=@List.map_toArray
abbrev aUZ:=@Nat.div_le_self
abbrev aU0:=@Nat.div_add_mod
abbrev aU7:=@List.nodup_nil
abbrev aU8:=@List.drop_drop
abbrev aVf:=@Go.Oper.apart_spec
abbrev aVg:=@Go.WideElems.findIdx_born
abbrev aVl:=@Go.WideElems.findIdx_arr
abbrev aVm:=@BitVec.toNat_ushiftRight
abbrev aVo:=@Go.RowKit.Below.mono
abbrev aVp:=@List.flatten_eq_nil_iff
abbrev aVs:=@Nat.zero_mul
abbrev aVy:=@Int.dvd_refl
abbrev aVA:=@Go.WideElems.set_self
abbrev aVC:=@List.set_append_left
abbrev aVI:=@List.take_succ_cons
abbrev aVL:=@List.map_congr_left
abbrev aVP:=@Nat.lt_of_le_of_lt
abbrev aVY:=@List.length_range
abbrev aV0:=@Bool.eq_false_iff
end Go.Proofs.YtlikikpgmmkjbaaGreat
namespace Go.Proofs.YtlikikpgmmkjbaaGreat.eV
def U {n:Nat} (b:BitVec n):Int:=(b.toNat:Int)

theorem NP {n:Nat} (b:BitVec n):0≤U b:=aSu _
theorem anO (b:BitVec 32):U b<4294967296:=by have:=b.isLt;unfold U;omega
theorem anP (b:BitVec 64):U b<18446744073709551616:=by have:=b.isLt;unfold U;omega
theorem anN (b:BitVec 32):U b≤4294967295:=by have:=b.isLt;unfold U;omega
theorem vx {n:Nat} (b:BitVec n):BitVec.ofInt n (U b)=b:=by
  unfold U;rw [aRN,aTf,aTe]
theorem aa6 (x:Int) (aF:0≤x) (γ:x<4294967296):U (BitVec.ofInt 32 x)=x:=by
  obtain ⟨m,rfl⟩:=aSH aF;unfold U;rw [aRN,aSw];omega
theorem anQ (x:Int) (aF:0≤x) (γ:x<18446744073709551616):U (BitVec.ofInt 64 x)=x:=by
  obtain ⟨m,rfl⟩:=aSH aF;unfold U;rw [aRN,aSw];omega
theorem OU {x:Int} {b:BitVec 32} (aF:0≤x) (γ:x<4294967296) (h:BitVec.ofInt 32 x=b):x=U b:=by
  rw [← h,aa6 x aF γ]
theorem OV {x:Int} {b:BitVec 64} (aF:0≤x) (γ:x<18446744073709551616) (h:BitVec.ofInt 64 x=b):x=U b:=by
  rw [← h,anQ x aF γ]
theorem N6 (k:IntKind) (op:BinOp) (a b:Int) (hs:k.signed=false):0≤bits op k a b∧bits op k a b<2 ^ k.bits:=by
  have hp:(0:Int)<2 ^ k.bits:=Int.pow_pos (by decide);have key:∀ n:Int,0≤k.wrap n∧k.wrap n<2 ^ k.bits:=by
    intro n;simp only [IntKind.wrap,hs,Bool.false_and,aRr,aRZ];exact ⟨Int.emod_nonneg _ (by omega),Int.emod_lt_of_pos _ hp⟩
  unfold bits;exact key _
theorem N4 (op:BinOp) (a b:Int):0≤bits op .u32 a b:=(N6 .u32 op a b rfl).1
theorem N3 (op:BinOp) (a b:Int):bits op .u32 a b<4294967296:=(N6 .u32 op a b rfl).2
theorem Td (op:BinOp) (a b:Int):0≤bits op .u64 a b:=(N6 .u64 op a b rfl).1
theorem Tc (op:BinOp) (a b:Int):bits op .u64 a b<18446744073709551616:=(N6 .u64 op a b rfl).2
theorem LQ (k:IntKind) (n:Int):BitVec.ofInt k.bits (k.wrap n)=BitVec.ofInt k.bits n:=by
  apply BitVec.eq_of_toInt_eq;simp only [aUA];have h:(k.wrap n) % (2 ^ k.bits:Int)=n % (2 ^ k.bits:Int):=by
    unfold IntKind.wrap;dsimp only;split
    · rw [Int.sub_emod,Int.emod_self,Int.sub_zero,aUl _ (aVy _),aUl _ (aVy _)]
    · rw [aUl _ (aVy _)]
  have e:((2 ^ k.bits:Nat):Int)=(2:Int) ^ k.bits:=by simp
  simp only [Int.bmod,e,h]

theorem azj (n:Int):BitVec.ofInt 32 (n % 4294967296)=BitVec.ofInt 32 n:=by
  have:=LQ .u32 n;rw [IntKind.wrap_u32] at this;exact this
theorem azn (n:Int):BitVec.ofInt 64 (IntKind.u64.wrap n)=BitVec.ofInt 64 n:=LQ .u64 n
theorem Xg (k:IntKind) (a b:Int):BitVec.ofInt k.bits (bits .xor k a b)=BitVec.ofInt k.bits a ^^^ BitVec.ofInt k.bits b:=by
  unfold bits;rw [LQ,aRN];dsimp only;rw [aTf,aTe]
theorem azg (k:IntKind) (a b:Int):BitVec.ofInt k.bits (bits .and k a b)=BitVec.ofInt k.bits a &&& BitVec.ofInt k.bits b:=by
  unfold bits;rw [LQ,aRN];dsimp only;rw [aTf,aTe]
theorem azh (k:IntKind) (a b:Int):BitVec.ofInt k.bits (bits .andNot k a b)=BitVec.ofInt k.bits a &&& ~~~(BitVec.ofInt k.bits b):=by
  unfold bits;rw [LQ,aRN];dsimp only;rw [aTf,aTe]

theorem Xh (a b:Int):BitVec.ofInt 32 (bits .xor .u32 a b)=BitVec.ofInt 32 a ^^^ BitVec.ofInt 32 b:=Xg .u32 a b
theorem aiK (a b:Int):BitVec.ofInt 32 (bits .and .u32 a b)=BitVec.ofInt 32 a &&& BitVec.ofInt 32 b:=azg .u32 a b
theorem azi (a b:Int):BitVec.ofInt 32 (bits .andNot .u32 a b)=BitVec.ofInt 32 a &&& ~~~(BitVec.ofInt 32 b):=azh .u32 a b
theorem Xi (a b:Int):BitVec.ofInt 64 (bits .xor .u64 a b)=BitVec.ofInt 64 a ^^^ BitVec.ofInt 64 b:=Xg .u64 a b
theorem aiP (a b:Int):BitVec.ofInt 64 (bits .xor .i64 a b)=BitVec.ofInt 64 a ^^^ BitVec.ofInt 64 b:=Xg .i64 a b
theorem aiO {n:Nat} (x:Int) (s:Nat) (aF:0≤x) (γ:x<2 ^ n):BitVec.ofInt n (x / 2 ^ s)=BitVec.ofInt n x >>> s:=by
  obtain ⟨m,rfl⟩:=aSH aF;have Ee:m<2 ^ n:=by exact_mod_cast γ
  have e:((m:Int) / 2 ^ s)=((m / 2 ^ s:Nat):Int):=by rw [Int.natCast_ediv];simp
  rw [e,aRN,aRN];apply aUe;rw [aVm,aSw,aSw,aR5 Ee,aTF];exact aR5 (aVP (aUZ _ _) Ee)

theorem azf {n:Nat} (a b:Int):BitVec.ofInt n (a+b)=BitVec.ofInt n a+BitVec.ofInt n b:=BitVec.ofInt_add ..
theorem aiM {n:Nat} (a b:Int):BitVec.ofInt n (a * b)=BitVec.ofInt n a * BitVec.ofInt n b:=BitVec.ofInt_mul ..
theorem azm {n:Nat} (a:Int):BitVec.ofInt n (-a)= -BitVec.ofInt n a:=BitVec.ofInt_neg ..
theorem azl {n:Nat} (a:Nat):BitVec.ofInt n (a:Int)=BitVec.ofNat n a:=aRN ..

end Go.Proofs.YtlikikpgmmkjbaaGreat.eV
namespace Go.Proofs.YtlikikpgmmkjbaaGreat
def aGn (k:IntKind) (w:World) (a:Option Addr) (len cap:Nat) (zs:List Int):Prop :=
  (a=none∧len=0∧cap=0∧zs= [])∨
  ∃ x,a=some x∧len≤cap∧cap≤maxLen∧zs.length=cap∧(∀ i,i<zs.length→w.cell? (x.add i)=some (.int k (zs.getD i 0)))∧∀ n∈zs,(Lit.int k n).wf=true
theorem aba (b j:Nat):(⟨b,0,none⟩:Addr).add j=⟨b,j,none⟩:=by
  unfold Addr.add;split<;>simp_all
theorem Ti {a b:ByteArray} (h:a.data.toList=b.data.toList):a=b:=ByteArray.ext (Array.toList_inj.1 h)
theorem abI (a b:ByteArray):(a.toList == b.toList)=decide (a=b):=by
  rw [aSI,aSI];by_cases h:a=b
  · subst h;simp
  · have γ:¬ a.data=b.data:=fun e=>h (ByteArray.ext e)
    simp [h,γ]
theorem abL {a b:ByteArray} (h:a=b):(a.toList == b.toList)=true:=by rw [abI];simp [h]
theorem abJ {a b:ByteArray} (h:¬ a=b):(a.toList == b.toList)=false:=by rw [abI];simp [h]
theorem L2 {a:Bool} (h:a=true):Ending.returned (.bool a)= .returned (.bool true):=by rw [h]
theorem Gd (b off j:Nat):(⟨b,off,none⟩:Addr).add j=⟨b,off+j,none⟩:=by
  unfold Addr.add;split<;>simp_all
theorem azF {w w':World} {base:Nat} {e:TypeId} {size:Nat} {v:Value} {n:Nat} {xs:List Value} (h:w.ownsRow base e size v n xs) (Φ:Below w.heap.size w w'):w'.ownsRow base e size v n xs:=by
  obtain ⟨γ,ab⟩:=h;refine ⟨γ, ?_⟩;rcases ab with ab | ⟨g,cap,cur,hv,aM,fM,r⟩
  · exact .inl ab
  · exact .inr ⟨g,cap,cur,hv,aM,by rw [Φ.block g (aRl.1 fM).1];exact fM,r⟩
theorem cell_later {w w':World} (Φ:Below w.heap.size w w') {a:Addr} {v:Value} (h:w.cell? a=some v):w'.cell? a=some v:=by
  rw [Φ.cell (aSJ w a h)];exact h
theorem apf {B:Nat} {w w':World} (Φ:Below B w w') {a:Addr} {v:Value} (h:w.cell? a=some v) (ha:a.block<B):w'.cell? a=some v:=by
  rw [Φ.cell ha];exact h
def aQ (w:World) (g:Nat) (cur:List Value) (e:TypeId) (aA:Nat×Nat):Prop:=w.heap[g]? =some (.cells cur.toArray e aA)
theorem aQ.lt {w:World} {g:Nat} {cur:List Value} {e:TypeId} {aA:Nat×Nat} (h:aQ w g cur e aA):g<w.heap.size:=(aRl.1 h).1
theorem aQ.cell {w:World} {g:Nat} {cur:List Value} {e:TypeId} {aA:Nat×Nat} (h:aQ w g cur e aA) (j:Nat):w.cell? ⟨g,j,none⟩=cur[j]? :=by
  rw [cell_of_row w g j _ e aA h];simp
theorem aQ.free {w:World} {g:Nat} {cur:List Value} {e:TypeId} {aA:Nat×Nat} (h:aQ w g cur e aA) (j:Nat) (ay:j<aA.1∨aA.2≤j):w.frozen? ⟨g,j,none⟩=false:=by
  unfold aQ at h;obtain ⟨lo,ar⟩:=aA;simp only [World.frozen?,h];simp only at ay;simp;omega
theorem aQ.set {w:World} {g:Nat} {cur:List Value} {e:TypeId} {aA:Nat×Nat} (h:aQ w g cur e aA) (j:Nat) (v:Value):aQ (w.setCell ⟨g,j,none⟩ v) g (cur.set j v) e aA:=by
  unfold aQ at *
  simp only [World.setCell,aUf,h];simp
theorem aQ.later {w w':World} {g:Nat} {cur:List Value} {e:TypeId} {aA:Nat×Nat} (h:aQ w g cur e aA) (Φ:Below w.heap.size w w'):aQ w' g cur e aA:=by
  have az:=h.lt;unfold aQ at *
  rw [Φ.block g az];exact h
theorem aQ.drew {w:World} {g:Nat} {cur:List Value} {e:TypeId} {aA:Nat×Nat} (h:aQ w g cur e aA):aQ w.drew g cur e aA:=h
theorem aQ.drewN {w:World} {g:Nat} {cur:List Value} {e:TypeId} {aA:Nat×Nat} (h:aQ w g cur e aA) (n:Nat):aQ (w.drewN n) g cur e aA:=h
theorem aQ.new (w:World) (cur:List Value) (e:TypeId) (aA:Nat×Nat):aQ (w.alloc (.cells cur.toArray e aA)) w.heap.size cur e aA:=aTJ w _
theorem aQ.setRow {w:World} {g:Nat} {cur:List Value} {e:TypeId} {aA:Nat×Nat} (h:aQ w g cur e aA) (new:List Value):aQ (w.setRow g new.toArray) g new e aA:=setRow_heap w g _ _ e aA h
theorem aQ.other {w:World} {g g':Nat} {cur:List Value} {e:TypeId} {aA:Nat×Nat} (h:aQ w g cur e aA) (aM:g≠g') (j:Nat) (v:Value):aQ (w.setCell ⟨g',j,none⟩ v) g cur e aA:=by
  unfold aQ at *
  rw [aUP _ _ _ _ aM];exact h
theorem below_drewN {B:Nat} {a w:World} (h:Below B a w) (n:Nat):Below B a (w.drewN n):=⟨h.os,h.tape,h.output,h.size,h.block⟩
def Rd (w:World) (size:Nat) (A:Option Addr) (n:Nat) (xs:List Value):Prop :=
  xs.length=n * size∧(0<n→∃ b o,A=some ⟨b,o,none⟩∧∀ j u,xs[j]? =some u→w.cell? ⟨b,o+j,none⟩=some u)
theorem Rd.zero (w:World) (size:Nat) (A:Option Addr):Rd w size A 0 []:=⟨by simp,fun h=>absurd h (by decide)⟩
theorem Rd.later {w w':World} {size n:Nat} {A:Option Addr} {xs:List Value} (h:Rd w size A n xs) (Φ:Below w.heap.size w w'):Rd w' size A n xs :=
  ⟨h.1,fun aF=>by
    obtain ⟨b,o,e,hc⟩:=h.2 aF;exact ⟨b,o,e,fun j u hu=>cell_later Φ (hc j u hu)⟩⟩
theorem Rd.drewN {w:World} {size n:Nat} {A:Option Addr} {xs:List Value} (h:Rd w size A n xs) (k:Nat):Rd (w.drewN k) size A n xs:=h
def Own (w:World) (base:Nat) (e:TypeId) (size:Nat) (G:Nat→Value→Prop) (v:Value) (n:Nat) (xs:List Value):Prop :=
  xs.length=n * size∧
  ((v= .slice none 0 0∧n=0)∨
   ∃ g cap cur,v= .slice (some ⟨g,0,none⟩) n cap∧base≤g∧w.heap[g]? =some (.cells cur e (0,0))∧n≤cap∧cap≤maxLen∧cur.size=cap * size∧cur.toList.take (n * size)=xs∧∀ j u,cur[j]? =some u→G (j % size) u)
section
variable {w w':World} {base e size:Nat} {G:Nat→Value→Prop} {v:Value} {n:Nat} {xs:List Value}
theorem Own.row (h:Own w base e size G v n xs):w.ownsRow base e size v n xs:=by
  obtain ⟨γ,ab⟩:=h;refine ⟨γ, ?_⟩;rcases ab with ab | ⟨g,cap,cur,a,b,c,d,e,f,i,_⟩
  · exact .inl ab
  · exact .inr ⟨g,cap,cur,a,b,c,d,e,f,i⟩
theorem Own.nil (w:World) (base e size:Nat) (G:Nat→Value→Prop):Own w base e size G (.slice none 0 0) 0 []:=⟨by simp, .inl ⟨rfl,rfl⟩⟩
theorem Own.of_block {B:Nat} (h:Own w base e size G v n xs) (Φ:∀ g,v.ownBlock=some g→w'.heap[g]? =w.heap[g]?):Own w' base e size G v n xs:=by
  obtain ⟨γ,ab⟩:=h;refine ⟨γ, ?_⟩;rcases ab with ab | ⟨g,cap,cur,rfl,b,c,d⟩
  · exact .inl ab
  · exact .inr ⟨g,cap,cur,rfl,b,(Φ g rfl).trans c,d⟩
theorem Own.later (h:Own w base e size G v n xs) (Φ:Below w.heap.size w w'):Own w' base e size G v n xs :=
  h.of_block (B:=0) fun g aM=>Φ.block g (h.row.lt g aM).2
theorem Own.drewN (h:Own w base e size G v n xs) (k:Nat):Own (w.drewN k) base e size G v n xs:=h
theorem Own.drew (h:Own w base e size G v n xs):Own w.drew base e size G v n xs:=h
theorem Own.mono (h:Own w base e size G v n xs) {abu:Nat} (Φ:abu≤base):Own w abu e size G v n xs:=by
  obtain ⟨γ,ab⟩:=h;refine ⟨γ, ?_⟩;rcases ab with ab | ⟨g,cap,cur,a,b,r⟩
  · exact .inl ab
  · exact .inr ⟨g,cap,cur,a,aRj Φ b,r⟩
theorem Own.rd (h:Own w base e size G v n xs) {A:Option Addr} {c:Nat} (hv:v= .slice A n c):Rd w size A n xs:=by
  obtain ⟨γ,ab⟩:=h;refine ⟨γ,fun aF=> ?_⟩;rcases ab with ⟨_,ab⟩ | ⟨g,cap,cur,rfl,b,c,d,e,f,i,_⟩
  · omega
  · injection hv with hv _ _
    refine ⟨g,0,hv.symm,fun j u hu=> ?_⟩;rw [aRQ,cell_of_row w g j cur _ (0,0) c,← aRT];rw [← i,aRq] at hu;split at hu
    · exact hu
    · cases hu
theorem Own.shape (h:Own w base e size G v n xs):∃ A c,v= .slice A n c∧n≤c∧c≤maxLen∧Rd w size A n xs∧(∀ a,A=some a→base≤a.block∧a.block<w.heap.size)∧(A=none→v= .slice none 0 0):=by
  have c8:=h;obtain ⟨γ,ab⟩:=h;rcases ab with ⟨rfl,rfl⟩ | ⟨g,cap,cur,rfl,b,c,d,e,f,i,_⟩
  · exact ⟨none,0,rfl,aQW _,aRE _,c8.rd rfl,(fun a ha=>by cases ha),fun _=>rfl⟩
  · refine ⟨_,cap,rfl,d,e,c8.rd rfl,fun a ha=> ?_,fun h=>by cases h⟩
    injection ha with ha
    subst ha;exact ⟨b,(aRl.1 c).1⟩
theorem aFn {z:Array Value} (bB:z.size=size) (hs:0<size) (bC:∀ j u,z[j]? =some u→G j u) (k:Nat):∀ j u,(Builtin.zeroCells z k)[j]? =some u→G (j % size) u:=by
  intro j u hu;unfold Builtin.zeroCells at hu;subst bB;have ay:=(aRl.1 hu).1;simp at ay;have bA:j % z.size<z.size:=aSK _ hs;rw [aUB,aUn,aQZ ay] at hu;simp only [aSn,aTL] at hu;refine bC _ u ?_;rw [← hu];simp [bA]
theorem Own.stored {g c:Nat} (h:Own w base e size G (.slice (some ⟨g,0,none⟩) n c) n xs) (j:Nat) (u:Value) (hu:G (j % size) u):
    Own (w.setCell ⟨g,j,none⟩ u) base e size G (.slice (some ⟨g,0,none⟩) n c) n (xs.set j u):=by
  obtain ⟨γ,ab⟩:=h;refine ⟨by rw [aQS];exact γ, ?_⟩;rcases ab with ⟨ab,_⟩ | ⟨g',cap,cur,hv,b,fM,d,hm,hs,aD,bC⟩
  · cases ab
  · injection hv with hv _ hc
    injection hv with hv
    injection hv with hv
    subst hv;subst hc;refine .inr ⟨g,c,cur.setIfInBounds j u,Z,b, ?_,d,hm,by simp [hs], ?_, ?_⟩
    · simp only [World.setCell,aUf,fM]
      simp
    · rw [← aD]
      simp only [Array.toList_setIfInBounds];rw [List.take_set]
    · intro i v hv
      by_cases jh:j=i
      · subst jh
        have bA:j<cur.size:=by
          have:=(aRl.1 hv).1;simpa using this
        rw [Array.getElem?_setIfInBounds_self_of_lt bA] at hv;obtain rfl:=aQL hv;exact hu
      · rw [aSF jh] at hv
        exact bC i v hv
theorem Own.cell {g c:Nat} (h:Own w base e size G (.slice (some ⟨g,0,none⟩) n c) n xs) (j:Nat) (ay:j<n * size):w.cell? ⟨g,j,none⟩=xs[j]? :=h.row.cellAt j ay
theorem Own.free {g c:Nat} (h:Own w base e size G (.slice (some ⟨g,0,none⟩) n c) n xs) (j:Nat):w.frozen? ⟨g,j,none⟩=false:=h.row.frozenAt j
theorem Own.lit (w:World) (cs:Array Value) (n:Nat) (Φ:base≤w.heap.size) (hm:n≤maxLen) (hs:cs.size=n * size) (bC:∀ j u,cs[j]? =some u→G (j % size) u):
    Own (w.alloc (.cells cs e)) base e size G (.slice (some ⟨w.heap.size,0,none⟩) n n) n cs.toList :=
  ⟨by simpa using hs, .inr ⟨w.heap.size,n,cs,rfl,Φ,aTJ w _,aQW _,hm,hs,aRb (by simp [hs]),bC⟩⟩
theorem Own.empty (w:World) (Φ:base≤w.heap.size):Own (w.alloc (.cells #[] e)) base e size G (.slice (some ⟨w.heap.size,0,none⟩) 0 0) 0 [] :=
  Own.lit w #[] 0 Φ (aRE _) (by simp) (fun j u h=>by simp at h)
end
section
variable {P:Program} (w:World)
theorem ajH (base:Nat) (t ty e:TypeId) (i:TypeInfo) (z:Value) (size bytes:Nat) (aD:P.underlying t=some (.slice e)) (ar:P.info? e=some i) (bB:i.zero=some z)
    (w2:i.size=size) (py:i.bytes=bytes) (si:z.cells.size=size) (f_:0<size) (G:Nat→Value→Prop) (w6:∀ j u,z.cells[j]? =some u→G j u)
    (v:Value) (n:Nat) (xs:List Value) (eI:Own w base e size G v n xs)
    (A:Option Addr) (m c:Nat) (news:List Value) (hr:Rd w size A m news) (γ:∀ u∈news,u.oneCell'=true) (KI:∀ j u,news[j]? =some u→G (j % size) u)
    (q8:n+m≤maxLen) (re:(n+m) * bytes≤140737488355328) (pw:base≤w.heap.size):
    ∃ v' w',(Builtin.append_ #[t,t] ty #[v, .slice A m c]).run P w= .ok v' w'∧Own w' base e size G v' (n+m) (xs++news)∧w.grownBy w' v.ownBlock∧
      (v'= .slice none 0 0↔v= .slice none 0 0∧m=0)∧(v'.ownBlock=v.ownBlock∨v'.ownBlock=some w.heap.size):=by
  subst w2;subst py;have aJ5:n+m≤9223372036854775807:=by simp only [maxLen] at q8;omega
  have az:news.length=m * i.size:=hr.1;have Hf:xs.length=n * i.size:=eI.1;have hlen:(xs++news).length=(n+m) * i.size:=by rw [aQU,Hf,az,aSs]
  have aeS:(∀ j u,xs[j]? =some u→G (j % i.size) u)→∀ j u,(xs++news)[j]? =some u→G (j % i.size) u:=by
    intro hx j u hu;by_cases ay:j<xs.length
    · rw [aQ5 ay] at hu;exact hx j u hu
    · rw [aQ8 (by omega)] at hu
      have:=KI _ u hu;rw [Hf] at this ay;have e:j % i.size=(j - n * i.size) % i.size:=by
        conv=>lhs;rw [show j=n * i.size+(j - n * i.size) from by omega]
        rw [aR3 n,aTu]
      rw [e];exact this
  -- what the growing arm leaves, whatever was there before
  have grown:(∀ j u,xs[j]? =some u→G (j % i.size) u)→∀ (old:Nat),old<n+m→∀ (row:Option Nat),
      Own (w.drew.alloc (.cells (xs.toArray++news.toArray++Builtin.zeroCells z.cells (grownCap w (n+m) old e - (n+m))) e)) base e i.size G
        (.slice (some ⟨w.heap.size,0,none⟩) (n+m) (grownCap w (n+m) old e)) (n+m) (xs++news)∧
      w.grownBy (w.drew.alloc (.cells (xs.toArray++news.toArray++Builtin.zeroCells z.cells (grownCap w (n+m) old e - (n+m))) e)) row:=by
    intro P5 old b1 row;have qj:=grownCap_ge w (n+m) old e;have rh:grownCap w (n+m) old e≤maxLen:=grownCap_le_maxLen w (n+m) old e q8;refine ⟨⟨hlen, .inr ⟨w.heap.size,_,_,Z,pw,aTJ w.drew _,qj,rh, ?_, ?_, ?_⟩⟩,⟨Z,Z,Z,by simp,fun k av _=>heap_alloc_old w.drew _ av⟩⟩
    · simp only [aTN,aSc,size_zeroCells,si,Hf,az,← aSs]
      congr 1;omega
    · simp only [aUq,aRp]
      rw [← aRp,← hlen];exact aUh
    · intro j u hu
      rw [← aRT] at hu;simp only [aUq] at hu;by_cases ay:j<(xs++news).length
      · rw [aQ5 ay] at hu;exact aeS P5 j u hu
      · rw [aQ8 (by simpa using ay)] at hu
        rw [aRT] at hu;have:=aFn si f_ w6 _ _ u hu;have ox:(xs.toArray.toList++news.toArray.toList).length=(n+m) * i.size:=hlen;rw [ox] at this;rw [hlen] at ay;have e:j % i.size=(j - (n+m) * i.size) % i.size:=by
          conv=>lhs;rw [show j=(n+m) * i.size+(j - (n+m) * i.size) from by omega]
          rw [aR3 (n+m),aTu]
        rw [e];exact this
  have Wb:A=none∨∃ a,A=some a:=by cases A with | none=>exact .inl rfl | some a=>exact .inr ⟨a,rfl⟩
  rcases Wb with rfl | ⟨ad,rfl⟩
  · have hm:m=0:=by
      rcases aTB m with aF | aF
      · exact aF
      · obtain ⟨b,o,h,_⟩:=hr.2 aF
        cases h
    subst hm;have hn:news= []:=aRd (by simpa using az);subst hn;refine ⟨v,w, ?_,by simpa using eI,World.grownBy.refl w _,by simp, .inl rfl⟩;rcases eI.2 with ⟨rfl,rfl⟩ | ⟨g,cap,cur,rfl,_,_,Ce,_⟩
    · simp [Builtin.append_,aR0 aD,sizeOf,typeInfo,ar,Builtin.lenOf,Builtin.firstCells]
    · simp [Builtin.append_,aR0 aD,sizeOf,typeInfo,ar,Builtin.lenOf,Builtin.firstCells,Ce,storeCells]
  have KK:∀ j u,news[j]? =some u→w.cell? (ad.add j)=some u:=by
    intro j u hu;rcases aTB m with aF | aF
    · subst aF
      have hn:news= []:=aRd (by simpa using az);subst hn;simp at hu
    · obtain ⟨b,o,h,hc⟩:=hr.2 aF
      injection h with h
      subst h;rw [Gd];exact hc j u hu
  rcases eI.2 with ⟨rfl,rfl⟩ | ⟨g,cap,cur,rfl,Vr,aM,Ce,rh,vk,We,bC⟩
  · have hx:xs= []:=aRd (by simpa using Hf)
    subst hx;by_cases hm:m=0
    · subst hm
      have hn:news= []:=aRd (by simpa using az);subst hn;refine ⟨.slice none 0 0,w, ?_,Own.nil w base e i.size G,⟨Z,Z,Z,aQW _,fun _ _ _=>Z⟩,by simp,Or.inl rfl⟩;simp [Builtin.append_,aR0 aD,sizeOf,typeInfo,ar,Builtin.lenOf,Builtin.firstCells,loadCells,loadCellsFrom]
    · have hr:=run_append_nil (P:=P) w t ty e i z aD ar bB ad m c news az KK (by omega) (by omega) (by have Φ:=re;simp only [aRQ] at Φ;omega)
      have B4:=grown (fun j u hu=>by simp at hu) 0 (by omega) (Value.ownBlock (.slice none 0 0));simp only [aRQ,aS7,aTE] at B4 ⊢;exact ⟨_,_,hr,B4.1,B4.2,by simp [hm],Or.inr rfl⟩
  · have P5:∀ j u,xs[j]? =some u→G (j % i.size) u:=by
      intro j u hu;rw [← We,aRq] at hu;split at hu
      · exact bC j u (by rw [← aRT];exact hu)
      · cases hu
    by_cases V8:n+m≤cap
    · have VI:n * i.size+news.length≤cur.size:=by rw [az,vk,← aSs];exact aRx _ V8
      have hr:=run_append_room (P:=P) w t ty e i aD ar g n cap cur aM ad m c news az KK γ V8 VI;refine ⟨_,_,hr,⟨hlen, .inr ⟨g,cap,_,Z,Vr,setRow_heap w g cur _ e _ aM,V8,rh, ?_, ?_, ?_⟩⟩,⟨Z,Z,Z,by simp,fun k _ av=>setRow_other w g k _ (fun e=>av (by simp [Value.ownBlock,e]))⟩,by simp,Or.inl rfl⟩
      · simp only [aSc,aQU,aQP,aQ6,aSp]
        omega
      · rw [We,← hlen]
        exact aUh
      · intro j u hu
        rw [We] at hu;have hu:((xs++news)++cur.toList.drop (n * i.size+news.length))[j]? =some u:=by simpa using hu
        by_cases ay:j<(xs++news).length
        · rw [aQ5 ay] at hu;exact aeS P5 j u hu
        · rw [aQ8 (by omega),aRR] at hu
          rw [hlen] at hu ay;rw [az,← aSs,show (n+m) * i.size+(j - (n+m) * i.size)=j from by omega] at hu;exact bC j u (by rw [← aRT];exact hu)
    · have holds:∀ j u,xs[j]? =some u→w.cell? ((⟨g,0,none⟩:Addr).add j)=some u:=eI.row.cells (g:=g) rfl
      have hr:=run_append_grow (P:=P) w t ty e i z aD ar bB ⟨g,0,none⟩ n cap xs Hf holds ad m c news az KK (by omega) (by omega) (growslice_fits (by omega) re);have B4:=grown P5 cap (by omega) (Value.ownBlock (.slice (some ⟨g,0,none⟩) n cap));exact ⟨_,_,hr,B4.1,B4.2,by simp,Or.inr rfl⟩

theorem aD6 {o:Oper} {a:Act} {K:Act→World→Prop} {Q:Exit→Act→World→Prop} (s x:Operand) (t:TypeId)
    (b1:o.op= .call {callee:= .builtin .append,args:=#[s,x],argTypes:=#[t,t]})
    (base:Nat) (e:TypeId) (i:TypeInfo) (z:Value) (size bytes:Nat) (aD:P.underlying t=some (.slice e)) (ar:P.info? e=some i) (bB:i.zero=some z)
    (w2:i.size=size) (py:i.bytes=bytes) (si:z.cells.size=size) (f_:0<size) (G:Nat→Value→Prop) (w6:∀ j u,z.cells[j]? =some u→G j u)
    (v:Value) (n:Nat) (xs:List Value) (hs:a.eval s=v) (eI:Own w base e size G v n xs)
    (A:Option Addr) (m c:Nat) (news:List Value) (hx:a.eval x= .slice A m c) (hr:Rd w size A m news) (γ:∀ u∈news,u.oneCell'=true) (KI:∀ j u,news[j]? =some u→G (j % size) u)
    (q8:n+m≤maxLen) (re:(n+m) * bytes≤140737488355328) (pw:base≤w.heap.size)
    (h:∀ v' w',Own w' base e size G v' (n+m) (xs++news)→w.grownBy w' v.ownBlock→(v'= .slice none 0 0↔v= .slice none 0 0∧m=0)→(v'.ownBlock=v.ownBlock∨v'.ownBlock=some w.heap.size)→K (a.put o.dst v') w'):o.wp P a w K Q:=by
  obtain ⟨v',w',jR,ab,aw,aX,bF⟩:=ajH (P:=P) w base t o.type e i z size bytes aD ar bB w2 py si f_ G w6 v n xs eI A m c news hr γ KI q8 re pw;unfold Oper.wp execOp;simp only [b1,resolve,invoke,builtin,aQY,aQ3,aQR,aUU,aRw,aSC,hs,hx,jR];exact h v' w' ab aw aX bF
theorem Fq {ops:Array Oper} {rest:List Oper} {o:Oper} {a:Act} {Q:Exit→Act→World→Prop} (VN:o.guard=none) (s x:Operand) (t:TypeId)
    (b1:o.op= .call {callee:= .builtin .append,args:=#[s,x],argTypes:=#[t,t]})
    (base:Nat) (e:TypeId) (i:TypeInfo) (z:Value) (size bytes:Nat) (aD:P.underlying t=some (.slice e)) (ar:P.info? e=some i) (bB:i.zero=some z)
    (w2:i.size=size) (py:i.bytes=bytes) (si:z.cells.size=size) (f_:0<size) (G:Nat→Value→Prop) (w6:∀ j u,z.cells[j]? =some u→G j u)
    (v:Value) (n:Nat) (xs:List Value) (hs:a.eval s=v) (eI:Own w base e size G v n xs)
    (A:Option Addr) (m c:Nat) (news:List Value) (hx:a.eval x= .slice A m c) (hr:Rd w size A m news) (γ:∀ u∈news,u.oneCell'=true) (KI:∀ j u,news[j]? =some u→G (j % size) u)
    (q8:n+m≤maxLen) (re:(n+m) * bytes≤140737488355328) (pw:base≤w.heap.size)
    (h:∀ v' w',Own w' base e size G v' (n+m) (xs++news)→w.grownBy w' v.ownBlock→(v'= .slice none 0 0↔v= .slice none 0 0∧m=0)→(v'.ownBlock=v.ownBlock∨v'.ownBlock=some w.heap.size)→wpList P ops Q rest (a.put o.dst v') w'):wpList P ops Q (o::rest) a w :=
  wpList_plain VN fun _ hK=>aD6 w s x t b1 base e i z size bytes aD ar bB w2 py si f_ G w6 v n xs hs eI A m c news hx hr γ KI q8 re pw fun v' w' ab aw aX bF=>hK _ _ (h v' w' ab aw aX bF)
end
open Go.ChangeShapes Go.WideShapes Go.Deep Go.RowKit
inductive gi where
  | int (k:IntKind)
  | bool
  | str
  | slice (e:gi) (bytes:Nat)
  | nil
  | cons (a b:gi)
def gi.size:gi→Nat
  | .int _ | .bool | .str | .slice _ _=>1
  | .nil=>0
  | .cons a b=>a.size+b.size
def partsOf (P:Program) (t:TypeId):Option (List (TypeId×Nat)):=
  match P.underlying t with
  | some (.struct fs)=>some (fs.toList.map fun f=>(f.type,f.offset))
  | some (.array n e)=>some ((List.range n).map fun i=>(e,i * P.cellsOf e))
  | _=>none
def gi.fit (P:Program):gi→TypeId ⊕ (Nat×List (TypeId×Nat))→Bool
  | .int k, .inl t=>match P.underlying t with | some (.int k')=>decide (k'=k) | _=>false
  | .bool, .inl t=>match P.underlying t with | some .bool=>true | _=>false
  | .str, .inl t=>match P.underlying t with | some .string=>true | _=>false
  | .slice e by_, .inl t=>match P.underlying t with | some (.slice u)=>P.cellsOf u == e.size && P.bytesOf u == by_ && e.fit P (.inl u) | _=>false
  | .nil, .inl t=>P.cellsOf t == 0 && (match P.underlying t with | some (.struct _)=>true | some (.array ..)=>true | _=>false)
  | .cons a b, .inl t=>P.cellsOf t == a.size+b.size && (match partsOf P t with
      | some ((u,o)::r)=>o == 0 && P.cellsOf u == a.size && a.fit P (.inl u) && b.fit P (.inr (a.size,r))
      | _=>false)
  | .nil, .inr (_,fs)=>fs.isEmpty
  | .cons a b, .inr (off,fs)=>match fs with
    | (u,o)::r=>o == off && P.cellsOf u == a.size && a.fit P (.inl u) && b.fit P (.inr (off+a.size,r))
    | []=>false
  | _, .inr _=>false
def gi.iH (w:World):gi→List Value→Prop
  | .int k,cs=>∃ n,cs= [.int k n]∧(Lit.int k n).wf=true
  | .bool,cs=>∃ b,cs= [.bool b]
  | .str,cs=>∃ s:ByteArray,cs= [.string s]∧s.size≤maxLen∧s.size≤140737488351232
  | .slice e by_,cs=>cs= [.slice none 0 0]∨∃ (a:Addr) (len cap:Nat),cs= [.slice (some a) len cap]∧len≤cap∧cap≤maxLen∧cap * by_≤140737488351232∧
      ∀ i,i<cap→∃ es:List Value,es.length=e.size∧(∀ j v,es[j]? =some v→w.cell? (a.add (i * e.size+j))=some v)∧e.iH w es
  | .nil,cs=>cs= []
  | .cons a b,cs=>∃ xs ys,cs=xs++ys∧xs.length=a.size∧ys.length=b.size∧a.iH w xs∧b.iH w ys
variable {H:Type} {enc:TypeId×Value→H} {P:Program} {w:World} {base:Nat} {held:Bool}
theorem alo {e:TypeId} {l:List (DataW H)} {d:DataW H} (h:d∈l):∀ n∈d.weights P e,n∈DataW.weightsAll P e l:=by
  induction l with
  | nil=>cases h
  | cons x r bt =>
    intro n hn;simp only [DataW.weightsAll,aQ0];rcases aQ7.1 h with rfl | h
    · exact .inl hn
    · exact .inr (bt h n hn)
def IL (enc:TypeId×Value→H) (P:Program) (w:World) (base:Nat) (held:Bool) (n:Nat) (cs:List Value) (fs:List (TypeId×Nat)) (xs:List (DataW H×List MemPlace)):Prop :=
  xs.length=fs.length∧∀ (i:Nat) (f:TypeId×Nat),fs[i]? =some f→DataW.trod enc P w base (fun _=>true) held n f.1 ((cs.drop f.2).take (P.cellsOf f.1))=xs[i]?
theorem IL.cons {n:Nat} {cs:List Value} {f:TypeId×Nat} {r:List (TypeId×Nat)} {xs:List (DataW H×List MemPlace)} (h:IL enc P w base held n cs (f::r) xs):
    ∃ x ys,xs=x::ys∧DataW.trod enc P w base (fun _=>true) held n f.1 ((cs.drop f.2).take (P.cellsOf f.1))=some x∧IL enc P w base held n cs r ys:=by
  obtain ⟨az,hf⟩:=h
  match xs,az with
  | x::ys,az =>
    refine ⟨x,ys,Z,hf 0 f Z,by simpa using az,fun i g aM=> ?_⟩;exact hf (i+1) g aM
def Goal (P:Program) (w:World) (sh:gi):TypeId ⊕ (Nat×List (TypeId×Nat))→Prop
  | .inl t=>∀ (H:Type) (enc:TypeId×Value→H) (base:Nat) (held:Bool) (fuel:Nat) (cs:List Value) (x:DataW H×List MemPlace),DataW.trod enc P w base (fun _=>true) held fuel t cs=some x→(∀ n∈x.1.weights P t,n≤reachBytes)→cs.length=sh.size∧sh.iH w cs
  | .inr (off,fs)=>∀ (H:Type) (enc:TypeId×Value→H) (base:Nat) (held:Bool) (n:Nat) (cs:List Value) (xs:List (DataW H×List MemPlace)),IL enc P w base held n cs fs xs→cs.length=off+sh.size→(∀ n∈DataW.weightsEach P (fs.map (·.1)) (xs.map (·.1)),n≤reachBytes)→sh.iH w (cs.drop off)
theorem Goal.fields {a b:gi} (awR:∀ t,a.fit P t=true→Goal P w a t) (awS:∀ t,b.fit P t=true→Goal P w b t) {off:Nat} {f:TypeId×Nat} {r:List (TypeId×Nat)} (γ:f.2=off) (ab:P.cellsOf f.1=a.size) (aw:a.fit P (.inl f.1)=true) (aX:b.fit P (.inr (off+a.size,r))=true):
    Goal P w (.cons a b) (.inr (off,f::r)):=by
  intro H enc base held n cs xs hx az hw;obtain ⟨x,ys,rfl,aD,hr⟩:=hx.cons;have ha:=awR _ aw H enc base held n _ x aD (fun m hm=>hw m (by simp only [aRw,DataW.weightsEach,aQ0];exact .inl hm));have f_:(gi.cons a b).size=a.size+b.size:=rfl;have Φ:=awS _ aX H enc base held n cs ys hr (by omega) (fun m hm=>hw m (by simp only [aRw,DataW.weightsEach,aQ0];exact .inr hm));rw [γ,ab] at ha;refine ⟨_,_, ?_,ha.1, ?_,ha.2,Φ⟩
  · rw [← aU8,aSS]
  · rw [aQ6];omega
theorem alp {e:TypeId}:∀ (l:List (DataW H)) (ts:List TypeId),ts.length=l.length→(∀ t∈ts,t=e)→DataW.weightsEach P ts l=DataW.weightsAll P e l
  | [], [],_,_=>rfl
  | d::l,t::ts,h,aD=>by
    rw [DataW.weightsEach,DataW.weightsAll,aD t (by simp),alp l ts (by simpa using h) (fun u hu=>aD u (by simp [hu]))]
  | [],_::_,h,_=>by simp at h
  | _::_, [],h,_=>by simp at h
theorem akx {t:TypeId} {fs:List (TypeId×Nat)} {fuel:Nat} {cs:List Value} {x:DataW H×List MemPlace} (hp:partsOf P t=some fs) (h:DataW.trod enc P w base (fun _=>true) held fuel t cs=some x):
    cs.length=P.cellsOf t∧∃ (xs:List (DataW H×List MemPlace)) (n:Nat),IL enc P w base held n cs fs xs∧x.1.weights P t=DataW.weightsEach P (fs.map (·.1)) (xs.map (·.1)):=by
  unfold partsOf at hp;split at hp
  · rename_i gs hu
    obtain rfl:=aQL hp;obtain ⟨xs,n,_,rfl,az,hlen,hf⟩:=DataW.trod_struct hu h;refine ⟨az,xs,n,⟨by rw [hlen];simp,fun i f aM=> ?_⟩, ?_⟩
    · rw [aQ4] at aM
      match auZ:gs.toList[i]?,aM with
      | some g,aM =>
        obtain rfl:=aQL aM;exact hf i g (by rw [← aRT];exact auZ)
    · simp only [DataW.weights,hu,aTy]
      rfl
  · rename_i m e hu
    obtain rfl:=aQL hp;obtain ⟨xs,n,_,rfl,az,hlen,hf⟩:=DataW.trod_array hu h;refine ⟨az,xs,n,⟨by rw [hlen];simp,fun i f aM=> ?_⟩, ?_⟩
    · rw [aQ4] at aM
      have ar:i<m:=by
        rcases aRG i m with h | h
        · exact h
        · rw [aRP (by simpa using h)] at aM;cases aM
      rw [aUp ar] at aM;obtain rfl:=aQL aM;exact hf i ar
    · simp only [DataW.weights,hu]
      rw [alp (e:=e)]
      · simp [hlen]
      · intro u hu;simp at hu;exact hu.2.symm
  · cases hp
theorem GJ (P:Program) (w:World):∀ (sh:gi) (t:TypeId ⊕ (Nat×List (TypeId×Nat))),sh.fit P t=true→Goal P w sh t
  | .int k, .inl t,h=>by
    intro H enc base held fuel cs x aD _;unfold gi.fit at h;split at h
    · rename_i k' hu
      obtain rfl:k'=k:=aR2 h;cases fuel with
      | zero=>simp [DataW.trod] at aD
      | succ n =>
        unfold DataW.trod at aD;rw [hu] at aD;split at aD<;>simp_all;exact ⟨Z,_,Z,aD.1.2⟩
    · cases h
  | .bool, .inl t,h=>by
    intro H enc base held fuel cs x aD _;unfold gi.fit at h;split at h
    · rename_i hu
      cases fuel with
      | zero=>simp [DataW.trod] at aD
      | succ n =>
        unfold DataW.trod at aD;rw [hu] at aD;split at aD<;>simp_all;exact ⟨Z,_,Z⟩
    · cases h
  | .str, .inl t,h=>by
    intro H enc base held fuel cs x aD hw;unfold gi.fit at h;split at h
    · rename_i hu
      cases fuel with
      | zero=>simp [DataW.trod] at aD
      | succ n =>
        unfold DataW.trod at aD;rw [hu] at aD;split at aD<;>simp_all;obtain ⟨γ,rfl⟩:=aD;refine ⟨Z,_,Z,γ, ?_⟩;simpa [DataW.weights,reachBytes] using hw
    · cases h
  | .slice e by_, .inl t,h=>by
    intro H enc base held fuel cs x aD hw;unfold gi.fit at h;split at h
    · rename_i u hu
      simp only [aQT,aRK] at h;obtain ⟨⟨γ,ab⟩,aw⟩:=h;rcases open_slice hu aD with ⟨rfl,_⟩ | ⟨a,len,cap,m,n,D,aGz,rfl,_,az,hm,PK,rfl,ar⟩
      · exact ⟨rfl, .inl rfl⟩
      · simp only [aSk] at PK
        subst PK;refine ⟨Z, .inr ⟨a,len,m,Z,az,hm, ?_,fun i au2=> ?_⟩⟩
        · have:=hw ((((List.range len).map D).length+((List.range (m - len)).map fun j=>D (len+j)).length) * P.bytesOf u) (by simp [DataW.weights,hu])
          rw [ab] at this;simp only [aRz,aVY,reachBytes] at this;rw [show len+(m - len)=m from by omega] at this;exact this
        · obtain ⟨ace,hc,awn⟩:=ar i au2
          have aM:=GJ P w e (.inl u) aw H enc base held n ace _ awn (fun k av=>hw k (by
            simp only [DataW.weights,hu,aQ7,aQ0];right;by_cases G7:i<len
            · exact .inl (alo (aRs.2 ⟨i,aRt.2 G7,rfl⟩) k av)
            · exact .inr (alo (aRs.2 ⟨i - len,aRt.2 (by omega),by rw [show len+(i - len)=i from by omega]⟩) k av)))
          obtain ⟨_,rf,fq⟩:=World.cells?_some hc;refine ⟨ace,aM.1,fun j v hv=> ?_,aM.2⟩;have ay:j<P.cellsOf u:=by have:=(aQM.1 hv).1;omega
          rw [γ] at fq ay;rw [← Go.Deep.add_add,fq j ay,hv]
    · cases h
  | .nil, .inl t,h=>by
    intro H enc base held fuel cs x aD hw;unfold gi.fit at h;simp only [aQT,aRK] at h;obtain ⟨aF,γ⟩:=h;have hp:∃ fs,partsOf P t=some fs:=by
      unfold partsOf;split at γ
      · exact ⟨_,rfl⟩
      · exact ⟨_,rfl⟩
      · cases γ
    obtain ⟨fs,hp⟩:=hp;have az:=(akx hp aD).1;rw [aF] at az;exact ⟨az,aRd az⟩
  | .cons a b, .inl t,h=>by
    intro H enc base held fuel cs x aD hw;unfold gi.fit at h;simp only [aQT,aRK] at h;obtain ⟨aF,h⟩:=h;split at h
    · rename_i u o r hp
      obtain ⟨az,xs,n,hx,he⟩:=akx hp aD;rw [aF] at az;refine ⟨az, ?_⟩;simp only [aQT,aRK] at h;obtain ⟨⟨⟨γ,ab⟩,aw⟩,aX⟩:=h;have aX:b.fit P (.inr (0+a.size,r))=true:=by rw [aRQ];exact aX
      exact Goal.fields (w:=w) (f:=(u,o)) (fun t aD=>GJ P w a t aD) (fun t aD=>GJ P w b t aD) γ ab aw aX H enc base held n cs xs hx (by rw [az];show _=0+(a.size+b.size);omega) (fun m hm=>hw m (by rw [he];exact hm))
    · cases h
  | .nil, .inr (off,fs),h=>by
    intro H enc base held n cs xs hx az hw;exact aRd (by rw [aQ6,az];simp [gi.size])
  | .cons a b, .inr (off,fs),h=>by
    unfold gi.fit at h;split at h
    · rename_i u o r
      simp only [aQT,aRK] at h;obtain ⟨⟨⟨γ,ab⟩,aw⟩,aX⟩:=h;exact Goal.fields (f:=(u,o)) (fun t aD=>GJ P w a t aD) (fun t aD=>GJ P w b t aD) γ ab aw aX
    · cases h
  | .int _, .inr _,h=>by simp [gi.fit] at h
  | .bool, .inr _,h=>by simp [gi.fit] at h
  | .str, .inr _,h=>by simp [gi.fit] at h
  | .slice _ _, .inr _,h=>by simp [gi.fit] at h
theorem aiS {ts:List TypeId} {ds:List (DataW H)} (sh:gi) {j:Nat} {t:TypeId} {v:Value} {d:DataW H} {p:List MemPlace} (VI:sh.fit P (.inl t)=true)
    (f_:(DataW.weightsEach P ts ds).all (· ≤reachBytes)=true) (aD:ts[j]? =some t) (hd:ds[j]? =some d) (h:DataW.Trod enc P w base (fun _=>true) held t v d p):
    v.cells.toList.length=sh.size∧sh.iH w v.cells.toList:=by
  obtain ⟨fuel,hf⟩:=h;exact GJ P w sh (.inl t) VI H enc base held fuel _ (d,p) hf (fun n hn=>by
    have:=aRD.1 f_ _ (DataW.weights_mem_each aD hd n hn);simpa using this)
theorem ah4 {α:Type} (n:Nat) (p:Nat→α→Prop) (h:∀ i,i<n→∃ x,p i x):∃ l:List α,l.length=n∧∀ i (ar:i<l.length),p i l[i]:=by
  induction n with
  | zero=>exact ⟨[],rfl,fun i ar=>absurd ar (by simp)⟩
  | succ n bt =>
    obtain ⟨l,az,hp⟩:=bt (fun i ar=>h i (by omega));obtain ⟨x,hx⟩:=h n (by omega);refine ⟨l++ [x],by simp [az],fun i ar=> ?_⟩;by_cases dn:i<l.length
    · rw [aS6 dn];exact hp i dn
    · have:i=n:=by simp at ar;omega
      subst this;rw [List.getElem_append_right (by omega)];simpa [az] using hx
def c0 {β α:Type} (P:β→α→Prop):List β→List α→Prop
  | [], []=>True
  | b::cX,a::m=>P b a∧c0 P cX m
  | _,_=>False
section
variable {β α:Type} {P Q:β→α→Prop}
theorem c0.length:∀ {l:List β} {m:List α},c0 P l m→l.length=m.length
  | [], [],_=>rfl
  | _::_,_::_,h=>by rw [aQQ,aQQ,c0.length h.2]
  | [],_::_,h=>h.elim
  | _::_, [],h=>h.elim
theorem c0.imp {l:List β} (ar:∀ b a,b∈l→P b a→Q b a):∀ {m:List α},c0 P l m→c0 Q l m:=by
  induction l with
  | nil=>intro m h;cases m with | nil=>trivial | cons=>exact h
  | cons b r bt =>
    intro m h;cases m with
    | nil=>exact h
    | cons a s=>exact ⟨ar b a (by simp) h.1,bt (fun b a Φ=>ar b a (by simp [Φ])) h.2⟩
theorem c0.app:∀ {l:List β} {m:List α} {tM:List β} {m':List α},c0 P l m→c0 P tM m'→c0 P (l++tM) (m++m')
  | [], [],_,_,_,h=>h
  | _::_,_::_,_,_,h,c8=>⟨h.1,c0.app h.2 c8⟩
  | [],_::_,_,_,h,_=>h.elim
  | _::_, [],_,_,h,_=>h.elim
theorem c0.at_:∀ {l:List β} {m:List α} {i:Nat} {a:α},c0 P l m→m[i]? =some a→∃ b,l[i]? =some b∧P b a
  | [], [],_,_,_,h=>by simp at h
  | b::_,_::_,0,_,h,e=>⟨b,rfl,by simp at e;subst e;exact h.1⟩
  | _::_,_::_,i+1,_,h,e=>by
    obtain ⟨b,γ,ab⟩:=c0.at_ (i:=i) h.2 (by simpa using e);exact ⟨b,by simpa using γ,ab⟩
  | [],_::_,_,_,h,_=>h.elim
  | _::_, [],_,_,h,_=>h.elim
theorem c0.X0:∀ {l:List β} {m:List α} {i:Nat} {b:β} {a:α},c0 P l m→P b a→c0 P (l.set i b) (m.set i a)
  | [], [],_,_,_,_,_=>trivial
  | _::_,_::_,0,_,_,h,e=>⟨e,h.2⟩
  | _::_,_::_,_+1,_,_,h,e=>⟨h.1,c0.X0 h.2 e⟩
  | [],_::_,_,_,_,h,_=>h.elim
  | _::_, [],_,_,_,h,_=>h.elim
theorem c0.H0:∀ {l:List β} {m:List α} (k:Nat),c0 P l m→c0 P (l.take k) (m.take k)
  | [], [],_,_=>by simp [c0]
  | _::_,_::_,0,_=>trivial
  | _::_,_::_,k+1,h=>⟨h.1,c0.H0 k h.2⟩
  | [],_::_,_,h=>h.elim
  | _::_, [],_,h=>h.elim
theorem c0.left:∀ {l:List β} {m:List α},c0 P l m→∀ b∈l,∃ a,P b a
  | [],_,_,b,Φ=>by simp at Φ
  | c::_, [],h,_,_=>h.elim
  | c::_,a::_,h,b,Φ=>by
    rcases aQ7.1 Φ with rfl | Φ
    · exact ⟨a,h.1⟩
    · exact c0.left h.2 b Φ
end
theorem z1 {k:Nat}:∀ {l:List (List Value)},(∀ x∈l,x.length=k)→l.flatten.length=l.length * k
  | [],_=>by simp
  | x::r,h=>by rw [aRB,aQU,h x (by simp),z1 (l:=r) (fun y aK=>h y (by simp [aK])),aQQ,aSs];omega
theorem GD {k:Nat}:∀ {l:List (List Value)} {i j:Nat} {es:List Value},(∀ x∈l,x.length=k)→l[i]? =some es→j<k→l.flatten[i * k+j]? =es[j]?
  | [],_,_,_,_,h,_=>by simp at h
  | x::r,0,j,es,h,e,ay=>by
    have e:x=es:=by simpa using e
    subst e;rw [aRB,aVs,aRQ,aQ5 (by rw [h x (by simp)];exact ay)]
  | x::r,i+1,j,es,h,e,ay=>by
    have hx:=h x (by simp);rw [aRB,aQ8 (by rw [hx,aSs];omega),hx,show (i+1) * k+j - k=i * k+j from by rw [aSs];omega];exact GD (fun y aK=>h y (by simp [aK])) (by simpa using e) ay
theorem adX {k:Nat}:∀ {l:List (List Value)} {i j:Nat} {es:List Value} (u:Value),(∀ x∈l,x.length=k)→l[i]? =some es→j<k→l.flatten.set (i * k+j) u=(l.set i (es.set j u)).flatten
  | [],_,_,_,_,_,h,_=>by simp at h
  | x::r,0,j,es,u,h,e,ay=>by
    have e:x=es:=by simpa using e
    subst e;rw [aRB,aVs,aRQ,aVC _ _ (by rw [h x (by simp)];exact ay)];rfl
  | x::r,i+1,j,es,u,h,e,ay=>by
    have hx:=h x (by simp);rw [aRB,aT9 _ _ (by rw [hx,aSs];omega),hx,show (i+1) * k+j - k=i * k+j from by rw [aSs];omega,adX u (fun y aK=>h y (by simp [aK])) (by simpa using e) ay];rfl
theorem adY {k:Nat}:∀ {l:List (List Value)} (i:Nat),(∀ x∈l,x.length=k)→l.flatten.take (i * k)=(l.take i).flatten
  | [],_,_=>by simp
  | x::r,0,_=>by simp
  | x::r,i+1,h=>by
    have hx:=h x (by simp);rw [aRB,aVI,aRB,aUS,hx,aRb (by rw [hx,aSs];omega),show (i+1) * k - k=i * k from by rw [aSs];omega,adY i (fun y aK=>h y (by simp [aK]))]
structure τ (α:Type) where
  size:Nat
  has:World→List Value→α→Prop
  own:World→Nat→List Nat→List Value→α→Prop
  raw:Nat→Value→Prop
  len:∀ {w cs a},has w cs a→cs.length=size
  one:∀ {w cs a},has w cs a→∀ u∈cs,u.oneCell'=true
  vD:∀ {w cs a},has w cs a→∀ (j:Nat) u,cs[j]? =some u→raw j u
  keep:∀ {w w' cs a},has w cs a→Below w.heap.size w w'→has w' cs a
  sx:∀ {w B f cs a},own w B f cs a→has w cs a
  sy:∀ {w w' B f cs a},own w B f cs a→(∀ g∈f,w'.heap[g]? =w.heap[g]?)→own w' B f cs a
  vz:∀ {w B f cs a},own w B f cs a→∀ g∈f,B≤g∧g<w.heap.size
  AH:∀ {w B qK f cs a},own w B f cs a→qK≤B→own w qK f cs a
namespace τ
variable {α β:Type} {w w':World} {B qK:Nat} {f:List Nat} {cs:List Value} {a:α}
theorem Xl (R:τ α) (h:R.own w B f cs a):cs.length=R.size:=R.len (R.sx h)
def Uv (size:Nat) (cells:α→List Value) (ok:α→Prop) (raw:Nat→Value→Prop) (az:∀ a,(cells a).length=size) (γ:∀ a,∀ u∈cells a,u.oneCell'=true) (hr:∀ a,ok a→∀ (j:Nat) u,(cells a)[j]? =some u→raw j u):τ α where
  size:=size
  has:=fun _ cs a=>cs=cells a∧ok a
  own:=fun _ _ f cs a=>f= []∧cs=cells a∧ok a
  raw:=raw
  len:=by rintro w cs a ⟨rfl,_⟩;exact az a
  one:=by rintro w cs a ⟨rfl,_⟩;exact γ a
  vD:=by rintro w cs a ⟨rfl,h⟩;exact hr a h
  keep:=fun h _=>h
  sx:=fun h=>h.2
  sy:=fun h _=>h
  vz:=by rintro w B f cs a ⟨rfl,_⟩ g aM;simp at aM
  AH:=fun h _=>h
def flat (size:Nat) (cells:α→List Value) (ok:α→Prop) (raw:Nat→Value→Prop) (az:∀ a,(cells a).length=size) (γ:∀ a,∀ u∈cells a,u.oneCell'=true) (hr:∀ a (j:Nat) u,(cells a)[j]? =some u→raw j u):τ α where
  size:=size
  has:=fun _ cs a=>cs=cells a∧ok a
  own:=fun _ _ f cs a=>f= []∧cs=cells a∧ok a
  raw:=raw
  len:=by rintro w cs a ⟨rfl,_⟩;exact az a
  one:=by rintro w cs a ⟨rfl,_⟩;exact γ a
  vD:=by rintro w cs a ⟨rfl,_⟩;exact hr a
  keep:=fun h _=>h
  sx:=fun h=>h.2
  sy:=fun h _=>h
  vz:=by rintro w B f cs a ⟨rfl,_⟩ g aM;simp at aM
  AH:=fun h _=>h
def pair (R:τ α) (S:τ β):τ (α×β) where
  size:=R.size+S.size
  has:=fun w cs p=>∃ xs ys,cs=xs++ys∧R.has w xs p.1∧S.has w ys p.2
  own:=fun w B f cs p=>∃ xs ys f1 f2,cs=xs++ys∧f=f1++f2∧R.own w B f1 xs p.1∧S.own w B f2 ys p.2
  raw:=fun j u=>if j<R.size then R.raw j u else S.raw (j - R.size) u
  len:=by rintro w cs p ⟨xs,ys,rfl,γ,ab⟩;rw [aQU,R.len γ,S.len ab]
  one:=by
    rintro w cs p ⟨xs,ys,rfl,γ,ab⟩ u hu;rcases aQ0.1 hu with hu | hu
    · exact R.one γ u hu
    · exact S.one ab u hu
  vD:=by
    rintro w cs p ⟨xs,ys,rfl,γ,ab⟩ j u hu;by_cases ay:j<R.size
    · rw [aQZ ay];rw [aQ5 (by rw [R.len γ];exact ay)] at hu;exact R.vD γ j u hu
    · rw [aQV ay];rw [aQ8 (by rw [R.len γ];omega),R.len γ] at hu;exact S.vD ab _ u hu
  keep:=by rintro w w' cs p ⟨xs,ys,rfl,γ,ab⟩ Φ;exact ⟨xs,ys,Z,R.keep γ Φ,S.keep ab Φ⟩
  sx:=by rintro w B f cs p ⟨xs,ys,f1,f2,rfl,rfl,γ,ab⟩;exact ⟨xs,ys,Z,R.sx γ,S.sx ab⟩
  sy:=by
    rintro w w' B f cs p ⟨xs,ys,f1,f2,rfl,rfl,γ,ab⟩ av;exact ⟨xs,ys,f1,f2,Z,Z,R.sy γ (fun g aM=>av g (by simp [aM])),S.sy ab (fun g aM=>av g (by simp [aM]))⟩
  vz:=by
    rintro w B f cs p ⟨xs,ys,f1,f2,rfl,rfl,γ,ab⟩ g aM;rcases aQ0.1 aM with aM | aM
    · exact R.vz γ g aM
    · exact S.vz ab g aM
  AH:=by
    rintro w B qK f cs p ⟨xs,ys,f1,f2,rfl,rfl,γ,ab⟩ Φ;exact ⟨xs,ys,f1,f2,Z,Z,R.AH γ Φ,S.AH ab Φ⟩
def via (R:τ α) (g:β→α):τ β where
  size:=R.size
  has:=fun w cs b=>R.has w cs (g b)
  own:=fun w B f cs b=>R.own w B f cs (g b)
  raw:=R.raw
  len:=fun h=>R.len h
  one:=fun h=>R.one h
  vD:=fun h=>R.vD h
  keep:=fun h Φ=>R.keep h Φ
  sx:=fun h=>R.sx h
  sy:=fun h av=>R.sy h av
  vz:=fun h=>R.vz h
  AH:=fun h Φ=>R.AH h Φ
def ae:Option Addr→List Nat
  | none=> []
  | some a=> [a.block]
theorem ayy {A:Option Addr} {g:Nat}:g∈ae A↔∃ a,A=some a∧a.block=g:=by
  cases A with
  | none=>simp [ae]
  | some a=>simp [ae,eq_comm]
def aI (R:τ α) (by_:Nat) (w:World) (A:Option Addr) (c:Nat) (l:List α):Prop :=
  l.length≤c∧c≤9223372036854775807∧l.length * by_≤140737488355328∧(A=none→c=0)∧
  ∃ ess,c0 (fun es a=>R.has w es a) ess l∧Rd w R.size A l.length ess.flatten
def aG (R:τ α) (E:TypeId) (by_:Nat) (w:World) (B:Nat) (f:List Nat) (A:Option Addr) (c:Nat) (l:List α):Prop :=
  l.length * by_≤140737488355328∧
  ∃ ps:List (List Nat×List Value),f=ae A++(ps.map (·.1)).flatten∧f.Nodup∧Own w B E R.size R.raw (.slice A l.length c) l.length (ps.map (·.2)).flatten∧
    c0 (fun x a=>R.own w B x.1 x.2 a) ps l
theorem aI.keep {R:τ α} {by_:Nat} {A:Option Addr} {c:Nat} {l:List α} (h:R.aI by_ w A c l) (Φ:Below w.heap.size w w'):R.aI by_ w' A c l:=by
  obtain ⟨γ,ab,aw,aX,ess,bF,cb⟩:=h;exact ⟨γ,ab,aw,aX,ess,bF.imp (fun es a _ h=>R.keep h Φ),cb.later Φ⟩
theorem aI.drewN {R:τ α} {by_:Nat} {A:Option Addr} {c:Nat} {l:List α} (h:R.aI by_ w A c l) (k:Nat):R.aI by_ (w.drewN k) A c l:=h.keep (below_drewN (aRe _ w) k)
theorem c0.W3 {β alQ α:Type} (g:β→alQ) {P:alQ→α→Prop}:∀ {l:List β} {m:List α},c0 (fun b a=>P (g b) a) l m→c0 P (l.map g) m
  | [], [],_=>trivial
  | _::_,_::_,h=>⟨h.1,c0.W3 g h.2⟩
  | [],_::_,h=>h.elim
  | _::_, [],h=>h.elim
theorem aG.has {R:τ α} {E:TypeId} {by_:Nat} {A:Option Addr} {c:Nat} {l:List α} (h:R.aG E by_ w B f A c l):R.aI by_ w A c l:=by
  obtain ⟨γ,ps,rfl,aw,aX,bF⟩:=h;obtain ⟨bH,bV,e,hle,hmx,KR,_,j9⟩:=aX.shape;injection e with a_ _ bh
  subst a_;subst bh;refine ⟨hle,by unfold maxLen at hmx;omega,γ,fun hn=>by have:=j9 hn;injection this,_,c0.W3 (fun x:List Nat×List Value=>x.2) (bF.imp fun x a _ h=>R.sx h),KR⟩
theorem aG.keep {R:τ α} {E:TypeId} {by_:Nat} {A:Option Addr} {c:Nat} {l:List α} (h:R.aG E by_ w B f A c l) (av:∀ g∈f,w'.heap[g]? =w.heap[g]?):R.aG E by_ w' B f A c l:=by
  obtain ⟨γ,ps,rfl,aw,aX,bF⟩:=h;refine ⟨γ,ps,Z,aw,aX.of_block (B:=0) fun g aM=>av g ?_,bF.imp fun x a hx h=>R.sy h fun g aM=>av g ?_⟩
  · cases A with
    | none=>cases aM
    | some a=>injection aM with aM;simp [ae,aM]
  · exact aQ0.2 (.inr (aRV.2 ⟨x.1,aRs.2 ⟨x,hx,rfl⟩,aM⟩))
theorem aG.lt {R:τ α} {E:TypeId} {by_:Nat} {A:Option Addr} {c:Nat} {l:List α} (h:R.aG E by_ w B f A c l):∀ g∈f,B≤g∧g<w.heap.size:=by
  obtain ⟨γ,ps,rfl,aw,aX,bF⟩:=h;intro g aM;rcases aQ0.1 aM with aM | aM
  · obtain ⟨a,rfl,rfl⟩:=ayy.1 aM
    exact aX.row.lt _ Z
  · obtain ⟨y,aK,aM⟩:=aRV.1 aM
    obtain ⟨x,hx,rfl⟩:=aRs.1 aK;obtain ⟨a,ha⟩:=bF.left x hx;exact R.vz ha g aM
theorem aG.later {R:τ α} {E:TypeId} {by_:Nat} {A:Option Addr} {c:Nat} {l:List α} (h:R.aG E by_ w B f A c l) (Φ:Below w.heap.size w w'):R.aG E by_ w' B f A c l:=h.keep fun g aM=>Φ.block g (h.lt g aM).2
theorem aG.nodup {R:τ α} {E:TypeId} {by_:Nat} {A:Option Addr} {c:Nat} {l:List α} (h:R.aG E by_ w B f A c l):f.Nodup:=by
  obtain ⟨_,ps,rfl,aw,_⟩:=h;exact aw
theorem aG.down {R:τ α} {E:TypeId} {by_:Nat} {A:Option Addr} {c:Nat} {l:List α} (h:R.aG E by_ w B f A c l) (Φ:qK≤B):R.aG E by_ w qK f A c l:=by
  obtain ⟨γ,ps,rfl,aw,aX,bF⟩:=h;exact ⟨γ,ps,Z,aw,aX.mono Φ,bF.imp fun x a _ h=>R.AH h Φ⟩
def slice (R:τ α) (E:TypeId) (by_:Nat):τ (List α) where
  size:=1
  has:=fun w cs l=>∃ A c,cs= [.slice A l.length c]∧R.aI by_ w A c l
  own:=fun w B f cs l=>∃ A c,cs= [.slice A l.length c]∧R.aG E by_ w B f A c l
  raw:=fun _ u=>∃ A n c,u= .slice A n c
  len:=by rintro w cs l ⟨A,c,rfl,_⟩;rfl
  one:=by rintro w cs l ⟨A,c,rfl,_⟩ u hu;simp at hu;subst hu;rfl
  vD:=by
    rintro w cs l ⟨A,c,rfl,_⟩ j u hu;cases j with
    | zero=>simp at hu;exact ⟨_,_,_,hu.symm⟩
    | succ j=>simp at hu
  keep:=by rintro w w' cs l ⟨A,c,rfl,h⟩ Φ;exact ⟨A,c,Z,h.keep Φ⟩
  sx:=by rintro w B f cs l ⟨A,c,rfl,h⟩;exact ⟨A,c,Z,h.has⟩
  sy:=by rintro w w' B f cs l ⟨A,c,rfl,h⟩ av;exact ⟨A,c,Z,h.keep av⟩
  vz:=by rintro w B f cs l ⟨A,c,rfl,h⟩;exact h.lt
  AH:=by rintro w B qK f cs l ⟨A,c,rfl,h⟩ Φ;exact ⟨A,c,Z,h.down Φ⟩
theorem c0.aiL {β α:Type} {P:β→α→Prop}:∀ {l:List β} {m:List α},l.length=m.length→(∀ (k:Nat) b a,l[k]? =some b→m[k]? =some a→P b a)→c0 P l m
  | [], [],_,_=>trivial
  | b::l,a::m,az,h=>⟨h 0 b a rfl rfl,c0.aiL (by simpa using az) (fun k b a γ ab=>h (k+1) b a (by simpa using γ) (by simpa using ab))⟩
  | [],_::_,az,_=>by simp at az
  | _::_, [],az,_=>by simp at az
section
variable {R:τ α} {E:TypeId} {by_:Nat} {A:Option Addr} {c:Nat} {l:List α}
theorem lens {ess:List (List Value)} (h:c0 (fun es a=>R.has w es a) ess l):∀ x∈ess,x.length=R.size:=fun x hx=>by
  obtain ⟨a,ha⟩:=h.left x hx;exact R.len ha
theorem aI.at_ (h:R.aI by_ w A c l) (aF:0<l.length):∃ b o,A=some ⟨b,o,none⟩∧∀ (i:Nat) a,l[i]? =some a→∃ es,R.has w es a∧∀ (j:Nat) u,es[j]? =some u→w.cell? ⟨b,o+(i * R.size+j),none⟩=some u:=by
  obtain ⟨_,_,_,_,ess,bF,cb,d'⟩:=h;obtain ⟨b,o,e,hc⟩:=d' aF;refine ⟨b,o,e,fun i a ha=> ?_⟩;obtain ⟨es,gI,yr⟩:=bF.at_ ha;refine ⟨es,yr,fun j u hu=>hc _ u ?_⟩;have ay:=(aQM.1 hu).1;rw [R.len yr] at ay;rw [GD (lens bF) gI ay];exact hu
theorem aI.zL {Q:α→Prop} (I:∀ {w cs a},R.has w cs a→Q a) (h:R.aI by_ w A c l):∀ a∈l,Q a:=by
  obtain ⟨_,_,_,_,ess,bF,_⟩:=h;intro a ha;obtain ⟨i,ar,rfl⟩:=aRM.1 ha;obtain ⟨es,_,he⟩:=bF.at_ (aQN ar);exact I he
theorem HF {e:gi} (he:∀ w cs,e.iH w cs→∃ a,R.has w cs a) (hs:e.size=R.size) (aF:0<R.size) {cs:List Value} (h:(gi.slice e by_).iH w cs):∃ A c l,cs= [.slice A (List.length l) c]∧R.aI by_ w A c l:=by
  rcases h with rfl | ⟨a,len,cap,rfl,az,hm,hr,ar⟩
  · exact ⟨none,0, [],rfl,aQW _,by simp,by simp,fun _=>rfl, [],trivial,Rd.zero w R.size none⟩
  · obtain ⟨ess,hlen,Et⟩:=ah4 len (fun i es=>List.length es=e.size∧(∀ j v,es[j]? =some v→w.cell? (a.add (i * e.size+j))=some v)∧e.iH w es) (fun i Ai=>ar i (by omega))
    obtain ⟨l,ox,PF⟩:=ah4 len (fun i x=>∃ es,ess[i]? =some es∧R.has w es x) (fun i Ai=>by
      obtain ⟨x,hx⟩:=he w (ess[i]'(by omega)) (Et i (by omega)).2.2;exact ⟨x,_,aQN _,hx⟩)
    have dE:c0 (fun es x=>R.has w es x) ess l:=by
      refine c0.aiL (by omega) fun k es x γ ab=> ?_;have av:=(aQM.1 ab);obtain ⟨pA,fZ⟩:=av;obtain ⟨aIC,aw,aX⟩:=PF k pA;rw [γ] at aw;obtain rfl:=aQL aw;rw [← fZ];exact aX
    refine ⟨some a,cap,l,by rw [ox],by omega,by unfold maxLen at hm;omega, ?_,fun h=>(by cases h),ess,dE,by rw [z1 (lens dE),dE.length],fun aIY=> ?_⟩
    · have:=aRx by_ az
      rw [ox];omega
    · obtain ⟨b,off,spot⟩:=a
      have lY:=(Et 0 (by omega)).2.1 0;obtain ⟨v,hv⟩:∃ v,(ess[0]'(by omega))[0]? =some v:=by
        have:=(Et 0 (by omega)).1;exact ⟨_,aQN (by omega)⟩
      have sf:=lY v hv;have Am:spot=none:=by simpa [Addr.add] using World.cell?_spot sf
      subst Am;refine ⟨b,off,Z,fun j u hu=> ?_⟩;have bA:=(aQM.1 hu).1;rw [z1 (lens dE)] at bA;have ay:j % R.size<R.size:=aSK _ aF;have hd:j / R.size<ess.length:=by rw [aT8 aF];exact bA
      have P0:j / R.size * R.size+j % R.size=j:=by rw [aR3];exact aU0 j R.size
      have cb:=GD (j:=j % R.size) (lens dE) (i:=j / R.size) (es:=ess[j / R.size]'hd) (aQN hd) ay;rw [P0,hu] at cb;have d':=(Et (j / R.size) hd).2.1 _ u cb.symm;rw [Gd,hs,P0] at d';exact d'
theorem aI.d_ {A:Option Addr} {c:Nat} {l:List α} {by_:Nat} {R:τ α} (h:R.aI by_ w A c l):l.length≤9223372036854775807:=aRj h.1 h.2.1
theorem aI.H0 {A:Option Addr} {c:Nat} {l:List α} {by_:Nat} {R:τ α} (h:R.aI by_ w A c l) (k:Nat):R.aI by_ w A c (l.take k):=by
  obtain ⟨γ,ab,aw,aX,ess,bF,cb⟩:=h;have az:(l.take k).length≤l.length:=by rw [aQP];omega
  have hm:=aRx by_ az;have d':=bF.H0 k;refine ⟨by omega,ab,by omega,aX,ess.take k,d',by rw [z1 (lens d'),d'.length],fun aF=> ?_⟩;obtain ⟨b,o,e,hc⟩:=cb.2 (by omega);refine ⟨b,o,e,fun j u hu=>hc j u ?_⟩;rw [← adY k (lens bF),aRq] at hu;split at hu
  · exact hu
  · cases hu
theorem aI.nil (w:World):R.aI by_ w none 0 []:=⟨aQW _,by simp,by simp,fun _=>rfl, [],trivial,Rd.zero w R.size none⟩
theorem aG.nil (w:World):R.aG E by_ w B [] none 0 []:=⟨by simp, [],rfl,aU7,Own.nil w B E R.size R.raw,trivial⟩
end
def DN (R:τ α) (E:TypeId) (by_:Nat) (w:World) (B:Nat) (aA:List Nat) (g c:Nat) (l:List α) (i:Nat) (es:List Value):Prop :=
  l.length * by_≤140737488355328∧ 
  ∃ ps:List (List Nat×List Value),aA=g::(ps.map (·.1)).flatten∧aA.Nodup∧Own w B E R.size R.raw (.slice (some ⟨g,0,none⟩) l.length c) l.length (ps.map (·.2)).flatten∧
    ps[i]? =some ([],es)∧es.length=R.size∧ps.length=l.length∧∀ k a,k≠i→l[k]? =some a→∃ x,ps[k]? =some x∧R.own w B x.1 x.2 a
section
variable {R:τ α} {E:TypeId} {by_:Nat} {A:Option Addr} {c:Nat} {l:List α} {g i:Nat} {es:List Value} {aA:List Nat}
theorem QE {ps:List (List Nat×List Value)} (h:c0 (fun x a=>R.own w B x.1 x.2 a) ps l):∀ x∈ps.map (·.2),x.length=R.size:=fun x hx=>by
  obtain ⟨y,aK,rfl⟩:=aRs.1 hx;obtain ⟨a,ha⟩:=h.left y aK;exact R.Xl ha
theorem aG.block (h:R.aG E by_ w B f A c l) (aF:0<l.length):∃ g,A=some ⟨g,0,none⟩:=by
  obtain ⟨_,ps,_,_,aX,_⟩:=h;obtain ⟨_,bF⟩:=aX;rcases bF with ⟨_,bF⟩ | ⟨g,cap,cur,hv,_⟩
  · omega
  · injection hv with hv;exact ⟨g,hv⟩
theorem DN.lens (h:R.DN E by_ w B aA g c l i es):∃ ps:List (List Nat×List Value),aA=g::(ps.map (·.1)).flatten∧aA.Nodup∧Own w B E R.size R.raw (.slice (some ⟨g,0,none⟩) l.length c) l.length (ps.map (·.2)).flatten∧
    ps[i]? =some ([],es)∧es.length=R.size∧ps.length=l.length∧(∀ k a,k≠i→l[k]? =some a→∃ x,ps[k]? =some x∧R.own w B x.1 x.2 a)∧∀ x∈ps.map (·.2),x.length=R.size:=by
  obtain ⟨_,ps,ab,aw,aX,bF,cb,d',gI⟩:=h;refine ⟨ps,ab,aw,aX,bF,cb,d',gI,fun x hx=> ?_⟩;obtain ⟨k,av,rfl⟩:=aRM.1 hx;rw [aRz] at av;rw [aTR];by_cases pB:k=i
  · subst pB
    rw [aQN av] at bF;rw [aQL bF];exact cb
  · obtain ⟨y,aK,b1⟩:=gI k (l[k]'(by omega)) pB (aQN _)
    rw [aQN av] at aK;rw [aQL aK];exact R.Xl b1
theorem DN.keep (h:R.DN E by_ w B aA g c l i es) (av:∀ x∈aA,w'.heap[x]? =w.heap[x]?):R.DN E by_ w' B aA g c l i es:=by
  obtain ⟨γ,ps,ab,aw,aX,bF,cb,d',gI⟩:=h;refine ⟨γ,ps,ab,aw,aX.of_block (B:=0) (fun x hx=>av x ?_),bF,cb,d',fun k a pB ha=> ?_⟩
  · injection hx with hx;rw [ab,← hx];simp
  · obtain ⟨x,hx,b1⟩:=gI k a pB ha
    refine ⟨x,hx,R.sy b1 fun y aK=>av y ?_⟩;rw [ab];exact aQ1 _ (aRV.2 ⟨x.1,aRs.2 ⟨x,aRo hx,Z⟩,aK⟩)
theorem DN.cell (h:R.DN E by_ w B aA g c l i es) (ar:i<l.length) {j:Nat} {u:Value} (hu:es[j]? =some u):w.cell? ⟨g,i * R.size+j,none⟩=some u:=by
  obtain ⟨ps,ab,aw,aX,bF,cb,d',gI,az⟩:=h.lens;have ay:j<R.size:=by rw [← cb];exact (aQM.1 hu).1
  have:=aX.cell (i * R.size+j) (by
    have:(i+1) * R.size≤l.length * R.size:=aRx _ ar;rw [aSs] at this;omega)
  rw [this,GD az (by rw [aQ4,bF];rfl) ay];exact hu
theorem aG.free (h:R.aG E by_ w B f (some ⟨g,0,none⟩) c l) (j:Nat):w.frozen? ⟨g,j,none⟩=false:=by
  obtain ⟨_,ps,rfl,_,aX,_⟩:=h;exact aX.free j
end

section
variable {P:Program} {R:τ α} {by_:Nat}
theorem QF (A:Option Addr) (n c:Nat):(Value.slice A n c).ownBlock.toList=ae A:=by cases A<;>rfl
theorem aA7 (ty:TypeId) (base:Nat) (t e:TypeId) (i:TypeInfo) (z:Value) (aD:P.underlying t=some (.slice e)) (ar:P.info? e=some i) (bB:i.zero=some z)
    (w2:i.size=R.size) (py:i.bytes=by_) (si:z.cells.size=R.size) (f_:0<R.size) (w6:∀ (j:Nat) u,z.cells[j]? =some u→R.raw j u)
    (f:List Nat) (A:Option Addr) (c:Nat) (l:List α) (h:R.aG e by_ w base f A c l)
    (cW:Option Addr) (m c2:Nat) (k:List α) (kB:List (List Nat×List Value)) (I:c0 (fun x a=>R.own w base x.1 x.2 a) kB k) (hm:k.length=m) (hr:Rd w R.size cW m (kB.map (·.2)).flatten)
    (ji:(f++(kB.map (·.1)).flatten).Nodup) (q8:l.length+m≤9223372036854775807) (re:(l.length+m) * by_≤140737488355328) (pw:base≤w.heap.size):
    ∃ bH bV f' w',(Builtin.append_ #[t,t] ty #[.slice A l.length c, .slice cW m c2]).run P w= .ok (.slice bH (l.length+m) bV) w'∧R.aG e by_ w' base f' bH bV (l++k)∧w.grownBy w' (Value.slice A l.length c).ownBlock∧(bH=A∨∃ a,bH=some a∧a.block=w.heap.size)∧(∀ x∈f',x∈f∨x∈(kB.map (·.1)).flatten∨x=w.heap.size)∧(bH=none↔A=none∧m=0)∧base≤w'.heap.size:=by
  obtain ⟨γ,ps,rfl,aw,aX,bF⟩:=h;have KK:∀ (j:Nat) u,(kB.map (·.2)).flatten[j]? =some u→R.raw (j % R.size) u:=by
    intro j u hu;have az:=QE I;have bA:=(aQM.1 hu).1;rw [z1 az,aRz] at bA;have ay:j % R.size<R.size:=aSK _ f_;have hd:j / R.size<kB.length:=by rw [aT8 f_];exact bA
    have aJ2:kB[j / R.size]? =some (kB[j / R.size]'hd):=aQN hd;have avh:k[j / R.size]? =some (k[j / R.size]'(by rw [← I.length];exact hd)):=aQN _;obtain ⟨x,hx,b1⟩:=I.at_ avh;have:=GD (j:=j % R.size) az (i:=j / R.size) (es:=x.2) (by rw [aQ4,hx];rfl) ay;rw [show j / R.size * R.size+j % R.size=j from by rw [aR3];exact aU0 j R.size,hu] at this;exact R.vD (R.sx b1) _ u this.symm
  have mm:∀ u∈(kB.map (·.2)).flatten,u.oneCell'=true:=by
    intro u hu;obtain ⟨y,aK,hu⟩:=aRV.1 hu;obtain ⟨x,hx,rfl⟩:=aRs.1 aK;obtain ⟨a,ha⟩:=I.left x hx;exact R.one (R.sx ha) u hu
  obtain ⟨v',w',jR,eI,ic,k7,fq⟩:=ajH (P:=P) w base t ty e i z R.size by_ aD ar bB w2 py si f_ R.raw w6 _ _ _ aX cW m c2 _ hr mm KK (by unfold maxLen;omega) re pw;obtain ⟨bH,bV,rfl,hle,hmx,KR,GZ,j9⟩:=eI.shape;have avw:∀ x,(Value.slice A l.length c).ownBlock=some x→x∈ae A:=fun x hx=>by rw [← QF A l.length c,hx];simp
  have hA:∀ x∈ae bH,x∈ae A∨x=w.heap.size:=by
    intro x hx;rw [← QF bH (l.length+m) bV] at hx;rcases fq with fq | fq
    · rw [fq,QF] at hx;exact .inl hx
    · rw [fq] at hx;simp at hx;exact .inr hx
  have av2:∀ x∈ps,∀ y∈x.1,y<w.heap.size∧y∉ae A:=by
    intro x hx y aK;obtain ⟨a,ha⟩:=bF.left x hx;refine ⟨(R.vz ha y aK).2,fun Φ=> ?_⟩;rw [aRA] at aw;exact aw.2.2 y Φ y (aRV.2 ⟨x.1,aRs.2 ⟨x,hx,Z⟩,aK⟩) Z
  have av5:∀ x∈kB,∀ y∈x.1,y<w.heap.size∧y∉ae A:=by
    intro x hx y aK;obtain ⟨a,ha⟩:=I.left x hx;refine ⟨(R.vz ha y aK).2,fun Φ=> ?_⟩;rw [aRA] at ji;exact ji.2.2 y (aUj _ Φ) y (aRV.2 ⟨x.1,aRs.2 ⟨x,hx,Z⟩,aK⟩) Z
  have auu:∀ y,y<w.heap.size→y∉ae A→w'.heap[y]? =w.heap[y]? :=fun y aK hn=>ic.block y aK fun e=>hn (avw y e.symm);have VS:∀ x∈ps++kB,∀ y∈x.1,y<w.heap.size∧y∉ae A:=fun x hx=>by
    rcases aQ0.1 hx with hx | hx
    · exact av2 x hx
    · exact av5 x hx
  refine ⟨bH,bV,ae bH++((ps++kB).map (·.1)).flatten,w',jR,⟨by rw [aQU,hm];exact re,ps++kB,rfl, ?_, ?_, ?_⟩,ic, ?_, ?_, ?_,aRj pw ic.size⟩
  · rw [aRp,← aS2,← aRc,aRA] at ji
    rw [aRA];refine ⟨by cases bH<;>simp [ae],ji.2.1,fun x hx y aK e=> ?_⟩;subst e;obtain ⟨z,bB,aK⟩:=aRV.1 aK;obtain ⟨v,hv,rfl⟩:=aRs.1 bB;have cb:=VS v hv x aK;rcases hA x hx with d' | d'
    · exact cb.2 d'
    · omega
  · rw [aRc,aS2,aQU,hm];exact eI
  · exact (bF.app I).imp fun x a hx b1=>R.sy b1 fun y aK=>auu y (VS x hx y aK).1 (VS x hx y aK).2
  · rcases fq with fq | fq
    · cases bH with
      | none =>
        cases A with
        | none=>exact .inl rfl
        | some a=>cases fq
      | some a' =>
        cases A with
        | none=>cases fq
        | some a =>
          obtain ⟨_,cb⟩:=aX;obtain ⟨_,d'⟩:=eI;rcases cb with ⟨cb,_⟩ | ⟨g,cap,cur,cb,_⟩
          · cases cb
          rcases d' with ⟨d',_⟩ | ⟨g',aH0,BF,d',_⟩
          · cases d'
          injection cb with cb
          injection d' with d'
          rw [cb,d'] at fq ⊢;injection fq with fq
          have fq:g'=g:=fq
          left;rw [fq]
    · cases bH with
      | none=>cases fq
      | some a'=>injection fq with fq;exact .inr ⟨a',Z,fq⟩
  · intro x hx
    rcases aQ0.1 hx with hx | hx
    · rcases hA x hx with h | h
      · exact .inl (aUj _ h)
      · exact .inr (.inr h)
    · rw [aRc,aS2] at hx
      rcases aQ0.1 hx with hx | hx
      · exact .inl (aUa _ hx)
      · exact .inr (.inl hx)
  · have Ef:A=none→Value.slice A l.length c= .slice none 0 0:=fun e=>by
      obtain ⟨_,_,jr,_,_,_,_,avG⟩:=aX.shape;injection jr with a_ _ bh
      subst a_;subst bh;exact avG e
    constructor
    · intro e
      obtain ⟨cb,d'⟩:=k7.1 (j9 e);injection cb with cb
      exact ⟨cb,d'⟩
    · rintro ⟨e,aF⟩
      have:=k7.2 ⟨Ef e,aF⟩;injection this
theorem aD7 {o:Oper} {a:Act} {K:Act→World→Prop} {Q:Exit→Act→World→Prop} (s x:Operand) (base:Nat) (t e:TypeId) (i:TypeInfo) (z:Value) (aD:P.underlying t=some (.slice e)) (ar:P.info? e=some i) (bB:i.zero=some z)
    (w2:i.size=R.size) (py:i.bytes=by_) (si:z.cells.size=R.size) (f_:0<R.size) (w6:∀ (j:Nat) u,z.cells[j]? =some u→R.raw j u)
    (f:List Nat) (A:Option Addr) (c:Nat) (l:List α) (h:R.aG e by_ w base f A c l)
    (cW:Option Addr) (m c2:Nat) (k:List α) (kB:List (List Nat×List Value)) (I:c0 (fun x a=>R.own w base x.1 x.2 a) kB k) (hm:k.length=m) (hr:Rd w R.size cW m (kB.map (·.2)).flatten)
    (ji:(f++(kB.map (·.1)).flatten).Nodup) (q8:l.length+m≤9223372036854775807) (re:(l.length+m) * by_≤140737488355328) (pw:base≤w.heap.size)
    (b1:o.op= .call {callee:= .builtin .append,args:=#[s,x],argTypes:=#[t,t]}) (hs:a.eval s= .slice A l.length c) (hx:a.eval x= .slice cW m c2)
    (hK:∀ bH bV f' w',R.aG e by_ w' base f' bH bV (l++k)∧w.grownBy w' (Value.slice A l.length c).ownBlock∧(bH=A∨∃ a,bH=some a∧a.block=w.heap.size)∧(∀ x∈f',x∈f∨x∈(kB.map (·.1)).flatten∨x=w.heap.size)∧(bH=none↔A=none∧m=0)∧base≤w'.heap.size→K (a.put o.dst (.slice bH (l.length+m) bV)) w'):o.wp P a w K Q:=by
  obtain ⟨bH,bV,f',w',jR,ab⟩:=aA7 (P:=P) (w:=w) o.type base t e i z aD ar bB w2 py si f_ w6 f A c l h cW m c2 k kB I hm hr ji q8 re pw;unfold Oper.wp execOp;simp only [b1,resolve,invoke,builtin,aQY,aQ3,aQR,aUU,aRw,aSC,hs,hx,jR];exact hK bH bV f' w' ab
theorem aD4 {ops:Array Oper} {rest:List Oper} {o:Oper} {a:Act} {Q:Exit→Act→World→Prop} (VN:o.guard=none) (s x:Operand) (base:Nat) (t e:TypeId) (i:TypeInfo) (z:Value) (aD:P.underlying t=some (.slice e)) (ar:P.info? e=some i) (bB:i.zero=some z)
    (w2:i.size=R.size) (py:i.bytes=by_) (si:z.cells.size=R.size) (f_:0<R.size) (w6:∀ (j:Nat) u,z.cells[j]? =some u→R.raw j u)
    (f:List Nat) (A:Option Addr) (c:Nat) (l:List α) (h:R.aG e by_ w base f A c l)
    (cW:Option Addr) (m c2:Nat) (k:List α) (kB:List (List Nat×List Value)) (I:c0 (fun x a=>R.own w base x.1 x.2 a) kB k) (hm:k.length=m) (hr:Rd w R.size cW m (kB.map (·.2)).flatten)
    (ji:(f++(kB.map (·.1)).flatten).Nodup) (q8:l.length+m≤9223372036854775807) (re:(l.length+m) * by_≤140737488355328) (pw:base≤w.heap.size)
    (b1:o.op= .call {callee:= .builtin .append,args:=#[s,x],argTypes:=#[t,t]}) (hs:a.eval s= .slice A l.length c) (hx:a.eval x= .slice cW m c2)
    (hK:∀ bH bV f' w',R.aG e by_ w' base f' bH bV (l++k)∧w.grownBy w' (Value.slice A l.length c).ownBlock∧(bH=A∨∃ a,bH=some a∧a.block=w.heap.size)∧(∀ x∈f',x∈f∨x∈(kB.map (·.1)).flatten∨x=w.heap.size)∧(bH=none↔A=none∧m=0)∧base≤w'.heap.size→wpList P ops Q rest (a.put o.dst (.slice bH (l.length+m) bV)) w'):wpList P ops Q (o::rest) a w :=
  wpList_plain VN fun _ atK=>aD7 s x base t e i z aD ar bB w2 py si f_ w6 f A c l h cW m c2 k kB I hm hr ji q8 re pw b1 hs hx fun bH bV f' w' ab=>atK _ _ (hK bH bV f' w' ab)
def Plain (R:τ α):Prop:=∀ {w B cs a},R.has w cs a→R.own w B [] cs a
theorem ou {size:Nat} {cells:α→List Value} {ok:α→Prop} {raw:Nat→Value→Prop} {az γ hr}:(flat size cells ok raw az γ hr).Plain:=fun h=>⟨rfl,h⟩
theorem adU {size:Nat} {cells:α→List Value} {ok:α→Prop} {raw:Nat→Value→Prop} {az γ hr}:(Uv size cells ok raw az γ hr).Plain:=fun h=>⟨rfl,h⟩
theorem c0.plain {ess:List (List Value)} {l:List α} (hp:R.Plain) (h:c0 (fun es a=>R.has w es a) ess l):c0 (fun x a=>R.own w B x.1 x.2 a) (ess.map fun es=>(([]:List Nat),es)) l :=
  c0.W3 (P:=fun (x:List Nat×List Value) a=>R.own w B x.1 x.2 a) (fun es=>(([]:List Nat),es)) (h.imp fun _ _ _ h=>hp h)
theorem ai6 (ess:List (List Value)):((ess.map fun es=>(([]:List Nat),es)).map (·.1)).flatten= []∧(ess.map fun es=>(([]:List Nat),es)).map (·.2)=ess:=by
  constructor
  · induction ess with
    | nil=>rfl
    | cons x r bt=>simp
  · rw [aTy]
    exact List.map_id' ess
theorem aG.yT {E:TypeId} {A:Option Addr} {c:Nat} {l:List α} (hp:R.Plain) {ess:List (List Value)} (h:c0 (fun es a=>R.has w es a) ess l) (Φ:l.length * by_≤140737488355328) (b1:Own w B E R.size R.raw (.slice A l.length c) l.length ess.flatten):R.aG E by_ w B (ae A) A c l:=by
  obtain ⟨a_,bh⟩:=ai6 ess;exact ⟨Φ,_,by rw [a_,aRn],by cases A<;>simp [ae],by rw [bh];exact b1,c0.plain hp h⟩
theorem aG.as2 {E:TypeId} {A:Option Addr} {c:Nat} {l:List α} (hp:∀ {w B f cs a},R.own w B f cs a→f= []) (h:R.aG E by_ w B f A c l):f=ae A:=by
  obtain ⟨_,ps,rfl,_,_,bF⟩:=h;have:(ps.map (·.1)).flatten= []:=by
    rw [aVp];intro x hx;obtain ⟨y,aK,rfl⟩:=aRs.1 hx;obtain ⟨a,ha⟩:=bF.left y aK;exact hp ha
  rw [this,aRn]
end
end τ

theorem D' {α:Type} {R:τ α} {w:World} {ess:List (List Value)} {l:List α} (h:c0 (fun es a=>R.has w es a) ess l) (aF:0<R.size) {j:Nat} {u:Value} (hu:ess.flatten[j]? =some u):R.raw (j % R.size) u:=by
  have az:=τ.lens h;have bA:=(aQM.1 hu).1;rw [z1 az] at bA;have ay:j % R.size<R.size:=aSK _ aF;have hd:j / R.size<ess.length:=by rw [aT8 aF];exact bA
  have P0:j / R.size * R.size+j % R.size=j:=by rw [aR3];exact aU0 j R.size
  have cb:=GD (j:=j % R.size) az (i:=j / R.size) (es:=ess[j / R.size]'hd) (aQN hd) ay;rw [P0,hu] at cb;obtain ⟨a,ha⟩:=h.left _ (aRO hd);exact R.vD ha _ u cb.symm
namespace τ
variable {α:Type} {w w':World} {B:Nat} {f:List Nat} {R:τ α} {E:TypeId} {A:Option Addr} {by_ g c:Nat} {l:List α}
def v7 (R:τ α):Prop:=R.Plain∧∀ {w B f cs a},R.own w B f cs a→f= []
theorem dC {size:Nat} {cells:α→List Value} {ok:α→Prop} {raw:Nat→Value→Prop} {az γ hr}:(flat size cells ok raw az γ hr).v7:=⟨ou,fun h=>h.1⟩
theorem asM {size:Nat} {cells:α→List Value} {ok:α→Prop} {raw:Nat→Value→Prop} {az γ hr}:(Uv size cells ok raw az γ hr).v7:=⟨adU,fun h=>h.1⟩
theorem aG.aBA (h:R.aG E by_ w B f (some ⟨g,0,none⟩) c l) (hp:R.v7) {i j:Nat} {a a':α} {u:Value} (ar:l[i]? =some a) (ay:j<R.size) (hu:∀ cs,R.has w cs a→R.has (w.setCell ⟨g,i * R.size+j,none⟩ u) (cs.set j u) a'):
    R.aG E by_ (w.setCell ⟨g,i * R.size+j,none⟩ u) B f (some ⟨g,0,none⟩) c (l.set i a'):=by
  obtain ⟨Φ,ps,rfl,hn,b1,dE⟩:=h;obtain ⟨x,hx,K1⟩:=dE.at_ ar;have az:=QE dE;have jS:x.1= []:=hp.2 K1;have Hf:x.2.length=R.size:=R.Xl K1;have afO:=hu x.2 (R.sx K1);have nN:R.raw j u:=R.vD afO j u (by rw [aQ9 (by omega)]);have yr:=b1.stored (i * R.size+j) u (by rw [aR3,aTu,aR5 ay];exact nN);rw [adX u az (i:=i) (es:=x.2) (by rw [aQ4,hx];rfl) ay] at yr;have bA:=(aQM.1 hx).1;have a_:(ps.set i (x.1,x.2.set j u)).map (·.1)=ps.map (·.1):=by
    rw [aRY];have:(ps.map (·.1))[i]? =some x.1:=by rw [aQ4,hx];rfl
    obtain ⟨ab,aw⟩:=aQM.1 this
    conv=>lhs;rw [← aw]
    exact aSy _
  have bh:(ps.set i (x.1,x.2.set j u)).map (·.2)=(ps.map (·.2)).set i (x.2.set j u):=by rw [aRY]
  have VC:∀ y∈ps,∀ q∈y.1,q≠g:=fun y aK q I e=>by
    obtain ⟨b,Ek⟩:=dE.left y aK;rw [hp.2 Ek] at I;simp at I
  have Vn:c0 (fun x a=>R.own (w.setCell ⟨g,i * R.size+j,none⟩ u) B x.1 x.2 a) ps l:=dE.imp fun y a aK P6=>R.sy P6 fun q I=>aUP _ _ _ _ (VC y aK q I);refine ⟨by rw [aQS];exact Φ,ps.set i (x.1,x.2.set j u),by rw [a_],hn,by rw [aQS,bh];exact yr, ?_⟩;exact Vn.X0 (P:=fun (x:List Nat×List Value) a=>R.own (w.setCell ⟨g,i * R.size+j,none⟩ u) B x.1 x.2 a) (by rw [jS];exact hp.1 afO)
theorem aG.other (h:R.aG E by_ w B f A c l) {p:Addr} (hp:p.block∉f) (u:Value):R.aG E by_ (w.setCell p u) B f A c l :=
  h.keep fun g aM=>aUP _ _ _ _ fun e=>hp (e ▸ aM)
theorem aG.drewN (h:R.aG E by_ w B f A c l) (k:Nat):R.aG E by_ (w.drewN k) B f A c l:=h.keep fun _ _=>rfl
theorem aG.drew (h:R.aG E by_ w B f A c l):R.aG E by_ w.drew B f A c l:=h.keep fun _ _=>rfl
end τ
def cL (n lo ar:Int):Bool:=decide (lo≤n) && decide (n≤ar)
theorem kv {n lo ar:Int} (h:cL n lo ar=true):lo≤n∧n≤ar:=by simpa [cL] using h
theorem awT {n lo ar:Int} (h:cL n lo ar=false):n<lo∨ar<n:=by
  simp [cL] at h;omega
theorem oB {n lo ar:Int} (γ:lo≤n) (ab:n≤ar):cL n lo ar=true:=by simp [cL,γ,ab]
theorem pF {n lo ar:Int} (h:n<lo∨ar<n):cL n lo ar=false:=by
  cases Φ:cL n lo ar with
  | false=>rfl
  | true=>have:=kv Φ;omega
def gb {α:Type} (p:α→Bool) (l:List α):Int:=match l.findIdx? p with | some k=>(k:Int) | none=> -1
theorem EC {α:Type} {p:α→Bool} {l:List α} {k:Nat} (av:k<l.length) (γ:p l[k]=true) (ab:∀ j (ay:j<k),p (l[j]'(by omega))=false):gb p l=(k:Int):=by
  unfold gb;have:l.findIdx? p=some k:=by
    rw [aTh];exact ⟨av,γ,fun j ay=>by rw [ab j ay];simp⟩
  rw [this]
theorem EB {α:Type} {p:α→Bool} {l:List α} (ab:∀ j (ay:j<l.length),p l[j]=false):gb p l= -1:=by
  unfold gb;have:l.findIdx? p=none:=by
    rw [aTH];intro x hx;obtain ⟨j,ay,rfl⟩:=aRM.1 hx;exact ab j ay
  rw [this]
theorem K4 {α:Type} (p:α→Bool) (l:List α):decide (0≤gb p l)=l.any p:=by
  by_cases h:∀ j (ay:j<l.length),p l[j]=false
  · rw [EB h]
    have:l.any p=false:=by
      rw [aUJ];intro x hx;obtain ⟨j,ay,rfl⟩:=aRM.1 hx;rw [h j ay];simp
    rw [this];rfl
  · have:l.any p=true:=by
      rw [aR6];simp only [Classical.not_forall] at h;obtain ⟨j,ay,h⟩:=h;exact ⟨l[j],aRO ay,by simpa using h⟩
    rw [this];unfold gb;cases hf:l.findIdx? p with
    | none =>
      rw [aTH] at hf;rw [aR6] at this;obtain ⟨x,hx,hp⟩:=this;rw [hf x hx] at hp;cases hp
    | some k=>simp
theorem Wo {α:Type} (p:α→Bool) (l:List α):gb p l= -1∧(∀ x∈l,p x=false)∨∃ (k:Nat) (h:k<l.length),gb p l=(k:Int)∧p l[k]=true∧∀ j (ay:j<k),p (l[j]'(by omega))=false:=by
  unfold gb;cases hf:l.findIdx? p with
  | none=>exact .inl ⟨rfl,fun x hx=>aTH.1 hf x hx⟩
  | some k =>
    obtain ⟨γ,ab,aw⟩:=aTh.1 hf;exact .inr ⟨k,γ,Z,ab,fun j ay=>by have:=aw j ay;simpa using this⟩
open Go.RowKit Go.Maps

def iz (w:World) (b:Nat) (es:Array MapEntry) (clock:Nat):World:=Go.ChangeMaps.setBlock w b (.map es clock)
theorem CH {w:World} {b:Nat} {es:Array MapEntry} {clock:Nat} (h:b<w.heap.size):(iz w b es clock).heap[b]? =some (.map es clock):=by
  simp [iz,Go.ChangeMaps.setBlock,h]
theorem Ma {w:World} {b g:Nat} {es:Array MapEntry} {clock:Nat} (h:g≠b):(iz w b es clock).heap[g]? =w.heap[g]? :=by
  simp [iz,Go.ChangeMaps.setBlock,aSF (aTx h)]
theorem ajW {w:World} {b:Nat} {es:Array MapEntry} {clock:Nat}:(iz w b es clock).heap.size=w.heap.size:=by
  simp [iz,Go.ChangeMaps.setBlock]
theorem aBy {B:Nat} {a w:World} {b:Nat} {es:Array MapEntry} {clock:Nat} (h:Below B a w) (Φ:B≤b):Below B a (iz w b es clock):=
  h.trans ⟨rfl,rfl,rfl,by simp [ajW],fun k av=>Ma (by omega)⟩
def dB {gg:Type} (key:gg→Value) (e:gg×Int×Nat):MapEntry:=⟨key e.1, .int .i64 e.2.1,e.2.2⟩
structure dy {gg:Type} (key:gg→Value) (w:World) (b:Nat) (l:List (gg×Int×Nat)) (clock:Nat):Prop where
  fl:w.heap[b]? =some (.map (l.map (dB key)).toArray clock)
  born:∀ e∈l,e.2.2<clock
  stamps:(l.map (·.2.2)).Nodup
structure SA {gg:Type} (P:Program) (k:TypeId) (key:gg→Value) (wf:gg→Prop):Prop where
  keyed:Keyed P k
  lit:∀ x,wf x→∃ l,keyOf P k (key x)=some l
  inj:∀ x y,key x=key y→x=y
namespace dy
section
variable {gg:Type} {key:gg→Value} {w:World} {b:Nat} {l:List (gg×Int×Nat)} {clock:Nat}
theorem lt (h:dy key w b l clock):b<w.heap.size:=(aRl.1 h.fl).1
theorem keep {w':World} (h:dy key w b l clock) (av:w'.heap[b]? =w.heap[b]?):dy key w' b l clock:=⟨av.trans h.fl,h.born,h.stamps⟩
theorem later {w':World} (h:dy key w b l clock) (Φ:Below w.heap.size w w'):dy key w' b l clock:=h.keep (Φ.block b h.lt)
theorem made (w:World):dy key (w.alloc (.map #[] 0)) w.heap.size [] 0:=⟨aTJ w _,(by simp),(by simp)⟩
theorem axp {P:Program} {k:TypeId} {wf:gg→Prop} (K:SA P k key wf) (hw:∀ e∈l,wf e.1):∀ y∈l.map (dB key),∃ z,keyOf P k y.key=some z:=by
  intro y aK;obtain ⟨a,ha,rfl⟩:=aRs.1 aK;exact K.lit a.1 (hw a ha)
end
variable {gg:Type} [DecidableEq gg] {key:gg→Value} {w:World} {b:Nat} {l:List (gg×Int×Nat)} {clock:Nat}
def get (l:List (gg×Int×Nat)) (x:gg):Option Int:=(l.find? fun e=>decide (e.1=x)).map (·.2.1)
def put (l:List (gg×Int×Nat)) (clock:Nat) (x:gg) (v:Int):List (gg×Int×Nat):=
  if l.any (fun e=>decide (e.1=x)) then l.map (fun e=>if e.1=x then (e.1,v,e.2.2) else e) else l++ [(x,v,clock)]
def tick (l:List (gg×Int×Nat)) (clock:Nat) (x:gg):Nat:=if l.any (fun e=>decide (e.1=x)) then clock else clock+1
theorem Ab (l:List (gg×Int×Nat)) (c:Nat) (x y:gg) (v:Int):get (put l c x v) y=if y=x then some v else get l y:=by
  unfold get put;by_cases h:l.any (fun e=>decide (e.1=x))=true
  · rw [aQZ h]
    induction l with
    | nil=>simp at h
    | cons e r bt =>
      rw [aRw];by_cases hex:e.1=x
      · rw [aQZ hex]
        by_cases aK:y=x
        · subst aK
          rw [aTZ (by simp [hex])];simp
        · rw [aQV aK,aSN (by simp [hex,aTx aK]),aSN (by simp [hex,aTx aK])]
          by_cases hr:r.any (fun e=>decide (e.1=x))=true
          · have:=bt hr
            rw [aQV aK] at this;exact this
          · have e0:r.map (fun e=>if e.1=x then (e.1,v,e.2.2) else e)=r:=by
              conv=>rhs;rw [← List.map_id r]
              refine aVL fun a ha=> ?_;rw [aQV];rfl;intro he;exact hr (aR6.2 ⟨a,ha,by simp [he]⟩)
            rw [e0]
      · rw [aQV hex]
        have hr:r.any (fun e=>decide (e.1=x))=true:=by simpa [hex] using h
        by_cases Kv:e.1=y
        · have awC:¬ y=x:=fun h=>hex (Kv.trans h)
          rw [aTZ (by simp [Kv]),aTZ (by simp [Kv]),aQV awC]
        · rw [aSN (by simp [Kv]),aSN (by simp [Kv])]
          exact bt hr
  · rw [aQV h,List.find?_append]
    by_cases aK:y=x
    · subst aK
      have:l.find? (fun e=>decide (e.1=y))=none:=by
        rw [aSa];intro e he hd;exact h (aR6.2 ⟨e,he,hd⟩)
      rw [this];simp
    · rw [aQV aK]
      cases l.find? (fun e=>decide (e.1=y))<;>simp [aTx aK]
theorem W6 {l:List (gg×Int×Nat)} {c:Nat} {x:gg} {v:Int} {wf:gg→Prop} (az:∀ e∈l,wf e.1) (hx:wf x):∀ e∈put l c x v,wf e.1:=by
  intro e he;unfold put at he;split at he
  · obtain ⟨a,ha,rfl⟩:=aRs.1 he
    split
    · exact az a ha
    · exact az a ha
  · rcases aQ0.1 he with he | he
    · exact az e he
    · simp at he;subst he;exact hx
theorem hG {l:List (gg×Int×Nat)} (hn:(l.map (·.1)).Nodup) {j n:Nat} {x:gg} {v:Int} (ay:l[j]? =some (x,v,n)):get l x=some v:=by
  unfold get;induction l generalizing j with
  | nil=>simp at ay
  | cons e r bt =>
    rw [aRw,aT1] at hn;cases j with
    | zero=>simp at ay;subst ay;simp
    | succ j =>
      have ay:r[j]? =some (x,v,n):=by simpa using ay
      have:e.1≠x:=fun he=>hn.1 (aRs.2 ⟨(x,v,n),aRo ay,he.symm⟩);rw [aSN (by simpa using this)];exact bt hn.2 ay
theorem Hg {l:List (gg×Int×Nat)} (hn:(l.map (·.1)).Nodup) (c:Nat) (x:gg) (v:Int):((put l c x v).map (·.1)).Nodup:=by
  unfold put;split
  · rw [aTy]
    have:((fun e:gg×Int×Nat=>e.1) ∘ fun e=>if e.1=x then (e.1,v,e.2.2) else e)=fun e=>e.1:=by
      funext e;simp only [Function.comp];split<;>rfl
    rw [this];exact hn
  · rename_i h
    rw [aRc,aRA];refine ⟨hn,by simp,fun a ha c hc e=> ?_⟩;simp at hc;obtain ⟨y,aK,rfl⟩:=aRs.1 ha;exact h (aR6.2 ⟨y,aK,by simp [e,hc]⟩)
variable {P:Program} {k e t:TypeId} {wf:gg→Prop} (K:SA P k key wf)
include K
theorem found (h:dy key w b l clock) (hw:∀ e∈l,wf e.1) (x:gg) (hx:wf x):
    ((Instr.findKey k (key x) (l.map (dB key))).run P w= .ok none w∧get l x=none∧∀ a∈l,a.1≠x)∨
    ∃ (j:Nat) (v:Int) (n:Nat),(Instr.findKey k (key x) (l.map (dB key))).run P w= .ok (some (j, .int .i64 v)) w∧l[j]? =some (x,v,n):=by
  obtain ⟨ie,rp⟩:=K.lit x hx;rcases K.keyed.find w rp (l.map (dB key)) (axp K hw) with ⟨γ,ab⟩ | ⟨j,e0,γ,ab,aw⟩
  · have kt:∀ a∈l,a.1≠x:=fun a ha Ag=>ab (dB key a) (aRs.2 ⟨a,ha,rfl⟩) (by simp [dB,Ag])
    refine .inl ⟨γ, ?_,kt⟩;unfold get;rw [aSa.2 fun a ha=>by simpa using kt a ha];rfl
  · rw [aQ4] at ab
    cases ay:l[j]? with
    | none=>rw [ay] at ab;cases ab
    | some a =>
      rw [ay] at ab;obtain rfl:=aQL ab;obtain rfl:a.1=x:=K.inj _ _ aw;exact .inr ⟨j,a.2.1,a.2.2,γ,ay⟩
theorem lookup (aD:P.underlying t=some (.map k e)) (bB:(zeroValue e).run P w= .ok (.int .i64 0) w) (h:dy key w b l clock) (hw:∀ e∈l,wf e.1) (hn:(l.map (·.1)).Nodup) (x:gg) (hx:wf x):
    (Instr.lookup t (.map (some b)) (key x) false).run P w= .ok (.int .i64 ((get l x).getD 0)) w∧
    (Instr.lookup t (.map (some b)) (key x) true).run P w= .ok (.tuple #[.int .i64 ((get l x).getD 0), .bool (get l x).isSome]) w:=by
  obtain ⟨ie,rp⟩:=K.lit x hx;rcases found K h hw x hx with ⟨γ,ab,_⟩ | ⟨j,v,n,γ,ab⟩
  · rw [ab]
    constructor<;>simp [Instr.lookup,aR0 aD,aRH h.fl,K.keyed.check w _ rp,γ,bB,Result.andThen]
  · rw [hG hn ab]
    constructor<;>simp [Instr.lookup,aR0 aD,aRH h.fl,K.keyed.check w _ rp,γ,Result.andThen]
theorem entry (aD:P.underlying t=some (.map k e)) (bB:∀ u:World,(zeroValue e).run P u= .ok (.int .i64 0) u) (h:dy key w b l clock) (hw:∀ e∈l,wf e.1) (hn:(l.map (·.1)).Nodup) (x:gg) (hx:wf x):
    ∃ (st:Nat) (er:List (gg×Int×Nat)) (c1:Nat),(∀ n,(Instr.mapEntry t (.map (some b)) (key x)).run P (w.drewN n)= .ok (.tuple #[.int .i64 ((get l x).getD 0), .int .i64 (st:Int)]) ((iz w b (er.map (dB key)).toArray c1).drewN n))∧
      dy key (iz w b (er.map (dB key)).toArray c1) b er c1∧(∀ e∈er,wf e.1)∧(er.map (·.1)).Nodup∧get er x=some ((get l x).getD 0)∧
      ∀ v n,(Instr.entryStore t (.map (some b)) (.int .i64 (st:Int)) (.int .i64 v)).run P ((iz w b (er.map (dB key)).toArray c1).drewN n)= .ok () ((iz w b ((put l clock x v).map (dB key)).toArray (tick l clock x)).drewN n)∧
        dy key (iz w b ((put l clock x v).map (dB key)).toArray (tick l clock x)) b (put l clock x v) (tick l clock x):=by
  obtain ⟨ie,rp⟩:=K.lit x hx;have Φ:=h.fl;have bA:=h.lt;have En:∀ n,(w.drewN n).heap[b]? =some (.map (l.map (dB key)).toArray clock):=fun n=>Φ;have idxOf:∀ (m:List (gg×Int×Nat)) (j:Nat) (a:gg×Int×Nat),(m.map (·.2.2)).Nodup→m[j]? =some a→((m.map (dB key)).toArray).findIdx? (fun y=>((y.born:Nat):Int)== ((a.2.2:Nat):Int))=some j:=by
    intro m j a hm ay;rw [aVl];refine aVg (l:=m.map (dB key)) (j:=j) (e0:=dB key a) ?_ (by rw [aQ4,ay];rfl);rw [aTy];exact hm
  rcases found K h hw x hx with ⟨γ,ab,aw⟩ | ⟨j,v0,n0,γ,ab⟩
  · have po:l.any (fun e=>decide (e.1=x))=false:=by
      rw [aV0];intro ha;obtain ⟨a,ha,hd⟩:=aR6.1 ha;exact aw a ha (by simpa using hd)
    have Ch:∀ v,put l clock x v=l++ [(x,v,clock)]:=fun v=>by unfold put;rw [aQV (by rw [po];decide)]
    have Wf:tick l clock x=clock+1:=by unfold tick;rw [aQV (by rw [po];decide)]
    have hQ:∀ v,dy key (iz w b ((l++ [(x,v,clock)]).map (dB key)).toArray (clock+1)) b (l++ [(x,v,clock)]) (clock+1):=fun v=>by
      refine ⟨CH bA,fun a ha=> ?_, ?_⟩
      · rcases aQ0.1 ha with ha | ha
        · have:=h.born a ha;omega
        · simp at ha;subst ha;simp
      · rw [aRc,aRA]
        refine ⟨h.stamps,by simp,fun a ha c hc e=> ?_⟩;simp at hc;obtain ⟨y,aK,rfl⟩:=aRs.1 ha;have:=h.born y aK;omega
    have UT:∀ n,(Instr.findKey k (key x) (l.map (dB key))).run P (w.drewN n)= .ok none (w.drewN n):=fun n=>by
      rcases found (w:=w.drewN n) K ⟨En n,h.born,h.stamps⟩ hw x hx with ⟨γ,_,_⟩ | ⟨j,v,m,_,ay⟩
      · exact γ
      · exact absurd rfl (aw _ (aRo ay))
    refine ⟨clock,l++ [(x,0,clock)],clock+1,fun n=> ?_,hQ 0,fun a ha=> ?_, ?_, ?_,fun v n=> ?_⟩
    · rw [ab]
      have:(l.map (dB key)).toArray.push (⟨key x, .int .i64 0,clock⟩:MapEntry)=((l++ [(x,0,clock)]).map (dB key)).toArray:=by simp [dB]
      simp [Instr.mapEntry,aR0 aD,aRH (En n),K.keyed.check (w.drewN n) false rp,UT n,bB,aR7 _ (En n),Result.andThen,iz,Go.ChangeMaps.setBlock,goInt,dB];rfl
    · rcases aQ0.1 ha with ha | ha
      · exact hw a ha
      · simp at ha;subst ha;exact hx
    · have:=Hg hn clock x 0
      rw [Ch] at this;exact this
    · have:=Ab l clock x x 0
      rw [Ch,aQZ rfl] at this;rw [this,ab];rfl
    · rw [Ch,Wf]
      refine ⟨?_,hQ v⟩;have ep:=idxOf (l++ [(x,0,clock)]) l.length (x,0,clock) (hQ 0).stamps (by simp);have KE:((l++ [(x,0,clock)]).map (dB key)).toArray.modify l.length (fun e=> {e with val:=Value.int .i64 v})=((l++ [(x,v,clock)]).map (dB key)).toArray:=by
        apply aSh;rw [aS3];have hlen:l.length=(l.map (dB key)).length:=by simp
        rw [hlen];simp only [aRc,aRw,aSC];rw [Go.WideElems.modify_last];rfl
      have cK:((iz w b ((l++ [(x,0,clock)]).map (dB key)).toArray (clock+1)).drewN n).heap[b]? =some (.map ((l++ [(x,0,clock)]).map (dB key)).toArray (clock+1)):=CH bA;have jR:(Instr.entryStore t (.map (some b)) (goInt clock) (.int .i64 v)).run P ((iz w b ((l++ [(x,0,clock)]).map (dB key)).toArray (clock+1)).drewN n)= .ok () (iz ((iz w b ((l++ [(x,0,clock)]).map (dB key)).toArray (clock+1)).drewN n) b ((l++ [(x,v,clock)]).map (dB key)).toArray (clock+1)):=by
        rw [← KE];simp only [Instr.entryStore,aQY,aRH cK,aQR,asInt,asIntOf,goInt,aQ3];rw [ep];exact aR7 _ cK
      refine jR.trans ?_;simp [iz,Go.ChangeMaps.setBlock,World.drewN]
  · have po:l.any (fun e=>decide (e.1=x))=true:=aR6.2 ⟨_,aRo ab,by simp⟩
    have Ch:∀ v,put l clock x v=l.map (fun e=>if e.1=x then (e.1,v,e.2.2) else e):=fun v=>by unfold put;rw [aQZ po]
    have Wf:tick l clock x=clock:=by unfold tick;rw [aQZ po]
    have afp:=hG hn ab;have rr:∀ v,l.map (fun e=>if e.1=x then (e.1,v,e.2.2) else e)=l.set j (x,v,n0):=by
      intro v;refine aSm fun i=> ?_;rw [aQ4];by_cases jh:j=i
      · subst jh
        rw [ab,aQ9 (aQM.1 ab).1];simp
      · rw [aRf jh]
        cases ar:l[i]? with
        | none=>rfl
        | some a =>
          have:a.1≠x:=by
            intro Ag;have Ai:=(aQM.1 ar);have KA:=(aQM.1 ab);have a_:(l.map (·.1))[i]? =(l.map (·.1))[j]? :=by rw [aQ4,aQ4,ar,ab];simp [Ag]
            obtain ⟨qk,_⟩:=Ai;obtain ⟨ox,_⟩:=KA;have:=(aUI (by simpa using qk) hn).1 a_;exact jh this.symm
          simp [this]
    have UT:∀ n,(Instr.findKey k (key x) (l.map (dB key))).run P (w.drewN n)= .ok (some (j, .int .i64 v0)) (w.drewN n):=fun n=>by
      rcases found (w:=w.drewN n) K ⟨En n,h.born,h.stamps⟩ hw x hx with ⟨_,_,aw⟩ | ⟨aw8,v,m,Ee,ay⟩
      · exact absurd rfl (aw (x,v0,n0) (aRo ab))
      · have a_:(l.map (·.1))[aw8]? =(l.map (·.1))[j]? :=by rw [aQ4,aQ4,ay,ab];rfl
        have:=(aUI (by simpa using (aQM.1 ay).1) hn).1 a_;subst this;rw [ab] at ay;injection ay with ay
        injection ay with _ ay
        injection ay with au9 _
        rw [Ee,au9]
    have hQ:∀ v,dy key (iz w b ((l.set j (x,v,n0)).map (dB key)).toArray clock) b (l.set j (x,v,n0)) clock:=fun v=>by
      refine ⟨CH bA,fun a ha=> ?_, ?_⟩
      · rcases aSz ha with ha | ha
        · exact h.born a ha
        · rw [ha];exact h.born (x,v0,n0) (aRo ab)
      · rw [aRY]
        have:(l.map (·.2.2)).set j n0=l.map (·.2.2):=by
          have avt:=(aQM.1 ab);obtain ⟨qk,ox⟩:=avt;have e:(l.map (·.2.2))[j]'(by simpa using qk)=n0:=by rw [aTR,ox]
          conv=>lhs;rw [← e]
          exact aSy _
        rw [this];exact h.stamps
    refine ⟨n0,l,clock,fun n=> ?_,⟨CH bA,h.born,h.stamps⟩,hw,hn,by rw [afp];rfl,fun v n=> ?_⟩
    · rw [afp]
      have ay:(l.map (dB key)).toArray[j]? =some (dB key (x,v0,n0)):=by simp [ab]
      have V':(l.map (dB key)).toArray.modify j (fun e=> {e with key:=key x})=(l.map (dB key)).toArray:=by
        apply aSh;rw [aS3,aST _ _ _ _ (by rw [aQ4,ab];rfl)];exact aVA _ _ _ (by rw [aQ4,ab];rfl)
      have VR:(dB key (x,v0,n0)).key=key x:=rfl;have Vt:(dB key (x,v0,n0)).born=n0:=rfl;simp only [Instr.mapEntry,aQY,aR0 aD,aQR,aRH (En n),K.keyed.check (w.drewN n) false rp,UT n,ay,aSn,aRU,VR,K.keyed.stays (w.drewN n) rp,V',aR7 _ (En n),Vt,aQ3];rfl
    · rw [Ch,Wf,rr]
      refine ⟨?_,hQ v⟩;have ep:=idxOf l j (x,v0,n0) h.stamps ab;have KE:(l.map (dB key)).toArray.modify j (fun e=> {e with val:=Value.int .i64 v})=((l.set j (x,v,n0)).map (dB key)).toArray:=by
        apply aSh;rw [aS3,aST _ _ _ _ (by rw [aQ4,ab];rfl),aRY];rfl
      have cK:((iz w b (l.map (dB key)).toArray clock).drewN n).heap[b]? =some (.map (l.map (dB key)).toArray clock):=CH bA;have jR:(Instr.entryStore t (.map (some b)) (goInt n0) (.int .i64 v)).run P ((iz w b (l.map (dB key)).toArray clock).drewN n)= .ok () (iz ((iz w b (l.map (dB key)).toArray clock).drewN n) b ((l.set j (x,v,n0)).map (dB key)).toArray clock):=by
        rw [← KE];simp only [Instr.entryStore,aQY,aRH cK,aQR,asInt,asIntOf,goInt,aQ3];rw [ep];exact aR7 _ cK
      refine jR.trans ?_;simp [iz,Go.ChangeMaps.setBlock,World.drewN]
end dy

theorem ajI {P:Program} {w:World} {o:Oper} {a:Act} (f:FuncId) (fn:Func) (hf:P.funcs[f]? =some fn) (hn:(fn.name == "runtime.NumGoroutine")=false) (Φ:fn.body.isNone=false)
    (xs:Array Operand) (ts:Array TypeId) (vn:o.op=Op.call {callee:=Callee.value (Operand.func f),args:=xs,argTypes:=ts}) (args:Array Value) (Pq:xs.map a.eval=args):
    (execOp a.eval o).run P w= .ok (.enter f args) w:=by
  unfold execOp;have he:a.eval (.func f)= .func (.func f) #[] #[]:=rfl;have hp:Sem.run P program w= .ok P w:=rfl;simp only [vn,resolve,invoke,Deferred.ofValue,he,callFunc,aQY,aQ3,aQR,Pq,hp,hf,hn,Φ,aTE,Array.append_empty,aRr,aRZ]
theorem Q5 {P:Program} {ops:Array Oper} {o:Oper} {a:Act} {w:World} {K:Act→World→Prop} {Q:Exit→Act→World→Prop} {E:Prop}
    (aM:o.guard=none) (f:FuncId) (fn:Func) (hf:P.funcs[f]? =some fn) (hn:(fn.name == "runtime.NumGoroutine")=false) (Φ:fn.body.isNone=false)
    (xs:Array Operand) (ts:Array TypeId) (vn:o.op=Op.call {callee:=Callee.value (Operand.func f),args:=xs,argTypes:=ts}) (args:Array Value) (Pq:xs.map a.eval=args)
    (hc:Calls P f args w fun e w'=>∃ v,e= .returned v∧K (a.put o.dst v) w'):
    if Region.wanted o (yielded ops a.tmps)=true then Oper.wp P o a w K Q else E:=by
  have hw:Region.wanted o (yielded ops a.tmps)=true:=by simp [Region.wanted,aM]
  rw [aQZ hw];unfold Oper.wp;rw [ajI f fn hf hn Φ xs ts vn args Pq,Oper.upon_enter];refine hc.mono fun e lg fM=> ?_;obtain ⟨v,rfl,h⟩:=fM;exact h
theorem nG {wr aP w':World} (h:Below wr.heap.size wr aP) (ab:Below aP.heap.size aP w'):Below wr.heap.size wr w':=h.trans (ab.mono h.size)
theorem abw {wr aP w':World} (h:Below wr.heap.size wr aP) (ab:Below aP.drew.heap.size aP.drew w'):Below wr.heap.size wr w':=h.drew.trans (ab.mono h.size)
theorem RL {P:Program} {id:Nat} {Q:Exit→Act→World→Prop} {a:Act} {w:World} {l:List Oper} (hm:P.follows .mixedOrders=true) (bc:Region.lexB .any l.toArray=true)
    (h:wpQuiet P l.toArray (fun w'=>Below w.heap.size w w') (fun a'=>∀ w',Below w.heap.size w w'→Q .normal a' w') l a):(Code.region id l.toArray true).wp P Q a w :=
  wp_region_quiet (C:=fun w'=>Below w.heap.size w w') hm bc (below_drewN (aRe _ w) 1) (by simpa using h)
theorem aAP {P:Program} {o:Oper} {a:Act} {C:World→Prop} {w:World} {v:Value} (h:(execOp a.eval o).run P w= .ok (.value v) w):o.quietAt P a C w v:=by
  unfold Oper.quietAt;rw [h];exact ⟨Z,Z⟩
theorem aAO {P:Program} {o:Oper} {a:Act} {C:World→Prop} {w:World} {v:Value} {f:FuncId} {args:Array Value} (h:(execOp a.eval o).run P w= .ok (.enter f args) w) (hc:Calls P f args w fun e lg=>e= .returned v∧C lg):o.quietAt P a C w v:=by
  unfold Oper.quietAt;rw [h];exact ⟨Z,hc⟩
theorem QP {P:Program} {o:Oper} {a:Act} {C:World→Prop} {w:World} {v:Value} {r:Result Next} (h:(execOp a.eval o).run P w=r) (hr:r= .ok (.value v) w):o.quietAt P a C w v:=aAP (h.trans hr)
theorem QO {P:Program} {o:Oper} {a:Act} {C:World→Prop} {w:World} {v:Value} {f:FuncId} {args:Array Value} {r:Result Next} (h:(execOp a.eval o).run P w=r) (hr:r= .ok (.enter f args) w) (hc:Calls P f args w fun e lg=>e= .returned v∧C lg):o.quietAt P a C w v:=aAO (h.trans hr) hc
abbrev Ext (w w':World):Prop:=Below w.heap.size w w'
theorem Ext.bI (w:World):Ext w w:=aRe _ w
theorem Ext.t_ {a b c:World} (h:Ext a b) (k:Ext b c):Ext a c:=Below.trans h (aVo k h.size)
section
variable {P:Program} {ops:Array Oper} {Q:Exit→Act→World→Prop} {aZ:Nat→Nat}
def yV (P:Program) (w:World) (v:Value):Result Next→Prop
  | .ok (.value u) w'=>w'=w∧u=v
  | .ok .skip w'=>w'=w∧v=undef
  | .ok (.enter f args) w'=>w'=w∧Calls P f args w (fun e lg=>e= .returned v∧Ext w lg)
  | _=>False
def s8 (P:Program) (ops:Array Oper) (w0:World) (o:Oper) (v:Value) (a:Act):Prop :=
  (Region.wanted o (yielded ops a.tmps)=true∧∀ w,Ext w0 w→yV P w v ((execOp a.eval o).run P w))∨
  (Region.wanted o (yielded ops a.tmps)=false∧v=undef)
theorem s8.of_same {w0:World} {o:Oper} {v:Value} {a a':Act} (h:s8 P ops w0 o v a) (he:execOp a'.eval o=execOp a.eval o) (hw:Region.wanted o (yielded ops a'.tmps)=Region.wanted o (yielded ops a.tmps)):s8 P ops w0 o v a':=by
  unfold s8 at *;rw [he,hw];exact h
theorem s8.on {w0 aP:World} {o:Oper} {v:Value} {a:Act} (h:s8 P ops w0 o v a) (hx:Ext w0 aP):s8 P ops aP o v a :=
  h.imp (fun ⟨γ,ab⟩=>⟨γ,fun w hw=>ab w (hx.t_ hw)⟩) id
theorem Yields.ajq {w0:World} {o:Oper} {v:Value} {a:Act} (h:Yields P ops o v a):s8 P ops w0 o v a :=
  h.imp (fun ⟨γ,ab⟩=>⟨γ,fun w _=>by rw [ab w];exact ⟨rfl,rfl⟩⟩) id
def aB2 (P:Program) (ops:Array Oper) (Q:Exit→Act→World→Prop) (aZ:Nat→Nat) (i:Nat) (K:Act→World→Prop) (a:Act) (w0:World):Prop :=
  ∃ o,ops[i]? =some o∧
    ((aZ i≤1∧∃ v,s8 P ops w0 o v a∧K (a.put o.dst v) w0)∨
     (1<aZ i∧∀ w,Ext w0 w→wpOp P ops Q i (fun a' w'=>(aZ i=2→Ext w0 w')∧K a' w') a w))
def Bw (P:Program) (ops:Array Oper) (Q:Exit→Act→World→Prop) (aZ:Nat→Nat):Nat→Array Bool→Act→World→Prop
  | 0,l,a,w0=>Region.ready .any ops l= []∧∀ w,Ext w0 w→Q .normal a w
  | f+1,l,a,w0=>(Region.ready .any ops l= []→∀ w,Ext w0 w→Q .normal a w)∧∀ i∈Region.ready .any ops l,aB2 P ops Q aZ i (Bw P ops Q aZ f (l.setIfInBounds i true)) a w0
theorem Bx:∀ (f:Nat) (l:Array Bool) (a:Act) (w0:World),Bw P ops Q aZ f l a w0→∀ w,Ext w0 w→wpAny P .any ops Q f l a w
  | 0,_,_,_,h,w,hw=>⟨h.1,h.2 w hw⟩
  | f+1,l,a,w0,h,w,hw=>⟨fun aF=>h.1 aF w hw,fun i ar=>by
      obtain ⟨o,b1,ab⟩:=h.2 i ar;rcases ab with ⟨_,v,I,av⟩ | ⟨_,ab⟩
      · unfold wpOp
        simp only [b1];rcases I with ⟨mo,I⟩ | ⟨mo,rfl⟩
        · rw [aQZ mo]
          refine .inl ?_;have I:=I w hw;unfold Oper.wp;generalize (execOp a.eval o).run P w=r at *
          cases r with
          | ok n w' =>
            cases n<;>simp only [yV] at I<;>simp only [Oper.upon]
            case value u=>obtain ⟨rfl,rfl⟩:=I;exact Bx f _ _ _ av _ hw
            case skip=>obtain ⟨rfl,rfl⟩:=I;exact Bx f _ _ _ av _ hw
            case enter f' args=>obtain ⟨rfl,hc⟩:=I;exact hc.mono fun e lg ⟨he,hx⟩=>by subst he;exact Bx f _ _ _ av _ (hw.t_ hx)
          | halt x w'=>simp only [yV] at I
        · rw [aQV (by rw [mo];decide)]
          exact Bx f _ _ _ av _ hw
      · exact aS4 (fun a' w' aw=>Bx f _ _ _ aw.2 _ (Ext.bI w')) (ab w hw)⟩
theorem YN {aC:Act→Prop} {j:Nat} {dst:Option Tmp} {c9:Oper} {v:Value} (ay:ops[j]? =some c9) (γ:∀ d,dst=some d→d∉c9.looksAt ops) (ab:∀ d,dst=some d→c9.dst≠some d)
    (w4:∀ cs b,c9.op≠ .select cs b) (h1:∀ c a w,¬ Q (.panic c) a w) (keep:∀ a u,aC a→aC (a.put c9.dst u)) (axh:∀ a d,aC a→aC {a with defers:=d::a.defers})
    {K:Act→World→Prop} {a:Act} {w:World} (aK:aC a) (h:wpOp P ops Q j K (a.put dst v) w):wpOp P ops Q j (fun a' w'=>aC a'∧K (a'.put dst v) w') a w:=by
  unfold wpOp at *
  simp only [ay] at *
  rw [aTI c9 a dst v γ] at h;by_cases hw:Region.wanted c9 (yielded ops a.tmps)=true
  · rw [aQZ hw] at h ⊢
    rcases h with h | ⟨aeP,avr⟩
    case inr=>exact .inr ⟨by unfold Oper.asks at *;rw [aTt c9 w4 a dst v γ] at aeP;exact aeP,avr⟩
    refine .inl ?_;unfold Oper.wp at *
    rw [aTt c9 w4 a dst v γ] at h;generalize (execOp a.eval c9).run P w=r at *
    cases r with
    | ok n w' =>
      cases n<;>simp only [Oper.upon] at h ⊢
      case value u=>exact ⟨keep a u aK,by rw [← aSQ a v u ab];exact h⟩
      case skip=>exact ⟨keep a _ aK,by rw [← aSQ a v undef ab];exact h⟩
      case defer d =>
        refine ⟨keep _ _ (axh a d aK), ?_⟩;rw [← aSQ _ v undef ab,← Act.put_defers];exact h
      case enter f args =>
        refine aUQ h fun e lg he=> ?_;cases e with
        | returned u=>exact ⟨keep a u aK,by rw [← aSQ a v u ab];exact he⟩
        | panicked c=>exact (h1 _ _ _ he).elim
        | outgrown=>exact he
      case row row args=>exact Rows.mono h fun u lg he=>⟨keep a u aK,by rw [← aSQ a v u ab];exact he⟩
    | halt x w' =>
      cases x<;>simp only [Oper.upon] at h ⊢
      case panic u=>exact (h1 _ _ _ h).elim
  · rw [aQV hw] at h ⊢
    exact ⟨keep a _ aK,by rw [← aSQ a v undef ab];exact h⟩
theorem OZ {i:Nat} {dv:Oper} {v:Value} (ar:ops[i]? =some dv) (av:aZ i≤1) (mZ:∀ (j:Nat) (o:Oper) cs b,ops[j]? =some o→o.op≠ .select cs b)
    (h1:∀ c a w,¬ Q (.panic c) a w) (aC:World→Act→Prop) (kE:∀ w0 a,aC w0 a→s8 P ops w0 dv v a)
    (z2:∀ w0 a a',aC w0 a→execOp a'.eval dv=execOp a.eval dv→Region.wanted dv (yielded ops a'.tmps)=Region.wanted dv (yielded ops a.tmps)→aC w0 a')
    (z3:∀ w0 aP a,Ext w0 aP→aC w0 a→aC aP a) (R:Nat→Bool) (w7:Array Bool)
    (hR:∀ j c9,ops[j]? =some c9→j≠i→(∀ e∈c9.after,Region.binds .any e=true→R e.on=true)→R j=true)
    (bc:(∀ w0 aP a,aC w0 a→aC aP a)∨∀ j,R j=true→3≤aZ j→w7.getD j true=true):
    ∀ (f:Nat) (l:Array Bool) (a:Act) (w0:World),(∀ j,l.getD j false=true→R j=true)→(∀ j,w7.getD j true=true→l.getD j true=true)→
      (∀ j c9,ops[j]? =some c9→j≠i→l.getD j true=false→(∀ e∈c9.after,Region.binds .any e=true→e.on≠i)→dv.apart ops c9=true)→
      i∈Region.ready .any ops l→aC w0 a→Bw P ops Q aZ f (l.setIfInBounds i true) (a.put dv.dst v) w0→Bw P ops Q aZ (f+1) l a w0:=by
  intro f;induction f with
  | zero =>
    intro l a w0 _ _ _ hr bB H;refine ⟨fun h=>(by rw [h] at hr;cases hr),fun j ay=> ?_⟩;by_cases hH:j=i
    · subst hH;exact ⟨dv,ar, .inl ⟨av,v,kE _ _ bB,H⟩⟩
    · have:=aTi ay hH
      rw [H.1] at this;cases this
  | succ f bt =>
    intro l a w0 B7 B5 B1 hr bB H;refine ⟨fun h=>(by rw [h] at hr;cases hr),fun j ay=> ?_⟩;by_cases hH:j=i
    · subst hH;exact ⟨dv,ar, .inl ⟨av,v,kE _ _ bB,H⟩⟩
    · obtain ⟨c9,ku,γ⟩:=H.2 j (aTi ay hH)
      obtain ⟨wX,gv,Cg,dE⟩:=aUt.1 ay;obtain rfl:gv=c9:=by rw [ku] at Cg;exact (aQL Cg).symm
      have KL:∀ e∈gv.after,Region.binds .any e=true→e.on≠i:=fun e he Φ heq=>by
        have γ:=dE e he Φ;have aF:=(aUt.1 hr).1;rw [heq] at γ;rcases aRG i l.size with c8 | c8
        · simp [c8] at aF γ;rw [aF] at γ;cases γ
        · simp [aRL c8] at γ
      have Kj:=B1 j gv ku hH wX KL;obtain ⟨cj,a2,a3⟩:=aVf Kj;have KX:∀ cs b,dv.op≠ .select cs b:=fun cs b=>mZ i dv cs b ar;have w4:∀ cs b,gv.op≠ .select cs b:=fun cs b=>mZ j gv cs b ku;have keep:∀ aP a u,aC aP a→aC aP (a.put gv.dst u):=fun aP a u bB=>z2 _ _ _ bB (aTt dv KX a gv.dst u a3) (aTI dv a gv.dst u a3);have BT:R j=true:=hR j gv ku hH fun e he Φ=>B7 _ (dE e he Φ);have B8:∀ k,(l.setIfInBounds j true).getD k false=true→R k=true:=fun k av=>by
        by_cases gK:j=k
        · rw [← gK];exact BT
        · rw [aSZ false gK] at av;exact B7 k av
      have B6:∀ k,w7.getD k true=true→(l.setIfInBounds j true).getD k true=true:=fun k av=>by
        by_cases gK:j=k
        · subst gK
          rcases aRG j l.size with c8 | c8
          · simp [c8]
          · simp [aRL c8]
        · rw [aSZ true gK];exact B5 k av
      have B2:∀ k ok,ops[k]? =some ok→k≠i→(l.setIfInBounds j true).getD k true=false→
          (∀ e∈ok.after,Region.binds .any e=true→e.on≠i)→dv.apart ops ok=true:=fun k ok av pB Cj kt=>by
        refine B1 k ok av pB ?_ kt;by_cases gK:j=k
        · subst gK;exact wX
        · rw [aSZ true gK] at Cj;exact Cj
      have Ci:=aTi hr (aTx hH);rcases γ with ⟨wY,u,I,hK⟩ | ⟨wY,γ⟩
      · refine ⟨gv,ku, .inl ⟨wY,u,I.of_same (aTt gv w4 a dv.dst v cj).symm (aTI gv a dv.dst v cj).symm, ?_⟩⟩
        refine bt _ _ _ B8 B6 B2 Ci (keep _ _ _ bB) ?_;rw [aSi _ _ hH,← aSQ a v u a2];exact hK
      · refine ⟨gv,ku, .inr ⟨wY,fun w hw=> ?_⟩⟩
        refine aS4 (fun a' w' aw=>⟨aw.2.1, ?_⟩) (YN (aC:=aC w0) ku cj a2 w4 h1 (keep w0) (fun a d bB=>z2 _ _ _ bB Z Z) bB (γ w hw));have K2:aC w' a':=by
          rcases aRG (aZ j) 3 with bA | qj
          · exact z3 _ _ _ (aw.2.1 (by omega)) aw.1
          · rcases bc with bc | bc
            · exact bc _ _ _ aw.1
            · have:=B5 j (bc j BT qj);rw [wX] at this;cases this
        refine bt _ _ _ B8 B6 B2 Ci K2 ?_;rw [aSi _ _ hH];exact aw.2.2
def uo (P:Program) (ops:Array Oper) (Q:Exit→Act→World→Prop) (aZ:Nat→Nat):List Nat→Act→World→Prop
  | [],a,w0=>∀ w,Ext w0 w→Q .normal a w
  | i::r,a,w0=>∃ o,ops[i]? =some o∧
      ((aZ i=0∧∃ v,s8 P ops w0 o v a∧uo P ops Q aZ r (a.put o.dst v) w0)∨
       (aZ i=1∧∃ v,Yields P ops o v a∧uo P ops Q aZ r (a.put o.dst v) w0)∨
       (1<aZ i∧∀ w,Ext w0 w→wpOp P ops Q i (fun a' w'=>(aZ i=2→Ext w0 w')∧uo P ops Q aZ r a' w') a w))
def XT (ops:Array Oper) (i:Nat):Array Bool :=
  ops.foldl (init:=#[]) fun acc o=>acc.push (acc.size != i && o.after.all fun e=> !Region.binds .any e || acc.getD e.on false)
def N1 (ops:Array Oper) (aZ:Nat→Nat) (l:Array Bool) (i:Nat):Bool :=
  (List.range ops.size).all (fun j=>l.getD j true || Nat.blt (aZ j) 3) ||
  (let R:=XT ops i
   (List.range ops.size).all fun j=>(j == i || R.getD j false || !((ops[j]?).map (·.after.all fun e=> !Region.binds .any e || R.getD e.on false)).getD false) && (!l.getD j false || R.getD j false) && (!R.getD j false || Nat.blt (aZ j) 3 || l.getD j true))
def j4 (ops:Array Oper) (aZ:Nat→Nat):List Nat→Array Bool→Bool
  | [],l=>(Region.ready .any ops l).isEmpty
  | i::r,l=>(match aZ i with
      | 0=>Region.free .any ops l i && (Region.ready .any ops l).contains i && N1 ops aZ l i
      | 1=>Region.free .any ops l i && (Region.ready .any ops l).contains i
      | _=>Region.ready .any ops l == [i]) && j4 ops aZ r (l.setIfInBounds i true)
theorem N2 {l:Array Bool} {i:Nat} (az:l.size=ops.size) (h:N1 ops aZ l i=true):∃ R:Nat→Bool,
    (∀ j c9,ops[j]? =some c9→j≠i→(∀ e∈c9.after,Region.binds .any e=true→R e.on=true)→R j=true)∧
    (∀ j,l.getD j false=true→R j=true)∧(∀ j,R j=true→3≤aZ j→l.getD j true=true):=by
  unfold N1 at h;have out:∀ j,¬ j<ops.size→l.getD j true=true:=fun j ay=>by simp [aRL (by omega:l.size≤j)]
  rw [aRv] at h;rcases h with h | h
  · refine ⟨fun _=>true,fun _ _ _ _ _=>rfl,fun _ _=>rfl,fun j _ aw=> ?_⟩
    by_cases ay:j<ops.size
    · have:=aRD.1 h j (aRt.2 ay)
      rw [aRv] at this;rcases this with h | h
      · exact h
      · rw [aUv] at h;omega
    · exact out j ay
  · refine ⟨fun j=>(XT ops i).getD j false,fun j c9 ku hH hd=> ?_,fun j ay=> ?_,fun j ay aw=> ?_⟩
    · have bA:=(aRl.1 ku).1
      have:=aRD.1 h j (aRt.2 bA);simp only [ku,aSn,aRU,aQT,aRv,aRK,hH,false_or,aR4] at this;rcases this.1.1 with h | h
      · exact h
      · have dE:c9.after.all (fun e=> !Region.binds .any e || (XT ops i).getD e.on false)=true:=by
          rw [Array.all_eq_true_iff_forall_mem];intro e he;cases Φ:Region.binds .any e
          · rfl
          · have:=hd e he Φ;simp only at this;simp [this]
        rw [dE] at h;cases h
    · have bA:j<ops.size:=by
        rcases aRG j l.size with c8 | c8
        · omega
        · simp [aRL c8] at ay
      have:=aRD.1 h j (aRt.2 bA);simp only [aQT,aRv,aR4] at this;rcases this.1.2 with h | h
      · rw [h] at ay;cases ay
      · exact h
    · by_cases bA:j<ops.size
      · have:=aRD.1 h j (aRt.2 bA)
        simp only [aQT,aRv,aR4] at this;rcases this.2 with (h | h) | h
        · simp only at ay;rw [h] at ay;cases ay
        · (rw [aUv] at h;omega)
        · exact h
      · exact out j bA
theorem DU (hs:Region.noSelect ops=true) (h1:∀ c a w,¬ Q (.panic c) a w):∀ (r:List Nat) (l:Array Bool) (a:Act) (w0:World),l.size=ops.size→j4 ops aZ r l=true→uo P ops Q aZ r a w0→Bw P ops Q aZ r.length l a w0
  | [],l,a,w0,_,bc,h=>⟨by simpa [j4] using bc,h⟩
  | i::r,l,a,w0,az,bc,h=>by
    obtain ⟨o,b1,h⟩:=h;have mZ:=aTv hs;rcases h with ⟨av,v,I,hK⟩ | ⟨av,v,I,hK⟩ | ⟨av,h⟩
    · simp only [j4,av,aQT] at bc
      obtain ⟨⟨⟨hf,hr⟩,Φ⟩,bc⟩:=bc;obtain ⟨R,r1,r2,tZ⟩:=N2 az Φ;exact OZ b1 (by omega) mZ h1 (fun w0 a=>s8 P ops w0 o v a) (fun _ _ h=>h) (fun _ _ _ h he hw=>h.of_same he hw) (fun _ _ _ hx h=>h.on hx) R l r1 (.inr tZ) _ _ _ _ r2 (fun _ h=>h) (aSx b1 hf) (by simpa using hr) I
        (DU hs h1 r _ _ _ (by simpa using az) bc hK)
    · simp only [j4,av,aQT] at bc
      obtain ⟨⟨hf,hr⟩,bc⟩:=bc;exact OZ b1 (by omega) mZ h1 (fun _ a=>Yields P ops o v a) (fun _ _ h=>Yields.ajq h) (fun _ _ _ h he hw=>h.of_same he hw) (fun _ _ _ _ h=>h) (fun _=>true) l (fun _ _ _ _ _=>Z) (.inl fun _ _ _ h=>h) _ _ _ _ (fun _ _=>Z) (fun _ h=>h) (aSx b1 hf) (by simpa using hr) I
        (DU hs h1 r _ _ _ (by simpa using az) bc hK)
    · obtain ⟨k,fZ⟩:∃ k,aZ i=k+2:=⟨aZ i - 2,by omega⟩
      simp only [j4,fZ,aQT,aRK] at bc;obtain ⟨hr,bc⟩:=bc;refine ⟨fun aF=>(by rw [hr] at aF;cases aF),fun j ay=> ?_⟩;rw [hr] at ay;obtain rfl:j=i:=by simpa using ay
      exact ⟨o,b1, .inr ⟨av,fun w hw=>aS4 (fun a' w' aw=>⟨aw.1,DU hs h1 r _ _ _ (by simpa using az) bc aw.2⟩) (h w hw)⟩⟩
def gW (K:Act→World→Prop):Exit→Act→World→Prop
  | .normal,a,w=>K a w
  | _,_,_=>False
theorem aAT {id:Nat} {a:Act} {w:World} (bZ:List Nat) (hm:P.follows .mixedOrders=true) (bc:(Region.noSelect ops && (bZ.length == ops.size) && j4 ops aZ bZ (Array.replicate ops.size false))=true)
    (h:uo P ops (gW (Q .normal)) aZ bZ a w):(Code.region id ops true).wp P Q a w:=by
  simp only [aQT,aRK] at bc;obtain ⟨⟨hs,az⟩,bc⟩:=bc;refine wp_mono (aUE hm (Q:=gW (Q .normal)) ?_) (fun e a w I=>by cases e<;>first | exact I | exact I.elim);have:=DU (P:=P) hs (Q:=gW (Q .normal)) (fun _ _ _ h=>h) bZ (Array.replicate ops.size false) a w (by simp) bc h;rw [az] at this;exact Bx _ _ _ _ this _ (aRe _ w).drew
end
end Go.Proofs.YtlikikpgmmkjbaaGreat
