import Derived.Lib.Hide
import Derived.WalkSpells
import Derived.WalkLawsBesides
import Derived.BigQuiet
import Derived.Deep.RegionHeld3
import Derived.Laws.CopyOwn
import Derived.Lib.Strings
import Derived.Deep.AppendLies
import Derived.Shelf.SlicesE.Clone
import Derived.Deep.Fields
import Derived.WideKeyEntry
import Derived.Handy
set_option linter.unusedVariables false
set_option linter.unusedSimpArgs false
set_option maxRecDepth 100000
set_option maxHeartbeats 4000000
open Go.RowKit
namespace Go.Proofs.YtlikikpgmmkjbaaGreat
theorem Z.{u} {α:Sort u} {a:α}:a=a:=Eq.refl a
abbrev aRA:=@Option.some.inj
abbrev aRC:=@List.getElem?_eq_some_iff
abbrev aRD:=@List.getElem?_eq_getElem
abbrev aRE:=@List.length_take
abbrev aRG:=@List.length_cons
abbrev aRH:=@List.length_append
abbrev aRI:=@Bool.and_eq_true
abbrev aRJ:=@Go.Result.andThen_ok
abbrev aRK:=@List.length_set
abbrev aRL:=@if_neg
abbrev aRN:=@Nat.le_refl
abbrev aRP:=@if_pos
abbrev aRQ:=@List.mem_cons_of_mem
abbrev aRR:=@List.mem_append
abbrev aRS:=@Go.Sem.run_bind
abbrev aRT:=@Go.Sem.run_pure
abbrev aRU:=@List.getElem?_map
abbrev aRV:=@List.length_drop
abbrev aRW:=@List.mem_cons
abbrev aRX:=@List.getElem?_append_left
abbrev aRY:=@List.getElem?_set_self
abbrev aR0:=@List.getElem?_append_right
abbrev aR1:=@List.take_of_length_le
abbrev aR3:=@List.map_append
abbrev aR4:=@List.getElem?_set_ne
abbrev aR5:=@Nat.le_trans
abbrev aR7:=@List.append_nil
abbrev aR8:=@Go.RowKit.Below.refl
abbrev aR9:=@List.append_assoc
abbrev aSa:=@Array.getElem?_eq_some_iff
abbrev aSb:=@List.eq_nil_of_length_eq_zero
abbrev aSc:=@List.mem_of_getElem?
abbrev aSh:=@List.mem_map
abbrev aSj:=@List.mem_range
abbrev aSl:=@List.getElem?_take
abbrev aSm:=@Nat.mul_le_mul_right
abbrev aSo:=@Nat.zero_le
abbrev aSp:=@Bool.or_eq_true
abbrev aSq:=@Bool.false_eq_true
abbrev aSr:=@List.all_eq_true
abbrev aSs:=@List.map_cons
abbrev aSt:=@List.nodup_append
abbrev aSu:=@List.flatten_cons
abbrev aSv:=@Array.getElem?_eq_none
abbrev aSw:=@List.mem_iff_getElem
abbrev aSz:=@List.length_map
abbrev aSA:=@Nat.lt_or_ge
abbrev aSB:=@Go.MapKept.run_getObj_map
abbrev aSC:=@beq_iff_eq
abbrev aSD:=@BitVec.ofInt_natCast
abbrev aSE:=@Bool.not_eq_true'
abbrev aSG:=@Array.getElem?_toList
abbrev aSJ:=@List.getElem?_drop
abbrev aSK:=@Option.getD_some
abbrev aSL:=@Go.run_underlying
abbrev aSM:=@Nat.mul_comm
abbrev aSN:=@List.mem_flatten
abbrev aSO:=@List.getElem_mem
abbrev aSQ:=@Array.setIfInBounds_comm
abbrev aSR:=@List.getElem?_eq_none
abbrev aST:=@of_decide_eq_true
abbrev aSU:=@Nat.zero_add
abbrev aSV:=@List.map_set
abbrev aSW:=@Nat.mod_eq_of_lt
abbrev aSX:=@List.any_eq_true
abbrev aSY:=@Go.MapKept.run_setObj_map
abbrev aS0:=@if_false
abbrev aS1:=@List.find?_eq_none
abbrev aS4:=@Go.Region.free_spec
abbrev aS5:=@Option.map_some
abbrev aS8:=@Array.ext'
abbrev aS9:=@Nat.add_mul
abbrev aTc:=@List.size_toArray
abbrev aTf:=@List.ext_getElem?
abbrev aTj:=@Go.getD_set_ne
abbrev aTl:=@BitVec.toNat_ofNat
abbrev aTm:=@if_true
abbrev aTn:=@List.set_getElem_self
abbrev aTo:=@List.mem_or_eq_of_mem_set
abbrev aTr:=@List.map_nil
abbrev aTt:=@Go.wpOp_mono
abbrev aTu:=@Array.getElem?_setIfInBounds_ne
abbrev aTv:=@Go.Act.put_comm
abbrev aTw:=@Go.ready_mono
abbrev aTx:=@List.flatten_append
abbrev aTy:=@Array.length_toList
abbrev aTA:=@Int.eq_ofNat_of_zero_le
abbrev aTB:=@Go.ByteArray.toList_eq
abbrev aTC:=@Go.World.block_lt_of_cell?
abbrev aTD:=@Nat.mod_lt
abbrev aTG:=@List.find?_cons_of_neg
abbrev aTH:=@Int.natCast_nonneg
abbrev aTL:=@List.take_append_drop
abbrev aTO:=@Go.ChangeMaps.modify_eq_set
abbrev aTU:=@Go.execOp_put
abbrev aTV:=@Go.Region.noSelect_spec
abbrev aTW:=@Array.getElem?_eq_getElem
abbrev aTZ:=@Array.toList_modify
abbrev aT0:=@List.getElem_append_left
abbrev aT1:=@Nat.mul_add_mod
abbrev aT2:=@List.nil_append
abbrev aT6:=@BitVec.setWidth_eq
abbrev aT7:=@BitVec.ofNat_toNat
abbrev aT8:=@List.findIdx?_eq_some_iff_getElem
abbrev aT9:=@Go.wanted_put
abbrev aUb:=@Option.some.injEq
abbrev aUf:=@List.mem_append_right
abbrev aUi:=@Ne.symm
abbrev aUl:=@List.map_map
abbrev aUn:=@Nat.eq_zero_or_pos
abbrev aUo:=@List.drop_drop
abbrev aUp:=@Array.empty_append
abbrev aUq:=@Go.mem_ready
abbrev aUs:=@List.findIdx?_eq_none_iff
abbrev aUt:=@Go.heap_alloc_new
abbrev aUw:=@List.any_eq_false
abbrev aUB:=@List.getElem_map
abbrev aUC:=@Go.wp_region_any
abbrev aUJ:=@List.find?_cons_of_pos
abbrev aUL:=@List.nodup_cons
abbrev aUS:=@Nat.div_lt_iff_lt_mul
abbrev aUT:=@List.set_append_right
abbrev aUX:=@Go.RowKit.Below.mono
abbrev aUY:=@Array.getElem?_modify
abbrev aUZ:=@Go.Oper.apart_spec
abbrev aU0:=@List.take_left
abbrev aU2:=@List.mem_append_left
abbrev aU4:=@Int.emod_emod_of_dvd
abbrev aU6:=@Array.getElem?_range
abbrev aU8:=@List.getElem?_range
abbrev aVa:=@Array.toList_append
abbrev aVe:=@Nat.blt_eq
abbrev aVh:=@BitVec.toInt_ofInt
abbrev aVi:=@Array.getElem?_map
abbrev aVo:=@List.getElem?_inj
abbrev aVu:=@Array.size_append
abbrev aVv:=@Go.heap_setCell_other
abbrev aVw:=@Go.Calls.mono
abbrev aVy:=@List.take_append
abbrev aVA:=@List.map_toArray
abbrev aVF:=@Nat.div_add_mod
abbrev aVL:=@List.nodup_nil
abbrev aVT:=@Go.WideElems.findIdx_born
abbrev aVZ:=@Go.WideElems.findIdx_arr
abbrev aV0:=@List.flatten_eq_nil_iff
abbrev aV4:=@Nat.zero_mul
abbrev aV9:=@Int.dvd_refl
abbrev aWc:=@Go.WideElems.set_self
abbrev aWd:=@BitVec.eq_of_toNat_eq
abbrev aWk:=@Go.wp_mono
abbrev aWm:=@List.take_succ_cons
abbrev aWp:=@List.map_congr_left
abbrev aWu:=@Go.RowKit.Below.trans
abbrev aWv:=@Nat.lt_of_le_of_lt
abbrev aWB:=@Go.cell_of_row
abbrev aWG:=@List.length_range
abbrev aWJ:=@Bool.eq_false_iff
end Go.Proofs.YtlikikpgmmkjbaaGreat
namespace Go.Proofs.YtlikikpgmmkjbaaGreat.fc
def U {n:Nat} (b:BitVec n):Int:=(b.toNat:Int)

theorem TZ {n:Nat} (b:BitVec n):0≤U b:=aTH _
theorem aoN (b:BitVec 32):U b<4294967296:=by have:=b.isLt;unfold U;omega
theorem aoO (b:BitVec 64):U b<18446744073709551616:=by have:=b.isLt;unfold U;omega
theorem aoM (b:BitVec 32):U b≤4294967295:=by have:=b.isLt;unfold U;omega
theorem wB {n:Nat} (b:BitVec n):BitVec.ofInt n (U b)=b:=by
  unfold U;rw [aSD,aT7,aT6]
theorem aoP (x:Int) (aH:0≤x) (τ:x<4294967296):U (BitVec.ofInt 32 x)=x:=by
  obtain ⟨m,rfl⟩:=aTA aH;unfold U;rw [aSD,aTl];omega
theorem aoQ (x:Int) (aH:0≤x) (τ:x<18446744073709551616):U (BitVec.ofInt 64 x)=x:=by
  obtain ⟨m,rfl⟩:=aTA aH;unfold U;rw [aSD,aTl];omega
theorem PS {x:Int} {b:BitVec 32} (aH:0≤x) (τ:x<4294967296) (h:BitVec.ofInt 32 x=b):x=U b:=by
  rw [← h,aoP x aH τ]
theorem PT {x:Int} {b:BitVec 64} (aH:0≤x) (τ:x<18446744073709551616) (h:BitVec.ofInt 64 x=b):x=U b:=by
  rw [← h,aoQ x aH τ]
theorem O4 (k:IntKind) (op:BinOp) (a b:Int) (hs:k.signed=false):0≤bits op k a b∧bits op k a b<2 ^ k.bits:=by
  have hp:(0:Int)<2 ^ k.bits:=Int.pow_pos (by decide);have key:∀ n:Int,0≤k.wrap n∧k.wrap n<2 ^ k.bits:=by
    intro n;simp only [IntKind.wrap,hs,Bool.false_and,aSq,aS0];exact ⟨Int.emod_nonneg _ (by omega),Int.emod_lt_of_pos _ hp⟩
  unfold bits;exact key _
theorem O2 (op:BinOp) (a b:Int):0≤bits op .u32 a b:=(O4 .u32 op a b rfl).1
theorem O1 (op:BinOp) (a b:Int):bits op .u32 a b<4294967296:=(O4 .u32 op a b rfl).2
theorem Uh (op:BinOp) (a b:Int):0≤bits op .u64 a b:=(O4 .u64 op a b rfl).1
theorem Ug (op:BinOp) (a b:Int):bits op .u64 a b<18446744073709551616:=(O4 .u64 op a b rfl).2
theorem MH (k:IntKind) (n:Int):BitVec.ofInt k.bits (k.wrap n)=BitVec.ofInt k.bits n:=by
  apply BitVec.eq_of_toInt_eq;simp only [aVh];have h:(k.wrap n) % (2 ^ k.bits:Int)=n % (2 ^ k.bits:Int):=by
    unfold IntKind.wrap;dsimp only;split
    · rw [Int.sub_emod,Int.emod_self,Int.sub_zero,aU4 _ (aV9 _),aU4 _ (aV9 _)]
    · rw [aU4 _ (aV9 _)]
  have e:((2 ^ k.bits:Nat):Int)=(2:Int) ^ k.bits:=by simp
  simp only [Int.bmod,e,h]

theorem aAD (n:Int):BitVec.ofInt 32 (n % 4294967296)=BitVec.ofInt 32 n:=by
  have:=MH .u32 n;rw [IntKind.wrap_u32] at this;exact this
theorem aAH (n:Int):BitVec.ofInt 64 (IntKind.u64.wrap n)=BitVec.ofInt 64 n:=MH .u64 n
theorem Yp (k:IntKind) (a b:Int):BitVec.ofInt k.bits (bits .xor k a b)=BitVec.ofInt k.bits a ^^^ BitVec.ofInt k.bits b:=by
  unfold bits;rw [MH,aSD];dsimp only;rw [aT7,aT6]
theorem aAA (k:IntKind) (a b:Int):BitVec.ofInt k.bits (bits .and k a b)=BitVec.ofInt k.bits a &&& BitVec.ofInt k.bits b:=by
  unfold bits;rw [MH,aSD];dsimp only;rw [aT7,aT6]
theorem aAB (k:IntKind) (a b:Int):BitVec.ofInt k.bits (bits .andNot k a b)=BitVec.ofInt k.bits a &&& ~~~(BitVec.ofInt k.bits b):=by
  unfold bits;rw [MH,aSD];dsimp only;rw [aT7,aT6]

theorem Yq (a b:Int):BitVec.ofInt 32 (bits .xor .u32 a b)=BitVec.ofInt 32 a ^^^ BitVec.ofInt 32 b:=Yp .u32 a b
theorem ajB (a b:Int):BitVec.ofInt 32 (bits .and .u32 a b)=BitVec.ofInt 32 a &&& BitVec.ofInt 32 b:=aAA .u32 a b
theorem aAC (a b:Int):BitVec.ofInt 32 (bits .andNot .u32 a b)=BitVec.ofInt 32 a &&& ~~~(BitVec.ofInt 32 b):=aAB .u32 a b
theorem Yr (a b:Int):BitVec.ofInt 64 (bits .xor .u64 a b)=BitVec.ofInt 64 a ^^^ BitVec.ofInt 64 b:=Yp .u64 a b
theorem ajG (a b:Int):BitVec.ofInt 64 (bits .xor .i64 a b)=BitVec.ofInt 64 a ^^^ BitVec.ofInt 64 b:=Yp .i64 a b
theorem ajF {n:Nat} (x:Int) (s:Nat) (aH:0≤x) (τ:x<2 ^ n):BitVec.ofInt n (x / 2 ^ s)=BitVec.ofInt n x >>> s:=by
  obtain ⟨m,rfl⟩:=aTA aH;have EU:m<2 ^ n:=by exact_mod_cast τ
  have e:((m:Int) / 2 ^ s)=((m / 2 ^ s:Nat):Int):=by rw [Int.natCast_ediv];simp
  rw [e,aSD,aSD];apply aWd;rw [BitVec.toNat_ushiftRight,aTl,aTl,aSW EU,Nat.shiftRight_eq_div_pow];exact aSW (aWv (Nat.div_le_self _ _) EU)

theorem aAz {n:Nat} (a b:Int):BitVec.ofInt n (a+b)=BitVec.ofInt n a+BitVec.ofInt n b:=BitVec.ofInt_add ..
theorem ajD {n:Nat} (a b:Int):BitVec.ofInt n (a * b)=BitVec.ofInt n a * BitVec.ofInt n b:=BitVec.ofInt_mul ..
theorem aAG {n:Nat} (a:Int):BitVec.ofInt n (-a)= -BitVec.ofInt n a:=BitVec.ofInt_neg ..
theorem aAF {n:Nat} (a:Nat):BitVec.ofInt n (a:Int)=BitVec.ofNat n a:=aSD ..

end Go.Proofs.YtlikikpgmmkjbaaGreat.fc
namespace Go.Proofs.YtlikikpgmmkjbaaGreat
def aHr (k:IntKind) (w:World) (a:Option Addr) (len cap:Nat) (zs:List Int):Prop :=
  (a=none∧len=0∧cap=0∧zs= [])∨
  ∃ x,a=some x∧len≤cap∧cap≤maxLen∧zs.length=cap∧(∀ i,i<zs.length→w.cell? (x.add i)=some (.int k (zs.getD i 0)))∧∀ n∈zs,(Lit.int k n).wf=true
theorem ab2 (b j:Nat):(⟨b,0,none⟩:Addr).add j=⟨b,j,none⟩:=by
  unfold Addr.add;split<;>simp_all
theorem Um {a b:ByteArray} (h:a.data.toList=b.data.toList):a=b:=ByteArray.ext (Array.toList_inj.1 h)
theorem acv (a b:ByteArray):(a.toList == b.toList)=decide (a=b):=by
  rw [aTB,aTB];by_cases h:a=b
  · subst h;simp
  · have τ:¬ a.data=b.data:=fun e=>h (ByteArray.ext e)
    simp [h,τ]
theorem acx {a b:ByteArray} (h:a=b):(a.toList == b.toList)=true:=by rw [acv];simp [h]
theorem acw {a b:ByteArray} (h:¬ a=b):(a.toList == b.toList)=false:=by rw [acv];simp [h]
theorem akv {a:Bool} (h:a=true):Ending.returned (.bool a)= .returned (.bool true):=by rw [h]
theorem G0 (b off j:Nat):(⟨b,off,none⟩:Addr).add j=⟨b,off+j,none⟩:=by
  unfold Addr.add;split<;>simp_all
theorem aA0 {w w':World} {base:Nat} {e:TypeId} {size:Nat} {v:Value} {n:Nat} {xs:List Value} (h:w.ownsRow base e size v n xs) (Φ:Below w.heap.size w w'):w'.ownsRow base e size v n xs:=by
  obtain ⟨τ,aa⟩:=h;refine ⟨τ, ?_⟩;rcases aa with aa | ⟨g,cap,cur,hv,aK,fC,r⟩
  · exact .inl aa
  · exact .inr ⟨g,cap,cur,hv,aK,by rw [Φ.block g (aSa.1 fC).1];exact fC,r⟩
theorem cell_later {w w':World} (Φ:Below w.heap.size w w') {a:Addr} {v:Value} (h:w.cell? a=some v):w'.cell? a=some v:=by
  rw [Φ.cell (aTC w a h)];exact h
theorem aqi {B:Nat} {w w':World} (Φ:Below B w w') {a:Addr} {v:Value} (h:w.cell? a=some v) (ha:a.block<B):w'.cell? a=some v:=by
  rw [Φ.cell ha];exact h
def aR (w:World) (g:Nat) (cur:List Value) (e:TypeId) (aB:Nat×Nat):Prop:=w.heap[g]? =some (.cells cur.toArray e aB)
theorem aR.lt {w:World} {g:Nat} {cur:List Value} {e:TypeId} {aB:Nat×Nat} (h:aR w g cur e aB):g<w.heap.size:=(aSa.1 h).1
theorem aR.cell {w:World} {g:Nat} {cur:List Value} {e:TypeId} {aB:Nat×Nat} (h:aR w g cur e aB) (j:Nat):w.cell? ⟨g,j,none⟩=cur[j]? :=by
  rw [aWB w g j _ e aB h];simp
theorem aR.free {w:World} {g:Nat} {cur:List Value} {e:TypeId} {aB:Nat×Nat} (h:aR w g cur e aB) (j:Nat) (ay:j<aB.1∨aB.2≤j):w.frozen? ⟨g,j,none⟩=false:=by
  unfold aR at h;obtain ⟨lo,aq⟩:=aB;simp only [World.frozen?,h];simp only at ay;simp;omega
theorem aR.set {w:World} {g:Nat} {cur:List Value} {e:TypeId} {aB:Nat×Nat} (h:aR w g cur e aB) (j:Nat) (v:Value):aR (w.setCell ⟨g,j,none⟩ v) g (cur.set j v) e aB:=by
  unfold aR at *
  simp only [World.setCell,aUY,h];simp
theorem aR.later {w w':World} {g:Nat} {cur:List Value} {e:TypeId} {aB:Nat×Nat} (h:aR w g cur e aB) (Φ:Below w.heap.size w w'):aR w' g cur e aB:=by
  have az:=h.lt;unfold aR at *
  rw [Φ.block g az];exact h
theorem aR.drew {w:World} {g:Nat} {cur:List Value} {e:TypeId} {aB:Nat×Nat} (h:aR w g cur e aB):aR w.drew g cur e aB:=h
theorem aR.drewN {w:World} {g:Nat} {cur:List Value} {e:TypeId} {aB:Nat×Nat} (h:aR w g cur e aB) (n:Nat):aR (w.drewN n) g cur e aB:=h
theorem aR.new (w:World) (cur:List Value) (e:TypeId) (aB:Nat×Nat):aR (w.alloc (.cells cur.toArray e aB)) w.heap.size cur e aB:=aUt w _
theorem aR.setRow {w:World} {g:Nat} {cur:List Value} {e:TypeId} {aB:Nat×Nat} (h:aR w g cur e aB) (new:List Value):aR (w.setRow g new.toArray) g new e aB:=setRow_heap w g _ _ e aB h
theorem aR.other {w:World} {g g':Nat} {cur:List Value} {e:TypeId} {aB:Nat×Nat} (h:aR w g cur e aB) (aK:g≠g') (j:Nat) (v:Value):aR (w.setCell ⟨g',j,none⟩ v) g cur e aB:=by
  unfold aR at *
  rw [aVv _ _ _ _ aK];exact h
theorem below_drewN {B:Nat} {a w:World} (h:Below B a w) (n:Nat):Below B a (w.drewN n):=⟨h.os,h.tape,h.output,h.size,h.block⟩
def Rd (w:World) (size:Nat) (A:Option Addr) (n:Nat) (xs:List Value):Prop :=
  xs.length=n * size∧(0<n→∃ b o,A=some ⟨b,o,none⟩∧∀ j u,xs[j]? =some u→w.cell? ⟨b,o+j,none⟩=some u)
theorem Rd.zero (w:World) (size:Nat) (A:Option Addr):Rd w size A 0 []:=⟨by simp,fun h=>absurd h (by decide)⟩
theorem Rd.later {w w':World} {size n:Nat} {A:Option Addr} {xs:List Value} (h:Rd w size A n xs) (Φ:Below w.heap.size w w'):Rd w' size A n xs :=
  ⟨h.1,fun aH=>by
    obtain ⟨b,o,e,hc⟩:=h.2 aH;exact ⟨b,o,e,fun j u hu=>cell_later Φ (hc j u hu)⟩⟩
theorem Rd.drewN {w:World} {size n:Nat} {A:Option Addr} {xs:List Value} (h:Rd w size A n xs) (k:Nat):Rd (w.drewN k) size A n xs:=h
def Own (w:World) (base:Nat) (e:TypeId) (size:Nat) (G:Nat→Value→Prop) (v:Value) (n:Nat) (xs:List Value):Prop :=
  xs.length=n * size∧
  ((v= .slice none 0 0∧n=0)∨
   ∃ g cap cur,v= .slice (some ⟨g,0,none⟩) n cap∧base≤g∧w.heap[g]? =some (.cells cur e (0,0))∧n≤cap∧cap≤maxLen∧cur.size=cap * size∧cur.toList.take (n * size)=xs∧∀ j u,cur[j]? =some u→G (j % size) u)
section
variable {w w':World} {base e size:Nat} {G:Nat→Value→Prop} {v:Value} {n:Nat} {xs:List Value}
theorem Own.row (h:Own w base e size G v n xs):w.ownsRow base e size v n xs:=by
  obtain ⟨τ,aa⟩:=h;refine ⟨τ, ?_⟩;rcases aa with aa | ⟨g,cap,cur,a,b,c,d,e,f,i,_⟩
  · exact .inl aa
  · exact .inr ⟨g,cap,cur,a,b,c,d,e,f,i⟩
theorem Own.nil (w:World) (base e size:Nat) (G:Nat→Value→Prop):Own w base e size G (.slice none 0 0) 0 []:=⟨by simp, .inl ⟨rfl,rfl⟩⟩
theorem Own.of_block {B:Nat} (h:Own w base e size G v n xs) (Φ:∀ g,v.ownBlock=some g→w'.heap[g]? =w.heap[g]?):Own w' base e size G v n xs:=by
  obtain ⟨τ,aa⟩:=h;refine ⟨τ, ?_⟩;rcases aa with aa | ⟨g,cap,cur,rfl,b,c,d⟩
  · exact .inl aa
  · exact .inr ⟨g,cap,cur,rfl,b,(Φ g rfl).trans c,d⟩
theorem Own.later (h:Own w base e size G v n xs) (Φ:Below w.heap.size w w'):Own w' base e size G v n xs :=
  h.of_block (B:=0) fun g aK=>Φ.block g (h.row.lt g aK).2
theorem Own.drewN (h:Own w base e size G v n xs) (k:Nat):Own (w.drewN k) base e size G v n xs:=h
theorem Own.drew (h:Own w base e size G v n xs):Own w.drew base e size G v n xs:=h
theorem Own.mono (h:Own w base e size G v n xs) {acj:Nat} (Φ:acj≤base):Own w acj e size G v n xs:=by
  obtain ⟨τ,aa⟩:=h;refine ⟨τ, ?_⟩;rcases aa with aa | ⟨g,cap,cur,a,b,r⟩
  · exact .inl aa
  · exact .inr ⟨g,cap,cur,a,aR5 Φ b,r⟩
theorem Own.rd (h:Own w base e size G v n xs) {A:Option Addr} {c:Nat} (hv:v= .slice A n c):Rd w size A n xs:=by
  obtain ⟨τ,aa⟩:=h;refine ⟨τ,fun aH=> ?_⟩;rcases aa with ⟨_,aa⟩ | ⟨g,cap,cur,rfl,b,c,d,e,f,i,_⟩
  · omega
  · injection hv with hv _ _
    refine ⟨g,0,hv.symm,fun j u hu=> ?_⟩;rw [aSU,aWB w g j cur _ (0,0) c,← aSG];rw [← i,aSl] at hu;split at hu
    · exact hu
    · cases hu
theorem Own.shape (h:Own w base e size G v n xs):∃ A c,v= .slice A n c∧n≤c∧c≤maxLen∧Rd w size A n xs∧(∀ a,A=some a→base≤a.block∧a.block<w.heap.size)∧(A=none→v= .slice none 0 0):=by
  have cI:=h;obtain ⟨τ,aa⟩:=h;rcases aa with ⟨rfl,rfl⟩ | ⟨g,cap,cur,rfl,b,c,d,e,f,i,_⟩
  · exact ⟨none,0,rfl,aRN _,aSo _,cI.rd rfl,(fun a ha=>by cases ha),fun _=>rfl⟩
  · refine ⟨_,cap,rfl,d,e,cI.rd rfl,fun a ha=> ?_,fun h=>by cases h⟩
    injection ha with ha
    subst ha;exact ⟨b,(aSa.1 c).1⟩
theorem aGu {z:Array Value} (bs:z.size=size) (hs:0<size) (bB:∀ j u,z[j]? =some u→G j u) (k:Nat):∀ j u,(Builtin.zeroCells z k)[j]? =some u→G (j % size) u:=by
  intro j u hu;unfold Builtin.zeroCells at hu;subst bs;have ay:=(aSa.1 hu).1;simp at ay;have bw:j % z.size<z.size:=aTD _ hs;rw [aVi,aU6,aRP ay] at hu;simp only [aS5,aUb] at hu;refine bB _ u ?_;rw [← hu];simp [bw]
theorem Own.stored {g c:Nat} (h:Own w base e size G (.slice (some ⟨g,0,none⟩) n c) n xs) (j:Nat) (u:Value) (hu:G (j % size) u):
    Own (w.setCell ⟨g,j,none⟩ u) base e size G (.slice (some ⟨g,0,none⟩) n c) n (xs.set j u):=by
  obtain ⟨τ,aa⟩:=h;refine ⟨by rw [aRK];exact τ, ?_⟩;rcases aa with ⟨aa,_⟩ | ⟨g',cap,cur,hv,b,fC,d,hm,hs,aG,bB⟩
  · cases aa
  · injection hv with hv _ hc
    injection hv with hv
    injection hv with hv
    subst hv;subst hc;refine .inr ⟨g,c,cur.setIfInBounds j u,Z,b, ?_,d,hm,by simp [hs], ?_, ?_⟩
    · simp only [World.setCell,aUY,fC]
      simp
    · rw [← aG]
      simp only [Array.toList_setIfInBounds];rw [List.take_set]
    · intro i v hv
      by_cases jC:j=i
      · subst jC
        have bw:j<cur.size:=by
          have:=(aSa.1 hv).1;simpa using this
        rw [Array.getElem?_setIfInBounds_self_of_lt bw] at hv;obtain rfl:=aRA hv;exact hu
      · rw [aTu jC] at hv
        exact bB i v hv
theorem Own.cell {g c:Nat} (h:Own w base e size G (.slice (some ⟨g,0,none⟩) n c) n xs) (j:Nat) (ay:j<n * size):w.cell? ⟨g,j,none⟩=xs[j]? :=h.row.cellAt j ay
theorem Own.free {g c:Nat} (h:Own w base e size G (.slice (some ⟨g,0,none⟩) n c) n xs) (j:Nat):w.frozen? ⟨g,j,none⟩=false:=h.row.frozenAt j
theorem Own.some_ {g c:Nat} (h:Own w base e size G (.slice (some ⟨g,0,none⟩) n c) n xs) (j:Nat) (ay:j<c * size):∃ u,w.cell? ⟨g,j,none⟩=some u∧G (j % size) u:=by
  obtain ⟨τ,aa⟩:=h;rcases aa with ⟨aa,_⟩ | ⟨g',cap,cur,hv,b,fC,d,hm,hs,aG,bB⟩
  · cases aa
  · injection hv with hv _ hc
    injection hv with hv
    injection hv with hv
    subst hv;subst hc;have bw:j<cur.size:=by rw [hs];exact ay
    rw [aWB w g j cur _ (0,0) fC];exact ⟨cur[j],aTW bw,bB j _ (aTW bw)⟩
theorem Own.lit (w:World) (cs:Array Value) (n:Nat) (Φ:base≤w.heap.size) (hm:n≤maxLen) (hs:cs.size=n * size) (bB:∀ j u,cs[j]? =some u→G (j % size) u):
    Own (w.alloc (.cells cs e)) base e size G (.slice (some ⟨w.heap.size,0,none⟩) n n) n cs.toList :=
  ⟨by simpa using hs, .inr ⟨w.heap.size,n,cs,rfl,Φ,aUt w _,aRN _,hm,hs,aR1 (by simp [hs]),bB⟩⟩
theorem Own.empty (w:World) (Φ:base≤w.heap.size):Own (w.alloc (.cells #[] e)) base e size G (.slice (some ⟨w.heap.size,0,none⟩) 0 0) 0 [] :=
  Own.lit w #[] 0 Φ (aSo _) (by simp) (fun j u h=>by simp at h)
end
section
variable {P:Program} (w:World)
theorem akA (base:Nat) (t ty e:TypeId) (i:TypeInfo) (z:Value) (size bytes:Nat) (aG:P.underlying t=some (.slice e)) (aq:P.info? e=some i) (bs:i.zero=some z)
    (xR:i.size=size) (mN:i.bytes=bytes) (tl:z.cells.size=size) (jd:0<size) (G:Nat→Value→Prop) (xU:∀ j u,z.cells[j]? =some u→G j u)
    (v:Value) (n:Nat) (xs:List Value) (fi:Own w base e size G v n xs)
    (A:Option Addr) (m c:Nat) (news:List Value) (hr:Rd w size A m news) (τ:∀ u∈news,u.oneCell'=true) (Lx:∀ j u,news[j]? =some u→G (j % size) u)
    (rT:n+m≤maxLen) (rY:(n+m) * bytes≤140737488355328) (pZ:base≤w.heap.size):
    ∃ v' w',(Builtin.append_ #[t,t] ty #[v, .slice A m c]).run P w= .ok v' w'∧Own w' base e size G v' (n+m) (xs++news)∧w.grownBy w' v.ownBlock∧
      (v'= .slice none 0 0↔v= .slice none 0 0∧m=0)∧(v'.ownBlock=v.ownBlock∨v'.ownBlock=some w.heap.size):=by
  subst xR;subst mN;have aK2:n+m≤9223372036854775807:=by simp only [maxLen] at rT;omega
  have az:news.length=m * i.size:=hr.1;have H6:xs.length=n * i.size:=fi.1;have hlen:(xs++news).length=(n+m) * i.size:=by rw [aRH,H6,az,aS9]
  have afG:(∀ j u,xs[j]? =some u→G (j % i.size) u)→∀ j u,(xs++news)[j]? =some u→G (j % i.size) u:=by
    intro hx j u hu;by_cases ay:j<xs.length
    · rw [aRX ay] at hu;exact hx j u hu
    · rw [aR0 (by omega)] at hu
      have:=Lx _ u hu;rw [H6] at this ay;have e:j % i.size=(j - n * i.size) % i.size:=by
        conv=>lhs;rw [show j=n * i.size+(j - n * i.size) from by omega]
        rw [aSM n,aT1]
      rw [e];exact this
  -- what the growing arm leaves, whatever was there before
  have grown:(∀ j u,xs[j]? =some u→G (j % i.size) u)→∀ (old:Nat),old<n+m→∀ (row:Option Nat),
      Own (w.drew.alloc (.cells (xs.toArray++news.toArray++Builtin.zeroCells z.cells (grownCap w (n+m) old e - (n+m))) e)) base e i.size G
        (.slice (some ⟨w.heap.size,0,none⟩) (n+m) (grownCap w (n+m) old e)) (n+m) (xs++news)∧
      w.grownBy (w.drew.alloc (.cells (xs.toArray++news.toArray++Builtin.zeroCells z.cells (grownCap w (n+m) old e - (n+m))) e)) row:=by
    intro QY old bS row;have r4:=grownCap_ge w (n+m) old e;have r0:grownCap w (n+m) old e≤maxLen:=grownCap_le_maxLen w (n+m) old e rT;refine ⟨⟨hlen, .inr ⟨w.heap.size,_,_,Z,pZ,aUt w.drew _,r4,r0, ?_, ?_, ?_⟩⟩,⟨Z,Z,Z,by simp,fun k ar _=>heap_alloc_old w.drew _ ar⟩⟩
    · simp only [aVu,aTc,size_zeroCells,tl,H6,az,← aS9]
      congr 1;omega
    · simp only [aVa,aR9]
      rw [← aR9,← hlen];exact aU0
    · intro j u hu
      rw [← aSG] at hu;simp only [aVa] at hu;by_cases ay:j<(xs++news).length
      · rw [aRX ay] at hu;exact afG QY j u hu
      · rw [aR0 (by simpa using ay)] at hu
        rw [aSG] at hu;have:=aGu tl jd xU _ _ u hu;have oZ:(xs.toArray.toList++news.toArray.toList).length=(n+m) * i.size:=hlen;rw [oZ] at this;rw [hlen] at ay;have e:j % i.size=(j - (n+m) * i.size) % i.size:=by
          conv=>lhs;rw [show j=(n+m) * i.size+(j - (n+m) * i.size) from by omega]
          rw [aSM (n+m),aT1]
        rw [e];exact this
  have Xk:A=none∨∃ a,A=some a:=by cases A with | none=>exact .inl rfl | some a=>exact .inr ⟨a,rfl⟩
  rcases Xk with rfl | ⟨ad,rfl⟩
  · have hm:m=0:=by
      rcases aUn m with aH | aH
      · exact aH
      · obtain ⟨b,o,h,_⟩:=hr.2 aH
        cases h
    subst hm;have hn:news= []:=aSb (by simpa using az);subst hn;refine ⟨v,w, ?_,by simpa using fi,World.grownBy.refl w _,by simp, .inl rfl⟩;rcases fi.2 with ⟨rfl,rfl⟩ | ⟨g,cap,cur,rfl,_,_,C5,_⟩
    · simp [Builtin.append_,aSL aG,sizeOf,typeInfo,aq,Builtin.lenOf,Builtin.firstCells]
    · simp [Builtin.append_,aSL aG,sizeOf,typeInfo,aq,Builtin.lenOf,Builtin.firstCells,C5,storeCells]
  have LA:∀ j u,news[j]? =some u→w.cell? (ad.add j)=some u:=by
    intro j u hu;rcases aUn m with aH | aH
    · subst aH
      have hn:news= []:=aSb (by simpa using az);subst hn;simp at hu
    · obtain ⟨b,o,h,hc⟩:=hr.2 aH
      injection h with h
      subst h;rw [G0];exact hc j u hu
  rcases fi.2 with ⟨rfl,rfl⟩ | ⟨g,cap,cur,rfl,Wt,aK,C5,r0,zm,Xo,bB⟩
  · have hx:xs= []:=aSb (by simpa using H6)
    subst hx;by_cases hm:m=0
    · subst hm
      have hn:news= []:=aSb (by simpa using az);subst hn;refine ⟨.slice none 0 0,w, ?_,Own.nil w base e i.size G,⟨Z,Z,Z,aRN _,fun _ _ _=>Z⟩,by simp,Or.inl rfl⟩;simp [Builtin.append_,aSL aG,sizeOf,typeInfo,aq,Builtin.lenOf,Builtin.firstCells,loadCells,loadCellsFrom]
    · have hr:=run_append_nil (P:=P) w t ty e i z aG aq bs ad m c news az LA (by omega) (by omega) (by have Φ:=rY;simp only [aSU] at Φ;omega)
      have C0:=grown (fun j u hu=>by simp at hu) 0 (by omega) (Value.ownBlock (.slice none 0 0));simp only [aSU,aT2,aUp] at C0 ⊢;exact ⟨_,_,hr,C0.1,C0.2,by simp [hm],Or.inr rfl⟩
  · have QY:∀ j u,xs[j]? =some u→G (j % i.size) u:=by
      intro j u hu;rw [← Xo,aSl] at hu;split at hu
      · exact bB j u (by rw [← aSG];exact hu)
      · cases hu
    by_cases Xf:n+m≤cap
    · have WL:n * i.size+news.length≤cur.size:=by rw [az,zm,← aS9];exact aSm _ Xf
      have hr:=run_append_room (P:=P) w t ty e i aG aq g n cap cur aK ad m c news az LA τ Xf WL;refine ⟨_,_,hr,⟨hlen, .inr ⟨g,cap,_,Z,Wt,setRow_heap w g cur _ e _ aK,Xf,r0, ?_, ?_, ?_⟩⟩,⟨Z,Z,Z,by simp,fun k _ ar=>setRow_other w g k _ (fun e=>ar (by simp [Value.ownBlock,e]))⟩,by simp,Or.inl rfl⟩
      · simp only [aTc,aRH,aRE,aRV,aTy]
        omega
      · rw [Xo,← hlen]
        exact aU0
      · intro j u hu
        rw [Xo] at hu;have hu:((xs++news)++cur.toList.drop (n * i.size+news.length))[j]? =some u:=by simpa using hu
        by_cases ay:j<(xs++news).length
        · rw [aRX ay] at hu;exact afG QY j u hu
        · rw [aR0 (by omega),aSJ] at hu
          rw [hlen] at hu ay;rw [az,← aS9,show (n+m) * i.size+(j - (n+m) * i.size)=j from by omega] at hu;exact bB j u (by rw [← aSG];exact hu)
    · have holds:∀ j u,xs[j]? =some u→w.cell? ((⟨g,0,none⟩:Addr).add j)=some u:=fi.row.cells (g:=g) rfl
      have hr:=run_append_grow (P:=P) w t ty e i z aG aq bs ⟨g,0,none⟩ n cap xs H6 holds ad m c news az LA (by omega) (by omega) (growslice_fits (by omega) rY);have C0:=grown QY cap (by omega) (Value.ownBlock (.slice (some ⟨g,0,none⟩) n cap));exact ⟨_,_,hr,C0.1,C0.2,by simp,Or.inr rfl⟩

theorem aFa {o:Oper} {a:Act} {K:Act→World→Prop} {Q:Exit→Act→World→Prop} (s x:Operand) (t:TypeId)
    (bS:o.op= .call {callee:= .builtin .append,args:=#[s,x],argTypes:=#[t,t]})
    (base:Nat) (e:TypeId) (i:TypeInfo) (z:Value) (size bytes:Nat) (aG:P.underlying t=some (.slice e)) (aq:P.info? e=some i) (bs:i.zero=some z)
    (xR:i.size=size) (mN:i.bytes=bytes) (tl:z.cells.size=size) (jd:0<size) (G:Nat→Value→Prop) (xU:∀ j u,z.cells[j]? =some u→G j u)
    (v:Value) (n:Nat) (xs:List Value) (hs:a.eval s=v) (fi:Own w base e size G v n xs)
    (A:Option Addr) (m c:Nat) (news:List Value) (hx:a.eval x= .slice A m c) (hr:Rd w size A m news) (τ:∀ u∈news,u.oneCell'=true) (Lx:∀ j u,news[j]? =some u→G (j % size) u)
    (rT:n+m≤maxLen) (rY:(n+m) * bytes≤140737488355328) (pZ:base≤w.heap.size)
    (h:∀ v' w',Own w' base e size G v' (n+m) (xs++news)→w.grownBy w' v.ownBlock→(v'= .slice none 0 0↔v= .slice none 0 0∧m=0)→(v'.ownBlock=v.ownBlock∨v'.ownBlock=some w.heap.size)→K (a.put o.dst v') w'):o.wp P a w K Q:=by
  obtain ⟨v',w',kM,aa,aw,a1,bK⟩:=akA (P:=P) w base t o.type e i z size bytes aG aq bs xR mN tl jd G xU v n xs fi A m c news hr τ Lx rT rY pZ;unfold Oper.wp execOp;simp only [bS,resolve,invoke,builtin,aRS,aRT,aRJ,aVA,aSs,aTr,hs,hx,kM];exact h v' w' aa aw a1 bK
theorem Ji {ops:Array Oper} {rest:List Oper} {o:Oper} {a:Act} {Q:Exit→Act→World→Prop} (WR:o.guard=none) (s x:Operand) (t:TypeId)
    (bS:o.op= .call {callee:= .builtin .append,args:=#[s,x],argTypes:=#[t,t]})
    (base:Nat) (e:TypeId) (i:TypeInfo) (z:Value) (size bytes:Nat) (aG:P.underlying t=some (.slice e)) (aq:P.info? e=some i) (bs:i.zero=some z)
    (xR:i.size=size) (mN:i.bytes=bytes) (tl:z.cells.size=size) (jd:0<size) (G:Nat→Value→Prop) (xU:∀ j u,z.cells[j]? =some u→G j u)
    (v:Value) (n:Nat) (xs:List Value) (hs:a.eval s=v) (fi:Own w base e size G v n xs)
    (A:Option Addr) (m c:Nat) (news:List Value) (hx:a.eval x= .slice A m c) (hr:Rd w size A m news) (τ:∀ u∈news,u.oneCell'=true) (Lx:∀ j u,news[j]? =some u→G (j % size) u)
    (rT:n+m≤maxLen) (rY:(n+m) * bytes≤140737488355328) (pZ:base≤w.heap.size)
    (h:∀ v' w',Own w' base e size G v' (n+m) (xs++news)→w.grownBy w' v.ownBlock→(v'= .slice none 0 0↔v= .slice none 0 0∧m=0)→(v'.ownBlock=v.ownBlock∨v'.ownBlock=some w.heap.size)→wpList P ops Q rest (a.put o.dst v') w'):wpList P ops Q (o::rest) a w :=
  wpList_plain WR fun _ hK=>aFa w s x t bS base e i z size bytes aG aq bs xR mN tl jd G xU v n xs hs fi A m c news hx hr τ Lx rT rY pZ fun v' w' aa aw a1 bK=>hK _ _ (h v' w' aa aw a1 bK)
end
open Go.ChangeShapes Go.WideShapes Go.Deep Go.RowKit
inductive gK where
  | int (k:IntKind)
  | bool
  | str
  | slice (e:gK) (bytes:Nat)
  | nil
  | cons (a b:gK)
def gK.size:gK→Nat
  | .int _ | .bool | .str | .slice _ _=>1
  | .nil=>0
  | .cons a b=>a.size+b.size
def partsOf (P:Program) (t:TypeId):Option (List (TypeId×Nat)):=
  match P.underlying t with
  | some (.struct fs)=>some (fs.toList.map fun f=>(f.type,f.offset))
  | some (.array n e)=>some ((List.range n).map fun i=>(e,i * P.cellsOf e))
  | _=>none
def gK.fit (P:Program):gK→TypeId ⊕ (Nat×List (TypeId×Nat))→Bool
  | .int k, .inl t=>match P.underlying t with | some (.int k')=>decide (k'=k) | _=>false
  | .bool, .inl t=>match P.underlying t with | some .bool=>true | _=>false
  | .str, .inl t=>match P.underlying t with | some .string=>true | _=>false
  | .slice e by_, .inl t=>match P.underlying t with | some (.slice u)=>P.cellsOf u == e.size && P.bytesOf u == by_ && e.fit P (.inl u) | _=>false
  | .nil, .inl t=>P.cellsOf t == 0 && (match P.underlying t with | some (.struct _)=>true | some (.array ..)=>true | _=>false)
  | .cons a b, .inl t=>P.cellsOf t == a.size+b.size && (match partsOf P t with
      | some ((u,o)::r)=>o == 0 && P.cellsOf u == a.size && a.fit P (.inl u) && b.fit P (.inr (a.size,r))
      | _=>false)
  | .nil, .inr (_,fs)=>fs.isEmpty
  | .cons a b, .inr (off,fs)=>match fs with
    | (u,o)::r=>o == off && P.cellsOf u == a.size && a.fit P (.inl u) && b.fit P (.inr (off+a.size,r))
    | []=>false
  | _, .inr _=>false
def gK.i_ (w:World):gK→List Value→Prop
  | .int k,cs=>∃ n,cs= [.int k n]∧(Lit.int k n).wf=true
  | .bool,cs=>∃ b,cs= [.bool b]
  | .str,cs=>∃ s:ByteArray,cs= [.string s]∧s.size≤maxLen∧s.size≤140737488351232
  | .slice e by_,cs=>cs= [.slice none 0 0]∨∃ (a:Addr) (len cap:Nat),cs= [.slice (some a) len cap]∧len≤cap∧cap≤maxLen∧cap * by_≤140737488351232∧
      ∀ i,i<cap→∃ es:List Value,es.length=e.size∧(∀ j v,es[j]? =some v→w.cell? (a.add (i * e.size+j))=some v)∧e.i_ w es
  | .nil,cs=>cs= []
  | .cons a b,cs=>∃ xs ys,cs=xs++ys∧xs.length=a.size∧ys.length=b.size∧a.i_ w xs∧b.i_ w ys
variable {H:Type} {enc:TypeId×Value→H} {P:Program} {w:World} {base:Nat} {held:Bool}
theorem amj {e:TypeId} {l:List (DataW H)} {d:DataW H} (h:d∈l):∀ n∈d.weights P e,n∈DataW.weightsAll P e l:=by
  induction l with
  | nil=>cases h
  | cons x r bD =>
    intro n hn;simp only [DataW.weightsAll,aRR];rcases aRW.1 h with rfl | h
    · exact .inl hn
    · exact .inr (bD h n hn)
def JI (enc:TypeId×Value→H) (P:Program) (w:World) (base:Nat) (held:Bool) (n:Nat) (cs:List Value) (fs:List (TypeId×Nat)) (xs:List (DataW H×List MemPlace)):Prop :=
  xs.length=fs.length∧∀ (i:Nat) (f:TypeId×Nat),fs[i]? =some f→DataW.trod enc P w base (fun _=>true) held n f.1 ((cs.drop f.2).take (P.cellsOf f.1))=xs[i]?
theorem JI.cons {n:Nat} {cs:List Value} {f:TypeId×Nat} {r:List (TypeId×Nat)} {xs:List (DataW H×List MemPlace)} (h:JI enc P w base held n cs (f::r) xs):
    ∃ x ys,xs=x::ys∧DataW.trod enc P w base (fun _=>true) held n f.1 ((cs.drop f.2).take (P.cellsOf f.1))=some x∧JI enc P w base held n cs r ys:=by
  obtain ⟨az,hf⟩:=h
  match xs,az with
  | x::ys,az =>
    refine ⟨x,ys,Z,hf 0 f Z,by simpa using az,fun i g aK=> ?_⟩;exact hf (i+1) g aK
def Goal (P:Program) (w:World) (sh:gK):TypeId ⊕ (Nat×List (TypeId×Nat))→Prop
  | .inl t=>∀ (H:Type) (enc:TypeId×Value→H) (base:Nat) (held:Bool) (fuel:Nat) (cs:List Value) (x:DataW H×List MemPlace),DataW.trod enc P w base (fun _=>true) held fuel t cs=some x→(∀ n∈x.1.weights P t,n≤reachBytes)→cs.length=sh.size∧sh.i_ w cs
  | .inr (off,fs)=>∀ (H:Type) (enc:TypeId×Value→H) (base:Nat) (held:Bool) (n:Nat) (cs:List Value) (xs:List (DataW H×List MemPlace)),JI enc P w base held n cs fs xs→cs.length=off+sh.size→(∀ n∈DataW.weightsEach P (fs.map (·.1)) (xs.map (·.1)),n≤reachBytes)→sh.i_ w (cs.drop off)
theorem Goal.fields {a b:gK} (ayc:∀ t,a.fit P t=true→Goal P w a t) (ayd:∀ t,b.fit P t=true→Goal P w b t) {off:Nat} {f:TypeId×Nat} {r:List (TypeId×Nat)} (τ:f.2=off) (aa:P.cellsOf f.1=a.size) (aw:a.fit P (.inl f.1)=true) (a1:b.fit P (.inr (off+a.size,r))=true):
    Goal P w (.cons a b) (.inr (off,f::r)):=by
  intro H enc base held n cs xs hx az hw;obtain ⟨x,ys,rfl,aG,hr⟩:=hx.cons;have ha:=ayc _ aw H enc base held n _ x aG (fun m hm=>hw m (by simp only [aSs,DataW.weightsEach,aRR];exact .inl hm));have jd:(gK.cons a b).size=a.size+b.size:=rfl;have Φ:=ayd _ a1 H enc base held n cs ys hr (by omega) (fun m hm=>hw m (by simp only [aSs,DataW.weightsEach,aRR];exact .inr hm));rw [τ,aa] at ha;refine ⟨_,_, ?_,ha.1, ?_,ha.2,Φ⟩
  · rw [← aUo,aTL]
  · rw [aRV];omega
theorem amk {e:TypeId}:∀ (l:List (DataW H)) (ts:List TypeId),ts.length=l.length→(∀ t∈ts,t=e)→DataW.weightsEach P ts l=DataW.weightsAll P e l
  | [], [],_,_=>rfl
  | d::l,t::ts,h,aG=>by
    rw [DataW.weightsEach,DataW.weightsAll,aG t (by simp),amk l ts (by simpa using h) (fun u hu=>aG u (by simp [hu]))]
  | [],_::_,h,_=>by simp at h
  | _::_, [],h,_=>by simp at h
theorem alp {t:TypeId} {fs:List (TypeId×Nat)} {fuel:Nat} {cs:List Value} {x:DataW H×List MemPlace} (hp:partsOf P t=some fs) (h:DataW.trod enc P w base (fun _=>true) held fuel t cs=some x):
    cs.length=P.cellsOf t∧∃ (xs:List (DataW H×List MemPlace)) (n:Nat),JI enc P w base held n cs fs xs∧x.1.weights P t=DataW.weightsEach P (fs.map (·.1)) (xs.map (·.1)):=by
  unfold partsOf at hp;split at hp
  · rename_i gs hu
    obtain rfl:=aRA hp;obtain ⟨xs,n,_,rfl,az,hlen,hf⟩:=DataW.trod_struct hu h;refine ⟨az,xs,n,⟨by rw [hlen];simp,fun i f aK=> ?_⟩, ?_⟩
    · rw [aRU] at aK
      match awc:gs.toList[i]?,aK with
      | some g,aK =>
        obtain rfl:=aRA aK;exact hf i g (by rw [← aSG];exact awc)
    · simp only [DataW.weights,hu,aUl]
      rfl
  · rename_i m e hu
    obtain rfl:=aRA hp;obtain ⟨xs,n,_,rfl,az,hlen,hf⟩:=DataW.trod_array hu h;refine ⟨az,xs,n,⟨by rw [hlen];simp,fun i f aK=> ?_⟩, ?_⟩
    · rw [aRU] at aK
      have aq:i<m:=by
        rcases aSA i m with h | h
        · exact h
        · rw [aSR (by simpa using h)] at aK;cases aK
      rw [aU8 aq] at aK;obtain rfl:=aRA aK;exact hf i aq
    · simp only [DataW.weights,hu]
      rw [amk (e:=e)]
      · simp [hlen]
      · intro u hu;simp at hu;exact hu.2.symm
  · cases hp
theorem Hz (P:Program) (w:World):∀ (sh:gK) (t:TypeId ⊕ (Nat×List (TypeId×Nat))),sh.fit P t=true→Goal P w sh t
  | .int k, .inl t,h=>by
    intro H enc base held fuel cs x aG _;unfold gK.fit at h;split at h
    · rename_i k' hu
      obtain rfl:k'=k:=aST h;cases fuel with
      | zero=>simp [DataW.trod] at aG
      | succ n =>
        unfold DataW.trod at aG;rw [hu] at aG;split at aG<;>simp_all;exact ⟨Z,_,Z,aG.1.2⟩
    · cases h
  | .bool, .inl t,h=>by
    intro H enc base held fuel cs x aG _;unfold gK.fit at h;split at h
    · rename_i hu
      cases fuel with
      | zero=>simp [DataW.trod] at aG
      | succ n =>
        unfold DataW.trod at aG;rw [hu] at aG;split at aG<;>simp_all;exact ⟨Z,_,Z⟩
    · cases h
  | .str, .inl t,h=>by
    intro H enc base held fuel cs x aG hw;unfold gK.fit at h;split at h
    · rename_i hu
      cases fuel with
      | zero=>simp [DataW.trod] at aG
      | succ n =>
        unfold DataW.trod at aG;rw [hu] at aG;split at aG<;>simp_all;obtain ⟨τ,rfl⟩:=aG;refine ⟨Z,_,Z,τ, ?_⟩;simpa [DataW.weights,reachBytes] using hw
    · cases h
  | .slice e by_, .inl t,h=>by
    intro H enc base held fuel cs x aG hw;unfold gK.fit at h;split at h
    · rename_i u hu
      simp only [aRI,aSC] at h;obtain ⟨⟨τ,aa⟩,aw⟩:=h;rcases open_slice hu aG with ⟨rfl,_⟩ | ⟨a,len,cap,m,n,D,aHB,rfl,_,az,hm,QG,rfl,aq⟩
      · exact ⟨rfl, .inl rfl⟩
      · simp only [aTm] at QG
        subst QG;refine ⟨Z, .inr ⟨a,len,m,Z,az,hm, ?_,fun i awf=> ?_⟩⟩
        · have:=hw ((((List.range len).map D).length+((List.range (m - len)).map fun j=>D (len+j)).length) * P.bytesOf u) (by simp [DataW.weights,hu])
          rw [aa] at this;simp only [aSz,aWG,reachBytes] at this;rw [show len+(m - len)=m from by omega] at this;exact this
        · obtain ⟨acZ,hc,axB⟩:=aq i awf
          have aK:=Hz P w e (.inl u) aw H enc base held n acZ _ axB (fun k ar=>hw k (by
            simp only [DataW.weights,hu,aRW,aRR];right;by_cases HW:i<len
            · exact .inl (amj (aSh.2 ⟨i,aSj.2 HW,rfl⟩) k ar)
            · exact .inr (amj (aSh.2 ⟨i - len,aSj.2 (by omega),by rw [show len+(i - len)=i from by omega]⟩) k ar)))
          obtain ⟨_,rZ,fL⟩:=World.cells?_some hc;refine ⟨acZ,aK.1,fun j v hv=> ?_,aK.2⟩;have ay:j<P.cellsOf u:=by have:=(aRC.1 hv).1;omega
          rw [τ] at fL ay;rw [← Go.Deep.add_add,fL j ay,hv]
    · cases h
  | .nil, .inl t,h=>by
    intro H enc base held fuel cs x aG hw;unfold gK.fit at h;simp only [aRI,aSC] at h;obtain ⟨aH,τ⟩:=h;have hp:∃ fs,partsOf P t=some fs:=by
      unfold partsOf;split at τ
      · exact ⟨_,rfl⟩
      · exact ⟨_,rfl⟩
      · cases τ
    obtain ⟨fs,hp⟩:=hp;have az:=(alp hp aG).1;rw [aH] at az;exact ⟨az,aSb az⟩
  | .cons a b, .inl t,h=>by
    intro H enc base held fuel cs x aG hw;unfold gK.fit at h;simp only [aRI,aSC] at h;obtain ⟨aH,h⟩:=h;split at h
    · rename_i u o r hp
      obtain ⟨az,xs,n,hx,he⟩:=alp hp aG;rw [aH] at az;refine ⟨az, ?_⟩;simp only [aRI,aSC] at h;obtain ⟨⟨⟨τ,aa⟩,aw⟩,a1⟩:=h;have a1:b.fit P (.inr (0+a.size,r))=true:=by rw [aSU];exact a1
      exact Goal.fields (w:=w) (f:=(u,o)) (fun t aG=>Hz P w a t aG) (fun t aG=>Hz P w b t aG) τ aa aw a1 H enc base held n cs xs hx (by rw [az];show _=0+(a.size+b.size);omega) (fun m hm=>hw m (by rw [he];exact hm))
    · cases h
  | .nil, .inr (off,fs),h=>by
    intro H enc base held n cs xs hx az hw;exact aSb (by rw [aRV,az];simp [gK.size])
  | .cons a b, .inr (off,fs),h=>by
    unfold gK.fit at h;split at h
    · rename_i u o r
      simp only [aRI,aSC] at h;obtain ⟨⟨⟨τ,aa⟩,aw⟩,a1⟩:=h;exact Goal.fields (f:=(u,o)) (fun t aG=>Hz P w a t aG) (fun t aG=>Hz P w b t aG) τ aa aw a1
    · cases h
  | .int _, .inr _,h=>by simp [gK.fit] at h
  | .bool, .inr _,h=>by simp [gK.fit] at h
  | .str, .inr _,h=>by simp [gK.fit] at h
  | .slice _ _, .inr _,h=>by simp [gK.fit] at h
theorem ajJ {ts:List TypeId} {ds:List (DataW H)} (sh:gK) {j:Nat} {t:TypeId} {v:Value} {d:DataW H} {p:List MemPlace} (WL:sh.fit P (.inl t)=true)
    (jd:(DataW.weightsEach P ts ds).all (· ≤reachBytes)=true) (aG:ts[j]? =some t) (hd:ds[j]? =some d) (h:DataW.Trod enc P w base (fun _=>true) held t v d p):
    v.cells.toList.length=sh.size∧sh.i_ w v.cells.toList:=by
  obtain ⟨fuel,hf⟩:=h;exact Hz P w sh (.inl t) WL H enc base held fuel _ (d,p) hf (fun n hn=>by
    have:=aSr.1 jd _ (DataW.weights_mem_each aG hd n hn);simpa using this)
theorem aiY {α:Type} (n:Nat) (p:Nat→α→Prop) (h:∀ i,i<n→∃ x,p i x):∃ l:List α,l.length=n∧∀ i (aq:i<l.length),p i l[i]:=by
  induction n with
  | zero=>exact ⟨[],rfl,fun i aq=>absurd aq (by simp)⟩
  | succ n bD =>
    obtain ⟨l,az,hp⟩:=bD (fun i aq=>h i (by omega));obtain ⟨x,hx⟩:=h n (by omega);refine ⟨l++ [x],by simp [az],fun i aq=> ?_⟩;by_cases dp:i<l.length
    · rw [aT0 dp];exact hp i dp
    · have:i=n:=by simp at aq;omega
      subst this;rw [List.getElem_append_right (by omega)];simpa [az] using hx
def c9 {β α:Type} (P:β→α→Prop):List β→List α→Prop
  | [], []=>True
  | b::cX,a::m=>P b a∧c9 P cX m
  | _,_=>False
section
variable {β α:Type} {P Q:β→α→Prop}
theorem c9.length:∀ {l:List β} {m:List α},c9 P l m→l.length=m.length
  | [], [],_=>rfl
  | _::_,_::_,h=>by rw [aRG,aRG,c9.length h.2]
  | [],_::_,h=>h.elim
  | _::_, [],h=>h.elim
theorem c9.imp {l:List β} (aq:∀ b a,b∈l→P b a→Q b a):∀ {m:List α},c9 P l m→c9 Q l m:=by
  induction l with
  | nil=>intro m h;cases m with | nil=>trivial | cons=>exact h
  | cons b r bD =>
    intro m h;cases m with
    | nil=>exact h
    | cons a s=>exact ⟨aq b a (by simp) h.1,bD (fun b a Φ=>aq b a (by simp [Φ])) h.2⟩
theorem c9.app:∀ {l:List β} {m:List α} {uP:List β} {m':List α},c9 P l m→c9 P uP m'→c9 P (l++uP) (m++m')
  | [], [],_,_,_,h=>h
  | _::_,_::_,_,_,h,cI=>⟨h.1,c9.app h.2 cI⟩
  | [],_::_,_,_,h,_=>h.elim
  | _::_, [],_,_,h,_=>h.elim
theorem c9.at_:∀ {l:List β} {m:List α} {i:Nat} {a:α},c9 P l m→m[i]? =some a→∃ b,l[i]? =some b∧P b a
  | [], [],_,_,_,h=>by simp at h
  | b::_,_::_,0,_,h,e=>⟨b,rfl,by simp at e;subst e;exact h.1⟩
  | _::_,_::_,i+1,_,h,e=>by
    obtain ⟨b,τ,aa⟩:=c9.at_ (i:=i) h.2 (by simpa using e);exact ⟨b,by simpa using τ,aa⟩
  | [],_::_,_,_,h,_=>h.elim
  | _::_, [],_,_,h,_=>h.elim
theorem c9.Y4:∀ {l:List β} {m:List α} {i:Nat} {b:β} {a:α},c9 P l m→P b a→c9 P (l.set i b) (m.set i a)
  | [], [],_,_,_,_,_=>trivial
  | _::_,_::_,0,_,_,h,e=>⟨e,h.2⟩
  | _::_,_::_,_+1,_,_,h,e=>⟨h.1,c9.Y4 h.2 e⟩
  | [],_::_,_,_,_,h,_=>h.elim
  | _::_, [],_,_,_,h,_=>h.elim
theorem c9.IV:∀ {l:List β} {m:List α} (k:Nat),c9 P l m→c9 P (l.take k) (m.take k)
  | [], [],_,_=>by simp [c9]
  | _::_,_::_,0,_=>trivial
  | _::_,_::_,k+1,h=>⟨h.1,c9.IV k h.2⟩
  | [],_::_,_,h=>h.elim
  | _::_, [],_,h=>h.elim
theorem c9.left:∀ {l:List β} {m:List α},c9 P l m→∀ b∈l,∃ a,P b a
  | [],_,_,b,Φ=>by simp at Φ
  | c::_, [],h,_,_=>h.elim
  | c::_,a::_,h,b,Φ=>by
    rcases aRW.1 Φ with rfl | Φ
    · exact ⟨a,h.1⟩
    · exact c9.left h.2 b Φ
end
theorem AU {k:Nat}:∀ {l:List (List Value)},(∀ x∈l,x.length=k)→l.flatten.length=l.length * k
  | [],_=>by simp
  | x::r,h=>by rw [aSu,aRH,h x (by simp),AU (l:=r) (fun y aL=>h y (by simp [aL])),aRG,aS9];omega
theorem Hs {k:Nat}:∀ {l:List (List Value)} {i j:Nat} {es:List Value},(∀ x∈l,x.length=k)→l[i]? =some es→j<k→l.flatten[i * k+j]? =es[j]?
  | [],_,_,_,_,h,_=>by simp at h
  | x::r,0,j,es,h,e,ay=>by
    have e:x=es:=by simpa using e
    subst e;rw [aSu,aV4,aSU,aRX (by rw [h x (by simp)];exact ay)]
  | x::r,i+1,j,es,h,e,ay=>by
    have hx:=h x (by simp);rw [aSu,aR0 (by rw [hx,aS9];omega),hx,show (i+1) * k+j - k=i * k+j from by rw [aS9];omega];exact Hs (fun y aL=>h y (by simp [aL])) (by simpa using e) ay
theorem aeL {k:Nat}:∀ {l:List (List Value)} {i j:Nat} {es:List Value} (u:Value),(∀ x∈l,x.length=k)→l[i]? =some es→j<k→l.flatten.set (i * k+j) u=(l.set i (es.set j u)).flatten
  | [],_,_,_,_,_,h,_=>by simp at h
  | x::r,0,j,es,u,h,e,ay=>by
    have e:x=es:=by simpa using e
    subst e;rw [aSu,aV4,aSU,List.set_append_left _ _ (by rw [h x (by simp)];exact ay)];rfl
  | x::r,i+1,j,es,u,h,e,ay=>by
    have hx:=h x (by simp);rw [aSu,aUT _ _ (by rw [hx,aS9];omega),hx,show (i+1) * k+j - k=i * k+j from by rw [aS9];omega,aeL u (fun y aL=>h y (by simp [aL])) (by simpa using e) ay];rfl
theorem aeM {k:Nat}:∀ {l:List (List Value)} (i:Nat),(∀ x∈l,x.length=k)→l.flatten.take (i * k)=(l.take i).flatten
  | [],_,_=>by simp
  | x::r,0,_=>by simp
  | x::r,i+1,h=>by
    have hx:=h x (by simp);rw [aSu,aWm,aSu,aVy,hx,aR1 (by rw [hx,aS9];omega),show (i+1) * k - k=i * k from by rw [aS9];omega,aeM i (fun y aL=>h y (by simp [aL]))]
structure κ (α:Type) where
  size:Nat
  has:World→List Value→α→Prop
  own:World→Nat→List Nat→List Value→α→Prop
  raw:Nat→Value→Prop
  len:∀ {w cs a},has w cs a→cs.length=size
  one:∀ {w cs a},has w cs a→∀ u∈cs,u.oneCell'=true
  wG:∀ {w cs a},has w cs a→∀ (j:Nat) u,cs[j]? =some u→raw j u
  keep:∀ {w w' cs a},has w cs a→Below w.heap.size w w'→has w' cs a
  tB:∀ {w B f cs a},own w B f cs a→has w cs a
  ss:∀ {w w' B f cs a},own w B f cs a→(∀ g∈f,w'.heap[g]? =w.heap[g]?)→own w' B f cs a
  wC:∀ {w B f cs a},own w B f cs a→∀ g∈f,B≤g∧g<w.heap.size
  Bw:∀ {w B rv f cs a},own w B f cs a→rv≤B→own w rv f cs a
namespace κ
variable {α β:Type} {w w':World} {B rv:Nat} {f:List Nat} {cs:List Value} {a:α}
theorem Yu (R:κ α) (h:R.own w B f cs a):cs.length=R.size:=R.len (R.tB h)
def Vs (size:Nat) (cells:α→List Value) (ok:α→Prop) (raw:Nat→Value→Prop) (az:∀ a,(cells a).length=size) (τ:∀ a,∀ u∈cells a,u.oneCell'=true) (hr:∀ a,ok a→∀ (j:Nat) u,(cells a)[j]? =some u→raw j u):κ α where
  size:=size
  has:=fun _ cs a=>cs=cells a∧ok a
  own:=fun _ _ f cs a=>f= []∧cs=cells a∧ok a
  raw:=raw
  len:=by rintro w cs a ⟨rfl,_⟩;exact az a
  one:=by rintro w cs a ⟨rfl,_⟩;exact τ a
  wG:=by rintro w cs a ⟨rfl,h⟩;exact hr a h
  keep:=fun h _=>h
  tB:=fun h=>h.2
  ss:=fun h _=>h
  wC:=by rintro w B f cs a ⟨rfl,_⟩ g aK;simp at aK
  Bw:=fun h _=>h
def flat (size:Nat) (cells:α→List Value) (ok:α→Prop) (raw:Nat→Value→Prop) (az:∀ a,(cells a).length=size) (τ:∀ a,∀ u∈cells a,u.oneCell'=true) (hr:∀ a (j:Nat) u,(cells a)[j]? =some u→raw j u):κ α where
  size:=size
  has:=fun _ cs a=>cs=cells a∧ok a
  own:=fun _ _ f cs a=>f= []∧cs=cells a∧ok a
  raw:=raw
  len:=by rintro w cs a ⟨rfl,_⟩;exact az a
  one:=by rintro w cs a ⟨rfl,_⟩;exact τ a
  wG:=by rintro w cs a ⟨rfl,_⟩;exact hr a
  keep:=fun h _=>h
  tB:=fun h=>h.2
  ss:=fun h _=>h
  wC:=by rintro w B f cs a ⟨rfl,_⟩ g aK;simp at aK
  Bw:=fun h _=>h
def pair (R:κ α) (S:κ β):κ (α×β) where
  size:=R.size+S.size
  has:=fun w cs p=>∃ xs ys,cs=xs++ys∧R.has w xs p.1∧S.has w ys p.2
  own:=fun w B f cs p=>∃ xs ys f1 f2,cs=xs++ys∧f=f1++f2∧R.own w B f1 xs p.1∧S.own w B f2 ys p.2
  raw:=fun j u=>if j<R.size then R.raw j u else S.raw (j - R.size) u
  len:=by rintro w cs p ⟨xs,ys,rfl,τ,aa⟩;rw [aRH,R.len τ,S.len aa]
  one:=by
    rintro w cs p ⟨xs,ys,rfl,τ,aa⟩ u hu;rcases aRR.1 hu with hu | hu
    · exact R.one τ u hu
    · exact S.one aa u hu
  wG:=by
    rintro w cs p ⟨xs,ys,rfl,τ,aa⟩ j u hu;by_cases ay:j<R.size
    · rw [aRP ay];rw [aRX (by rw [R.len τ];exact ay)] at hu;exact R.wG τ j u hu
    · rw [aRL ay];rw [aR0 (by rw [R.len τ];omega),R.len τ] at hu;exact S.wG aa _ u hu
  keep:=by rintro w w' cs p ⟨xs,ys,rfl,τ,aa⟩ Φ;exact ⟨xs,ys,Z,R.keep τ Φ,S.keep aa Φ⟩
  tB:=by rintro w B f cs p ⟨xs,ys,f1,f2,rfl,rfl,τ,aa⟩;exact ⟨xs,ys,Z,R.tB τ,S.tB aa⟩
  ss:=by
    rintro w w' B f cs p ⟨xs,ys,f1,f2,rfl,rfl,τ,aa⟩ ar;exact ⟨xs,ys,f1,f2,Z,Z,R.ss τ (fun g aK=>ar g (by simp [aK])),S.ss aa (fun g aK=>ar g (by simp [aK]))⟩
  wC:=by
    rintro w B f cs p ⟨xs,ys,f1,f2,rfl,rfl,τ,aa⟩ g aK;rcases aRR.1 aK with aK | aK
    · exact R.wC τ g aK
    · exact S.wC aa g aK
  Bw:=by
    rintro w B rv f cs p ⟨xs,ys,f1,f2,rfl,rfl,τ,aa⟩ Φ;exact ⟨xs,ys,f1,f2,Z,Z,R.Bw τ Φ,S.Bw aa Φ⟩
def via (R:κ α) (g:β→α):κ β where
  size:=R.size
  has:=fun w cs b=>R.has w cs (g b)
  own:=fun w B f cs b=>R.own w B f cs (g b)
  raw:=R.raw
  len:=fun h=>R.len h
  one:=fun h=>R.one h
  wG:=fun h=>R.wG h
  keep:=fun h Φ=>R.keep h Φ
  tB:=fun h=>R.tB h
  ss:=fun h ar=>R.ss h ar
  wC:=fun h=>R.wC h
  Bw:=fun h Φ=>R.Bw h Φ
def ae:Option Addr→List Nat
  | none=> []
  | some a=> [a.block]
theorem azO {A:Option Addr} {g:Nat}:g∈ae A↔∃ a,A=some a∧a.block=g:=by
  cases A with
  | none=>simp [ae]
  | some a=>simp [ae,eq_comm]
def aJ (R:κ α) (by_:Nat) (w:World) (A:Option Addr) (c:Nat) (l:List α):Prop :=
  l.length≤c∧c≤9223372036854775807∧l.length * by_≤140737488355328∧(A=none→c=0)∧
  ∃ ess,c9 (fun es a=>R.has w es a) ess l∧Rd w R.size A l.length ess.flatten
def aD (R:κ α) (E:TypeId) (by_:Nat) (w:World) (B:Nat) (f:List Nat) (A:Option Addr) (c:Nat) (l:List α):Prop :=
  l.length * by_≤140737488355328∧
  ∃ ps:List (List Nat×List Value),f=ae A++(ps.map (·.1)).flatten∧f.Nodup∧Own w B E R.size R.raw (.slice A l.length c) l.length (ps.map (·.2)).flatten∧
    c9 (fun x a=>R.own w B x.1 x.2 a) ps l
theorem aJ.keep {R:κ α} {by_:Nat} {A:Option Addr} {c:Nat} {l:List α} (h:R.aJ by_ w A c l) (Φ:Below w.heap.size w w'):R.aJ by_ w' A c l:=by
  obtain ⟨τ,aa,aw,a1,ess,bK,b_⟩:=h;exact ⟨τ,aa,aw,a1,ess,bK.imp (fun es a _ h=>R.keep h Φ),b_.later Φ⟩
theorem aJ.drewN {R:κ α} {by_:Nat} {A:Option Addr} {c:Nat} {l:List α} (h:R.aJ by_ w A c l) (k:Nat):R.aJ by_ (w.drewN k) A c l:=h.keep (below_drewN (aR8 _ w) k)
theorem c9.Yc {β amJ α:Type} (g:β→amJ) {P:amJ→α→Prop}:∀ {l:List β} {m:List α},c9 (fun b a=>P (g b) a) l m→c9 P (l.map g) m
  | [], [],_=>trivial
  | _::_,_::_,h=>⟨h.1,c9.Yc g h.2⟩
  | [],_::_,h=>h.elim
  | _::_, [],h=>h.elim
theorem aD.has {R:κ α} {E:TypeId} {by_:Nat} {A:Option Addr} {c:Nat} {l:List α} (h:R.aD E by_ w B f A c l):R.aJ by_ w A c l:=by
  obtain ⟨τ,ps,rfl,aw,a1,bK⟩:=h;obtain ⟨bG,b4,e,hle,hmx,LH,_,lA⟩:=a1.shape;injection e with a_ _ bj
  subst a_;subst bj;refine ⟨hle,by unfold maxLen at hmx;omega,τ,fun hn=>by have:=lA hn;injection this,_,c9.Yc (fun x:List Nat×List Value=>x.2) (bK.imp fun x a _ h=>R.tB h),LH⟩
theorem aD.keep {R:κ α} {E:TypeId} {by_:Nat} {A:Option Addr} {c:Nat} {l:List α} (h:R.aD E by_ w B f A c l) (ar:∀ g∈f,w'.heap[g]? =w.heap[g]?):R.aD E by_ w' B f A c l:=by
  obtain ⟨τ,ps,rfl,aw,a1,bK⟩:=h;refine ⟨τ,ps,Z,aw,a1.of_block (B:=0) fun g aK=>ar g ?_,bK.imp fun x a hx h=>R.ss h fun g aK=>ar g ?_⟩
  · cases A with
    | none=>cases aK
    | some a=>injection aK with aK;simp [ae,aK]
  · exact aRR.2 (.inr (aSN.2 ⟨x.1,aSh.2 ⟨x,hx,rfl⟩,aK⟩))
theorem aD.lt {R:κ α} {E:TypeId} {by_:Nat} {A:Option Addr} {c:Nat} {l:List α} (h:R.aD E by_ w B f A c l):∀ g∈f,B≤g∧g<w.heap.size:=by
  obtain ⟨τ,ps,rfl,aw,a1,bK⟩:=h;intro g aK;rcases aRR.1 aK with aK | aK
  · obtain ⟨a,rfl,rfl⟩:=azO.1 aK
    exact a1.row.lt _ Z
  · obtain ⟨y,aL,aK⟩:=aSN.1 aK
    obtain ⟨x,hx,rfl⟩:=aSh.1 aL;obtain ⟨a,ha⟩:=bK.left x hx;exact R.wC ha g aK
theorem aD.later {R:κ α} {E:TypeId} {by_:Nat} {A:Option Addr} {c:Nat} {l:List α} (h:R.aD E by_ w B f A c l) (Φ:Below w.heap.size w w'):R.aD E by_ w' B f A c l:=h.keep fun g aK=>Φ.block g (h.lt g aK).2
theorem aD.nodup {R:κ α} {E:TypeId} {by_:Nat} {A:Option Addr} {c:Nat} {l:List α} (h:R.aD E by_ w B f A c l):f.Nodup:=by
  obtain ⟨_,ps,rfl,aw,_⟩:=h;exact aw
theorem aD.down {R:κ α} {E:TypeId} {by_:Nat} {A:Option Addr} {c:Nat} {l:List α} (h:R.aD E by_ w B f A c l) (Φ:rv≤B):R.aD E by_ w rv f A c l:=by
  obtain ⟨τ,ps,rfl,aw,a1,bK⟩:=h;exact ⟨τ,ps,Z,aw,a1.mono Φ,bK.imp fun x a _ h=>R.Bw h Φ⟩
def slice (R:κ α) (E:TypeId) (by_:Nat):κ (List α) where
  size:=1
  has:=fun w cs l=>∃ A c,cs= [.slice A l.length c]∧R.aJ by_ w A c l
  own:=fun w B f cs l=>∃ A c,cs= [.slice A l.length c]∧R.aD E by_ w B f A c l
  raw:=fun _ u=>∃ A n c,u= .slice A n c
  len:=by rintro w cs l ⟨A,c,rfl,_⟩;rfl
  one:=by rintro w cs l ⟨A,c,rfl,_⟩ u hu;simp at hu;subst hu;rfl
  wG:=by
    rintro w cs l ⟨A,c,rfl,_⟩ j u hu;cases j with
    | zero=>simp at hu;exact ⟨_,_,_,hu.symm⟩
    | succ j=>simp at hu
  keep:=by rintro w w' cs l ⟨A,c,rfl,h⟩ Φ;exact ⟨A,c,Z,h.keep Φ⟩
  tB:=by rintro w B f cs l ⟨A,c,rfl,h⟩;exact ⟨A,c,Z,h.has⟩
  ss:=by rintro w w' B f cs l ⟨A,c,rfl,h⟩ ar;exact ⟨A,c,Z,h.keep ar⟩
  wC:=by rintro w B f cs l ⟨A,c,rfl,h⟩;exact h.lt
  Bw:=by rintro w B rv f cs l ⟨A,c,rfl,h⟩ Φ;exact ⟨A,c,Z,h.down Φ⟩
theorem c9.ajC {β α:Type} {P:β→α→Prop}:∀ {l:List β} {m:List α},l.length=m.length→(∀ (k:Nat) b a,l[k]? =some b→m[k]? =some a→P b a)→c9 P l m
  | [], [],_,_=>trivial
  | b::l,a::m,az,h=>⟨h 0 b a rfl rfl,c9.ajC (by simpa using az) (fun k b a τ aa=>h (k+1) b a (by simpa using τ) (by simpa using aa))⟩
  | [],_::_,az,_=>by simp at az
  | _::_, [],az,_=>by simp at az
section
variable {R:κ α} {E:TypeId} {by_:Nat} {A:Option Addr} {c:Nat} {l:List α}
theorem lens {ess:List (List Value)} (h:c9 (fun es a=>R.has w es a) ess l):∀ x∈ess,x.length=R.size:=fun x hx=>by
  obtain ⟨a,ha⟩:=h.left x hx;exact R.len ha
theorem aJ.at_ (h:R.aJ by_ w A c l) (aH:0<l.length):∃ b o,A=some ⟨b,o,none⟩∧∀ (i:Nat) a,l[i]? =some a→∃ es,R.has w es a∧∀ (j:Nat) u,es[j]? =some u→w.cell? ⟨b,o+(i * R.size+j),none⟩=some u:=by
  obtain ⟨_,_,_,_,ess,bK,b_,ed⟩:=h;obtain ⟨b,o,e,hc⟩:=ed aH;refine ⟨b,o,e,fun i a ha=> ?_⟩;obtain ⟨es,gh,zh⟩:=bK.at_ ha;refine ⟨es,zh,fun j u hu=>hc _ u ?_⟩;have ay:=(aRC.1 hu).1;rw [R.len zh] at ay;rw [Hs (lens bK) gh ay];exact hu
theorem aJ.y0 {Q:α→Prop} (I:∀ {w cs a},R.has w cs a→Q a) (h:R.aJ by_ w A c l):∀ a∈l,Q a:=by
  obtain ⟨_,_,_,_,ess,bK,_⟩:=h;intro a ha;obtain ⟨i,aq,rfl⟩:=aSw.1 ha;obtain ⟨es,_,he⟩:=bK.at_ (aRD aq);exact I he
theorem Iz {e:gK} (he:∀ w cs,e.i_ w cs→∃ a,R.has w cs a) (hs:e.size=R.size) (aH:0<R.size) {cs:List Value} (h:(gK.slice e by_).i_ w cs):∃ A c l,cs= [.slice A (List.length l) c]∧R.aJ by_ w A c l:=by
  rcases h with rfl | ⟨a,len,cap,rfl,az,hm,hr,aq⟩
  · exact ⟨none,0, [],rfl,aRN _,by simp,by simp,fun _=>rfl, [],trivial,Rd.zero w R.size none⟩
  · obtain ⟨ess,hlen,E_⟩:=aiY len (fun i es=>List.length es=e.size∧(∀ j v,es[j]? =some v→w.cell? (a.add (i * e.size+j))=some v)∧e.i_ w es) (fun i E'=>aq i (by omega))
    obtain ⟨l,oZ,QB⟩:=aiY len (fun i x=>∃ es,ess[i]? =some es∧R.has w es x) (fun i E'=>by
      obtain ⟨x,hx⟩:=he w (ess[i]'(by omega)) (E_ i (by omega)).2.2;exact ⟨x,_,aRD _,hx⟩)
    have de:c9 (fun es x=>R.has w es x) ess l:=by
      refine c9.ajC (by omega) fun k es x τ aa=> ?_;have ar:=(aRC.1 aa);obtain ⟨p1,gS⟩:=ar;obtain ⟨aJq,aw,a1⟩:=QB k p1;rw [τ] at aw;obtain rfl:=aRA aw;rw [← gS];exact a1
    refine ⟨some a,cap,l,by rw [oZ],by omega,by unfold maxLen at hm;omega, ?_,fun h=>(by cases h),ess,de,by rw [AU (lens de),de.length],fun aJQ=> ?_⟩
    · have:=aSm by_ az
      rw [oZ];omega
    · obtain ⟨b,off,spot⟩:=a
      have mO:=(E_ 0 (by omega)).2.1 0;obtain ⟨v,hv⟩:∃ v,(ess[0]'(by omega))[0]? =some v:=by
        have:=(E_ 0 (by omega)).1;exact ⟨_,aRD (by omega)⟩
      have td:=mO v hv;have Bb:spot=none:=by simpa [Addr.add] using World.cell?_spot td
      subst Bb;refine ⟨b,off,Z,fun j u hu=> ?_⟩;have bw:=(aRC.1 hu).1;rw [AU (lens de)] at bw;have ay:j % R.size<R.size:=aTD _ aH;have hd:j / R.size<ess.length:=by rw [aUS aH];exact bw
      have QT:j / R.size * R.size+j % R.size=j:=by rw [aSM];exact aVF j R.size
      have b_:=Hs (j:=j % R.size) (lens de) (i:=j / R.size) (es:=ess[j / R.size]'hd) (aRD hd) ay;rw [QT,hu] at b_;have ed:=(E_ (j / R.size) hd).2.1 _ u b_.symm;rw [G0,hs,QT] at ed;exact ed
theorem aJ.ez {A:Option Addr} {c:Nat} {l:List α} {by_:Nat} {R:κ α} (h:R.aJ by_ w A c l):l.length≤9223372036854775807:=aR5 h.1 h.2.1
theorem aJ.IV {A:Option Addr} {c:Nat} {l:List α} {by_:Nat} {R:κ α} (h:R.aJ by_ w A c l) (k:Nat):R.aJ by_ w A c (l.take k):=by
  obtain ⟨τ,aa,aw,a1,ess,bK,b_⟩:=h;have az:(l.take k).length≤l.length:=by rw [aRE];omega
  have hm:=aSm by_ az;have ed:=bK.IV k;refine ⟨by omega,aa,by omega,a1,ess.take k,ed,by rw [AU (lens ed),ed.length],fun aH=> ?_⟩;obtain ⟨b,o,e,hc⟩:=b_.2 (by omega);refine ⟨b,o,e,fun j u hu=>hc j u ?_⟩;rw [← aeM k (lens bK),aSl] at hu;split at hu
  · exact hu
  · cases hu
theorem aJ.nil (w:World):R.aJ by_ w none 0 []:=⟨aRN _,by simp,by simp,fun _=>rfl, [],trivial,Rd.zero w R.size none⟩
theorem aD.nil (w:World):R.aD E by_ w B [] none 0 []:=⟨by simp, [],rfl,aVL,Own.nil w B E R.size R.raw,trivial⟩
end
def Es (R:κ α) (E:TypeId) (by_:Nat) (w:World) (B:Nat) (aB:List Nat) (g c:Nat) (l:List α) (i:Nat) (es:List Value):Prop :=
  l.length * by_≤140737488355328∧ 
  ∃ ps:List (List Nat×List Value),aB=g::(ps.map (·.1)).flatten∧aB.Nodup∧Own w B E R.size R.raw (.slice (some ⟨g,0,none⟩) l.length c) l.length (ps.map (·.2)).flatten∧
    ps[i]? =some ([],es)∧es.length=R.size∧ps.length=l.length∧∀ k a,k≠i→l[k]? =some a→∃ x,ps[k]? =some x∧R.own w B x.1 x.2 a
section
variable {R:κ α} {E:TypeId} {by_:Nat} {A:Option Addr} {c:Nat} {l:List α} {g i:Nat} {es:List Value} {aB:List Nat}
theorem Ry {ps:List (List Nat×List Value)} (h:c9 (fun x a=>R.own w B x.1 x.2 a) ps l):∀ x∈ps.map (·.2),x.length=R.size:=fun x hx=>by
  obtain ⟨y,aL,rfl⟩:=aSh.1 hx;obtain ⟨a,ha⟩:=h.left y aL;exact R.Yu ha
theorem aD.block (h:R.aD E by_ w B f A c l) (aH:0<l.length):∃ g,A=some ⟨g,0,none⟩:=by
  obtain ⟨_,ps,_,_,a1,_⟩:=h;obtain ⟨_,bK⟩:=a1;rcases bK with ⟨_,bK⟩ | ⟨g,cap,cur,hv,_⟩
  · omega
  · injection hv with hv;exact ⟨g,hv⟩
theorem Es.lens (h:R.Es E by_ w B aB g c l i es):∃ ps:List (List Nat×List Value),aB=g::(ps.map (·.1)).flatten∧aB.Nodup∧Own w B E R.size R.raw (.slice (some ⟨g,0,none⟩) l.length c) l.length (ps.map (·.2)).flatten∧
    ps[i]? =some ([],es)∧es.length=R.size∧ps.length=l.length∧(∀ k a,k≠i→l[k]? =some a→∃ x,ps[k]? =some x∧R.own w B x.1 x.2 a)∧∀ x∈ps.map (·.2),x.length=R.size:=by
  obtain ⟨_,ps,aa,aw,a1,bK,b_,ed,gh⟩:=h;refine ⟨ps,aa,aw,a1,bK,b_,ed,gh,fun x hx=> ?_⟩;obtain ⟨k,ar,rfl⟩:=aSw.1 hx;rw [aSz] at ar;rw [aUB];by_cases ob:k=i
  · subst ob
    rw [aRD ar] at bK;rw [aRA bK];exact b_
  · obtain ⟨y,aL,bS⟩:=gh k (l[k]'(by omega)) ob (aRD _)
    rw [aRD ar] at aL;rw [aRA aL];exact R.Yu bS
theorem Es.keep (h:R.Es E by_ w B aB g c l i es) (ar:∀ x∈aB,w'.heap[x]? =w.heap[x]?):R.Es E by_ w' B aB g c l i es:=by
  obtain ⟨τ,ps,aa,aw,a1,bK,b_,ed,gh⟩:=h;refine ⟨τ,ps,aa,aw,a1.of_block (B:=0) (fun x hx=>ar x ?_),bK,b_,ed,fun k a ob ha=> ?_⟩
  · injection hx with hx;rw [aa,← hx];simp
  · obtain ⟨x,hx,bS⟩:=gh k a ob ha
    refine ⟨x,hx,R.ss bS fun y aL=>ar y ?_⟩;rw [aa];exact aRQ _ (aSN.2 ⟨x.1,aSh.2 ⟨x,aSc hx,Z⟩,aL⟩)
theorem Es.cell (h:R.Es E by_ w B aB g c l i es) (aq:i<l.length) {j:Nat} {u:Value} (hu:es[j]? =some u):w.cell? ⟨g,i * R.size+j,none⟩=some u:=by
  obtain ⟨ps,aa,aw,a1,bK,b_,ed,gh,az⟩:=h.lens;have ay:j<R.size:=by rw [← b_];exact (aRC.1 hu).1
  have:=a1.cell (i * R.size+j) (by
    have:(i+1) * R.size≤l.length * R.size:=aSm _ aq;rw [aS9] at this;omega)
  rw [this,Hs az (by rw [aRU,bK];rfl) ay];exact hu
theorem aD.free (h:R.aD E by_ w B f (some ⟨g,0,none⟩) c l) (j:Nat):w.frozen? ⟨g,j,none⟩=false:=by
  obtain ⟨_,ps,rfl,_,a1,_⟩:=h;exact a1.free j
end

section
variable {P:Program} {R:κ α} {by_:Nat}
theorem Rz (A:Option Addr) (n c:Nat):(Value.slice A n c).ownBlock.toList=ae A:=by cases A<;>rfl
theorem aCz (ty:TypeId) (base:Nat) (t e:TypeId) (i:TypeInfo) (z:Value) (aG:P.underlying t=some (.slice e)) (aq:P.info? e=some i) (bs:i.zero=some z)
    (xR:i.size=R.size) (mN:i.bytes=by_) (tl:z.cells.size=R.size) (jd:0<R.size) (xU:∀ (j:Nat) u,z.cells[j]? =some u→R.raw j u)
    (f:List Nat) (A:Option Addr) (c:Nat) (l:List α) (h:R.aD e by_ w base f A c l)
    (cZ:Option Addr) (m c2:Nat) (k:List α) (kV:List (List Nat×List Value)) (I:c9 (fun x a=>R.own w base x.1 x.2 a) kV k) (hm:k.length=m) (hr:Rd w R.size cZ m (kV.map (·.2)).flatten)
    (jD:(f++(kV.map (·.1)).flatten).Nodup) (rT:l.length+m≤9223372036854775807) (rY:(l.length+m) * by_≤140737488355328) (pZ:base≤w.heap.size):
    ∃ bG b4 f' w',(Builtin.append_ #[t,t] ty #[.slice A l.length c, .slice cZ m c2]).run P w= .ok (.slice bG (l.length+m) b4) w'∧R.aD e by_ w' base f' bG b4 (l++k)∧w.grownBy w' (Value.slice A l.length c).ownBlock∧(bG=A∨∃ a,bG=some a∧a.block=w.heap.size)∧(∀ x∈f',x∈f∨x∈(kV.map (·.1)).flatten∨x=w.heap.size)∧(bG=none↔A=none∧m=0)∧base≤w'.heap.size:=by
  obtain ⟨τ,ps,rfl,aw,a1,bK⟩:=h;have LA:∀ (j:Nat) u,(kV.map (·.2)).flatten[j]? =some u→R.raw (j % R.size) u:=by
    intro j u hu;have az:=Ry I;have bw:=(aRC.1 hu).1;rw [AU az,aSz] at bw;have ay:j % R.size<R.size:=aTD _ jd;have hd:j / R.size<kV.length:=by rw [aUS jd];exact bw
    have aKZ:kV[j / R.size]? =some (kV[j / R.size]'hd):=aRD hd;have awu:k[j / R.size]? =some (k[j / R.size]'(by rw [← I.length];exact hd)):=aRD _;obtain ⟨x,hx,bS⟩:=I.at_ awu;have:=Hs (j:=j % R.size) az (i:=j / R.size) (es:=x.2) (by rw [aRU,hx];rfl) ay;rw [show j / R.size * R.size+j % R.size=j from by rw [aSM];exact aVF j R.size,hu] at this;exact R.wG (R.tB bS) _ u this.symm
  have o0:∀ u∈(kV.map (·.2)).flatten,u.oneCell'=true:=by
    intro u hu;obtain ⟨y,aL,hu⟩:=aSN.1 hu;obtain ⟨x,hx,rfl⟩:=aSh.1 aL;obtain ⟨a,ha⟩:=I.left x hx;exact R.one (R.tB ha) u hu
  obtain ⟨v',w',kM,fi,jB,mP,fL⟩:=akA (P:=P) w base t ty e i z R.size by_ aG aq bs xR mN tl jd R.raw xU _ _ _ a1 cZ m c2 _ hr o0 LA (by unfold maxLen;omega) rY pZ;obtain ⟨bG,b4,rfl,hle,hmx,LH,HM,lA⟩:=fi.shape;have awJ:∀ x,(Value.slice A l.length c).ownBlock=some x→x∈ae A:=fun x hx=>by rw [← Rz A l.length c,hx];simp
  have hA:∀ x∈ae bG,x∈ae A∨x=w.heap.size:=by
    intro x hx;rw [← Rz bG (l.length+m) b4] at hx;rcases fL with fL | fL
    · rw [fL,Rz] at hx;exact .inl hx
    · rw [fL] at hx;simp at hx;exact .inr hx
  have W_:∀ x∈ps,∀ y∈x.1,y<w.heap.size∧y∉ae A:=by
    intro x hx y aL;obtain ⟨a,ha⟩:=bK.left x hx;refine ⟨(R.wC ha y aL).2,fun Φ=> ?_⟩;rw [aSt] at aw;exact aw.2.2 y Φ y (aSN.2 ⟨x.1,aSh.2 ⟨x,hx,Z⟩,aL⟩) Z
  have axk:∀ x∈kV,∀ y∈x.1,y<w.heap.size∧y∉ae A:=by
    intro x hx y aL;obtain ⟨a,ha⟩:=I.left x hx;refine ⟨(R.wC ha y aL).2,fun Φ=> ?_⟩;rw [aSt] at jD;exact jD.2.2 y (aU2 _ Φ) y (aSN.2 ⟨x.1,aSh.2 ⟨x,hx,Z⟩,aL⟩) Z
  have avG:∀ y,y<w.heap.size→y∉ae A→w'.heap[y]? =w.heap[y]? :=fun y aL hn=>jB.block y aL fun e=>hn (awJ y e.symm);have WX:∀ x∈ps++kV,∀ y∈x.1,y<w.heap.size∧y∉ae A:=fun x hx=>by
    rcases aRR.1 hx with hx | hx
    · exact W_ x hx
    · exact axk x hx
  refine ⟨bG,b4,ae bG++((ps++kV).map (·.1)).flatten,w',kM,⟨by rw [aRH,hm];exact rY,ps++kV,rfl, ?_, ?_, ?_⟩,jB, ?_, ?_, ?_,aR5 pZ jB.size⟩
  · rw [aR9,← aTx,← aR3,aSt] at jD
    rw [aSt];refine ⟨by cases bG<;>simp [ae],jD.2.1,fun x hx y aL e=> ?_⟩;subst e;obtain ⟨z,bs,aL⟩:=aSN.1 aL;obtain ⟨v,hv,rfl⟩:=aSh.1 bs;have b_:=WX v hv x aL;rcases hA x hx with ed | ed
    · exact b_.2 ed
    · omega
  · rw [aR3,aTx,aRH,hm];exact fi
  · exact (bK.app I).imp fun x a hx bS=>R.ss bS fun y aL=>avG y (WX x hx y aL).1 (WX x hx y aL).2
  · rcases fL with fL | fL
    · cases bG with
      | none =>
        cases A with
        | none=>exact .inl rfl
        | some a=>cases fL
      | some a' =>
        cases A with
        | none=>cases fL
        | some a =>
          obtain ⟨_,b_⟩:=a1;obtain ⟨_,ed⟩:=fi;rcases b_ with ⟨b_,_⟩ | ⟨g,cap,cur,b_,_⟩
          · cases b_
          rcases ed with ⟨ed,_⟩ | ⟨g',aIZ,CB,ed,_⟩
          · cases ed
          injection b_ with b_
          injection ed with ed
          rw [b_,ed] at fL ⊢;injection fL with fL
          have fL:g'=g:=fL
          left;rw [fL]
    · cases bG with
      | none=>cases fL
      | some a'=>injection fL with fL;exact .inr ⟨a',Z,fL⟩
  · intro x hx
    rcases aRR.1 hx with hx | hx
    · rcases hA x hx with h | h
      · exact .inl (aU2 _ h)
      · exact .inr (.inr h)
    · rw [aR3,aTx] at hx
      rcases aRR.1 hx with hx | hx
      · exact .inl (aUf _ hx)
      · exact .inr (.inl hx)
  · have EV:A=none→Value.slice A l.length c= .slice none 0 0:=fun e=>by
      obtain ⟨_,_,jK,_,_,_,_,awU⟩:=a1.shape;injection jK with a_ _ bj
      subst a_;subst bj;exact awU e
    constructor
    · intro e
      obtain ⟨b_,ed⟩:=mP.1 (lA e);injection b_ with b_
      exact ⟨b_,ed⟩
    · rintro ⟨e,aH⟩
      have:=mP.2 ⟨EV e,aH⟩;injection this
theorem aFb {o:Oper} {a:Act} {K:Act→World→Prop} {Q:Exit→Act→World→Prop} (s x:Operand) (base:Nat) (t e:TypeId) (i:TypeInfo) (z:Value) (aG:P.underlying t=some (.slice e)) (aq:P.info? e=some i) (bs:i.zero=some z)
    (xR:i.size=R.size) (mN:i.bytes=by_) (tl:z.cells.size=R.size) (jd:0<R.size) (xU:∀ (j:Nat) u,z.cells[j]? =some u→R.raw j u)
    (f:List Nat) (A:Option Addr) (c:Nat) (l:List α) (h:R.aD e by_ w base f A c l)
    (cZ:Option Addr) (m c2:Nat) (k:List α) (kV:List (List Nat×List Value)) (I:c9 (fun x a=>R.own w base x.1 x.2 a) kV k) (hm:k.length=m) (hr:Rd w R.size cZ m (kV.map (·.2)).flatten)
    (jD:(f++(kV.map (·.1)).flatten).Nodup) (rT:l.length+m≤9223372036854775807) (rY:(l.length+m) * by_≤140737488355328) (pZ:base≤w.heap.size)
    (bS:o.op= .call {callee:= .builtin .append,args:=#[s,x],argTypes:=#[t,t]}) (hs:a.eval s= .slice A l.length c) (hx:a.eval x= .slice cZ m c2)
    (hK:∀ bG b4 f' w',R.aD e by_ w' base f' bG b4 (l++k)∧w.grownBy w' (Value.slice A l.length c).ownBlock∧(bG=A∨∃ a,bG=some a∧a.block=w.heap.size)∧(∀ x∈f',x∈f∨x∈(kV.map (·.1)).flatten∨x=w.heap.size)∧(bG=none↔A=none∧m=0)∧base≤w'.heap.size→K (a.put o.dst (.slice bG (l.length+m) b4)) w'):o.wp P a w K Q:=by
  obtain ⟨bG,b4,f',w',kM,aa⟩:=aCz (P:=P) (w:=w) o.type base t e i z aG aq bs xR mN tl jd xU f A c l h cZ m c2 k kV I hm hr jD rT rY pZ;unfold Oper.wp execOp;simp only [bS,resolve,invoke,builtin,aRS,aRT,aRJ,aVA,aSs,aTr,hs,hx,kM];exact hK bG b4 f' w' aa
theorem aE8 {ops:Array Oper} {rest:List Oper} {o:Oper} {a:Act} {Q:Exit→Act→World→Prop} (WR:o.guard=none) (s x:Operand) (base:Nat) (t e:TypeId) (i:TypeInfo) (z:Value) (aG:P.underlying t=some (.slice e)) (aq:P.info? e=some i) (bs:i.zero=some z)
    (xR:i.size=R.size) (mN:i.bytes=by_) (tl:z.cells.size=R.size) (jd:0<R.size) (xU:∀ (j:Nat) u,z.cells[j]? =some u→R.raw j u)
    (f:List Nat) (A:Option Addr) (c:Nat) (l:List α) (h:R.aD e by_ w base f A c l)
    (cZ:Option Addr) (m c2:Nat) (k:List α) (kV:List (List Nat×List Value)) (I:c9 (fun x a=>R.own w base x.1 x.2 a) kV k) (hm:k.length=m) (hr:Rd w R.size cZ m (kV.map (·.2)).flatten)
    (jD:(f++(kV.map (·.1)).flatten).Nodup) (rT:l.length+m≤9223372036854775807) (rY:(l.length+m) * by_≤140737488355328) (pZ:base≤w.heap.size)
    (bS:o.op= .call {callee:= .builtin .append,args:=#[s,x],argTypes:=#[t,t]}) (hs:a.eval s= .slice A l.length c) (hx:a.eval x= .slice cZ m c2)
    (hK:∀ bG b4 f' w',R.aD e by_ w' base f' bG b4 (l++k)∧w.grownBy w' (Value.slice A l.length c).ownBlock∧(bG=A∨∃ a,bG=some a∧a.block=w.heap.size)∧(∀ x∈f',x∈f∨x∈(kV.map (·.1)).flatten∨x=w.heap.size)∧(bG=none↔A=none∧m=0)∧base≤w'.heap.size→wpList P ops Q rest (a.put o.dst (.slice bG (l.length+m) b4)) w'):wpList P ops Q (o::rest) a w :=
  wpList_plain WR fun _ auV=>aFb s x base t e i z aG aq bs xR mN tl jd xU f A c l h cZ m c2 k kV I hm hr jD rT rY pZ bS hs hx fun bG b4 f' w' aa=>auV _ _ (hK bG b4 f' w' aa)
def Plain (R:κ α):Prop:=∀ {w B cs a},R.has w cs a→R.own w B [] cs a
theorem oU {size:Nat} {cells:α→List Value} {ok:α→Prop} {raw:Nat→Value→Prop} {az τ hr}:(flat size cells ok raw az τ hr).Plain:=fun h=>⟨rfl,h⟩
theorem atY {size:Nat} {cells:α→List Value} {ok:α→Prop} {raw:Nat→Value→Prop} {az τ hr}:(Vs size cells ok raw az τ hr).Plain:=fun h=>⟨rfl,h⟩
theorem c9.plain {ess:List (List Value)} {l:List α} (hp:R.Plain) (h:c9 (fun es a=>R.has w es a) ess l):c9 (fun x a=>R.own w B x.1 x.2 a) (ess.map fun es=>(([]:List Nat),es)) l :=
  c9.Yc (P:=fun (x:List Nat×List Value) a=>R.own w B x.1 x.2 a) (fun es=>(([]:List Nat),es)) (h.imp fun _ _ _ h=>hp h)
theorem ajX (ess:List (List Value)):((ess.map fun es=>(([]:List Nat),es)).map (·.1)).flatten= []∧(ess.map fun es=>(([]:List Nat),es)).map (·.2)=ess:=by
  constructor
  · induction ess with
    | nil=>rfl
    | cons x r bD=>simp
  · rw [aUl]
    exact List.map_id' ess
theorem aD.By {E:TypeId} {A:Option Addr} {c:Nat} {l:List α} (hp:R.Plain) {ess:List (List Value)} (h:c9 (fun es a=>R.has w es a) ess l) (Φ:l.length * by_≤140737488355328) (bS:Own w B E R.size R.raw (.slice A l.length c) l.length ess.flatten):R.aD E by_ w B (ae A) A c l:=by
  obtain ⟨a_,bj⟩:=ajX ess;exact ⟨Φ,_,by rw [a_,aR7],by cases A<;>simp [ae],by rw [bj];exact bS,c9.plain hp h⟩
theorem aD.aue {E:TypeId} {A:Option Addr} {c:Nat} {l:List α} (hp:∀ {w B f cs a},R.own w B f cs a→f= []) (h:R.aD E by_ w B f A c l):f=ae A:=by
  obtain ⟨_,ps,rfl,_,_,bK⟩:=h;have:(ps.map (·.1)).flatten= []:=by
    rw [aV0];intro x hx;obtain ⟨y,aL,rfl⟩:=aSh.1 hx;obtain ⟨a,ha⟩:=bK.left y aL;exact hp ha
  rw [this,aR7]
end
end κ

theorem Ht {α:Type} {R:κ α} {w:World} {ess:List (List Value)} {l:List α} (h:c9 (fun es a=>R.has w es a) ess l) (aH:0<R.size) {j:Nat} {u:Value} (hu:ess.flatten[j]? =some u):R.raw (j % R.size) u:=by
  have az:=κ.lens h;have bw:=(aRC.1 hu).1;rw [AU az] at bw;have ay:j % R.size<R.size:=aTD _ aH;have hd:j / R.size<ess.length:=by rw [aUS aH];exact bw
  have QT:j / R.size * R.size+j % R.size=j:=by rw [aSM];exact aVF j R.size
  have b_:=Hs (j:=j % R.size) az (i:=j / R.size) (es:=ess[j / R.size]'hd) (aRD hd) ay;rw [QT,hu] at b_;obtain ⟨a,ha⟩:=h.left _ (aSO hd);exact R.wG ha _ u b_.symm
namespace κ
variable {α:Type} {w w':World} {B:Nat} {f:List Nat} {R:κ α} {E:TypeId} {A:Option Addr} {by_ g c:Nat} {l:List α}
def sM (R:κ α):Prop:=R.Plain∧∀ {w B f cs a},R.own w B f cs a→f= []
theorem di {size:Nat} {cells:α→List Value} {ok:α→Prop} {raw:Nat→Value→Prop} {az τ hr}:(flat size cells ok raw az τ hr).sM:=⟨oU,fun h=>h.1⟩
theorem atX {size:Nat} {cells:α→List Value} {ok:α→Prop} {raw:Nat→Value→Prop} {az τ hr}:(Vs size cells ok raw az τ hr).sM:=⟨atY,fun h=>h.1⟩
theorem aD.aCZ (h:R.aD E by_ w B f (some ⟨g,0,none⟩) c l) (hp:R.sM) {i j:Nat} {a a':α} {u:Value} (aq:l[i]? =some a) (ay:j<R.size) (hu:∀ cs,R.has w cs a→R.has (w.setCell ⟨g,i * R.size+j,none⟩ u) (cs.set j u) a'):
    R.aD E by_ (w.setCell ⟨g,i * R.size+j,none⟩ u) B f (some ⟨g,0,none⟩) c (l.set i a'):=by
  obtain ⟨Φ,ps,rfl,hn,bS,de⟩:=h;obtain ⟨x,hx,LR⟩:=de.at_ aq;have az:=Ry de;have tk:x.1= []:=hp.2 LR;have H6:x.2.length=R.size:=R.Yu LR;have agA:=hu x.2 (R.tB LR);have qW:R.raw j u:=R.wG agA j u (by rw [aRY (by omega)]);have zh:=bS.stored (i * R.size+j) u (by rw [aSM,aT1,aSW ay];exact qW);rw [aeL u az (i:=i) (es:=x.2) (by rw [aRU,hx];rfl) ay] at zh;have bw:=(aRC.1 hx).1;have a_:(ps.set i (x.1,x.2.set j u)).map (·.1)=ps.map (·.1):=by
    rw [aSV];have:(ps.map (·.1))[i]? =some x.1:=by rw [aRU,hx];rfl
    obtain ⟨aa,aw⟩:=aRC.1 this
    conv=>lhs;rw [← aw]
    exact aTn _
  have bj:(ps.set i (x.1,x.2.set j u)).map (·.2)=(ps.map (·.2)).set i (x.2.set j u):=by rw [aSV]
  have WD:∀ y∈ps,∀ q∈y.1,q≠g:=fun y aL q I e=>by
    obtain ⟨b,E2⟩:=de.left y aL;rw [hp.2 E2] at I;simp at I
  have Wp:c9 (fun x a=>R.own (w.setCell ⟨g,i * R.size+j,none⟩ u) B x.1 x.2 a) ps l:=de.imp fun y a aL H7=>R.ss H7 fun q I=>aVv _ _ _ _ (WD y aL q I);refine ⟨by rw [aRK];exact Φ,ps.set i (x.1,x.2.set j u),by rw [a_],hn,by rw [aRK,bj];exact zh, ?_⟩;exact Wp.Y4 (P:=fun (x:List Nat×List Value) a=>R.own (w.setCell ⟨g,i * R.size+j,none⟩ u) B x.1 x.2 a) (by rw [tk];exact hp.1 agA)
theorem aD.other (h:R.aD E by_ w B f A c l) {p:Addr} (hp:p.block∉f) (u:Value):R.aD E by_ (w.setCell p u) B f A c l :=
  h.keep fun g aK=>aVv _ _ _ _ fun e=>hp (e ▸ aK)
theorem aD.drewN (h:R.aD E by_ w B f A c l) (k:Nat):R.aD E by_ (w.drewN k) B f A c l:=h.keep fun _ _=>rfl
theorem aD.drew (h:R.aD E by_ w B f A c l):R.aD E by_ w.drew B f A c l:=h.keep fun _ _=>rfl
end κ
def cO (n lo aq:Int):Bool:=decide (lo≤n) && decide (n≤aq)
theorem kO {n lo aq:Int} (h:cO n lo aq=true):lo≤n∧n≤aq:=by simpa [cO] using h
theorem aye {n lo aq:Int} (h:cO n lo aq=false):n<lo∨aq<n:=by
  simp [cO] at h;omega
theorem o3 {n lo aq:Int} (τ:lo≤n) (aa:n≤aq):cO n lo aq=true:=by simp [cO,τ,aa]
theorem p4 {n lo aq:Int} (h:n<lo∨aq<n):cO n lo aq=false:=by
  cases Φ:cO n lo aq with
  | false=>rfl
  | true=>have:=kO Φ;omega
def fT {α:Type} (p:α→Bool) (l:List α):Int:=match l.findIdx? p with | some k=>(k:Int) | none=> -1
theorem Fo {α:Type} {p:α→Bool} {l:List α} {k:Nat} (ar:k<l.length) (τ:p l[k]=true) (aa:∀ j (ay:j<k),p (l[j]'(by omega))=false):fT p l=(k:Int):=by
  unfold fT;have:l.findIdx? p=some k:=by
    rw [aT8];exact ⟨ar,τ,fun j ay=>by rw [aa j ay];simp⟩
  rw [this]
theorem Fm {α:Type} {p:α→Bool} {l:List α} (aa:∀ j (ay:j<l.length),p l[j]=false):fT p l= -1:=by
  unfold fT;have:l.findIdx? p=none:=by
    rw [aUs];intro x hx;obtain ⟨j,ay,rfl⟩:=aSw.1 hx;exact aa j ay
  rw [this]
theorem LV {α:Type} (p:α→Bool) (l:List α):decide (0≤fT p l)=l.any p:=by
  by_cases h:∀ j (ay:j<l.length),p l[j]=false
  · rw [Fm h]
    have:l.any p=false:=by
      rw [aUw];intro x hx;obtain ⟨j,ay,rfl⟩:=aSw.1 hx;rw [h j ay];simp
    rw [this];rfl
  · have:l.any p=true:=by
      rw [aSX];simp only [Classical.not_forall] at h;obtain ⟨j,ay,h⟩:=h;exact ⟨l[j],aSO ay,by simpa using h⟩
    rw [this];unfold fT;cases hf:l.findIdx? p with
    | none =>
      rw [aUs] at hf;rw [aSX] at this;obtain ⟨x,hx,hp⟩:=this;rw [hf x hx] at hp;cases hp
    | some k=>simp
theorem LW {α:Type} (p:α→Bool) (l:List α):fT p l= -1∧(∀ x∈l,p x=false)∨∃ (k:Nat) (h:k<l.length),fT p l=(k:Int)∧p l[k]=true∧∀ j (ay:j<k),p (l[j]'(by omega))=false:=by
  unfold fT;cases hf:l.findIdx? p with
  | none=>exact .inl ⟨rfl,fun x hx=>aUs.1 hf x hx⟩
  | some k =>
    obtain ⟨τ,aa,aw⟩:=aT8.1 hf;exact .inr ⟨k,τ,Z,aa,fun j ay=>by have:=aw j ay;simpa using this⟩
open Go.RowKit Go.Maps

def iP (w:World) (b:Nat) (es:Array MapEntry) (clock:Nat):World:=Go.ChangeMaps.setBlock w b (.map es clock)
theorem Dr {w:World} {b:Nat} {es:Array MapEntry} {clock:Nat} (h:b<w.heap.size):(iP w b es clock).heap[b]? =some (.map es clock):=by
  simp [iP,Go.ChangeMaps.setBlock,h]
theorem M0 {w:World} {b g:Nat} {es:Array MapEntry} {clock:Nat} (h:g≠b):(iP w b es clock).heap[g]? =w.heap[g]? :=by
  simp [iP,Go.ChangeMaps.setBlock,aTu (aUi h)]
theorem akP {w:World} {b:Nat} {es:Array MapEntry} {clock:Nat}:(iP w b es clock).heap.size=w.heap.size:=by
  simp [iP,Go.ChangeMaps.setBlock]
theorem aCW {B:Nat} {a w:World} {b:Nat} {es:Array MapEntry} {clock:Nat} (h:Below B a w) (Φ:B≤b):Below B a (iP w b es clock):=
  h.trans ⟨rfl,rfl,rfl,by simp [akP],fun k ar=>M0 (by omega)⟩
def dE {gv:Type} (key:gv→Value) (e:gv×Int×Nat):MapEntry:=⟨key e.1, .int .i64 e.2.1,e.2.2⟩
structure dB {gv:Type} (key:gv→Value) (w:World) (b:Nat) (l:List (gv×Int×Nat)) (clock:Nat):Prop where
  ft:w.heap[b]? =some (.map (l.map (dE key)).toArray clock)
  born:∀ e∈l,e.2.2<clock
  stamps:(l.map (·.2.2)).Nodup
structure TE {gv:Type} (P:Program) (k:TypeId) (key:gv→Value) (wf:gv→Prop):Prop where
  keyed:Keyed P k
  lit:∀ x,wf x→∃ l,keyOf P k (key x)=some l
  inj:∀ x y,key x=key y→x=y
namespace dB
section
variable {gv:Type} {key:gv→Value} {w:World} {b:Nat} {l:List (gv×Int×Nat)} {clock:Nat}
theorem lt (h:dB key w b l clock):b<w.heap.size:=(aSa.1 h.ft).1
theorem keep {w':World} (h:dB key w b l clock) (ar:w'.heap[b]? =w.heap[b]?):dB key w' b l clock:=⟨ar.trans h.ft,h.born,h.stamps⟩
theorem later {w':World} (h:dB key w b l clock) (Φ:Below w.heap.size w w'):dB key w' b l clock:=h.keep (Φ.block b h.lt)
theorem made (w:World):dB key (w.alloc (.map #[] 0)) w.heap.size [] 0:=⟨aUt w _,(by simp),(by simp)⟩
theorem ayE {P:Program} {k:TypeId} {wf:gv→Prop} (K:TE P k key wf) (hw:∀ e∈l,wf e.1):∀ y∈l.map (dE key),∃ z,keyOf P k y.key=some z:=by
  intro y aL;obtain ⟨a,ha,rfl⟩:=aSh.1 aL;exact K.lit a.1 (hw a ha)
end
variable {gv:Type} [DecidableEq gv] {key:gv→Value} {w:World} {b:Nat} {l:List (gv×Int×Nat)} {clock:Nat}
def get (l:List (gv×Int×Nat)) (x:gv):Option Int:=(l.find? fun e=>decide (e.1=x)).map (·.2.1)
def put (l:List (gv×Int×Nat)) (clock:Nat) (x:gv) (v:Int):List (gv×Int×Nat):=
  if l.any (fun e=>decide (e.1=x)) then l.map (fun e=>if e.1=x then (e.1,v,e.2.2) else e) else l++ [(x,v,clock)]
def tick (l:List (gv×Int×Nat)) (clock:Nat) (x:gv):Nat:=if l.any (fun e=>decide (e.1=x)) then clock else clock+1
theorem A0 (l:List (gv×Int×Nat)) (c:Nat) (x y:gv) (v:Int):get (put l c x v) y=if y=x then some v else get l y:=by
  unfold get put;by_cases h:l.any (fun e=>decide (e.1=x))=true
  · rw [aRP h]
    induction l with
    | nil=>simp at h
    | cons e r bD =>
      rw [aSs];by_cases hex:e.1=x
      · rw [aRP hex]
        by_cases aL:y=x
        · subst aL
          rw [aUJ (by simp [hex])];simp
        · rw [aRL aL,aTG (by simp [hex,aUi aL]),aTG (by simp [hex,aUi aL])]
          by_cases hr:r.any (fun e=>decide (e.1=x))=true
          · have:=bD hr
            rw [aRL aL] at this;exact this
          · have e0:r.map (fun e=>if e.1=x then (e.1,v,e.2.2) else e)=r:=by
              conv=>rhs;rw [← List.map_id r]
              refine aWp fun a ha=> ?_;rw [aRL];rfl;intro he;exact hr (aSX.2 ⟨a,ha,by simp [he]⟩)
            rw [e0]
      · rw [aRL hex]
        have hr:r.any (fun e=>decide (e.1=x))=true:=by simpa [hex] using h
        by_cases Ll:e.1=y
        · have axU:¬ y=x:=fun h=>hex (Ll.trans h)
          rw [aUJ (by simp [Ll]),aUJ (by simp [Ll]),aRL axU]
        · rw [aTG (by simp [Ll]),aTG (by simp [Ll])]
          exact bD hr
  · rw [aRL h,List.find?_append]
    by_cases aL:y=x
    · subst aL
      have:l.find? (fun e=>decide (e.1=y))=none:=by
        rw [aS1];intro e he hd;exact h (aSX.2 ⟨e,he,hd⟩)
      rw [this];simp
    · rw [aRL aL]
      cases l.find? (fun e=>decide (e.1=y))<;>simp [aUi aL]
theorem Ye {l:List (gv×Int×Nat)} {c:Nat} {x:gv} {v:Int} {wf:gv→Prop} (az:∀ e∈l,wf e.1) (hx:wf x):∀ e∈put l c x v,wf e.1:=by
  intro e he;unfold put at he;split at he
  · obtain ⟨a,ha,rfl⟩:=aSh.1 he
    split
    · exact az a ha
    · exact az a ha
  · rcases aRR.1 he with he | he
    · exact az e he
    · simp at he;subst he;exact hx
theorem iN {l:List (gv×Int×Nat)} (hn:(l.map (·.1)).Nodup) {j n:Nat} {x:gv} {v:Int} (ay:l[j]? =some (x,v,n)):get l x=some v:=by
  unfold get;induction l generalizing j with
  | nil=>simp at ay
  | cons e r bD =>
    rw [aSs,aUL] at hn;cases j with
    | zero=>simp at ay;subst ay;simp
    | succ j =>
      have ay:r[j]? =some (x,v,n):=by simpa using ay
      have:e.1≠x:=fun he=>hn.1 (aSh.2 ⟨(x,v,n),aSc ay,he.symm⟩);rw [aTG (by simpa using this)];exact bD hn.2 ay
theorem H8 {l:List (gv×Int×Nat)} (hn:(l.map (·.1)).Nodup) (c:Nat) (x:gv) (v:Int):((put l c x v).map (·.1)).Nodup:=by
  unfold put;split
  · rw [aUl]
    have:((fun e:gv×Int×Nat=>e.1) ∘ fun e=>if e.1=x then (e.1,v,e.2.2) else e)=fun e=>e.1:=by
      funext e;simp only [Function.comp];split<;>rfl
    rw [this];exact hn
  · rename_i h
    rw [aR3,aSt];refine ⟨hn,by simp,fun a ha c hc e=> ?_⟩;simp at hc;obtain ⟨y,aL,rfl⟩:=aSh.1 ha;exact h (aSX.2 ⟨y,aL,by simp [e,hc]⟩)
variable {P:Program} {k e t:TypeId} {wf:gv→Prop} (K:TE P k key wf)
include K
theorem found (h:dB key w b l clock) (hw:∀ e∈l,wf e.1) (x:gv) (hx:wf x):
    ((Instr.findKey k (key x) (l.map (dE key))).run P w= .ok none w∧get l x=none∧∀ a∈l,a.1≠x)∨
    ∃ (j:Nat) (v:Int) (n:Nat),(Instr.findKey k (key x) (l.map (dE key))).run P w= .ok (some (j, .int .i64 v)) w∧l[j]? =some (x,v,n):=by
  obtain ⟨hy,sa⟩:=K.lit x hx;rcases K.keyed.find w sa (l.map (dE key)) (ayE K hw) with ⟨τ,aa⟩ | ⟨j,e0,τ,aa,aw⟩
  · have jc:∀ a∈l,a.1≠x:=fun a ha A5=>aa (dE key a) (aSh.2 ⟨a,ha,rfl⟩) (by simp [dE,A5])
    refine .inl ⟨τ, ?_,jc⟩;unfold get;rw [aS1.2 fun a ha=>by simpa using jc a ha];rfl
  · rw [aRU] at aa
    cases ay:l[j]? with
    | none=>rw [ay] at aa;cases aa
    | some a =>
      rw [ay] at aa;obtain rfl:=aRA aa;obtain rfl:a.1=x:=K.inj _ _ aw;exact .inr ⟨j,a.2.1,a.2.2,τ,ay⟩
theorem lookup (aG:P.underlying t=some (.map k e)) (bs:(zeroValue e).run P w= .ok (.int .i64 0) w) (h:dB key w b l clock) (hw:∀ e∈l,wf e.1) (hn:(l.map (·.1)).Nodup) (x:gv) (hx:wf x):
    (Instr.lookup t (.map (some b)) (key x) false).run P w= .ok (.int .i64 ((get l x).getD 0)) w∧
    (Instr.lookup t (.map (some b)) (key x) true).run P w= .ok (.tuple #[.int .i64 ((get l x).getD 0), .bool (get l x).isSome]) w:=by
  obtain ⟨hy,sa⟩:=K.lit x hx;rcases found K h hw x hx with ⟨τ,aa,_⟩ | ⟨j,v,n,τ,aa⟩
  · rw [aa]
    constructor<;>simp [Instr.lookup,aSL aG,aSB h.ft,K.keyed.check w _ sa,τ,bs,Result.andThen]
  · rw [iN hn aa]
    constructor<;>simp [Instr.lookup,aSL aG,aSB h.ft,K.keyed.check w _ sa,τ,Result.andThen]
theorem entry (aG:P.underlying t=some (.map k e)) (bs:∀ u:World,(zeroValue e).run P u= .ok (.int .i64 0) u) (h:dB key w b l clock) (hw:∀ e∈l,wf e.1) (hn:(l.map (·.1)).Nodup) (x:gv) (hx:wf x):
    ∃ (st:Nat) (ey:List (gv×Int×Nat)) (c1:Nat),(∀ n,(Instr.mapEntry t (.map (some b)) (key x)).run P (w.drewN n)= .ok (.tuple #[.int .i64 ((get l x).getD 0), .int .i64 (st:Int)]) ((iP w b (ey.map (dE key)).toArray c1).drewN n))∧
      dB key (iP w b (ey.map (dE key)).toArray c1) b ey c1∧(∀ e∈ey,wf e.1)∧(ey.map (·.1)).Nodup∧get ey x=some ((get l x).getD 0)∧
      ∀ v n,(Instr.entryStore t (.map (some b)) (.int .i64 (st:Int)) (.int .i64 v)).run P ((iP w b (ey.map (dE key)).toArray c1).drewN n)= .ok () ((iP w b ((put l clock x v).map (dE key)).toArray (tick l clock x)).drewN n)∧
        dB key (iP w b ((put l clock x v).map (dE key)).toArray (tick l clock x)) b (put l clock x v) (tick l clock x):=by
  obtain ⟨hy,sa⟩:=K.lit x hx;have Φ:=h.ft;have bw:=h.lt;have E5:∀ n,(w.drewN n).heap[b]? =some (.map (l.map (dE key)).toArray clock):=fun n=>Φ;have idxOf:∀ (m:List (gv×Int×Nat)) (j:Nat) (a:gv×Int×Nat),(m.map (·.2.2)).Nodup→m[j]? =some a→((m.map (dE key)).toArray).findIdx? (fun y=>((y.born:Nat):Int)== ((a.2.2:Nat):Int))=some j:=by
    intro m j a hm ay;rw [aVZ];refine aVT (l:=m.map (dE key)) (j:=j) (e0:=dE key a) ?_ (by rw [aRU,ay];rfl);rw [aUl];exact hm
  rcases found K h hw x hx with ⟨τ,aa,aw⟩ | ⟨j,v0,n0,τ,aa⟩
  · have pX:l.any (fun e=>decide (e.1=x))=false:=by
      rw [aWJ];intro ha;obtain ⟨a,ha,hd⟩:=aSX.1 ha;exact aw a ha (by simpa using hd)
    have C6:∀ v,put l clock x v=l++ [(x,v,clock)]:=fun v=>by unfold put;rw [aRL (by rw [pX];decide)]
    have Xp:tick l clock x=clock+1:=by unfold tick;rw [aRL (by rw [pX];decide)]
    have hP:∀ v,dB key (iP w b ((l++ [(x,v,clock)]).map (dE key)).toArray (clock+1)) b (l++ [(x,v,clock)]) (clock+1):=fun v=>by
      refine ⟨Dr bw,fun a ha=> ?_, ?_⟩
      · rcases aRR.1 ha with ha | ha
        · have:=h.born a ha;omega
        · simp at ha;subst ha;simp
      · rw [aR3,aSt]
        refine ⟨h.stamps,by simp,fun a ha c hc e=> ?_⟩;simp at hc;obtain ⟨y,aL,rfl⟩:=aSh.1 ha;have:=h.born y aL;omega
    have VR:∀ n,(Instr.findKey k (key x) (l.map (dE key))).run P (w.drewN n)= .ok none (w.drewN n):=fun n=>by
      rcases found (w:=w.drewN n) K ⟨E5 n,h.born,h.stamps⟩ hw x hx with ⟨τ,_,_⟩ | ⟨j,v,m,_,ay⟩
      · exact τ
      · exact absurd rfl (aw _ (aSc ay))
    refine ⟨clock,l++ [(x,0,clock)],clock+1,fun n=> ?_,hP 0,fun a ha=> ?_, ?_, ?_,fun v n=> ?_⟩
    · rw [aa]
      have:(l.map (dE key)).toArray.push (⟨key x, .int .i64 0,clock⟩:MapEntry)=((l++ [(x,0,clock)]).map (dE key)).toArray:=by simp [dE]
      simp [Instr.mapEntry,aSL aG,aSB (E5 n),K.keyed.check (w.drewN n) false sa,VR n,bs,aSY _ (E5 n),Result.andThen,iP,Go.ChangeMaps.setBlock,goInt,dE];rfl
    · rcases aRR.1 ha with ha | ha
      · exact hw a ha
      · simp at ha;subst ha;exact hx
    · have:=H8 hn clock x 0
      rw [C6] at this;exact this
    · have:=A0 l clock x x 0
      rw [C6,aRP rfl] at this;rw [this,aa];rfl
    · rw [C6,Xp]
      refine ⟨?_,hP v⟩;have ew:=idxOf (l++ [(x,0,clock)]) l.length (x,0,clock) (hP 0).stamps (by simp);have Fe:((l++ [(x,0,clock)]).map (dE key)).toArray.modify l.length (fun e=> {e with val:=Value.int .i64 v})=((l++ [(x,v,clock)]).map (dE key)).toArray:=by
        apply aS8;rw [aTZ];have hlen:l.length=(l.map (dE key)).length:=by simp
        rw [hlen];simp only [aR3,aSs,aTr];rw [Go.WideElems.modify_last];rfl
      have cT:((iP w b ((l++ [(x,0,clock)]).map (dE key)).toArray (clock+1)).drewN n).heap[b]? =some (.map ((l++ [(x,0,clock)]).map (dE key)).toArray (clock+1)):=Dr bw;have kM:(Instr.entryStore t (.map (some b)) (goInt clock) (.int .i64 v)).run P ((iP w b ((l++ [(x,0,clock)]).map (dE key)).toArray (clock+1)).drewN n)= .ok () (iP ((iP w b ((l++ [(x,0,clock)]).map (dE key)).toArray (clock+1)).drewN n) b ((l++ [(x,v,clock)]).map (dE key)).toArray (clock+1)):=by
        rw [← Fe];simp only [Instr.entryStore,aRS,aSB cT,aRJ,asInt,asIntOf,goInt,aRT];rw [ew];exact aSY _ cT
      refine kM.trans ?_;simp [iP,Go.ChangeMaps.setBlock,World.drewN]
  · have pX:l.any (fun e=>decide (e.1=x))=true:=aSX.2 ⟨_,aSc aa,by simp⟩
    have C6:∀ v,put l clock x v=l.map (fun e=>if e.1=x then (e.1,v,e.2.2) else e):=fun v=>by unfold put;rw [aRP pX]
    have Xp:tick l clock x=clock:=by unfold tick;rw [aRP pX]
    have agc:=iN hn aa;have wh:∀ v,l.map (fun e=>if e.1=x then (e.1,v,e.2.2) else e)=l.set j (x,v,n0):=by
      intro v;refine aTf fun i=> ?_;rw [aRU];by_cases jC:j=i
      · subst jC
        rw [aa,aRY (aRC.1 aa).1];simp
      · rw [aR4 jC]
        cases aq:l[i]? with
        | none=>rfl
        | some a =>
          have:a.1≠x:=by
            intro A5;have E':=(aRC.1 aq);have Lo:=(aRC.1 aa);have a_:(l.map (·.1))[i]? =(l.map (·.1))[j]? :=by rw [aRU,aRU,aq,aa];simp [A5]
            obtain ⟨qV,_⟩:=E';obtain ⟨oZ,_⟩:=Lo;have:=(aVo (by simpa using qV) hn).1 a_;exact jC this.symm
          simp [this]
    have VR:∀ n,(Instr.findKey k (key x) (l.map (dE key))).run P (w.drewN n)= .ok (some (j, .int .i64 v0)) (w.drewN n):=fun n=>by
      rcases found (w:=w.drewN n) K ⟨E5 n,h.born,h.stamps⟩ hw x hx with ⟨_,_,aw⟩ | ⟨ays,v,m,EU,ay⟩
      · exact absurd rfl (aw (x,v0,n0) (aSc aa))
      · have a_:(l.map (·.1))[ays]? =(l.map (·.1))[j]? :=by rw [aRU,aRU,ay,aa];rfl
        have:=(aVo (by simpa using (aRC.1 ay).1) hn).1 a_;subst this;rw [aa] at ay;injection ay with ay
        injection ay with _ ay
        injection ay with awm _
        rw [EU,awm]
    have hP:∀ v,dB key (iP w b ((l.set j (x,v,n0)).map (dE key)).toArray clock) b (l.set j (x,v,n0)) clock:=fun v=>by
      refine ⟨Dr bw,fun a ha=> ?_, ?_⟩
      · rcases aTo ha with ha | ha
        · exact h.born a ha
        · rw [ha];exact h.born (x,v0,n0) (aSc aa)
      · rw [aSV]
        have:(l.map (·.2.2)).set j n0=l.map (·.2.2):=by
          have awG:=(aRC.1 aa);obtain ⟨qV,oZ⟩:=awG;have e:(l.map (·.2.2))[j]'(by simpa using qV)=n0:=by rw [aUB,oZ]
          conv=>lhs;rw [← e]
          exact aTn _
        rw [this];exact h.stamps
    refine ⟨n0,l,clock,fun n=> ?_,⟨Dr bw,h.born,h.stamps⟩,hw,hn,by rw [agc];rfl,fun v n=> ?_⟩
    · rw [agc]
      have ay:(l.map (dE key)).toArray[j]? =some (dE key (x,v0,n0)):=by simp [aa]
      have Xi:(l.map (dE key)).toArray.modify j (fun e=> {e with key:=key x})=(l.map (dE key)).toArray:=by
        apply aS8;rw [aTZ,aTO _ _ _ _ (by rw [aRU,aa];rfl)];exact aWc _ _ _ (by rw [aRU,aa];rfl)
      have WW:(dE key (x,v0,n0)).key=key x:=rfl;have Wv:(dE key (x,v0,n0)).born=n0:=rfl;simp only [Instr.mapEntry,aRS,aSL aG,aRJ,aSB (E5 n),K.keyed.check (w.drewN n) false sa,VR n,ay,aS5,aSK,WW,K.keyed.stays (w.drewN n) sa,Xi,aSY _ (E5 n),Wv,aRT];rfl
    · rw [C6,Xp,wh]
      refine ⟨?_,hP v⟩;have ew:=idxOf l j (x,v0,n0) h.stamps aa;have Fe:(l.map (dE key)).toArray.modify j (fun e=> {e with val:=Value.int .i64 v})=((l.set j (x,v,n0)).map (dE key)).toArray:=by
        apply aS8;rw [aTZ,aTO _ _ _ _ (by rw [aRU,aa];rfl),aSV];rfl
      have cT:((iP w b (l.map (dE key)).toArray clock).drewN n).heap[b]? =some (.map (l.map (dE key)).toArray clock):=Dr bw;have kM:(Instr.entryStore t (.map (some b)) (goInt n0) (.int .i64 v)).run P ((iP w b (l.map (dE key)).toArray clock).drewN n)= .ok () (iP ((iP w b (l.map (dE key)).toArray clock).drewN n) b ((l.set j (x,v,n0)).map (dE key)).toArray clock):=by
        rw [← Fe];simp only [Instr.entryStore,aRS,aSB cT,aRJ,asInt,asIntOf,goInt,aRT];rw [ew];exact aSY _ cT
      refine kM.trans ?_;simp [iP,Go.ChangeMaps.setBlock,World.drewN]
end dB

theorem akB {P:Program} {w:World} {o:Oper} {a:Act} (f:FuncId) (fn:Func) (hf:P.funcs[f]? =some fn) (hn:(fn.name == "runtime.NumGoroutine")=false) (Φ:fn.body.isNone=false)
    (xs:Array Operand) (ts:Array TypeId) (wg:o.op=Op.call {callee:=Callee.value (Operand.func f),args:=xs,argTypes:=ts}) (args:Array Value) (Ql:xs.map a.eval=args):
    (execOp a.eval o).run P w= .ok (.enter f args) w:=by
  unfold execOp;have he:a.eval (.func f)= .func (.func f) #[] #[]:=rfl;have hp:Sem.run P program w= .ok P w:=rfl;simp only [wg,resolve,invoke,Deferred.ofValue,he,callFunc,aRS,aRT,aRJ,Ql,hp,hf,hn,Φ,aUp,Array.append_empty,aSq,aS0]
theorem R5 {P:Program} {ops:Array Oper} {o:Oper} {a:Act} {w:World} {K:Act→World→Prop} {Q:Exit→Act→World→Prop} {E:Prop}
    (aK:o.guard=none) (f:FuncId) (fn:Func) (hf:P.funcs[f]? =some fn) (hn:(fn.name == "runtime.NumGoroutine")=false) (Φ:fn.body.isNone=false)
    (xs:Array Operand) (ts:Array TypeId) (wg:o.op=Op.call {callee:=Callee.value (Operand.func f),args:=xs,argTypes:=ts}) (args:Array Value) (Ql:xs.map a.eval=args)
    (hc:Calls P f args w fun e w'=>∃ v,e= .returned v∧K (a.put o.dst v) w'):
    if Region.wanted o (yielded ops a.tmps)=true then Oper.wp P o a w K Q else E:=by
  have hw:Region.wanted o (yielded ops a.tmps)=true:=by simp [Region.wanted,aK]
  rw [aRP hw];unfold Oper.wp;rw [akB f fn hf hn Φ xs ts wg args Ql,Oper.upon_enter];refine hc.mono fun e ku fC=> ?_;obtain ⟨v,rfl,h⟩:=fC;exact h
theorem n6 {wr aP w':World} (h:Below wr.heap.size wr aP) (aa:Below aP.heap.size aP w'):Below wr.heap.size wr w':=h.trans (aa.mono h.size)
theorem acm {wr aP w':World} (h:Below wr.heap.size wr aP) (aa:Below aP.drew.heap.size aP.drew w'):Below wr.heap.size wr w':=h.drew.trans (aa.mono h.size)
theorem SN {P:Program} {id:Nat} {Q:Exit→Act→World→Prop} {a:Act} {w:World} {l:List Oper} (hm:P.follows .mixedOrders=true) (aX:Region.lexB .any l.toArray=true)
    (h:wpQuiet P l.toArray (fun w'=>Below w.heap.size w w') (fun a'=>∀ w',Below w.heap.size w w'→Q .normal a' w') l a):(Code.region id l.toArray true).wp P Q a w :=
  wp_region_quiet (C:=fun w'=>Below w.heap.size w w') hm aX (below_drewN (aR8 _ w) 1) (by simpa using h)
theorem aCg {P:Program} {o:Oper} {a:Act} {C:World→Prop} {w:World} {v:Value} (h:(execOp a.eval o).run P w= .ok (.value v) w):o.quietAt P a C w v:=by
  unfold Oper.quietAt;rw [h];exact ⟨Z,Z⟩
theorem aCf {P:Program} {o:Oper} {a:Act} {C:World→Prop} {w:World} {v:Value} {f:FuncId} {args:Array Value} (h:(execOp a.eval o).run P w= .ok (.enter f args) w) (hc:Calls P f args w fun e ku=>e= .returned v∧C ku):o.quietAt P a C w v:=by
  unfold Oper.quietAt;rw [h];exact ⟨Z,hc⟩
theorem RM {P:Program} {o:Oper} {a:Act} {C:World→Prop} {w:World} {v:Value} {r:Result Next} (h:(execOp a.eval o).run P w=r) (hr:r= .ok (.value v) w):o.quietAt P a C w v:=aCg (h.trans hr)
theorem RL {P:Program} {o:Oper} {a:Act} {C:World→Prop} {w:World} {v:Value} {f:FuncId} {args:Array Value} {r:Result Next} (h:(execOp a.eval o).run P w=r) (hr:r= .ok (.enter f args) w) (hc:Calls P f args w fun e ku=>e= .returned v∧C ku):o.quietAt P a C w v:=aCf (h.trans hr) hc
abbrev Ext (w w':World):Prop:=Below w.heap.size w w'
theorem Ext.bF (w:World):Ext w w:=aR8 _ w
theorem Ext.tH {a b c:World} (h:Ext a b) (k:Ext b c):Ext a c:=aWu h (aUX k h.size)
section
variable {P:Program} {ops:Array Oper} {Q:Exit→Act→World→Prop} {aS:Nat→Nat}
def wF (P:Program) (w:World) (v:Value):Result Next→Prop
  | .ok (.value u) w'=>w'=w∧u=v
  | .ok .skip w'=>w'=w∧v=undef
  | .ok (.enter f args) w'=>w'=w∧Calls P f args w (fun e ku=>e= .returned v∧Ext w ku)
  | _=>False
def uo (P:Program) (ops:Array Oper) (w0:World) (o:Oper) (v:Value) (a:Act):Prop :=
  (Region.wanted o (yielded ops a.tmps)=true∧∀ w,Ext w0 w→wF P w v ((execOp a.eval o).run P w))∨
  (Region.wanted o (yielded ops a.tmps)=false∧v=undef)
theorem uo.of_same {w0:World} {o:Oper} {v:Value} {a a':Act} (h:uo P ops w0 o v a) (he:execOp a'.eval o=execOp a.eval o) (hw:Region.wanted o (yielded ops a'.tmps)=Region.wanted o (yielded ops a.tmps)):uo P ops w0 o v a':=by
  unfold uo at *;rw [he,hw];exact h
theorem uo.on {w0 aP:World} {o:Oper} {v:Value} {a:Act} (h:uo P ops w0 o v a) (hx:Ext w0 aP):uo P ops aP o v a :=
  h.imp (fun ⟨τ,aa⟩=>⟨τ,fun w hw=>aa w (hx.tH hw)⟩) id
theorem Yields.akk {w0:World} {o:Oper} {v:Value} {a:Act} (h:Yields P ops o v a):uo P ops w0 o v a :=
  h.imp (fun ⟨τ,aa⟩=>⟨τ,fun w _=>by rw [aa w];exact ⟨rfl,rfl⟩⟩) id
def aDo (P:Program) (ops:Array Oper) (Q:Exit→Act→World→Prop) (aS:Nat→Nat) (i:Nat) (K:Act→World→Prop) (a:Act) (w0:World):Prop :=
  ∃ o,ops[i]? =some o∧
    ((aS i≤1∧∃ v,uo P ops w0 o v a∧K (a.put o.dst v) w0)∨
     (1<aS i∧∀ w,Ext w0 w→wpOp P ops Q i (fun a' w'=>(aS i=2→Ext w0 w')∧K a' w') a w))
def Cr (P:Program) (ops:Array Oper) (Q:Exit→Act→World→Prop) (aS:Nat→Nat):Nat→Array Bool→Act→World→Prop
  | 0,l,a,w0=>Region.ready .any ops l= []∧∀ w,Ext w0 w→Q .normal a w
  | f+1,l,a,w0=>(Region.ready .any ops l= []→∀ w,Ext w0 w→Q .normal a w)∧∀ i∈Region.ready .any ops l,aDo P ops Q aS i (Cr P ops Q aS f (l.setIfInBounds i true)) a w0
theorem Cs:∀ (f:Nat) (l:Array Bool) (a:Act) (w0:World),Cr P ops Q aS f l a w0→∀ w,Ext w0 w→wpAny P .any ops Q f l a w
  | 0,_,_,_,h,w,hw=>⟨h.1,h.2 w hw⟩
  | f+1,l,a,w0,h,w,hw=>⟨fun aH=>h.1 aH w hw,fun i aq=>by
      obtain ⟨o,bS,aa⟩:=h.2 i aq;rcases aa with ⟨_,v,I,ar⟩ | ⟨_,aa⟩
      · unfold wpOp
        simp only [bS];rcases I with ⟨lB,I⟩ | ⟨lB,rfl⟩
        · rw [aRP lB]
          refine .inl ?_;have I:=I w hw;unfold Oper.wp;generalize (execOp a.eval o).run P w=r at *
          cases r with
          | ok n w' =>
            cases n<;>simp only [wF] at I<;>simp only [Oper.upon]
            case value u=>obtain ⟨rfl,rfl⟩:=I;exact Cs f _ _ _ ar _ hw
            case skip=>obtain ⟨rfl,rfl⟩:=I;exact Cs f _ _ _ ar _ hw
            case enter f' args=>obtain ⟨rfl,hc⟩:=I;exact hc.mono fun e ku ⟨he,hx⟩=>by subst he;exact Cs f _ _ _ ar _ (hw.tH hx)
          | halt x w'=>simp only [wF] at I
        · rw [aRL (by rw [lB];decide)]
          exact Cs f _ _ _ ar _ hw
      · exact aTt (fun a' w' aw=>Cs f _ _ _ aw.2 _ (Ext.bF w')) (aa w hw)⟩
theorem SK {aC:Act→Prop} {j:Nat} {dst:Option Tmp} {cR:Oper} {v:Value} (ay:ops[j]? =some cR) (τ:∀ d,dst=some d→d∉cR.looksAt ops) (aa:∀ d,dst=some d→cR.dst≠some d)
    (th:∀ cs b,cR.op≠ .select cs b) (gy:∀ c a w,¬ Q (.panic c) a w) (keep:∀ a u,aC a→aC (a.put cR.dst u)) (ayy:∀ a d,aC a→aC {a with defers:=d::a.defers})
    {K:Act→World→Prop} {a:Act} {w:World} (aL:aC a) (h:wpOp P ops Q j K (a.put dst v) w):wpOp P ops Q j (fun a' w'=>aC a'∧K (a'.put dst v) w') a w:=by
  unfold wpOp at *
  simp only [ay] at *
  rw [aT9 cR a dst v τ] at h;by_cases hw:Region.wanted cR (yielded ops a.tmps)=true
  · rw [aRP hw] at h ⊢
    rcases h with h | ⟨afD,awD⟩
    case inr=>exact .inr ⟨by unfold Oper.asks at *;rw [aTU cR th a dst v τ] at afD;exact afD,awD⟩
    refine .inl ?_;unfold Oper.wp at *
    rw [aTU cR th a dst v τ] at h;generalize (execOp a.eval cR).run P w=r at *
    cases r with
    | ok n w' =>
      cases n<;>simp only [Oper.upon] at h ⊢
      case value u=>exact ⟨keep a u aL,by rw [← aTv a v u aa];exact h⟩
      case skip=>exact ⟨keep a _ aL,by rw [← aTv a v undef aa];exact h⟩
      case defer d =>
        refine ⟨keep _ _ (ayy a d aL), ?_⟩;rw [← aTv _ v undef aa,← Act.put_defers];exact h
      case enter f args =>
        refine aVw h fun e ku he=> ?_;cases e with
        | returned u=>exact ⟨keep a u aL,by rw [← aTv a v u aa];exact he⟩
        | panicked c=>exact (gy _ _ _ he).elim
        | outgrown=>exact he
      case row row args=>exact Rows.mono h fun u ku he=>⟨keep a u aL,by rw [← aTv a v u aa];exact he⟩
    | halt x w' =>
      cases x<;>simp only [Oper.upon] at h ⊢
      case panic u=>exact (gy _ _ _ h).elim
  · rw [aRL hw] at h ⊢
    exact ⟨keep a _ aL,by rw [← aTv a v undef aa];exact h⟩
theorem PX {i:Nat} {cJ:Oper} {v:Value} (aq:ops[i]? =some cJ) (ar:aS i≤1) (kN:∀ (j:Nat) (o:Oper) cs b,ops[j]? =some o→o.op≠ .select cs b)
    (gy:∀ c a w,¬ Q (.panic c) a w) (aC:World→Act→Prop) (ln:∀ w0 a,aC w0 a→uo P ops w0 cJ v a)
    (z2:∀ w0 a a',aC w0 a→execOp a'.eval cJ=execOp a.eval cJ→Region.wanted cJ (yielded ops a'.tmps)=Region.wanted cJ (yielded ops a.tmps)→aC w0 a')
    (z3:∀ w0 aP a,Ext w0 aP→aC w0 a→aC aP a) (R:Nat→Bool) (sg:Array Bool)
    (hR:∀ j cR,ops[j]? =some cR→j≠i→(∀ e∈cR.after,Region.binds .any e=true→R e.on=true)→R j=true)
    (aX:(∀ w0 aP a,aC w0 a→aC aP a)∨∀ j,R j=true→3≤aS j→sg.getD j true=true):
    ∀ (f:Nat) (l:Array Bool) (a:Act) (w0:World),(∀ j,l.getD j false=true→R j=true)→(∀ j,sg.getD j true=true→l.getD j true=true)→
      (∀ j cR,ops[j]? =some cR→j≠i→l.getD j true=false→(∀ e∈cR.after,Region.binds .any e=true→e.on≠i)→cJ.apart ops cR=true)→
      i∈Region.ready .any ops l→aC w0 a→Cr P ops Q aS f (l.setIfInBounds i true) (a.put cJ.dst v) w0→Cr P ops Q aS (f+1) l a w0:=by
  intro f;induction f with
  | zero =>
    intro l a w0 _ _ _ hr bs H;refine ⟨fun h=>(by rw [h] at hr;cases hr),fun j ay=> ?_⟩;by_cases fM:j=i
    · subst fM;exact ⟨cJ,aq, .inl ⟨ar,v,ln _ _ bs,H⟩⟩
    · have:=aTw ay fM
      rw [H.1] at this;cases this
  | succ f bD =>
    intro l a w0 xL r_ xI hr bs H;refine ⟨fun h=>(by rw [h] at hr;cases hr),fun j ay=> ?_⟩;by_cases fM:j=i
    · subst fM;exact ⟨cJ,aq, .inl ⟨ar,v,ln _ _ bs,H⟩⟩
    · obtain ⟨cR,ic,τ⟩:=H.2 j (aTw ay fM)
      obtain ⟨r7,eE,xN,de⟩:=aUq.1 ay;obtain rfl:eE=cR:=by rw [ic] at xN;exact (aRA xN).symm
      have Ff:∀ e∈eE.after,Region.binds .any e=true→e.on≠i:=fun e he Φ heq=>by
        have τ:=de e he Φ;have aH:=(aUq.1 hr).1;rw [heq] at τ;rcases aSA i l.size with cI | cI
        · simp [cI] at aH τ;rw [aH] at τ;cases τ
        · simp [aSv cI] at τ
      have E0:=xI j eE ic fM r7 Ff;obtain ⟨cd,a2,a3⟩:=aUZ E0;have Fi:∀ cs b,cJ.op≠ .select cs b:=fun cs b=>kN i cJ cs b aq;have th:∀ cs b,eE.op≠ .select cs b:=fun cs b=>kN j eE cs b ic;have keep:∀ aP a u,aC aP a→aC aP (a.put eE.dst u):=fun aP a u bs=>z2 _ _ _ bs (aTU cJ Fi a eE.dst u a3) (aT9 cJ a eE.dst u a3);have xD:R j=true:=hR j eE ic fM fun e he Φ=>xL _ (de e he Φ);have xM:∀ k,(l.setIfInBounds j true).getD k false=true→R k=true:=fun k ar=>by
        by_cases fD:j=k
        · rw [← fD];exact xD
        · rw [aTj false fD] at ar;exact xL k ar
      have xK:∀ k,sg.getD k true=true→(l.setIfInBounds j true).getD k true=true:=fun k ar=>by
        by_cases fD:j=k
        · subst fD
          rcases aSA j l.size with cI | cI
          · simp [cI]
          · simp [aSv cI]
        · rw [aTj true fD];exact r_ k ar
      have xJ:∀ k ok,ops[k]? =some ok→k≠i→(l.setIfInBounds j true).getD k true=false→
          (∀ e∈ok.after,Region.binds .any e=true→e.on≠i)→cJ.apart ops ok=true:=fun k ok ar ob xS jc=>by
        refine xI k ok ar ob ?_ jc;by_cases fD:j=k
        · subst fD;exact r7
        · rw [aTj true fD] at xS;exact xS
      have xQ:=aTw hr (aUi fM);rcases τ with ⟨r9,u,I,hK⟩ | ⟨r9,τ⟩
      · refine ⟨eE,ic, .inl ⟨r9,u,I.of_same (aTU eE th a cJ.dst v cd).symm (aT9 eE a cJ.dst v cd).symm, ?_⟩⟩
        refine bD _ _ _ xM xK xJ xQ (keep _ _ _ bs) ?_;rw [aSQ _ _ fM,← aTv a v u a2];exact hK
      · refine ⟨eE,ic, .inr ⟨r9,fun w hw=> ?_⟩⟩
        refine aTt (fun a' w' aw=>⟨aw.2.1, ?_⟩) (SK (aC:=aC w0) ic cd a2 th gy (keep w0) (fun a d bs=>z2 _ _ _ bs Z Z) bs (τ w hw));have Fl:aC w' a':=by
          rcases aSA (aS j) 3 with bw | r4
          · exact z3 _ _ _ (aw.2.1 (by omega)) aw.1
          · rcases aX with aX | aX
            · exact aX _ _ _ aw.1
            · have:=r_ j (aX j xD r4);rw [r7] at this;cases this
        refine bD _ _ _ xM xK xJ xQ Fl ?_;rw [aSQ _ _ fM];exact aw.2.2
def vh (P:Program) (ops:Array Oper) (Q:Exit→Act→World→Prop) (aS:Nat→Nat):List Nat→Act→World→Prop
  | [],a,w0=>∀ w,Ext w0 w→Q .normal a w
  | i::r,a,w0=>∃ o,ops[i]? =some o∧
      ((aS i=0∧∃ v,uo P ops w0 o v a∧vh P ops Q aS r (a.put o.dst v) w0)∨
       (aS i=1∧∃ v,Yields P ops o v a∧vh P ops Q aS r (a.put o.dst v) w0)∨
       (1<aS i∧∀ w,Ext w0 w→wpOp P ops Q i (fun a' w'=>(aS i=2→Ext w0 w')∧vh P ops Q aS r a' w') a w))
def YZ (ops:Array Oper) (i:Nat):Array Bool :=
  ops.foldl (init:=#[]) fun acc o=>acc.push (acc.size != i && o.after.all fun e=> !Region.binds .any e || acc.getD e.on false)
def O0 (ops:Array Oper) (aS:Nat→Nat) (l:Array Bool) (i:Nat):Bool :=
  (List.range ops.size).all (fun j=>l.getD j true || Nat.blt (aS j) 3) ||
  (let R:=YZ ops i
   (List.range ops.size).all fun j=>(j == i || R.getD j false || !((ops[j]?).map (·.after.all fun e=> !Region.binds .any e || R.getD e.on false)).getD false) && (!l.getD j false || R.getD j false) && (!R.getD j false || Nat.blt (aS j) 3 || l.getD j true))
def h' (ops:Array Oper) (aS:Nat→Nat):List Nat→Array Bool→Bool
  | [],l=>(Region.ready .any ops l).isEmpty
  | i::r,l=>(match aS i with
      | 0=>Region.free .any ops l i && (Region.ready .any ops l).contains i && O0 ops aS l i
      | 1=>Region.free .any ops l i && (Region.ready .any ops l).contains i
      | _=>Region.ready .any ops l == [i]) && h' ops aS r (l.setIfInBounds i true)
theorem Ki {l:Array Bool} {i:Nat} (az:l.size=ops.size) (h:O0 ops aS l i=true):∃ R:Nat→Bool,
    (∀ j cR,ops[j]? =some cR→j≠i→(∀ e∈cR.after,Region.binds .any e=true→R e.on=true)→R j=true)∧
    (∀ j,l.getD j false=true→R j=true)∧(∀ j,R j=true→3≤aS j→l.getD j true=true):=by
  unfold O0 at h;have out:∀ j,¬ j<ops.size→l.getD j true=true:=fun j ay=>by simp [aSv (by omega:l.size≤j)]
  rw [aSp] at h;rcases h with h | h
  · refine ⟨fun _=>true,fun _ _ _ _ _=>rfl,fun _ _=>rfl,fun j _ aw=> ?_⟩
    by_cases ay:j<ops.size
    · have:=aSr.1 h j (aSj.2 ay)
      rw [aSp] at this;rcases this with h | h
      · exact h
      · rw [aVe] at h;omega
    · exact out j ay
  · refine ⟨fun j=>(YZ ops i).getD j false,fun j cR ic fM hd=> ?_,fun j ay=> ?_,fun j ay aw=> ?_⟩
    · have bw:=(aSa.1 ic).1
      have:=aSr.1 h j (aSj.2 bw);simp only [ic,aS5,aSK,aRI,aSp,aSC,fM,false_or,aSE] at this;rcases this.1.1 with h | h
      · exact h
      · have de:cR.after.all (fun e=> !Region.binds .any e || (YZ ops i).getD e.on false)=true:=by
          rw [Array.all_eq_true_iff_forall_mem];intro e he;cases Φ:Region.binds .any e
          · rfl
          · have:=hd e he Φ;simp only at this;simp [this]
        rw [de] at h;cases h
    · have bw:j<ops.size:=by
        rcases aSA j l.size with cI | cI
        · omega
        · simp [aSv cI] at ay
      have:=aSr.1 h j (aSj.2 bw);simp only [aRI,aSp,aSE] at this;rcases this.1.2 with h | h
      · rw [h] at ay;cases ay
      · exact h
    · by_cases bw:j<ops.size
      · have:=aSr.1 h j (aSj.2 bw)
        simp only [aRI,aSp,aSE] at this;rcases this.2 with (h | h) | h
        · simp only at ay;rw [h] at ay;cases ay
        · (rw [aVe] at h;omega)
        · exact h
      · exact out j bw
theorem Ex (hs:Region.noSelect ops=true) (gy:∀ c a w,¬ Q (.panic c) a w):∀ (r:List Nat) (l:Array Bool) (a:Act) (w0:World),l.size=ops.size→h' ops aS r l=true→vh P ops Q aS r a w0→Cr P ops Q aS r.length l a w0
  | [],l,a,w0,_,aX,h=>⟨by simpa [h'] using aX,h⟩
  | i::r,l,a,w0,az,aX,h=>by
    obtain ⟨o,bS,h⟩:=h;have kN:=aTV hs;rcases h with ⟨ar,v,I,hK⟩ | ⟨ar,v,I,hK⟩ | ⟨ar,h⟩
    · simp only [h',ar,aRI] at aX
      obtain ⟨⟨⟨hf,hr⟩,Φ⟩,aX⟩:=aX;obtain ⟨R,r1,r2,u0⟩:=Ki az Φ;exact PX bS (by omega) kN gy (fun w0 a=>uo P ops w0 o v a) (fun _ _ h=>h) (fun _ _ _ h he hw=>h.of_same he hw) (fun _ _ _ hx h=>h.on hx) R l r1 (.inr u0) _ _ _ _ r2 (fun _ h=>h) (aS4 bS hf) (by simpa using hr) I
        (Ex hs gy r _ _ _ (by simpa using az) aX hK)
    · simp only [h',ar,aRI] at aX
      obtain ⟨⟨hf,hr⟩,aX⟩:=aX;exact PX bS (by omega) kN gy (fun _ a=>Yields P ops o v a) (fun _ _ h=>Yields.akk h) (fun _ _ _ h he hw=>h.of_same he hw) (fun _ _ _ _ h=>h) (fun _=>true) l (fun _ _ _ _ _=>Z) (.inl fun _ _ _ h=>h) _ _ _ _ (fun _ _=>Z) (fun _ h=>h) (aS4 bS hf) (by simpa using hr) I
        (Ex hs gy r _ _ _ (by simpa using az) aX hK)
    · obtain ⟨k,gS⟩:∃ k,aS i=k+2:=⟨aS i - 2,by omega⟩
      simp only [h',gS,aRI,aSC] at aX;obtain ⟨hr,aX⟩:=aX;refine ⟨fun aH=>(by rw [hr] at aH;cases aH),fun j ay=> ?_⟩;rw [hr] at ay;obtain rfl:j=i:=by simpa using ay
      exact ⟨o,bS, .inr ⟨ar,fun w hw=>aTt (fun a' w' aw=>⟨aw.1,Ex hs gy r _ _ _ (by simpa using az) aX aw.2⟩) (h w hw)⟩⟩
def gF (K:Act→World→Prop):Exit→Act→World→Prop
  | .normal,a,w=>K a w
  | _,_,_=>False
theorem aCn {id:Nat} {a:Act} {w:World} (bO:List Nat) (hm:P.follows .mixedOrders=true) (aX:(Region.noSelect ops && (bO.length == ops.size) && h' ops aS bO (Array.replicate ops.size false))=true)
    (h:vh P ops (gF (Q .normal)) aS bO a w):(Code.region id ops true).wp P Q a w:=by
  simp only [aRI,aSC] at aX;obtain ⟨⟨hs,az⟩,aX⟩:=aX;refine aWk (aUC hm (Q:=gF (Q .normal)) ?_) (fun e a w I=>by cases e<;>first | exact I | exact I.elim);have:=Ex (P:=P) hs (Q:=gF (Q .normal)) (fun _ _ _ h=>h) bO (Array.replicate ops.size false) a w (by simp) aX h;rw [az] at this;exact Cs _ _ _ _ this _ (aR8 _ w).drew
end
end Go.Proofs.YtlikikpgmmkjbaaGreat
