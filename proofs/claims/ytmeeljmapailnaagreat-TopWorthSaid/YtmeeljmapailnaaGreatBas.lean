import Derived.Lib.Hide
import Derived.WalkSpells
import Derived.WalkLawsBesides
import Derived.BigQuiet
import Derived.Deep.RegionHeld3
import Derived.Laws.CopyOwn
import Derived.Lib.Strings
import Derived.Deep.AppendLies
import Derived.Shelf.SlicesE.Clone
import Derived.Deep.Fields
import Derived.WideKeyEntry
import Derived.Handy
set_option linter.unusedVariables false
set_option linter.unusedSimpArgs false
set_option maxRecDepth 100000
set_option maxHeartbeats 4000000
open Go.RowKit
namespace Go.Proofs.YtmeeljmapailnaaGreat
theorem Z.{u} {α:Sort u} {a:α}:a=a:=Eq.refl a
abbrev aRV:=@Option.some.inj
abbrev aRW:=@List.getElem?_eq_some_iff
abbrev aRX:=@List.getElem?_eq_getElem
abbrev aRZ:=@List.length_take
abbrev aR0:=@List.length_cons
abbrev aR1:=@List.length_append
abbrev aR2:=@Bool.and_eq_true
abbrev aR3:=@Go.Result.andThen_ok
abbrev aR4:=@List.length_set
abbrev aR5:=@if_neg
abbrev aR7:=@Nat.le_refl
abbrev aR8:=@if_pos
abbrev aSa:=@List.mem_cons_of_mem
abbrev aSb:=@List.mem_append
abbrev aSc:=@Go.Sem.run_bind
abbrev aSd:=@List.getElem?_map
abbrev aSe:=@Go.Sem.run_pure
abbrev aSf:=@List.length_drop
abbrev aSg:=@List.getElem?_append_left
abbrev aSh:=@List.mem_cons
abbrev aSi:=@List.getElem?_append_right
abbrev aSk:=@List.take_of_length_le
abbrev aSl:=@List.getElem?_set_self
abbrev aSm:=@List.map_append
abbrev aSo:=@List.mem_of_getElem?
abbrev aSp:=@List.getElem?_set_ne
abbrev aSr:=@Go.RowKit.Below.refl
abbrev aSs:=@Nat.le_trans
abbrev aSt:=@List.mem_map
abbrev aSu:=@List.eq_nil_of_length_eq_zero
abbrev aSy:=@Array.getElem?_eq_some_iff
abbrev aSz:=@List.append_nil
abbrev aSA:=@List.append_assoc
abbrev aSB:=@List.map_cons
abbrev aSC:=@List.mem_range
abbrev aSE:=@List.getElem?_take
abbrev aSG:=@Bool.false_eq_true
abbrev aSI:=@Nat.mul_le_mul_right
abbrev aSK:=@List.length_map
abbrev aSL:=@Bool.or_eq_true
abbrev aSM:=@Nat.zero_le
abbrev aSN:=@List.nodup_append
abbrev aSO:=@List.all_eq_true
abbrev aSP:=@List.flatten_cons
abbrev aSQ:=@Go.MapKept.run_getObj_map
abbrev aST:=@beq_iff_eq
abbrev aSU:=@Array.getElem?_eq_none
abbrev aSV:=@List.mem_iff_getElem
abbrev aSW:=@BitVec.ofInt_natCast
abbrev aSY:=@List.find?_eq_none
abbrev aSZ:=@Nat.lt_or_ge
abbrev aS0:=@List.getElem?_drop
abbrev aS1:=@Array.getElem?_toList
abbrev aS2:=@Option.getD_some
abbrev aS5:=@of_decide_eq_true
abbrev aS6:=@List.map_set
abbrev aS7:=@List.mem_flatten
abbrev aS8:=@List.getElem_mem
abbrev aS9:=@List.any_eq_true
abbrev aTa:=@Go.run_underlying
abbrev aTd:=@Nat.zero_add
abbrev aTe:=@Nat.mul_comm
abbrev aTf:=@Bool.not_eq_true'
abbrev aTh:=@Nat.mod_eq_of_lt
abbrev aTi:=@Go.MapKept.run_setObj_map
abbrev aTl:=@List.getElem?_eq_none
abbrev aTm:=@if_false
abbrev aTq:=@Array.ext'
abbrev aTr:=@Array.setIfInBounds_comm
abbrev aTs:=@List.size_toArray
abbrev aTv:=@Option.map_some
abbrev aTz:=@List.map_nil
abbrev aTA:=@Nat.add_mul
abbrev aTF:=@BitVec.toNat_ofNat
abbrev aTG:=@if_true
abbrev aTH:=@Go.Region.free_spec
abbrev aTI:=@List.set_getElem_self
abbrev aTJ:=@List.mem_or_eq_of_mem_set
abbrev aTN:=@List.ext_getElem?
abbrev aTP:=@Array.getElem?_setIfInBounds_ne
abbrev aTQ:=@Int.eq_ofNat_of_zero_le
abbrev aTR:=@Go.ByteArray.toList_eq
abbrev aTS:=@Go.World.block_lt_of_cell?
abbrev aTU:=@List.find?_cons_of_neg
abbrev aTV:=@Int.natCast_nonneg
abbrev aTY:=@Go.Act.put_comm
abbrev aT0:=@List.take_append_drop
abbrev aT2:=@Go.ChangeMaps.modify_eq_set
abbrev aT6:=@Nat.mod_lt
abbrev aUa:=@Go.getD_set_ne
abbrev aUd:=@List.flatten_append
abbrev aUe:=@Array.toList_modify
abbrev aUf:=@Array.length_toList
abbrev aUg:=@Go.wpOp_mono
abbrev aUh:=@List.getElem_append_left
abbrev aUi:=@List.nil_append
abbrev aUm:=@BitVec.setWidth_eq
abbrev aUn:=@BitVec.ofNat_toNat
abbrev aUo:=@List.findIdx?_eq_some_iff_getElem
abbrev aUp:=@Go.ready_mono
abbrev aUr:=@List.map_map
abbrev aUt:=@List.any_eq_false
abbrev aUA:=@Go.execOp_put
abbrev aUB:=@Nat.mul_add_mod
abbrev aUC:=@Go.Region.noSelect_spec
abbrev aUF:=@Ne.symm
abbrev aUH:=@Nat.eq_zero_or_pos
abbrev aUJ:=@Array.empty_append
abbrev aUK:=@List.findIdx?_eq_none_iff
abbrev aUL:=@Go.wanted_put
abbrev aUM:=@Go.heap_alloc_new
abbrev aUO:=@Option.some.injEq
abbrev aUU:=@List.getElem_map
abbrev aU0:=@List.find?_cons_of_pos
abbrev aU4:=@List.nodup_cons
abbrev aVb:=@Nat.div_lt_iff_lt_mul
abbrev aVc:=@List.set_append_right
abbrev aVd:=@List.mem_append_right
abbrev aVh:=@Array.getElem?_modify
abbrev aVi:=@List.take_left
abbrev aVk:=@List.mem_append_left
abbrev aVm:=@Int.emod_emod_of_dvd
abbrev aVn:=@Array.getElem?_range
abbrev aVp:=@List.take_succ_cons
abbrev aVq:=@List.getElem?_range
abbrev aVr:=@Array.toList_append
abbrev aVu:=@Go.mem_ready
abbrev aVw:=@Nat.blt_eq
abbrev aVz:=@BitVec.toInt_ofInt
abbrev aVA:=@Array.getElem?_map
abbrev aVD:=@Go.wp_region_any
abbrev aVH:=@List.getElem?_inj
abbrev aVN:=@Array.size_append
abbrev aVO:=@Go.heap_setCell_other
abbrev aVP:=@Go.Calls.mono
abbrev aVR:=@List.take_append
abbrev aVT:=@List.map_toArray
abbrev aVZ:=@Nat.div_add_mod
abbrev aV5:=@List.nodup_nil
abbrev aV6:=@List.drop_drop
abbrev aWe:=@Go.Oper.apart_spec
abbrev aWf:=@Go.WideElems.findIdx_born
abbrev aWl:=@Go.WideElems.findIdx_arr
abbrev aWm:=@Go.RowKit.Below.mono
abbrev aWn:=@List.flatten_eq_nil_iff
abbrev aWq:=@Nat.zero_mul
abbrev aWv:=@Int.dvd_refl
abbrev aWx:=@Go.WideElems.set_self
abbrev aWy:=@BitVec.eq_of_toNat_eq
abbrev aWF:=@List.map_congr_left
abbrev aWJ:=@Nat.lt_of_le_of_lt
abbrev aWU:=@List.length_range
abbrev aWW:=@Bool.eq_false_iff
end Go.Proofs.YtmeeljmapailnaaGreat
namespace Go.Proofs.YtmeeljmapailnaaGreat.fu
def U {n:Nat} (b:BitVec n):Int:=(b.toNat:Int)

theorem Uo {n:Nat} (b:BitVec n):0≤U b:=aTV _
theorem apA (b:BitVec 32):U b<4294967296:=by have:=b.isLt;unfold U;omega
theorem apB (b:BitVec 64):U b<18446744073709551616:=by have:=b.isLt;unfold U;omega
theorem apz (b:BitVec 32):U b≤4294967295:=by have:=b.isLt;unfold U;omega
theorem wG {n:Nat} (b:BitVec n):BitVec.ofInt n (U b)=b:=by
  unfold U;rw [aSW,aUn,aUm]
theorem apC (x:Int) (aG:0≤x) (κ:x<4294967296):U (BitVec.ofInt 32 x)=x:=by
  obtain ⟨m,rfl⟩:=aTQ aG;unfold U;rw [aSW,aTF];omega
theorem apD (x:Int) (aG:0≤x) (κ:x<18446744073709551616):U (BitVec.ofInt 64 x)=x:=by
  obtain ⟨m,rfl⟩:=aTQ aG;unfold U;rw [aSW,aTF];omega
theorem Qg {x:Int} {b:BitVec 32} (aG:0≤x) (κ:x<4294967296) (h:BitVec.ofInt 32 x=b):x=U b:=by
  rw [← h,apC x aG κ]
theorem Qh {x:Int} {b:BitVec 64} (aG:0≤x) (κ:x<18446744073709551616) (h:BitVec.ofInt 64 x=b):x=U b:=by
  rw [← h,apD x aG κ]
theorem Pu (k:IntKind) (op:BinOp) (a b:Int) (hs:k.signed=false):0≤bits op k a b∧bits op k a b<2 ^ k.bits:=by
  have hp:(0:Int)<2 ^ k.bits:=Int.pow_pos (by decide);have key:∀ n:Int,0≤k.wrap n∧k.wrap n<2 ^ k.bits:=by
    intro n;simp only [IntKind.wrap,hs,Bool.false_and,aSG,aTm];exact ⟨Int.emod_nonneg _ (by omega),Int.emod_lt_of_pos _ hp⟩
  unfold bits;exact key _
theorem Ps (op:BinOp) (a b:Int):0≤bits op .u32 a b:=(Pu .u32 op a b rfl).1
theorem Pr (op:BinOp) (a b:Int):bits op .u32 a b<4294967296:=(Pu .u32 op a b rfl).2
theorem UH (op:BinOp) (a b:Int):0≤bits op .u64 a b:=(Pu .u64 op a b rfl).1
theorem UG (op:BinOp) (a b:Int):bits op .u64 a b<18446744073709551616:=(Pu .u64 op a b rfl).2
theorem Nf (k:IntKind) (n:Int):BitVec.ofInt k.bits (k.wrap n)=BitVec.ofInt k.bits n:=by
  apply BitVec.eq_of_toInt_eq;simp only [aVz];have h:(k.wrap n) % (2 ^ k.bits:Int)=n % (2 ^ k.bits:Int):=by
    unfold IntKind.wrap;dsimp only;split
    · rw [Int.sub_emod,Int.emod_self,Int.sub_zero,aVm _ (aWv _),aVm _ (aWv _)]
    · rw [aVm _ (aWv _)]
  have e:((2 ^ k.bits:Nat):Int)=(2:Int) ^ k.bits:=by simp
  simp only [Int.bmod,e,h]

theorem aAO (n:Int):BitVec.ofInt 32 (n % 4294967296)=BitVec.ofInt 32 n:=by
  have:=Nf .u32 n;rw [IntKind.wrap_u32] at this;exact this
theorem aAS (n:Int):BitVec.ofInt 64 (IntKind.u64.wrap n)=BitVec.ofInt 64 n:=Nf .u64 n
theorem YK (k:IntKind) (a b:Int):BitVec.ofInt k.bits (bits .xor k a b)=BitVec.ofInt k.bits a ^^^ BitVec.ofInt k.bits b:=by
  unfold bits;rw [Nf,aSW];dsimp only;rw [aUn,aUm]
theorem aAL (k:IntKind) (a b:Int):BitVec.ofInt k.bits (bits .and k a b)=BitVec.ofInt k.bits a &&& BitVec.ofInt k.bits b:=by
  unfold bits;rw [Nf,aSW];dsimp only;rw [aUn,aUm]
theorem aAM (k:IntKind) (a b:Int):BitVec.ofInt k.bits (bits .andNot k a b)=BitVec.ofInt k.bits a &&& ~~~(BitVec.ofInt k.bits b):=by
  unfold bits;rw [Nf,aSW];dsimp only;rw [aUn,aUm]

theorem YL (a b:Int):BitVec.ofInt 32 (bits .xor .u32 a b)=BitVec.ofInt 32 a ^^^ BitVec.ofInt 32 b:=YK .u32 a b
theorem akn (a b:Int):BitVec.ofInt 32 (bits .and .u32 a b)=BitVec.ofInt 32 a &&& BitVec.ofInt 32 b:=aAL .u32 a b
theorem aAN (a b:Int):BitVec.ofInt 32 (bits .andNot .u32 a b)=BitVec.ofInt 32 a &&& ~~~(BitVec.ofInt 32 b):=aAM .u32 a b
theorem YM (a b:Int):BitVec.ofInt 64 (bits .xor .u64 a b)=BitVec.ofInt 64 a ^^^ BitVec.ofInt 64 b:=YK .u64 a b
theorem aks (a b:Int):BitVec.ofInt 64 (bits .xor .i64 a b)=BitVec.ofInt 64 a ^^^ BitVec.ofInt 64 b:=YK .i64 a b
theorem akr {n:Nat} (x:Int) (s:Nat) (aG:0≤x) (κ:x<2 ^ n):BitVec.ofInt n (x / 2 ^ s)=BitVec.ofInt n x >>> s:=by
  obtain ⟨m,rfl⟩:=aTQ aG;have FJ:m<2 ^ n:=by exact_mod_cast κ
  have e:((m:Int) / 2 ^ s)=((m / 2 ^ s:Nat):Int):=by rw [Int.natCast_ediv];simp
  rw [e,aSW,aSW];apply aWy;rw [BitVec.toNat_ushiftRight,aTF,aTF,aTh FJ,Nat.shiftRight_eq_div_pow];exact aTh (aWJ (Nat.div_le_self _ _) FJ)

theorem aAK {n:Nat} (a b:Int):BitVec.ofInt n (a+b)=BitVec.ofInt n a+BitVec.ofInt n b:=BitVec.ofInt_add ..
theorem akp {n:Nat} (a b:Int):BitVec.ofInt n (a * b)=BitVec.ofInt n a * BitVec.ofInt n b:=BitVec.ofInt_mul ..
theorem aAR {n:Nat} (a:Int):BitVec.ofInt n (-a)= -BitVec.ofInt n a:=BitVec.ofInt_neg ..
theorem aAQ {n:Nat} (a:Nat):BitVec.ofInt n (a:Int)=BitVec.ofNat n a:=aSW ..

end Go.Proofs.YtmeeljmapailnaaGreat.fu
namespace Go.Proofs.YtmeeljmapailnaaGreat
def aHH (k:IntKind) (w:World) (a:Option Addr) (len cap:Nat) (zs:List Int):Prop :=
  (a=none∧len=0∧cap=0∧zs= [])∨
  ∃ x,a=some x∧len≤cap∧cap≤maxLen∧zs.length=cap∧(∀ i,i<zs.length→w.cell? (x.add i)=some (.int k (zs.getD i 0)))∧∀ n∈zs,(Lit.int k n).wf=true
theorem acC (b j:Nat):(⟨b,0,none⟩:Addr).add j=⟨b,j,none⟩:=by
  unfold Addr.add;split<;>simp_all
theorem UL {a b:ByteArray} (h:a.data.toList=b.data.toList):a=b:=ByteArray.ext (Array.toList_inj.1 h)
theorem ac6 (a b:ByteArray):(a.toList == b.toList)=decide (a=b):=by
  rw [aTR,aTR];by_cases h:a=b
  · subst h;simp
  · have κ:¬ a.data=b.data:=fun e=>h (ByteArray.ext e)
    simp [h,κ]
theorem ac8 {a b:ByteArray} (h:a=b):(a.toList == b.toList)=true:=by rw [ac6];simp [h]
theorem ac7 {a b:ByteArray} (h:¬ a=b):(a.toList == b.toList)=false:=by rw [ac6];simp [h]
theorem Zd {a:Bool} (h:a=true):Ending.returned (.bool a)= .returned (.bool true):=by rw [h]
theorem Hy (b off j:Nat):(⟨b,off,none⟩:Addr).add j=⟨b,off+j,none⟩:=by
  unfold Addr.add;split<;>simp_all
theorem aA8 {w w':World} {base:Nat} {e:TypeId} {size:Nat} {v:Value} {n:Nat} {xs:List Value} (h:w.ownsRow base e size v n xs) (Φ:Below w.heap.size w w'):w'.ownsRow base e size v n xs:=by
  obtain ⟨κ,ab⟩:=h;refine ⟨κ, ?_⟩;rcases ab with ab | ⟨g,cap,cur,hv,aO,fV,r⟩
  · exact .inl ab
  · exact .inr ⟨g,cap,cur,hv,aO,by rw [Φ.block g (aSy.1 fV).1];exact fV,r⟩
theorem cell_later {w w':World} (Φ:Below w.heap.size w w') {a:Addr} {v:Value} (h:w.cell? a=some v):w'.cell? a=some v:=by
  rw [Φ.cell (aTS w a h)];exact h
theorem aqY {B:Nat} {w w':World} (Φ:Below B w w') {a:Addr} {v:Value} (h:w.cell? a=some v) (ha:a.block<B):w'.cell? a=some v:=by
  rw [Φ.cell ha];exact h
def aP (w:World) (g:Nat) (cur:List Value) (e:TypeId) (aB:Nat×Nat):Prop:=w.heap[g]? =some (.cells cur.toArray e aB)
theorem aP.lt {w:World} {g:Nat} {cur:List Value} {e:TypeId} {aB:Nat×Nat} (h:aP w g cur e aB):g<w.heap.size:=(aSy.1 h).1
theorem aP.cell {w:World} {g:Nat} {cur:List Value} {e:TypeId} {aB:Nat×Nat} (h:aP w g cur e aB) (j:Nat):w.cell? ⟨g,j,none⟩=cur[j]? :=by
  rw [cell_of_row w g j _ e aB h];simp
theorem aP.free {w:World} {g:Nat} {cur:List Value} {e:TypeId} {aB:Nat×Nat} (h:aP w g cur e aB) (j:Nat) (az:j<aB.1∨aB.2≤j):w.frozen? ⟨g,j,none⟩=false:=by
  unfold aP at h;obtain ⟨lo,aq⟩:=aB;simp only [World.frozen?,h];simp only at az;simp;omega
theorem aP.set {w:World} {g:Nat} {cur:List Value} {e:TypeId} {aB:Nat×Nat} (h:aP w g cur e aB) (j:Nat) (v:Value):aP (w.setCell ⟨g,j,none⟩ v) g (cur.set j v) e aB:=by
  unfold aP at *
  simp only [World.setCell,aVh,h];simp
theorem aP.later {w w':World} {g:Nat} {cur:List Value} {e:TypeId} {aB:Nat×Nat} (h:aP w g cur e aB) (Φ:Below w.heap.size w w'):aP w' g cur e aB:=by
  have ay:=h.lt;unfold aP at *
  rw [Φ.block g ay];exact h
theorem aP.drew {w:World} {g:Nat} {cur:List Value} {e:TypeId} {aB:Nat×Nat} (h:aP w g cur e aB):aP w.drew g cur e aB:=h
theorem aP.drewN {w:World} {g:Nat} {cur:List Value} {e:TypeId} {aB:Nat×Nat} (h:aP w g cur e aB) (n:Nat):aP (w.drewN n) g cur e aB:=h
theorem aP.new (w:World) (cur:List Value) (e:TypeId) (aB:Nat×Nat):aP (w.alloc (.cells cur.toArray e aB)) w.heap.size cur e aB:=aUM w _
theorem aP.setRow {w:World} {g:Nat} {cur:List Value} {e:TypeId} {aB:Nat×Nat} (h:aP w g cur e aB) (new:List Value):aP (w.setRow g new.toArray) g new e aB:=setRow_heap w g _ _ e aB h
theorem aP.other {w:World} {g g':Nat} {cur:List Value} {e:TypeId} {aB:Nat×Nat} (h:aP w g cur e aB) (aO:g≠g') (j:Nat) (v:Value):aP (w.setCell ⟨g',j,none⟩ v) g cur e aB:=by
  unfold aP at *
  rw [aVO _ _ _ _ aO];exact h
theorem below_drewN {B:Nat} {a w:World} (h:Below B a w) (n:Nat):Below B a (w.drewN n):=⟨h.os,h.tape,h.output,h.size,h.block⟩
def Rd (w:World) (size:Nat) (A:Option Addr) (n:Nat) (xs:List Value):Prop :=
  xs.length=n * size∧(0<n→∃ b o,A=some ⟨b,o,none⟩∧∀ j u,xs[j]? =some u→w.cell? ⟨b,o+j,none⟩=some u)
theorem Rd.zero (w:World) (size:Nat) (A:Option Addr):Rd w size A 0 []:=⟨by simp,fun h=>absurd h (by decide)⟩
theorem Rd.later {w w':World} {size n:Nat} {A:Option Addr} {xs:List Value} (h:Rd w size A n xs) (Φ:Below w.heap.size w w'):Rd w' size A n xs :=
  ⟨h.1,fun aG=>by
    obtain ⟨b,o,e,hc⟩:=h.2 aG;exact ⟨b,o,e,fun j u hu=>cell_later Φ (hc j u hu)⟩⟩
theorem Rd.drewN {w:World} {size n:Nat} {A:Option Addr} {xs:List Value} (h:Rd w size A n xs) (k:Nat):Rd (w.drewN k) size A n xs:=h
def Own (w:World) (base:Nat) (e:TypeId) (size:Nat) (G:Nat→Value→Prop) (v:Value) (n:Nat) (xs:List Value):Prop :=
  xs.length=n * size∧
  ((v= .slice none 0 0∧n=0)∨
   ∃ g cap cur,v= .slice (some ⟨g,0,none⟩) n cap∧base≤g∧w.heap[g]? =some (.cells cur e (0,0))∧n≤cap∧cap≤maxLen∧cur.size=cap * size∧cur.toList.take (n * size)=xs∧∀ j u,cur[j]? =some u→G (j % size) u)
section
variable {w w':World} {base e size:Nat} {G:Nat→Value→Prop} {v:Value} {n:Nat} {xs:List Value}
theorem Own.row (h:Own w base e size G v n xs):w.ownsRow base e size v n xs:=by
  obtain ⟨κ,ab⟩:=h;refine ⟨κ, ?_⟩;rcases ab with ab | ⟨g,cap,cur,a,b,c,d,e,f,i,_⟩
  · exact .inl ab
  · exact .inr ⟨g,cap,cur,a,b,c,d,e,f,i⟩
theorem Own.nil (w:World) (base e size:Nat) (G:Nat→Value→Prop):Own w base e size G (.slice none 0 0) 0 []:=⟨by simp, .inl ⟨rfl,rfl⟩⟩
theorem Own.of_block {B:Nat} (h:Own w base e size G v n xs) (Φ:∀ g,v.ownBlock=some g→w'.heap[g]? =w.heap[g]?):Own w' base e size G v n xs:=by
  obtain ⟨κ,ab⟩:=h;refine ⟨κ, ?_⟩;rcases ab with ab | ⟨g,cap,cur,rfl,b,c,d⟩
  · exact .inl ab
  · exact .inr ⟨g,cap,cur,rfl,b,(Φ g rfl).trans c,d⟩
theorem Own.later (h:Own w base e size G v n xs) (Φ:Below w.heap.size w w'):Own w' base e size G v n xs :=
  h.of_block (B:=0) fun g aO=>Φ.block g (h.row.lt g aO).2
theorem Own.drewN (h:Own w base e size G v n xs) (k:Nat):Own (w.drewN k) base e size G v n xs:=h
theorem Own.drew (h:Own w base e size G v n xs):Own w.drew base e size G v n xs:=h
theorem Own.mono (h:Own w base e size G v n xs) {acV:Nat} (Φ:acV≤base):Own w acV e size G v n xs:=by
  obtain ⟨κ,ab⟩:=h;refine ⟨κ, ?_⟩;rcases ab with ab | ⟨g,cap,cur,a,b,r⟩
  · exact .inl ab
  · exact .inr ⟨g,cap,cur,a,aSs Φ b,r⟩
theorem Own.rd (h:Own w base e size G v n xs) {A:Option Addr} {c:Nat} (hv:v= .slice A n c):Rd w size A n xs:=by
  obtain ⟨κ,ab⟩:=h;refine ⟨κ,fun aG=> ?_⟩;rcases ab with ⟨_,ab⟩ | ⟨g,cap,cur,rfl,b,c,d,e,f,i,_⟩
  · omega
  · injection hv with hv _ _
    refine ⟨g,0,hv.symm,fun j u hu=> ?_⟩;rw [aTd,cell_of_row w g j cur _ (0,0) c,← aS1];rw [← i,aSE] at hu;split at hu
    · exact hu
    · cases hu
theorem Own.shape (h:Own w base e size G v n xs):∃ A c,v= .slice A n c∧n≤c∧c≤maxLen∧Rd w size A n xs∧(∀ a,A=some a→base≤a.block∧a.block<w.heap.size)∧(A=none→v= .slice none 0 0):=by
  have c6:=h;obtain ⟨κ,ab⟩:=h;rcases ab with ⟨rfl,rfl⟩ | ⟨g,cap,cur,rfl,b,c,d,e,f,i,_⟩
  · exact ⟨none,0,rfl,aR7 _,aSM _,c6.rd rfl,(fun a ha=>by cases ha),fun _=>rfl⟩
  · refine ⟨_,cap,rfl,d,e,c6.rd rfl,fun a ha=> ?_,fun h=>by cases h⟩
    injection ha with ha
    subst ha;exact ⟨b,(aSy.1 c).1⟩
theorem aGE {z:Array Value} (bC:z.size=size) (hs:0<size) (br:∀ j u,z[j]? =some u→G j u) (k:Nat):∀ j u,(Builtin.zeroCells z k)[j]? =some u→G (j % size) u:=by
  intro j u hu;unfold Builtin.zeroCells at hu;subst bC;have az:=(aSy.1 hu).1;simp at az;have bz:j % z.size<z.size:=aT6 _ hs;rw [aVA,aVn,aR8 az] at hu;simp only [aTv,aUO] at hu;refine br _ u ?_;rw [← hu];simp [bz]
theorem Own.stored {g c:Nat} (h:Own w base e size G (.slice (some ⟨g,0,none⟩) n c) n xs) (j:Nat) (u:Value) (hu:G (j % size) u):
    Own (w.setCell ⟨g,j,none⟩ u) base e size G (.slice (some ⟨g,0,none⟩) n c) n (xs.set j u):=by
  obtain ⟨κ,ab⟩:=h;refine ⟨by rw [aR4];exact κ, ?_⟩;rcases ab with ⟨ab,_⟩ | ⟨g',cap,cur,hv,b,fV,d,hm,hs,aC,br⟩
  · cases ab
  · injection hv with hv _ hc
    injection hv with hv
    injection hv with hv
    subst hv;subst hc;refine .inr ⟨g,c,cur.setIfInBounds j u,Z,b, ?_,d,hm,by simp [hs], ?_, ?_⟩
    · simp only [World.setCell,aVh,fV]
      simp
    · rw [← aC]
      simp only [Array.toList_setIfInBounds];rw [List.take_set]
    · intro i v hv
      by_cases j3:j=i
      · subst j3
        have bz:j<cur.size:=by
          have:=(aSy.1 hv).1;simpa using this
        rw [Array.getElem?_setIfInBounds_self_of_lt bz] at hv;obtain rfl:=aRV hv;exact hu
      · rw [aTP j3] at hv
        exact br i v hv
theorem Own.cell {g c:Nat} (h:Own w base e size G (.slice (some ⟨g,0,none⟩) n c) n xs) (j:Nat) (az:j<n * size):w.cell? ⟨g,j,none⟩=xs[j]? :=h.row.cellAt j az
theorem Own.free {g c:Nat} (h:Own w base e size G (.slice (some ⟨g,0,none⟩) n c) n xs) (j:Nat):w.frozen? ⟨g,j,none⟩=false:=h.row.frozenAt j
theorem Own.lit (w:World) (cs:Array Value) (n:Nat) (Φ:base≤w.heap.size) (hm:n≤maxLen) (hs:cs.size=n * size) (br:∀ j u,cs[j]? =some u→G (j % size) u):
    Own (w.alloc (.cells cs e)) base e size G (.slice (some ⟨w.heap.size,0,none⟩) n n) n cs.toList :=
  ⟨by simpa using hs, .inr ⟨w.heap.size,n,cs,rfl,Φ,aUM w _,aR7 _,hm,hs,aSk (by simp [hs]),br⟩⟩
theorem Own.empty (w:World) (Φ:base≤w.heap.size):Own (w.alloc (.cells #[] e)) base e size G (.slice (some ⟨w.heap.size,0,none⟩) 0 0) 0 [] :=
  Own.lit w #[] 0 Φ (aSM _) (by simp) (fun j u h=>by simp at h)
end
section
variable {P:Program} (w:World)
theorem alp (base:Nat) (t ty e:TypeId) (i:TypeInfo) (z:Value) (size bytes:Nat) (aC:P.underlying t=some (.slice e)) (aq:P.info? e=some i) (bC:i.zero=some z)
    (xV:i.size=size) (p8:i.bytes=bytes) (tk:z.cells.size=size) (jz:0<size) (G:Nat→Value→Prop) (xY:∀ j u,z.cells[j]? =some u→G j u)
    (v:Value) (n:Nat) (xs:List Value) (fo:Own w base e size G v n xs)
    (A:Option Addr) (m c:Nat) (news:List Value) (hr:Rd w size A m news) (κ:∀ u∈news,u.oneCell'=true) (L7:∀ j u,news[j]? =some u→G (j % size) u)
    (rU:n+m≤maxLen) (r7:(n+m) * bytes≤140737488355328) (p6:base≤w.heap.size):
    ∃ v' w',(Builtin.append_ #[t,t] ty #[v, .slice A m c]).run P w= .ok v' w'∧Own w' base e size G v' (n+m) (xs++news)∧w.grownBy w' v.ownBlock∧
      (v'= .slice none 0 0↔v= .slice none 0 0∧m=0)∧(v'.ownBlock=v.ownBlock∨v'.ownBlock=some w.heap.size):=by
  subst xV;subst p8;have aLg:n+m≤9223372036854775807:=by simp only [maxLen] at rU;omega
  have ay:news.length=m * i.size:=hr.1;have ID:xs.length=n * i.size:=fo.1;have hlen:(xs++news).length=(n+m) * i.size:=by rw [aR1,ID,ay,aTA]
  have agf:(∀ j u,xs[j]? =some u→G (j % i.size) u)→∀ j u,(xs++news)[j]? =some u→G (j % i.size) u:=by
    intro hx j u hu;by_cases az:j<xs.length
    · rw [aSg az] at hu;exact hx j u hu
    · rw [aSi (by omega)] at hu
      have:=L7 _ u hu;rw [ID] at this az;have e:j % i.size=(j - n * i.size) % i.size:=by
        conv=>lhs;rw [show j=n * i.size+(j - n * i.size) from by omega]
        rw [aTe n,aUB]
      rw [e];exact this
  -- what the growing arm leaves, whatever was there before
  have grown:(∀ j u,xs[j]? =some u→G (j % i.size) u)→∀ (old:Nat),old<n+m→∀ (row:Option Nat),
      Own (w.drew.alloc (.cells (xs.toArray++news.toArray++Builtin.zeroCells z.cells (grownCap w (n+m) old e - (n+m))) e)) base e i.size G
        (.slice (some ⟨w.heap.size,0,none⟩) (n+m) (grownCap w (n+m) old e)) (n+m) (xs++news)∧
      w.grownBy (w.drew.alloc (.cells (xs.toArray++news.toArray++Builtin.zeroCells z.cells (grownCap w (n+m) old e - (n+m))) e)) row:=by
    intro Rm old b4 row;have uG:=grownCap_ge w (n+m) old e;have r9:grownCap w (n+m) old e≤maxLen:=grownCap_le_maxLen w (n+m) old e rU;refine ⟨⟨hlen, .inr ⟨w.heap.size,_,_,Z,p6,aUM w.drew _,uG,r9, ?_, ?_, ?_⟩⟩,⟨Z,Z,Z,by simp,fun k ar _=>heap_alloc_old w.drew _ ar⟩⟩
    · simp only [aVN,aTs,size_zeroCells,tk,ID,ay,← aTA]
      congr 1;omega
    · simp only [aVr,aSA]
      rw [← aSA,← hlen];exact aVi
    · intro j u hu
      rw [← aS1] at hu;simp only [aVr] at hu;by_cases az:j<(xs++news).length
      · rw [aSg az] at hu;exact agf Rm j u hu
      · rw [aSi (by simpa using az)] at hu
        rw [aS1] at hu;have:=aGE tk jz xY _ _ u hu;have pd:(xs.toArray.toList++news.toArray.toList).length=(n+m) * i.size:=hlen;rw [pd] at this;rw [hlen] at az;have e:j % i.size=(j - (n+m) * i.size) % i.size:=by
          conv=>lhs;rw [show j=(n+m) * i.size+(j - (n+m) * i.size) from by omega]
          rw [aTe (n+m),aUB]
        rw [e];exact this
  have XG:A=none∨∃ a,A=some a:=by cases A with | none=>exact .inl rfl | some a=>exact .inr ⟨a,rfl⟩
  rcases XG with rfl | ⟨ad,rfl⟩
  · have hm:m=0:=by
      rcases aUH m with aG | aG
      · exact aG
      · obtain ⟨b,o,h,_⟩:=hr.2 aG
        cases h
    subst hm;have hn:news= []:=aSu (by simpa using ay);subst hn;refine ⟨v,w, ?_,by simpa using fo,World.grownBy.refl w _,by simp, .inl rfl⟩;rcases fo.2 with ⟨rfl,rfl⟩ | ⟨g,cap,cur,rfl,_,_,DJ,_⟩
    · simp [Builtin.append_,aTa aC,sizeOf,typeInfo,aq,Builtin.lenOf,Builtin.firstCells]
    · simp [Builtin.append_,aTa aC,sizeOf,typeInfo,aq,Builtin.lenOf,Builtin.firstCells,DJ,storeCells]
  have L9:∀ j u,news[j]? =some u→w.cell? (ad.add j)=some u:=by
    intro j u hu;rcases aUH m with aG | aG
    · subst aG
      have hn:news= []:=aSu (by simpa using ay);subst hn;simp at hu
    · obtain ⟨b,o,h,hc⟩:=hr.2 aG
      injection h with h
      subst h;rw [Hy];exact hc j u hu
  rcases fo.2 with ⟨rfl,rfl⟩ | ⟨g,cap,cur,rfl,WS,aO,DJ,r9,zG,XJ,br⟩
  · have hx:xs= []:=aSu (by simpa using ID)
    subst hx;by_cases hm:m=0
    · subst hm
      have hn:news= []:=aSu (by simpa using ay);subst hn;refine ⟨.slice none 0 0,w, ?_,Own.nil w base e i.size G,⟨Z,Z,Z,aR7 _,fun _ _ _=>Z⟩,by simp,Or.inl rfl⟩;simp [Builtin.append_,aTa aC,sizeOf,typeInfo,aq,Builtin.lenOf,Builtin.firstCells,loadCells,loadCellsFrom]
    · have hr:=run_append_nil (P:=P) w t ty e i z aC aq bC ad m c news ay L9 (by omega) (by omega) (by have Φ:=r7;simp only [aTd] at Φ;omega)
      have DA:=grown (fun j u hu=>by simp at hu) 0 (by omega) (Value.ownBlock (.slice none 0 0));simp only [aTd,aUi,aUJ] at DA ⊢;exact ⟨_,_,hr,DA.1,DA.2,by simp [hm],Or.inr rfl⟩
  · have Rm:∀ j u,xs[j]? =some u→G (j % i.size) u:=by
      intro j u hu;rw [← XJ,aSE] at hu;split at hu
      · exact br j u (by rw [← aS1];exact hu)
      · cases hu
    by_cases XB:n+m≤cap
    · have W9:n * i.size+news.length≤cur.size:=by rw [ay,zG,← aTA];exact aSI _ XB
      have hr:=run_append_room (P:=P) w t ty e i aC aq g n cap cur aO ad m c news ay L9 κ XB W9;refine ⟨_,_,hr,⟨hlen, .inr ⟨g,cap,_,Z,WS,setRow_heap w g cur _ e _ aO,XB,r9, ?_, ?_, ?_⟩⟩,⟨Z,Z,Z,by simp,fun k _ ar=>setRow_other w g k _ (fun e=>ar (by simp [Value.ownBlock,e]))⟩,by simp,Or.inl rfl⟩
      · simp only [aTs,aR1,aRZ,aSf,aUf]
        omega
      · rw [XJ,← hlen]
        exact aVi
      · intro j u hu
        rw [XJ] at hu;have hu:((xs++news)++cur.toList.drop (n * i.size+news.length))[j]? =some u:=by simpa using hu
        by_cases az:j<(xs++news).length
        · rw [aSg az] at hu;exact agf Rm j u hu
        · rw [aSi (by omega),aS0] at hu
          rw [hlen] at hu az;rw [ay,← aTA,show (n+m) * i.size+(j - (n+m) * i.size)=j from by omega] at hu;exact br j u (by rw [← aS1];exact hu)
    · have holds:∀ j u,xs[j]? =some u→w.cell? ((⟨g,0,none⟩:Addr).add j)=some u:=fo.row.cells (g:=g) rfl
      have hr:=run_append_grow (P:=P) w t ty e i z aC aq bC ⟨g,0,none⟩ n cap xs ID holds ad m c news ay L9 (by omega) (by omega) (growslice_fits (by omega) r7);have DA:=grown Rm cap (by omega) (Value.ownBlock (.slice (some ⟨g,0,none⟩) n cap));exact ⟨_,_,hr,DA.1,DA.2,by simp,Or.inr rfl⟩

theorem aFo {o:Oper} {a:Act} {K:Act→World→Prop} {Q:Exit→Act→World→Prop} (s x:Operand) (t:TypeId)
    (b4:o.op= .call {callee:= .builtin .append,args:=#[s,x],argTypes:=#[t,t]})
    (base:Nat) (e:TypeId) (i:TypeInfo) (z:Value) (size bytes:Nat) (aC:P.underlying t=some (.slice e)) (aq:P.info? e=some i) (bC:i.zero=some z)
    (xV:i.size=size) (p8:i.bytes=bytes) (tk:z.cells.size=size) (jz:0<size) (G:Nat→Value→Prop) (xY:∀ j u,z.cells[j]? =some u→G j u)
    (v:Value) (n:Nat) (xs:List Value) (hs:a.eval s=v) (fo:Own w base e size G v n xs)
    (A:Option Addr) (m c:Nat) (news:List Value) (hx:a.eval x= .slice A m c) (hr:Rd w size A m news) (κ:∀ u∈news,u.oneCell'=true) (L7:∀ j u,news[j]? =some u→G (j % size) u)
    (rU:n+m≤maxLen) (r7:(n+m) * bytes≤140737488355328) (p6:base≤w.heap.size)
    (h:∀ v' w',Own w' base e size G v' (n+m) (xs++news)→w.grownBy w' v.ownBlock→(v'= .slice none 0 0↔v= .slice none 0 0∧m=0)→(v'.ownBlock=v.ownBlock∨v'.ownBlock=some w.heap.size)→K (a.put o.dst v') w'):o.wp P a w K Q:=by
  obtain ⟨v',w',lR,ab,aw,a6,bH⟩:=alp (P:=P) w base t o.type e i z size bytes aC aq bC xV p8 tk jz G xY v n xs fo A m c news hr κ L7 rU r7 p6;unfold Oper.wp execOp;simp only [b4,resolve,invoke,builtin,aSc,aSe,aR3,aVT,aSB,aTz,hs,hx,lR];exact h v' w' ab aw a6 bH
theorem JK {ops:Array Oper} {rest:List Oper} {o:Oper} {a:Act} {Q:Exit→Act→World→Prop} (Xd:o.guard=none) (s x:Operand) (t:TypeId)
    (b4:o.op= .call {callee:= .builtin .append,args:=#[s,x],argTypes:=#[t,t]})
    (base:Nat) (e:TypeId) (i:TypeInfo) (z:Value) (size bytes:Nat) (aC:P.underlying t=some (.slice e)) (aq:P.info? e=some i) (bC:i.zero=some z)
    (xV:i.size=size) (p8:i.bytes=bytes) (tk:z.cells.size=size) (jz:0<size) (G:Nat→Value→Prop) (xY:∀ j u,z.cells[j]? =some u→G j u)
    (v:Value) (n:Nat) (xs:List Value) (hs:a.eval s=v) (fo:Own w base e size G v n xs)
    (A:Option Addr) (m c:Nat) (news:List Value) (hx:a.eval x= .slice A m c) (hr:Rd w size A m news) (κ:∀ u∈news,u.oneCell'=true) (L7:∀ j u,news[j]? =some u→G (j % size) u)
    (rU:n+m≤maxLen) (r7:(n+m) * bytes≤140737488355328) (p6:base≤w.heap.size)
    (h:∀ v' w',Own w' base e size G v' (n+m) (xs++news)→w.grownBy w' v.ownBlock→(v'= .slice none 0 0↔v= .slice none 0 0∧m=0)→(v'.ownBlock=v.ownBlock∨v'.ownBlock=some w.heap.size)→wpList P ops Q rest (a.put o.dst v') w'):wpList P ops Q (o::rest) a w :=
  wpList_plain Xd fun _ hK=>aFo w s x t b4 base e i z size bytes aC aq bC xV p8 tk jz G xY v n xs hs fo A m c news hx hr κ L7 rU r7 p6 fun v' w' ab aw a6 bH=>hK _ _ (h v' w' ab aw a6 bH)
end
open Go.ChangeShapes Go.WideShapes Go.Deep Go.RowKit
inductive gQ where
  | int (k:IntKind)
  | bool
  | str
  | slice (e:gQ) (bytes:Nat)
  | nil
  | cons (a b:gQ)
def gQ.size:gQ→Nat
  | .int _ | .bool | .str | .slice _ _=>1
  | .nil=>0
  | .cons a b=>a.size+b.size
def partsOf (P:Program) (t:TypeId):Option (List (TypeId×Nat)):=
  match P.underlying t with
  | some (.struct fs)=>some (fs.toList.map fun f=>(f.type,f.offset))
  | some (.array n e)=>some ((List.range n).map fun i=>(e,i * P.cellsOf e))
  | _=>none
def gQ.fit (P:Program):gQ→TypeId ⊕ (Nat×List (TypeId×Nat))→Bool
  | .int k, .inl t=>match P.underlying t with | some (.int k')=>decide (k'=k) | _=>false
  | .bool, .inl t=>match P.underlying t with | some .bool=>true | _=>false
  | .str, .inl t=>match P.underlying t with | some .string=>true | _=>false
  | .slice e by_, .inl t=>match P.underlying t with | some (.slice u)=>P.cellsOf u == e.size && P.bytesOf u == by_ && e.fit P (.inl u) | _=>false
  | .nil, .inl t=>P.cellsOf t == 0 && (match P.underlying t with | some (.struct _)=>true | some (.array ..)=>true | _=>false)
  | .cons a b, .inl t=>P.cellsOf t == a.size+b.size && (match partsOf P t with
      | some ((u,o)::r)=>o == 0 && P.cellsOf u == a.size && a.fit P (.inl u) && b.fit P (.inr (a.size,r))
      | _=>false)
  | .nil, .inr (_,fs)=>fs.isEmpty
  | .cons a b, .inr (off,fs)=>match fs with
    | (u,o)::r=>o == off && P.cellsOf u == a.size && a.fit P (.inl u) && b.fit P (.inr (off+a.size,r))
    | []=>false
  | _, .inr _=>false
def gQ.jw (w:World):gQ→List Value→Prop
  | .int k,cs=>∃ n,cs= [.int k n]∧(Lit.int k n).wf=true
  | .bool,cs=>∃ b,cs= [.bool b]
  | .str,cs=>∃ s:ByteArray,cs= [.string s]∧s.size≤maxLen∧s.size≤140737488351232
  | .slice e by_,cs=>cs= [.slice none 0 0]∨∃ (a:Addr) (len cap:Nat),cs= [.slice (some a) len cap]∧len≤cap∧cap≤maxLen∧cap * by_≤140737488351232∧
      ∀ i,i<cap→∃ es:List Value,es.length=e.size∧(∀ j v,es[j]? =some v→w.cell? (a.add (i * e.size+j))=some v)∧e.jw w es
  | .nil,cs=>cs= []
  | .cons a b,cs=>∃ xs ys,cs=xs++ys∧xs.length=a.size∧ys.length=b.size∧a.jw w xs∧b.jw w ys
variable {H:Type} {enc:TypeId×Value→H} {P:Program} {w:World} {base:Nat} {held:Bool}
theorem am5 {e:TypeId} {l:List (DataW H)} {d:DataW H} (h:d∈l):∀ n∈d.weights P e,n∈DataW.weightsAll P e l:=by
  induction l with
  | nil=>cases h
  | cons x r bx =>
    intro n hn;simp only [DataW.weightsAll,aSb];rcases aSh.1 h with rfl | h
    · exact .inl hn
    · exact .inr (bx h n hn)
def J8 (enc:TypeId×Value→H) (P:Program) (w:World) (base:Nat) (held:Bool) (n:Nat) (cs:List Value) (fs:List (TypeId×Nat)) (xs:List (DataW H×List MemPlace)):Prop :=
  xs.length=fs.length∧∀ (i:Nat) (f:TypeId×Nat),fs[i]? =some f→DataW.trod enc P w base (fun _=>true) held n f.1 ((cs.drop f.2).take (P.cellsOf f.1))=xs[i]?
theorem J8.cons {n:Nat} {cs:List Value} {f:TypeId×Nat} {r:List (TypeId×Nat)} {xs:List (DataW H×List MemPlace)} (h:J8 enc P w base held n cs (f::r) xs):
    ∃ x ys,xs=x::ys∧DataW.trod enc P w base (fun _=>true) held n f.1 ((cs.drop f.2).take (P.cellsOf f.1))=some x∧J8 enc P w base held n cs r ys:=by
  obtain ⟨ay,hf⟩:=h
  match xs,ay with
  | x::ys,ay =>
    refine ⟨x,ys,Z,hf 0 f Z,by simpa using ay,fun i g aO=> ?_⟩;exact hf (i+1) g aO
def Goal (P:Program) (w:World) (sh:gQ):TypeId ⊕ (Nat×List (TypeId×Nat))→Prop
  | .inl t=>∀ (H:Type) (enc:TypeId×Value→H) (base:Nat) (held:Bool) (fuel:Nat) (cs:List Value) (x:DataW H×List MemPlace),DataW.trod enc P w base (fun _=>true) held fuel t cs=some x→(∀ n∈x.1.weights P t,n≤reachBytes)→cs.length=sh.size∧sh.jw w cs
  | .inr (off,fs)=>∀ (H:Type) (enc:TypeId×Value→H) (base:Nat) (held:Bool) (n:Nat) (cs:List Value) (xs:List (DataW H×List MemPlace)),J8 enc P w base held n cs fs xs→cs.length=off+sh.size→(∀ n∈DataW.weightsEach P (fs.map (·.1)) (xs.map (·.1)),n≤reachBytes)→sh.jw w (cs.drop off)
theorem Goal.fields {a b:gQ} (ayu:∀ t,a.fit P t=true→Goal P w a t) (ayv:∀ t,b.fit P t=true→Goal P w b t) {off:Nat} {f:TypeId×Nat} {r:List (TypeId×Nat)} (κ:f.2=off) (ab:P.cellsOf f.1=a.size) (aw:a.fit P (.inl f.1)=true) (a6:b.fit P (.inr (off+a.size,r))=true):
    Goal P w (.cons a b) (.inr (off,f::r)):=by
  intro H enc base held n cs xs hx ay hw;obtain ⟨x,ys,rfl,aC,hr⟩:=hx.cons;have ha:=ayu _ aw H enc base held n _ x aC (fun m hm=>hw m (by simp only [aSB,DataW.weightsEach,aSb];exact .inl hm));have jz:(gQ.cons a b).size=a.size+b.size:=rfl;have Φ:=ayv _ a6 H enc base held n cs ys hr (by omega) (fun m hm=>hw m (by simp only [aSB,DataW.weightsEach,aSb];exact .inr hm));rw [κ,ab] at ha;refine ⟨_,_, ?_,ha.1, ?_,ha.2,Φ⟩
  · rw [← aV6,aT0]
  · rw [aSf];omega
theorem am6 {e:TypeId}:∀ (l:List (DataW H)) (ts:List TypeId),ts.length=l.length→(∀ t∈ts,t=e)→DataW.weightsEach P ts l=DataW.weightsAll P e l
  | [], [],_,_=>rfl
  | d::l,t::ts,h,aC=>by
    rw [DataW.weightsEach,DataW.weightsAll,aC t (by simp),am6 l ts (by simpa using h) (fun u hu=>aC u (by simp [hu]))]
  | [],_::_,h,_=>by simp at h
  | _::_, [],h,_=>by simp at h
theorem amd {t:TypeId} {fs:List (TypeId×Nat)} {fuel:Nat} {cs:List Value} {x:DataW H×List MemPlace} (hp:partsOf P t=some fs) (h:DataW.trod enc P w base (fun _=>true) held fuel t cs=some x):
    cs.length=P.cellsOf t∧∃ (xs:List (DataW H×List MemPlace)) (n:Nat),J8 enc P w base held n cs fs xs∧x.1.weights P t=DataW.weightsEach P (fs.map (·.1)) (xs.map (·.1)):=by
  unfold partsOf at hp;split at hp
  · rename_i gs hu
    obtain rfl:=aRV hp;obtain ⟨xs,n,_,rfl,ay,hlen,hf⟩:=DataW.trod_struct hu h;refine ⟨ay,xs,n,⟨by rw [hlen];simp,fun i f aO=> ?_⟩, ?_⟩
    · rw [aSd] at aO
      match awC:gs.toList[i]?,aO with
      | some g,aO =>
        obtain rfl:=aRV aO;exact hf i g (by rw [← aS1];exact awC)
    · simp only [DataW.weights,hu,aUr]
      rfl
  · rename_i m e hu
    obtain rfl:=aRV hp;obtain ⟨xs,n,_,rfl,ay,hlen,hf⟩:=DataW.trod_array hu h;refine ⟨ay,xs,n,⟨by rw [hlen];simp,fun i f aO=> ?_⟩, ?_⟩
    · rw [aSd] at aO
      have aq:i<m:=by
        rcases aSZ i m with h | h
        · exact h
        · rw [aTl (by simpa using h)] at aO;cases aO
      rw [aVq aq] at aO;obtain rfl:=aRV aO;exact hf i aq
    · simp only [DataW.weights,hu]
      rw [am6 (e:=e)]
      · simp [hlen]
      · intro u hu;simp at hu;exact hu.2.symm
  · cases hp
theorem H5 (P:Program) (w:World):∀ (sh:gQ) (t:TypeId ⊕ (Nat×List (TypeId×Nat))),sh.fit P t=true→Goal P w sh t
  | .int k, .inl t,h=>by
    intro H enc base held fuel cs x aC _;unfold gQ.fit at h;split at h
    · rename_i k' hu
      obtain rfl:k'=k:=aS5 h;cases fuel with
      | zero=>simp [DataW.trod] at aC
      | succ n =>
        unfold DataW.trod at aC;rw [hu] at aC;split at aC<;>simp_all;exact ⟨Z,_,Z,aC.1.2⟩
    · cases h
  | .bool, .inl t,h=>by
    intro H enc base held fuel cs x aC _;unfold gQ.fit at h;split at h
    · rename_i hu
      cases fuel with
      | zero=>simp [DataW.trod] at aC
      | succ n =>
        unfold DataW.trod at aC;rw [hu] at aC;split at aC<;>simp_all;exact ⟨Z,_,Z⟩
    · cases h
  | .str, .inl t,h=>by
    intro H enc base held fuel cs x aC hw;unfold gQ.fit at h;split at h
    · rename_i hu
      cases fuel with
      | zero=>simp [DataW.trod] at aC
      | succ n =>
        unfold DataW.trod at aC;rw [hu] at aC;split at aC<;>simp_all;obtain ⟨κ,rfl⟩:=aC;refine ⟨Z,_,Z,κ, ?_⟩;simpa [DataW.weights,reachBytes] using hw
    · cases h
  | .slice e by_, .inl t,h=>by
    intro H enc base held fuel cs x aC hw;unfold gQ.fit at h;split at h
    · rename_i u hu
      simp only [aR2,aST] at h;obtain ⟨⟨κ,ab⟩,aw⟩:=h;rcases open_slice hu aC with ⟨rfl,_⟩ | ⟨a,len,cap,m,n,D,aHS,rfl,_,ay,hm,Q7,rfl,aq⟩
      · exact ⟨rfl, .inl rfl⟩
      · simp only [aTG] at Q7
        subst Q7;refine ⟨Z, .inr ⟨a,len,m,Z,ay,hm, ?_,fun i awF=> ?_⟩⟩
        · have:=hw ((((List.range len).map D).length+((List.range (m - len)).map fun j=>D (len+j)).length) * P.bytesOf u) (by simp [DataW.weights,hu])
          rw [ab] at this;simp only [aSK,aWU,reachBytes] at this;rw [show len+(m - len)=m from by omega] at this;exact this
        · obtain ⟨adC,hc,axW⟩:=aq i awF
          have aO:=H5 P w e (.inl u) aw H enc base held n adC _ axW (fun k ar=>hw k (by
            simp only [DataW.weights,hu,aSh,aSb];right;by_cases Is:i<len
            · exact .inl (am5 (aSt.2 ⟨i,aSC.2 Is,rfl⟩) k ar)
            · exact .inr (am5 (aSt.2 ⟨i - len,aSC.2 (by omega),by rw [show len+(i - len)=i from by omega]⟩) k ar)))
          obtain ⟨_,r8,fA⟩:=World.cells?_some hc;refine ⟨adC,aO.1,fun j v hv=> ?_,aO.2⟩;have az:j<P.cellsOf u:=by have:=(aRW.1 hv).1;omega
          rw [κ] at fA az;rw [← Go.Deep.add_add,fA j az,hv]
    · cases h
  | .nil, .inl t,h=>by
    intro H enc base held fuel cs x aC hw;unfold gQ.fit at h;simp only [aR2,aST] at h;obtain ⟨aG,κ⟩:=h;have hp:∃ fs,partsOf P t=some fs:=by
      unfold partsOf;split at κ
      · exact ⟨_,rfl⟩
      · exact ⟨_,rfl⟩
      · cases κ
    obtain ⟨fs,hp⟩:=hp;have ay:=(amd hp aC).1;rw [aG] at ay;exact ⟨ay,aSu ay⟩
  | .cons a b, .inl t,h=>by
    intro H enc base held fuel cs x aC hw;unfold gQ.fit at h;simp only [aR2,aST] at h;obtain ⟨aG,h⟩:=h;split at h
    · rename_i u o r hp
      obtain ⟨ay,xs,n,hx,he⟩:=amd hp aC;rw [aG] at ay;refine ⟨ay, ?_⟩;simp only [aR2,aST] at h;obtain ⟨⟨⟨κ,ab⟩,aw⟩,a6⟩:=h;have a6:b.fit P (.inr (0+a.size,r))=true:=by rw [aTd];exact a6
      exact Goal.fields (w:=w) (f:=(u,o)) (fun t aC=>H5 P w a t aC) (fun t aC=>H5 P w b t aC) κ ab aw a6 H enc base held n cs xs hx (by rw [ay];show _=0+(a.size+b.size);omega) (fun m hm=>hw m (by rw [he];exact hm))
    · cases h
  | .nil, .inr (off,fs),h=>by
    intro H enc base held n cs xs hx ay hw;exact aSu (by rw [aSf,ay];simp [gQ.size])
  | .cons a b, .inr (off,fs),h=>by
    unfold gQ.fit at h;split at h
    · rename_i u o r
      simp only [aR2,aST] at h;obtain ⟨⟨⟨κ,ab⟩,aw⟩,a6⟩:=h;exact Goal.fields (f:=(u,o)) (fun t aC=>H5 P w a t aC) (fun t aC=>H5 P w b t aC) κ ab aw a6
    · cases h
  | .int _, .inr _,h=>by simp [gQ.fit] at h
  | .bool, .inr _,h=>by simp [gQ.fit] at h
  | .str, .inr _,h=>by simp [gQ.fit] at h
  | .slice _ _, .inr _,h=>by simp [gQ.fit] at h
theorem akv {ts:List TypeId} {ds:List (DataW H)} (sh:gQ) {j:Nat} {t:TypeId} {v:Value} {d:DataW H} {p:List MemPlace} (W9:sh.fit P (.inl t)=true)
    (jz:(DataW.weightsEach P ts ds).all (· ≤reachBytes)=true) (aC:ts[j]? =some t) (hd:ds[j]? =some d) (h:DataW.Trod enc P w base (fun _=>true) held t v d p):
    v.cells.toList.length=sh.size∧sh.jw w v.cells.toList:=by
  obtain ⟨fuel,hf⟩:=h;exact H5 P w sh (.inl t) W9 H enc base held fuel _ (d,p) hf (fun n hn=>by
    have:=aSO.1 jz _ (DataW.weights_mem_each aC hd n hn);simpa using this)
theorem ajD {α:Type} (n:Nat) (p:Nat→α→Prop) (h:∀ i,i<n→∃ x,p i x):∃ l:List α,l.length=n∧∀ i (aq:i<l.length),p i l[i]:=by
  induction n with
  | zero=>exact ⟨[],rfl,fun i aq=>absurd aq (by simp)⟩
  | succ n bx =>
    obtain ⟨l,ay,hp⟩:=bx (fun i aq=>h i (by omega));obtain ⟨x,hx⟩:=h n (by omega);refine ⟨l++ [x],by simp [ay],fun i aq=> ?_⟩;by_cases dp:i<l.length
    · rw [aUh dp];exact hp i dp
    · have:i=n:=by simp at aq;omega
      subst this;rw [List.getElem_append_right (by omega)];simpa [ay] using hx
def de {β α:Type} (P:β→α→Prop):List β→List α→Prop
  | [], []=>True
  | b::cX,a::m=>P b a∧de P cX m
  | _,_=>False
section
variable {β α:Type} {P Q:β→α→Prop}
theorem de.length:∀ {l:List β} {m:List α},de P l m→l.length=m.length
  | [], [],_=>rfl
  | _::_,_::_,h=>by rw [aR0,aR0,de.length h.2]
  | [],_::_,h=>h.elim
  | _::_, [],h=>h.elim
theorem de.imp {l:List β} (aq:∀ b a,b∈l→P b a→Q b a):∀ {m:List α},de P l m→de Q l m:=by
  induction l with
  | nil=>intro m h;cases m with | nil=>trivial | cons=>exact h
  | cons b r bx =>
    intro m h;cases m with
    | nil=>exact h
    | cons a s=>exact ⟨aq b a (by simp) h.1,bx (fun b a Φ=>aq b a (by simp [Φ])) h.2⟩
theorem de.app:∀ {l:List β} {m:List α} {uI:List β} {m':List α},de P l m→de P uI m'→de P (l++uI) (m++m')
  | [], [],_,_,_,h=>h
  | _::_,_::_,_,_,h,c6=>⟨h.1,de.app h.2 c6⟩
  | [],_::_,_,_,h,_=>h.elim
  | _::_, [],_,_,h,_=>h.elim
theorem de.at_:∀ {l:List β} {m:List α} {i:Nat} {a:α},de P l m→m[i]? =some a→∃ b,l[i]? =some b∧P b a
  | [], [],_,_,_,h=>by simp at h
  | b::_,_::_,0,_,h,e=>⟨b,rfl,by simp at e;subst e;exact h.1⟩
  | _::_,_::_,i+1,_,h,e=>by
    obtain ⟨b,κ,ab⟩:=de.at_ (i:=i) h.2 (by simpa using e);exact ⟨b,by simpa using κ,ab⟩
  | [],_::_,_,_,h,_=>h.elim
  | _::_, [],_,_,h,_=>h.elim
theorem de.Zs:∀ {l:List β} {m:List α} {i:Nat} {b:β} {a:α},de P l m→P b a→de P (l.set i b) (m.set i a)
  | [], [],_,_,_,_,_=>trivial
  | _::_,_::_,0,_,_,h,e=>⟨e,h.2⟩
  | _::_,_::_,_+1,_,_,h,e=>⟨h.1,de.Zs h.2 e⟩
  | [],_::_,_,_,_,h,_=>h.elim
  | _::_, [],_,_,_,h,_=>h.elim
theorem de.NH:∀ {l:List β} {m:List α} (k:Nat),de P l m→de P (l.take k) (m.take k)
  | [], [],_,_=>by simp [de]
  | _::_,_::_,0,_=>trivial
  | _::_,_::_,k+1,h=>⟨h.1,de.NH k h.2⟩
  | [],_::_,_,h=>h.elim
  | _::_, [],_,h=>h.elim
theorem de.left:∀ {l:List β} {m:List α},de P l m→∀ b∈l,∃ a,P b a
  | [],_,_,b,Φ=>by simp at Φ
  | c::_, [],h,_,_=>h.elim
  | c::_,a::_,h,b,Φ=>by
    rcases aSh.1 Φ with rfl | Φ
    · exact ⟨a,h.1⟩
    · exact de.left h.2 b Φ
end
theorem Bm {k:Nat}:∀ {l:List (List Value)},(∀ x∈l,x.length=k)→l.flatten.length=l.length * k
  | [],_=>by simp
  | x::r,h=>by rw [aSP,aR1,h x (by simp),Bm (l:=r) (fun y aI=>h y (by simp [aI])),aR0,aTA];omega
theorem HY {k:Nat}:∀ {l:List (List Value)} {i j:Nat} {es:List Value},(∀ x∈l,x.length=k)→l[i]? =some es→j<k→l.flatten[i * k+j]? =es[j]?
  | [],_,_,_,_,h,_=>by simp at h
  | x::r,0,j,es,h,e,az=>by
    have e:x=es:=by simpa using e
    subst e;rw [aSP,aWq,aTd,aSg (by rw [h x (by simp)];exact az)]
  | x::r,i+1,j,es,h,e,az=>by
    have hx:=h x (by simp);rw [aSP,aSi (by rw [hx,aTA];omega),hx,show (i+1) * k+j - k=i * k+j from by rw [aTA];omega];exact HY (fun y aI=>h y (by simp [aI])) (by simpa using e) az
theorem afk {k:Nat}:∀ {l:List (List Value)} {i j:Nat} {es:List Value} (u:Value),(∀ x∈l,x.length=k)→l[i]? =some es→j<k→l.flatten.set (i * k+j) u=(l.set i (es.set j u)).flatten
  | [],_,_,_,_,_,h,_=>by simp at h
  | x::r,0,j,es,u,h,e,az=>by
    have e:x=es:=by simpa using e
    subst e;rw [aSP,aWq,aTd,List.set_append_left _ _ (by rw [h x (by simp)];exact az)];rfl
  | x::r,i+1,j,es,u,h,e,az=>by
    have hx:=h x (by simp);rw [aSP,aVc _ _ (by rw [hx,aTA];omega),hx,show (i+1) * k+j - k=i * k+j from by rw [aTA];omega,afk u (fun y aI=>h y (by simp [aI])) (by simpa using e) az];rfl
theorem afl {k:Nat}:∀ {l:List (List Value)} (i:Nat),(∀ x∈l,x.length=k)→l.flatten.take (i * k)=(l.take i).flatten
  | [],_,_=>by simp
  | x::r,0,_=>by simp
  | x::r,i+1,h=>by
    have hx:=h x (by simp);rw [aSP,aVp,aSP,aVR,hx,aSk (by rw [hx,aTA];omega),show (i+1) * k - k=i * k from by rw [aTA];omega,afl i (fun y aI=>h y (by simp [aI]))]
structure τ (α:Type) where
  size:Nat
  has:World→List Value→α→Prop
  own:World→Nat→List Nat→List Value→α→Prop
  raw:Nat→Value→Prop
  len:∀ {w cs a},has w cs a→cs.length=size
  one:∀ {w cs a},has w cs a→∀ u∈cs,u.oneCell'=true
  wK:∀ {w cs a},has w cs a→∀ (j:Nat) u,cs[j]? =some u→raw j u
  keep:∀ {w w' cs a},has w cs a→Below w.heap.size w w'→has w' cs a
  tE:∀ {w B f cs a},own w B f cs a→has w cs a
  tF:∀ {w w' B f cs a},own w B f cs a→(∀ g∈f,w'.heap[g]? =w.heap[g]?)→own w' B f cs a
  wH:∀ {w B f cs a},own w B f cs a→∀ g∈f,B≤g∧g<w.heap.size
  B5:∀ {w B rz f cs a},own w B f cs a→rz≤B→own w rz f cs a
namespace τ
variable {α β:Type} {w w':World} {B rz:Nat} {f:List Nat} {cs:List Value} {a:α}
theorem YP (R:τ α) (h:R.own w B f cs a):cs.length=R.size:=R.len (R.tE h)
def VS (size:Nat) (cells:α→List Value) (ok:α→Prop) (raw:Nat→Value→Prop) (ay:∀ a,(cells a).length=size) (κ:∀ a,∀ u∈cells a,u.oneCell'=true) (hr:∀ a,ok a→∀ (j:Nat) u,(cells a)[j]? =some u→raw j u):τ α where
  size:=size
  has:=fun _ cs a=>cs=cells a∧ok a
  own:=fun _ _ f cs a=>f= []∧cs=cells a∧ok a
  raw:=raw
  len:=by rintro w cs a ⟨rfl,_⟩;exact ay a
  one:=by rintro w cs a ⟨rfl,_⟩;exact κ a
  wK:=by rintro w cs a ⟨rfl,h⟩;exact hr a h
  keep:=fun h _=>h
  tE:=fun h=>h.2
  tF:=fun h _=>h
  wH:=by rintro w B f cs a ⟨rfl,_⟩ g aO;simp at aO
  B5:=fun h _=>h
def flat (size:Nat) (cells:α→List Value) (ok:α→Prop) (raw:Nat→Value→Prop) (ay:∀ a,(cells a).length=size) (κ:∀ a,∀ u∈cells a,u.oneCell'=true) (hr:∀ a (j:Nat) u,(cells a)[j]? =some u→raw j u):τ α where
  size:=size
  has:=fun _ cs a=>cs=cells a∧ok a
  own:=fun _ _ f cs a=>f= []∧cs=cells a∧ok a
  raw:=raw
  len:=by rintro w cs a ⟨rfl,_⟩;exact ay a
  one:=by rintro w cs a ⟨rfl,_⟩;exact κ a
  wK:=by rintro w cs a ⟨rfl,_⟩;exact hr a
  keep:=fun h _=>h
  tE:=fun h=>h.2
  tF:=fun h _=>h
  wH:=by rintro w B f cs a ⟨rfl,_⟩ g aO;simp at aO
  B5:=fun h _=>h
def pair (R:τ α) (S:τ β):τ (α×β) where
  size:=R.size+S.size
  has:=fun w cs p=>∃ xs ys,cs=xs++ys∧R.has w xs p.1∧S.has w ys p.2
  own:=fun w B f cs p=>∃ xs ys f1 f2,cs=xs++ys∧f=f1++f2∧R.own w B f1 xs p.1∧S.own w B f2 ys p.2
  raw:=fun j u=>if j<R.size then R.raw j u else S.raw (j - R.size) u
  len:=by rintro w cs p ⟨xs,ys,rfl,κ,ab⟩;rw [aR1,R.len κ,S.len ab]
  one:=by
    rintro w cs p ⟨xs,ys,rfl,κ,ab⟩ u hu;rcases aSb.1 hu with hu | hu
    · exact R.one κ u hu
    · exact S.one ab u hu
  wK:=by
    rintro w cs p ⟨xs,ys,rfl,κ,ab⟩ j u hu;by_cases az:j<R.size
    · rw [aR8 az];rw [aSg (by rw [R.len κ];exact az)] at hu;exact R.wK κ j u hu
    · rw [aR5 az];rw [aSi (by rw [R.len κ];omega),R.len κ] at hu;exact S.wK ab _ u hu
  keep:=by rintro w w' cs p ⟨xs,ys,rfl,κ,ab⟩ Φ;exact ⟨xs,ys,Z,R.keep κ Φ,S.keep ab Φ⟩
  tE:=by rintro w B f cs p ⟨xs,ys,f1,f2,rfl,rfl,κ,ab⟩;exact ⟨xs,ys,Z,R.tE κ,S.tE ab⟩
  tF:=by
    rintro w w' B f cs p ⟨xs,ys,f1,f2,rfl,rfl,κ,ab⟩ ar;exact ⟨xs,ys,f1,f2,Z,Z,R.tF κ (fun g aO=>ar g (by simp [aO])),S.tF ab (fun g aO=>ar g (by simp [aO]))⟩
  wH:=by
    rintro w B f cs p ⟨xs,ys,f1,f2,rfl,rfl,κ,ab⟩ g aO;rcases aSb.1 aO with aO | aO
    · exact R.wH κ g aO
    · exact S.wH ab g aO
  B5:=by
    rintro w B rz f cs p ⟨xs,ys,f1,f2,rfl,rfl,κ,ab⟩ Φ;exact ⟨xs,ys,f1,f2,Z,Z,R.B5 κ Φ,S.B5 ab Φ⟩
def via (R:τ α) (g:β→α):τ β where
  size:=R.size
  has:=fun w cs b=>R.has w cs (g b)
  own:=fun w B f cs b=>R.own w B f cs (g b)
  raw:=R.raw
  len:=fun h=>R.len h
  one:=fun h=>R.one h
  wK:=fun h=>R.wK h
  keep:=fun h Φ=>R.keep h Φ
  tE:=fun h=>R.tE h
  tF:=fun h ar=>R.tF h ar
  wH:=fun h=>R.wH h
  B5:=fun h Φ=>R.B5 h Φ
def ah:Option Addr→List Nat
  | none=> []
  | some a=> [a.block]
theorem az4 {A:Option Addr} {g:Nat}:g∈ah A↔∃ a,A=some a∧a.block=g:=by
  cases A with
  | none=>simp [ah]
  | some a=>simp [ah,eq_comm]
def aJ (R:τ α) (by_:Nat) (w:World) (A:Option Addr) (c:Nat) (l:List α):Prop :=
  l.length≤c∧c≤9223372036854775807∧l.length * by_≤140737488355328∧(A=none→c=0)∧
  ∃ ess,de (fun es a=>R.has w es a) ess l∧Rd w R.size A l.length ess.flatten
def aF (R:τ α) (E:TypeId) (by_:Nat) (w:World) (B:Nat) (f:List Nat) (A:Option Addr) (c:Nat) (l:List α):Prop :=
  l.length * by_≤140737488355328∧
  ∃ ps:List (List Nat×List Value),f=ah A++(ps.map (·.1)).flatten∧f.Nodup∧Own w B E R.size R.raw (.slice A l.length c) l.length (ps.map (·.2)).flatten∧
    de (fun x a=>R.own w B x.1 x.2 a) ps l
theorem aJ.keep {R:τ α} {by_:Nat} {A:Option Addr} {c:Nat} {l:List α} (h:R.aJ by_ w A c l) (Φ:Below w.heap.size w w'):R.aJ by_ w' A c l:=by
  obtain ⟨κ,ab,aw,a6,ess,bH,ch⟩:=h;exact ⟨κ,ab,aw,a6,ess,bH.imp (fun es a _ h=>R.keep h Φ),ch.later Φ⟩
theorem aJ.drewN {R:τ α} {by_:Nat} {A:Option Addr} {c:Nat} {l:List α} (h:R.aJ by_ w A c l) (k:Nat):R.aJ by_ (w.drewN k) A c l:=h.keep (below_drewN (aSr _ w) k)
theorem de.Yv {β anD α:Type} (g:β→anD) {P:anD→α→Prop}:∀ {l:List β} {m:List α},de (fun b a=>P (g b) a) l m→de P (l.map g) m
  | [], [],_=>trivial
  | _::_,_::_,h=>⟨h.1,de.Yv g h.2⟩
  | [],_::_,h=>h.elim
  | _::_, [],h=>h.elim
theorem aF.has {R:τ α} {E:TypeId} {by_:Nat} {A:Option Addr} {c:Nat} {l:List α} (h:R.aF E by_ w B f A c l):R.aJ by_ w A c l:=by
  obtain ⟨κ,ps,rfl,aw,a6,bH⟩:=h;obtain ⟨bK,b5,e,hle,hmx,Me,_,lQ⟩:=a6.shape;injection e with aZ _ bh
  subst aZ;subst bh;refine ⟨hle,by unfold maxLen at hmx;omega,κ,fun hn=>by have:=lQ hn;injection this,_,de.Yv (fun x:List Nat×List Value=>x.2) (bH.imp fun x a _ h=>R.tE h),Me⟩
theorem aF.keep {R:τ α} {E:TypeId} {by_:Nat} {A:Option Addr} {c:Nat} {l:List α} (h:R.aF E by_ w B f A c l) (ar:∀ g∈f,w'.heap[g]? =w.heap[g]?):R.aF E by_ w' B f A c l:=by
  obtain ⟨κ,ps,rfl,aw,a6,bH⟩:=h;refine ⟨κ,ps,Z,aw,a6.of_block (B:=0) fun g aO=>ar g ?_,bH.imp fun x a hx h=>R.tF h fun g aO=>ar g ?_⟩
  · cases A with
    | none=>cases aO
    | some a=>injection aO with aO;simp [ah,aO]
  · exact aSb.2 (.inr (aS7.2 ⟨x.1,aSt.2 ⟨x,hx,rfl⟩,aO⟩))
theorem aF.lt {R:τ α} {E:TypeId} {by_:Nat} {A:Option Addr} {c:Nat} {l:List α} (h:R.aF E by_ w B f A c l):∀ g∈f,B≤g∧g<w.heap.size:=by
  obtain ⟨κ,ps,rfl,aw,a6,bH⟩:=h;intro g aO;rcases aSb.1 aO with aO | aO
  · obtain ⟨a,rfl,rfl⟩:=az4.1 aO
    exact a6.row.lt _ Z
  · obtain ⟨y,aI,aO⟩:=aS7.1 aO
    obtain ⟨x,hx,rfl⟩:=aSt.1 aI;obtain ⟨a,ha⟩:=bH.left x hx;exact R.wH ha g aO
theorem aF.later {R:τ α} {E:TypeId} {by_:Nat} {A:Option Addr} {c:Nat} {l:List α} (h:R.aF E by_ w B f A c l) (Φ:Below w.heap.size w w'):R.aF E by_ w' B f A c l:=h.keep fun g aO=>Φ.block g (h.lt g aO).2
theorem aF.nodup {R:τ α} {E:TypeId} {by_:Nat} {A:Option Addr} {c:Nat} {l:List α} (h:R.aF E by_ w B f A c l):f.Nodup:=by
  obtain ⟨_,ps,rfl,aw,_⟩:=h;exact aw
theorem aF.down {R:τ α} {E:TypeId} {by_:Nat} {A:Option Addr} {c:Nat} {l:List α} (h:R.aF E by_ w B f A c l) (Φ:rz≤B):R.aF E by_ w rz f A c l:=by
  obtain ⟨κ,ps,rfl,aw,a6,bH⟩:=h;exact ⟨κ,ps,Z,aw,a6.mono Φ,bH.imp fun x a _ h=>R.B5 h Φ⟩
def slice (R:τ α) (E:TypeId) (by_:Nat):τ (List α) where
  size:=1
  has:=fun w cs l=>∃ A c,cs= [.slice A l.length c]∧R.aJ by_ w A c l
  own:=fun w B f cs l=>∃ A c,cs= [.slice A l.length c]∧R.aF E by_ w B f A c l
  raw:=fun _ u=>∃ A n c,u= .slice A n c
  len:=by rintro w cs l ⟨A,c,rfl,_⟩;rfl
  one:=by rintro w cs l ⟨A,c,rfl,_⟩ u hu;simp at hu;subst hu;rfl
  wK:=by
    rintro w cs l ⟨A,c,rfl,_⟩ j u hu;cases j with
    | zero=>simp at hu;exact ⟨_,_,_,hu.symm⟩
    | succ j=>simp at hu
  keep:=by rintro w w' cs l ⟨A,c,rfl,h⟩ Φ;exact ⟨A,c,Z,h.keep Φ⟩
  tE:=by rintro w B f cs l ⟨A,c,rfl,h⟩;exact ⟨A,c,Z,h.has⟩
  tF:=by rintro w w' B f cs l ⟨A,c,rfl,h⟩ ar;exact ⟨A,c,Z,h.keep ar⟩
  wH:=by rintro w B f cs l ⟨A,c,rfl,h⟩;exact h.lt
  B5:=by rintro w B rz f cs l ⟨A,c,rfl,h⟩ Φ;exact ⟨A,c,Z,h.down Φ⟩
theorem de.ako {β α:Type} {P:β→α→Prop}:∀ {l:List β} {m:List α},l.length=m.length→(∀ (k:Nat) b a,l[k]? =some b→m[k]? =some a→P b a)→de P l m
  | [], [],_,_=>trivial
  | b::l,a::m,ay,h=>⟨h 0 b a rfl rfl,de.ako (by simpa using ay) (fun k b a κ ab=>h (k+1) b a (by simpa using κ) (by simpa using ab))⟩
  | [],_::_,ay,_=>by simp at ay
  | _::_, [],ay,_=>by simp at ay
section
variable {R:τ α} {E:TypeId} {by_:Nat} {A:Option Addr} {c:Nat} {l:List α}
theorem lens {ess:List (List Value)} (h:de (fun es a=>R.has w es a) ess l):∀ x∈ess,x.length=R.size:=fun x hx=>by
  obtain ⟨a,ha⟩:=h.left x hx;exact R.len ha
theorem aJ.at_ (h:R.aJ by_ w A c l) (aG:0<l.length):∃ b o,A=some ⟨b,o,none⟩∧∀ (i:Nat) a,l[i]? =some a→∃ es,R.has w es a∧∀ (j:Nat) u,es[j]? =some u→w.cell? ⟨b,o+(i * R.size+j),none⟩=some u:=by
  obtain ⟨_,_,_,_,ess,bH,ch,dZ⟩:=h;obtain ⟨b,o,e,hc⟩:=dZ aG;refine ⟨b,o,e,fun i a ha=> ?_⟩;obtain ⟨es,gh,zA⟩:=bH.at_ ha;refine ⟨es,zA,fun j u hu=>hc _ u ?_⟩;have az:=(aRW.1 hu).1;rw [R.len zA] at az;rw [HY (lens bH) gh az];exact hu
theorem aJ.ze {Q:α→Prop} (I:∀ {w cs a},R.has w cs a→Q a) (h:R.aJ by_ w A c l):∀ a∈l,Q a:=by
  obtain ⟨_,_,_,_,ess,bH,_⟩:=h;intro a ha;obtain ⟨i,aq,rfl⟩:=aSV.1 ha;obtain ⟨es,_,he⟩:=bH.at_ (aRX aq);exact I he
theorem I2 {e:gQ} (he:∀ w cs,e.jw w cs→∃ a,R.has w cs a) (hs:e.size=R.size) (aG:0<R.size) {cs:List Value} (h:(gQ.slice e by_).jw w cs):∃ A c l,cs= [.slice A (List.length l) c]∧R.aJ by_ w A c l:=by
  rcases h with rfl | ⟨a,len,cap,rfl,ay,hm,hr,aq⟩
  · exact ⟨none,0, [],rfl,aR7 _,by simp,by simp,fun _=>rfl, [],trivial,Rd.zero w R.size none⟩
  · obtain ⟨ess,hlen,FZ⟩:=ajD len (fun i es=>List.length es=e.size∧(∀ j v,es[j]? =some v→w.cell? (a.add (i * e.size+j))=some v)∧e.jw w es) (fun i F0=>aq i (by omega))
    obtain ⟨l,pd,Q1⟩:=ajD len (fun i x=>∃ es,ess[i]? =some es∧R.has w es x) (fun i F0=>by
      obtain ⟨x,hx⟩:=he w (ess[i]'(by omega)) (FZ i (by omega)).2.2;exact ⟨x,_,aRX _,hx⟩)
    have dK:de (fun es x=>R.has w es x) ess l:=by
      refine de.ako (by omega) fun k es x κ ab=> ?_;have ar:=(aRW.1 ab);obtain ⟨p_,iA⟩:=ar;obtain ⟨aJL,aw,a6⟩:=Q1 k p_;rw [κ] at aw;obtain rfl:=aRV aw;rw [← iA];exact a6
    refine ⟨some a,cap,l,by rw [pd],by omega,by unfold maxLen at hm;omega, ?_,fun h=>(by cases h),ess,dK,by rw [Bm (lens dK),dK.length],fun aJ8=> ?_⟩
    · have:=aSI by_ ay
      rw [pd];omega
    · obtain ⟨b,off,spot⟩:=a
      have m7:=(FZ 0 (by omega)).2.1 0;obtain ⟨v,hv⟩:∃ v,(ess[0]'(by omega))[0]? =some v:=by
        have:=(FZ 0 (by omega)).1;exact ⟨_,aRX (by omega)⟩
      have s_:=m7 v hv;have BH:spot=none:=by simpa [Addr.add] using World.cell?_spot s_
      subst BH;refine ⟨b,off,Z,fun j u hu=> ?_⟩;have bz:=(aRW.1 hu).1;rw [Bm (lens dK)] at bz;have az:j % R.size<R.size:=aT6 _ aG;have hd:j / R.size<ess.length:=by rw [aVb aG];exact bz
      have Ri:j / R.size * R.size+j % R.size=j:=by rw [aTe];exact aVZ j R.size
      have ch:=HY (j:=j % R.size) (lens dK) (i:=j / R.size) (es:=ess[j / R.size]'hd) (aRX hd) az;rw [Ri,hu] at ch;have dZ:=(FZ (j / R.size) hd).2.1 _ u ch.symm;rw [Hy,hs,Ri] at dZ;exact dZ
theorem aJ.eE {A:Option Addr} {c:Nat} {l:List α} {by_:Nat} {R:τ α} (h:R.aJ by_ w A c l):l.length≤9223372036854775807:=aSs h.1 h.2.1
theorem aJ.NH {A:Option Addr} {c:Nat} {l:List α} {by_:Nat} {R:τ α} (h:R.aJ by_ w A c l) (k:Nat):R.aJ by_ w A c (l.take k):=by
  obtain ⟨κ,ab,aw,a6,ess,bH,ch⟩:=h;have ay:(l.take k).length≤l.length:=by rw [aRZ];omega
  have hm:=aSI by_ ay;have dZ:=bH.NH k;refine ⟨by omega,ab,by omega,a6,ess.take k,dZ,by rw [Bm (lens dZ),dZ.length],fun aG=> ?_⟩;obtain ⟨b,o,e,hc⟩:=ch.2 (by omega);refine ⟨b,o,e,fun j u hu=>hc j u ?_⟩;rw [← afl k (lens bH),aSE] at hu;split at hu
  · exact hu
  · cases hu
theorem aJ.nil (w:World):R.aJ by_ w none 0 []:=⟨aR7 _,by simp,by simp,fun _=>rfl, [],trivial,Rd.zero w R.size none⟩
theorem aF.nil (w:World):R.aF E by_ w B [] none 0 []:=⟨by simp, [],rfl,aV5,Own.nil w B E R.size R.raw,trivial⟩
end
def Fg (R:τ α) (E:TypeId) (by_:Nat) (w:World) (B:Nat) (aB:List Nat) (g c:Nat) (l:List α) (i:Nat) (es:List Value):Prop :=
  l.length * by_≤140737488355328∧ 
  ∃ ps:List (List Nat×List Value),aB=g::(ps.map (·.1)).flatten∧aB.Nodup∧Own w B E R.size R.raw (.slice (some ⟨g,0,none⟩) l.length c) l.length (ps.map (·.2)).flatten∧
    ps[i]? =some ([],es)∧es.length=R.size∧ps.length=l.length∧∀ k a,k≠i→l[k]? =some a→∃ x,ps[k]? =some x∧R.own w B x.1 x.2 a
section
variable {R:τ α} {E:TypeId} {by_:Nat} {A:Option Addr} {c:Nat} {l:List α} {g i:Nat} {es:List Value} {aB:List Nat}
theorem RZ {ps:List (List Nat×List Value)} (h:de (fun x a=>R.own w B x.1 x.2 a) ps l):∀ x∈ps.map (·.2),x.length=R.size:=fun x hx=>by
  obtain ⟨y,aI,rfl⟩:=aSt.1 hx;obtain ⟨a,ha⟩:=h.left y aI;exact R.YP ha
theorem aF.block (h:R.aF E by_ w B f A c l) (aG:0<l.length):∃ g,A=some ⟨g,0,none⟩:=by
  obtain ⟨_,ps,_,_,a6,_⟩:=h;obtain ⟨_,bH⟩:=a6;rcases bH with ⟨_,bH⟩ | ⟨g,cap,cur,hv,_⟩
  · omega
  · injection hv with hv;exact ⟨g,hv⟩
theorem Fg.lens (h:R.Fg E by_ w B aB g c l i es):∃ ps:List (List Nat×List Value),aB=g::(ps.map (·.1)).flatten∧aB.Nodup∧Own w B E R.size R.raw (.slice (some ⟨g,0,none⟩) l.length c) l.length (ps.map (·.2)).flatten∧
    ps[i]? =some ([],es)∧es.length=R.size∧ps.length=l.length∧(∀ k a,k≠i→l[k]? =some a→∃ x,ps[k]? =some x∧R.own w B x.1 x.2 a)∧∀ x∈ps.map (·.2),x.length=R.size:=by
  obtain ⟨_,ps,ab,aw,a6,bH,ch,dZ,gh⟩:=h;refine ⟨ps,ab,aw,a6,bH,ch,dZ,gh,fun x hx=> ?_⟩;obtain ⟨k,ar,rfl⟩:=aSV.1 hx;rw [aSK] at ar;rw [aUU];by_cases p':k=i
  · subst p'
    rw [aRX ar] at bH;rw [aRV bH];exact ch
  · obtain ⟨y,aI,b4⟩:=gh k (l[k]'(by omega)) p' (aRX _)
    rw [aRX ar] at aI;rw [aRV aI];exact R.YP b4
theorem Fg.keep (h:R.Fg E by_ w B aB g c l i es) (ar:∀ x∈aB,w'.heap[x]? =w.heap[x]?):R.Fg E by_ w' B aB g c l i es:=by
  obtain ⟨κ,ps,ab,aw,a6,bH,ch,dZ,gh⟩:=h;refine ⟨κ,ps,ab,aw,a6.of_block (B:=0) (fun x hx=>ar x ?_),bH,ch,dZ,fun k a p' ha=> ?_⟩
  · injection hx with hx;rw [ab,← hx];simp
  · obtain ⟨x,hx,b4⟩:=gh k a p' ha
    refine ⟨x,hx,R.tF b4 fun y aI=>ar y ?_⟩;rw [ab];exact aSa _ (aS7.2 ⟨x.1,aSt.2 ⟨x,aSo hx,Z⟩,aI⟩)
theorem Fg.cell (h:R.Fg E by_ w B aB g c l i es) (aq:i<l.length) {j:Nat} {u:Value} (hu:es[j]? =some u):w.cell? ⟨g,i * R.size+j,none⟩=some u:=by
  obtain ⟨ps,ab,aw,a6,bH,ch,dZ,gh,ay⟩:=h.lens;have az:j<R.size:=by rw [← ch];exact (aRW.1 hu).1
  have:=a6.cell (i * R.size+j) (by
    have:(i+1) * R.size≤l.length * R.size:=aSI _ aq;rw [aTA] at this;omega)
  rw [this,HY ay (by rw [aSd,bH];rfl) az];exact hu
theorem aF.free (h:R.aF E by_ w B f (some ⟨g,0,none⟩) c l) (j:Nat):w.frozen? ⟨g,j,none⟩=false:=by
  obtain ⟨_,ps,rfl,_,a6,_⟩:=h;exact a6.free j
end

section
variable {P:Program} {R:τ α} {by_:Nat}
theorem R0 (A:Option Addr) (n c:Nat):(Value.slice A n c).ownBlock.toList=ah A:=by cases A<;>rfl
theorem aCz (ty:TypeId) (base:Nat) (t e:TypeId) (i:TypeInfo) (z:Value) (aC:P.underlying t=some (.slice e)) (aq:P.info? e=some i) (bC:i.zero=some z)
    (xV:i.size=R.size) (p8:i.bytes=by_) (tk:z.cells.size=R.size) (jz:0<R.size) (xY:∀ (j:Nat) u,z.cells[j]? =some u→R.raw j u)
    (f:List Nat) (A:Option Addr) (c:Nat) (l:List α) (h:R.aF e by_ w base f A c l)
    (cZ:Option Addr) (m c2:Nat) (k:List α) (ld:List (List Nat×List Value)) (I:de (fun x a=>R.own w base x.1 x.2 a) ld k) (hm:k.length=m) (hr:Rd w R.size cZ m (ld.map (·.2)).flatten)
    (j4:(f++(ld.map (·.1)).flatten).Nodup) (rU:l.length+m≤9223372036854775807) (r7:(l.length+m) * by_≤140737488355328) (p6:base≤w.heap.size):
    ∃ bK b5 f' w',(Builtin.append_ #[t,t] ty #[.slice A l.length c, .slice cZ m c2]).run P w= .ok (.slice bK (l.length+m) b5) w'∧R.aF e by_ w' base f' bK b5 (l++k)∧w.grownBy w' (Value.slice A l.length c).ownBlock∧(bK=A∨∃ a,bK=some a∧a.block=w.heap.size)∧(∀ x∈f',x∈f∨x∈(ld.map (·.1)).flatten∨x=w.heap.size)∧(bK=none↔A=none∧m=0)∧base≤w'.heap.size:=by
  obtain ⟨κ,ps,rfl,aw,a6,bH⟩:=h;have L9:∀ (j:Nat) u,(ld.map (·.2)).flatten[j]? =some u→R.raw (j % R.size) u:=by
    intro j u hu;have ay:=RZ I;have bz:=(aRW.1 hu).1;rw [Bm ay,aSK] at bz;have az:j % R.size<R.size:=aT6 _ jz;have hd:j / R.size<ld.length:=by rw [aVb jz];exact bz
    have aLd:ld[j / R.size]? =some (ld[j / R.size]'hd):=aRX hd;have awU:k[j / R.size]? =some (k[j / R.size]'(by rw [← I.length];exact hd)):=aRX _;obtain ⟨x,hx,b4⟩:=I.at_ awU;have:=HY (j:=j % R.size) ay (i:=j / R.size) (es:=x.2) (by rw [aSd,hx];rfl) az;rw [show j / R.size * R.size+j % R.size=j from by rw [aTe];exact aVZ j R.size,hu] at this;exact R.wK (R.tE b4) _ u this.symm
  have pe:∀ u∈(ld.map (·.2)).flatten,u.oneCell'=true:=by
    intro u hu;obtain ⟨y,aI,hu⟩:=aS7.1 hu;obtain ⟨x,hx,rfl⟩:=aSt.1 aI;obtain ⟨a,ha⟩:=I.left x hx;exact R.one (R.tE ha) u hu
  obtain ⟨v',w',lR,fo,j2,m8,fA⟩:=alp (P:=P) w base t ty e i z R.size by_ aC aq bC xV p8 tk jz R.raw xY _ _ _ a6 cZ m c2 _ hr pe L9 (by unfold maxLen;omega) r7 p6;obtain ⟨bK,b5,rfl,hle,hmx,Me,Ii,lQ⟩:=fo.shape;have aw7:∀ x,(Value.slice A l.length c).ownBlock=some x→x∈ah A:=fun x hx=>by rw [← R0 A l.length c,hx];simp
  have hA:∀ x∈ah bK,x∈ah A∨x=w.heap.size:=by
    intro x hx;rw [← R0 bK (l.length+m) b5] at hx;rcases fA with fA | fA
    · rw [fA,R0] at hx;exact .inl hx
    · rw [fA] at hx;simp at hx;exact .inr hx
  have Xv:∀ x∈ps,∀ y∈x.1,y<w.heap.size∧y∉ah A:=by
    intro x hx y aI;obtain ⟨a,ha⟩:=bH.left x hx;refine ⟨(R.wH ha y aI).2,fun Φ=> ?_⟩;rw [aSN] at aw;exact aw.2.2 y Φ y (aS7.2 ⟨x.1,aSt.2 ⟨x,hx,Z⟩,aI⟩) Z
  have axF:∀ x∈ld,∀ y∈x.1,y<w.heap.size∧y∉ah A:=by
    intro x hx y aI;obtain ⟨a,ha⟩:=I.left x hx;refine ⟨(R.wH ha y aI).2,fun Φ=> ?_⟩;rw [aSN] at j4;exact j4.2.2 y (aVk _ Φ) y (aS7.2 ⟨x.1,aSt.2 ⟨x,hx,Z⟩,aI⟩) Z
  have av7:∀ y,y<w.heap.size→y∉ah A→w'.heap[y]? =w.heap[y]? :=fun y aI hn=>j2.block y aI fun e=>hn (aw7 y e.symm);have Xk:∀ x∈ps++ld,∀ y∈x.1,y<w.heap.size∧y∉ah A:=fun x hx=>by
    rcases aSb.1 hx with hx | hx
    · exact Xv x hx
    · exact axF x hx
  refine ⟨bK,b5,ah bK++((ps++ld).map (·.1)).flatten,w',lR,⟨by rw [aR1,hm];exact r7,ps++ld,rfl, ?_, ?_, ?_⟩,j2, ?_, ?_, ?_,aSs p6 j2.size⟩
  · rw [aSA,← aUd,← aSm,aSN] at j4
    rw [aSN];refine ⟨by cases bK<;>simp [ah],j4.2.1,fun x hx y aI e=> ?_⟩;subst e;obtain ⟨z,bC,aI⟩:=aS7.1 aI;obtain ⟨v,hv,rfl⟩:=aSt.1 bC;have ch:=Xk v hv x aI;rcases hA x hx with dZ | dZ
    · exact ch.2 dZ
    · omega
  · rw [aSm,aUd,aR1,hm];exact fo
  · exact (bH.app I).imp fun x a hx b4=>R.tF b4 fun y aI=>av7 y (Xk x hx y aI).1 (Xk x hx y aI).2
  · rcases fA with fA | fA
    · cases bK with
      | none =>
        cases A with
        | none=>exact .inl rfl
        | some a=>cases fA
      | some a' =>
        cases A with
        | none=>cases fA
        | some a =>
          obtain ⟨_,ch⟩:=a6;obtain ⟨_,dZ⟩:=fo;rcases ch with ⟨ch,_⟩ | ⟨g,cap,cur,ch,_⟩
          · cases ch
          rcases dZ with ⟨dZ,_⟩ | ⟨g',aJh,Da,dZ,_⟩
          · cases dZ
          injection ch with ch
          injection dZ with dZ
          rw [ch,dZ] at fA ⊢;injection fA with fA
          have fA:g'=g:=fA
          left;rw [fA]
    · cases bK with
      | none=>cases fA
      | some a'=>injection fA with fA;exact .inr ⟨a',Z,fA⟩
  · intro x hx
    rcases aSb.1 hx with hx | hx
    · rcases hA x hx with h | h
      · exact .inl (aVk _ h)
      · exact .inr (.inr h)
    · rw [aSm,aUd] at hx
      rcases aSb.1 hx with hx | hx
      · exact .inl (aVd _ hx)
      · exact .inr (.inl hx)
  · have FK:A=none→Value.slice A l.length c= .slice none 0 0:=fun e=>by
      obtain ⟨_,_,jd,_,_,_,_,axi⟩:=a6.shape;injection jd with aZ _ bh
      subst aZ;subst bh;exact axi e
    constructor
    · intro e
      obtain ⟨ch,dZ⟩:=m8.1 (lQ e);injection ch with ch
      exact ⟨ch,dZ⟩
    · rintro ⟨e,aG⟩
      have:=m8.2 ⟨FK e,aG⟩;injection this
theorem aFp {o:Oper} {a:Act} {K:Act→World→Prop} {Q:Exit→Act→World→Prop} (s x:Operand) (base:Nat) (t e:TypeId) (i:TypeInfo) (z:Value) (aC:P.underlying t=some (.slice e)) (aq:P.info? e=some i) (bC:i.zero=some z)
    (xV:i.size=R.size) (p8:i.bytes=by_) (tk:z.cells.size=R.size) (jz:0<R.size) (xY:∀ (j:Nat) u,z.cells[j]? =some u→R.raw j u)
    (f:List Nat) (A:Option Addr) (c:Nat) (l:List α) (h:R.aF e by_ w base f A c l)
    (cZ:Option Addr) (m c2:Nat) (k:List α) (ld:List (List Nat×List Value)) (I:de (fun x a=>R.own w base x.1 x.2 a) ld k) (hm:k.length=m) (hr:Rd w R.size cZ m (ld.map (·.2)).flatten)
    (j4:(f++(ld.map (·.1)).flatten).Nodup) (rU:l.length+m≤9223372036854775807) (r7:(l.length+m) * by_≤140737488355328) (p6:base≤w.heap.size)
    (b4:o.op= .call {callee:= .builtin .append,args:=#[s,x],argTypes:=#[t,t]}) (hs:a.eval s= .slice A l.length c) (hx:a.eval x= .slice cZ m c2)
    (hK:∀ bK b5 f' w',R.aF e by_ w' base f' bK b5 (l++k)∧w.grownBy w' (Value.slice A l.length c).ownBlock∧(bK=A∨∃ a,bK=some a∧a.block=w.heap.size)∧(∀ x∈f',x∈f∨x∈(ld.map (·.1)).flatten∨x=w.heap.size)∧(bK=none↔A=none∧m=0)∧base≤w'.heap.size→K (a.put o.dst (.slice bK (l.length+m) b5)) w'):o.wp P a w K Q:=by
  obtain ⟨bK,b5,f',w',lR,ab⟩:=aCz (P:=P) (w:=w) o.type base t e i z aC aq bC xV p8 tk jz xY f A c l h cZ m c2 k ld I hm hr j4 rU r7 p6;unfold Oper.wp execOp;simp only [b4,resolve,invoke,builtin,aSc,aSe,aR3,aVT,aSB,aTz,hs,hx,lR];exact hK bK b5 f' w' ab
theorem aFm {ops:Array Oper} {rest:List Oper} {o:Oper} {a:Act} {Q:Exit→Act→World→Prop} (Xd:o.guard=none) (s x:Operand) (base:Nat) (t e:TypeId) (i:TypeInfo) (z:Value) (aC:P.underlying t=some (.slice e)) (aq:P.info? e=some i) (bC:i.zero=some z)
    (xV:i.size=R.size) (p8:i.bytes=by_) (tk:z.cells.size=R.size) (jz:0<R.size) (xY:∀ (j:Nat) u,z.cells[j]? =some u→R.raw j u)
    (f:List Nat) (A:Option Addr) (c:Nat) (l:List α) (h:R.aF e by_ w base f A c l)
    (cZ:Option Addr) (m c2:Nat) (k:List α) (ld:List (List Nat×List Value)) (I:de (fun x a=>R.own w base x.1 x.2 a) ld k) (hm:k.length=m) (hr:Rd w R.size cZ m (ld.map (·.2)).flatten)
    (j4:(f++(ld.map (·.1)).flatten).Nodup) (rU:l.length+m≤9223372036854775807) (r7:(l.length+m) * by_≤140737488355328) (p6:base≤w.heap.size)
    (b4:o.op= .call {callee:= .builtin .append,args:=#[s,x],argTypes:=#[t,t]}) (hs:a.eval s= .slice A l.length c) (hx:a.eval x= .slice cZ m c2)
    (hK:∀ bK b5 f' w',R.aF e by_ w' base f' bK b5 (l++k)∧w.grownBy w' (Value.slice A l.length c).ownBlock∧(bK=A∨∃ a,bK=some a∧a.block=w.heap.size)∧(∀ x∈f',x∈f∨x∈(ld.map (·.1)).flatten∨x=w.heap.size)∧(bK=none↔A=none∧m=0)∧base≤w'.heap.size→wpList P ops Q rest (a.put o.dst (.slice bK (l.length+m) b5)) w'):wpList P ops Q (o::rest) a w :=
  wpList_plain Xd fun _ avp=>aFp s x base t e i z aC aq bC xV p8 tk jz xY f A c l h cZ m c2 k ld I hm hr j4 rU r7 p6 b4 hs hx fun bK b5 f' w' ab=>avp _ _ (hK bK b5 f' w' ab)
def Plain (R:τ α):Prop:=∀ {w B cs a},R.has w cs a→R.own w B [] cs a
theorem o' {size:Nat} {cells:α→List Value} {ok:α→Prop} {raw:Nat→Value→Prop} {ay κ hr}:(flat size cells ok raw ay κ hr).Plain:=fun h=>⟨rfl,h⟩
theorem auu {size:Nat} {cells:α→List Value} {ok:α→Prop} {raw:Nat→Value→Prop} {ay κ hr}:(VS size cells ok raw ay κ hr).Plain:=fun h=>⟨rfl,h⟩
theorem de.plain {ess:List (List Value)} {l:List α} (hp:R.Plain) (h:de (fun es a=>R.has w es a) ess l):de (fun x a=>R.own w B x.1 x.2 a) (ess.map fun es=>(([]:List Nat),es)) l :=
  de.Yv (P:=fun (x:List Nat×List Value) a=>R.own w B x.1 x.2 a) (fun es=>(([]:List Nat),es)) (h.imp fun _ _ _ h=>hp h)
theorem akK (ess:List (List Value)):((ess.map fun es=>(([]:List Nat),es)).map (·.1)).flatten= []∧(ess.map fun es=>(([]:List Nat),es)).map (·.2)=ess:=by
  constructor
  · induction ess with
    | nil=>rfl
    | cons x r bx=>simp
  · rw [aUr]
    exact List.map_id' ess
theorem aF.B6 {E:TypeId} {A:Option Addr} {c:Nat} {l:List α} (hp:R.Plain) {ess:List (List Value)} (h:de (fun es a=>R.has w es a) ess l) (Φ:l.length * by_≤140737488355328) (b4:Own w B E R.size R.raw (.slice A l.length c) l.length ess.flatten):R.aF E by_ w B (ah A) A c l:=by
  obtain ⟨aZ,bh⟩:=akK ess;exact ⟨Φ,_,by rw [aZ,aSz],by cases A<;>simp [ah],by rw [bh];exact b4,de.plain hp h⟩
theorem aF.auH {E:TypeId} {A:Option Addr} {c:Nat} {l:List α} (hp:∀ {w B f cs a},R.own w B f cs a→f= []) (h:R.aF E by_ w B f A c l):f=ah A:=by
  obtain ⟨_,ps,rfl,_,_,bH⟩:=h;have:(ps.map (·.1)).flatten= []:=by
    rw [aWn];intro x hx;obtain ⟨y,aI,rfl⟩:=aSt.1 hx;obtain ⟨a,ha⟩:=bH.left y aI;exact hp ha
  rw [this,aSz]
end
end τ

theorem HZ {α:Type} {R:τ α} {w:World} {ess:List (List Value)} {l:List α} (h:de (fun es a=>R.has w es a) ess l) (aG:0<R.size) {j:Nat} {u:Value} (hu:ess.flatten[j]? =some u):R.raw (j % R.size) u:=by
  have ay:=τ.lens h;have bz:=(aRW.1 hu).1;rw [Bm ay] at bz;have az:j % R.size<R.size:=aT6 _ aG;have hd:j / R.size<ess.length:=by rw [aVb aG];exact bz
  have Ri:j / R.size * R.size+j % R.size=j:=by rw [aTe];exact aVZ j R.size
  have ch:=HY (j:=j % R.size) ay (i:=j / R.size) (es:=ess[j / R.size]'hd) (aRX hd) az;rw [Ri,hu] at ch;obtain ⟨a,ha⟩:=h.left _ (aS8 hd);exact R.wK ha _ u ch.symm
namespace τ
variable {α:Type} {w w':World} {B:Nat} {f:List Nat} {R:τ α} {E:TypeId} {A:Option Addr} {by_ g c:Nat} {l:List α}
def xe (R:τ α):Prop:=R.Plain∧∀ {w B f cs a},R.own w B f cs a→f= []
theorem dI {size:Nat} {cells:α→List Value} {ok:α→Prop} {raw:Nat→Value→Prop} {ay κ hr}:(flat size cells ok raw ay κ hr).xe:=⟨o',fun h=>h.1⟩
theorem aut {size:Nat} {cells:α→List Value} {ok:α→Prop} {raw:Nat→Value→Prop} {ay κ hr}:(VS size cells ok raw ay κ hr).xe:=⟨auu,fun h=>h.1⟩
theorem aF.aCZ (h:R.aF E by_ w B f (some ⟨g,0,none⟩) c l) (hp:R.xe) {i j:Nat} {a a':α} {u:Value} (aq:l[i]? =some a) (az:j<R.size) (hu:∀ cs,R.has w cs a→R.has (w.setCell ⟨g,i * R.size+j,none⟩ u) (cs.set j u) a'):
    R.aF E by_ (w.setCell ⟨g,i * R.size+j,none⟩ u) B f (some ⟨g,0,none⟩) c (l.set i a'):=by
  obtain ⟨Φ,ps,rfl,hn,b4,dK⟩:=h;obtain ⟨x,hx,Mn⟩:=dK.at_ aq;have ay:=RZ dK;have F7:x.1= []:=hp.2 Mn;have ID:x.2.length=R.size:=R.YP Mn;have ag8:=hu x.2 (R.tE Mn);have q0:R.raw j u:=R.wK ag8 j u (by rw [aSl (by omega)]);have zA:=b4.stored (i * R.size+j) u (by rw [aTe,aUB,aTh az];exact q0);rw [afk u ay (i:=i) (es:=x.2) (by rw [aSd,hx];rfl) az] at zA;have bz:=(aRW.1 hx).1;have aZ:(ps.set i (x.1,x.2.set j u)).map (·.1)=ps.map (·.1):=by
    rw [aS6];have:(ps.map (·.1))[i]? =some x.1:=by rw [aSd,hx];rfl
    obtain ⟨ab,aw⟩:=aRW.1 this
    conv=>lhs;rw [← aw]
    exact aTI _
  have bh:(ps.set i (x.1,x.2.set j u)).map (·.2)=(ps.map (·.2)).set i (x.2.set j u):=by rw [aS6]
  have W2:∀ y∈ps,∀ q∈y.1,q≠g:=fun y aI q I e=>by
    obtain ⟨b,FQ⟩:=dK.left y aI;rw [hp.2 FQ] at I;simp at I
  have WN:de (fun x a=>R.own (w.setCell ⟨g,i * R.size+j,none⟩ u) B x.1 x.2 a) ps l:=dK.imp fun y a aI Rn=>R.tF Rn fun q I=>aVO _ _ _ _ (W2 y aI q I);refine ⟨by rw [aR4];exact Φ,ps.set i (x.1,x.2.set j u),by rw [aZ],hn,by rw [aR4,bh];exact zA, ?_⟩;exact WN.Zs (P:=fun (x:List Nat×List Value) a=>R.own (w.setCell ⟨g,i * R.size+j,none⟩ u) B x.1 x.2 a) (by rw [F7];exact hp.1 ag8)
theorem aF.other (h:R.aF E by_ w B f A c l) {p:Addr} (hp:p.block∉f) (u:Value):R.aF E by_ (w.setCell p u) B f A c l :=
  h.keep fun g aO=>aVO _ _ _ _ fun e=>hp (e ▸ aO)
theorem aF.drewN (h:R.aF E by_ w B f A c l) (k:Nat):R.aF E by_ (w.drewN k) B f A c l:=h.keep fun _ _=>rfl
theorem aF.drew (h:R.aF E by_ w B f A c l):R.aF E by_ w.drew B f A c l:=h.keep fun _ _=>rfl
end τ
def cN (n lo aq:Int):Bool:=decide (lo≤n) && decide (n≤aq)
theorem k6 {n lo aq:Int} (h:cN n lo aq=true):lo≤n∧n≤aq:=by simpa [cN] using h
theorem ayw {n lo aq:Int} (h:cN n lo aq=false):n<lo∨aq<n:=by
  simp [cN] at h;omega
theorem pj {n lo aq:Int} (κ:lo≤n) (ab:n≤aq):cN n lo aq=true:=by simp [cN,κ,ab]
theorem qc {n lo aq:Int} (h:n<lo∨aq<n):cN n lo aq=false:=by
  cases Φ:cN n lo aq with
  | false=>rfl
  | true=>have:=k6 Φ;omega
def gx {α:Type} (p:α→Bool) (l:List α):Int:=match l.findIdx? p with | some k=>(k:Int) | none=> -1
theorem F9 {α:Type} {p:α→Bool} {l:List α} {k:Nat} (ar:k<l.length) (κ:p l[k]=true) (ab:∀ j (az:j<k),p (l[j]'(by omega))=false):gx p l=(k:Int):=by
  unfold gx;have:l.findIdx? p=some k:=by
    rw [aUo];exact ⟨ar,κ,fun j az=>by rw [ab j az];simp⟩
  rw [this]
theorem F8 {α:Type} {p:α→Bool} {l:List α} (ab:∀ j (az:j<l.length),p l[j]=false):gx p l= -1:=by
  unfold gx;have:l.findIdx? p=none:=by
    rw [aUK];intro x hx;obtain ⟨j,az,rfl⟩:=aSV.1 hx;exact ab j az
  rw [this]
theorem Mq {α:Type} (p:α→Bool) (l:List α):decide (0≤gx p l)=l.any p:=by
  by_cases h:∀ j (az:j<l.length),p l[j]=false
  · rw [F8 h]
    have:l.any p=false:=by
      rw [aUt];intro x hx;obtain ⟨j,az,rfl⟩:=aSV.1 hx;rw [h j az];simp
    rw [this];rfl
  · have:l.any p=true:=by
      rw [aS9];simp only [Classical.not_forall] at h;obtain ⟨j,az,h⟩:=h;exact ⟨l[j],aS8 az,by simpa using h⟩
    rw [this];unfold gx;cases hf:l.findIdx? p with
    | none =>
      rw [aUK] at hf;rw [aS9] at this;obtain ⟨x,hx,hp⟩:=this;rw [hf x hx] at hp;cases hp
    | some k=>simp
theorem XT {α:Type} (p:α→Bool) (l:List α):gx p l= -1∧(∀ x∈l,p x=false)∨∃ (k:Nat) (h:k<l.length),gx p l=(k:Int)∧p l[k]=true∧∀ j (az:j<k),p (l[j]'(by omega))=false:=by
  unfold gx;cases hf:l.findIdx? p with
  | none=>exact .inl ⟨rfl,fun x hx=>aUK.1 hf x hx⟩
  | some k =>
    obtain ⟨κ,ab,aw⟩:=aUo.1 hf;exact .inr ⟨k,κ,Z,ab,fun j az=>by have:=aw j az;simpa using this⟩
open Go.RowKit Go.Maps

def jk (w:World) (b:Nat) (es:Array MapEntry) (clock:Nat):World:=Go.ChangeMaps.setBlock w b (.map es clock)
theorem D' {w:World} {b:Nat} {es:Array MapEntry} {clock:Nat} (h:b<w.heap.size):(jk w b es clock).heap[b]? =some (.map es clock):=by
  simp [jk,Go.ChangeMaps.setBlock,h]
theorem NA {w:World} {b g:Nat} {es:Array MapEntry} {clock:Nat} (h:g≠b):(jk w b es clock).heap[g]? =w.heap[g]? :=by
  simp [jk,Go.ChangeMaps.setBlock,aTP (aUF h)]
theorem alE {w:World} {b:Nat} {es:Array MapEntry} {clock:Nat}:(jk w b es clock).heap.size=w.heap.size:=by
  simp [jk,Go.ChangeMaps.setBlock]
theorem aCX {B:Nat} {a w:World} {b:Nat} {es:Array MapEntry} {clock:Nat} (h:Below B a w) (Φ:B≤b):Below B a (jk w b es clock):=
  h.trans ⟨rfl,rfl,rfl,by simp [alE],fun k ar=>NA (by omega)⟩
def dH {gA:Type} (key:gA→Value) (e:gA×Int×Nat):MapEntry:=⟨key e.1, .int .i64 e.2.1,e.2.2⟩
structure dE {gA:Type} (key:gA→Value) (w:World) (b:Nat) (l:List (gA×Int×Nat)) (clock:Nat):Prop where
  fy:w.heap[b]? =some (.map (l.map (dH key)).toArray clock)
  born:∀ e∈l,e.2.2<clock
  stamps:(l.map (·.2.2)).Nodup
structure T6 {gA:Type} (P:Program) (k:TypeId) (key:gA→Value) (wf:gA→Prop):Prop where
  keyed:Keyed P k
  lit:∀ x,wf x→∃ l,keyOf P k (key x)=some l
  inj:∀ x y,key x=key y→x=y
namespace dE
section
variable {gA:Type} {key:gA→Value} {w:World} {b:Nat} {l:List (gA×Int×Nat)} {clock:Nat}
theorem lt (h:dE key w b l clock):b<w.heap.size:=(aSy.1 h.fy).1
theorem keep {w':World} (h:dE key w b l clock) (ar:w'.heap[b]? =w.heap[b]?):dE key w' b l clock:=⟨ar.trans h.fy,h.born,h.stamps⟩
theorem later {w':World} (h:dE key w b l clock) (Φ:Below w.heap.size w w'):dE key w' b l clock:=h.keep (Φ.block b h.lt)
theorem made (w:World):dE key (w.alloc (.map #[] 0)) w.heap.size [] 0:=⟨aUM w _,(by simp),(by simp)⟩
theorem ayX {P:Program} {k:TypeId} {wf:gA→Prop} (K:T6 P k key wf) (hw:∀ e∈l,wf e.1):∀ y∈l.map (dH key),∃ z,keyOf P k y.key=some z:=by
  intro y aI;obtain ⟨a,ha,rfl⟩:=aSt.1 aI;exact K.lit a.1 (hw a ha)
end
variable {gA:Type} [DecidableEq gA] {key:gA→Value} {w:World} {b:Nat} {l:List (gA×Int×Nat)} {clock:Nat}
def get (l:List (gA×Int×Nat)) (x:gA):Option Int:=(l.find? fun e=>decide (e.1=x)).map (·.2.1)
def put (l:List (gA×Int×Nat)) (clock:Nat) (x:gA) (v:Int):List (gA×Int×Nat):=
  if l.any (fun e=>decide (e.1=x)) then l.map (fun e=>if e.1=x then (e.1,v,e.2.2) else e) else l++ [(x,v,clock)]
def tick (l:List (gA×Int×Nat)) (clock:Nat) (x:gA):Nat:=if l.any (fun e=>decide (e.1=x)) then clock else clock+1
theorem Bs (l:List (gA×Int×Nat)) (c:Nat) (x y:gA) (v:Int):get (put l c x v) y=if y=x then some v else get l y:=by
  unfold get put;by_cases h:l.any (fun e=>decide (e.1=x))=true
  · rw [aR8 h]
    induction l with
    | nil=>simp at h
    | cons e r bx =>
      rw [aSB];by_cases hex:e.1=x
      · rw [aR8 hex]
        by_cases aI:y=x
        · subst aI
          rw [aU0 (by simp [hex])];simp
        · rw [aR5 aI,aTU (by simp [hex,aUF aI]),aTU (by simp [hex,aUF aI])]
          by_cases hr:r.any (fun e=>decide (e.1=x))=true
          · have:=bx hr
            rw [aR5 aI] at this;exact this
          · have e0:r.map (fun e=>if e.1=x then (e.1,v,e.2.2) else e)=r:=by
              conv=>rhs;rw [← List.map_id r]
              refine aWF fun a ha=> ?_;rw [aR5];rfl;intro he;exact hr (aS9.2 ⟨a,ha,by simp [he]⟩)
            rw [e0]
      · rw [aR5 hex]
        have hr:r.any (fun e=>decide (e.1=x))=true:=by simpa [hex] using h
        by_cases LU:e.1=y
        · have aye:¬ y=x:=fun h=>hex (LU.trans h)
          rw [aU0 (by simp [LU]),aU0 (by simp [LU]),aR5 aye]
        · rw [aTU (by simp [LU]),aTU (by simp [LU])]
          exact bx hr
  · rw [aR5 h,List.find?_append]
    by_cases aI:y=x
    · subst aI
      have:l.find? (fun e=>decide (e.1=y))=none:=by
        rw [aSY];intro e he hd;exact h (aS9.2 ⟨e,he,hd⟩)
      rw [this];simp
    · rw [aR5 aI]
      cases l.find? (fun e=>decide (e.1=y))<;>simp [aUF aI]
theorem Yx {l:List (gA×Int×Nat)} {c:Nat} {x:gA} {v:Int} {wf:gA→Prop} (ay:∀ e∈l,wf e.1) (hx:wf x):∀ e∈put l c x v,wf e.1:=by
  intro e he;unfold put at he;split at he
  · obtain ⟨a,ha,rfl⟩:=aSt.1 he
    split
    · exact ay a ha
    · exact ay a ha
  · rcases aSb.1 he with he | he
    · exact ay e he
    · simp at he;subst he;exact hx
theorem iM {l:List (gA×Int×Nat)} (hn:(l.map (·.1)).Nodup) {j n:Nat} {x:gA} {v:Int} (az:l[j]? =some (x,v,n)):get l x=some v:=by
  unfold get;induction l generalizing j with
  | nil=>simp at az
  | cons e r bx =>
    rw [aSB,aU4] at hn;cases j with
    | zero=>simp at az;subst az;simp
    | succ j =>
      have az:r[j]? =some (x,v,n):=by simpa using az
      have:e.1≠x:=fun he=>hn.1 (aSt.2 ⟨(x,v,n),aSo az,he.symm⟩);rw [aTU (by simpa using this)];exact bx hn.2 az
theorem IE {l:List (gA×Int×Nat)} (hn:(l.map (·.1)).Nodup) (c:Nat) (x:gA) (v:Int):((put l c x v).map (·.1)).Nodup:=by
  unfold put;split
  · rw [aUr]
    have:((fun e:gA×Int×Nat=>e.1) ∘ fun e=>if e.1=x then (e.1,v,e.2.2) else e)=fun e=>e.1:=by
      funext e;simp only [Function.comp];split<;>rfl
    rw [this];exact hn
  · rename_i h
    rw [aSm,aSN];refine ⟨hn,by simp,fun a ha c hc e=> ?_⟩;simp at hc;obtain ⟨y,aI,rfl⟩:=aSt.1 ha;exact h (aS9.2 ⟨y,aI,by simp [e,hc]⟩)
variable {P:Program} {k e t:TypeId} {wf:gA→Prop} (K:T6 P k key wf)
include K
theorem found (h:dE key w b l clock) (hw:∀ e∈l,wf e.1) (x:gA) (hx:wf x):
    ((Instr.findKey k (key x) (l.map (dH key))).run P w= .ok none w∧get l x=none∧∀ a∈l,a.1≠x)∨
    ∃ (j:Nat) (v:Int) (n:Nat),(Instr.findKey k (key x) (l.map (dH key))).run P w= .ok (some (j, .int .i64 v)) w∧l[j]? =some (x,v,n):=by
  obtain ⟨cQ,sf⟩:=K.lit x hx;rcases K.keyed.find w sf (l.map (dH key)) (ayX K hw) with ⟨κ,ab⟩ | ⟨j,e0,κ,ab,aw⟩
  · have j5:∀ a∈l,a.1≠x:=fun a ha Bx=>ab (dH key a) (aSt.2 ⟨a,ha,rfl⟩) (by simp [dH,Bx])
    refine .inl ⟨κ, ?_,j5⟩;unfold get;rw [aSY.2 fun a ha=>by simpa using j5 a ha];rfl
  · rw [aSd] at ab
    cases az:l[j]? with
    | none=>rw [az] at ab;cases ab
    | some a =>
      rw [az] at ab;obtain rfl:=aRV ab;obtain rfl:a.1=x:=K.inj _ _ aw;exact .inr ⟨j,a.2.1,a.2.2,κ,az⟩
theorem lookup (aC:P.underlying t=some (.map k e)) (bC:(zeroValue e).run P w= .ok (.int .i64 0) w) (h:dE key w b l clock) (hw:∀ e∈l,wf e.1) (hn:(l.map (·.1)).Nodup) (x:gA) (hx:wf x):
    (Instr.lookup t (.map (some b)) (key x) false).run P w= .ok (.int .i64 ((get l x).getD 0)) w∧
    (Instr.lookup t (.map (some b)) (key x) true).run P w= .ok (.tuple #[.int .i64 ((get l x).getD 0), .bool (get l x).isSome]) w:=by
  obtain ⟨cQ,sf⟩:=K.lit x hx;rcases found K h hw x hx with ⟨κ,ab,_⟩ | ⟨j,v,n,κ,ab⟩
  · rw [ab]
    constructor<;>simp [Instr.lookup,aTa aC,aSQ h.fy,K.keyed.check w _ sf,κ,bC,Result.andThen]
  · rw [iM hn ab]
    constructor<;>simp [Instr.lookup,aTa aC,aSQ h.fy,K.keyed.check w _ sf,κ,Result.andThen]
theorem entry (aC:P.underlying t=some (.map k e)) (bC:∀ u:World,(zeroValue e).run P u= .ok (.int .i64 0) u) (h:dE key w b l clock) (hw:∀ e∈l,wf e.1) (hn:(l.map (·.1)).Nodup) (x:gA) (hx:wf x):
    ∃ (st:Nat) (eu:List (gA×Int×Nat)) (c1:Nat),(∀ n,(Instr.mapEntry t (.map (some b)) (key x)).run P (w.drewN n)= .ok (.tuple #[.int .i64 ((get l x).getD 0), .int .i64 (st:Int)]) ((jk w b (eu.map (dH key)).toArray c1).drewN n))∧
      dE key (jk w b (eu.map (dH key)).toArray c1) b eu c1∧(∀ e∈eu,wf e.1)∧(eu.map (·.1)).Nodup∧get eu x=some ((get l x).getD 0)∧
      ∀ v n,(Instr.entryStore t (.map (some b)) (.int .i64 (st:Int)) (.int .i64 v)).run P ((jk w b (eu.map (dH key)).toArray c1).drewN n)= .ok () ((jk w b ((put l clock x v).map (dH key)).toArray (tick l clock x)).drewN n)∧
        dE key (jk w b ((put l clock x v).map (dH key)).toArray (tick l clock x)) b (put l clock x v) (tick l clock x):=by
  obtain ⟨cQ,sf⟩:=K.lit x hx;have Φ:=h.fy;have bz:=h.lt;have FU:∀ n,(w.drewN n).heap[b]? =some (.map (l.map (dH key)).toArray clock):=fun n=>Φ;have idxOf:∀ (m:List (gA×Int×Nat)) (j:Nat) (a:gA×Int×Nat),(m.map (·.2.2)).Nodup→m[j]? =some a→((m.map (dH key)).toArray).findIdx? (fun y=>((y.born:Nat):Int)== ((a.2.2:Nat):Int))=some j:=by
    intro m j a hm az;rw [aWl];refine aWf (l:=m.map (dH key)) (j:=j) (e0:=dH key a) ?_ (by rw [aSd,az];rfl);rw [aUr];exact hm
  rcases found K h hw x hx with ⟨κ,ab,aw⟩ | ⟨j,v0,n0,κ,ab⟩
  · have p4:l.any (fun e=>decide (e.1=x))=false:=by
      rw [aWW];intro ha;obtain ⟨a,ha,hd⟩:=aS9.1 ha;exact aw a ha (by simpa using hd)
    have DL:∀ v,put l clock x v=l++ [(x,v,clock)]:=fun v=>by unfold put;rw [aR5 (by rw [p4];decide)]
    have XK:tick l clock x=clock+1:=by unfold tick;rw [aR5 (by rw [p4];decide)]
    have iO:∀ v,dE key (jk w b ((l++ [(x,v,clock)]).map (dH key)).toArray (clock+1)) b (l++ [(x,v,clock)]) (clock+1):=fun v=>by
      refine ⟨D' bz,fun a ha=> ?_, ?_⟩
      · rcases aSb.1 ha with ha | ha
        · have:=h.born a ha;omega
        · simp at ha;subst ha;simp
      · rw [aSm,aSN]
        refine ⟨h.stamps,by simp,fun a ha c hc e=> ?_⟩;simp at hc;obtain ⟨y,aI,rfl⟩:=aSt.1 ha;have:=h.born y aI;omega
    have We:∀ n,(Instr.findKey k (key x) (l.map (dH key))).run P (w.drewN n)= .ok none (w.drewN n):=fun n=>by
      rcases found (w:=w.drewN n) K ⟨FU n,h.born,h.stamps⟩ hw x hx with ⟨κ,_,_⟩ | ⟨j,v,m,_,az⟩
      · exact κ
      · exact absurd rfl (aw _ (aSo az))
    refine ⟨clock,l++ [(x,0,clock)],clock+1,fun n=> ?_,iO 0,fun a ha=> ?_, ?_, ?_,fun v n=> ?_⟩
    · rw [ab]
      have:(l.map (dH key)).toArray.push (⟨key x, .int .i64 0,clock⟩:MapEntry)=((l++ [(x,0,clock)]).map (dH key)).toArray:=by simp [dH]
      simp [Instr.mapEntry,aTa aC,aSQ (FU n),K.keyed.check (w.drewN n) false sf,We n,bC,aTi _ (FU n),Result.andThen,jk,Go.ChangeMaps.setBlock,goInt,dH];rfl
    · rcases aSb.1 ha with ha | ha
      · exact hw a ha
      · simp at ha;subst ha;exact hx
    · have:=IE hn clock x 0
      rw [DL] at this;exact this
    · have:=Bs l clock x x 0
      rw [DL,aR8 rfl] at this;rw [this,ab];rfl
    · rw [DL,XK]
      refine ⟨?_,iO v⟩;have et:=idxOf (l++ [(x,0,clock)]) l.length (x,0,clock) (iO 0).stamps (by simp);have L1:((l++ [(x,0,clock)]).map (dH key)).toArray.modify l.length (fun e=> {e with val:=Value.int .i64 v})=((l++ [(x,v,clock)]).map (dH key)).toArray:=by
        apply aTq;rw [aUe];have hlen:l.length=(l.map (dH key)).length:=by simp
        rw [hlen];simp only [aSm,aSB,aTz];rw [Go.WideElems.modify_last];rfl
      have cP:((jk w b ((l++ [(x,0,clock)]).map (dH key)).toArray (clock+1)).drewN n).heap[b]? =some (.map ((l++ [(x,0,clock)]).map (dH key)).toArray (clock+1)):=D' bz;have lR:(Instr.entryStore t (.map (some b)) (goInt clock) (.int .i64 v)).run P ((jk w b ((l++ [(x,0,clock)]).map (dH key)).toArray (clock+1)).drewN n)= .ok () (jk ((jk w b ((l++ [(x,0,clock)]).map (dH key)).toArray (clock+1)).drewN n) b ((l++ [(x,v,clock)]).map (dH key)).toArray (clock+1)):=by
        rw [← L1];simp only [Instr.entryStore,aSc,aSQ cP,aR3,asInt,asIntOf,goInt,aSe];rw [et];exact aTi _ cP
      refine lR.trans ?_;simp [jk,Go.ChangeMaps.setBlock,World.drewN]
  · have p4:l.any (fun e=>decide (e.1=x))=true:=aS9.2 ⟨_,aSo ab,by simp⟩
    have DL:∀ v,put l clock x v=l.map (fun e=>if e.1=x then (e.1,v,e.2.2) else e):=fun v=>by unfold put;rw [aR8 p4]
    have XK:tick l clock x=clock:=by unfold tick;rw [aR8 p4]
    have agM:=iM hn ab;have wk:∀ v,l.map (fun e=>if e.1=x then (e.1,v,e.2.2) else e)=l.set j (x,v,n0):=by
      intro v;refine aTN fun i=> ?_;rw [aSd];by_cases j3:j=i
      · subst j3
        rw [ab,aSl (aRW.1 ab).1];simp
      · rw [aSp j3]
        cases aq:l[i]? with
        | none=>rfl
        | some a =>
          have:a.1≠x:=by
            intro Bx;have F0:=(aRW.1 aq);have LX:=(aRW.1 ab);have aZ:(l.map (·.1))[i]? =(l.map (·.1))[j]? :=by rw [aSd,aSd,aq,ab];simp [Bx]
            obtain ⟨qZ,_⟩:=F0;obtain ⟨pd,_⟩:=LX;have:=(aVH (by simpa using qZ) hn).1 aZ;exact j3 this.symm
          simp [this]
    have We:∀ n,(Instr.findKey k (key x) (l.map (dH key))).run P (w.drewN n)= .ok (some (j, .int .i64 v0)) (w.drewN n):=fun n=>by
      rcases found (w:=w.drewN n) K ⟨FU n,h.born,h.stamps⟩ hw x hx with ⟨_,_,aw⟩ | ⟨ayK,v,m,FJ,az⟩
      · exact absurd rfl (aw (x,v0,n0) (aSo ab))
      · have aZ:(l.map (·.1))[ayK]? =(l.map (·.1))[j]? :=by rw [aSd,aSd,az,ab];rfl
        have:=(aVH (by simpa using (aRW.1 az).1) hn).1 aZ;subst this;rw [ab] at az;injection az with az
        injection az with _ az
        injection az with awM _
        rw [FJ,awM]
    have iO:∀ v,dE key (jk w b ((l.set j (x,v,n0)).map (dH key)).toArray clock) b (l.set j (x,v,n0)) clock:=fun v=>by
      refine ⟨D' bz,fun a ha=> ?_, ?_⟩
      · rcases aTJ ha with ha | ha
        · exact h.born a ha
        · rw [ha];exact h.born (x,v0,n0) (aSo ab)
      · rw [aS6]
        have:(l.map (·.2.2)).set j n0=l.map (·.2.2):=by
          have aw5:=(aRW.1 ab);obtain ⟨qZ,pd⟩:=aw5;have e:(l.map (·.2.2))[j]'(by simpa using qZ)=n0:=by rw [aUU,pd]
          conv=>lhs;rw [← e]
          exact aTI _
        rw [this];exact h.stamps
    refine ⟨n0,l,clock,fun n=> ?_,⟨D' bz,h.born,h.stamps⟩,hw,hn,by rw [agM];rfl,fun v n=> ?_⟩
    · rw [agM]
      have az:(l.map (dH key)).toArray[j]? =some (dH key (x,v0,n0)):=by simp [ab]
      have XE:(l.map (dH key)).toArray.modify j (fun e=> {e with key:=key x})=(l.map (dH key)).toArray:=by
        apply aTq;rw [aUe,aT2 _ _ _ _ (by rw [aSd,ab];rfl)];exact aWx _ _ _ (by rw [aSd,ab];rfl)
      have Xj:(dH key (x,v0,n0)).key=key x:=rfl;have WT:(dH key (x,v0,n0)).born=n0:=rfl;simp only [Instr.mapEntry,aSc,aTa aC,aR3,aSQ (FU n),K.keyed.check (w.drewN n) false sf,We n,az,aTv,aS2,Xj,K.keyed.stays (w.drewN n) sf,XE,aTi _ (FU n),WT,aSe];rfl
    · rw [DL,XK,wk]
      refine ⟨?_,iO v⟩;have et:=idxOf l j (x,v0,n0) h.stamps ab;have L1:(l.map (dH key)).toArray.modify j (fun e=> {e with val:=Value.int .i64 v})=((l.set j (x,v,n0)).map (dH key)).toArray:=by
        apply aTq;rw [aUe,aT2 _ _ _ _ (by rw [aSd,ab];rfl),aS6];rfl
      have cP:((jk w b (l.map (dH key)).toArray clock).drewN n).heap[b]? =some (.map (l.map (dH key)).toArray clock):=D' bz;have lR:(Instr.entryStore t (.map (some b)) (goInt n0) (.int .i64 v)).run P ((jk w b (l.map (dH key)).toArray clock).drewN n)= .ok () (jk ((jk w b (l.map (dH key)).toArray clock).drewN n) b ((l.set j (x,v,n0)).map (dH key)).toArray clock):=by
        rw [← L1];simp only [Instr.entryStore,aSc,aSQ cP,aR3,asInt,asIntOf,goInt,aSe];rw [et];exact aTi _ cP
      refine lR.trans ?_;simp [jk,Go.ChangeMaps.setBlock,World.drewN]
end dE

theorem alq {P:Program} {w:World} {o:Oper} {a:Act} (f:FuncId) (fn:Func) (hf:P.funcs[f]? =some fn) (hn:(fn.name == "runtime.NumGoroutine")=false) (Φ:fn.body.isNone=false)
    (xs:Array Operand) (ts:Array TypeId) (wj:o.op=Op.call {callee:=Callee.value (Operand.func f),args:=xs,argTypes:=ts}) (args:Array Value) (QN:xs.map a.eval=args):
    (execOp a.eval o).run P w= .ok (.enter f args) w:=by
  unfold execOp;have he:a.eval (.func f)= .func (.func f) #[] #[]:=rfl;have hp:Sem.run P program w= .ok P w:=rfl;simp only [wj,resolve,invoke,Deferred.ofValue,he,callFunc,aSc,aSe,aR3,QN,hp,hf,hn,Φ,aUJ,Array.append_empty,aSG,aTm]
theorem Sw {P:Program} {ops:Array Oper} {o:Oper} {a:Act} {w:World} {K:Act→World→Prop} {Q:Exit→Act→World→Prop} {E:Prop}
    (aO:o.guard=none) (f:FuncId) (fn:Func) (hf:P.funcs[f]? =some fn) (hn:(fn.name == "runtime.NumGoroutine")=false) (Φ:fn.body.isNone=false)
    (xs:Array Operand) (ts:Array TypeId) (wj:o.op=Op.call {callee:=Callee.value (Operand.func f),args:=xs,argTypes:=ts}) (args:Array Value) (QN:xs.map a.eval=args)
    (hc:Calls P f args w fun e w'=>∃ v,e= .returned v∧K (a.put o.dst v) w'):
    if Region.wanted o (yielded ops a.tmps)=true then Oper.wp P o a w K Q else E:=by
  have hw:Region.wanted o (yielded ops a.tmps)=true:=by simp [Region.wanted,aO]
  rw [aR8 hw];unfold Oper.wp;rw [alq f fn hf hn Φ xs ts wj args QN,Oper.upon_enter];refine hc.mono fun e lZ fV=> ?_;obtain ⟨v,rfl,h⟩:=fV;exact h
theorem oq {wr aT w':World} (h:Below wr.heap.size wr aT) (ab:Below aT.heap.size aT w'):Below wr.heap.size wr w':=h.trans (ab.mono h.size)
theorem acX {wr aT w':World} (h:Below wr.heap.size wr aT) (ab:Below aT.drew.heap.size aT.drew w'):Below wr.heap.size wr w':=h.drew.trans (ab.mono h.size)
theorem Td {P:Program} {id:Nat} {Q:Exit→Act→World→Prop} {a:Act} {w:World} {l:List Oper} (hm:P.follows .mixedOrders=true) (bf:Region.lexB .any l.toArray=true)
    (h:wpQuiet P l.toArray (fun w'=>Below w.heap.size w w') (fun a'=>∀ w',Below w.heap.size w w'→Q .normal a' w') l a):(Code.region id l.toArray true).wp P Q a w :=
  wp_region_quiet (C:=fun w'=>Below w.heap.size w w') hm bf (below_drewN (aSr _ w) 1) (by simpa using h)
theorem aCi {P:Program} {o:Oper} {a:Act} {C:World→Prop} {w:World} {v:Value} (h:(execOp a.eval o).run P w= .ok (.value v) w):o.quietAt P a C w v:=by
  unfold Oper.quietAt;rw [h];exact ⟨Z,Z⟩
theorem aCh {P:Program} {o:Oper} {a:Act} {C:World→Prop} {w:World} {v:Value} {f:FuncId} {args:Array Value} (h:(execOp a.eval o).run P w= .ok (.enter f args) w) (hc:Calls P f args w fun e lZ=>e= .returned v∧C lZ):o.quietAt P a C w v:=by
  unfold Oper.quietAt;rw [h];exact ⟨Z,hc⟩
theorem Sd {P:Program} {o:Oper} {a:Act} {C:World→Prop} {w:World} {v:Value} {r:Result Next} (h:(execOp a.eval o).run P w=r) (hr:r= .ok (.value v) w):o.quietAt P a C w v:=aCi (h.trans hr)
theorem Sc {P:Program} {o:Oper} {a:Act} {C:World→Prop} {w:World} {v:Value} {f:FuncId} {args:Array Value} {r:Result Next} (h:(execOp a.eval o).run P w=r) (hr:r= .ok (.enter f args) w) (hc:Calls P f args w fun e lZ=>e= .returned v∧C lZ):o.quietAt P a C w v:=aCh (h.trans hr) hc
abbrev Ext (w w':World):Prop:=Below w.heap.size w w'
theorem Ext.bN (w:World):Ext w w:=aSr _ w
theorem Ext.uU {a b c:World} (h:Ext a b) (k:Ext b c):Ext a c:=Below.trans h (aWm k h.size)
section
variable {P:Program} {ops:Array Oper} {Q:Exit→Act→World→Prop} {a7:Nat→Nat}
def zY (P:Program) (w:World) (v:Value):Result Next→Prop
  | .ok (.value u) w'=>w'=w∧u=v
  | .ok .skip w'=>w'=w∧v=undef
  | .ok (.enter f args) w'=>w'=w∧Calls P f args w (fun e lZ=>e= .returned v∧Ext w lZ)
  | _=>False
def uh (P:Program) (ops:Array Oper) (w0:World) (o:Oper) (v:Value) (a:Act):Prop :=
  (Region.wanted o (yielded ops a.tmps)=true∧∀ w,Ext w0 w→zY P w v ((execOp a.eval o).run P w))∨
  (Region.wanted o (yielded ops a.tmps)=false∧v=undef)
theorem uh.of_same {w0:World} {o:Oper} {v:Value} {a a':Act} (h:uh P ops w0 o v a) (he:execOp a'.eval o=execOp a.eval o) (hw:Region.wanted o (yielded ops a'.tmps)=Region.wanted o (yielded ops a.tmps)):uh P ops w0 o v a':=by
  unfold uh at *;rw [he,hw];exact h
theorem uh.on {w0 aT:World} {o:Oper} {v:Value} {a:Act} (h:uh P ops w0 o v a) (hx:Ext w0 aT):uh P ops aT o v a :=
  h.imp (fun ⟨κ,ab⟩=>⟨κ,fun w hw=>ab w (hx.uU hw)⟩) id
theorem Yields.ala {w0:World} {o:Oper} {v:Value} {a:Act} (h:Yields P ops o v a):uh P ops w0 o v a :=
  h.imp (fun ⟨κ,ab⟩=>⟨κ,fun w _=>by rw [ab w];exact ⟨rfl,rfl⟩⟩) id
def aDp (P:Program) (ops:Array Oper) (Q:Exit→Act→World→Prop) (a7:Nat→Nat) (i:Nat) (K:Act→World→Prop) (a:Act) (w0:World):Prop :=
  ∃ o,ops[i]? =some o∧
    ((a7 i≤1∧∃ v,uh P ops w0 o v a∧K (a.put o.dst v) w0)∨
     (1<a7 i∧∀ w,Ext w0 w→wpOp P ops Q i (fun a' w'=>(a7 i=2→Ext w0 w')∧K a' w') a w))
def C4 (P:Program) (ops:Array Oper) (Q:Exit→Act→World→Prop) (a7:Nat→Nat):Nat→Array Bool→Act→World→Prop
  | 0,l,a,w0=>Region.ready .any ops l= []∧∀ w,Ext w0 w→Q .normal a w
  | f+1,l,a,w0=>(Region.ready .any ops l= []→∀ w,Ext w0 w→Q .normal a w)∧∀ i∈Region.ready .any ops l,aDp P ops Q a7 i (C4 P ops Q a7 f (l.setIfInBounds i true)) a w0
theorem C5:∀ (f:Nat) (l:Array Bool) (a:Act) (w0:World),C4 P ops Q a7 f l a w0→∀ w,Ext w0 w→wpAny P .any ops Q f l a w
  | 0,_,_,_,h,w,hw=>⟨h.1,h.2 w hw⟩
  | f+1,l,a,w0,h,w,hw=>⟨fun aG=>h.1 aG w hw,fun i aq=>by
      obtain ⟨o,b4,ab⟩:=h.2 i aq;rcases ab with ⟨_,v,I,ar⟩ | ⟨_,ab⟩
      · unfold wpOp
        simp only [b4];rcases I with ⟨mN,I⟩ | ⟨mN,rfl⟩
        · rw [aR8 mN]
          refine .inl ?_;have I:=I w hw;unfold Oper.wp;generalize (execOp a.eval o).run P w=r at *
          cases r with
          | ok n w' =>
            cases n<;>simp only [zY] at I<;>simp only [Oper.upon]
            case value u=>obtain ⟨rfl,rfl⟩:=I;exact C5 f _ _ _ ar _ hw
            case skip=>obtain ⟨rfl,rfl⟩:=I;exact C5 f _ _ _ ar _ hw
            case enter f' args=>obtain ⟨rfl,hc⟩:=I;exact hc.mono fun e lZ ⟨he,hx⟩=>by subst he;exact C5 f _ _ _ ar _ (hw.uU hx)
          | halt x w'=>simp only [zY] at I
        · rw [aR5 (by rw [mN];decide)]
          exact C5 f _ _ _ ar _ hw
      · exact aUg (fun a' w' aw=>C5 f _ _ _ aw.2 _ (Ext.bN w')) (ab w hw)⟩
theorem aag {aD:Act→Prop} {j:Nat} {dst:Option Tmp} {dg:Oper} {v:Value} (az:ops[j]? =some dg) (κ:∀ d,dst=some d→d∉dg.looksAt ops) (ab:∀ d,dst=some d→dg.dst≠some d)
    (xW:∀ cs b,dg.op≠ .select cs b) (iy:∀ c a w,¬ Q (.panic c) a w) (keep:∀ a u,aD a→aD (a.put dg.dst u)) (ayQ:∀ a d,aD a→aD {a with defers:=d::a.defers})
    {K:Act→World→Prop} {a:Act} {w:World} (aI:aD a) (h:wpOp P ops Q j K (a.put dst v) w):wpOp P ops Q j (fun a' w'=>aD a'∧K (a'.put dst v) w') a w:=by
  unfold wpOp at *
  simp only [az] at *
  rw [aUL dg a dst v κ] at h;by_cases hw:Region.wanted dg (yielded ops a.tmps)=true
  · rw [aR8 hw] at h ⊢
    rcases h with h | ⟨agc,aw3⟩
    case inr=>exact .inr ⟨by unfold Oper.asks at *;rw [aUA dg xW a dst v κ] at agc;exact agc,aw3⟩
    refine .inl ?_;unfold Oper.wp at *
    rw [aUA dg xW a dst v κ] at h;generalize (execOp a.eval dg).run P w=r at *
    cases r with
    | ok n w' =>
      cases n<;>simp only [Oper.upon] at h ⊢
      case value u=>exact ⟨keep a u aI,by rw [← aTY a v u ab];exact h⟩
      case skip=>exact ⟨keep a _ aI,by rw [← aTY a v undef ab];exact h⟩
      case defer d =>
        refine ⟨keep _ _ (ayQ a d aI), ?_⟩;rw [← aTY _ v undef ab,← Act.put_defers];exact h
      case enter f args =>
        refine aVP h fun e lZ he=> ?_;cases e with
        | returned u=>exact ⟨keep a u aI,by rw [← aTY a v u ab];exact he⟩
        | panicked c=>exact (iy _ _ _ he).elim
        | outgrown=>exact he
      case row row args=>exact Rows.mono h fun u lZ he=>⟨keep a u aI,by rw [← aTY a v u ab];exact he⟩
    | halt x w' =>
      cases x<;>simp only [Oper.upon] at h ⊢
      case panic u=>exact (iy _ _ _ h).elim
  · rw [aR5 hw] at h ⊢
    exact ⟨keep a _ aI,by rw [← aTY a v undef ab];exact h⟩
theorem Ql {i:Nat} {dB:Oper} {v:Value} (aq:ops[i]? =some dB) (ar:a7 i≤1) (nO:∀ (j:Nat) (o:Oper) cs b,ops[j]? =some o→o.op≠ .select cs b)
    (iy:∀ c a w,¬ Q (.panic c) a w) (aD:World→Act→Prop) (lp:∀ w0 a,aD w0 a→uh P ops w0 dB v a)
    (z2:∀ w0 a a',aD w0 a→execOp a'.eval dB=execOp a.eval dB→Region.wanted dB (yielded ops a'.tmps)=Region.wanted dB (yielded ops a.tmps)→aD w0 a')
    (z3:∀ w0 aT a,Ext w0 aT→aD w0 a→aD aT a) (R:Nat→Bool) (xZ:Array Bool)
    (hR:∀ j dg,ops[j]? =some dg→j≠i→(∀ e∈dg.after,Region.binds .any e=true→R e.on=true)→R j=true)
    (bf:(∀ w0 aT a,aD w0 a→aD aT a)∨∀ j,R j=true→3≤a7 j→xZ.getD j true=true):
    ∀ (f:Nat) (l:Array Bool) (a:Act) (w0:World),(∀ j,l.getD j false=true→R j=true)→(∀ j,xZ.getD j true=true→l.getD j true=true)→
      (∀ j dg,ops[j]? =some dg→j≠i→l.getD j true=false→(∀ e∈dg.after,Region.binds .any e=true→e.on≠i)→dB.apart ops dg=true)→
      i∈Region.ready .any ops l→aD w0 a→C4 P ops Q a7 f (l.setIfInBounds i true) (a.put dB.dst v) w0→C4 P ops Q a7 (f+1) l a w0:=by
  intro f;induction f with
  | zero =>
    intro l a w0 _ _ _ hr bC H;refine ⟨fun h=>(by rw [h] at hr;cases hr),fun j az=> ?_⟩;by_cases hV:j=i
    · subst hV;exact ⟨dB,aq, .inl ⟨ar,v,lp _ _ bC,H⟩⟩
    · have:=aUp az hV
      rw [H.1] at this;cases this
  | succ f bx =>
    intro l a w0 DD DB Dx hr bC H;refine ⟨fun h=>(by rw [h] at hr;cases hr),fun j az=> ?_⟩;by_cases hV:j=i
    · subst hV;exact ⟨dB,aq, .inl ⟨ar,v,lp _ _ bC,H⟩⟩
    · obtain ⟨dg,k5,κ⟩:=H.2 j (aUp az hV)
      obtain ⟨xR,gL,DK,dK⟩:=aVu.1 az;obtain rfl:gL=dg:=by rw [k5] at DK;exact (aRV DK).symm
      have L_:∀ e∈gL.after,Region.binds .any e=true→e.on≠i:=fun e he Φ heq=>by
        have κ:=dK e he Φ;have aG:=(aVu.1 hr).1;rw [heq] at κ;rcases aSZ i l.size with c6 | c6
        · simp [c6] at aG κ;rw [aG] at κ;cases κ
        · simp [aSU c6] at κ
      have LH:=Dx j gL k5 hV xR L_;obtain ⟨ck,a2,a3⟩:=aWe LH;have Mk:∀ cs b,dB.op≠ .select cs b:=fun cs b=>nO i dB cs b aq;have xW:∀ cs b,gL.op≠ .select cs b:=fun cs b=>nO j gL cs b k5;have keep:∀ aT a u,aD aT a→aD aT (a.put gL.dst u):=fun aT a u bC=>z2 _ _ _ bC (aUA dB Mk a gL.dst u a3) (aUL dB a gL.dst u a3);have Dp:R j=true:=hR j gL k5 hV fun e he Φ=>DD _ (dK e he Φ);have DE:∀ k,(l.setIfInBounds j true).getD k false=true→R k=true:=fun k ar=>by
        by_cases g_:j=k
        · rw [← g_];exact Dp
        · rw [aUa false g_] at ar;exact DD k ar
      have DC:∀ k,xZ.getD k true=true→(l.setIfInBounds j true).getD k true=true:=fun k ar=>by
        by_cases g_:j=k
        · subst g_
          rcases aSZ j l.size with c6 | c6
          · simp [c6]
          · simp [aSU c6]
        · rw [aUa true g_];exact DB k ar
      have Dy:∀ k ok,ops[k]? =some ok→k≠i→(l.setIfInBounds j true).getD k true=false→
          (∀ e∈ok.after,Region.binds .any e=true→e.on≠i)→dB.apart ops ok=true:=fun k ok ar p' DN j5=>by
        refine Dx k ok ar p' ?_ j5;by_cases g_:j=k
        · subst g_;exact xR
        · rw [aUa true g_] at DN;exact DN
      have DM:=aUp hr (aUF hV);rcases κ with ⟨xS,u,I,hK⟩ | ⟨xS,κ⟩
      · refine ⟨gL,k5, .inl ⟨xS,u,I.of_same (aUA gL xW a dB.dst v ck).symm (aUL gL a dB.dst v ck).symm, ?_⟩⟩
        refine bx _ _ _ DE DC Dy DM (keep _ _ _ bC) ?_;rw [aTr _ _ hV,← aTY a v u a2];exact hK
      · refine ⟨gL,k5, .inr ⟨xS,fun w hw=> ?_⟩⟩
        refine aUg (fun a' w' aw=>⟨aw.2.1, ?_⟩) (aag (aD:=aD w0) k5 ck a2 xW iy (keep w0) (fun a d bC=>z2 _ _ _ bC Z Z) bC (κ w hw));have Mo:aD w' a':=by
          rcases aSZ (a7 j) 3 with bz | uG
          · exact z3 _ _ _ (aw.2.1 (by omega)) aw.1
          · rcases bf with bf | bf
            · exact bf _ _ _ aw.1
            · have:=DB j (bf j Dp uG);rw [xR] at this;cases this
        refine bx _ _ _ DE DC Dy DM Mo ?_;rw [aTr _ _ hV];exact aw.2.2
def vg (P:Program) (ops:Array Oper) (Q:Exit→Act→World→Prop) (a7:Nat→Nat):List Nat→Act→World→Prop
  | [],a,w0=>∀ w,Ext w0 w→Q .normal a w
  | i::r,a,w0=>∃ o,ops[i]? =some o∧
      ((a7 i=0∧∃ v,uh P ops w0 o v a∧vg P ops Q a7 r (a.put o.dst v) w0)∨
       (a7 i=1∧∃ v,Yields P ops o v a∧vg P ops Q a7 r (a.put o.dst v) w0)∨
       (1<a7 i∧∀ w,Ext w0 w→wpOp P ops Q i (fun a' w'=>(a7 i=2→Ext w0 w')∧vg P ops Q a7 r a' w') a w))
def Zn (ops:Array Oper) (i:Nat):Array Bool :=
  ops.foldl (init:=#[]) fun acc o=>acc.push (acc.size != i && o.after.all fun e=> !Region.binds .any e || acc.getD e.on false)
def Pp (ops:Array Oper) (a7:Nat→Nat) (l:Array Bool) (i:Nat):Bool :=
  (List.range ops.size).all (fun j=>l.getD j true || Nat.blt (a7 j) 3) ||
  (let R:=Zn ops i
   (List.range ops.size).all fun j=>(j == i || R.getD j false || !((ops[j]?).map (·.after.all fun e=> !Region.binds .any e || R.getD e.on false)).getD false) && (!l.getD j false || R.getD j false) && (!R.getD j false || Nat.blt (a7 j) 3 || l.getD j true))
def kI (ops:Array Oper) (a7:Nat→Nat):List Nat→Array Bool→Bool
  | [],l=>(Region.ready .any ops l).isEmpty
  | i::r,l=>(match a7 i with
      | 0=>Region.free .any ops l i && (Region.ready .any ops l).contains i && Pp ops a7 l i
      | 1=>Region.free .any ops l i && (Region.ready .any ops l).contains i
      | _=>Region.ready .any ops l == [i]) && kI ops a7 r (l.setIfInBounds i true)
theorem Pq {l:Array Bool} {i:Nat} (ay:l.size=ops.size) (h:Pp ops a7 l i=true):∃ R:Nat→Bool,
    (∀ j dg,ops[j]? =some dg→j≠i→(∀ e∈dg.after,Region.binds .any e=true→R e.on=true)→R j=true)∧
    (∀ j,l.getD j false=true→R j=true)∧(∀ j,R j=true→3≤a7 j→l.getD j true=true):=by
  unfold Pp at h;have out:∀ j,¬ j<ops.size→l.getD j true=true:=fun j az=>by simp [aSU (by omega:l.size≤j)]
  rw [aSL] at h;rcases h with h | h
  · refine ⟨fun _=>true,fun _ _ _ _ _=>rfl,fun _ _=>rfl,fun j _ aw=> ?_⟩
    by_cases az:j<ops.size
    · have:=aSO.1 h j (aSC.2 az)
      rw [aSL] at this;rcases this with h | h
      · exact h
      · rw [aVw] at h;omega
    · exact out j az
  · refine ⟨fun j=>(Zn ops i).getD j false,fun j dg k5 hV hd=> ?_,fun j az=> ?_,fun j az aw=> ?_⟩
    · have bz:=(aSy.1 k5).1
      have:=aSO.1 h j (aSC.2 bz);simp only [k5,aTv,aS2,aR2,aSL,aST,hV,false_or,aTf] at this;rcases this.1.1 with h | h
      · exact h
      · have dK:dg.after.all (fun e=> !Region.binds .any e || (Zn ops i).getD e.on false)=true:=by
          rw [Array.all_eq_true_iff_forall_mem];intro e he;cases Φ:Region.binds .any e
          · rfl
          · have:=hd e he Φ;simp only at this;simp [this]
        rw [dK] at h;cases h
    · have bz:j<ops.size:=by
        rcases aSZ j l.size with c6 | c6
        · omega
        · simp [aSU c6] at az
      have:=aSO.1 h j (aSC.2 bz);simp only [aR2,aSL,aTf] at this;rcases this.1.2 with h | h
      · rw [h] at az;cases az
      · exact h
    · by_cases bz:j<ops.size
      · have:=aSO.1 h j (aSC.2 bz)
        simp only [aR2,aSL,aTf] at this;rcases this.2 with (h | h) | h
        · simp only at az;rw [h] at az;cases az
        · (rw [aVw] at h;omega)
        · exact h
      · exact out j bz
theorem Fl (hs:Region.noSelect ops=true) (iy:∀ c a w,¬ Q (.panic c) a w):∀ (r:List Nat) (l:Array Bool) (a:Act) (w0:World),l.size=ops.size→kI ops a7 r l=true→vg P ops Q a7 r a w0→C4 P ops Q a7 r.length l a w0
  | [],l,a,w0,_,bf,h=>⟨by simpa [kI] using bf,h⟩
  | i::r,l,a,w0,ay,bf,h=>by
    obtain ⟨o,b4,h⟩:=h;have nO:=aUC hs;rcases h with ⟨ar,v,I,hK⟩ | ⟨ar,v,I,hK⟩ | ⟨ar,h⟩
    · simp only [kI,ar,aR2] at bf
      obtain ⟨⟨⟨hf,hr⟩,Φ⟩,bf⟩:=bf;obtain ⟨R,r1,r2,yr⟩:=Pq ay Φ;exact Ql b4 (by omega) nO iy (fun w0 a=>uh P ops w0 o v a) (fun _ _ h=>h) (fun _ _ _ h he hw=>h.of_same he hw) (fun _ _ _ hx h=>h.on hx) R l r1 (.inr yr) _ _ _ _ r2 (fun _ h=>h) (aTH b4 hf) (by simpa using hr) I
        (Fl hs iy r _ _ _ (by simpa using ay) bf hK)
    · simp only [kI,ar,aR2] at bf
      obtain ⟨⟨hf,hr⟩,bf⟩:=bf;exact Ql b4 (by omega) nO iy (fun _ a=>Yields P ops o v a) (fun _ _ h=>Yields.ala h) (fun _ _ _ h he hw=>h.of_same he hw) (fun _ _ _ _ h=>h) (fun _=>true) l (fun _ _ _ _ _=>Z) (.inl fun _ _ _ h=>h) _ _ _ _ (fun _ _=>Z) (fun _ h=>h) (aTH b4 hf) (by simpa using hr) I
        (Fl hs iy r _ _ _ (by simpa using ay) bf hK)
    · obtain ⟨k,iA⟩:∃ k,a7 i=k+2:=⟨a7 i - 2,by omega⟩
      simp only [kI,iA,aR2,aST] at bf;obtain ⟨hr,bf⟩:=bf;refine ⟨fun aG=>(by rw [hr] at aG;cases aG),fun j az=> ?_⟩;rw [hr] at az;obtain rfl:j=i:=by simpa using az
      exact ⟨o,b4, .inr ⟨ar,fun w hw=>aUg (fun a' w' aw=>⟨aw.1,Fl hs iy r _ _ _ (by simpa using ay) bf aw.2⟩) (h w hw)⟩⟩
def hC (K:Act→World→Prop):Exit→Act→World→Prop
  | .normal,a,w=>K a w
  | _,_,_=>False
theorem aCo {id:Nat} {a:Act} {w:World} (b1:List Nat) (hm:P.follows .mixedOrders=true) (bf:(Region.noSelect ops && (b1.length == ops.size) && kI ops a7 b1 (Array.replicate ops.size false))=true)
    (h:vg P ops (hC (Q .normal)) a7 b1 a w):(Code.region id ops true).wp P Q a w:=by
  simp only [aR2,aST] at bf;obtain ⟨⟨hs,ay⟩,bf⟩:=bf;refine wp_mono (aVD hm (Q:=hC (Q .normal)) ?_) (fun e a w I=>by cases e<;>first | exact I | exact I.elim);have:=Fl (P:=P) hs (Q:=hC (Q .normal)) (fun _ _ _ h=>h) b1 (Array.replicate ops.size false) a w (by simp) bf h;rw [ay] at this;exact C5 _ _ _ _ this _ (aSr _ w).drew
end
end Go.Proofs.YtmeeljmapailnaaGreat
