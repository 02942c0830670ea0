import Derived.Lib.Hide
import Derived.WalkSpells
import Derived.WalkLawsBesides
import Derived.BigQuiet
import Derived.Deep.RegionHeld3
import Derived.Laws.CopyOwn
import Derived.Lib.Strings
import Derived.Deep.AppendLies
import Derived.Shelf.SlicesE.Clone
import Derived.Deep.Fields
import Derived.WideKeyEntry
import Derived.Handy
set_option linter.unusedVariables false
set_option linter.unusedSimpArgs false
set_option maxRecDepth 100000
set_option maxHeartbeats 4000000
open Go.RowKit
namespace Go.Proofs.YtmeeljmapailnaaGreat
theorem Z.{u} {α:Sort u} {a:α}:a=a:=Eq.refl a
abbrev aX8:=@List.getElem?_eq_some_iff
abbrev aX9:=@List.length_append
abbrev aYa:=@List.length_take
abbrev aYb:=@List.getElem?_eq_getElem
abbrev aYc:=@List.length_cons
abbrev aYd:=@Option.some.inj
abbrev aYg:=@Nat.le_refl
abbrev aYi:=@if_neg
abbrev aYj:=@Go.Result.andThen_ok
abbrev aYk:=@List.mem_cons
abbrev aYl:=@Bool.and_eq_true
abbrev aYm:=@List.mem_cons_of_mem
abbrev aYn:=@List.length_set
abbrev aYo:=@List.mem_append
abbrev aYp:=@List.take_of_length_le
abbrev aYq:=@if_pos
abbrev aYs:=@List.length_drop
abbrev aYt:=@Go.Sem.run_bind
abbrev aYu:=@Go.Sem.run_pure
abbrev aYv:=@List.getElem?_map
abbrev aYw:=@List.getElem?_append_left
abbrev aYx:=@List.eq_nil_of_length_eq_zero
abbrev aYy:=@List.getElem?_append_right
abbrev aYz:=@List.getElem?_set_self
abbrev aYA:=@List.map_append
abbrev aYF:=@Nat.le_trans
abbrev aYG:=@Go.RowKit.Below.refl
abbrev aYJ:=@List.getElem?_set_ne
abbrev aYK:=@List.append_assoc
abbrev aYN:=@Array.getElem?_eq_some_iff
abbrev aYO:=@List.getElem?_take
abbrev aYP:=@List.append_nil
abbrev aYR:=@List.mem_of_getElem?
abbrev aYT:=@List.length_map
abbrev aYU:=@List.mem_map
abbrev aYW:=@List.all_eq_true
abbrev aYX:=@Nat.zero_le
abbrev aYY:=@Nat.mul_le_mul_right
abbrev aYZ:=@Bool.or_eq_true
abbrev aY0:=@List.mem_range
abbrev aY3:=@List.map_cons
abbrev aY4:=@Nat.zero_add
abbrev aY5:=@List.mem_append_right
abbrev aY6:=@of_decide_eq_true
abbrev aY7:=@List.nodup_append
abbrev aY8:=@Bool.false_eq_true
abbrev aY9:=@List.mem_iff_getElem
abbrev aZa:=@List.flatten_cons
abbrev aZc:=@Nat.lt_or_ge
abbrev aZd:=@Go.MapKept.run_getObj_map
abbrev aZe:=@Array.getElem?_toList
abbrev aZf:=@beq_iff_eq
abbrev aZg:=@Array.getElem?_eq_none
abbrev aZh:=@BitVec.ofInt_natCast
abbrev aZj:=@List.mem_flatten
abbrev aZk:=@List.getElem?_drop
abbrev aZm:=@Option.getD_some
abbrev aZo:=@Go.run_underlying
abbrev aZq:=@Nat.mul_comm
abbrev aZs:=@List.getElem_mem
abbrev aZu:=@List.map_set
abbrev aZv:=@Bool.not_eq_true'
abbrev aZy:=@List.nil_append
abbrev aZz:=@Nat.mod_eq_of_lt
abbrev aZB:=@List.any_eq_true
abbrev aZC:=@Go.MapKept.run_setObj_map
abbrev aZE:=@List.getElem?_eq_none
abbrev aZH:=@List.find?_eq_none
abbrev aZI:=@if_false
abbrev aZJ:=@List.mem_append_left
abbrev aZK:=@Array.ext'
abbrev aZL:=@Option.map_some
abbrev aZM:=@Nat.add_mul
abbrev aZR:=@Array.setIfInBounds_comm
abbrev aZS:=@Bool.false_and
abbrev aZT:=@List.size_toArray
abbrev aZW:=@List.ext_getElem?
abbrev aZX:=@Int.eq_ofNat_of_zero_le
abbrev aZZ:=@List.flatten_append
abbrev aZ0:=@Array.length_toList
abbrev aZ2:=@BitVec.toNat_ofNat
abbrev aZ3:=@Go.Region.free_spec
abbrev aZ5:=@List.take_append_drop
abbrev aZ6:=@List.set_getElem_self
abbrev aZ8:=@List.mem_or_eq_of_mem_set
abbrev bab:=@if_true
abbrev bac:=@List.map_nil
abbrev baf:=@Array.getElem?_setIfInBounds_ne
abbrev bai:=@Go.ByteArray.toList_eq
abbrev baj:=@Go.World.block_lt_of_cell?
abbrev bal:=@Nat.mod_lt
abbrev bao:=@List.find?_cons_of_neg
abbrev bap:=@Int.natCast_nonneg
abbrev bat:=@Go.Act.put_comm
abbrev baw:=@Go.ChangeMaps.modify_eq_set
abbrev baE:=@Go.getD_set_ne
abbrev baF:=@Array.getElem?_eq_getElem
abbrev baH:=@Array.toList_modify
abbrev baI:=@Go.wpOp_mono
abbrev baJ:=@List.getElem_append_left
abbrev baL:=@Nat.mul_add_mod
abbrev baO:=@Nat.eq_zero_or_pos
abbrev baQ:=@BitVec.setWidth_eq
abbrev baR:=@BitVec.ofNat_toNat
abbrev baT:=@List.findIdx?_eq_some_iff_getElem
abbrev baU:=@Go.ready_mono
abbrev baV:=@Option.some.injEq
abbrev ba4:=@Go.execOp_put
abbrev ba5:=@Go.Region.noSelect_spec
abbrev ba7:=@Ne.symm
abbrev ba8:=@List.map_map
abbrev bba:=@Array.empty_append
abbrev bbc:=@List.findIdx?_eq_none_iff
abbrev bbd:=@Go.wanted_put
abbrev bbe:=@Go.heap_alloc_new
abbrev bbm:=@List.getElem_map
abbrev bbt:=@List.find?_cons_of_pos
abbrev bbv:=@List.nodup_cons
abbrev bbA:=@Nat.div_lt_iff_lt_mul
abbrev bbB:=@List.set_append_right
abbrev bbE:=@Array.getElem?_modify
abbrev bbG:=@List.take_left
abbrev bbI:=@Int.emod_emod_of_dvd
abbrev bbK:=@Array.getElem?_range
abbrev bbM:=@List.getElem?_range
abbrev bbP:=@Array.toList_append
abbrev bbT:=@Go.mem_ready
abbrev bbW:=@Nat.blt_eq
abbrev bbZ:=@BitVec.toInt_ofInt
abbrev bb4:=@Array.getElem?_map
abbrev bb6:=@Go.wp_region_any
abbrev bb8:=@Nat.zero_mul
abbrev bcb:=@List.getElem?_inj
abbrev bcc:=@List.any_eq_false
abbrev bcj:=@Array.size_append
abbrev bck:=@Go.heap_setCell_other
abbrev bcl:=@Go.Calls.mono
abbrev bcn:=@List.take_append
abbrev bcp:=@List.map_toArray
abbrev bcv:=@Nat.div_add_mod
abbrev bcA:=@List.nodup_nil
abbrev bcB:=@List.drop_drop
abbrev bcH:=@Go.Oper.apart_spec
abbrev bcI:=@Go.WideElems.findIdx_born
abbrev bcM:=@Go.WideElems.findIdx_arr
abbrev bcN:=@Go.RowKit.Below.mono
abbrev bcO:=@List.flatten_eq_nil_iff
abbrev bcV:=@Int.dvd_refl
abbrev bcY:=@Go.WideElems.set_self
abbrev bcZ:=@BitVec.eq_of_toNat_eq
abbrev bdb:=@List.take_succ_cons
abbrev bdd:=@List.map_congr_left
abbrev bdg:=@Nat.lt_of_le_of_lt
abbrev bdm:=@Go.cell_of_row
abbrev bdr:=@List.length_range
abbrev bdt:=@Bool.eq_false_iff
end Go.Proofs.YtmeeljmapailnaaGreat
namespace Go.Proofs.YtmeeljmapailnaaGreat.fL
def U {n:Nat} (b:BitVec n):Int:=(b.toNat:Int)

theorem XQ {n:Nat} (b:BitVec n):0≤U b:=bap _
theorem atY (b:BitVec 32):U b<4294967296:=by have:=b.isLt;unfold U;omega
theorem atZ (b:BitVec 64):U b<18446744073709551616:=by have:=b.isLt;unfold U;omega
theorem atX (b:BitVec 32):U b≤4294967295:=by have:=b.isLt;unfold U;omega
theorem xU {n:Nat} (b:BitVec n):BitVec.ofInt n (U b)=b:=by
  unfold U;rw [aZh,baR,baQ]
theorem at0 (x:Int) (aG:0≤x) (κ:x<4294967296):U (BitVec.ofInt 32 x)=x:=by
  obtain ⟨m,rfl⟩:=aZX aG;unfold U;rw [aZh,aZ2];omega
theorem at1 (x:Int) (aG:0≤x) (κ:x<18446744073709551616):U (BitVec.ofInt 64 x)=x:=by
  obtain ⟨m,rfl⟩:=aZX aG;unfold U;rw [aZh,aZ2];omega
theorem S3 {x:Int} {b:BitVec 32} (aG:0≤x) (κ:x<4294967296) (h:BitVec.ofInt 32 x=b):x=U b:=by
  rw [← h,at0 x aG κ]
theorem S4 {x:Int} {b:BitVec 64} (aG:0≤x) (κ:x<18446744073709551616) (h:BitVec.ofInt 64 x=b):x=U b:=by
  rw [← h,at1 x aG κ]
theorem R9 (k:IntKind) (op:BinOp) (a b:Int) (hs:k.signed=false):0≤bits op k a b∧bits op k a b<2 ^ k.bits:=by
  have hp:(0:Int)<2 ^ k.bits:=Int.pow_pos (by decide);have key:∀ n:Int,0≤k.wrap n∧k.wrap n<2 ^ k.bits:=by
    intro n;simp only [IntKind.wrap,hs,aZS,aY8,aZI];exact ⟨Int.emod_nonneg _ (by omega),Int.emod_lt_of_pos _ hp⟩
  unfold bits;exact key _
theorem R7 (op:BinOp) (a b:Int):0≤bits op .u32 a b:=(R9 .u32 op a b rfl).1
theorem R6 (op:BinOp) (a b:Int):bits op .u32 a b<4294967296:=(R9 .u32 op a b rfl).2
theorem X_ (op:BinOp) (a b:Int):0≤bits op .u64 a b:=(R9 .u64 op a b rfl).1
theorem X9 (op:BinOp) (a b:Int):bits op .u64 a b<18446744073709551616:=(R9 .u64 op a b rfl).2
theorem PQ (k:IntKind) (n:Int):BitVec.ofInt k.bits (k.wrap n)=BitVec.ofInt k.bits n:=by
  apply BitVec.eq_of_toInt_eq;simp only [bbZ];have h:(k.wrap n) % (2 ^ k.bits:Int)=n % (2 ^ k.bits:Int):=by
    unfold IntKind.wrap;dsimp only;split
    · rw [Int.sub_emod,Int.emod_self,Int.sub_zero,bbI _ (bcV _),bbI _ (bcV _)]
    · rw [bbI _ (bcV _)]
  have e:((2 ^ k.bits:Nat):Int)=(2:Int) ^ k.bits:=by simp
  simp only [Int.bmod,e,h]

theorem aG1 (n:Int):BitVec.ofInt 32 (n % 4294967296)=BitVec.ofInt 32 n:=by
  have:=PQ .u32 n;rw [IntKind.wrap_u32] at this;exact this
theorem aG5 (n:Int):BitVec.ofInt 64 (IntKind.u64.wrap n)=BitVec.ofInt 64 n:=PQ .u64 n
theorem acz (k:IntKind) (a b:Int):BitVec.ofInt k.bits (bits .xor k a b)=BitVec.ofInt k.bits a ^^^ BitVec.ofInt k.bits b:=by
  unfold bits;rw [PQ,aZh];dsimp only;rw [baR,baQ]
theorem aGY (k:IntKind) (a b:Int):BitVec.ofInt k.bits (bits .and k a b)=BitVec.ofInt k.bits a &&& BitVec.ofInt k.bits b:=by
  unfold bits;rw [PQ,aZh];dsimp only;rw [baR,baQ]
theorem aGZ (k:IntKind) (a b:Int):BitVec.ofInt k.bits (bits .andNot k a b)=BitVec.ofInt k.bits a &&& ~~~(BitVec.ofInt k.bits b):=by
  unfold bits;rw [PQ,aZh];dsimp only;rw [baR,baQ]

theorem acA (a b:Int):BitVec.ofInt 32 (bits .xor .u32 a b)=BitVec.ofInt 32 a ^^^ BitVec.ofInt 32 b:=acz .u32 a b
theorem anG (a b:Int):BitVec.ofInt 32 (bits .and .u32 a b)=BitVec.ofInt 32 a &&& BitVec.ofInt 32 b:=aGY .u32 a b
theorem aG0 (a b:Int):BitVec.ofInt 32 (bits .andNot .u32 a b)=BitVec.ofInt 32 a &&& ~~~(BitVec.ofInt 32 b):=aGZ .u32 a b
theorem acB (a b:Int):BitVec.ofInt 64 (bits .xor .u64 a b)=BitVec.ofInt 64 a ^^^ BitVec.ofInt 64 b:=acz .u64 a b
theorem anL (a b:Int):BitVec.ofInt 64 (bits .xor .i64 a b)=BitVec.ofInt 64 a ^^^ BitVec.ofInt 64 b:=acz .i64 a b
theorem anK {n:Nat} (x:Int) (s:Nat) (aG:0≤x) (κ:x<2 ^ n):BitVec.ofInt n (x / 2 ^ s)=BitVec.ofInt n x >>> s:=by
  obtain ⟨m,rfl⟩:=aZX aG;have HU:m<2 ^ n:=by exact_mod_cast κ
  have e:((m:Int) / 2 ^ s)=((m / 2 ^ s:Nat):Int):=by rw [Int.natCast_ediv];simp
  rw [e,aZh,aZh];apply bcZ;rw [BitVec.toNat_ushiftRight,aZ2,aZ2,aZz HU,Nat.shiftRight_eq_div_pow];exact aZz (bdg (Nat.div_le_self _ _) HU)

theorem aGX {n:Nat} (a b:Int):BitVec.ofInt n (a+b)=BitVec.ofInt n a+BitVec.ofInt n b:=BitVec.ofInt_add ..
theorem anI {n:Nat} (a b:Int):BitVec.ofInt n (a * b)=BitVec.ofInt n a * BitVec.ofInt n b:=BitVec.ofInt_mul ..
theorem aG4 {n:Nat} (a:Int):BitVec.ofInt n (-a)= -BitVec.ofInt n a:=BitVec.ofInt_neg ..
theorem aG3 {n:Nat} (a:Nat):BitVec.ofInt n (a:Int)=BitVec.ofNat n a:=aZh ..

end Go.Proofs.YtmeeljmapailnaaGreat.fL
namespace Go.Proofs.YtmeeljmapailnaaGreat
def aOw (k:IntKind) (w:World) (a:Option Addr) (len cap:Nat) (zs:List Int):Prop :=
  (a=none∧len=0∧cap=0∧zs= [])∨
  ∃ x,a=some x∧len≤cap∧cap≤maxLen∧zs.length=cap∧(∀ i,i<zs.length→w.cell? (x.add i)=some (.int k (zs.getD i 0)))∧∀ n∈zs,(Lit.int k n).wf=true
theorem af5 (b j:Nat):(⟨b,0,none⟩:Addr).add j=⟨b,j,none⟩:=by
  unfold Addr.add;split<;>simp_all
theorem Yc {a b:ByteArray} (h:a.data.toList=b.data.toList):a=b:=ByteArray.ext (Array.toList_inj.1 h)
theorem agz (a b:ByteArray):(a.toList == b.toList)=decide (a=b):=by
  rw [bai,bai];by_cases h:a=b
  · subst h;simp
  · have κ:¬ a.data=b.data:=fun e=>h (ByteArray.ext e)
    simp [h,κ]
theorem agB {a b:ByteArray} (h:a=b):(a.toList == b.toList)=true:=by rw [agz];simp [h]
theorem agA {a b:ByteArray} (h:¬ a=b):(a.toList == b.toList)=false:=by rw [agz];simp [h]
theorem ac7 {a:Bool} (h:a=true):Ending.returned (.bool a)= .returned (.bool true):=by rw [h]
theorem Hn (b off j:Nat):(⟨b,off,none⟩:Addr).add j=⟨b,off+j,none⟩:=by
  unfold Addr.add;split<;>simp_all
theorem aHm {w w':World} {base:Nat} {e:TypeId} {size:Nat} {v:Value} {n:Nat} {xs:List Value} (h:w.ownsRow base e size v n xs) (ag:Below w.heap.size w w'):w'.ownsRow base e size v n xs:=by
  obtain ⟨κ,τ⟩:=h;refine ⟨κ, ?_⟩;rcases τ with τ | ⟨g,cap,cur,hv,aN,eI,r⟩
  · exact .inl τ
  · exact .inr ⟨g,cap,cur,hv,aN,by rw [ag.block g (aYN.1 eI).1];exact eI,r⟩
theorem cell_later {w w':World} (ag:Below w.heap.size w w') {a:Addr} {v:Value} (h:w.cell? a=some v):w'.cell? a=some v:=by
  rw [ag.cell (baj w a h)];exact h
theorem av7 {B:Nat} {w w':World} (ag:Below B w w') {a:Addr} {v:Value} (h:w.cell? a=some v) (ha:a.block<B):w'.cell? a=some v:=by
  rw [ag.cell ha];exact h
def aM (w:World) (g:Nat) (cur:List Value) (e:TypeId) (aD:Nat×Nat):Prop:=w.heap[g]? =some (.cells cur.toArray e aD)
theorem aM.lt {w:World} {g:Nat} {cur:List Value} {e:TypeId} {aD:Nat×Nat} (h:aM w g cur e aD):g<w.heap.size:=(aYN.1 h).1
theorem aM.cell {w:World} {g:Nat} {cur:List Value} {e:TypeId} {aD:Nat×Nat} (h:aM w g cur e aD) (j:Nat):w.cell? ⟨g,j,none⟩=cur[j]? :=by
  rw [bdm w g j _ e aD h];simp
theorem aM.free {w:World} {g:Nat} {cur:List Value} {e:TypeId} {aD:Nat×Nat} (h:aM w g cur e aD) (j:Nat) (ay:j<aD.1∨aD.2≤j):w.frozen? ⟨g,j,none⟩=false:=by
  unfold aM at h;obtain ⟨lo,hi⟩:=aD;simp only [World.frozen?,h];simp only at ay;simp;omega
theorem aM.set {w:World} {g:Nat} {cur:List Value} {e:TypeId} {aD:Nat×Nat} (h:aM w g cur e aD) (j:Nat) (v:Value):aM (w.setCell ⟨g,j,none⟩ v) g (cur.set j v) e aD:=by
  unfold aM at *
  simp only [World.setCell,bbE,h];simp
theorem aM.later {w w':World} {g:Nat} {cur:List Value} {e:TypeId} {aD:Nat×Nat} (h:aM w g cur e aD) (ag:Below w.heap.size w w'):aM w' g cur e aD:=by
  have ah:=h.lt;unfold aM at *
  rw [ag.block g ah];exact h
theorem aM.drew {w:World} {g:Nat} {cur:List Value} {e:TypeId} {aD:Nat×Nat} (h:aM w g cur e aD):aM w.drew g cur e aD:=h
theorem aM.drewN {w:World} {g:Nat} {cur:List Value} {e:TypeId} {aD:Nat×Nat} (h:aM w g cur e aD) (n:Nat):aM (w.drewN n) g cur e aD:=h
theorem aM.new (w:World) (cur:List Value) (e:TypeId) (aD:Nat×Nat):aM (w.alloc (.cells cur.toArray e aD)) w.heap.size cur e aD:=bbe w _
theorem aM.setRow {w:World} {g:Nat} {cur:List Value} {e:TypeId} {aD:Nat×Nat} (h:aM w g cur e aD) (new:List Value):aM (w.setRow g new.toArray) g new e aD:=setRow_heap w g _ _ e aD h
theorem aM.other {w:World} {g g':Nat} {cur:List Value} {e:TypeId} {aD:Nat×Nat} (h:aM w g cur e aD) (aN:g≠g') (j:Nat) (v:Value):aM (w.setCell ⟨g',j,none⟩ v) g cur e aD:=by
  unfold aM at *
  rw [bck _ _ _ _ aN];exact h
theorem below_drewN {B:Nat} {a w:World} (h:Below B a w) (n:Nat):Below B a (w.drewN n):=⟨h.os,h.tape,h.output,h.size,h.block⟩
def Rd (w:World) (size:Nat) (A:Option Addr) (n:Nat) (xs:List Value):Prop :=
  xs.length=n * size∧(0<n→∃ b o,A=some ⟨b,o,none⟩∧∀ j u,xs[j]? =some u→w.cell? ⟨b,o+j,none⟩=some u)
theorem Rd.zero (w:World) (size:Nat) (A:Option Addr):Rd w size A 0 []:=⟨by simp,fun h=>absurd h (by decide)⟩
theorem Rd.later {w w':World} {size n:Nat} {A:Option Addr} {xs:List Value} (h:Rd w size A n xs) (ag:Below w.heap.size w w'):Rd w' size A n xs :=
  ⟨h.1,fun aG=>by
    obtain ⟨b,o,e,hc⟩:=h.2 aG;exact ⟨b,o,e,fun j u hu=>cell_later ag (hc j u hu)⟩⟩
theorem Rd.drewN {w:World} {size n:Nat} {A:Option Addr} {xs:List Value} (h:Rd w size A n xs) (k:Nat):Rd (w.drewN k) size A n xs:=h
def Own (w:World) (base:Nat) (e:TypeId) (size:Nat) (G:Nat→Value→Prop) (v:Value) (n:Nat) (xs:List Value):Prop :=
  xs.length=n * size∧
  ((v= .slice none 0 0∧n=0)∨
   ∃ g cap cur,v= .slice (some ⟨g,0,none⟩) n cap∧base≤g∧w.heap[g]? =some (.cells cur e (0,0))∧n≤cap∧cap≤maxLen∧cur.size=cap * size∧cur.toList.take (n * size)=xs∧∀ j u,cur[j]? =some u→G (j % size) u)
section
variable {w w':World} {base e size:Nat} {G:Nat→Value→Prop} {v:Value} {n:Nat} {xs:List Value}
theorem Own.row (h:Own w base e size G v n xs):w.ownsRow base e size v n xs:=by
  obtain ⟨κ,τ⟩:=h;refine ⟨κ, ?_⟩;rcases τ with τ | ⟨g,cap,cur,a,b,c,d,e,f,i,_⟩
  · exact .inl τ
  · exact .inr ⟨g,cap,cur,a,b,c,d,e,f,i⟩
theorem Own.nil (w:World) (base e size:Nat) (G:Nat→Value→Prop):Own w base e size G (.slice none 0 0) 0 []:=⟨by simp, .inl ⟨rfl,rfl⟩⟩
theorem Own.of_block {B:Nat} (h:Own w base e size G v n xs) (ag:∀ g,v.ownBlock=some g→w'.heap[g]? =w.heap[g]?):Own w' base e size G v n xs:=by
  obtain ⟨κ,τ⟩:=h;refine ⟨κ, ?_⟩;rcases τ with τ | ⟨g,cap,cur,rfl,b,c,d⟩
  · exact .inl τ
  · exact .inr ⟨g,cap,cur,rfl,b,(ag g rfl).trans c,d⟩
theorem Own.later (h:Own w base e size G v n xs) (ag:Below w.heap.size w w'):Own w' base e size G v n xs :=
  h.of_block (B:=0) fun g aN=>ag.block g (h.row.lt g aN).2
theorem Own.drewN (h:Own w base e size G v n xs) (k:Nat):Own (w.drewN k) base e size G v n xs:=h
theorem Own.drew (h:Own w base e size G v n xs):Own w.drew base e size G v n xs:=h
theorem Own.mono (h:Own w base e size G v n xs) {ago:Nat} (ag:ago≤base):Own w ago e size G v n xs:=by
  obtain ⟨κ,τ⟩:=h;refine ⟨κ, ?_⟩;rcases τ with τ | ⟨g,cap,cur,a,b,r⟩
  · exact .inl τ
  · exact .inr ⟨g,cap,cur,a,aYF ag b,r⟩
theorem Own.rd (h:Own w base e size G v n xs) {A:Option Addr} {c:Nat} (hv:v= .slice A n c):Rd w size A n xs:=by
  obtain ⟨κ,τ⟩:=h;refine ⟨κ,fun aG=> ?_⟩;rcases τ with ⟨_,τ⟩ | ⟨g,cap,cur,rfl,b,c,d,e,f,i,_⟩
  · omega
  · injection hv with hv _ _
    refine ⟨g,0,hv.symm,fun j u hu=> ?_⟩;rw [aY4,bdm w g j cur _ (0,0) c,← aZe];rw [← i,aYO] at hu;split at hu
    · exact hu
    · cases hu
theorem Own.shape (h:Own w base e size G v n xs):∃ A c,v= .slice A n c∧n≤c∧c≤maxLen∧Rd w size A n xs∧(∀ a,A=some a→base≤a.block∧a.block<w.heap.size)∧(A=none→v= .slice none 0 0):=by
  have dh:=h;obtain ⟨κ,τ⟩:=h;rcases τ with ⟨rfl,rfl⟩ | ⟨g,cap,cur,rfl,b,c,d,e,f,i,_⟩
  · exact ⟨none,0,rfl,aYg _,aYX _,dh.rd rfl,(fun a ha=>by cases ha),fun _=>rfl⟩
  · refine ⟨_,cap,rfl,d,e,dh.rd rfl,fun a ha=> ?_,fun h=>by cases h⟩
    injection ha with ha
    subst ha;exact ⟨b,(aYN.1 c).1⟩
theorem aqC {z:Array Value} (bc:z.size=size) (hs:0<size) (bP:∀ j u,z[j]? =some u→G j u) (k:Nat):∀ j u,(Builtin.zeroCells z k)[j]? =some u→G (j % size) u:=by
  intro j u hu;unfold Builtin.zeroCells at hu;subst bc;have ay:=(aYN.1 hu).1;simp at ay;have bF:j % z.size<z.size:=bal _ hs;rw [bb4,bbK,aYq ay] at hu;simp only [aZL,baV] at hu;refine bP _ u ?_;rw [← hu];simp [bF]
theorem Own.stored {g c:Nat} (h:Own w base e size G (.slice (some ⟨g,0,none⟩) n c) n xs) (j:Nat) (u:Value) (hu:G (j % size) u):
    Own (w.setCell ⟨g,j,none⟩ u) base e size G (.slice (some ⟨g,0,none⟩) n c) n (xs.set j u):=by
  obtain ⟨κ,τ⟩:=h;refine ⟨by rw [aYn];exact κ, ?_⟩;rcases τ with ⟨τ,_⟩ | ⟨g',cap,cur,hv,b,eI,d,hm,hs,aH,bP⟩
  · cases τ
  · injection hv with hv _ hc
    injection hv with hv
    injection hv with hv
    subst hv;subst hc;refine .inr ⟨g,c,cur.setIfInBounds j u,Z,b, ?_,d,hm,by simp [hs], ?_, ?_⟩
    · simp only [World.setCell,bbE,eI]
      simp
    · rw [← aH]
      simp only [Array.toList_setIfInBounds];rw [List.take_set]
    · intro i v hv
      by_cases jF:j=i
      · subst jF
        have bF:j<cur.size:=by
          have:=(aYN.1 hv).1;simpa using this
        rw [Array.getElem?_setIfInBounds_self_of_lt bF] at hv;obtain rfl:=aYd hv;exact hu
      · rw [baf jF] at hv
        exact bP i v hv
theorem Own.cell {g c:Nat} (h:Own w base e size G (.slice (some ⟨g,0,none⟩) n c) n xs) (j:Nat) (ay:j<n * size):w.cell? ⟨g,j,none⟩=xs[j]? :=h.row.cellAt j ay
theorem Own.free {g c:Nat} (h:Own w base e size G (.slice (some ⟨g,0,none⟩) n c) n xs) (j:Nat):w.frozen? ⟨g,j,none⟩=false:=h.row.frozenAt j
theorem Own.some_ {g c:Nat} (h:Own w base e size G (.slice (some ⟨g,0,none⟩) n c) n xs) (j:Nat) (ay:j<c * size):∃ u,w.cell? ⟨g,j,none⟩=some u∧G (j % size) u:=by
  obtain ⟨κ,τ⟩:=h;rcases τ with ⟨τ,_⟩ | ⟨g',cap,cur,hv,b,eI,d,hm,hs,aH,bP⟩
  · cases τ
  · injection hv with hv _ hc
    injection hv with hv
    injection hv with hv
    subst hv;subst hc;have bF:j<cur.size:=by rw [hs];exact ay
    rw [bdm w g j cur _ (0,0) eI];exact ⟨cur[j],baF bF,bP j _ (baF bF)⟩
theorem Own.lit (w:World) (cs:Array Value) (n:Nat) (ag:base≤w.heap.size) (hm:n≤maxLen) (hs:cs.size=n * size) (bP:∀ j u,cs[j]? =some u→G (j % size) u):
    Own (w.alloc (.cells cs e)) base e size G (.slice (some ⟨w.heap.size,0,none⟩) n n) n cs.toList :=
  ⟨by simpa using hs, .inr ⟨w.heap.size,n,cs,rfl,ag,bbe w _,aYg _,hm,hs,aYp (by simp [hs]),bP⟩⟩
theorem Own.empty (w:World) (ag:base≤w.heap.size):Own (w.alloc (.cells #[] e)) base e size G (.slice (some ⟨w.heap.size,0,none⟩) 0 0) 0 [] :=
  Own.lit w #[] 0 ag (aYX _) (by simp) (fun j u h=>by simp at h)
end
section
variable {P:Program} (w:World)
theorem ada (base:Nat) (t ty e:TypeId) (i:TypeInfo) (z:Value) (size bytes:Nat) (aH:P.underlying t=some (.slice e)) (hi:P.info? e=some i) (bc:i.zero=some z)
    (zf:i.size=size) (q6:i.bytes=bytes) (uS:z.cells.size=size) (kF:0<size) (G:Nat→Value→Prop) (zj:∀ j u,z.cells[j]? =some u→G j u)
    (v:Value) (n:Nat) (xs:List Value) (fz:Own w base e size G v n xs)
    (A:Option Addr) (m c:Nat) (news:List Value) (hr:Rd w size A m news) (κ:∀ u∈news,u.oneCell'=true) (OP:∀ j u,news[j]? =some u→G (j % size) u)
    (th:n+m≤maxLen) (l4:(n+m) * bytes≤140737488355328) (oa:base≤w.heap.size):
    ∃ v' w',(Builtin.append_ #[t,t] ty #[v, .slice A m c]).run P w= .ok v' w'∧Own w' base e size G v' (n+m) (xs++news)∧w.grownBy w' v.ownBlock∧
      (v'= .slice none 0 0↔v= .slice none 0 0∧m=0)∧(v'.ownBlock=v.ownBlock∨v'.ownBlock=some w.heap.size):=by
  subst zf;subst q6;have aSC:n+m≤9223372036854775807:=by simp only [maxLen] at th;omega
  have ah:news.length=m * i.size:=hr.1;have K5:xs.length=n * i.size:=fz.1;have hlen:(xs++news).length=(n+m) * i.size:=by rw [aX9,K5,ah,aZM]
  have ajK:(∀ j u,xs[j]? =some u→G (j % i.size) u)→∀ j u,(xs++news)[j]? =some u→G (j % i.size) u:=by
    intro hx j u hu;by_cases ay:j<xs.length
    · rw [aYw ay] at hu;exact hx j u hu
    · rw [aYy (by omega)] at hu
      have:=OP _ u hu;rw [K5] at this ay;have e:j % i.size=(j - n * i.size) % i.size:=by
        conv=>lhs;rw [show j=n * i.size+(j - n * i.size) from by omega]
        rw [aZq n,baL]
      rw [e];exact this
  -- what the growing arm leaves, whatever was there before
  have grown:(∀ j u,xs[j]? =some u→G (j % i.size) u)→∀ (old:Nat),old<n+m→∀ (row:Option Nat),
      Own (w.drew.alloc (.cells (xs.toArray++news.toArray++Builtin.zeroCells z.cells (grownCap w (n+m) old e - (n+m))) e)) base e i.size G
        (.slice (some ⟨w.heap.size,0,none⟩) (n+m) (grownCap w (n+m) old e)) (n+m) (xs++news)∧
      w.grownBy (w.drew.alloc (.cells (xs.toArray++news.toArray++Builtin.zeroCells z.cells (grownCap w (n+m) old e - (n+m))) e)) row:=by
    intro Uc old bK row;have tz:=grownCap_ge w (n+m) old e;have oc:grownCap w (n+m) old e≤maxLen:=grownCap_le_maxLen w (n+m) old e th;refine ⟨⟨hlen, .inr ⟨w.heap.size,_,_,Z,oa,bbe w.drew _,tz,oc, ?_, ?_, ?_⟩⟩,⟨Z,Z,Z,by simp,fun k ak _=>heap_alloc_old w.drew _ ak⟩⟩
    · simp only [bcj,aZT,size_zeroCells,uS,K5,ah,← aZM]
      congr 1;omega
    · simp only [bbP,aYK]
      rw [← aYK,← hlen];exact bbG
    · intro j u hu
      rw [← aZe] at hu;simp only [bbP] at hu;by_cases ay:j<(xs++news).length
      · rw [aYw ay] at hu;exact ajK Uc j u hu
      · rw [aYy (by simpa using ay)] at hu
        rw [aZe] at hu;have:=aqC uS kF zj _ _ u hu;have kc:(xs.toArray.toList++news.toArray.toList).length=(n+m) * i.size:=hlen;rw [kc] at this;rw [hlen] at ay;have e:j % i.size=(j - (n+m) * i.size) % i.size:=by
          conv=>lhs;rw [show j=(n+m) * i.size+(j - (n+m) * i.size) from by omega]
          rw [aZq (n+m),baL]
        rw [e];exact this
  have abk:A=none∨∃ a,A=some a:=by cases A with | none=>exact .inl rfl | some a=>exact .inr ⟨a,rfl⟩
  rcases abk with rfl | ⟨ad,rfl⟩
  · have hm:m=0:=by
      rcases baO m with aG | aG
      · exact aG
      · obtain ⟨b,o,h,_⟩:=hr.2 aG
        cases h
    subst hm;have hn:news= []:=aYx (by simpa using ah);subst hn;refine ⟨v,w, ?_,by simpa using fz,World.grownBy.refl w _,by simp, .inl rfl⟩;rcases fz.2 with ⟨rfl,rfl⟩ | ⟨g,cap,cur,rfl,_,_,C5,_⟩
    · simp [Builtin.append_,aZo aH,sizeOf,typeInfo,hi,Builtin.lenOf,Builtin.firstCells]
    · simp [Builtin.append_,aZo aH,sizeOf,typeInfo,hi,Builtin.lenOf,Builtin.firstCells,C5,storeCells]
  have C6:∀ j u,news[j]? =some u→w.cell? (ad.add j)=some u:=by
    intro j u hu;rcases baO m with aG | aG
    · subst aG
      have hn:news= []:=aYx (by simpa using ah);subst hn;simp at hu
    · obtain ⟨b,o,h,hc⟩:=hr.2 aG
      injection h with h
      subst h;rw [Hn];exact hc j u hu
  rcases fz.2 with ⟨rfl,rfl⟩ | ⟨g,cap,cur,rfl,aaw,aN,C5,oc,tx,abn,bP⟩
  · have hx:xs= []:=aYx (by simpa using K5)
    subst hx;by_cases hm:m=0
    · subst hm
      have hn:news= []:=aYx (by simpa using ah);subst hn;refine ⟨.slice none 0 0,w, ?_,Own.nil w base e i.size G,⟨Z,Z,Z,aYg _,fun _ _ _=>Z⟩,by simp,Or.inl rfl⟩;simp [Builtin.append_,aZo aH,sizeOf,typeInfo,hi,Builtin.lenOf,Builtin.firstCells,loadCells,loadCellsFrom]
    · have hr:=run_append_nil (P:=P) w t ty e i z aH hi bc ad m c news ah C6 (by omega) (by omega) (by have ag:=l4;simp only [aY4] at ag;omega)
      have Fu:=grown (fun j u hu=>by simp at hu) 0 (by omega) (Value.ownBlock (.slice none 0 0));simp only [aY4,aZy,bba] at Fu ⊢;exact ⟨_,_,hr,Fu.1,Fu.2,by simp [hm],Or.inr rfl⟩
  · have Uc:∀ j u,xs[j]? =some u→G (j % i.size) u:=by
      intro j u hu;rw [← abn,aYO] at hu;split at hu
      · exact bP j u (by rw [← aZe];exact hu)
      · cases hu
    by_cases sf:n+m≤cap
    · have Fp:n * i.size+news.length≤cur.size:=by rw [ah,tx,← aZM];exact aYY _ sf
      have hr:=run_append_room (P:=P) w t ty e i aH hi g n cap cur aN ad m c news ah C6 κ sf Fp;refine ⟨_,_,hr,⟨hlen, .inr ⟨g,cap,_,Z,aaw,setRow_heap w g cur _ e _ aN,sf,oc, ?_, ?_, ?_⟩⟩,⟨Z,Z,Z,by simp,fun k _ ak=>setRow_other w g k _ (fun e=>ak (by simp [Value.ownBlock,e]))⟩,by simp,Or.inl rfl⟩
      · simp only [aZT,aX9,aYa,aYs,aZ0]
        omega
      · rw [abn,← hlen]
        exact bbG
      · intro j u hu
        rw [abn] at hu;have hu:((xs++news)++cur.toList.drop (n * i.size+news.length))[j]? =some u:=by simpa using hu
        by_cases ay:j<(xs++news).length
        · rw [aYw ay] at hu;exact ajK Uc j u hu
        · rw [aYy (by omega),aZk] at hu
          rw [hlen] at hu ay;rw [ah,← aZM,show (n+m) * i.size+(j - (n+m) * i.size)=j from by omega] at hu;exact bP j u (by rw [← aZe];exact hu)
    · have holds:∀ j u,xs[j]? =some u→w.cell? ((⟨g,0,none⟩:Addr).add j)=some u:=fz.row.cells (g:=g) rfl
      have hr:=run_append_grow (P:=P) w t ty e i z aH hi bc ⟨g,0,none⟩ n cap xs K5 holds ad m c news ah C6 (by omega) (by omega) (growslice_fits (by omega) l4);have Fu:=grown Uc cap (by omega) (Value.ownBlock (.slice (some ⟨g,0,none⟩) n cap));exact ⟨_,_,hr,Fu.1,Fu.2,by simp,Or.inr rfl⟩

theorem aL0 {o:Oper} {a:Act} {K:Act→World→Prop} {Q:Exit→Act→World→Prop} (s x:Operand) (t:TypeId)
    (bK:o.op= .call {callee:= .builtin .append,args:=#[s,x],argTypes:=#[t,t]})
    (base:Nat) (e:TypeId) (i:TypeInfo) (z:Value) (size bytes:Nat) (aH:P.underlying t=some (.slice e)) (hi:P.info? e=some i) (bc:i.zero=some z)
    (zf:i.size=size) (q6:i.bytes=bytes) (uS:z.cells.size=size) (kF:0<size) (G:Nat→Value→Prop) (zj:∀ j u,z.cells[j]? =some u→G j u)
    (v:Value) (n:Nat) (xs:List Value) (hs:a.eval s=v) (fz:Own w base e size G v n xs)
    (A:Option Addr) (m c:Nat) (news:List Value) (hx:a.eval x= .slice A m c) (hr:Rd w size A m news) (κ:∀ u∈news,u.oneCell'=true) (OP:∀ j u,news[j]? =some u→G (j % size) u)
    (th:n+m≤maxLen) (l4:(n+m) * bytes≤140737488355328) (oa:base≤w.heap.size)
    (h:∀ v' w',Own w' base e size G v' (n+m) (xs++news)→w.grownBy w' v.ownBlock→(v'= .slice none 0 0↔v= .slice none 0 0∧m=0)→(v'.ownBlock=v.ownBlock∨v'.ownBlock=some w.heap.size)→K (a.put o.dst v') w'):o.wp P a w K Q:=by
  obtain ⟨v',w',ke,τ,au,aU,bN⟩:=ada (P:=P) w base t o.type e i z size bytes aH hi bc zf q6 uS kF G zj v n xs fz A m c news hr κ OP th l4 oa;unfold Oper.wp execOp;simp only [bK,resolve,invoke,builtin,aYt,aYu,aYj,bcp,aY3,bac,hs,hx,ke];exact h v' w' τ au aU bN
theorem Jj {ops:Array Oper} {rest:List Oper} {o:Oper} {a:Act} {Q:Exit→Act→World→Prop} (aaS:o.guard=none) (s x:Operand) (t:TypeId)
    (bK:o.op= .call {callee:= .builtin .append,args:=#[s,x],argTypes:=#[t,t]})
    (base:Nat) (e:TypeId) (i:TypeInfo) (z:Value) (size bytes:Nat) (aH:P.underlying t=some (.slice e)) (hi:P.info? e=some i) (bc:i.zero=some z)
    (zf:i.size=size) (q6:i.bytes=bytes) (uS:z.cells.size=size) (kF:0<size) (G:Nat→Value→Prop) (zj:∀ j u,z.cells[j]? =some u→G j u)
    (v:Value) (n:Nat) (xs:List Value) (hs:a.eval s=v) (fz:Own w base e size G v n xs)
    (A:Option Addr) (m c:Nat) (news:List Value) (hx:a.eval x= .slice A m c) (hr:Rd w size A m news) (κ:∀ u∈news,u.oneCell'=true) (OP:∀ j u,news[j]? =some u→G (j % size) u)
    (th:n+m≤maxLen) (l4:(n+m) * bytes≤140737488355328) (oa:base≤w.heap.size)
    (h:∀ v' w',Own w' base e size G v' (n+m) (xs++news)→w.grownBy w' v.ownBlock→(v'= .slice none 0 0↔v= .slice none 0 0∧m=0)→(v'.ownBlock=v.ownBlock∨v'.ownBlock=some w.heap.size)→wpList P ops Q rest (a.put o.dst v') w'):wpList P ops Q (o::rest) a w :=
  wpList_plain aaS fun _ hK=>aL0 w s x t bK base e i z size bytes aH hi bc zf q6 uS kF G zj v n xs hs fz A m c news hx hr κ OP th l4 oa fun v' w' τ au aU bN=>hK _ _ (h v' w' τ au aU bN)
end
open Go.ChangeShapes Go.WideShapes Go.Deep Go.RowKit
inductive hl where
  | int (k:IntKind)
  | bool
  | str
  | slice (e:hl) (bytes:Nat)
  | nil
  | cons (a b:hl)
def hl.size:hl→Nat
  | .int _ | .bool | .str | .slice _ _=>1
  | .nil=>0
  | .cons a b=>a.size+b.size
def partsOf (P:Program) (t:TypeId):Option (List (TypeId×Nat)):=
  match P.underlying t with
  | some (.struct fs)=>some (fs.toList.map fun f=>(f.type,f.offset))
  | some (.array n e)=>some ((List.range n).map fun i=>(e,i * P.cellsOf e))
  | _=>none
def hl.fit (P:Program):hl→TypeId ⊕ (Nat×List (TypeId×Nat))→Bool
  | .int k, .inl t=>match P.underlying t with | some (.int k')=>decide (k'=k) | _=>false
  | .bool, .inl t=>match P.underlying t with | some .bool=>true | _=>false
  | .str, .inl t=>match P.underlying t with | some .string=>true | _=>false
  | .slice e by_, .inl t=>match P.underlying t with | some (.slice u)=>P.cellsOf u == e.size && P.bytesOf u == by_ && e.fit P (.inl u) | _=>false
  | .nil, .inl t=>P.cellsOf t == 0 && (match P.underlying t with | some (.struct _)=>true | some (.array ..)=>true | _=>false)
  | .cons a b, .inl t=>P.cellsOf t == a.size+b.size && (match partsOf P t with
      | some ((u,o)::r)=>o == 0 && P.cellsOf u == a.size && a.fit P (.inl u) && b.fit P (.inr (a.size,r))
      | _=>false)
  | .nil, .inr (_,fs)=>fs.isEmpty
  | .cons a b, .inr (off,fs)=>match fs with
    | (u,o)::r=>o == off && P.cellsOf u == a.size && a.fit P (.inl u) && b.fit P (.inr (off+a.size,r))
    | []=>false
  | _, .inr _=>false
def hl.j_ (w:World):hl→List Value→Prop
  | .int k,cs=>∃ n,cs= [.int k n]∧(Lit.int k n).wf=true
  | .bool,cs=>∃ b,cs= [.bool b]
  | .str,cs=>∃ s:ByteArray,cs= [.string s]∧s.size≤maxLen∧s.size≤140737488351232
  | .slice e by_,cs=>cs= [.slice none 0 0]∨∃ (a:Addr) (len cap:Nat),cs= [.slice (some a) len cap]∧len≤cap∧cap≤maxLen∧cap * by_≤140737488351232∧
      ∀ i,i<cap→∃ es:List Value,es.length=e.size∧(∀ j v,es[j]? =some v→w.cell? (a.add (i * e.size+j))=some v)∧e.j_ w es
  | .nil,cs=>cs= []
  | .cons a b,cs=>∃ xs ys,cs=xs++ys∧xs.length=a.size∧ys.length=b.size∧a.j_ w xs∧b.j_ w ys
variable {H:Type} {enc:TypeId×Value→H} {P:Program} {w:World} {base:Nat} {held:Bool}
theorem aqh {e:TypeId} {l:List (DataW H)} {d:DataW H} (h:d∈l):∀ n∈d.weights P e,n∈DataW.weightsAll P e l:=by
  induction l with
  | nil=>cases h
  | cons x r bL =>
    intro n hn;simp only [DataW.weightsAll,aYo];rcases aYk.1 h with rfl | h
    · exact .inl hn
    · exact .inr (bL h n hn)
def ME (enc:TypeId×Value→H) (P:Program) (w:World) (base:Nat) (held:Bool) (n:Nat) (cs:List Value) (fs:List (TypeId×Nat)) (xs:List (DataW H×List MemPlace)):Prop :=
  xs.length=fs.length∧∀ (i:Nat) (f:TypeId×Nat),fs[i]? =some f→DataW.trod enc P w base (fun _=>true) held n f.1 ((cs.drop f.2).take (P.cellsOf f.1))=xs[i]?
theorem ME.cons {n:Nat} {cs:List Value} {f:TypeId×Nat} {r:List (TypeId×Nat)} {xs:List (DataW H×List MemPlace)} (h:ME enc P w base held n cs (f::r) xs):
    ∃ x ys,xs=x::ys∧DataW.trod enc P w base (fun _=>true) held n f.1 ((cs.drop f.2).take (P.cellsOf f.1))=some x∧ME enc P w base held n cs r ys:=by
  obtain ⟨ah,hf⟩:=h
  match xs,ah with
  | x::ys,ah =>
    refine ⟨x,ys,Z,hf 0 f Z,by simpa using ah,fun i g aN=> ?_⟩;exact hf (i+1) g aN
def Goal (P:Program) (w:World) (sh:hl):TypeId ⊕ (Nat×List (TypeId×Nat))→Prop
  | .inl t=>∀ (H:Type) (enc:TypeId×Value→H) (base:Nat) (held:Bool) (fuel:Nat) (cs:List Value) (x:DataW H×List MemPlace),DataW.trod enc P w base (fun _=>true) held fuel t cs=some x→(∀ n∈x.1.weights P t,n≤reachBytes)→cs.length=sh.size∧sh.j_ w cs
  | .inr (off,fs)=>∀ (H:Type) (enc:TypeId×Value→H) (base:Nat) (held:Bool) (n:Nat) (cs:List Value) (xs:List (DataW H×List MemPlace)),ME enc P w base held n cs fs xs→cs.length=off+sh.size→(∀ n∈DataW.weightsEach P (fs.map (·.1)) (xs.map (·.1)),n≤reachBytes)→sh.j_ w (cs.drop off)
theorem Goal.fields {a b:hl} (aEc:∀ t,a.fit P t=true→Goal P w a t) (aEd:∀ t,b.fit P t=true→Goal P w b t) {off:Nat} {f:TypeId×Nat} {r:List (TypeId×Nat)} (κ:f.2=off) (τ:P.cellsOf f.1=a.size) (au:a.fit P (.inl f.1)=true) (aU:b.fit P (.inr (off+a.size,r))=true):
    Goal P w (.cons a b) (.inr (off,f::r)):=by
  intro H enc base held n cs xs hx ah hw;obtain ⟨x,ys,rfl,aH,hr⟩:=hx.cons;have ha:=aEc _ au H enc base held n _ x aH (fun m hm=>hw m (by simp only [aY3,DataW.weightsEach,aYo];exact .inl hm));have kF:(hl.cons a b).size=a.size+b.size:=rfl;have ag:=aEd _ aU H enc base held n cs ys hr (by omega) (fun m hm=>hw m (by simp only [aY3,DataW.weightsEach,aYo];exact .inr hm));rw [κ,τ] at ha;refine ⟨_,_, ?_,ha.1, ?_,ha.2,ag⟩
  · rw [← bcB,aZ5]
  · rw [aYs];omega
theorem aqi {e:TypeId}:∀ (l:List (DataW H)) (ts:List TypeId),ts.length=l.length→(∀ t∈ts,t=e)→DataW.weightsEach P ts l=DataW.weightsAll P e l
  | [], [],_,_=>rfl
  | d::l,t::ts,h,aH=>by
    rw [DataW.weightsEach,DataW.weightsAll,aH t (by simp),aqi l ts (by simpa using h) (fun u hu=>aH u (by simp [hu]))]
  | [],_::_,h,_=>by simp at h
  | _::_, [],h,_=>by simp at h
theorem apt {t:TypeId} {fs:List (TypeId×Nat)} {fuel:Nat} {cs:List Value} {x:DataW H×List MemPlace} (hp:partsOf P t=some fs) (h:DataW.trod enc P w base (fun _=>true) held fuel t cs=some x):
    cs.length=P.cellsOf t∧∃ (xs:List (DataW H×List MemPlace)) (n:Nat),ME enc P w base held n cs fs xs∧x.1.weights P t=DataW.weightsEach P (fs.map (·.1)) (xs.map (·.1)):=by
  unfold partsOf at hp;split at hp
  · rename_i gs hu
    obtain rfl:=aYd hp;obtain ⟨xs,n,_,rfl,ah,hlen,hf⟩:=DataW.trod_struct hu h;refine ⟨ah,xs,n,⟨by rw [hlen];simp,fun i f aN=> ?_⟩, ?_⟩
    · rw [aYv] at aN
      match aCa:gs.toList[i]?,aN with
      | some g,aN =>
        obtain rfl:=aYd aN;exact hf i g (by rw [← aZe];exact aCa)
    · simp only [DataW.weights,hu,ba8]
      rfl
  · rename_i m e hu
    obtain rfl:=aYd hp;obtain ⟨xs,n,_,rfl,ah,hlen,hf⟩:=DataW.trod_array hu h;refine ⟨ah,xs,n,⟨by rw [hlen];simp,fun i f aN=> ?_⟩, ?_⟩
    · rw [aYv] at aN
      have hi:i<m:=by
        rcases aZc i m with h | h
        · exact h
        · rw [aZE (by simpa using h)] at aN;cases aN
      rw [bbM hi] at aN;obtain rfl:=aYd aN;exact hf i hi
    · simp only [DataW.weights,hu]
      rw [aqi (e:=e)]
      · simp [hlen]
      · intro u hu;simp at hu;exact hu.2.symm
  · cases hp
theorem Kw (P:Program) (w:World):∀ (sh:hl) (t:TypeId ⊕ (Nat×List (TypeId×Nat))),sh.fit P t=true→Goal P w sh t
  | .int k, .inl t,h=>by
    intro H enc base held fuel cs x aH _;unfold hl.fit at h;split at h
    · rename_i k' hu
      obtain rfl:k'=k:=aY6 h;cases fuel with
      | zero=>simp [DataW.trod] at aH
      | succ n =>
        unfold DataW.trod at aH;rw [hu] at aH;split at aH<;>simp_all;exact ⟨Z,_,Z,aH.1.2⟩
    · cases h
  | .bool, .inl t,h=>by
    intro H enc base held fuel cs x aH _;unfold hl.fit at h;split at h
    · rename_i hu
      cases fuel with
      | zero=>simp [DataW.trod] at aH
      | succ n =>
        unfold DataW.trod at aH;rw [hu] at aH;split at aH<;>simp_all;exact ⟨Z,_,Z⟩
    · cases h
  | .str, .inl t,h=>by
    intro H enc base held fuel cs x aH hw;unfold hl.fit at h;split at h
    · rename_i hu
      cases fuel with
      | zero=>simp [DataW.trod] at aH
      | succ n =>
        unfold DataW.trod at aH;rw [hu] at aH;split at aH<;>simp_all;obtain ⟨κ,rfl⟩:=aH;refine ⟨Z,_,Z,κ, ?_⟩;simpa [DataW.weights,reachBytes] using hw
    · cases h
  | .slice e by_, .inl t,h=>by
    intro H enc base held fuel cs x aH hw;unfold hl.fit at h;split at h
    · rename_i u hu
      simp only [aYl,aZf] at h;obtain ⟨⟨κ,τ⟩,au⟩:=h;rcases open_slice hu aH with ⟨rfl,_⟩ | ⟨a,len,cap,m,n,D,aOS,rfl,_,ah,hm,TV,rfl,hi⟩
      · exact ⟨rfl, .inl rfl⟩
      · simp only [bab] at TV
        subst TV;refine ⟨Z, .inr ⟨a,len,m,Z,ah,hm, ?_,fun i aCd=> ?_⟩⟩
        · have:=hw ((((List.range len).map D).length+((List.range (m - len)).map fun j=>D (len+j)).length) * P.bytesOf u) (by simp [DataW.weights,hu])
          rw [τ] at this;simp only [aYT,bdr,reachBytes] at this;rw [show len+(m - len)=m from by omega] at this;exact this
        · obtain ⟨agZ,hc,aDB⟩:=hi i aCd
          have aN:=Kw P w e (.inl u) au H enc base held n agZ _ aDB (fun k ak=>hw k (by
            simp only [DataW.weights,hu,aYk,aYo];right;by_cases A':i<len
            · exact .inl (aqh (aYU.2 ⟨i,aY0.2 A',rfl⟩) k ak)
            · exact .inr (aqh (aYU.2 ⟨i - len,aY0.2 (by omega),by rw [show len+(i - len)=i from by omega]⟩) k ak)))
          obtain ⟨_,kT,fX⟩:=World.cells?_some hc;refine ⟨agZ,aN.1,fun j v hv=> ?_,aN.2⟩;have ay:j<P.cellsOf u:=by have:=(aX8.1 hv).1;omega
          rw [κ] at fX ay;rw [← Go.Deep.add_add,fX j ay,hv]
    · cases h
  | .nil, .inl t,h=>by
    intro H enc base held fuel cs x aH hw;unfold hl.fit at h;simp only [aYl,aZf] at h;obtain ⟨aG,κ⟩:=h;have hp:∃ fs,partsOf P t=some fs:=by
      unfold partsOf;split at κ
      · exact ⟨_,rfl⟩
      · exact ⟨_,rfl⟩
      · cases κ
    obtain ⟨fs,hp⟩:=hp;have ah:=(apt hp aH).1;rw [aG] at ah;exact ⟨ah,aYx ah⟩
  | .cons a b, .inl t,h=>by
    intro H enc base held fuel cs x aH hw;unfold hl.fit at h;simp only [aYl,aZf] at h;obtain ⟨aG,h⟩:=h;split at h
    · rename_i u o r hp
      obtain ⟨ah,xs,n,hx,he⟩:=apt hp aH;rw [aG] at ah;refine ⟨ah, ?_⟩;simp only [aYl,aZf] at h;obtain ⟨⟨⟨κ,τ⟩,au⟩,aU⟩:=h;have aU:b.fit P (.inr (0+a.size,r))=true:=by rw [aY4];exact aU
      exact Goal.fields (w:=w) (f:=(u,o)) (fun t aH=>Kw P w a t aH) (fun t aH=>Kw P w b t aH) κ τ au aU H enc base held n cs xs hx (by rw [ah];show _=0+(a.size+b.size);omega) (fun m hm=>hw m (by rw [he];exact hm))
    · cases h
  | .nil, .inr (off,fs),h=>by
    intro H enc base held n cs xs hx ah hw;exact aYx (by rw [aYs,ah];simp [hl.size])
  | .cons a b, .inr (off,fs),h=>by
    unfold hl.fit at h;split at h
    · rename_i u o r
      simp only [aYl,aZf] at h;obtain ⟨⟨⟨κ,τ⟩,au⟩,aU⟩:=h;exact Goal.fields (f:=(u,o)) (fun t aH=>Kw P w a t aH) (fun t aH=>Kw P w b t aH) κ τ au aU
    · cases h
  | .int _, .inr _,h=>by simp [hl.fit] at h
  | .bool, .inr _,h=>by simp [hl.fit] at h
  | .str, .inr _,h=>by simp [hl.fit] at h
  | .slice _ _, .inr _,h=>by simp [hl.fit] at h
theorem anP {ts:List TypeId} {ds:List (DataW H)} (sh:hl) {j:Nat} {t:TypeId} {v:Value} {d:DataW H} {p:List MemPlace} (Fp:sh.fit P (.inl t)=true)
    (kF:(DataW.weightsEach P ts ds).all (· ≤reachBytes)=true) (aH:ts[j]? =some t) (hd:ds[j]? =some d) (h:DataW.Trod enc P w base (fun _=>true) held t v d p):
    v.cells.toList.length=sh.size∧sh.j_ w v.cells.toList:=by
  obtain ⟨fuel,hf⟩:=h;exact Kw P w sh (.inl t) Fp H enc base held fuel _ (d,p) hf (fun n hn=>by
    have:=aYW.1 kF _ (DataW.weights_mem_each aH hd n hn);simpa using this)
theorem amS {α:Type} (n:Nat) (p:Nat→α→Prop) (h:∀ i,i<n→∃ x,p i x):∃ l:List α,l.length=n∧∀ i (hi:i<l.length),p i l[i]:=by
  induction n with
  | zero=>exact ⟨[],rfl,fun i hi=>absurd hi (by simp)⟩
  | succ n bL =>
    obtain ⟨l,ah,hp⟩:=bL (fun i hi=>h i (by omega));obtain ⟨x,hx⟩:=h n (by omega);refine ⟨l++ [x],by simp [ah],fun i hi=> ?_⟩;by_cases e_:i<l.length
    · rw [baJ e_];exact hp i e_
    · have:i=n:=by simp at hi;omega
      subst this;rw [List.getElem_append_right (by omega)];simpa [ah] using hx
def dC {β α:Type} (P:β→α→Prop):List β→List α→Prop
  | [], []=>True
  | b::c7,a::m=>P b a∧dC P c7 m
  | _,_=>False
section
variable {β α:Type} {P Q:β→α→Prop}
theorem dC.length:∀ {l:List β} {m:List α},dC P l m→l.length=m.length
  | [], [],_=>rfl
  | _::_,_::_,h=>by rw [aYc,aYc,dC.length h.2]
  | [],_::_,h=>h.elim
  | _::_, [],h=>h.elim
theorem dC.imp {l:List β} (hi:∀ b a,b∈l→P b a→Q b a):∀ {m:List α},dC P l m→dC Q l m:=by
  induction l with
  | nil=>intro m h;cases m with | nil=>trivial | cons=>exact h
  | cons b r bL =>
    intro m h;cases m with
    | nil=>exact h
    | cons a s=>exact ⟨hi b a (by simp) h.1,bL (fun b a ag=>hi b a (by simp [ag])) h.2⟩
theorem dC.app:∀ {l:List β} {m:List α} {wa:List β} {m':List α},dC P l m→dC P wa m'→dC P (l++wa) (m++m')
  | [], [],_,_,_,h=>h
  | _::_,_::_,_,_,h,dh=>⟨h.1,dC.app h.2 dh⟩
  | [],_::_,_,_,h,_=>h.elim
  | _::_, [],_,_,h,_=>h.elim
theorem dC.at_:∀ {l:List β} {m:List α} {i:Nat} {a:α},dC P l m→m[i]? =some a→∃ b,l[i]? =some b∧P b a
  | [], [],_,_,_,h=>by simp at h
  | b::_,_::_,0,_,h,e=>⟨b,rfl,by simp at e;subst e;exact h.1⟩
  | _::_,_::_,i+1,_,h,e=>by
    obtain ⟨b,κ,τ⟩:=dC.at_ (i:=i) h.2 (by simpa using e);exact ⟨b,by simpa using κ,τ⟩
  | [],_::_,_,_,h,_=>h.elim
  | _::_, [],_,_,h,_=>h.elim
theorem dC.adp:∀ {l:List β} {m:List α} {i:Nat} {b:β} {a:α},dC P l m→P b a→dC P (l.set i b) (m.set i a)
  | [], [],_,_,_,_,_=>trivial
  | _::_,_::_,0,_,_,h,e=>⟨e,h.2⟩
  | _::_,_::_,_+1,_,_,h,e=>⟨h.1,dC.adp h.2 e⟩
  | [],_::_,_,_,_,h,_=>h.elim
  | _::_, [],_,_,_,h,_=>h.elim
theorem dC.LN:∀ {l:List β} {m:List α} (k:Nat),dC P l m→dC P (l.take k) (m.take k)
  | [], [],_,_=>by simp [dC]
  | _::_,_::_,0,_=>trivial
  | _::_,_::_,k+1,h=>⟨h.1,dC.LN k h.2⟩
  | [],_::_,_,h=>h.elim
  | _::_, [],_,h=>h.elim
theorem dC.left:∀ {l:List β} {m:List α},dC P l m→∀ b∈l,∃ a,P b a
  | [],_,_,b,ag=>by simp at ag
  | c::_, [],h,_,_=>h.elim
  | c::_,a::_,h,b,ag=>by
    rcases aYk.1 ag with rfl | ag
    · exact ⟨a,h.1⟩
    · exact dC.left h.2 b ag
end
theorem CK {k:Nat}:∀ {l:List (List Value)},(∀ x∈l,x.length=k)→l.flatten.length=l.length * k
  | [],_=>by simp
  | x::r,h=>by rw [aZa,aX9,h x (by simp),CK (l:=r) (fun y aE=>h y (by simp [aE])),aYc,aZM];omega
theorem Ks {k:Nat}:∀ {l:List (List Value)} {i j:Nat} {es:List Value},(∀ x∈l,x.length=k)→l[i]? =some es→j<k→l.flatten[i * k+j]? =es[j]?
  | [],_,_,_,_,h,_=>by simp at h
  | x::r,0,j,es,h,e,ay=>by
    have e:x=es:=by simpa using e
    subst e;rw [aZa,bb8,aY4,aYw (by rw [h x (by simp)];exact ay)]
  | x::r,i+1,j,es,h,e,ay=>by
    have hx:=h x (by simp);rw [aZa,aYy (by rw [hx,aZM];omega),hx,show (i+1) * k+j - k=i * k+j from by rw [aZM];omega];exact Ks (fun y aE=>h y (by simp [aE])) (by simpa using e) ay
theorem aiM {k:Nat}:∀ {l:List (List Value)} {i j:Nat} {es:List Value} (u:Value),(∀ x∈l,x.length=k)→l[i]? =some es→j<k→l.flatten.set (i * k+j) u=(l.set i (es.set j u)).flatten
  | [],_,_,_,_,_,h,_=>by simp at h
  | x::r,0,j,es,u,h,e,ay=>by
    have e:x=es:=by simpa using e
    subst e;rw [aZa,bb8,aY4,List.set_append_left _ _ (by rw [h x (by simp)];exact ay)];rfl
  | x::r,i+1,j,es,u,h,e,ay=>by
    have hx:=h x (by simp);rw [aZa,bbB _ _ (by rw [hx,aZM];omega),hx,show (i+1) * k+j - k=i * k+j from by rw [aZM];omega,aiM u (fun y aE=>h y (by simp [aE])) (by simpa using e) ay];rfl
theorem aiN {k:Nat}:∀ {l:List (List Value)} (i:Nat),(∀ x∈l,x.length=k)→l.flatten.take (i * k)=(l.take i).flatten
  | [],_,_=>by simp
  | x::r,0,_=>by simp
  | x::r,i+1,h=>by
    have hx:=h x (by simp);rw [aZa,bdb,aZa,bcn,hx,aYp (by rw [hx,aZM];omega),show (i+1) * k - k=i * k from by rw [aZM];omega,aiN i (fun y aE=>h y (by simp [aE]))]
structure J (α:Type) where
  size:Nat
  has:World→List Value→α→Prop
  own:World→Nat→List Nat→List Value→α→Prop
  raw:Nat→Value→Prop
  len:∀ {w cs a},has w cs a→cs.length=size
  one:∀ {w cs a},has w cs a→∀ u∈cs,u.oneCell'=true
  xY:∀ {w cs a},has w cs a→∀ (j:Nat) u,cs[j]? =some u→raw j u
  keep:∀ {w w' cs a},has w cs a→Below w.heap.size w w'→has w' cs a
  u':∀ {w B f cs a},own w B f cs a→has w cs a
  rA:∀ {w w' B f cs a},own w B f cs a→(∀ g∈f,w'.heap[g]? =w.heap[g]?)→own w' B f cs a
  xV:∀ {w B f cs a},own w B f cs a→∀ g∈f,B≤g∧g<w.heap.size
  Dw:∀ {w B sO f cs a},own w B f cs a→sO≤B→own w sO f cs a
namespace J
variable {α β:Type} {w w':World} {B sO:Nat} {f:List Nat} {cs:List Value} {a:α}
theorem acE (R:J α) (h:R.own w B f cs a):cs.length=R.size:=R.len (R.u' h)
def Zu (size:Nat) (cells:α→List Value) (ok:α→Prop) (raw:Nat→Value→Prop) (ah:∀ a,(cells a).length=size) (κ:∀ a,∀ u∈cells a,u.oneCell'=true) (hr:∀ a,ok a→∀ (j:Nat) u,(cells a)[j]? =some u→raw j u):J α where
  size:=size
  has:=fun _ cs a=>cs=cells a∧ok a
  own:=fun _ _ f cs a=>f= []∧cs=cells a∧ok a
  raw:=raw
  len:=by rintro w cs a ⟨rfl,_⟩;exact ah a
  one:=by rintro w cs a ⟨rfl,_⟩;exact κ a
  xY:=by rintro w cs a ⟨rfl,h⟩;exact hr a h
  keep:=fun h _=>h
  u':=fun h=>h.2
  rA:=fun h _=>h
  xV:=by rintro w B f cs a ⟨rfl,_⟩ g aN;simp at aN
  Dw:=fun h _=>h
def flat (size:Nat) (cells:α→List Value) (ok:α→Prop) (raw:Nat→Value→Prop) (ah:∀ a,(cells a).length=size) (κ:∀ a,∀ u∈cells a,u.oneCell'=true) (hr:∀ a (j:Nat) u,(cells a)[j]? =some u→raw j u):J α where
  size:=size
  has:=fun _ cs a=>cs=cells a∧ok a
  own:=fun _ _ f cs a=>f= []∧cs=cells a∧ok a
  raw:=raw
  len:=by rintro w cs a ⟨rfl,_⟩;exact ah a
  one:=by rintro w cs a ⟨rfl,_⟩;exact κ a
  xY:=by rintro w cs a ⟨rfl,_⟩;exact hr a
  keep:=fun h _=>h
  u':=fun h=>h.2
  rA:=fun h _=>h
  xV:=by rintro w B f cs a ⟨rfl,_⟩ g aN;simp at aN
  Dw:=fun h _=>h
def pair (R:J α) (S:J β):J (α×β) where
  size:=R.size+S.size
  has:=fun w cs p=>∃ xs ys,cs=xs++ys∧R.has w xs p.1∧S.has w ys p.2
  own:=fun w B f cs p=>∃ xs ys f1 f2,cs=xs++ys∧f=f1++f2∧R.own w B f1 xs p.1∧S.own w B f2 ys p.2
  raw:=fun j u=>if j<R.size then R.raw j u else S.raw (j - R.size) u
  len:=by rintro w cs p ⟨xs,ys,rfl,κ,τ⟩;rw [aX9,R.len κ,S.len τ]
  one:=by
    rintro w cs p ⟨xs,ys,rfl,κ,τ⟩ u hu;rcases aYo.1 hu with hu | hu
    · exact R.one κ u hu
    · exact S.one τ u hu
  xY:=by
    rintro w cs p ⟨xs,ys,rfl,κ,τ⟩ j u hu;by_cases ay:j<R.size
    · rw [aYq ay];rw [aYw (by rw [R.len κ];exact ay)] at hu;exact R.xY κ j u hu
    · rw [aYi ay];rw [aYy (by rw [R.len κ];omega),R.len κ] at hu;exact S.xY τ _ u hu
  keep:=by rintro w w' cs p ⟨xs,ys,rfl,κ,τ⟩ ag;exact ⟨xs,ys,Z,R.keep κ ag,S.keep τ ag⟩
  u':=by rintro w B f cs p ⟨xs,ys,f1,f2,rfl,rfl,κ,τ⟩;exact ⟨xs,ys,Z,R.u' κ,S.u' τ⟩
  rA:=by
    rintro w w' B f cs p ⟨xs,ys,f1,f2,rfl,rfl,κ,τ⟩ ak;exact ⟨xs,ys,f1,f2,Z,Z,R.rA κ (fun g aN=>ak g (by simp [aN])),S.rA τ (fun g aN=>ak g (by simp [aN]))⟩
  xV:=by
    rintro w B f cs p ⟨xs,ys,f1,f2,rfl,rfl,κ,τ⟩ g aN;rcases aYo.1 aN with aN | aN
    · exact R.xV κ g aN
    · exact S.xV τ g aN
  Dw:=by
    rintro w B sO f cs p ⟨xs,ys,f1,f2,rfl,rfl,κ,τ⟩ ag;exact ⟨xs,ys,f1,f2,Z,Z,R.Dw κ ag,S.Dw τ ag⟩
def via (R:J α) (g:β→α):J β where
  size:=R.size
  has:=fun w cs b=>R.has w cs (g b)
  own:=fun w B f cs b=>R.own w B f cs (g b)
  raw:=R.raw
  len:=fun h=>R.len h
  one:=fun h=>R.one h
  xY:=fun h=>R.xY h
  keep:=fun h ag=>R.keep h ag
  u':=fun h=>R.u' h
  rA:=fun h ak=>R.rA h ak
  xV:=fun h=>R.xV h
  Dw:=fun h ag=>R.Dw h ag
def ab:Option Addr→List Nat
  | none=> []
  | some a=> [a.block]
theorem aGe {A:Option Addr} {g:Nat}:g∈ab A↔∃ a,A=some a∧a.block=g:=by
  cases A with
  | none=>simp [ab]
  | some a=>simp [ab,eq_comm]
def aK (R:J α) (by_:Nat) (w:World) (A:Option Addr) (c:Nat) (l:List α):Prop :=
  l.length≤c∧c≤9223372036854775807∧l.length * by_≤140737488355328∧(A=none→c=0)∧
  ∃ ess,dC (fun es a=>R.has w es a) ess l∧Rd w R.size A l.length ess.flatten
def aF (R:J α) (E:TypeId) (by_:Nat) (w:World) (B:Nat) (f:List Nat) (A:Option Addr) (c:Nat) (l:List α):Prop :=
  l.length * by_≤140737488355328∧
  ∃ ps:List (List Nat×List Value),f=ab A++(ps.map (·.1)).flatten∧f.Nodup∧Own w B E R.size R.raw (.slice A l.length c) l.length (ps.map (·.2)).flatten∧
    dC (fun x a=>R.own w B x.1 x.2 a) ps l
theorem aK.keep {R:J α} {by_:Nat} {A:Option Addr} {c:Nat} {l:List α} (h:R.aK by_ w A c l) (ag:Below w.heap.size w w'):R.aK by_ w' A c l:=by
  obtain ⟨κ,τ,au,aU,ess,bN,cq⟩:=h;exact ⟨κ,τ,au,aU,ess,bN.imp (fun es a _ h=>R.keep h ag),cq.later ag⟩
theorem aK.drewN {R:J α} {by_:Nat} {A:Option Addr} {c:Nat} {l:List α} (h:R.aK by_ w A c l) (k:Nat):R.aK by_ (w.drewN k) A c l:=h.keep (below_drewN (aYG _ w) k)
theorem dC.acd {β aqD α:Type} (g:β→aqD) {P:aqD→α→Prop}:∀ {l:List β} {m:List α},dC (fun b a=>P (g b) a) l m→dC P (l.map g) m
  | [], [],_=>trivial
  | _::_,_::_,h=>⟨h.1,dC.acd g h.2⟩
  | [],_::_,h=>h.elim
  | _::_, [],h=>h.elim
theorem aF.has {R:J α} {E:TypeId} {by_:Nat} {A:Option Addr} {c:Nat} {l:List α} (h:R.aF E by_ w B f A c l):R.aK by_ w A c l:=by
  obtain ⟨κ,ps,rfl,au,aU,bN⟩:=h;obtain ⟨bQ,cc,e,hle,hmx,OZ,_,lL⟩:=aU.shape;injection e with aW _ bb
  subst aW;subst bb;refine ⟨hle,by unfold maxLen at hmx;omega,κ,fun hn=>by have:=lL hn;injection this,_,dC.acd (fun x:List Nat×List Value=>x.2) (bN.imp fun x a _ h=>R.u' h),OZ⟩
theorem aF.keep {R:J α} {E:TypeId} {by_:Nat} {A:Option Addr} {c:Nat} {l:List α} (h:R.aF E by_ w B f A c l) (ak:∀ g∈f,w'.heap[g]? =w.heap[g]?):R.aF E by_ w' B f A c l:=by
  obtain ⟨κ,ps,rfl,au,aU,bN⟩:=h;refine ⟨κ,ps,Z,au,aU.of_block (B:=0) fun g aN=>ak g ?_,bN.imp fun x a hx h=>R.rA h fun g aN=>ak g ?_⟩
  · cases A with
    | none=>cases aN
    | some a=>injection aN with aN;simp [ab,aN]
  · exact aYo.2 (.inr (aZj.2 ⟨x.1,aYU.2 ⟨x,hx,rfl⟩,aN⟩))
theorem aF.lt {R:J α} {E:TypeId} {by_:Nat} {A:Option Addr} {c:Nat} {l:List α} (h:R.aF E by_ w B f A c l):∀ g∈f,B≤g∧g<w.heap.size:=by
  obtain ⟨κ,ps,rfl,au,aU,bN⟩:=h;intro g aN;rcases aYo.1 aN with aN | aN
  · obtain ⟨a,rfl,rfl⟩:=aGe.1 aN
    exact aU.row.lt _ Z
  · obtain ⟨y,aE,aN⟩:=aZj.1 aN
    obtain ⟨x,hx,rfl⟩:=aYU.1 aE;obtain ⟨a,ha⟩:=bN.left x hx;exact R.xV ha g aN
theorem aF.later {R:J α} {E:TypeId} {by_:Nat} {A:Option Addr} {c:Nat} {l:List α} (h:R.aF E by_ w B f A c l) (ag:Below w.heap.size w w'):R.aF E by_ w' B f A c l:=h.keep fun g aN=>ag.block g (h.lt g aN).2
theorem aF.anv {R:J α} {E:TypeId} {by_:Nat} {c:Nat} {l:List α} (h:R.aF E by_ w B f none c l):l= []∧c=0:=by
  have κ:=h.has;have:=κ.2.2.2.1 rfl;have τ:=κ.1;exact ⟨aYx (by omega),this⟩
theorem aF.nodup {R:J α} {E:TypeId} {by_:Nat} {A:Option Addr} {c:Nat} {l:List α} (h:R.aF E by_ w B f A c l):f.Nodup:=by
  obtain ⟨_,ps,rfl,au,_⟩:=h;exact au
theorem aF.down {R:J α} {E:TypeId} {by_:Nat} {A:Option Addr} {c:Nat} {l:List α} (h:R.aF E by_ w B f A c l) (ag:sO≤B):R.aF E by_ w sO f A c l:=by
  obtain ⟨κ,ps,rfl,au,aU,bN⟩:=h;exact ⟨κ,ps,Z,au,aU.mono ag,bN.imp fun x a _ h=>R.Dw h ag⟩
def slice (R:J α) (E:TypeId) (by_:Nat):J (List α) where
  size:=1
  has:=fun w cs l=>∃ A c,cs= [.slice A l.length c]∧R.aK by_ w A c l
  own:=fun w B f cs l=>∃ A c,cs= [.slice A l.length c]∧R.aF E by_ w B f A c l
  raw:=fun _ u=>∃ A n c,u= .slice A n c
  len:=by rintro w cs l ⟨A,c,rfl,_⟩;rfl
  one:=by rintro w cs l ⟨A,c,rfl,_⟩ u hu;simp at hu;subst hu;rfl
  xY:=by
    rintro w cs l ⟨A,c,rfl,_⟩ j u hu;cases j with
    | zero=>simp at hu;exact ⟨_,_,_,hu.symm⟩
    | succ j=>simp at hu
  keep:=by rintro w w' cs l ⟨A,c,rfl,h⟩ ag;exact ⟨A,c,Z,h.keep ag⟩
  u':=by rintro w B f cs l ⟨A,c,rfl,h⟩;exact ⟨A,c,Z,h.has⟩
  rA:=by rintro w w' B f cs l ⟨A,c,rfl,h⟩ ak;exact ⟨A,c,Z,h.keep ak⟩
  xV:=by rintro w B f cs l ⟨A,c,rfl,h⟩;exact h.lt
  Dw:=by rintro w B sO f cs l ⟨A,c,rfl,h⟩ ag;exact ⟨A,c,Z,h.down ag⟩
theorem dC.anH {β α:Type} {P:β→α→Prop}:∀ {l:List β} {m:List α},l.length=m.length→(∀ (k:Nat) b a,l[k]? =some b→m[k]? =some a→P b a)→dC P l m
  | [], [],_,_=>trivial
  | b::l,a::m,ah,h=>⟨h 0 b a rfl rfl,dC.anH (by simpa using ah) (fun k b a κ τ=>h (k+1) b a (by simpa using κ) (by simpa using τ))⟩
  | [],_::_,ah,_=>by simp at ah
  | _::_, [],ah,_=>by simp at ah
section
variable {R:J α} {E:TypeId} {by_:Nat} {A:Option Addr} {c:Nat} {l:List α}
theorem lens {ess:List (List Value)} (h:dC (fun es a=>R.has w es a) ess l):∀ x∈ess,x.length=R.size:=fun x hx=>by
  obtain ⟨a,ha⟩:=h.left x hx;exact R.len ha
theorem aK.at_ (h:R.aK by_ w A c l) (aG:0<l.length):∃ b o,A=some ⟨b,o,none⟩∧∀ (i:Nat) a,l[i]? =some a→∃ es,R.has w es a∧∀ (j:Nat) u,es[j]? =some u→w.cell? ⟨b,o+(i * R.size+j),none⟩=some u:=by
  obtain ⟨_,_,_,_,ess,bN,cq,ew⟩:=h;obtain ⟨b,o,e,hc⟩:=ew aG;refine ⟨b,o,e,fun i a ha=> ?_⟩;obtain ⟨es,gB,tj⟩:=bN.at_ ha;refine ⟨es,tj,fun j u hu=>hc _ u ?_⟩;have ay:=(aX8.1 hu).1;rw [R.len tj] at ay;rw [Ks (lens bN) gB ay];exact hu
theorem aK.AB {Q:α→Prop} (I:∀ {w cs a},R.has w cs a→Q a) (h:R.aK by_ w A c l):∀ a∈l,Q a:=by
  obtain ⟨_,_,_,_,ess,bN,_⟩:=h;intro a ha;obtain ⟨i,hi,rfl⟩:=aY9.1 ha;obtain ⟨es,_,he⟩:=bN.at_ (aYb hi);exact I he
theorem Ls {e:hl} (he:∀ w cs,e.j_ w cs→∃ a,R.has w cs a) (hs:e.size=R.size) (aG:0<R.size) {cs:List Value} (h:(hl.slice e by_).j_ w cs):∃ A c l,cs= [.slice A (List.length l) c]∧R.aK by_ w A c l:=by
  rcases h with rfl | ⟨a,len,cap,rfl,ah,hm,hr,hi⟩
  · exact ⟨none,0, [],rfl,aYg _,by simp,by simp,fun _=>rfl, [],trivial,Rd.zero w R.size none⟩
  · obtain ⟨ess,hlen,C1⟩:=amS len (fun i es=>List.length es=e.size∧(∀ j v,es[j]? =some v→w.cell? (a.add (i * e.size+j))=some v)∧e.j_ w es) (fun i Ic=>hi i (by omega))
    obtain ⟨l,kc,TP⟩:=amS len (fun i x=>∃ es,ess[i]? =some es∧R.has w es x) (fun i Ic=>by
      obtain ⟨x,hx⟩:=he w (ess[i]'(by omega)) (C1 i (by omega)).2.2;exact ⟨x,_,aYb _,hx⟩)
    have dM:dC (fun es x=>R.has w es x) ess l:=by
      refine dC.anH (by omega) fun k es x κ τ=> ?_;have ak:=(aX8.1 τ);obtain ⟨q8,gC⟩:=ak;obtain ⟨aQP,au,aU⟩:=TP k q8;rw [κ] at au;obtain rfl:=aYd au;rw [← gC];exact aU
    refine ⟨some a,cap,l,by rw [kc],by omega,by unfold maxLen at hm;omega, ?_,fun h=>(by cases h),ess,dM,by rw [CK (lens dM),dM.length],fun aRj=> ?_⟩
    · have:=aYY by_ ah
      rw [kc];omega
    · obtain ⟨b,off,spot⟩:=a
      have ob:=(C1 0 (by omega)).2.1 0;obtain ⟨v,hv⟩:∃ v,(ess[0]'(by omega))[0]? =some v:=by
        have:=(C1 0 (by omega)).1;exact ⟨_,aYb (by omega)⟩
      have uR:=ob v hv;have C9:spot=none:=by simpa [Addr.add] using World.cell?_spot uR
      subst C9;refine ⟨b,off,Z,fun j u hu=> ?_⟩;have bF:=(aX8.1 hu).1;rw [CK (lens dM)] at bF;have ay:j % R.size<R.size:=bal _ aG;have hd:j / R.size<ess.length:=by rw [bbA aG];exact bF
      have T7:j / R.size * R.size+j % R.size=j:=by rw [aZq];exact bcv j R.size
      have cq:=Ks (j:=j % R.size) (lens dM) (i:=j / R.size) (es:=ess[j / R.size]'hd) (aYb hd) ay;rw [T7,hu] at cq;have ew:=(C1 (j / R.size) hd).2.1 _ u cq.symm;rw [Hn,hs,T7] at ew;exact ew
theorem aK.fa {A:Option Addr} {c:Nat} {l:List α} {by_:Nat} {R:J α} (h:R.aK by_ w A c l):l.length≤9223372036854775807:=aYF h.1 h.2.1
theorem aK.LN {A:Option Addr} {c:Nat} {l:List α} {by_:Nat} {R:J α} (h:R.aK by_ w A c l) (k:Nat):R.aK by_ w A c (l.take k):=by
  obtain ⟨κ,τ,au,aU,ess,bN,cq⟩:=h;have ah:(l.take k).length≤l.length:=by rw [aYa];omega
  have hm:=aYY by_ ah;have ew:=bN.LN k;refine ⟨by omega,τ,by omega,aU,ess.take k,ew,by rw [CK (lens ew),ew.length],fun aG=> ?_⟩;obtain ⟨b,o,e,hc⟩:=cq.2 (by omega);refine ⟨b,o,e,fun j u hu=>hc j u ?_⟩;rw [← aiN k (lens bN),aYO] at hu;split at hu
  · exact hu
  · cases hu
theorem aK.nil (w:World):R.aK by_ w none 0 []:=⟨aYg _,by simp,by simp,fun _=>rfl, [],trivial,Rd.zero w R.size none⟩
theorem aF.nil (w:World):R.aF E by_ w B [] none 0 []:=⟨by simp, [],rfl,bcA,Own.nil w B E R.size R.raw,trivial⟩
end
def Hh (R:J α) (E:TypeId) (by_:Nat) (w:World) (B:Nat) (aD:List Nat) (g c:Nat) (l:List α) (i:Nat) (es:List Value):Prop :=
  l.length * by_≤140737488355328∧ 
  ∃ ps:List (List Nat×List Value),aD=g::(ps.map (·.1)).flatten∧aD.Nodup∧Own w B E R.size R.raw (.slice (some ⟨g,0,none⟩) l.length c) l.length (ps.map (·.2)).flatten∧
    ps[i]? =some ([],es)∧es.length=R.size∧ps.length=l.length∧∀ k a,k≠i→l[k]? =some a→∃ x,ps[k]? =some x∧R.own w B x.1 x.2 a
section
variable {R:J α} {E:TypeId} {by_:Nat} {A:Option Addr} {c:Nat} {l:List α} {g i:Nat} {es:List Value} {aD:List Nat}
theorem U4 {ps:List (List Nat×List Value)} (h:dC (fun x a=>R.own w B x.1 x.2 a) ps l):∀ x∈ps.map (·.2),x.length=R.size:=fun x hx=>by
  obtain ⟨y,aE,rfl⟩:=aYU.1 hx;obtain ⟨a,ha⟩:=h.left y aE;exact R.acE ha
theorem aF.block (h:R.aF E by_ w B f A c l) (aG:0<l.length):∃ g,A=some ⟨g,0,none⟩:=by
  obtain ⟨_,ps,_,_,aU,_⟩:=h;obtain ⟨_,bN⟩:=aU;rcases bN with ⟨_,bN⟩ | ⟨g,cap,cur,hv,_⟩
  · omega
  · injection hv with hv;exact ⟨g,hv⟩
theorem Hh.lens (h:R.Hh E by_ w B aD g c l i es):∃ ps:List (List Nat×List Value),aD=g::(ps.map (·.1)).flatten∧aD.Nodup∧Own w B E R.size R.raw (.slice (some ⟨g,0,none⟩) l.length c) l.length (ps.map (·.2)).flatten∧
    ps[i]? =some ([],es)∧es.length=R.size∧ps.length=l.length∧(∀ k a,k≠i→l[k]? =some a→∃ x,ps[k]? =some x∧R.own w B x.1 x.2 a)∧∀ x∈ps.map (·.2),x.length=R.size:=by
  obtain ⟨_,ps,τ,au,aU,bN,cq,ew,gB⟩:=h;refine ⟨ps,τ,au,aU,bN,cq,ew,gB,fun x hx=> ?_⟩;obtain ⟨k,ak,rfl⟩:=aY9.1 hx;rw [aYT] at ak;rw [bbm];by_cases q9:k=i
  · subst q9
    rw [aYb ak] at bN;rw [aYd bN];exact cq
  · obtain ⟨y,aE,bK⟩:=gB k (l[k]'(by omega)) q9 (aYb _)
    rw [aYb ak] at aE;rw [aYd aE];exact R.acE bK
theorem Hh.keep (h:R.Hh E by_ w B aD g c l i es) (ak:∀ x∈aD,w'.heap[x]? =w.heap[x]?):R.Hh E by_ w' B aD g c l i es:=by
  obtain ⟨κ,ps,τ,au,aU,bN,cq,ew,gB⟩:=h;refine ⟨κ,ps,τ,au,aU.of_block (B:=0) (fun x hx=>ak x ?_),bN,cq,ew,fun k a q9 ha=> ?_⟩
  · injection hx with hx;rw [τ,← hx];simp
  · obtain ⟨x,hx,bK⟩:=gB k a q9 ha
    refine ⟨x,hx,R.rA bK fun y aE=>ak y ?_⟩;rw [τ];exact aYm _ (aZj.2 ⟨x.1,aYU.2 ⟨x,aYR hx,Z⟩,aE⟩)
theorem Hh.cell (h:R.Hh E by_ w B aD g c l i es) (hi:i<l.length) {j:Nat} {u:Value} (hu:es[j]? =some u):w.cell? ⟨g,i * R.size+j,none⟩=some u:=by
  obtain ⟨ps,τ,au,aU,bN,cq,ew,gB,ah⟩:=h.lens;have ay:j<R.size:=by rw [← cq];exact (aX8.1 hu).1
  have:=aU.cell (i * R.size+j) (by
    have:(i+1) * R.size≤l.length * R.size:=aYY _ hi;rw [aZM] at this;omega)
  rw [this,Ks ah (by rw [aYv,bN];rfl) ay];exact hu
theorem aF.free (h:R.aF E by_ w B f (some ⟨g,0,none⟩) c l) (j:Nat):w.frozen? ⟨g,j,none⟩=false:=by
  obtain ⟨_,ps,rfl,_,aU,_⟩:=h;exact aU.free j
end

section
variable {P:Program} {R:J α} {by_:Nat}
theorem U5 (A:Option Addr) (n c:Nat):(Value.slice A n c).ownBlock.toList=ab A:=by cases A<;>rfl
theorem aIT (ty:TypeId) (base:Nat) (t e:TypeId) (i:TypeInfo) (z:Value) (aH:P.underlying t=some (.slice e)) (hi:P.info? e=some i) (bc:i.zero=some z)
    (zf:i.size=R.size) (q6:i.bytes=by_) (uS:z.cells.size=R.size) (kF:0<R.size) (zj:∀ (j:Nat) u,z.cells[j]? =some u→R.raw j u)
    (f:List Nat) (A:Option Addr) (c:Nat) (l:List α) (h:R.aF e by_ w base f A c l)
    (dp:Option Addr) (m c2:Nat) (k:List α) (l7:List (List Nat×List Value)) (I:dC (fun x a=>R.own w base x.1 x.2 a) l7 k) (hm:k.length=m) (hr:Rd w R.size dp m (l7.map (·.2)).flatten)
    (kE:(f++(l7.map (·.1)).flatten).Nodup) (th:l.length+m≤9223372036854775807) (l4:(l.length+m) * by_≤140737488355328) (oa:base≤w.heap.size):
    ∃ bQ cc f' w',(Builtin.append_ #[t,t] ty #[.slice A l.length c, .slice dp m c2]).run P w= .ok (.slice bQ (l.length+m) cc) w'∧R.aF e by_ w' base f' bQ cc (l++k)∧w.grownBy w' (Value.slice A l.length c).ownBlock∧(bQ=A∨∃ a,bQ=some a∧a.block=w.heap.size)∧(∀ x∈f',x∈f∨x∈(l7.map (·.1)).flatten∨x=w.heap.size)∧(bQ=none↔A=none∧m=0)∧base≤w'.heap.size:=by
  obtain ⟨κ,ps,rfl,au,aU,bN⟩:=h;have C6:∀ (j:Nat) u,(l7.map (·.2)).flatten[j]? =some u→R.raw (j % R.size) u:=by
    intro j u hu;have ah:=U4 I;have bF:=(aX8.1 hu).1;rw [CK ah,aYT] at bF;have ay:j % R.size<R.size:=bal _ kF;have hd:j / R.size<l7.length:=by rw [bbA kF];exact bF
    have aSy:l7[j / R.size]? =some (l7[j / R.size]'hd):=aYb hd;have aCt:k[j / R.size]? =some (k[j / R.size]'(by rw [← I.length];exact hd)):=aYb _;obtain ⟨x,hx,bK⟩:=I.at_ aCt;have:=Ks (j:=j % R.size) ah (i:=j / R.size) (es:=x.2) (by rw [aYv,hx];rfl) ay;rw [show j / R.size * R.size+j % R.size=j from by rw [aZq];exact bcv j R.size,hu] at this;exact R.xY (R.u' bK) _ u this.symm
  have mT:∀ u∈(l7.map (·.2)).flatten,u.oneCell'=true:=by
    intro u hu;obtain ⟨y,aE,hu⟩:=aZj.1 hu;obtain ⟨x,hx,rfl⟩:=aYU.1 aE;obtain ⟨a,ha⟩:=I.left x hx;exact R.one (R.u' ha) u hu
  obtain ⟨v',w',ke,fz,jE,mS,fX⟩:=ada (P:=P) w base t ty e i z R.size by_ aH hi bc zf q6 uS kF R.raw zj _ _ _ aU dp m c2 _ hr mT C6 (by unfold maxLen;omega) l4 oa;obtain ⟨bQ,cc,rfl,hle,hmx,OZ,KN,lL⟩:=fz.shape;have aCH:∀ x,(Value.slice A l.length c).ownBlock=some x→x∈ab A:=fun x hx=>by rw [← U5 A l.length c,hx];simp
  have hA:∀ x∈ab bQ,x∈ab A∨x=w.heap.size:=by
    intro x hx;rw [← U5 bQ (l.length+m) cc] at hx;rcases fX with fX | fX
    · rw [fX,U5] at hx;exact .inl hx
    · rw [fX] at hx;simp at hx;exact .inr hx
  have abc:∀ x∈ps,∀ y∈x.1,y<w.heap.size∧y∉ab A:=by
    intro x hx y aE;obtain ⟨a,ha⟩:=bN.left x hx;refine ⟨(R.xV ha y aE).2,fun ag=> ?_⟩;rw [aY7] at au;exact au.2.2 y ag y (aZj.2 ⟨x.1,aYU.2 ⟨x,hx,Z⟩,aE⟩) Z
  have aDg:∀ x∈l7,∀ y∈x.1,y<w.heap.size∧y∉ab A:=by
    intro x hx y aE;obtain ⟨a,ha⟩:=I.left x hx;refine ⟨(R.xV ha y aE).2,fun ag=> ?_⟩;rw [aY7] at kE;exact kE.2.2 y (aZJ _ ag) y (aZj.2 ⟨x.1,aYU.2 ⟨x,hx,Z⟩,aE⟩) Z
  have aBA:∀ y,y<w.heap.size→y∉ab A→w'.heap[y]? =w.heap[y]? :=fun y aE hn=>jE.block y aE fun e=>hn (aCH y e.symm);have aa1:∀ x∈ps++l7,∀ y∈x.1,y<w.heap.size∧y∉ab A:=fun x hx=>by
    rcases aYo.1 hx with hx | hx
    · exact abc x hx
    · exact aDg x hx
  refine ⟨bQ,cc,ab bQ++((ps++l7).map (·.1)).flatten,w',ke,⟨by rw [aX9,hm];exact l4,ps++l7,rfl, ?_, ?_, ?_⟩,jE, ?_, ?_, ?_,aYF oa jE.size⟩
  · rw [aYK,← aZZ,← aYA,aY7] at kE
    rw [aY7];refine ⟨by cases bQ<;>simp [ab],kE.2.1,fun x hx y aE e=> ?_⟩;subst e;obtain ⟨z,bc,aE⟩:=aZj.1 aE;obtain ⟨v,hv,rfl⟩:=aYU.1 bc;have cq:=aa1 v hv x aE;rcases hA x hx with ew | ew
    · exact cq.2 ew
    · omega
  · rw [aYA,aZZ,aX9,hm];exact fz
  · exact (bN.app I).imp fun x a hx bK=>R.rA bK fun y aE=>aBA y (aa1 x hx y aE).1 (aa1 x hx y aE).2
  · rcases fX with fX | fX
    · cases bQ with
      | none =>
        cases A with
        | none=>exact .inl rfl
        | some a=>cases fX
      | some a' =>
        cases A with
        | none=>cases fX
        | some a =>
          obtain ⟨_,cq⟩:=aU;obtain ⟨_,ew⟩:=fz;rcases cq with ⟨cq,_⟩ | ⟨g,cap,cur,cq,_⟩
          · cases cq
          rcases ew with ⟨ew,_⟩ | ⟨g',aQo,EW,ew,_⟩
          · cases ew
          injection cq with cq
          injection ew with ew
          rw [cq,ew] at fX ⊢;injection fX with fX
          have fX:g'=g:=fX
          left;rw [fX]
    · cases bQ with
      | none=>cases fX
      | some a'=>injection fX with fX;exact .inr ⟨a',Z,fX⟩
  · intro x hx
    rcases aYo.1 hx with hx | hx
    · rcases hA x hx with h | h
      · exact .inl (aZJ _ h)
      · exact .inr (.inr h)
    · rw [aYA,aZZ] at hx
      rcases aYo.1 hx with hx | hx
      · exact .inl (aY5 _ hx)
      · exact .inr (.inl hx)
  · have HV:A=none→Value.slice A l.length c= .slice none 0 0:=fun e=>by
      obtain ⟨_,_,jy,_,_,_,_,aCR⟩:=aU.shape;injection jy with aW _ bb
      subst aW;subst bb;exact aCR e
    constructor
    · intro e
      obtain ⟨cq,ew⟩:=mS.1 (lL e);injection cq with cq
      exact ⟨cq,ew⟩
    · rintro ⟨e,aG⟩
      have:=mS.2 ⟨HV e,aG⟩;injection this
theorem aL1 {o:Oper} {a:Act} {K:Act→World→Prop} {Q:Exit→Act→World→Prop} (s x:Operand) (base:Nat) (t e:TypeId) (i:TypeInfo) (z:Value) (aH:P.underlying t=some (.slice e)) (hi:P.info? e=some i) (bc:i.zero=some z)
    (zf:i.size=R.size) (q6:i.bytes=by_) (uS:z.cells.size=R.size) (kF:0<R.size) (zj:∀ (j:Nat) u,z.cells[j]? =some u→R.raw j u)
    (f:List Nat) (A:Option Addr) (c:Nat) (l:List α) (h:R.aF e by_ w base f A c l)
    (dp:Option Addr) (m c2:Nat) (k:List α) (l7:List (List Nat×List Value)) (I:dC (fun x a=>R.own w base x.1 x.2 a) l7 k) (hm:k.length=m) (hr:Rd w R.size dp m (l7.map (·.2)).flatten)
    (kE:(f++(l7.map (·.1)).flatten).Nodup) (th:l.length+m≤9223372036854775807) (l4:(l.length+m) * by_≤140737488355328) (oa:base≤w.heap.size)
    (bK:o.op= .call {callee:= .builtin .append,args:=#[s,x],argTypes:=#[t,t]}) (hs:a.eval s= .slice A l.length c) (hx:a.eval x= .slice dp m c2)
    (hK:∀ bQ cc f' w',R.aF e by_ w' base f' bQ cc (l++k)∧w.grownBy w' (Value.slice A l.length c).ownBlock∧(bQ=A∨∃ a,bQ=some a∧a.block=w.heap.size)∧(∀ x∈f',x∈f∨x∈(l7.map (·.1)).flatten∨x=w.heap.size)∧(bQ=none↔A=none∧m=0)∧base≤w'.heap.size→K (a.put o.dst (.slice bQ (l.length+m) cc)) w'):o.wp P a w K Q:=by
  obtain ⟨bQ,cc,f',w',ke,τ⟩:=aIT (P:=P) (w:=w) o.type base t e i z aH hi bc zf q6 uS kF zj f A c l h dp m c2 k l7 I hm hr kE th l4 oa;unfold Oper.wp execOp;simp only [bK,resolve,invoke,builtin,aYt,aYu,aYj,bcp,aY3,bac,hs,hx,ke];exact hK bQ cc f' w' τ
theorem aLY {ops:Array Oper} {rest:List Oper} {o:Oper} {a:Act} {Q:Exit→Act→World→Prop} (aaS:o.guard=none) (s x:Operand) (base:Nat) (t e:TypeId) (i:TypeInfo) (z:Value) (aH:P.underlying t=some (.slice e)) (hi:P.info? e=some i) (bc:i.zero=some z)
    (zf:i.size=R.size) (q6:i.bytes=by_) (uS:z.cells.size=R.size) (kF:0<R.size) (zj:∀ (j:Nat) u,z.cells[j]? =some u→R.raw j u)
    (f:List Nat) (A:Option Addr) (c:Nat) (l:List α) (h:R.aF e by_ w base f A c l)
    (dp:Option Addr) (m c2:Nat) (k:List α) (l7:List (List Nat×List Value)) (I:dC (fun x a=>R.own w base x.1 x.2 a) l7 k) (hm:k.length=m) (hr:Rd w R.size dp m (l7.map (·.2)).flatten)
    (kE:(f++(l7.map (·.1)).flatten).Nodup) (th:l.length+m≤9223372036854775807) (l4:(l.length+m) * by_≤140737488355328) (oa:base≤w.heap.size)
    (bK:o.op= .call {callee:= .builtin .append,args:=#[s,x],argTypes:=#[t,t]}) (hs:a.eval s= .slice A l.length c) (hx:a.eval x= .slice dp m c2)
    (hK:∀ bQ cc f' w',R.aF e by_ w' base f' bQ cc (l++k)∧w.grownBy w' (Value.slice A l.length c).ownBlock∧(bQ=A∨∃ a,bQ=some a∧a.block=w.heap.size)∧(∀ x∈f',x∈f∨x∈(l7.map (·.1)).flatten∨x=w.heap.size)∧(bQ=none↔A=none∧m=0)∧base≤w'.heap.size→wpList P ops Q rest (a.put o.dst (.slice bQ (l.length+m) cc)) w'):wpList P ops Q (o::rest) a w :=
  wpList_plain aaS fun _ aAG=>aL1 s x base t e i z aH hi bc zf q6 uS kF zj f A c l h dp m c2 k l7 I hm hr kE th l4 oa bK hs hx fun bQ cc f' w' τ=>aAG _ _ (hK bQ cc f' w' τ)
def Plain (R:J α):Prop:=∀ {w B cs a},R.has w cs a→R.own w B [] cs a
theorem qa {size:Nat} {cells:α→List Value} {ok:α→Prop} {raw:Nat→Value→Prop} {ah κ hr}:(flat size cells ok raw ah κ hr).Plain:=fun h=>⟨rfl,h⟩
theorem aiK {size:Nat} {cells:α→List Value} {ok:α→Prop} {raw:Nat→Value→Prop} {ah κ hr}:(Zu size cells ok raw ah κ hr).Plain:=fun h=>⟨rfl,h⟩
theorem dC.plain {ess:List (List Value)} {l:List α} (hp:R.Plain) (h:dC (fun es a=>R.has w es a) ess l):dC (fun x a=>R.own w B x.1 x.2 a) (ess.map fun es=>(([]:List Nat),es)) l :=
  dC.acd (P:=fun (x:List Nat×List Value) a=>R.own w B x.1 x.2 a) (fun es=>(([]:List Nat),es)) (h.imp fun _ _ _ h=>hp h)
theorem acM (ess:List (List Value)):((ess.map fun es=>(([]:List Nat),es)).map (·.1)).flatten= []∧(ess.map fun es=>(([]:List Nat),es)).map (·.2)=ess:=by
  constructor
  · induction ess with
    | nil=>rfl
    | cons x r bL=>simp
  · rw [ba8]
    exact List.map_id' ess
theorem aF.Br {E:TypeId} {A:Option Addr} {c:Nat} {l:List α} (hp:R.Plain) {ess:List (List Value)} (h:dC (fun es a=>R.has w es a) ess l) (ag:l.length * by_≤140737488355328) (bK:Own w B E R.size R.raw (.slice A l.length c) l.length ess.flatten):R.aF E by_ w B (ab A) A c l:=by
  obtain ⟨aW,bb⟩:=acM ess;exact ⟨ag,_,by rw [aW,aYP],by cases A<;>simp [ab],by rw [bb];exact bK,dC.plain hp h⟩
theorem aF.azX {E:TypeId} {A:Option Addr} {c:Nat} {l:List α} (hp:∀ {w B f cs a},R.own w B f cs a→f= []) (h:R.aF E by_ w B f A c l):f=ab A:=by
  obtain ⟨_,ps,rfl,_,_,bN⟩:=h;have:(ps.map (·.1)).flatten= []:=by
    rw [bcO];intro x hx;obtain ⟨y,aE,rfl⟩:=aYU.1 hx;obtain ⟨a,ha⟩:=bN.left y aE;exact hp ha
  rw [this,aYP]
end
end J

theorem E7 {α:Type} {R:J α} {w:World} {ess:List (List Value)} {l:List α} (h:dC (fun es a=>R.has w es a) ess l) (aG:0<R.size) {j:Nat} {u:Value} (hu:ess.flatten[j]? =some u):R.raw (j % R.size) u:=by
  have ah:=J.lens h;have bF:=(aX8.1 hu).1;rw [CK ah] at bF;have ay:j % R.size<R.size:=bal _ aG;have hd:j / R.size<ess.length:=by rw [bbA aG];exact bF
  have T7:j / R.size * R.size+j % R.size=j:=by rw [aZq];exact bcv j R.size
  have cq:=Ks (j:=j % R.size) ah (i:=j / R.size) (es:=ess[j / R.size]'hd) (aYb hd) ay;rw [T7,hu] at cq;obtain ⟨a,ha⟩:=h.left _ (aZs hd);exact R.xY ha _ u cq.symm
namespace J
variable {α:Type} {w w':World} {B:Nat} {f:List Nat} {R:J α} {E:TypeId} {A:Option Addr} {by_ g c:Nat} {l:List α}
def rV (R:J α):Prop:=R.Plain∧∀ {w B f cs a},R.own w B f cs a→f= []
theorem dQ {size:Nat} {cells:α→List Value} {ok:α→Prop} {raw:Nat→Value→Prop} {ah κ hr}:(flat size cells ok raw ah κ hr).rV:=⟨qa,fun h=>h.1⟩
theorem azN {size:Nat} {cells:α→List Value} {ok:α→Prop} {raw:Nat→Value→Prop} {ah κ hr}:(Zu size cells ok raw ah κ hr).rV:=⟨aiK,fun h=>h.1⟩
theorem aF.aJs (h:R.aF E by_ w B f (some ⟨g,0,none⟩) c l) (hp:R.rV) {i j:Nat} {a a':α} {u:Value} (hi:l[i]? =some a) (ay:j<R.size) (hu:∀ cs,R.has w cs a→R.has (w.setCell ⟨g,i * R.size+j,none⟩ u) (cs.set j u) a'):
    R.aF E by_ (w.setCell ⟨g,i * R.size+j,none⟩ u) B f (some ⟨g,0,none⟩) c (l.set i a'):=by
  obtain ⟨ag,ps,rfl,hn,bK,dM⟩:=h;obtain ⟨x,hx,Dc⟩:=dM.at_ hi;have ah:=U4 dM;have iG:x.1= []:=hp.2 Dc;have K5:x.2.length=R.size:=R.acE Dc;have akH:=hu x.2 (R.u' Dc);have ph:R.raw j u:=R.xY akH j u (by rw [aYz (by omega)]);have tj:=bK.stored (i * R.size+j) u (by rw [aZq,baL,aZz ay];exact ph);rw [aiM u ah (i:=i) (es:=x.2) (by rw [aYv,hx];rfl) ay] at tj;have bF:=(aX8.1 hx).1;have aW:(ps.set i (x.1,x.2.set j u)).map (·.1)=ps.map (·.1):=by
    rw [aZu];have:(ps.map (·.1))[i]? =some x.1:=by rw [aYv,hx];rfl
    obtain ⟨τ,au⟩:=aX8.1 this
    conv=>lhs;rw [← au]
    exact aZ6 _
  have bb:(ps.set i (x.1,x.2.set j u)).map (·.2)=(ps.map (·.2)).set i (x.2.set j u):=by rw [aZu]
  have aaI:∀ y∈ps,∀ q∈y.1,q≠g:=fun y aE q I e=>by
    obtain ⟨b,H3⟩:=dM.left y aE;rw [hp.2 H3] at I;simp at I
  have aat:dC (fun x a=>R.own (w.setCell ⟨g,i * R.size+j,none⟩ u) B x.1 x.2 a) ps l:=dM.imp fun y a aE zi=>R.rA zi fun q I=>bck _ _ _ _ (aaI y aE q I);refine ⟨by rw [aYn];exact ag,ps.set i (x.1,x.2.set j u),by rw [aW],hn,by rw [aYn,bb];exact tj, ?_⟩;exact aat.adp (P:=fun (x:List Nat×List Value) a=>R.own (w.setCell ⟨g,i * R.size+j,none⟩ u) B x.1 x.2 a) (by rw [iG];exact hp.1 akH)
theorem aF.other (h:R.aF E by_ w B f A c l) {p:Addr} (hp:p.block∉f) (u:Value):R.aF E by_ (w.setCell p u) B f A c l :=
  h.keep fun g aN=>bck _ _ _ _ fun e=>hp (e ▸ aN)
theorem aF.drewN (h:R.aF E by_ w B f A c l) (k:Nat):R.aF E by_ (w.drewN k) B f A c l:=h.keep fun _ _=>rfl
theorem aF.drew (h:R.aF E by_ w B f A c l):R.aF E by_ w.drew B f A c l:=h.keep fun _ _=>rfl
end J
def b9 (n lo hi:Int):Bool:=decide (lo≤n) && decide (n≤hi)
theorem hV {n lo hi:Int} (h:b9 n lo hi=true):lo≤n∧n≤hi:=by simpa [b9] using h
theorem aEe {n lo hi:Int} (h:b9 n lo hi=false):n<lo∨hi<n:=by
  simp [b9] at h;omega
theorem nM {n lo hi:Int} (κ:lo≤n) (τ:n≤hi):b9 n lo hi=true:=by simp [b9,κ,τ]
theorem ri {n lo hi:Int} (h:n<lo∨hi<n):b9 n lo hi=false:=by
  cases ag:b9 n lo hi with
  | false=>rfl
  | true=>have:=hV ag;omega
def gY {α:Type} (p:α→Bool) (l:List α):Int:=match l.findIdx? p with | some k=>(k:Int) | none=> -1
theorem Ir {α:Type} {p:α→Bool} {l:List α} {k:Nat} (ak:k<l.length) (κ:p l[k]=true) (τ:∀ j (ay:j<k),p (l[j]'(by omega))=false):gY p l=(k:Int):=by
  unfold gY;have:l.findIdx? p=some k:=by
    rw [baT];exact ⟨ak,κ,fun j ay=>by rw [τ j ay];simp⟩
  rw [this]
theorem Iq {α:Type} {p:α→Bool} {l:List α} (τ:∀ j (ay:j<l.length),p l[j]=false):gY p l= -1:=by
  unfold gY;have:l.findIdx? p=none:=by
    rw [bbc];intro x hx;obtain ⟨j,ay,rfl⟩:=aY9.1 hx;exact τ j ay
  rw [this]
theorem K6 {α:Type} (p:α→Bool) (l:List α):decide (0≤gY p l)=l.any p:=by
  by_cases h:∀ j (ay:j<l.length),p l[j]=false
  · rw [Iq h]
    have:l.any p=false:=by
      rw [bcc];intro x hx;obtain ⟨j,ay,rfl⟩:=aY9.1 hx;rw [h j ay];simp
    rw [this];rfl
  · have:l.any p=true:=by
      rw [aZB];simp only [Classical.not_forall] at h;obtain ⟨j,ay,h⟩:=h;exact ⟨l[j],aZs ay,by simpa using h⟩
    rw [this];unfold gY;cases hf:l.findIdx? p with
    | none =>
      rw [bbc] at hf;rw [aZB] at this;obtain ⟨x,hx,hp⟩:=this;rw [hf x hx] at hp;cases hp
    | some k=>simp
theorem abw {α:Type} (p:α→Bool) (l:List α):gY p l= -1∧(∀ x∈l,p x=false)∨∃ (k:Nat) (h:k<l.length),gY p l=(k:Int)∧p l[k]=true∧∀ j (ay:j<k),p (l[j]'(by omega))=false:=by
  unfold gY;cases hf:l.findIdx? p with
  | none=>exact .inl ⟨rfl,fun x hx=>bbc.1 hf x hx⟩
  | some k =>
    obtain ⟨κ,τ,au⟩:=baT.1 hf;exact .inr ⟨k,κ,Z,τ,fun j ay=>by have:=au j ay;simpa using this⟩
open Go.RowKit Go.Maps

def j4 (w:World) (b:Nat) (es:Array MapEntry) (clock:Nat):World:=Go.ChangeMaps.setBlock w b (.map es clock)
theorem F_ {w:World} {b:Nat} {es:Array MapEntry} {clock:Nat} (h:b<w.heap.size):(j4 w b es clock).heap[b]? =some (.map es clock):=by
  simp [j4,Go.ChangeMaps.setBlock,h]
theorem P8 {w:World} {b g:Nat} {es:Array MapEntry} {clock:Nat} (h:g≠b):(j4 w b es clock).heap[g]? =w.heap[g]? :=by
  simp [j4,Go.ChangeMaps.setBlock,baf (ba7 h)]
theorem aoN {w:World} {b:Nat} {es:Array MapEntry} {clock:Nat}:(j4 w b es clock).heap.size=w.heap.size:=by
  simp [j4,Go.ChangeMaps.setBlock]
theorem aJp {B:Nat} {a w:World} {b:Nat} {es:Array MapEntry} {clock:Nat} (h:Below B a w) (ag:B≤b):Below B a (j4 w b es clock):=
  h.trans ⟨rfl,rfl,rfl,by simp [aoN],fun k ak=>P8 (by omega)⟩
def eo {fT:Type} (key:fT→Value) (e:fT×Int×Nat):MapEntry:=⟨key e.1, .int .i64 e.2.1,e.2.2⟩
structure ej {fT:Type} (key:fT→Value) (w:World) (b:Nat) (l:List (fT×Int×Nat)) (clock:Nat):Prop where
  fI:w.heap[b]? =some (.map (l.map (eo key)).toArray clock)
  born:∀ e∈l,e.2.2<clock
  stamps:(l.map (·.2.2)).Nodup
structure Xm {fT:Type} (P:Program) (k:TypeId) (key:fT→Value) (wf:fT→Prop):Prop where
  keyed:Keyed P k
  lit:∀ x,wf x→∃ l,keyOf P k (key x)=some l
  inj:∀ x y,key x=key y→x=y
namespace ej
section
variable {fT:Type} {key:fT→Value} {w:World} {b:Nat} {l:List (fT×Int×Nat)} {clock:Nat}
theorem lt (h:ej key w b l clock):b<w.heap.size:=(aYN.1 h.fI).1
theorem keep {w':World} (h:ej key w b l clock) (ak:w'.heap[b]? =w.heap[b]?):ej key w' b l clock:=⟨ak.trans h.fI,h.born,h.stamps⟩
theorem later {w':World} (h:ej key w b l clock) (ag:Below w.heap.size w w'):ej key w' b l clock:=h.keep (ag.block b h.lt)
theorem made (w:World):ej key (w.alloc (.map #[] 0)) w.heap.size [] 0:=⟨bbe w _,(by simp),(by simp)⟩
theorem aEP {P:Program} {k:TypeId} {wf:fT→Prop} (K:Xm P k key wf) (hw:∀ e∈l,wf e.1):∀ y∈l.map (eo key),∃ z,keyOf P k y.key=some z:=by
  intro y aE;obtain ⟨a,ha,rfl⟩:=aYU.1 aE;exact K.lit a.1 (hw a ha)
end
variable {fT:Type} [DecidableEq fT] {key:fT→Value} {w:World} {b:Nat} {l:List (fT×Int×Nat)} {clock:Nat}
def get (l:List (fT×Int×Nat)) (x:fT):Option Int:=(l.find? fun e=>decide (e.1=x)).map (·.2.1)
def put (l:List (fT×Int×Nat)) (clock:Nat) (x:fT) (v:Int):List (fT×Int×Nat):=
  if l.any (fun e=>decide (e.1=x)) then l.map (fun e=>if e.1=x then (e.1,v,e.2.2) else e) else l++ [(x,v,clock)]
def tick (l:List (fT×Int×Nat)) (clock:Nat) (x:fT):Nat:=if l.any (fun e=>decide (e.1=x)) then clock else clock+1
theorem CT (l:List (fT×Int×Nat)) (c:Nat) (x y:fT) (v:Int):get (put l c x v) y=if y=x then some v else get l y:=by
  unfold get put;by_cases h:l.any (fun e=>decide (e.1=x))=true
  · rw [aYq h]
    induction l with
    | nil=>simp at h
    | cons e r bL =>
      rw [aY3];by_cases hex:e.1=x
      · rw [aYq hex]
        by_cases aE:y=x
        · subst aE
          rw [bbt (by simp [hex])];simp
        · rw [aYi aE,bao (by simp [hex,ba7 aE]),bao (by simp [hex,ba7 aE])]
          by_cases hr:r.any (fun e=>decide (e.1=x))=true
          · have:=bL hr
            rw [aYi aE] at this;exact this
          · have e0:r.map (fun e=>if e.1=x then (e.1,v,e.2.2) else e)=r:=by
              conv=>rhs;rw [← List.map_id r]
              refine bdd fun a ha=> ?_;rw [aYi];rfl;intro he;exact hr (aZB.2 ⟨a,ha,by simp [he]⟩)
            rw [e0]
      · rw [aYi hex]
        have hr:r.any (fun e=>decide (e.1=x))=true:=by simpa [hex] using h
        by_cases OH:e.1=y
        · have aDU:¬ y=x:=fun h=>hex (OH.trans h)
          rw [bbt (by simp [OH]),bbt (by simp [OH]),aYi aDU]
        · rw [bao (by simp [OH]),bao (by simp [OH])]
          exact bL hr
  · rw [aYi h,List.find?_append]
    by_cases aE:y=x
    · subst aE
      have:l.find? (fun e=>decide (e.1=y))=none:=by
        rw [aZH];intro e he hd;exact h (aZB.2 ⟨e,he,hd⟩)
      rw [this];simp
    · rw [aYi aE]
      cases l.find? (fun e=>decide (e.1=y))<;>simp [ba7 aE]
theorem acg {l:List (fT×Int×Nat)} {c:Nat} {x:fT} {v:Int} {wf:fT→Prop} (ah:∀ e∈l,wf e.1) (hx:wf x):∀ e∈put l c x v,wf e.1:=by
  intro e he;unfold put at he;split at he
  · obtain ⟨a,ha,rfl⟩:=aYU.1 he
    split
    · exact ah a ha
    · exact ah a ha
  · rcases aYo.1 he with he | he
    · exact ah e he
    · simp at he;subst he;exact hx
theorem ic {l:List (fT×Int×Nat)} (hn:(l.map (·.1)).Nodup) {j n:Nat} {x:fT} {v:Int} (ay:l[j]? =some (x,v,n)):get l x=some v:=by
  unfold get;induction l generalizing j with
  | nil=>simp at ay
  | cons e r bL =>
    rw [aY3,bbv] at hn;cases j with
    | zero=>simp at ay;subst ay;simp
    | succ j =>
      have ay:r[j]? =some (x,v,n):=by simpa using ay
      have:e.1≠x:=fun he=>hn.1 (aYU.2 ⟨(x,v,n),aYR ay,he.symm⟩);rw [bao (by simpa using this)];exact bL hn.2 ay
theorem K7 {l:List (fT×Int×Nat)} (hn:(l.map (·.1)).Nodup) (c:Nat) (x:fT) (v:Int):((put l c x v).map (·.1)).Nodup:=by
  unfold put;split
  · rw [ba8]
    have:((fun e:fT×Int×Nat=>e.1) ∘ fun e=>if e.1=x then (e.1,v,e.2.2) else e)=fun e=>e.1:=by
      funext e;simp only [Function.comp];split<;>rfl
    rw [this];exact hn
  · rename_i h
    rw [aYA,aY7];refine ⟨hn,by simp,fun a ha c hc e=> ?_⟩;simp at hc;obtain ⟨y,aE,rfl⟩:=aYU.1 ha;exact h (aZB.2 ⟨y,aE,by simp [e,hc]⟩)
variable {P:Program} {k e t:TypeId} {wf:fT→Prop} (K:Xm P k key wf)
include K
theorem found (h:ej key w b l clock) (hw:∀ e∈l,wf e.1) (x:fT) (hx:wf x):
    ((Instr.findKey k (key x) (l.map (eo key))).run P w= .ok none w∧get l x=none∧∀ a∈l,a.1≠x)∨
    ∃ (j:Nat) (v:Int) (n:Nat),(Instr.findKey k (key x) (l.map (eo key))).run P w= .ok (some (j, .int .i64 v)) w∧l[j]? =some (x,v,n):=by
  obtain ⟨j2,tE⟩:=K.lit x hx;rcases K.keyed.find w tE (l.map (eo key)) (aEP K hw) with ⟨κ,τ⟩ | ⟨j,e0,κ,τ,au⟩
  · have lp:∀ a∈l,a.1≠x:=fun a ha CZ=>τ (eo key a) (aYU.2 ⟨a,ha,rfl⟩) (by simp [eo,CZ])
    refine .inl ⟨κ, ?_,lp⟩;unfold get;rw [aZH.2 fun a ha=>by simpa using lp a ha];rfl
  · rw [aYv] at τ
    cases ay:l[j]? with
    | none=>rw [ay] at τ;cases τ
    | some a =>
      rw [ay] at τ;obtain rfl:=aYd τ;obtain rfl:a.1=x:=K.inj _ _ au;exact .inr ⟨j,a.2.1,a.2.2,κ,ay⟩
theorem lookup (aH:P.underlying t=some (.map k e)) (bc:(zeroValue e).run P w= .ok (.int .i64 0) w) (h:ej key w b l clock) (hw:∀ e∈l,wf e.1) (hn:(l.map (·.1)).Nodup) (x:fT) (hx:wf x):
    (Instr.lookup t (.map (some b)) (key x) false).run P w= .ok (.int .i64 ((get l x).getD 0)) w∧
    (Instr.lookup t (.map (some b)) (key x) true).run P w= .ok (.tuple #[.int .i64 ((get l x).getD 0), .bool (get l x).isSome]) w:=by
  obtain ⟨j2,tE⟩:=K.lit x hx;rcases found K h hw x hx with ⟨κ,τ,_⟩ | ⟨j,v,n,κ,τ⟩
  · rw [τ]
    constructor<;>simp [Instr.lookup,aZo aH,aZd h.fI,K.keyed.check w _ tE,κ,bc,Result.andThen]
  · rw [ic hn τ]
    constructor<;>simp [Instr.lookup,aZo aH,aZd h.fI,K.keyed.check w _ tE,κ,Result.andThen]
theorem entry (aH:P.underlying t=some (.map k e)) (bc:∀ u:World,(zeroValue e).run P u= .ok (.int .i64 0) u) (h:ej key w b l clock) (hw:∀ e∈l,wf e.1) (hn:(l.map (·.1)).Nodup) (x:fT) (hx:wf x):
    ∃ (st:Nat) (fo:List (fT×Int×Nat)) (c1:Nat),(∀ n,(Instr.mapEntry t (.map (some b)) (key x)).run P (w.drewN n)= .ok (.tuple #[.int .i64 ((get l x).getD 0), .int .i64 (st:Int)]) ((j4 w b (fo.map (eo key)).toArray c1).drewN n))∧
      ej key (j4 w b (fo.map (eo key)).toArray c1) b fo c1∧(∀ e∈fo,wf e.1)∧(fo.map (·.1)).Nodup∧get fo x=some ((get l x).getD 0)∧
      ∀ v n,(Instr.entryStore t (.map (some b)) (.int .i64 (st:Int)) (.int .i64 v)).run P ((j4 w b (fo.map (eo key)).toArray c1).drewN n)= .ok () ((j4 w b ((put l clock x v).map (eo key)).toArray (tick l clock x)).drewN n)∧
        ej key (j4 w b ((put l clock x v).map (eo key)).toArray (tick l clock x)) b (put l clock x v) (tick l clock x):=by
  obtain ⟨j2,tE⟩:=K.lit x hx;have ag:=h.fI;have bF:=h.lt;have H6:∀ n,(w.drewN n).heap[b]? =some (.map (l.map (eo key)).toArray clock):=fun n=>ag;have idxOf:∀ (m:List (fT×Int×Nat)) (j:Nat) (a:fT×Int×Nat),(m.map (·.2.2)).Nodup→m[j]? =some a→((m.map (eo key)).toArray).findIdx? (fun y=>((y.born:Nat):Int)== ((a.2.2:Nat):Int))=some j:=by
    intro m j a hm ay;rw [bcM];refine bcI (l:=m.map (eo key)) (j:=j) (e0:=eo key a) ?_ (by rw [aYv,ay];rfl);rw [ba8];exact hm
  rcases found K h hw x hx with ⟨κ,τ,au⟩ | ⟨j,v0,n0,κ,τ⟩
  · have q3:l.any (fun e=>decide (e.1=x))=false:=by
      rw [bdt];intro ha;obtain ⟨a,ha,hd⟩:=aZB.1 ha;exact au a ha (by simpa using hd)
    have FE:∀ v,put l clock x v=l++ [(x,v,clock)]:=fun v=>by unfold put;rw [aYi (by rw [q3];decide)]
    have abo:tick l clock x=clock+1:=by unfold tick;rw [aYi (by rw [q3];decide)]
    have g_:∀ v,ej key (j4 w b ((l++ [(x,v,clock)]).map (eo key)).toArray (clock+1)) b (l++ [(x,v,clock)]) (clock+1):=fun v=>by
      refine ⟨F_ bF,fun a ha=> ?_, ?_⟩
      · rcases aYo.1 ha with ha | ha
        · have:=h.born a ha;omega
        · simp at ha;subst ha;simp
      · rw [aYA,aY7]
        refine ⟨h.stamps,by simp,fun a ha c hc e=> ?_⟩;simp at hc;obtain ⟨y,aE,rfl⟩:=aYU.1 ha;have:=h.born y aE;omega
    have ZV:∀ n,(Instr.findKey k (key x) (l.map (eo key))).run P (w.drewN n)= .ok none (w.drewN n):=fun n=>by
      rcases found (w:=w.drewN n) K ⟨H6 n,h.born,h.stamps⟩ hw x hx with ⟨κ,_,_⟩ | ⟨j,v,m,_,ay⟩
      · exact κ
      · exact absurd rfl (au _ (aYR ay))
    refine ⟨clock,l++ [(x,0,clock)],clock+1,fun n=> ?_,g_ 0,fun a ha=> ?_, ?_, ?_,fun v n=> ?_⟩
    · rw [τ]
      have:(l.map (eo key)).toArray.push (⟨key x, .int .i64 0,clock⟩:MapEntry)=((l++ [(x,0,clock)]).map (eo key)).toArray:=by simp [eo]
      simp [Instr.mapEntry,aZo aH,aZd (H6 n),K.keyed.check (w.drewN n) false tE,ZV n,bc,aZC _ (H6 n),Result.andThen,j4,Go.ChangeMaps.setBlock,goInt,eo];rfl
    · rcases aYo.1 ha with ha | ha
      · exact hw a ha
      · simp at ha;subst ha;exact hx
    · have:=K7 hn clock x 0
      rw [FE] at this;exact this
    · have:=CT l clock x x 0
      rw [FE,aYq rfl] at this;rw [this,τ];rfl
    · rw [FE,abo]
      refine ⟨?_,g_ v⟩;have fl:=idxOf (l++ [(x,0,clock)]) l.length (x,0,clock) (g_ 0).stamps (by simp);have Ii:((l++ [(x,0,clock)]).map (eo key)).toArray.modify l.length (fun e=> {e with val:=Value.int .i64 v})=((l++ [(x,v,clock)]).map (eo key)).toArray:=by
        apply aZK;rw [baH];have hlen:l.length=(l.map (eo key)).length:=by simp
        rw [hlen];simp only [aYA,aY3,bac];rw [Go.WideElems.modify_last];rfl
      have dc:((j4 w b ((l++ [(x,0,clock)]).map (eo key)).toArray (clock+1)).drewN n).heap[b]? =some (.map ((l++ [(x,0,clock)]).map (eo key)).toArray (clock+1)):=F_ bF;have ke:(Instr.entryStore t (.map (some b)) (goInt clock) (.int .i64 v)).run P ((j4 w b ((l++ [(x,0,clock)]).map (eo key)).toArray (clock+1)).drewN n)= .ok () (j4 ((j4 w b ((l++ [(x,0,clock)]).map (eo key)).toArray (clock+1)).drewN n) b ((l++ [(x,v,clock)]).map (eo key)).toArray (clock+1)):=by
        rw [← Ii];simp only [Instr.entryStore,aYt,aZd dc,aYj,asInt,asIntOf,goInt,aYu];rw [fl];exact aZC _ dc
      refine ke.trans ?_;simp [j4,Go.ChangeMaps.setBlock,World.drewN]
  · have q3:l.any (fun e=>decide (e.1=x))=true:=aZB.2 ⟨_,aYR τ,by simp⟩
    have FE:∀ v,put l clock x v=l.map (fun e=>if e.1=x then (e.1,v,e.2.2) else e):=fun v=>by unfold put;rw [aYq q3]
    have abo:tick l clock x=clock:=by unfold tick;rw [aYq q3]
    have akh:=ic hn τ;have xF:∀ v,l.map (fun e=>if e.1=x then (e.1,v,e.2.2) else e)=l.set j (x,v,n0):=by
      intro v;refine aZW fun i=> ?_;rw [aYv];by_cases jF:j=i
      · subst jF
        rw [τ,aYz (aX8.1 τ).1];simp
      · rw [aYJ jF]
        cases hi:l[i]? with
        | none=>rfl
        | some a =>
          have:a.1≠x:=by
            intro CZ;have Ic:=(aX8.1 hi);have OK:=(aX8.1 τ);have aW:(l.map (·.1))[i]? =(l.map (·.1))[j]? :=by rw [aYv,aYv,hi,τ];simp [CZ]
            obtain ⟨ra,_⟩:=Ic;obtain ⟨kc,_⟩:=OK;have:=(bcb (by simpa using ra) hn).1 aW;exact jF this.symm
          simp [this]
    have ZV:∀ n,(Instr.findKey k (key x) (l.map (eo key))).run P (w.drewN n)= .ok (some (j, .int .i64 v0)) (w.drewN n):=fun n=>by
      rcases found (w:=w.drewN n) K ⟨H6 n,h.born,h.stamps⟩ hw x hx with ⟨_,_,au⟩ | ⟨aEB,v,m,HU,ay⟩
      · exact absurd rfl (au (x,v0,n0) (aYR τ))
      · have aW:(l.map (·.1))[aEB]? =(l.map (·.1))[j]? :=by rw [aYv,aYv,ay,τ];rfl
        have:=(bcb (by simpa using (aX8.1 ay).1) hn).1 aW;subst this;rw [τ] at ay;injection ay with ay
        injection ay with _ ay
        injection ay with aCl _
        rw [HU,aCl]
    have g_:∀ v,ej key (j4 w b ((l.set j (x,v,n0)).map (eo key)).toArray clock) b (l.set j (x,v,n0)) clock:=fun v=>by
      refine ⟨F_ bF,fun a ha=> ?_, ?_⟩
      · rcases aZ8 ha with ha | ha
        · exact h.born a ha
        · rw [ha];exact h.born (x,v0,n0) (aYR τ)
      · rw [aZu]
        have:(l.map (·.2.2)).set j n0=l.map (·.2.2):=by
          have akx:=(aX8.1 τ);obtain ⟨ra,kc⟩:=akx;have e:(l.map (·.2.2))[j]'(by simpa using ra)=n0:=by rw [bbm,kc]
          conv=>lhs;rw [← e]
          exact aZ6 _
        rw [this];exact h.stamps
    refine ⟨n0,l,clock,fun n=> ?_,⟨F_ bF,h.born,h.stamps⟩,hw,hn,by rw [akh];rfl,fun v n=> ?_⟩
    · rw [akh]
      have ay:(l.map (eo key)).toArray[j]? =some (eo key (x,v0,n0)):=by simp [τ]
      have abi:(l.map (eo key)).toArray.modify j (fun e=> {e with key:=key x})=(l.map (eo key)).toArray:=by
        apply aZK;rw [baH,baw _ _ _ _ (by rw [aYv,τ];rfl)];exact bcY _ _ _ (by rw [aYv,τ];rfl)
      have aa0:(eo key (x,v0,n0)).key=key x:=rfl;have aay:(eo key (x,v0,n0)).born=n0:=rfl;simp only [Instr.mapEntry,aYt,aZo aH,aYj,aZd (H6 n),K.keyed.check (w.drewN n) false tE,ZV n,ay,aZL,aZm,aa0,K.keyed.stays (w.drewN n) tE,abi,aZC _ (H6 n),aay,aYu];rfl
    · rw [FE,abo,xF]
      refine ⟨?_,g_ v⟩;have fl:=idxOf l j (x,v0,n0) h.stamps τ;have Ii:(l.map (eo key)).toArray.modify j (fun e=> {e with val:=Value.int .i64 v})=((l.set j (x,v,n0)).map (eo key)).toArray:=by
        apply aZK;rw [baH,baw _ _ _ _ (by rw [aYv,τ];rfl),aZu];rfl
      have dc:((j4 w b (l.map (eo key)).toArray clock).drewN n).heap[b]? =some (.map (l.map (eo key)).toArray clock):=F_ bF;have ke:(Instr.entryStore t (.map (some b)) (goInt n0) (.int .i64 v)).run P ((j4 w b (l.map (eo key)).toArray clock).drewN n)= .ok () (j4 ((j4 w b (l.map (eo key)).toArray clock).drewN n) b ((l.set j (x,v,n0)).map (eo key)).toArray clock):=by
        rw [← Ii];simp only [Instr.entryStore,aYt,aZd dc,aYj,asInt,asIntOf,goInt,aYu];rw [fl];exact aZC _ dc
      refine ke.trans ?_;simp [j4,Go.ChangeMaps.setBlock,World.drewN]
end ej

theorem aoC {P:Program} {w:World} {o:Oper} {a:Act} (f:FuncId) (fn:Func) (hf:P.funcs[f]? =some fn) (hn:(fn.name == "runtime.NumGoroutine")=false) (ag:fn.body.isNone=false)
    (xs:Array Operand) (ts:Array TypeId) (xE:o.op=Op.call {callee:=Callee.value (Operand.func f),args:=xs,argTypes:=ts}) (args:Array Value) (TC:xs.map a.eval=args):
    (execOp a.eval o).run P w= .ok (.enter f args) w:=by
  unfold execOp;have he:a.eval (.func f)= .func (.func f) #[] #[]:=rfl;have hp:Sem.run P program w= .ok P w:=rfl;simp only [xE,resolve,invoke,Deferred.ofValue,he,callFunc,aYt,aYu,aYj,TC,hp,hf,hn,ag,bba,Array.append_empty,aY8,aZI]
theorem Vx {P:Program} {ops:Array Oper} {o:Oper} {a:Act} {w:World} {K:Act→World→Prop} {Q:Exit→Act→World→Prop} {E:Prop}
    (aN:o.guard=none) (f:FuncId) (fn:Func) (hf:P.funcs[f]? =some fn) (hn:(fn.name == "runtime.NumGoroutine")=false) (ag:fn.body.isNone=false)
    (xs:Array Operand) (ts:Array TypeId) (xE:o.op=Op.call {callee:=Callee.value (Operand.func f),args:=xs,argTypes:=ts}) (args:Array Value) (TC:xs.map a.eval=args)
    (hc:Calls P f args w fun e w'=>∃ v,e= .returned v∧K (a.put o.dst v) w'):
    if Region.wanted o (yielded ops a.tmps)=true then Oper.wp P o a w K Q else E:=by
  have hw:Region.wanted o (yielded ops a.tmps)=true:=by simp [Region.wanted,aN]
  rw [aYq hw];unfold Oper.wp;rw [aoC f fn hf hn ag xs ts xE args TC,Oper.upon_enter];refine hc.mono fun e lx eI=> ?_;obtain ⟨v,rfl,h⟩:=eI;exact h
theorem o_ {wr w1 w':World} (h:Below wr.heap.size wr w1) (τ:Below w1.heap.size w1 w'):Below wr.heap.size wr w':=h.trans (τ.mono h.size)
theorem agq {wr w1 w':World} (h:Below wr.heap.size wr w1) (τ:Below w1.drew.heap.size w1.drew w'):Below wr.heap.size wr w':=h.drew.trans (τ.mono h.size)
theorem Wd {P:Program} {id:Nat} {Q:Exit→Act→World→Prop} {a:Act} {w:World} {l:List Oper} (hm:P.follows .mixedOrders=true) (bg:Region.lexB .any l.toArray=true)
    (h:wpQuiet P l.toArray (fun w'=>Below w.heap.size w w') (fun a'=>∀ w',Below w.heap.size w w'→Q .normal a' w') l a):(Code.region id l.toArray true).wp P Q a w :=
  wp_region_quiet (C:=fun w'=>Below w.heap.size w w') hm bg (below_drewN (aYG _ w) 1) (by simpa using h)
theorem aID {P:Program} {o:Oper} {a:Act} {C:World→Prop} {w:World} {v:Value} (h:(execOp a.eval o).run P w= .ok (.value v) w):o.quietAt P a C w v:=by
  unfold Oper.quietAt;rw [h];exact ⟨Z,Z⟩
theorem aIC {P:Program} {o:Oper} {a:Act} {C:World→Prop} {w:World} {v:Value} {f:FuncId} {args:Array Value} (h:(execOp a.eval o).run P w= .ok (.enter f args) w) (hc:Calls P f args w fun e lx=>e= .returned v∧C lx):o.quietAt P a C w v:=by
  unfold Oper.quietAt;rw [h];exact ⟨Z,hc⟩
theorem Ve {P:Program} {o:Oper} {a:Act} {C:World→Prop} {w:World} {v:Value} {r:Result Next} (h:(execOp a.eval o).run P w=r) (hr:r= .ok (.value v) w):o.quietAt P a C w v:=aID (h.trans hr)
theorem Vd {P:Program} {o:Oper} {a:Act} {C:World→Prop} {w:World} {v:Value} {f:FuncId} {args:Array Value} {r:Result Next} (h:(execOp a.eval o).run P w=r) (hr:r= .ok (.enter f args) w) (hc:Calls P f args w fun e lx=>e= .returned v∧C lx):o.quietAt P a C w v:=aIC (h.trans hr) hc
abbrev Ext (w w':World):Prop:=Below w.heap.size w w'
theorem Ext.cH (w:World):Ext w w:=aYG _ w
theorem Ext.x' {a b c:World} (h:Ext a b) (k:Ext b c):Ext a c:=Below.trans h (bcN k h.size)
section
variable {P:Program} {ops:Array Oper} {Q:Exit→Act→World→Prop} {aS:Nat→Nat}
def Bu (P:Program) (w:World) (v:Value):Result Next→Prop
  | .ok (.value u) w'=>w'=w∧u=v
  | .ok .skip w'=>w'=w∧v=undef
  | .ok (.enter f args) w'=>w'=w∧Calls P f args w (fun e lx=>e= .returned v∧Ext w lx)
  | _=>False
def vH (P:Program) (ops:Array Oper) (w0:World) (o:Oper) (v:Value) (a:Act):Prop :=
  (Region.wanted o (yielded ops a.tmps)=true∧∀ w,Ext w0 w→Bu P w v ((execOp a.eval o).run P w))∨
  (Region.wanted o (yielded ops a.tmps)=false∧v=undef)
theorem vH.of_same {w0:World} {o:Oper} {v:Value} {a a':Act} (h:vH P ops w0 o v a) (he:execOp a'.eval o=execOp a.eval o) (hw:Region.wanted o (yielded ops a'.tmps)=Region.wanted o (yielded ops a.tmps)):vH P ops w0 o v a':=by
  unfold vH at *;rw [he,hw];exact h
theorem vH.on {w0 w1:World} {o:Oper} {v:Value} {a:Act} (h:vH P ops w0 o v a) (hx:Ext w0 w1):vH P ops w1 o v a :=
  h.imp (fun ⟨κ,τ⟩=>⟨κ,fun w hw=>τ w (hx.x' hw)⟩) id
theorem Yields.aom {w0:World} {o:Oper} {v:Value} {a:Act} (h:Yields P ops o v a):vH P ops w0 o v a :=
  h.imp (fun ⟨κ,τ⟩=>⟨κ,fun w _=>by rw [τ w];exact ⟨rfl,rfl⟩⟩) id
def aJU (P:Program) (ops:Array Oper) (Q:Exit→Act→World→Prop) (aS:Nat→Nat) (i:Nat) (K:Act→World→Prop) (a:Act) (w0:World):Prop :=
  ∃ o,ops[i]? =some o∧
    ((aS i≤1∧∃ v,vH P ops w0 o v a∧K (a.put o.dst v) w0)∨
     (1<aS i∧∀ w,Ext w0 w→wpOp P ops Q i (fun a' w'=>(aS i=2→Ext w0 w')∧K a' w') a w))
def EL (P:Program) (ops:Array Oper) (Q:Exit→Act→World→Prop) (aS:Nat→Nat):Nat→Array Bool→Act→World→Prop
  | 0,l,a,w0=>Region.ready .any ops l= []∧∀ w,Ext w0 w→Q .normal a w
  | f+1,l,a,w0=>(Region.ready .any ops l= []→∀ w,Ext w0 w→Q .normal a w)∧∀ i∈Region.ready .any ops l,aJU P ops Q aS i (EL P ops Q aS f (l.setIfInBounds i true)) a w0
theorem EM:∀ (f:Nat) (l:Array Bool) (a:Act) (w0:World),EL P ops Q aS f l a w0→∀ w,Ext w0 w→wpAny P .any ops Q f l a w
  | 0,_,_,_,h,w,hw=>⟨h.1,h.2 w hw⟩
  | f+1,l,a,w0,h,w,hw=>⟨fun aG=>h.1 aG w hw,fun i hi=>by
      obtain ⟨o,bK,τ⟩:=h.2 i hi;rcases τ with ⟨_,v,I,ak⟩ | ⟨_,τ⟩
      · unfold wpOp
        simp only [bK];rcases I with ⟨oN,I⟩ | ⟨oN,rfl⟩
        · rw [aYq oN]
          refine .inl ?_;have I:=I w hw;unfold Oper.wp;generalize (execOp a.eval o).run P w=r at *
          cases r with
          | ok n w' =>
            cases n<;>simp only [Bu] at I<;>simp only [Oper.upon]
            case value u=>obtain ⟨rfl,rfl⟩:=I;exact EM f _ _ _ ak _ hw
            case skip=>obtain ⟨rfl,rfl⟩:=I;exact EM f _ _ _ ak _ hw
            case enter f' args=>obtain ⟨rfl,hc⟩:=I;exact hc.mono fun e lx ⟨he,hx⟩=>by subst he;exact EM f _ _ _ ak _ (hw.x' hx)
          | halt x w'=>simp only [Bu] at I
        · rw [aYi (by rw [oN];decide)]
          exact EM f _ _ _ ak _ hw
      · exact baI (fun a' w' au=>EM f _ _ _ au.2 _ (Ext.cH w')) (τ w hw)⟩
theorem ad7 {aA:Act→Prop} {j:Nat} {dst:Option Tmp} {dF:Oper} {v:Value} (ay:ops[j]? =some dF) (κ:∀ d,dst=some d→d∉dF.looksAt ops) (τ:∀ d,dst=some d→dF.dst≠some d)
    (zg:∀ cs b,dF.op≠ .select cs b) (ji:∀ c a w,¬ Q (.panic c) a w) (keep:∀ a u,aA a→aA (a.put dF.dst u)) (aEJ:∀ a d,aA a→aA {a with defers:=d::a.defers})
    {K:Act→World→Prop} {a:Act} {w:World} (aE:aA a) (h:wpOp P ops Q j K (a.put dst v) w):wpOp P ops Q j (fun a' w'=>aA a'∧K (a'.put dst v) w') a w:=by
  unfold wpOp at *
  simp only [ay] at *
  rw [bbd dF a dst v κ] at h;by_cases hw:Region.wanted dF (yielded ops a.tmps)=true
  · rw [aYq hw] at h ⊢
    rcases h with h | ⟨ajH,aCD⟩
    case inr=>exact .inr ⟨by unfold Oper.asks at *;rw [ba4 dF zg a dst v κ] at ajH;exact ajH,aCD⟩
    refine .inl ?_;unfold Oper.wp at *
    rw [ba4 dF zg a dst v κ] at h;generalize (execOp a.eval dF).run P w=r at *
    cases r with
    | ok n w' =>
      cases n<;>simp only [Oper.upon] at h ⊢
      case value u=>exact ⟨keep a u aE,by rw [← bat a v u τ];exact h⟩
      case skip=>exact ⟨keep a _ aE,by rw [← bat a v undef τ];exact h⟩
      case defer d =>
        refine ⟨keep _ _ (aEJ a d aE), ?_⟩;rw [← bat _ v undef τ,← Act.put_defers];exact h
      case enter f args =>
        refine bcl h fun e lx he=> ?_;cases e with
        | returned u=>exact ⟨keep a u aE,by rw [← bat a v u τ];exact he⟩
        | panicked c=>exact (ji _ _ _ he).elim
        | outgrown=>exact he
      case row row args=>exact Rows.mono h fun u lx he=>⟨keep a u aE,by rw [← bat a v u τ];exact he⟩
    | halt x w' =>
      cases x<;>simp only [Oper.upon] at h ⊢
      case panic u=>exact (ji _ _ _ h).elim
  · rw [aYi hw] at h ⊢
    exact ⟨keep a _ aE,by rw [← bat a v undef τ];exact h⟩
theorem S_ {i:Nat} {eh:Oper} {v:Value} (hi:ops[i]? =some eh) (ak:aS i≤1) (oM:∀ (j:Nat) (o:Oper) cs b,ops[j]? =some o→o.op≠ .select cs b)
    (ji:∀ c a w,¬ Q (.panic c) a w) (aA:World→Act→Prop) (nV:∀ w0 a,aA w0 a→vH P ops w0 eh v a)
    (z2:∀ w0 a a',aA w0 a→execOp a'.eval eh=execOp a.eval eh→Region.wanted eh (yielded ops a'.tmps)=Region.wanted eh (yielded ops a.tmps)→aA w0 a')
    (z3:∀ w0 w1 a,Ext w0 w1→aA w0 a→aA w1 a) (R:Nat→Bool) (zk:Array Bool)
    (hR:∀ j dF,ops[j]? =some dF→j≠i→(∀ e∈dF.after,Region.binds .any e=true→R e.on=true)→R j=true)
    (bg:(∀ w0 w1 a,aA w0 a→aA w1 a)∨∀ j,R j=true→3≤aS j→zk.getD j true=true):
    ∀ (f:Nat) (l:Array Bool) (a:Act) (w0:World),(∀ j,l.getD j false=true→R j=true)→(∀ j,zk.getD j true=true→l.getD j true=true)→
      (∀ j dF,ops[j]? =some dF→j≠i→l.getD j true=false→(∀ e∈dF.after,Region.binds .any e=true→e.on≠i)→eh.apart ops dF=true)→
      i∈Region.ready .any ops l→aA w0 a→EL P ops Q aS f (l.setIfInBounds i true) (a.put eh.dst v) w0→EL P ops Q aS (f+1) l a w0:=by
  intro f;induction f with
  | zero =>
    intro l a w0 _ _ _ hr bc H;refine ⟨fun h=>(by rw [h] at hr;cases hr),fun j ay=> ?_⟩;by_cases iF:j=i
    · subst iF;exact ⟨eh,hi, .inl ⟨ak,v,nV _ _ bc,H⟩⟩
    · have:=baU ay iF
      rw [H.1] at this;cases this
  | succ f bL =>
    intro l a w0 Fw zc Fq hr bc H;refine ⟨fun h=>(by rw [h] at hr;cases hr),fun j ay=> ?_⟩;by_cases iF:j=i
    · subst iF;exact ⟨eh,hi, .inl ⟨ak,v,nV _ _ bc,H⟩⟩
    · obtain ⟨dF,l5,κ⟩:=H.2 j (baU ay iF)
      obtain ⟨za,hD,FC,dM⟩:=bbT.1 ay;obtain rfl:hD=dF:=by rw [l5] at FC;exact (aYd FC).symm
      have OS:∀ e∈hD.after,Region.binds .any e=true→e.on≠i:=fun e he ag heq=>by
        have κ:=dM e he ag;have aG:=(bbT.1 hr).1;rw [heq] at κ;rcases aZc i l.size with dh | dh
        · simp [dh] at aG κ;rw [aG] at κ;cases κ
        · simp [aZg dh] at κ
      have Ov:=Fq j hD l5 iF za OS;obtain ⟨b2,a2,a3⟩:=bcH Ov;have O4:∀ cs b,eh.op≠ .select cs b:=fun cs b=>oM i eh cs b hi;have zg:∀ cs b,hD.op≠ .select cs b:=fun cs b=>oM j hD cs b l5;have keep:∀ w1 a u,aA w1 a→aA w1 (a.put hD.dst u):=fun w1 a u bc=>z2 _ _ _ bc (ba4 eh O4 a hD.dst u a3) (bbd eh a hD.dst u a3);have Fc:R j=true:=hR j hD l5 iF fun e he ag=>Fw _ (dM e he ag);have Fx:∀ k,(l.setIfInBounds j true).getD k false=true→R k=true:=fun k ak=>by
        by_cases hU:j=k
        · rw [← hU];exact Fc
        · rw [baE false hU] at ak;exact Fw k ak
      have Fv:∀ k,zk.getD k true=true→(l.setIfInBounds j true).getD k true=true:=fun k ak=>by
        by_cases hU:j=k
        · subst hU
          rcases aZc j l.size with dh | dh
          · simp [dh]
          · simp [aZg dh]
        · rw [baE true hU];exact zc k ak
      have Fs:∀ k ok,ops[k]? =some ok→k≠i→(l.setIfInBounds j true).getD k true=false→
          (∀ e∈ok.after,Region.binds .any e=true→e.on≠i)→eh.apart ops ok=true:=fun k ok ak q9 FG lp=>by
        refine Fq k ok ak q9 ?_ lp;by_cases hU:j=k
        · subst hU;exact za
        · rw [baE true hU] at FG;exact FG
      have FF:=baU hr (ba7 iF);rcases κ with ⟨zb,u,I,hK⟩ | ⟨zb,κ⟩
      · refine ⟨hD,l5, .inl ⟨zb,u,I.of_same (ba4 hD zg a eh.dst v b2).symm (bbd hD a eh.dst v b2).symm, ?_⟩⟩
        refine bL _ _ _ Fx Fv Fs FF (keep _ _ _ bc) ?_;rw [aZR _ _ iF,← bat a v u a2];exact hK
      · refine ⟨hD,l5, .inr ⟨zb,fun w hw=> ?_⟩⟩
        refine baI (fun a' w' au=>⟨au.2.1, ?_⟩) (ad7 (aA:=aA w0) l5 b2 a2 zg ji (keep w0) (fun a d bc=>z2 _ _ _ bc Z Z) bc (κ w hw));have O7:aA w' a':=by
          rcases aZc (aS j) 3 with bF | tz
          · exact z3 _ _ _ (au.2.1 (by omega)) au.1
          · rcases bg with bg | bg
            · exact bg _ _ _ au.1
            · have:=zc j (bg j Fc tz);rw [za] at this;cases this
        refine bL _ _ _ Fx Fv Fs FF O7 ?_;rw [aZR _ _ iF];exact au.2.2
def wJ (P:Program) (ops:Array Oper) (Q:Exit→Act→World→Prop) (aS:Nat→Nat):List Nat→Act→World→Prop
  | [],a,w0=>∀ w,Ext w0 w→Q .normal a w
  | i::r,a,w0=>∃ o,ops[i]? =some o∧
      ((aS i=0∧∃ v,vH P ops w0 o v a∧wJ P ops Q aS r (a.put o.dst v) w0)∨
       (aS i=1∧∃ v,Yields P ops o v a∧wJ P ops Q aS r (a.put o.dst v) w0)∨
       (1<aS i∧∀ w,Ext w0 w→wpOp P ops Q i (fun a' w'=>(aS i=2→Ext w0 w')∧wJ P ops Q aS r a' w') a w))
def adj (ops:Array Oper) (i:Nat):Array Bool :=
  ops.foldl (init:=#[]) fun acc o=>acc.push (acc.size != i && o.after.all fun e=> !Region.binds .any e || acc.getD e.on false)
def R4 (ops:Array Oper) (aS:Nat→Nat) (l:Array Bool) (i:Nat):Bool :=
  (List.range ops.size).all (fun j=>l.getD j true || Nat.blt (aS j) 3) ||
  (let R:=adj ops i
   (List.range ops.size).all fun j=>(j == i || R.getD j false || !((ops[j]?).map (·.after.all fun e=> !Region.binds .any e || R.getD e.on false)).getD false) && (!l.getD j false || R.getD j false) && (!R.getD j false || Nat.blt (aS j) 3 || l.getD j true))
def lh (ops:Array Oper) (aS:Nat→Nat):List Nat→Array Bool→Bool
  | [],l=>(Region.ready .any ops l).isEmpty
  | i::r,l=>(match aS i with
      | 0=>Region.free .any ops l i && (Region.ready .any ops l).contains i && R4 ops aS l i
      | 1=>Region.free .any ops l i && (Region.ready .any ops l).contains i
      | _=>Region.ready .any ops l == [i]) && lh ops aS r (l.setIfInBounds i true)
theorem R5 {l:Array Bool} {i:Nat} (ah:l.size=ops.size) (h:R4 ops aS l i=true):∃ R:Nat→Bool,
    (∀ j dF,ops[j]? =some dF→j≠i→(∀ e∈dF.after,Region.binds .any e=true→R e.on=true)→R j=true)∧
    (∀ j,l.getD j false=true→R j=true)∧(∀ j,R j=true→3≤aS j→l.getD j true=true):=by
  unfold R4 at h;have out:∀ j,¬ j<ops.size→l.getD j true=true:=fun j ay=>by simp [aZg (by omega:l.size≤j)]
  rw [aYZ] at h;rcases h with h | h
  · refine ⟨fun _=>true,fun _ _ _ _ _=>rfl,fun _ _=>rfl,fun j _ au=> ?_⟩
    by_cases ay:j<ops.size
    · have:=aYW.1 h j (aY0.2 ay)
      rw [aYZ] at this;rcases this with h | h
      · exact h
      · rw [bbW] at h;omega
    · exact out j ay
  · refine ⟨fun j=>(adj ops i).getD j false,fun j dF l5 iF hd=> ?_,fun j ay=> ?_,fun j ay au=> ?_⟩
    · have bF:=(aYN.1 l5).1
      have:=aYW.1 h j (aY0.2 bF);simp only [l5,aZL,aZm,aYl,aYZ,aZf,iF,false_or,aZv] at this;rcases this.1.1 with h | h
      · exact h
      · have dM:dF.after.all (fun e=> !Region.binds .any e || (adj ops i).getD e.on false)=true:=by
          rw [Array.all_eq_true_iff_forall_mem];intro e he;cases ag:Region.binds .any e
          · rfl
          · have:=hd e he ag;simp only at this;simp [this]
        rw [dM] at h;cases h
    · have bF:j<ops.size:=by
        rcases aZc j l.size with dh | dh
        · omega
        · simp [aZg dh] at ay
      have:=aYW.1 h j (aY0.2 bF);simp only [aYl,aYZ,aZv] at this;rcases this.1.2 with h | h
      · rw [h] at ay;cases ay
      · exact h
    · by_cases bF:j<ops.size
      · have:=aYW.1 h j (aY0.2 bF)
        simp only [aYl,aYZ,aZv] at this;rcases this.2 with (h | h) | h
        · simp only at ay;rw [h] at ay;cases ay
        · (rw [bbW] at h;omega)
        · exact h
      · exact out j bF
theorem Hp (hs:Region.noSelect ops=true) (ji:∀ c a w,¬ Q (.panic c) a w):∀ (r:List Nat) (l:Array Bool) (a:Act) (w0:World),l.size=ops.size→lh ops aS r l=true→wJ P ops Q aS r a w0→EL P ops Q aS r.length l a w0
  | [],l,a,w0,_,bg,h=>⟨by simpa [lh] using bg,h⟩
  | i::r,l,a,w0,ah,bg,h=>by
    obtain ⟨o,bK,h⟩:=h;have oM:=ba5 hs;rcases h with ⟨ak,v,I,hK⟩ | ⟨ak,v,I,hK⟩ | ⟨ak,h⟩
    · simp only [lh,ak,aYl] at bg
      obtain ⟨⟨⟨hf,hr⟩,ag⟩,bg⟩:=bg;obtain ⟨R,r1,r2,wx⟩:=R5 ah ag;exact S_ bK (by omega) oM ji (fun w0 a=>vH P ops w0 o v a) (fun _ _ h=>h) (fun _ _ _ h he hw=>h.of_same he hw) (fun _ _ _ hx h=>h.on hx) R l r1 (.inr wx) _ _ _ _ r2 (fun _ h=>h) (aZ3 bK hf) (by simpa using hr) I
        (Hp hs ji r _ _ _ (by simpa using ah) bg hK)
    · simp only [lh,ak,aYl] at bg
      obtain ⟨⟨hf,hr⟩,bg⟩:=bg;exact S_ bK (by omega) oM ji (fun _ a=>Yields P ops o v a) (fun _ _ h=>Yields.aom h) (fun _ _ _ h he hw=>h.of_same he hw) (fun _ _ _ _ h=>h) (fun _=>true) l (fun _ _ _ _ _=>Z) (.inl fun _ _ _ h=>h) _ _ _ _ (fun _ _=>Z) (fun _ h=>h) (aZ3 bK hf) (by simpa using hr) I
        (Hp hs ji r _ _ _ (by simpa using ah) bg hK)
    · obtain ⟨k,gC⟩:∃ k,aS i=k+2:=⟨aS i - 2,by omega⟩
      simp only [lh,gC,aYl,aZf] at bg;obtain ⟨hr,bg⟩:=bg;refine ⟨fun aG=>(by rw [hr] at aG;cases aG),fun j ay=> ?_⟩;rw [hr] at ay;obtain rfl:j=i:=by simpa using ay
      exact ⟨o,bK, .inr ⟨ak,fun w hw=>baI (fun a' w' au=>⟨au.1,Hp hs ji r _ _ _ (by simpa using ah) bg au.2⟩) (h w hw)⟩⟩
def ij (K:Act→World→Prop):Exit→Act→World→Prop
  | .normal,a,w=>K a w
  | _,_,_=>False
theorem aIH {id:Nat} {a:Act} {w:World} (bY:List Nat) (hm:P.follows .mixedOrders=true) (bg:(Region.noSelect ops && (bY.length == ops.size) && lh ops aS bY (Array.replicate ops.size false))=true)
    (h:wJ P ops (ij (Q .normal)) aS bY a w):(Code.region id ops true).wp P Q a w:=by
  simp only [aYl,aZf] at bg;obtain ⟨⟨hs,ah⟩,bg⟩:=bg;refine wp_mono (bb6 hm (Q:=ij (Q .normal)) ?_) (fun e a w I=>by cases e<;>first | exact I | exact I.elim);have:=Hp (P:=P) hs (Q:=ij (Q .normal)) (fun _ _ _ h=>h) bY (Array.replicate ops.size false) a w (by simp) bg h;rw [ah] at this;exact EM _ _ _ _ this _ (aYG _ w).drew
end
end Go.Proofs.YtmeeljmapailnaaGreat
