import Derived.Lib.Hide
import Derived.WalkSpells
import Derived.WalkLawsBesides
import Derived.BigQuiet
import Derived.Deep.RegionHeld3
import Derived.Laws.CopyOwn
import Derived.Lib.Strings
import Derived.Deep.AppendLies
import Derived.Shelf.SlicesE.Clone
import Derived.Deep.Fields
import Derived.WideKeyEntry
import Derived.Handy
set_option linter.all false
set_option maxRecDepth 100000
set_option maxHeartbeats 4000000
open Go.RowKit
namespace Go.Proofs.YtooonebcoaleiaaGreat
def GE{p:Prop}(h:p:=by omega):p:=h
def GP{p:Prop}(h:p:=by decide):p:=h
def GT{p:Prop}(h:p:=by kernel_rfl):p:=h
def Kx{p:Prop}(h:p:=by simp):p:=h
def Z.{u}{b:Sort u}{a:b}:a=a:=Eq.refl a
abbrev bab:=@List.getElem?_eq_some_iff
abbrev bac:=@List.getElem?_eq_getElem
abbrev bae:=@Option.some.inj
abbrev baf:=@List.length_take
abbrev bai:=@Bool.and_eq_true
abbrev baj:=@List.length_cons
abbrev bak:=@List.length_set
abbrev bal:=@Go.Result.andThen_ok
abbrev bam:=@List.length_append
abbrev ban:=@if_neg
abbrev bao:=@Nat.le_refl
abbrev bap:=@if_pos
abbrev bar:=@Go.Sem.run_bind
abbrev bas:=@List.mem_append
abbrev bat:=@Go.Sem.run_pure
abbrev bau:=@List.getElem?_map
abbrev bav:=@List.mem_cons_of_mem
abbrev baw:=@List.getElem?_set_self
abbrev bax:=@List.length_drop
abbrev bay:=@Nat.le_trans
abbrev baz:=@List.getElem?_append_left
abbrev baB:=@List.mem_cons
abbrev baD:=@List.getElem?_append_right
abbrev baE:=@List.take_of_length_le
abbrev baH:=@List.getElem?_set_ne
abbrev baJ:=@List.map_append
abbrev baL:=@Go.RowKit.Below.refl
abbrev baM:=@List.eq_nil_of_length_eq_zero
abbrev baO:=@List.append_assoc
abbrev baP:=@List.append_nil
abbrev baQ:=@List.mem_of_getElem?
abbrev baR:=@List.getElem?_take
abbrev baU:=@Array.getElem?_eq_some_iff
abbrev baV:=@List.mem_map
abbrev baW:=@List.mem_range
abbrev baX:=@List.getElem?_eq_none
abbrev baY:=@Bool.or_eq_true
abbrev ba0:=@Bool.false_eq_true
abbrev ba1:=@Nat.zero_le
abbrev ba2:=@Nat.lt_or_ge
abbrev ba3:=@Bool.not_eq_true'
abbrev ba5:=@List.map_cons
abbrev ba6:=@Nat.mul_le_mul_right
abbrev ba8:=@List.all_eq_true
abbrev ba9:=@beq_iff_eq
abbrev bbb:=@List.nodup_append
abbrev bbc:=@List.flatten_cons
abbrev bbd:=@List.length_map
abbrev bbe:=@Go.MapKept.run_getObj_map
abbrev bbf:=@List.mem_iff_getElem
abbrev bbi:=@Nat.zero_add
abbrev bbj:=@Array.getElem?_eq_none
abbrev bbk:=@BitVec.ofInt_natCast
abbrev bbl:=@List.getElem_mem
abbrev bbm:=@List.getElem?_drop
abbrev bbp:=@Array.getElem?_toList
abbrev bbq:=@Option.getD_some
abbrev bbs:=@List.mem_or_eq_of_mem_set
abbrev bbu:=@List.find?_eq_none
abbrev bbv:=@List.mem_flatten
abbrev bbw:=@Go.run_underlying
abbrev bbx:=@of_decide_eq_true
abbrev bby:=@Nat.mul_comm
abbrev bbA:=@List.map_set
abbrev bbB:=@List.ext_getElem?
abbrev bbC:=@Nat.mod_eq_of_lt
abbrev bbD:=@List.any_eq_true
abbrev bbE:=@if_false
abbrev bbF:=@Go.MapKept.run_setObj_map
abbrev bbL:=@BitVec.toNat_ofNat
abbrev bbQ:=@Array.ext'
abbrev bbR:=@Option.map_some
abbrev bbU:=@List.take_append_drop
abbrev bbV:=@List.set_getElem_self
abbrev bbX:=@Array.setIfInBounds_comm
abbrev bbY:=@List.size_toArray
abbrev bb7:=@Nat.add_mul
abbrev bb9:=@Int.natCast_nonneg
abbrev bcb:=@Go.Region.free_spec
abbrev bcj:=@if_true
abbrev bcl:=@List.map_nil
abbrev bcm:=@List.any_eq_false
abbrev bcn:=@Array.getElem?_setIfInBounds_ne
abbrev bcr:=@Int.eq_ofNat_of_zero_le
abbrev bct:=@Go.ByteArray.toList_eq
abbrev bcu:=@Go.World.block_lt_of_cell?
abbrev bcw:=@List.find?_cons_of_neg
abbrev bcy:=@List.nil_append
abbrev bcB:=@Go.Act.put_comm
abbrev bcD:=@Option.some.injEq
abbrev bcE:=@Go.ChangeMaps.modify_eq_set
abbrev bcI:=@Nat.mod_lt
abbrev bcM:=@Go.getD_set_ne
abbrev bcO:=@List.flatten_append
abbrev bcP:=@Array.toList_modify
abbrev bcQ:=@Array.length_toList
abbrev bcR:=@Go.wpOp_mono
abbrev bcU:=@List.getElem_append_left
abbrev bcW:=@BitVec.setWidth_eq
abbrev bcX:=@BitVec.ofNat_toNat
abbrev bc4:=@List.findIdx?_eq_some_iff_getElem
abbrev bc5:=@Go.ready_mono
abbrev bdc:=@List.set_append_right
abbrev bdg:=@Ne.symm
abbrev bdk:=@Go.execOp_put
abbrev bdl:=@Nat.mul_add_mod
abbrev bdo:=@Go.Region.noSelect_spec
abbrev bds:=@List.map_map
abbrev bdv:=@Nat.lt_of_le_of_lt
abbrev bdw:=@Nat.eq_zero_or_pos
abbrev bdx:=@List.take_left
abbrev bdz:=@Array.empty_append
abbrev bdA:=@List.findIdx?_eq_none_iff
abbrev bdB:=@Go.wanted_put
abbrev bdC:=@Go.heap_alloc_new
abbrev bdF:=@Bool.eq_false_iff
abbrev bdG:=@Array.size_append
abbrev bdN:=@List.getElem_map
abbrev bdO:=@Int.natCast_ediv
abbrev bdV:=@List.find?_cons_of_pos
abbrev bdW:=@List.nodup_cons
abbrev bd0:=@Nat.div_lt_iff_lt_mul
abbrev bd1:=@List.mem_append_right
abbrev bd3:=@Array.getElem?_modify
abbrev bd4:=@List.mem_append_left
abbrev bd6:=@List.drop_drop
abbrev bd7:=@Int.emod_emod_of_dvd
abbrev bd9:=@Array.getElem?_range
abbrev bed:=@List.getElem?_range
abbrev bee:=@Array.toList_append
abbrev bei:=@Go.mem_ready
abbrev bej:=@Nat.blt_eq
abbrev bem:=@BitVec.toInt_ofInt
abbrev ben:=@Array.getElem?_map
abbrev bep:=@Go.wp_region_any
abbrev beu:=@List.getElem?_inj
abbrev beB:=@Go.heap_setCell_other
abbrev beC:=@Go.Calls.mono
abbrev beD:=@List.take_append
abbrev beF:=@List.map_toArray
abbrev beL:=@Nat.div_le_self
abbrev beM:=@Nat.div_add_mod
abbrev beU:=@List.nodup_nil
abbrev beW:=@Bool.false_and
abbrev be1:=@Go.Oper.apart_spec
abbrev be2:=@Go.WideElems.findIdx_born
abbrev be7:=@Go.WideElems.findIdx_arr
abbrev be8:=@ByteArray.ext
abbrev be9:=@Go.RowKit.Below.mono
abbrev bfa:=@List.flatten_eq_nil_iff
abbrev bfd:=@Nat.zero_mul
abbrev bfi:=@Int.dvd_refl
abbrev bfl:=@Go.WideElems.set_self
abbrev bfm:=@BitVec.eq_of_toNat_eq
abbrev bft:=@Go.wp_mono
abbrev bfu:=@List.take_succ_cons
abbrev bfv:=@List.map_congr_left
abbrev bfE:=@Int.emod_lt_of_pos
abbrev bfM:=@List.length_range
end Go.Proofs.YtooonebcoaleiaaGreat
namespace Go.Proofs.YtooonebcoaleiaaGreat.fg
def U{n:Nat}(b:BitVec n):Int:=(b.toNat:Int)

def Gi{n:Nat}(b:BitVec n):0<=U b:=bb9 _
def aye(b:BitVec 32):U b<4294967296:=by have:=b.isLt;unfold U;omega
def ayf(b:BitVec 64):U b<18446744073709551616:=by have:=b.isLt;unfold U;omega
def ayd(b:BitVec 32):U b<=4294967295:=by have:=b.isLt;unfold U;omega
def zf{n:Nat}(b:BitVec n):BitVec.ofInt n (U b)=b:=by
  unfold U;rw[bbk,bcX,bcW]
def ayh(x:Int)(a:0<=x)(b:x<4294967296):U (BitVec.ofInt 32 x)=x:=by
  obtain⟨m,rfl⟩:=bcr a;unfold U;rw[bbk,bbL];omega
def ayi(x:Int)(a:0<=x)(b:x<18446744073709551616):U (BitVec.ofInt 64 x)=x:=by
  obtain⟨m,rfl⟩:=bcr a;unfold U;rw[bbk,bbL];omega
def UI{x:Int}{b:BitVec 32}(a:0<=x)(c:x<4294967296)(h:BitVec.ofInt 32 x=b):x=U b:=by
  rw[<-h,ayh x a c]
def UJ{x:Int}{b:BitVec 64}(a:0<=x)(c:x<18446744073709551616)(h:BitVec.ofInt 64 x=b):x=U b:=by
  rw[<-h,ayi x a c]
def T5(k:IntKind)(c:BinOp)(a b:Int)(e:k.signed=false):0<=bits c k a b/\bits c k a b<2 ^ k.bits:=by
  have d:(0:Int)<2 ^ k.bits:=Int.pow_pos GP;have key:∀ n:Int,0<=k.wrap n/\k.wrap n<2 ^ k.bits:=by
    intro n;simp only[IntKind.wrap,e,beW,ba0,bbE];exact⟨Int.emod_nonneg _ GE,bfE _ d⟩
  unfold bits;exact key _
def T3(c:BinOp)(a b:Int):0<=bits c .u32 a b:=(T5 .u32 c a b rfl).1
def T2(c:BinOp)(a b:Int):bits c .u32 a b<4294967296:=(T5 .u32 c a b rfl).2
def aah(c:BinOp)(a b:Int):0<=bits c .u64 a b:=(T5 .u64 c a b rfl).1
def aag(c:BinOp)(a b:Int):bits c .u64 a b<18446744073709551616:=(T5 .u64 c a b rfl).2
theorem Rs(k:IntKind)(n:Int):BitVec.ofInt k.bits (k.wrap n)=BitVec.ofInt k.bits n:=by
  apply BitVec.eq_of_toInt_eq;simp only[bem];have h:(k.wrap n) % (2 ^ k.bits:Int)=n % (2 ^ k.bits:Int):=by
    unfold IntKind.wrap;dsimp only;split
    · rw[Int.sub_emod,Int.emod_self,Int.sub_zero,bd7 _ (bfi _),bd7 _ (bfi _)]
    · rw[bd7 _ (bfi _)]
  have e:((2 ^ k.bits:Nat):Int)=(2:Int) ^ k.bits:=Kx
  simp only[Int.bmod,e,h]

def aLS(n:Int):BitVec.ofInt 32 (n % 4294967296)=BitVec.ofInt 32 n:=by
  have:=Rs .u32 n;rw[IntKind.wrap_u32]at this;exact this
def aLW(n:Int):BitVec.ofInt 64 (IntKind.u64.wrap n)=BitVec.ofInt 64 n:=Rs .u64 n
def aeT(k:IntKind)(a b:Int):BitVec.ofInt k.bits (bits .xor k a b)=BitVec.ofInt k.bits a ^^^ BitVec.ofInt k.bits b:=by
  unfold bits;rw[Rs,bbk];dsimp only;rw[bcX,bcW]
def aLP(k:IntKind)(a b:Int):BitVec.ofInt k.bits (bits .and k a b)=BitVec.ofInt k.bits a &&& BitVec.ofInt k.bits b:=by
  unfold bits;rw[Rs,bbk];dsimp only;rw[bcX,bcW]
def aLQ(k:IntKind)(a b:Int):BitVec.ofInt k.bits (bits .andNot k a b)=BitVec.ofInt k.bits a &&& ~~~(BitVec.ofInt k.bits b):=by
  unfold bits;rw[Rs,bbk];dsimp only;rw[bcX,bcW]

def aeU(a b:Int):BitVec.ofInt 32 (bits .xor .u32 a b)=BitVec.ofInt 32 a ^^^ BitVec.ofInt 32 b:=aeT .u32 a b
def aqZ(a b:Int):BitVec.ofInt 32 (bits .and .u32 a b)=BitVec.ofInt 32 a &&& BitVec.ofInt 32 b:=aLP .u32 a b
def aLR(a b:Int):BitVec.ofInt 32 (bits .andNot .u32 a b)=BitVec.ofInt 32 a &&& ~~~(BitVec.ofInt 32 b):=aLQ .u32 a b
def aeV(a b:Int):BitVec.ofInt 64 (bits .xor .u64 a b)=BitVec.ofInt 64 a ^^^ BitVec.ofInt 64 b:=aeT .u64 a b
def aq3(a b:Int):BitVec.ofInt 64 (bits .xor .i64 a b)=BitVec.ofInt 64 a ^^^ BitVec.ofInt 64 b:=aeT .i64 a b
def aq2{n:Nat}(x:Int)(s:Nat)(b:0<=x)(c:x<2 ^ n):BitVec.ofInt n (x / 2 ^ s)=BitVec.ofInt n x >>> s:=by
  obtain⟨m,rfl⟩:=bcr b;have a:m<2 ^ n:=by exact_mod_cast c
  have e:((m:Int) / 2 ^ s)=((m / 2 ^ s:Nat):Int):=by rw[bdO];simp
  rw[e,bbk,bbk];apply bfm;rw[BitVec.toNat_ushiftRight,bbL,bbL,bbC a,Nat.shiftRight_eq_div_pow];exact bbC (bdv (beL _ _) a)

def aLO{n:Nat}(a b:Int):BitVec.ofInt n (a+b)=BitVec.ofInt n a+BitVec.ofInt n b:=BitVec.ofInt_add ..
def aq1{n:Nat}(a b:Int):BitVec.ofInt n (a*b)=BitVec.ofInt n a*BitVec.ofInt n b:=BitVec.ofInt_mul ..
def aLV{n:Nat}(a:Int):BitVec.ofInt n (-a)= -BitVec.ofInt n a:=BitVec.ofInt_neg ..
def aLU{n:Nat}(a:Nat):BitVec.ofInt n (a:Int)=BitVec.ofNat n a:=bbk ..

end Go.Proofs.YtooonebcoaleiaaGreat.fg
namespace Go.Proofs.YtooonebcoaleiaaGreat
def aUf(k:IntKind)(w:World)(a:Option Addr)(c b:Nat)(zs:List Int):Prop :=
  (a=none/\c=0/\b=0/\zs=[])\/
  ∃ x,a=some x/\c<=b/\b<=maxLen/\zs.length=b/\(∀ i,i<zs.length->w.cell? (x.add i)=some (.int k (zs.getD i 0)))/\∀ n∈zs,(Lit.int k n).wf=true
def aij(b j:Nat):(⟨b,0,none⟩:Addr).add j=⟨b,j,none⟩:=by
  unfold Addr.add;split<;>simp_all
def aan{a b:ByteArray}(h:a.data.toList=b.data.toList):a=b:=be8 (Array.toList_inj.1 h)
def aiV(a b:ByteArray):(a.toList == b.toList)=decide (a=b):=by
  rw[bct,bct];by_cases h:a=b
  · subst h;simp
  · have c:¬a.data=b.data:=λe=>h (be8 e)
    simp[h,c]
def aiY{a b:ByteArray}(h:a=b):(a.toList == b.toList)=true:=by rw[aiV];simp[h]
def aiW{a b:ByteArray}(h:¬a=b):(a.toList == b.toList)=false:=by rw[aiV];simp[h]
def Xp{a:Bool}(h:a=true):Ending.returned (.bool a)=.returned (.bool true):=by rw[h]
def LJ(b a j:Nat):(⟨b,a,none⟩:Addr).add j=⟨b,a+j,none⟩:=by
  unfold Addr.add;split<;>simp_all
def aMg{w w':World}{b:Nat}{e:TypeId}{size:Nat}{v:Value}{n:Nat}{xs:List Value}(h:w.ownsRow b e size v n xs)(i:Below w.heap.size w w'):w'.ownsRow b e size v n xs:=by
  obtain⟨f,a⟩:=h;refine⟨f,?_⟩;rcases a with a|⟨g,j,cur,k,d,c,r⟩
  · exact .inl a
  · exact .inr ⟨g,j,cur,k,d,by rw[i.block g (baU.1 c).1];exact c,r⟩
def cell_later{w w':World}(b:Below w.heap.size w w'){a:Addr}{v:Value}(h:w.cell? a=some v):w'.cell? a=some v:=by
  rw[b.cell (bcu w a h)];exact h
def aAk{B:Nat}{w w':World}(b:Below B w w'){a:Addr}{v:Value}(h:w.cell? a=some v)(c:a.block<B):w'.cell? a=some v:=by
  rw[b.cell c];exact h
def aO(w:World)(g:Nat)(cur:List Value)(e:TypeId)(a:Nat×Nat):Prop:=w.heap[g]? =some (.cells cur.toArray e a)
def aO.lt{w:World}{g:Nat}{cur:List Value}{e:TypeId}{a:Nat×Nat}(h:aO w g cur e a):g<w.heap.size:=(baU.1 h).1
def aO.cell{w:World}{g:Nat}{cur:List Value}{e:TypeId}{a:Nat×Nat}(h:aO w g cur e a)(j:Nat):w.cell? ⟨g,j,none⟩=cur[j]? :=by
  rw[cell_of_row w g j _ e a h];simp
def aO.free{w:World}{g:Nat}{cur:List Value}{e:TypeId}{a:Nat×Nat}(h:aO w g cur e a)(j:Nat)(b:j<a.1\/a.2<=j):w.frozen? ⟨g,j,none⟩=false:=by
  unfold aO at h;obtain⟨lo,c⟩:=a;simp only[World.frozen?,h];simp only at b;simp;omega
def aO.set{w:World}{g:Nat}{cur:List Value}{e:TypeId}{a:Nat×Nat}(h:aO w g cur e a)(j:Nat)(v:Value):aO (w.setCell ⟨g,j,none⟩ v) g (cur.set j v) e a:=by
  unfold aO at *
  simp only[World.setCell,bd3,h];simp
def aO.O{w w':World}{g:Nat}{cur:List Value}{e:TypeId}{a:Nat×Nat}(h:aO w g cur e a)(b:Below w.heap.size w w'):aO w' g cur e a:=by
  have c:=h.lt;unfold aO at *
  rw[b.block g c];exact h
def aO.drew{w:World}{g:Nat}{cur:List Value}{e:TypeId}{a:Nat×Nat}(h:aO w g cur e a):aO w.drew g cur e a:=h
def aO.drewN{w:World}{g:Nat}{cur:List Value}{e:TypeId}{a:Nat×Nat}(h:aO w g cur e a)(n:Nat):aO (w.drewN n) g cur e a:=h
def aO.new(w:World)(cur:List Value)(e:TypeId)(a:Nat×Nat):aO (w.alloc (.cells cur.toArray e a)) w.heap.size cur e a:=bdC w _
def aO.setRow{w:World}{g:Nat}{cur:List Value}{e:TypeId}{a:Nat×Nat}(h:aO w g cur e a)(new:List Value):aO (w.setRow g new.toArray) g new e a:=setRow_heap w g _ _ e a h
def aO.el{w:World}{g b:Nat}{cur:List Value}{e:TypeId}{a:Nat×Nat}(h:aO w g cur e a)(c:g≠b)(j:Nat)(v:Value):aO (w.setCell ⟨b,j,none⟩ v) g cur e a:=by
  unfold aO at *
  rw[beB _ _ _ _ c];exact h
def quiet_of{P:Program}{f:FuncId}{args:Array Value}{w:World}{n:Nat}{v:Value}
    (h:Calls P f args (w.drewN n) λe w'=>e=.returned v/\w.drewN n=w'):Calls P f args (w.drewN n) λe c=>e=.returned v/\∃ m,c=w.drewN m :=
  h.mono λ_ _ ⟨a,b⟩=>⟨a,n,b.symm⟩
def below_drewN{B:Nat}{a w:World}(h:Below B a w)(n:Nat):Below B a (w.drewN n):=⟨h.os,h.tape,h.output,h.size,h.block⟩
def Rd(w:World)(size:Nat)(A:Option Addr)(n:Nat)(xs:List Value):Prop :=
  xs.length=n*size/\(0<n->∃ b o,A=some ⟨b,o,none⟩/\∀ j u,xs[j]? =some u->w.cell? ⟨b,o+j,none⟩=some u)
def Rd.zero(w:World)(size:Nat)(A:Option Addr):Rd w size A 0 []:=⟨Kx,λh=>absurd h GP⟩
def Rd.O{w w':World}{size n:Nat}{A:Option Addr}{xs:List Value}(h:Rd w size A n xs)(c:Below w.heap.size w w'):Rd w' size A n xs :=
  ⟨h.1,λa=>by
    obtain⟨b,o,e,d⟩:=h.2 a;exact⟨b,o,e,λj u f=>cell_later c (d j u f)⟩⟩
def Rd.drewN{w:World}{size n:Nat}{A:Option Addr}{xs:List Value}(h:Rd w size A n xs)(k:Nat):Rd (w.drewN k) size A n xs:=h
def Own(w:World)(b:Nat)(e:TypeId)(size:Nat)(G:Nat->Value->Prop)(v:Value)(n:Nat)(xs:List Value):Prop :=
  xs.length=n*size/\
  ((v=.slice none 0 0/\n=0)\/
   ∃ g a cur,v=.slice (some ⟨g,0,none⟩) n a/\b<=g/\w.heap[g]? =some (.cells cur e (0,0))/\n<=a/\a<=maxLen/\cur.size=a*size/\cur.toList.take (n*size)=xs/\∀ j u,cur[j]? =some u->G (j % size) u)
section
variable{w w':World}{base e size:Nat}{G:Nat->Value->Prop}{v:Value}{n:Nat}{xs:List Value}
def Own.row(h:Own w base e size G v n xs):w.ownsRow base e size v n xs:=by
  obtain⟨k,j⟩:=h;refine⟨k,?_⟩;rcases j with j|⟨g,l,cur,a,b,c,d,e,f,i,_⟩
  · exact .inl j
  · exact .inr ⟨g,l,cur,a,b,c,d,e,f,i⟩
def Own.nil(w:World)(a e size:Nat)(G:Nat->Value->Prop):Own w a e size G (.slice none 0 0) 0 []:=⟨Kx,.inl ⟨rfl,rfl⟩⟩
def Own.of_block{B:Nat}(h:Own w base e size G v n xs)(i:∀ g,v.ownBlock=some g->w'.heap[g]? =w.heap[g]?):Own w' base e size G v n xs:=by
  obtain⟨f,a⟩:=h;refine⟨f,?_⟩;rcases a with a|⟨g,j,cur,rfl,b,c,d⟩
  · exact .inl a
  · exact .inr ⟨g,j,cur,rfl,b,(i g rfl).trans c,d⟩
def Own.O(h:Own w base e size G v n xs)(b:Below w.heap.size w w'):Own w' base e size G v n xs :=
  h.of_block (B:=0) λg a=>b.block g (h.row.lt g a).2
def Own.drewN(h:Own w base e size G v n xs)(k:Nat):Own (w.drewN k) base e size G v n xs:=h
def Own.drew(h:Own w base e size G v n xs):Own w.drew base e size G v n xs:=h
def Own.mono(h:Own w base e size G v n xs){d:Nat}(i:d<=base):Own w d e size G v n xs:=by
  obtain⟨f,c⟩:=h;refine⟨f,?_⟩;rcases c with c|⟨g,j,cur,a,b,r⟩
  · exact .inl c
  · exact .inr ⟨g,j,cur,a,bay i b,r⟩
def Own.rd(h:Own w base e size G v n xs){A:Option Addr}{c:Nat}(k:v=.slice A n c):Rd w size A n xs:=by
  obtain⟨m,l⟩:=h;refine⟨m,λo=>?_⟩;rcases l with⟨_,l⟩|⟨g,p,cur,rfl,b,c,d,e,f,i,_⟩
  · omega
  · injection k with k _ _
    refine⟨g,0,k.symm,λj u a=>?_⟩;rw[bbi,cell_of_row w g j cur _ (0,0) c,<-bbp];rw[<-i,baR]at a;split at a
    · exact a
    · cases a
theorem Own.shape(h:Own w base e size G v n xs):∃ A c,v=.slice A n c/\n<=c/\c<=maxLen/\Rd w size A n xs/\(∀ a,A=some a->base<=a.block/\a.block<w.heap.size)/\(A=none->v=.slice none 0 0):=by
  have k:=h;obtain⟨o,l⟩:=h;rcases l with⟨rfl,rfl⟩|⟨g,m,cur,rfl,b,c,d,e,f,i,_⟩
  · exact⟨none,0,rfl,bao _,ba1 _,k.rd rfl,(λa j=>by cases j),λ_=>rfl⟩
  · refine⟨_,m,rfl,d,e,k.rd rfl,λa j=>?_,λh=>by cases h⟩
    injection j with j
    subst j;exact⟨b,(baU.1 c).1⟩
def aSV{z:Array Value}(d:z.size=size)(f:0<size)(c:∀ j u,z[j]? =some u->G j u)(k:Nat):∀ j u,(Builtin.zeroCells z k)[j]? =some u->G (j % size) u:=by
  intro j u a;unfold Builtin.zeroCells at a;subst d;have b:=(baU.1 a).1;simp at b;have e:j % z.size<z.size:=bcI _ f;rw[ben,bd9,bap b]at a;simp only[bbR,bcD]at a;refine c _ u ?_;rw[<-a];simp[e]
theorem Own.stored{g c:Nat}(h:Own w base e size G (.slice (some ⟨g,0,none⟩) n c) n xs)(j:Nat)(u:Value)(x:G (j % size) u):
    Own (w.setCell ⟨g,j,none⟩ u) base e size G (.slice (some ⟨g,0,none⟩) n c) n (xs.set j u):=by
  obtain⟨o,f⟩:=h;refine⟨by rw[bak];exact o,?_⟩;rcases f with⟨f,_⟩|⟨z,y,cur,a,b,q,d,s,t,l,m⟩
  · cases f
  · injection a with a _ r
    injection a with a
    injection a with a
    subst a;subst r;refine .inr ⟨g,c,cur.setIfInBounds j u,Z,b,?_,d,s,by simp[t],?_,?_⟩
    · simp only[World.setCell,bd3,q]
      simp
    · rw[<-l]
      simp only[Array.toList_setIfInBounds];rw[List.take_set]
    · intro i v a
      by_cases k:j=i
      · subst k
        have p:j<cur.size:=by
          have:=(baU.1 a).1;simpa using this
        rw[Array.getElem?_setIfInBounds_self_of_lt p]at a;obtain rfl:=bae a;exact x
      · rw[bcn k]at a
        exact m i v a
def Own.cell{g c:Nat}(h:Own w base e size G (.slice (some ⟨g,0,none⟩) n c) n xs)(j:Nat)(a:j<n*size):w.cell? ⟨g,j,none⟩=xs[j]? :=h.row.cellAt j a
def Own.free{g c:Nat}(h:Own w base e size G (.slice (some ⟨g,0,none⟩) n c) n xs)(j:Nat):w.frozen? ⟨g,j,none⟩=false:=h.row.frozenAt j
def Own.lit(w:World)(cs:Array Value)(n:Nat)(c:base<=w.heap.size)(d:n<=maxLen)(a:cs.size=n*size)(b:∀ j u,cs[j]? =some u->G (j % size) u):
    Own (w.alloc (.cells cs e)) base e size G (.slice (some ⟨w.heap.size,0,none⟩) n n) n cs.toList :=
  ⟨by simpa using a,.inr ⟨w.heap.size,n,cs,rfl,c,bdC w _,bao _,d,a,baE (by simp[a]),b⟩⟩
def Own.empty(w:World)(a:base<=w.heap.size):Own (w.alloc (.cells #[] e)) base e size G (.slice (some ⟨w.heap.size,0,none⟩) 0 0) 0 [] :=
  Own.lit w #[] 0 a (ba1 _) Kx (λj u h=>by simp at h)
end
section
variable{P:Program}(w:World)
theorem asg(E:Nat)(t ty e:TypeId)(i:TypeInfo)(z:Value)(size ab:Nat)(y:P.underlying t=some (.slice e))(B:P.info? e=some i)(b1:i.zero=some z)
    (AK:i.size=size)(sf:i.bytes=ab)(wj:z.cells.size=size)(nT:0<size)(G:Nat->Value->Prop)(AO:∀ j u,z.cells[j]? =some u->G j u)
    (v:Value)(n:Nat)(xs:List Value)(F:Own w E e size G v n xs)
    (A:Option Addr)(m c:Nat)(f:List Value)(q:Rd w size A m f)(aa:∀ u∈f,u.oneCell'=true)(QC:∀ j u,f[j]? =some u->G (j % size) u)
    (uw:n+m<=maxLen)(uC:(n+m)*ab<=140737488355328)(se:E<=w.heap.size):
    ∃ K w',(Builtin.append_ #[t,t] ty #[v,.slice A m c]).run P w=.ok K w'/\Own w' E e size G K (n+m) (xs++f)/\w.grownBy w' v.ownBlock/\
      (K=.slice none 0 0↔v=.slice none 0 0/\m=0)/\(K.ownBlock=v.ownBlock\/K.ownBlock=some w.heap.size):=by
  subst AK;subst sf;have aj:n+m<=9223372036854775807:=by simp only[maxLen]at uw;omega
  have l:f.length=m*i.size:=q.1;have D:xs.length=n*i.size:=F.1;have x:(xs++f).length=(n+m)*i.size:=by rw[bam,D,l,bb7]
  have Y:(∀ j u,xs[j]? =some u->G (j % i.size) u)->∀ j u,(xs++f)[j]? =some u->G (j % i.size) u:=by
    intro T j u d;by_cases p:j<xs.length
    · rw[baz p]at d;exact T j u d
    · rw[baD GE]at d
      have:=QC _ u d;rw[D]at this p;have e:j % i.size=(j-n*i.size) % i.size:=by
        conv=>lhs;rw[show j=n*i.size+(j-n*i.size)from by omega]
        rw[bby n,bdl]
      rw[e];exact this
  -- what the growing arm leaves, whatever was there before
  have ad:(∀ j u,xs[j]? =some u->G (j % i.size) u)->∀(old:Nat),old<n+m->∀(row:Option Nat),
      Own (w.drew.alloc (.cells (xs.toArray++f.toArray++Builtin.zeroCells z.cells (grownCap w (n+m) old e-(n+m))) e)) E e i.size G
        (.slice (some ⟨w.heap.size,0,none⟩) (n+m) (grownCap w (n+m) old e)) (n+m) (xs++f)/\
      w.grownBy (w.drew.alloc (.cells (xs.toArray++f.toArray++Builtin.zeroCells z.cells (grownCap w (n+m) old e-(n+m))) e)) row:=by
    intro L old ct row;have uG:=grownCap_ge w (n+m) old e;have U:grownCap w (n+m) old e<=maxLen:=grownCap_le_maxLen w (n+m) old e uw;refine⟨⟨x,.inr ⟨w.heap.size,_,_,Z,se,bdC w.drew _,uG,U,?_,?_,?_⟩⟩,⟨Z,Z,Z,Kx,λk S _=>heap_alloc_old w.drew _ S⟩⟩
    · simp only[bdG,bbY,size_zeroCells,wj,D,l,<-bb7]
      congr 1;omega
    · simp only[bee,baO]
      rw[<-baO,<-x];exact bdx
    · intro j u d
      rw[<-bbp]at d;simp only[bee]at d;by_cases p:j<(xs++f).length
      · rw[baz p]at d;exact Y L j u d
      · rw[baD (by simpa using p)]at d
        rw[bbp]at d;have:=aSV wj nT AO _ _ u d;have ni:(xs.toArray.toList++f.toArray.toList).length=(n+m)*i.size:=x;rw[ni]at this;rw[x]at p;have e:j % i.size=(j-(n+m)*i.size) % i.size:=by
          conv=>lhs;rw[show j=(n+m)*i.size+(j-(n+m)*i.size)from by omega]
          rw[bby (n+m),bdl]
        rw[e];exact this
  have ag:A=none\/∃ a,A=some a:=by cases A with|none=>exact .inl rfl|some a=>exact .inr ⟨a,rfl⟩
  rcases ag with rfl|⟨M,rfl⟩
  · have N:m=0:=by
      rcases bdw m with r|r
      · exact r
      · obtain⟨b,o,h,_⟩:=q.2 r
        cases h
    subst N;have H:f=[]:=baM (by simpa using l);subst H;refine⟨v,w,?_,by simpa using F,World.grownBy.refl w _,Kx,.inl rfl⟩;rcases F.2 with⟨rfl,rfl⟩|⟨g,s,cur,rfl,_,_,V,_⟩
    · simp[Builtin.append_,bbw y,sizeOf,typeInfo,B,Builtin.lenOf,Builtin.firstCells]
    · simp[Builtin.append_,bbw y,sizeOf,typeInfo,B,Builtin.lenOf,Builtin.firstCells,V,storeCells]
  have O:∀ j u,f[j]? =some u->w.cell? (M.add j)=some u:=by
    intro j u d;rcases bdw m with r|r
    · subst r
      have H:f=[]:=baM (by simpa using l);subst H;simp at d
    · obtain⟨b,o,h,hc⟩:=q.2 r
      injection h with h
      subst h;rw[LJ];exact hc j u d
  rcases F.2 with⟨rfl,rfl⟩|⟨g,s,cur,rfl,af,W,V,U,CF,R,X⟩
  · have T:xs=[]:=baM (by simpa using D)
    subst T;by_cases N:m=0
    · subst N
      have H:f=[]:=baM (by simpa using l);subst H;refine⟨.slice none 0 0,w,?_,Own.nil w E e i.size G,⟨Z,Z,Z,bao _,λ_ _ _=>Z⟩,Kx,Or.inl rfl⟩;simp[Builtin.append_,bbw y,sizeOf,typeInfo,B,Builtin.lenOf,Builtin.firstCells,loadCells,loadCellsFrom]
    · have q:=run_append_nil (P:=P) w t ty e i z y B b1 M m c f l O GE GE (by have ae:=uC;simp only[bbi]at ae;omega)
      have C:=ad (λj u d=>by simp at d) 0 GE (Value.ownBlock (.slice none 0 0));simp only[bbi,bcy,bdz]at C ⊢;exact⟨_,_,q,C.1,C.2,by simp[N],Or.inr rfl⟩
  · have L:∀ j u,xs[j]? =some u->G (j % i.size) u:=by
      intro j u d;rw[<-R,baR]at d;split at d
      · exact X j u (by rw[<-bbp];exact d)
      · cases d
    by_cases Q:n+m<=s
    · have ah:n*i.size+f.length<=cur.size:=by rw[l,CF,<-bb7];exact ba6 _ Q
      have q:=run_append_room (P:=P) w t ty e i y B g n s cur W M m c f l O aa Q ah;refine⟨_,_,q,⟨x,.inr ⟨g,s,_,Z,af,setRow_heap w g cur _ e _ W,Q,U,?_,?_,?_⟩⟩,⟨Z,Z,Z,Kx,λk _ S=>setRow_other w g k _ (λe=>S (by simp[Value.ownBlock,e]))⟩,Kx,Or.inl rfl⟩
      · simp only[bbY,bam,baf,bax,bcQ]
        omega
      · rw[R,<-x]
        exact bdx
      · intro j u d
        rw[R]at d;have d:((xs++f)++cur.toList.drop (n*i.size+f.length))[j]? =some u:=by simpa using d
        by_cases p:j<(xs++f).length
        · rw[baz p]at d;exact Y L j u d
        · rw[baD GE,bbm]at d
          rw[x]at d p;rw[l,<-bb7,show(n+m)*i.size+(j-(n+m)*i.size)=j from by omega]at d;exact X j u (by rw[<-bbp];exact d)
    · have ai:∀ j u,xs[j]? =some u->w.cell? ((⟨g,0,none⟩:Addr).add j)=some u:=F.row.cells (g:=g) rfl
      have q:=run_append_grow (P:=P) w t ty e i z y B b1 ⟨g,0,none⟩ n s xs D ai M m c f l O GE GE (growslice_fits GE uC);have C:=ad L s GE (Value.ownBlock (.slice (some ⟨g,0,none⟩) n s));exact⟨_,_,q,C.1,C.2,Kx,Or.inr rfl⟩

theorem aRD{o:Oper}{a:Act}{K:Act->World->Prop}{Q:Exit->Act->World->Prop}(s x:Operand)(t:TypeId)
    (H:o.op=.call {callee:=.builtin .append,args:=#[s,x],argTypes:=#[t,t]})
    (f:Nat)(e:TypeId)(i:TypeInfo)(z:Value)(size g:Nat)(q:P.underlying t=some (.slice e))(B:P.info? e=some i)(D:i.zero=some z)
    (k:i.size=size)(U:i.bytes=g)(X:z.cells.size=size)(S:0<size)(G:Nat->Value->Prop)(l:∀ j u,z.cells[j]? =some u->G j u)
    (v:Value)(n:Nat)(xs:List Value)(N:a.eval s=v)(L:Own w f e size G v n xs)
    (A:Option Addr)(m c:Nat)(d:List Value)(O:a.eval x=.slice A m c)(M:Rd w size A m d)(r:∀ u∈d,u.oneCell'=true)(p:∀ j u,d[j]? =some u->G (j % size) u)
    (W:n+m<=maxLen)(V:(n+m)*g<=140737488355328)(T:f<=w.heap.size)
    (h:∀ b w',Own w' f e size G b (n+m) (xs++d)->w.grownBy w' v.ownBlock->(b=.slice none 0 0↔v=.slice none 0 0/\m=0)->(b.ownBlock=v.ownBlock\/b.ownBlock=some w.heap.size)->K (a.put o.dst b) w'):o.wp P a w K Q:=by
  obtain⟨b,w',R,y,C,F,E⟩:=asg (P:=P) w f t o.type e i z size g q B D k U X S G l v n xs L A m c d M r p W V T;unfold Oper.wp execOp;simp only[H,resolve,invoke,builtin,bar,bat,bal,beF,ba5,bcl,N,O,R];exact h b w' y C F E
theorem N4{k:Array Oper}{rest:List Oper}{o:Oper}{a:Act}{Q:Exit->Act->World->Prop}(q:o.guard=none)(s x:Operand)(t:TypeId)
    (L:o.op=.call {callee:=.builtin .append,args:=#[s,x],argTypes:=#[t,t]})
    (f:Nat)(e:TypeId)(i:TypeInfo)(z:Value)(size g:Nat)(y:P.underlying t=some (.slice e))(D:P.info? e=some i)(F:i.zero=some z)
    (l:i.size=size)(V:i.bytes=g)(Y:z.cells.size=size)(T:0<size)(G:Nat->Value->Prop)(p:∀ j u,z.cells[j]? =some u->G j u)
    (v:Value)(n:Nat)(xs:List Value)(R:a.eval s=v)(M:Own w f e size G v n xs)
    (A:Option Addr)(m c:Nat)(d:List Value)(S:a.eval x=.slice A m c)(O:Rd w size A m d)(B:∀ u∈d,u.oneCell'=true)(r:∀ j u,d[j]? =some u->G (j % size) u)
    (X:n+m<=maxLen)(W:(n+m)*g<=140737488355328)(U:f<=w.heap.size)
    (h:∀ b w',Own w' f e size G b (n+m) (xs++d)->w.grownBy w' v.ownBlock->(b=.slice none 0 0↔v=.slice none 0 0/\m=0)->(b.ownBlock=v.ownBlock\/b.ownBlock=some w.heap.size)->wpList P k Q rest (a.put o.dst b) w'):wpList P k Q (o::rest) a w :=
  wpList_plain q λ_ N=>aRD w s x t L f e i z size g y D F l V Y T G p v n xs R M A m c d S O B r X W U λb w' C E K H=>N _ _ (h b w' C E K H)
end
open Go.ChangeShapes Go.WideShapes Go.Deep Go.RowKit
inductive hg where
  | int (k:IntKind)
  | bool
  | str
  | slice (e:hg) (bytes:Nat)
  | nil
  | cons (a b:hg)
def hg.size:hg->Nat
  | .int _ | .bool | .str | .slice _ _=>1
  | .nil=>0
  | .cons a b=>a.size+b.size
def partsOf(P:Program)(t:TypeId):Option (List (TypeId×Nat)):=
  match P.underlying t with
  | some (.struct fs)=>some (fs.toList.map λf=>(f.type,f.offset))
  | some (.array n e)=>some ((List.range n).map λi=>(e,i*P.cellsOf e))
  | _=>none
def hg.O(P:Program):hg->TypeId ⊕ (Nat×List (TypeId×Nat))->Bool
  | .int k,.inl t=>match P.underlying t with|some (.int k')=>decide (k'=k)|_=>false
  | .bool,.inl t=>match P.underlying t with|some .bool=>true|_=>false
  | .str,.inl t=>match P.underlying t with|some .string=>true|_=>false
  | .slice e by_,.inl t=>match P.underlying t with|some (.slice u)=>P.cellsOf u == e.size && P.bytesOf u == by_ && e.O P (.inl u)|_=>false
  | .nil,.inl t=>P.cellsOf t == 0 && (match P.underlying t with|some (.struct _)=>true|some (.array ..)=>true|_=>false)
  | .cons a b,.inl t=>P.cellsOf t == a.size+b.size && (match partsOf P t with
      | some ((u,o)::r)=>o == 0 && P.cellsOf u == a.size && a.O P (.inl u) && b.O P (.inr (a.size,r))
      | _=>false)
  | .nil,.inr (_,fs)=>fs.isEmpty
  | .cons a b,.inr (off,fs)=>match fs with
    | (u,o)::r=>o == off && P.cellsOf u == a.size && a.O P (.inl u) && b.O P (.inr (off+a.size,r))
    | []=>false
  | _,.inr _=>false
def hg.jF(w:World):hg->List Value->Prop
  | .int k,cs=>∃ n,cs=[.int k n]/\(Lit.int k n).wf=true
  | .bool,cs=>∃ b,cs=[.bool b]
  | .str,cs=>∃ s:ByteArray,cs=[.string s]/\s.size<=maxLen/\s.size<=140737488351232
  | .slice e by_,cs=>cs=[.slice none 0 0]\/∃(a:Addr) (f c:Nat),cs=[.slice (some a) f c]/\f<=c/\c<=maxLen/\c*by_<=140737488351232/\
      ∀ i,i<c->∃ es:List Value,es.length=e.size/\(∀ j v,es[j]? =some v->w.cell? (a.add (i*e.size+j))=some v)/\e.jF w es
  | .nil,cs=>cs=[]
  | .cons a b,cs=>∃ xs d,cs=xs++d/\xs.length=a.size/\d.length=b.size/\a.jF w xs/\b.jF w d
variable{H:Type}{enc:TypeId×Value->H}{P:Program}{w:World}{base:Nat}{held:Bool}
def at9{e:TypeId}{l:List (DataW H)}{d:DataW H}(h:d∈l):∀ n∈d.weights P e,n∈DataW.weightsAll P e l:=by
  induction l with
  | nil=>cases h
  | cons x r b =>
    intro n a;simp only[DataW.weightsAll,bas];rcases baB.1 h with rfl|h
    · exact .inl a
    · exact .inr (b h n a)
def Om(enc:TypeId×Value->H)(P:Program)(w:World)(b:Nat)(c:Bool)(n:Nat)(cs:List Value)(a:List (TypeId×Nat))(xs:List (DataW H×List MemPlace)):Prop :=
  xs.length=a.length/\∀(i:Nat) (f:TypeId×Nat),a[i]? =some f->DataW.trod enc P w b (λ_=>true) c n f.1 ((cs.drop f.2).take (P.cellsOf f.1))=xs[i]?
theorem Om.cons{n:Nat}{cs:List Value}{f:TypeId×Nat}{r:List (TypeId×Nat)}{xs:List (DataW H×List MemPlace)}(h:Om enc P w base held n cs (f::r) xs):
    ∃ x a,xs=x::a/\DataW.trod enc P w base (λ_=>true) held n f.1 ((cs.drop f.2).take (P.cellsOf f.1))=some x/\Om enc P w base held n cs r a:=by
  obtain⟨b,c⟩:=h
  match xs,b with
  | x::a,b =>
    refine⟨x,a,Z,c 0 f Z,by simpa using b,λi g d=>?_⟩;exact c (i+1) g d
def Goal(P:Program)(w:World)(a:hg):TypeId ⊕ (Nat×List (TypeId×Nat))->Prop
  | .inl t=>∀(H:Type) (enc:TypeId×Value->H) (b:Nat) (c:Bool) (d:Nat) (cs:List Value) (x:DataW H×List MemPlace),DataW.trod enc P w b (λ_=>true) c d t cs=some x->(∀ n∈x.1.weights P t,n<=reachBytes)->cs.length=a.size/\a.jF w cs
  | .inr (off,fs)=>∀(H:Type) (enc:TypeId×Value->H) (b:Nat) (c:Bool) (n:Nat) (cs:List Value) (xs:List (DataW H×List MemPlace)),Om enc P w b c n cs fs xs->cs.length=off+a.size->(∀ n∈DataW.weightsEach P (fs.map (·.1)) (xs.map (·.1)),n<=reachBytes)->a.jF w (cs.drop off)
theorem Goal.fields{a b:hg}(k:∀ t,a.O P t=true->Goal P w a t)(j:∀ t,b.O P t=true->Goal P w b t){e:Nat}{f:TypeId×Nat}{r:List (TypeId×Nat)}(o:f.2=e)(p:P.cellsOf f.1=a.size)(s:a.O P (.inl f.1)=true)(u:b.O P (.inr (e+a.size,r))=true):
    Goal P w (.cons a b) (.inr (e,f::r)):=by
  intro H enc g h n cs xs y A i;obtain⟨x,z,rfl,l,v⟩:=y.cons;have c:=k _ s H enc g h n _ x l (λm d=>i m (by simp only[ba5,DataW.weightsEach,bas];exact .inl d));have B:(hg.cons a b).size=a.size+b.size:=rfl;have q:=j _ u H enc g h n cs z v GE (λm d=>i m (by simp only[ba5,DataW.weightsEach,bas];exact .inr d));rw[o,p]at c;refine⟨_,_,?_,c.1,?_,c.2,q⟩
  · rw[<-bd6,bbU]
  · rw[bax];omega
def aua{e:TypeId}:∀(l:List (DataW H)) (a:List TypeId),a.length=l.length->(∀ t∈a,t=e)->DataW.weightsEach P a l=DataW.weightsAll P e l
  | [],[],_,_=>rfl
  | d::l,t::a,h,b=>by
    rw[DataW.weightsEach,DataW.weightsAll,b t Kx,aua l a (by simpa using h) (λu c=>b u (by simp[c]))]
  | [],_::_,h,_=>by simp at h
  | _::_,[],h,_=>by simp at h
theorem atn{t:TypeId}{k:List (TypeId×Nat)}{q:Nat}{cs:List Value}{x:DataW H×List MemPlace}(c:partsOf P t=some k)(h:DataW.trod enc P w base (λ_=>true) held q t cs=some x):
    cs.length=P.cellsOf t/\∃(xs:List (DataW H×List MemPlace)) (n:Nat),Om enc P w base held n cs k xs/\x.1.weights P t=DataW.weightsEach P (k.map (·.1)) (xs.map (·.1)):=by
  unfold partsOf at c;split at c
  · rename_i r b
    obtain rfl:=bae c;obtain⟨xs,n,_,rfl,j,d,l⟩:=DataW.trod_struct b h;refine⟨j,xs,n,⟨by rw[d];simp,λi f a=>?_⟩,?_⟩
    · rw[bau]at a
      match p:r.toList[i]?,a with
      | some g,a =>
        obtain rfl:=bae a;exact l i g (by rw[<-bbp];exact p)
    · simp only[DataW.weights,b,bds]
      rfl
  · rename_i m e b
    obtain rfl:=bae c;obtain⟨xs,n,_,rfl,j,d,l⟩:=DataW.trod_array b h;refine⟨j,xs,n,⟨by rw[d];simp,λi f a=>?_⟩,?_⟩
    · rw[bau]at a
      have o:i<m:=by
        rcases ba2 i m with h|h
        · exact h
        · rw[baX (by simpa using h)]at a;cases a
      rw[bed o]at a;obtain rfl:=bae a;exact l i o
    · simp only[DataW.weights,b]
      rw[aua (e:=e)]
      · simp[d]
      · intro u b;simp at b;exact b.2.symm
  · cases c
theorem Mf(P:Program)(w:World):∀(U:hg) (t:TypeId ⊕ (Nat×List (TypeId×Nat))),U.O P t=true->Goal P w U t
  | .int k,.inl t,h=>by
    intro H enc q y s cs x c _;unfold hg.O at h;split at h
    · rename_i k' p
      obtain rfl:k'=k:=bbx h;cases s with
      | zero=>simp[DataW.trod]at c
      | succ n =>
        unfold DataW.trod at c;rw[p]at c;split at c<;>simp_all;exact⟨Z,_,Z,c.1.2⟩
    · cases h
  | .bool,.inl t,h=>by
    intro H enc q y s cs x c _;unfold hg.O at h;split at h
    · rename_i p
      cases s with
      | zero=>simp[DataW.trod]at c
      | succ n =>
        unfold DataW.trod at c;rw[p]at c;split at c<;>simp_all;exact⟨Z,_,Z⟩
    · cases h
  | .str,.inl t,h=>by
    intro H enc q y s cs x c z;unfold hg.O at h;split at h
    · rename_i p
      cases s with
      | zero=>simp[DataW.trod]at c
      | succ n =>
        unfold DataW.trod at c;rw[p]at c;split at c<;>simp_all;obtain⟨g,rfl⟩:=c;refine⟨Z,_,Z,g,?_⟩;simpa[DataW.weights,reachBytes]using z
    · cases h
  | .slice e by_,.inl t,h=>by
    intro H enc q y s cs x c z;unfold hg.O at h;split at h
    · rename_i u p
      simp only[bai,ba9]at h;obtain⟨⟨g,A⟩,B⟩:=h;rcases open_slice p c with⟨rfl,_⟩|⟨a,l,ab,m,n,D,aa,rfl,_,d,K,L,rfl,Y⟩
      · exact⟨rfl,.inl rfl⟩
      · simp only[bcj]at L
        subst L;refine⟨Z,.inr ⟨a,l,m,Z,d,K,?_,λi W=>?_⟩⟩
        · have:=z ((((List.range l).map D).length+((List.range (m-l)).map λj=>D (l+j)).length)*P.bytesOf u) (by simp[DataW.weights,p])
          rw[A]at this;simp only[bbd,bfM,reachBytes]at this;rw[show l+(m-l)=m from by omega]at this;exact this
        · obtain⟨O,hc,X⟩:=Y i W
          have N:=Mf P w e (.inl u) B H enc q y n O _ X (λk Q=>z k (by
            simp only[DataW.weights,p,baB,bas];right;by_cases V:i<l
            · exact .inl (at9 (baV.2 ⟨i,baW.2 V,rfl⟩) k Q)
            · exact .inr (at9 (baV.2 ⟨i-l,baW.2 GE,by rw[show l+(i-l)=i from by omega]⟩) k Q)))
          obtain⟨_,uD,R⟩:=World.cells?_some hc;refine⟨O,N.1,λj v S=>?_,N.2⟩;have M:j<P.cellsOf u:=by have:=(bab.1 S).1;omega
          rw[g]at R M;rw[<-Go.Deep.add_add,R j M,S]
    · cases h
  | .nil,.inl t,h=>by
    intro H enc q y s cs x c z;unfold hg.O at h;simp only[bai,ba9]at h;obtain⟨G,g⟩:=h;have E:∃ F,partsOf P t=some F:=by
      unfold partsOf;split at g
      · exact⟨_,rfl⟩
      · exact⟨_,rfl⟩
      · cases g
    obtain⟨F,E⟩:=E;have d:=(atn E c).1;rw[G]at d;exact⟨d,baM d⟩
  | .cons a b,.inl t,h=>by
    intro H enc q y s cs x c z;unfold hg.O at h;simp only[bai,ba9]at h;obtain⟨G,h⟩:=h;split at h
    · rename_i u o r E
      obtain⟨d,xs,n,T,he⟩:=atn E c;rw[G]at d;refine⟨d,?_⟩;simp only[bai,ba9]at h;obtain⟨⟨⟨g,A⟩,B⟩,C⟩:=h;have C:b.O P (.inr (0+a.size,r))=true:=by rw[bbi];exact C
      exact Goal.fields (w:=w) (f:=(u,o)) (λt c=>Mf P w a t c) (λt c=>Mf P w b t c) g A B C H enc q y n cs xs T (by rw[d];show _=0+(a.size+b.size);omega) (λm K=>z m (by rw[he];exact K))
    · cases h
  | .nil,.inr (off,F),h=>by
    intro H enc q y n cs xs T d z;exact baM (by rw[bax,d];simp[hg.size])
  | .cons a b,.inr (off,F),h=>by
    unfold hg.O at h;split at h
    · rename_i u o r
      simp only[bai,ba9]at h;obtain⟨⟨⟨g,A⟩,B⟩,C⟩:=h;exact Goal.fields (f:=(u,o)) (λt c=>Mf P w a t c) (λt c=>Mf P w b t c) g A B C
    · cases h
  | .int _,.inr _,h=>by simp[hg.O]at h
  | .bool,.inr _,h=>by simp[hg.O]at h
  | .str,.inr _,h=>by simp[hg.O]at h
  | .slice _ _,.inr _,h=>by simp[hg.O]at h
theorem a02{b:List TypeId}{ds:List (DataW H)}(a:hg){j:Nat}{t:TypeId}{v:Value}{d:DataW H}{p:List MemPlace}(e:a.O P (.inl t)=true)
    (l:(DataW.weightsEach P b ds).all (· <=reachBytes)=true)(c:b[j]? =some t)(g:ds[j]? =some d)(h:DataW.Trod enc P w base (λ_=>true) held t v d p):
    v.cells.toList.length=a.size/\a.jF w v.cells.toList:=by
  obtain⟨f,i⟩:=h;exact Mf P w a (.inl t) e H enc base held f _ (d,p) i (λn k=>by
    have:=ba8.1 l _ (DataW.weights_mem_each c g n k);simpa using this)
theorem ael{d:Type}(n:Nat)(p:Nat->d->Prop)(h:∀ i,i<n->∃ x,p i x):∃ l:List d,l.length=n/\∀ i (a:i<l.length),p i l[i]:=by
  induction n with
  | zero=>exact⟨[],rfl,λi a=>absurd a Kx⟩
  | succ n e =>
    obtain⟨l,b,f⟩:=e (λi a=>h i GE);obtain⟨x,g⟩:=h n GE;refine⟨l++ [x],by simp[b],λi a=>?_⟩;by_cases c:i<l.length
    · rw[bcU c];exact f i c
    · have:i=n:=by simp at a;omega
      subst this;rw[List.getElem_append_right GE];simpa[b]using g
def dX{d c:Type}(P:d->c->Prop):List d->List c->Prop
  | [],[]=>True
  | b::cT,a::m=>P b a/\dX P cT m
  | _,_=>False
section
variable{β α:Type}{P Q:β->α->Prop}
def dX.length:∀ {l:List β} {m:List α},dX P l m->l.length=m.length
  | [],[],_=>rfl
  | _::_,_::_,h=>by rw[baj,baj,dX.length h.2]
  | [],_::_,h=>h.elim
  | _::_,[],h=>h.elim
def dX.imp{l:List β}(c:∀ b a,b∈l->P b a->Q b a):∀ {m:List α},dX P l m->dX Q l m:=by
  induction l with
  | nil=>intro m h;cases m with|nil=>trivial|cons=>exact h
  | cons b r e =>
    intro m h;cases m with
    | nil=>exact h
    | cons a s=>exact⟨c b a Kx h.1,e (λb a d=>c b a (by simp[d])) h.2⟩
def dX.app:∀ {l:List β} {m:List α} {b:List β} {a:List α},dX P l m->dX P b a->dX P (l++b) (m++a)
  | [],[],_,_,_,h=>h
  | _::_,_::_,_,_,h,c=>⟨h.1,dX.app h.2 c⟩
  | [],_::_,_,_,h,_=>h.elim
  | _::_,[],_,_,h,_=>h.elim
def dX.d9:∀ {l:List β} {m:List α} {i:Nat} {a:α},dX P l m->m[i]? =some a->∃ b,l[i]? =some b/\P b a
  | [],[],_,_,_,h=>by simp at h
  | b::_,_::_,0,_,h,e=>⟨b,rfl,by simp at e;subst e;exact h.1⟩
  | _::_,_::_,i+1,_,h,e=>by
    obtain⟨b,c,d⟩:=dX.d9 (i:=i) h.2 (by simpa using e);exact⟨b,by simpa using c,d⟩
  | [],_::_,_,_,h,_=>h.elim
  | _::_,[],_,_,h,_=>h.elim
def dX.afD:∀ {l:List β} {m:List α} {i:Nat} {b:β} {a:α},dX P l m->P b a->dX P (l.set i b) (m.set i a)
  | [],[],_,_,_,_,_=>trivial
  | _::_,_::_,0,_,_,h,e=>⟨e,h.2⟩
  | _::_,_::_,_+1,_,_,h,e=>⟨h.1,dX.afD h.2 e⟩
  | [],_::_,_,_,_,h,_=>h.elim
  | _::_,[],_,_,_,h,_=>h.elim
def dX.ND:∀ {l:List β} {m:List α} (k:Nat),dX P l m->dX P (l.take k) (m.take k)
  | [],[],_,_=>by simp[dX]
  | _::_,_::_,0,_=>trivial
  | _::_,_::_,k+1,h=>⟨h.1,dX.ND k h.2⟩
  | [],_::_,_,h=>h.elim
  | _::_,[],_,h=>h.elim
def dX.left:∀ {l:List β} {m:List α},dX P l m->∀ b∈l,∃ a,P b a
  | [],_,_,b,d=>by simp at d
  | c::_,[],h,_,_=>h.elim
  | c::_,a::_,h,b,d=>by
    rcases baB.1 d with rfl|d
    · exact⟨a,h.1⟩
    · exact dX.left h.2 b d
end
def Eh{k:Nat}:∀ {l:List (List Value)},(∀ x∈l,x.length=k)->l.flatten.length=l.length*k
  | [],_=>Kx
  | x::r,h=>by rw[bbc,bam,h x Kx,Eh (l:=r) (λy a=>h y (by simp[a])),baj,bb7];omega
theorem Ma{k:Nat}:∀ {l:List (List Value)} {i j:Nat} {es:List Value},(∀ x∈l,x.length=k)->l[i]? =some es->j<k->l.flatten[i*k+j]? =es[j]?
  | [],_,_,_,_,h,_=>by simp at h
  | x::r,0,j,es,h,e,a=>by
    have e:x=es:=by simpa using e
    subst e;rw[bbc,bfd,bbi,baz (by rw[h x Kx];exact a)]
  | x::r,i+1,j,es,h,e,a=>by
    have b:=h x Kx;rw[bbc,baD (by rw[b,bb7];omega),b,show(i+1)*k+j-k=i*k+j from by rw[bb7];omega];exact Ma (λy c=>h y (by simp[c])) (by simpa using e) a
theorem alx{k:Nat}:∀ {l:List (List Value)} {i j:Nat} {es:List Value} (u:Value),(∀ x∈l,x.length=k)->l[i]? =some es->j<k->l.flatten.set (i*k+j) u=(l.set i (es.set j u)).flatten
  | [],_,_,_,_,_,h,_=>by simp at h
  | x::r,0,j,es,u,h,e,a=>by
    have e:x=es:=by simpa using e
    subst e;rw[bbc,bfd,bbi,List.set_append_left _ _ (by rw[h x Kx];exact a)];rfl
  | x::r,i+1,j,es,u,h,e,a=>by
    have b:=h x Kx;rw[bbc,bdc _ _ (by rw[b,bb7];omega),b,show(i+1)*k+j-k=i*k+j from by rw[bb7];omega,alx u (λy c=>h y (by simp[c])) (by simpa using e) a];rfl
def aly{k:Nat}:∀ {l:List (List Value)} (i:Nat),(∀ x∈l,x.length=k)->l.flatten.take (i*k)=(l.take i).flatten
  | [],_,_=>Kx
  | x::r,0,_=>Kx
  | x::r,i+1,h=>by
    have a:=h x Kx;rw[bbc,bfu,bbc,beD,a,baE (by rw[a,bb7];omega),show(i+1)*k-k=i*k from by rw[bb7];omega,aly i (λy b=>h y (by simp[b]))]
structure τ(α:Type) where
  size:Nat
  bv:World->List Value->α->Prop
  own:World->Nat->List Nat->List Value->α->Prop
  raw:Nat->Value->Prop
  len:∀ {w cs a},bv w cs a->cs.length=size
  one:∀ {w cs a},bv w cs a->∀ u∈cs,u.oneCell'=true
  zi:∀ {w cs a},bv w cs a->∀(j:Nat) u,cs[j]? =some u->raw j u
  be:∀ {w w' cs a},bv w cs a->Below w.heap.size w w'->bv w' cs a
  wz:∀ {w B f cs a},own w B f cs a->bv w cs a
  wA:∀ {w w' B f cs a},own w B f cs a->(∀ g∈f,w'.heap[g]? =w.heap[g]?)->own w' B f cs a
  zh:∀ {w B f cs a},own w B f cs a->∀ g∈f,B<=g/\g<w.heap.size
  E4:∀ {w B tW f cs a},own w B f cs a->tW<=B->own w tW f cs a
namespace τ
variable{α β:Type}{w w':World}{B tW:Nat}{f:List Nat}{cs:List Value}{a:α}
def aeX(R:τ α)(h:R.own w B f cs a):cs.length=R.size:=R.len (R.wz h)
def aEx(size:Nat)(b:α->List Value)(c:α->Prop)(raw:Nat->Value->Prop)(i:∀ a,(b a).length=size)(e:∀ a,∀ u∈b a,u.oneCell'=true)(k:∀ a,c a->∀(j:Nat) u,(b a)[j]? =some u->raw j u):τ α where
  size:=size
  bv:=λ_ cs a=>cs=b a/\c a
  own:=λ_ _ f cs a=>f=[]/\cs=b a/\c a
  raw:=raw
  len:=by rintro w cs a ⟨rfl,_⟩;exact i a
  one:=by rintro w cs a ⟨rfl,_⟩;exact e a
  zi:=by rintro w cs a ⟨rfl,h⟩;exact k a h
  be:=λh _=>h
  wz:=λh=>h.2
  wA:=λh _=>h
  zh:=by rintro w B f cs a ⟨rfl,_⟩ g d;simp at d
  E4:=λh _=>h
def flat(size:Nat)(b:α->List Value)(c:α->Prop)(raw:Nat->Value->Prop)(i:∀ a,(b a).length=size)(e:∀ a,∀ u∈b a,u.oneCell'=true)(k:∀ a (j:Nat) u,(b a)[j]? =some u->raw j u):τ α where
  size:=size
  bv:=λ_ cs a=>cs=b a/\c a
  own:=λ_ _ f cs a=>f=[]/\cs=b a/\c a
  raw:=raw
  len:=by rintro w cs a ⟨rfl,_⟩;exact i a
  one:=by rintro w cs a ⟨rfl,_⟩;exact e a
  zi:=by rintro w cs a ⟨rfl,_⟩;exact k a
  be:=λh _=>h
  wz:=λh=>h.2
  wA:=λh _=>h
  zh:=by rintro w B f cs a ⟨rfl,_⟩ g d;simp at d
  E4:=λh _=>h
def pair(R:τ α)(S:τ β):τ (α×β) where
  size:=R.size+S.size
  bv:=λw cs p=>∃ xs b,cs=xs++b/\R.bv w xs p.1/\S.bv w b p.2
  own:=λw B f cs p=>∃ xs b h i,cs=xs++b/\f=h++i/\R.own w B h xs p.1/\S.own w B i b p.2
  raw:=λj u=>if j<R.size then R.raw j u else S.raw (j-R.size) u
  len:=by rintro w cs p ⟨xs,b,rfl,a,c⟩;rw[bam,R.len a,S.len c]
  one:=by
    rintro w cs p ⟨xs,b,rfl,a,c⟩ u d;rcases bas.1 d with d|d
    · exact R.one a u d
    · exact S.one c u d
  zi:=by
    rintro w cs p ⟨xs,b,rfl,a,c⟩ j u d;by_cases l:j<R.size
    · rw[bap l];rw[baz (by rw[R.len a];exact l)]at d;exact R.zi a j u d
    · rw[ban l];rw[baD (by rw[R.len a];omega),R.len a]at d;exact S.zi c _ u d
  be:=by rintro w w' cs p ⟨xs,b,rfl,a,c⟩ k;exact⟨xs,b,Z,R.be a k,S.be c k⟩
  wz:=by rintro w B f cs p ⟨xs,b,h,i,rfl,rfl,a,c⟩;exact⟨xs,b,Z,R.wz a,S.wz c⟩
  wA:=by
    rintro w w' B f cs p ⟨xs,b,h,i,rfl,rfl,a,c⟩ m;exact⟨xs,b,h,i,Z,Z,R.wA a (λg e=>m g (by simp[e])),S.wA c (λg e=>m g (by simp[e]))⟩
  zh:=by
    rintro w B f cs p ⟨xs,b,h,i,rfl,rfl,a,c⟩ g e;rcases bas.1 e with e|e
    · exact R.zh a g e
    · exact S.zh c g e
  E4:=by
    rintro w B n f cs p ⟨xs,b,h,i,rfl,rfl,a,c⟩ k;exact⟨xs,b,h,i,Z,Z,R.E4 a k,S.E4 c k⟩
def via(R:τ α)(g:β->α):τ β where
  size:=R.size
  bv:=λw cs b=>R.bv w cs (g b)
  own:=λw B f cs b=>R.own w B f cs (g b)
  raw:=R.raw
  len:=λh=>R.len h
  one:=λh=>R.one h
  zi:=λh=>R.zi h
  be:=λh a=>R.be h a
  wz:=λh=>R.wz h
  wA:=λh c=>R.wA h c
  zh:=λh=>R.zh h
  E4:=λh a=>R.E4 h a
def ai:Option Addr->List Nat
  | none=> []
  | some a=> [a.block]
def aKS{A:Option Addr}{g:Nat}:g∈ai A↔∃ a,A=some a/\a.block=g:=by
  cases A with
  | none=>simp[ai]
  | some a=>simp[ai,eq_comm]
def aF(R:τ α)(by_:Nat)(w:World)(A:Option Addr)(c:Nat)(l:List α):Prop :=
  l.length<=c/\c<=9223372036854775807/\l.length*by_<=140737488355328/\(A=none->c=0)/\
  ∃ ess,dX (λes a=>R.bv w es a) ess l/\Rd w R.size A l.length ess.flatten
def aM(R:τ α)(E:TypeId)(by_:Nat)(w:World)(B:Nat)(f:List Nat)(A:Option Addr)(c:Nat)(l:List α):Prop :=
  l.length*by_<=140737488355328/\
  ∃ b:List (List Nat×List Value),f=ai A++(b.map (·.1)).flatten/\f.Nodup/\Own w B E R.size R.raw (.slice A l.length c) l.length (b.map (·.2)).flatten/\
    dX (λx a=>R.own w B x.1 x.2 a) b l
def aF.be{R:τ α}{by_:Nat}{A:Option Addr}{c:Nat}{l:List α}(h:R.aF by_ w A c l)(b:Below w.heap.size w w'):R.aF by_ w' A c l:=by
  obtain⟨d,e,f,i,ess,g,j⟩:=h;exact⟨d,e,f,i,ess,g.imp (λes a _ h=>R.be h b),j.O b⟩
def aF.drewN{R:τ α}{by_:Nat}{A:Option Addr}{c:Nat}{l:List α}(h:R.aF by_ w A c l)(k:Nat):R.aF by_ (w.drewN k) A c l:=h.be (below_drewN (baL _ w) k)
def dX.aeF{e c d:Type}(g:e->c){P:c->d->Prop}:∀ {l:List e} {m:List d},dX (λb a=>P (g b) a) l m->dX P (l.map g) m
  | [],[],_=>trivial
  | _::_,_::_,h=>⟨h.1,dX.aeF g h.2⟩
  | [],_::_,h=>h.elim
  | _::_,[],h=>h.elim
def aM.bv{R:τ α}{E:TypeId}{by_:Nat}{A:Option Addr}{c:Nat}{l:List α}(h:R.aM E by_ w B f A c l):R.aF by_ w A c l:=by
  obtain⟨d,t,rfl,q,i,g⟩:=h;obtain⟨r,s,e,m,n,b,_,p⟩:=i.shape;injection e with j _ k
  subst j;subst k;refine⟨m,by unfold maxLen at n;omega,d,λo=>by have:=p o;injection this,_,dX.aeF (λx:List Nat×List Value=>x.2) (g.imp λx a _ h=>R.wz h),b⟩
theorem aM.be{R:τ α}{E:TypeId}{by_:Nat}{A:Option Addr}{c:Nat}{l:List α}(h:R.aM E by_ w B f A c l)(d:∀ g∈f,w'.heap[g]? =w.heap[g]?):R.aM E by_ w' B f A c l:=by
  obtain⟨e,n,rfl,i,k,j⟩:=h;refine⟨e,n,Z,i,k.of_block (B:=0) λg b=>d g ?_,j.imp λx a m h=>R.wA h λg b=>d g ?_⟩
  · cases A with
    | none=>cases b
    | some a=>injection b with b;simp[ai,b]
  · exact bas.2 (.inr (bbv.2 ⟨x.1,baV.2 ⟨x,m,rfl⟩,b⟩))
def aM.lt{R:τ α}{E:TypeId}{by_:Nat}{A:Option Addr}{c:Nat}{l:List α}(h:R.aM E by_ w B f A c l):∀ g∈f,B<=g/\g<w.heap.size:=by
  obtain⟨m,o,rfl,n,i,e⟩:=h;intro g b;rcases bas.1 b with b|b
  · obtain⟨a,rfl,rfl⟩:=aKS.1 b
    exact i.row.lt _ Z
  · obtain⟨y,d,b⟩:=bbv.1 b
    obtain⟨x,k,rfl⟩:=baV.1 d;obtain⟨a,j⟩:=e.left x k;exact R.zh j g b
def aM.O{R:τ α}{E:TypeId}{by_:Nat}{A:Option Addr}{c:Nat}{l:List α}(h:R.aM E by_ w B f A c l)(b:Below w.heap.size w w'):R.aM E by_ w' B f A c l:=h.be λg a=>b.block g (h.lt g a).2
def aM.nodup{R:τ α}{E:TypeId}{by_:Nat}{A:Option Addr}{c:Nat}{l:List α}(h:R.aM E by_ w B f A c l):f.Nodup:=by
  obtain⟨_,b,rfl,a,_⟩:=h;exact a
def aM.dq{R:τ α}{E:TypeId}{by_:Nat}{A:Option Addr}{c:Nat}{l:List α}(h:R.aM E by_ w B f A c l)(b:tW<=B):R.aM E by_ w tW f A c l:=by
  obtain⟨d,j,rfl,e,i,g⟩:=h;exact⟨d,j,Z,e,i.mono b,g.imp λx a _ h=>R.E4 h b⟩
def slice(R:τ α)(E:TypeId)(by_:Nat):τ (List α) where
  size:=1
  bv:=λw cs l=>∃ A c,cs=[.slice A l.length c]/\R.aF by_ w A c l
  own:=λw B f cs l=>∃ A c,cs=[.slice A l.length c]/\R.aM E by_ w B f A c l
  raw:=λ_ u=>∃ A n c,u=.slice A n c
  len:=by rintro w cs l ⟨A,c,rfl,_⟩;rfl
  one:=by rintro w cs l ⟨A,c,rfl,_⟩ u a;simp at a;subst a;rfl
  zi:=by
    rintro w cs l ⟨A,c,rfl,_⟩ j u a;cases j with
    | zero=>simp at a;exact⟨_,_,_,a.symm⟩
    | succ j=>simp at a
  be:=by rintro w w' cs l ⟨A,c,rfl,h⟩ b;exact⟨A,c,Z,h.be b⟩
  wz:=by rintro w B f cs l ⟨A,c,rfl,h⟩;exact⟨A,c,Z,h.bv⟩
  wA:=by rintro w w' B f cs l ⟨A,c,rfl,h⟩ d;exact⟨A,c,Z,h.be d⟩
  zh:=by rintro w B f cs l ⟨A,c,rfl,h⟩;exact h.lt
  E4:=by rintro w B e f cs l ⟨A,c,rfl,h⟩ b;exact⟨A,c,Z,h.dq b⟩
def dX.aq0{d c:Type}{P:d->c->Prop}:∀ {l:List d} {m:List c},l.length=m.length->(∀(k:Nat) b a,l[k]? =some b->m[k]? =some a->P b a)->dX P l m
  | [],[],_,_=>trivial
  | b::l,a::m,az,h=>⟨h 0 b a rfl rfl,dX.aq0 (by simpa using az) (λk b a e f=>h (k+1) b a (by simpa using e) (by simpa using f))⟩
  | [],_::_,az,_=>by simp at az
  | _::_,[],az,_=>by simp at az
section
variable{R:τ α}{E:TypeId}{by_:Nat}{A:Option Addr}{c:Nat}{l:List α}
def lens{ess:List (List Value)}(h:dX (λes a=>R.bv w es a) ess l):∀ x∈ess,x.length=R.size:=λx c=>by
  obtain⟨a,b⟩:=h.left x c;exact R.len b
def aF.d9(h:R.aF by_ w A c l)(m:0<l.length):∃ b o,A=some ⟨b,o,none⟩/\∀(i:Nat) a,l[i]? =some a->∃ es,R.bv w es a/\∀(j:Nat) u,es[j]? =some u->w.cell? ⟨b,o+(i*R.size+j),none⟩=some u:=by
  obtain⟨_,_,_,_,ess,f,s,n⟩:=h;obtain⟨b,o,e,r⟩:=n m;refine⟨b,o,e,λi a q=>?_⟩;obtain⟨es,p,k⟩:=f.d9 q;refine⟨es,k,λj u g=>r _ u ?_⟩;have d:=(bab.1 g).1;rw[R.len k]at d;rw[Ma (lens f) p d];exact g
def aF.D1{Q:α->Prop}(I:∀ {w cs a},R.bv w cs a->Q a)(h:R.aF by_ w A c l):∀ a∈l,Q a:=by
  obtain⟨_,_,_,_,ess,d,_⟩:=h;intro a e;obtain⟨i,b,rfl⟩:=bbf.1 e;obtain⟨es,_,f⟩:=d.d9 (bac b);exact I f
theorem M{e:hg}(P:∀ w cs,e.jF w cs->∃ a,R.bv w cs a)(S:e.size=R.size)(n:0<R.size){cs:List Value}(h:(hg.slice e by_).jF w cs):∃ A c l,cs=[.slice A (List.length l) c]/\R.aF by_ w A c l:=by
  rcases h with rfl|⟨a,t,N,rfl,L,Q,hr,H⟩
  · exact⟨none,0,[],rfl,bao _,Kx,Kx,λ_=>rfl,[],trivial,Rd.zero w R.size none⟩
  · obtain⟨ess,ad,f⟩:=ael t (λi es=>List.length es=e.size/\(∀ j v,es[j]? =some v->w.cell? (a.add (i*e.size+j))=some v)/\e.jF w es) (λi B=>H i GE)
    obtain⟨l,y,C⟩:=ael t (λi x=>∃ es,ess[i]? =some es/\R.bv w es x) (λi B=>by
      obtain⟨x,U⟩:=P w (ess[i]'(by omega)) (f i GE).2.2;exact⟨x,_,bac _,U⟩)
    have d:dX (λes x=>R.bv w es x) ess l:=by
      refine dX.aq0 GE λk es x E F=>?_;have K:=(bab.1 F);obtain⟨X,O⟩:=K;obtain⟨ab,o,M⟩:=C k X;rw[E]at o;obtain rfl:=bae o;rw[<-O];exact M
    refine⟨some a,N,l,by rw[y],GE,by unfold maxLen at Q;omega,?_,λh=>(by cases h),ess,d,by rw[Eh (lens d),d.length],λaa=>?_⟩
    · have:=ba6 by_ L
      rw[y];omega
    · obtain⟨b,W,G⟩:=a
      have V:=(f 0 GE).2.1 0;obtain⟨v,T⟩:∃ v,(ess[0]'(by omega))[0]? =some v:=by
        have:=(f 0 GE).1;exact⟨_,bac GE⟩
      have Y:=V v T;have z:G=none:=by simpa[Addr.add]using World.cell?_spot Y
      subst z;refine⟨b,W,Z,λj u s=>?_⟩;have p:=(bab.1 s).1;rw[Eh (lens d)]at p;have D:j % R.size<R.size:=bcI _ n;have g:j / R.size<ess.length:=by rw[bd0 n];exact p
      have m:j / R.size*R.size+j % R.size=j:=by rw[bby];exact beM j R.size
      have q:=Ma (j:=j % R.size) (lens d) (i:=j / R.size) (es:=ess[j / R.size]'g) (bac g) D;rw[m,s]at q;have r:=(f (j / R.size) g).2.1 _ u q.symm;rw[LJ,S,m]at r;exact r
def aF.M{A:Option Addr}{c:Nat}{l:List α}{by_:Nat}{R:τ α}(h:R.aF by_ w A c l):l.length<=9223372036854775807:=bay h.1 h.2.1
theorem aF.ND{A:Option Addr}{c:Nat}{l:List α}{by_:Nat}{R:τ α}(h:R.aF by_ w A c l)(k:Nat):R.aF by_ w A c (l.take k):=by
  obtain⟨r,g,s,m,ess,f,n⟩:=h;have i:(l.take k).length<=l.length:=by rw[baf];omega
  have t:=ba6 by_ i;have d:=f.ND k;refine⟨GE,g,GE,m,ess.take k,d,by rw[Eh (lens d),d.length],λq=>?_⟩;obtain⟨b,o,e,p⟩:=n.2 GE;refine⟨b,o,e,λj u a=>p j u ?_⟩;rw[<-aly k (lens f),baR]at a;split at a
  · exact a
  · cases a
def aF.nil(w:World):R.aF by_ w none 0 []:=⟨bao _,Kx,Kx,λ_=>rfl,[],trivial,Rd.zero w R.size none⟩
def aM.nil(w:World):R.aM E by_ w B [] none 0 []:=⟨Kx,[],rfl,beU,Own.nil w B E R.size R.raw,trivial⟩
end
def IH(R:τ α)(E:TypeId)(by_:Nat)(w:World)(B:Nat)(d:List Nat)(g c:Nat)(l:List α)(i:Nat)(es:List Value):Prop :=
  l.length*by_<=140737488355328/\
  ∃ b:List (List Nat×List Value),d=g::(b.map (·.1)).flatten/\d.Nodup/\Own w B E R.size R.raw (.slice (some ⟨g,0,none⟩) l.length c) l.length (b.map (·.2)).flatten/\
    b[i]? =some ([],es)/\es.length=R.size/\b.length=l.length/\∀ k a,k≠i->l[k]? =some a->∃ x,b[k]? =some x/\R.own w B x.1 x.2 a
section
variable{R:τ α}{E:TypeId}{by_:Nat}{A:Option Addr}{c:Nat}{l:List α}{g i:Nat}{es:List Value}{aD:List Nat}
def W4{b:List (List Nat×List Value)}(h:dX (λx a=>R.own w B x.1 x.2 a) b l):∀ x∈b.map (·.2),x.length=R.size:=λx e=>by
  obtain⟨y,c,rfl⟩:=baV.1 e;obtain⟨a,d⟩:=h.left y c;exact R.aeX d
def aM.block(h:R.aM E by_ w B f A c l)(e:0<l.length):∃ g,A=some ⟨g,0,none⟩:=by
  obtain⟨_,j,_,_,d,_⟩:=h;obtain⟨_,b⟩:=d;rcases b with⟨_,b⟩|⟨g,i,cur,a,_⟩
  · omega
  · injection a with a;exact⟨g,a⟩
theorem IH.lens(h:R.IH E by_ w B aD g c l i es):∃ b:List (List Nat×List Value),aD=g::(b.map (·.1)).flatten/\aD.Nodup/\Own w B E R.size R.raw (.slice (some ⟨g,0,none⟩) l.length c) l.length (b.map (·.2)).flatten/\
    b[i]? =some ([],es)/\es.length=R.size/\b.length=l.length/\(∀ k a,k≠i->l[k]? =some a->∃ x,b[k]? =some x/\R.own w B x.1 x.2 a)/\∀ x∈b.map (·.2),x.length=R.size:=by
  obtain⟨_,b,o,p,q,e,j,s,m⟩:=h;refine⟨b,o,p,q,e,j,s,m,λx t=>?_⟩;obtain⟨k,d,rfl⟩:=bbf.1 t;rw[bbd]at d;rw[bdN];by_cases n:k=i
  · subst n
    rw[bac d]at e;rw[bae e];exact j
  · obtain⟨y,f,r⟩:=m k (l[k]'(by omega)) n (bac _)
    rw[bac d]at f;rw[bae f];exact R.aeX r
def IH.be(h:R.IH E by_ w B aD g c l i es)(e:∀ x∈aD,w'.heap[x]? =w.heap[x]?):R.IH E by_ w' B aD g c l i es:=by
  obtain⟨j,u,d,m,o,n,p,r,s⟩:=h;refine⟨j,u,d,m,o.of_block (B:=0) (λx b=>e x ?_),n,p,r,λk a v t=>?_⟩
  · injection b with b;rw[d,<-b];simp
  · obtain⟨x,b,q⟩:=s k a v t
    refine⟨x,b,R.wA q λy f=>e y ?_⟩;rw[d];exact bav _ (bbv.2 ⟨x.1,baV.2 ⟨x,baQ b,Z⟩,f⟩)
def IH.cell(h:R.IH E by_ w B aD g c l i es)(d:i<l.length){j:Nat}{u:Value}(a:es[j]? =some u):w.cell? ⟨g,i*R.size+j,none⟩=some u:=by
  obtain⟨r,n,o,k,f,m,p,q,e⟩:=h.lens;have b:j<R.size:=by rw[<-m];exact(bab.1 a).1
  have:=k.cell (i*R.size+j) (by
    have:(i+1)*R.size<=l.length*R.size:=ba6 _ d;rw[bb7]at this;omega)
  rw[this,Ma e (by rw[bau,f];rfl) b];exact a
def aM.free(h:R.aM E by_ w B f (some ⟨g,0,none⟩) c l)(j:Nat):w.frozen? ⟨g,j,none⟩=false:=by
  obtain⟨_,b,rfl,_,a,_⟩:=h;exact a.free j
end

section
variable{P:Program}{R:τ α}{by_:Nat}
def W6(A:Option Addr)(n c:Nat):(Value.slice A n c).ownBlock.toList=ai A:=by cases A<;>rfl
theorem aOl(ty:TypeId)(s:Nat)(t e:TypeId)(i:TypeInfo)(z:Value)(aK:P.underlying t=some (.slice e))(ao:P.info? e=some i)(K:i.zero=some z)
    (AK:i.size=R.size)(sf:i.bytes=by_)(wj:z.cells.size=R.size)(T:0<R.size)(AO:∀(j:Nat) u,z.cells[j]? =some u->R.raw j u)
    (f:List Nat)(A:Option Addr)(c:Nat)(l:List α)(h:R.aM e by_ w s f A c l)
    (N:Option Addr)(m c2:Nat)(k:List α)(q:List (List Nat×List Value))(I:dX (λx a=>R.own w s x.1 x.2 a) q k)(hm:k.length=m)(hr:Rd w R.size N m (q.map (·.2)).flatten)
    (E:(f++(q.map (·.1)).flatten).Nodup)(uw:l.length+m<=9223372036854775807)(uC:(l.length+m)*by_<=140737488355328)(se:s<=w.heap.size):
    ∃ o C Y w',(Builtin.append_ #[t,t] ty #[.slice A l.length c,.slice N m c2]).run P w=.ok (.slice o (l.length+m) C) w'/\R.aM e by_ w' s Y o C (l++k)/\w.grownBy w' (Value.slice A l.length c).ownBlock/\(o=A\/∃ a,o=some a/\a.block=w.heap.size)/\(∀ x∈Y,x∈f\/x∈(q.map (·.1)).flatten\/x=w.heap.size)/\(o=none↔A=none/\m=0)/\s<=w'.heap.size:=by
  obtain⟨aa,F,rfl,U,L,W⟩:=h;have QF:∀(j:Nat) u,(q.map (·.2)).flatten[j]? =some u->R.raw (j % R.size) u:=by
    intro j u B;have V:=W4 I;have X:=(bab.1 B).1;rw[Eh V,bbd]at X;have aB:j % R.size<R.size:=bcI _ T;have Q:j / R.size<q.length:=by rw[bd0 T];exact X
    have ak:q[j / R.size]? =some (q[j / R.size]'Q):=bac Q;have af:k[j / R.size]? =some (k[j / R.size]'(by rw[<-I.length];exact Q)):=bac _;obtain⟨x,b,M⟩:=I.d9 af;have:=Ma (j:=j % R.size) V (i:=j / R.size) (es:=x.2) (by rw[bau,b];rfl) aB;rw[show j / R.size*R.size+j % R.size=j from by rw[bby];exact beM j R.size,B]at this;exact R.zi (R.wz M) _ u this.symm
  have ry:∀ u∈(q.map (·.2)).flatten,u.oneCell'=true:=by
    intro u B;obtain⟨y,n,B⟩:=bbv.1 B;obtain⟨x,b,rfl⟩:=baV.1 n;obtain⟨a,D⟩:=I.left x b;exact R.one (R.wz D) u B
  obtain⟨v',w',l3,O,S,pz,d⟩:=asg (P:=P) w s t ty e i z R.size by_ aK ao K AK sf wj T R.raw AO _ _ _ L N m c2 _ hr ry QF (by unfold maxLen;omega) uC se;obtain⟨o,C,rfl,am,an,QO,CE,nj⟩:=O.shape;have ag:∀ x,(Value.slice A l.length c).ownBlock=some x->x∈ai A:=λx b=>by rw[<-W6 A l.length c,b];simp
  have hA:∀ x∈ai o,x∈ai A\/x=w.heap.size:=by
    intro x b;rw[<-W6 o (l.length+m) C]at b;rcases d with d|d
    · rw[d,W6]at b;exact .inl b
    · rw[d]at b;simp at b;exact .inr b
  have ad:∀ x∈F,∀ y∈x.1,y<w.heap.size/\y∉ai A:=by
    intro x b y n;obtain⟨a,D⟩:=W.left x b;refine⟨(R.zh D y n).2,λH=>?_⟩;rw[bbb]at U;exact U.2.2 y H y (bbv.2 ⟨x.1,baV.2 ⟨x,b,Z⟩,n⟩) Z
  have ae:∀ x∈q,∀ y∈x.1,y<w.heap.size/\y∉ai A:=by
    intro x b y n;obtain⟨a,D⟩:=I.left x b;refine⟨(R.zh D y n).2,λH=>?_⟩;rw[bbb]at E;exact E.2.2 y (bd4 _ H) y (bbv.2 ⟨x.1,baV.2 ⟨x,b,Z⟩,n⟩) Z
  have ab:∀ y,y<w.heap.size->y∉ai A->w'.heap[y]? =w.heap[y]? :=λy n hn=>S.block y n λe=>hn (ag y e.symm);have G:∀ x∈F++q,∀ y∈x.1,y<w.heap.size/\y∉ai A:=λx b=>by
    rcases bas.1 b with b|b
    · exact ad x b
    · exact ae x b
  refine⟨o,C,ai o++((F++q).map (·.1)).flatten,w',l3,⟨by rw[bam,hm];exact uC,F++q,rfl,?_,?_,?_⟩,S,?_,?_,?_,bay se S.size⟩
  · rw[baO,<-bcO,<-baJ,bbb]at E
    rw[bbb];refine⟨by cases o<;>simp[ai],E.2.1,λx b y n e=>?_⟩;subst e;obtain⟨z,K,n⟩:=bbv.1 n;obtain⟨v,hv,rfl⟩:=baV.1 K;have p:=G v hv x n;rcases hA x b with r|r
    · exact p.2 r
    · omega
  · rw[baJ,bcO,bam,hm];exact O
  · exact(W.app I).imp λx a b M=>R.wA M λy n=>ab y (G x b y n).1 (G x b y n).2
  · rcases d with d|d
    · cases o with
      | none =>
        cases A with
        | none=>exact .inl rfl
        | some a=>cases d
      | some a' =>
        cases A with
        | none=>cases d
        | some a =>
          obtain⟨_,p⟩:=L;obtain⟨_,r⟩:=O;rcases p with⟨p,_⟩|⟨g,al,cur,p,_⟩
          · cases p
          rcases r with⟨r,_⟩|⟨g',aj,GC,r,_⟩
          · cases r
          injection p with p
          injection r with r
          rw[p,r]at d ⊢;injection d with d
          have d:g'=g:=d
          left;rw[d]
    · cases o with
      | none=>cases d
      | some a'=>injection d with d;exact .inr ⟨a',Z,d⟩
  · intro x b
    rcases bas.1 b with b|b
    · rcases hA x b with h|h
      · exact .inl (bd4 _ h)
      · exact .inr (.inr h)
    · rw[baJ,bcO]at b
      rcases bas.1 b with b|b
      · exact .inl (bd1 _ b)
      · exact .inr (.inl b)
  · have U8:A=none->Value.slice A l.length c=.slice none 0 0:=λe=>by
      obtain⟨_,_,ly,_,_,_,_,ah⟩:=L.shape;injection ly with bm _ bw
      subst bm;subst bw;exact ah e
    constructor
    · intro e
      obtain⟨p,r⟩:=pz.1 (nj e);injection p with p
      exact⟨p,r⟩
    · rintro⟨e,aN⟩
      have:=pz.2 ⟨U8 e,aN⟩;injection this
theorem aRE{o:Oper}{a:Act}{K:Act->World->Prop}{Q:Exit->Act->World->Prop}(s x:Operand)(d:Nat)(t e:TypeId)(i:TypeInfo)(z:Value)(y:P.underlying t=some (.slice e))(C:P.info? e=some i)(D:i.zero=some z)
    (r:i.size=R.size)(U:i.bytes=by_)(X:z.cells.size=R.size)(S:0<R.size)(v:∀(j:Nat) u,z.cells[j]? =some u->R.raw j u)
    (f:List Nat)(A:Option Addr)(c:Nat)(l:List α)(h:R.aM e by_ w d f A c l)
    (q:Option Addr)(m c2:Nat)(k:List α)(g:List (List Nat×List Value))(I:dX (λx a=>R.own w d x.1 x.2 a) g k)(G:k.length=m)(H:Rd w R.size q m (g.map (·.2)).flatten)
    (N:(f++(g.map (·.1)).flatten).Nodup)(W:l.length+m<=9223372036854775807)(V:(l.length+m)*by_<=140737488355328)(T:d<=w.heap.size)
    (E:o.op=.call {callee:=.builtin .append,args:=#[s,x],argTypes:=#[t,t]})(L:a.eval s=.slice A l.length c)(M:a.eval x=.slice q m c2)
    (F:∀ b n p w',R.aM e by_ w' d p b n (l++k)/\w.grownBy w' (Value.slice A l.length c).ownBlock/\(b=A\/∃ a,b=some a/\a.block=w.heap.size)/\(∀ x∈p,x∈f\/x∈(g.map (·.1)).flatten\/x=w.heap.size)/\(b=none↔A=none/\m=0)/\d<=w'.heap.size->K (a.put o.dst (.slice b (l.length+m) n)) w'):o.wp P a w K Q:=by
  obtain⟨b,n,p,w',O,B⟩:=aOl (P:=P) (w:=w) o.type d t e i z y C D r U X S v f A c l h q m c2 k g I G H N W V T;unfold Oper.wp execOp;simp only[E,resolve,invoke,builtin,bar,bat,bal,beF,ba5,bcl,L,M,O];exact F b n p w' B
theorem aRB{r:Array Oper}{rest:List Oper}{o:Oper}{a:Act}{Q:Exit->Act->World->Prop}(B:o.guard=none)(s x:Operand)(d:Nat)(t e:TypeId)(i:TypeInfo)(z:Value)(D:P.underlying t=some (.slice e))(F:P.info? e=some i)(G:i.zero=some z)
    (v:i.size=R.size)(V:i.bytes=by_)(Y:z.cells.size=R.size)(T:0<R.size)(y:∀(j:Nat) u,z.cells[j]? =some u->R.raw j u)
    (f:List Nat)(A:Option Addr)(c:Nat)(l:List α)(h:R.aM e by_ w d f A c l)
    (q:Option Addr)(m c2:Nat)(k:List α)(g:List (List Nat×List Value))(I:dX (λx a=>R.own w d x.1 x.2 a) g k)(L:k.length=m)(M:Rd w R.size q m (g.map (·.2)).flatten)
    (S:(f++(g.map (·.1)).flatten).Nodup)(X:l.length+m<=9223372036854775807)(W:(l.length+m)*by_<=140737488355328)(U:d<=w.heap.size)
    (H:o.op=.call {callee:=.builtin .append,args:=#[s,x],argTypes:=#[t,t]})(N:a.eval s=.slice A l.length c)(O:a.eval x=.slice q m c2)
    (K:∀ b n p w',R.aM e by_ w' d p b n (l++k)/\w.grownBy w' (Value.slice A l.length c).ownBlock/\(b=A\/∃ a,b=some a/\a.block=w.heap.size)/\(∀ x∈p,x∈f\/x∈(g.map (·.1)).flatten\/x=w.heap.size)/\(b=none↔A=none/\m=0)/\d<=w'.heap.size->wpList P r Q rest (a.put o.dst (.slice b (l.length+m) n)) w'):wpList P r Q (o::rest) a w :=
  wpList_plain B λ_ C=>aRE s x d t e i z D F G v V Y T y f A c l h q m c2 k g I L M S X W U H N O λb n p w' E=>C _ _ (K b n p w' E)
def Y(R:τ α):Prop:=∀ {w B cs a},R.bv w cs a->R.own w B [] cs a
def nc{size:Nat}{c:α->List Value}{e:α->Prop}{f:Nat->Value->Prop}{b a d}:(flat size c e f b a d).Y:=λh=>⟨rfl,h⟩
def dX.plain{ess:List (List Value)}{l:List α}(b:R.Y)(h:dX (λes a=>R.bv w es a) ess l):dX (λx a=>R.own w B x.1 x.2 a) (ess.map λes=>(([]:List Nat),es)) l :=
  dX.aeF (P:=λ(x:List Nat×List Value) a=>R.own w B x.1 x.2 a) (λes=>(([]:List Nat),es)) (h.imp λ_ _ _ h=>b h)
def aru(ess:List (List Value)):((ess.map λes=>(([]:List Nat),es)).map (·.1)).flatten=[]/\(ess.map λes=>(([]:List Nat),es)).map (·.2)=ess:=by
  constructor
  · induction ess with
    | nil=>rfl
    | cons x r a=>simp
  · rw[bds]
    exact List.map_id' ess
def aM.E5{E:TypeId}{A:Option Addr}{c:Nat}{l:List α}(g:R.Y){ess:List (List Value)}(h:dX (λes a=>R.bv w es a) ess l)(b:l.length*by_<=140737488355328)(f:Own w B E R.size R.raw (.slice A l.length c) l.length ess.flatten):R.aM E by_ w B (ai A) A c l:=by
  obtain⟨d,e⟩:=aru ess;exact⟨b,_,by rw[d,baP],by cases A<;>simp[ai],by rw[e];exact f,dX.plain g h⟩
def aM.aEJ{E:TypeId}{A:Option Addr}{c:Nat}{l:List α}(g:∀ {w B f cs a},R.own w B f cs a->f=[])(h:R.aM E by_ w B f A c l):f=ai A:=by
  obtain⟨_,j,rfl,_,_,d⟩:=h;have:(j.map (·.1)).flatten=[]:=by
    rw[bfa];intro x i;obtain⟨y,b,rfl⟩:=baV.1 i;obtain⟨a,e⟩:=d.left y b;exact g e
  rw[this,baP]
end
end τ

theorem Mb{k:Type}{R:τ k}{w:World}{ess:List (List Value)}{l:List k}(h:dX (λes a=>R.bv w es a) ess l)(c:0<R.size){j:Nat}{u:Value}(g:ess.flatten[j]? =some u):R.raw (j % R.size) u:=by
  have d:=τ.lens h;have e:=(bab.1 g).1;rw[Eh d]at e;have n:j % R.size<R.size:=bcI _ c;have b:j / R.size<ess.length:=by rw[bd0 c];exact e
  have m:j / R.size*R.size+j % R.size=j:=by rw[bby];exact beM j R.size
  have f:=Ma (j:=j % R.size) d (i:=j / R.size) (es:=ess[j / R.size]'b) (bac b) n;rw[m,g]at f;obtain⟨a,o⟩:=h.left _ (bbl b);exact R.zi o _ u f.symm
namespace τ
variable{α:Type}{w w':World}{B:Nat}{f:List Nat}{R:τ α}{E:TypeId}{A:Option Addr}{by_ g c:Nat}{l:List α}
def Dr(R:τ α):Prop:=R.Y/\∀ {w B f cs a},R.own w B f cs a->f=[]
def O{size:Nat}{c:α->List Value}{e:α->Prop}{f:Nat->Value->Prop}{b a d}:(flat size c e f b a d).Dr:=⟨nc,λh=>h.1⟩
theorem aM.aO2(h:R.aM E by_ w B f (some ⟨g,0,none⟩) c l)(o:R.Dr){i j:Nat}{a r:α}{u:Value}(G:l[i]? =some a)(s:j<R.size)(Q:∀ cs,R.bv w cs a->R.bv (w.setCell ⟨g,i*R.size+j,none⟩ u) (cs.set j u) r):
    R.aM E by_ (w.setCell ⟨g,i*R.size+j,none⟩ u) B f (some ⟨g,0,none⟩) c (l.set i r):=by
  obtain⟨F,d,rfl,O,N,k⟩:=h;obtain⟨x,p,m⟩:=k.d9 G;have K:=W4 k;have S:x.1=[]:=o.2 m;have U:x.2.length=R.size:=R.aeX m;have t:=Q x.2 (R.wz m);have T:R.raw j u:=R.zi t j u (by rw[baw GE]);have v:=N.stored (i*R.size+j) u (by rw[bby,bdl,bbC s];exact T);rw[alx u K (i:=i) (es:=x.2) (by rw[bau,p];rfl) s]at v;have W:=(bab.1 p).1;have L:(d.set i (x.1,x.2.set j u)).map (·.1)=d.map (·.1):=by
    rw[bbA];have:(d.map (·.1))[i]? =some x.1:=by rw[bau,p];rfl
    obtain⟨V,H⟩:=bab.1 this
    conv=>lhs;rw[<-H]
    exact bbV _
  have M:(d.set i (x.1,x.2.set j u)).map (·.2)=(d.map (·.2)).set i (x.2.set j u):=by rw[bbA]
  have D:∀ y∈d,∀ q∈y.1,q≠g:=λy n q I e=>by
    obtain⟨b,z⟩:=k.left y n;rw[o.2 z]at I;simp at I
  have C:dX (λx a=>R.own (w.setCell ⟨g,i*R.size+j,none⟩ u) B x.1 x.2 a) d l:=k.imp λy a n A=>R.wA A λq I=>beB _ _ _ _ (D y n q I);refine⟨by rw[bak];exact F,d.set i (x.1,x.2.set j u),by rw[L],O,by rw[bak,M];exact v,?_⟩;exact C.afD (P:=λ(x:List Nat×List Value) a=>R.own (w.setCell ⟨g,i*R.size+j,none⟩ u) B x.1 x.2 a) (by rw[S];exact o.1 t)
def aM.el(h:R.aM E by_ w B f A c l){p:Addr}(b:p.block∉f)(u:Value):R.aM E by_ (w.setCell p u) B f A c l :=
  h.be λg a=>beB _ _ _ _ λe=>b (e ▸ a)
def aM.drewN(h:R.aM E by_ w B f A c l)(k:Nat):R.aM E by_ (w.drewN k) B f A c l:=h.be λ_ _=>rfl
def aM.drew(h:R.aM E by_ w B f A c l):R.aM E by_ w.drew B f A c l:=h.be λ_ _=>rfl
end τ
def bA(n lo a:Int):Bool:=decide (lo<=n) && decide (n<=a)
def j4{n lo a:Int}(h:bA n lo a=true):lo<=n/\n<=a:=by simpa[bA]using h
def aI1{n lo a:Int}(h:bA n lo a=false):n<lo\/a<n:=by
  simp[bA]at h;omega
def kj{n lo a:Int}(b:lo<=n)(c:n<=a):bA n lo a=true:=by simp[bA,b,c]
def sw{n lo a:Int}(h:n<lo\/a<n):bA n lo a=false:=by
  cases b:bA n lo a with
  | false=>rfl
  | true=>have:=j4 b;omega
def fK{a:Type}(p:a->Bool)(l:List a):Int:=match l.findIdx? p with|some k=>(k:Int)|none=> -1
def JL{b:Type}{p:b->Bool}{l:List b}{k:Nat}(e:k<l.length)(c:p l[k]=true)(d:∀ j (a:j<k),p (l[j]'(by omega))=false):fK p l=(k:Int):=by
  unfold fK;have:l.findIdx? p=some k:=by
    rw[bc4];exact⟨e,c,λj a=>by rw[d j a];simp⟩
  rw[this]
def JK{b:Type}{p:b->Bool}{l:List b}(c:∀ j (a:j<l.length),p l[j]=false):fK p l= -1:=by
  unfold fK;have:l.findIdx? p=none:=by
    rw[bdA];intro x d;obtain⟨j,a,rfl⟩:=bbf.1 d;exact c j a
  rw[this]
theorem MW{e:Type}(p:e->Bool)(l:List e):decide (0<=fK p l)=l.any p:=by
  by_cases h:∀ j (a:j<l.length),p l[j]=false
  · rw[JK h]
    have:l.any p=false:=by
      rw[bcm];intro x b;obtain⟨j,a,rfl⟩:=bbf.1 b;rw[h j a];simp
    rw[this];rfl
  · have:l.any p=true:=by
      rw[bbD];simp only[Classical.not_forall]at h;obtain⟨j,a,h⟩:=h;exact⟨l[j],bbl a,by simpa using h⟩
    rw[this];unfold fK;cases c:l.findIdx? p with
    | none =>
      rw[bdA]at c;rw[bbD]at this;obtain⟨x,b,d⟩:=this;rw[c x b]at d;cases d
    | some k=>simp
def JJ{c:Type}(p:c->Bool)(l:List c):fK p l= -1/\(∀ x∈l,p x=false)\/∃(k:Nat) (h:k<l.length),fK p l=(k:Int)/\p l[k]=true/\∀ j (a:j<k),p (l[j]'(by omega))=false:=by
  unfold fK;cases b:l.findIdx? p with
  | none=>exact .inl ⟨rfl,λx g=>bdA.1 b x g⟩
  | some k =>
    obtain⟨d,e,f⟩:=bc4.1 b;exact .inr ⟨k,d,Z,e,λj a=>by have:=f j a;simpa using this⟩
open Go.RowKit Go.Maps

def kI(w:World)(b:Nat)(es:Array MapEntry)(a:Nat):World:=Go.ChangeMaps.setBlock w b (.map es a)
def HN{w:World}{b:Nat}{es:Array MapEntry}{a:Nat}(h:b<w.heap.size):(kI w b es a).heap[b]? =some (.map es a):=by
  simp[kI,Go.ChangeMaps.setBlock,h]
def RN{w:World}{b g:Nat}{es:Array MapEntry}{a:Nat}(h:g≠b):(kI w b es a).heap[g]? =w.heap[g]? :=by
  simp[kI,Go.ChangeMaps.setBlock,bcn (bdg h)]
def asA{w:World}{b:Nat}{es:Array MapEntry}{a:Nat}:(kI w b es a).heap.size=w.heap.size:=by
  simp[kI,Go.ChangeMaps.setBlock]
def aO0{B:Nat}{a w:World}{b:Nat}{es:Array MapEntry}{c:Nat}(h:Below B a w)(d:B<=b):Below B a (kI w b es c):=
  h.trans ⟨rfl,rfl,rfl,by simp[asA],λk e=>RN GE⟩
def eQ{a:Type}(key:a->Value)(e:a×Int×Nat):MapEntry:=⟨key e.1,.int .i64 e.2.1,e.2.2⟩
structure eO{c6:Type}(key:c6->Value)(w:World)(b:Nat)(l:List (c6×Int×Nat))(clock:Nat):Prop where
  iI:w.heap[b]? =some (.map (l.map (eQ key)).toArray clock)
  born:∀ e∈l,e.2.2<clock
  stamps:(l.map (·.2.2)).Nodup
structure Zo{c6:Type}(P:Program)(k:TypeId)(key:c6->Value)(wf:c6->Prop):Prop where
  keyed:Keyed P k
  lit:∀ x,wf x->∃ l,keyOf P k (key x)=some l
  inj:∀ x y,key x=key y->x=y
namespace eO
section
variable{c6:Type}{key:c6->Value}{w:World}{b:Nat}{l:List (c6×Int×Nat)}{clock:Nat}
def lt(h:eO key w b l clock):b<w.heap.size:=(baU.1 h.iI).1
def be{w':World}(h:eO key w b l clock)(a:w'.heap[b]? =w.heap[b]?):eO key w' b l clock:=⟨a.trans h.iI,h.born,h.stamps⟩
def O{w':World}(h:eO key w b l clock)(a:Below w.heap.size w w'):eO key w' b l clock:=h.be (a.block b h.lt)
def made(w:World):eO key (w.alloc (.map #[] 0)) w.heap.size [] 0:=⟨bdC w _,Kx,Kx⟩
def aJy{P:Program}{k:TypeId}{b:c6->Prop}(K:Zo P k key b)(f:∀ e∈l,b e.1):∀ y∈l.map (eQ key),∃ z,keyOf P k y.key=some z:=by
  intro y c;obtain⟨a,d,rfl⟩:=baV.1 c;exact K.lit a.1 (f a d)
end
variable{c6:Type}[DecidableEq c6]{key:c6->Value}{w:World}{b:Nat}{l:List (c6×Int×Nat)}{clock:Nat}
def get(l:List (c6×Int×Nat))(x:c6):Option Int:=(l.find? λe=>decide (e.1=x)).map (·.2.1)
def put(l:List (c6×Int×Nat))(a:Nat)(x:c6)(v:Int):List (c6×Int×Nat):=
  if l.any (λe=>decide (e.1=x))then l.map (λe=>if e.1=x then(e.1,v,e.2.2)else e)else l++ [(x,v,a)]
def tick(l:List (c6×Int×Nat))(a:Nat)(x:c6):Nat:=if l.any (λe=>decide (e.1=x))then a else a+1
theorem Eo(l:List (c6×Int×Nat))(c:Nat)(x y:c6)(v:Int):get (put l c x v) y=if y=x then some v else get l y:=by
  unfold get put;by_cases h:l.any (λe=>decide (e.1=x))=true
  · rw[bap h]
    induction l with
    | nil=>simp at h
    | cons e r j =>
      rw[ba5];by_cases d:e.1=x
      · rw[bap d]
        by_cases b:y=x
        · subst b
          rw[bdV (by simp[d])];simp
        · rw[ban b,bcw (by simp[d,bdg b]),bcw (by simp[d,bdg b])]
          by_cases g:r.any (λe=>decide (e.1=x))=true
          · have:=j g
            rw[ban b]at this;exact this
          · have e0:r.map (λe=>if e.1=x then(e.1,v,e.2.2)else e)=r:=by
              conv=>rhs;rw[<-List.map_id r]
              refine bfv λa m=>?_;rw[ban];rfl;intro i;exact g (bbD.2 ⟨a,m,by simp[i]⟩)
            rw[e0]
      · rw[ban d]
        have g:r.any (λe=>decide (e.1=x))=true:=by simpa[d]using h
        by_cases f:e.1=y
        · have k:¬y=x:=λh=>d (f.trans h)
          rw[bdV (by simp[f]),bdV (by simp[f]),ban k]
        · rw[bcw (by simp[f]),bcw (by simp[f])]
          exact j g
  · rw[ban h,List.find?_append]
    by_cases b:y=x
    · subst b
      have:l.find? (λe=>decide (e.1=y))=none:=by
        rw[bbu];intro e i n;exact h (bbD.2 ⟨e,i,n⟩)
      rw[this];simp
    · rw[ban b]
      cases l.find? (λe=>decide (e.1=y))<;>simp[bdg b]
def aeI{l:List (c6×Int×Nat)}{c:Nat}{x:c6}{v:Int}{f:c6->Prop}(d:∀ e∈l,f e.1)(h:f x):∀ e∈put l c x v,f e.1:=by
  intro e b;unfold put at b;split at b
  · obtain⟨a,g,rfl⟩:=baV.1 b
    split
    · exact d a g
    · exact d a g
  · rcases bas.1 b with b|b
    · exact d e b
    · simp at b;subst b;exact h
theorem iK{l:List (c6×Int×Nat)}(b:(l.map (·.1)).Nodup){j n:Nat}{x:c6}{v:Int}(a:l[j]? =some (x,v,n)):get l x=some v:=by
  unfold get;induction l generalizing j with
  | nil=>simp at a
  | cons e r c =>
    rw[ba5,bdW]at b;cases j with
    | zero=>simp at a;subst a;simp
    | succ j =>
      have a:r[j]? =some (x,v,n):=by simpa using a
      have:e.1≠x:=λd=>b.1 (baV.2 ⟨(x,v,n),baQ a,d.symm⟩);rw[bcw (by simpa using this)];exact c b.2 a
theorem MX{l:List (c6×Int×Nat)}(d:(l.map (·.1)).Nodup)(c:Nat)(x:c6)(v:Int):((put l c x v).map (·.1)).Nodup:=by
  unfold put;split
  · rw[bds]
    have:((λe:c6×Int×Nat=>e.1) ∘ λe=>if e.1=x then(e.1,v,e.2.2)else e)=λe=>e.1:=by
      funext e;simp only[Function.comp];split<;>rfl
    rw[this];exact d
  · rename_i h
    rw[baJ,bbb];refine⟨d,Kx,λa g c b e=>?_⟩;simp at b;obtain⟨y,f,rfl⟩:=baV.1 g;exact h (bbD.2 ⟨y,f,by simp[e,b]⟩)
variable{P:Program}{k e t:TypeId}{wf:c6->Prop}(K:Zo P k key wf)
include K
theorem found(h:eO key w b l clock)(p:∀ e∈l,wf e.1)(x:c6)(q:wf x):
    ((Instr.findKey k (key x) (l.map (eQ key))).run P w=.ok none w/\get l x=none/\∀ a∈l,a.1≠x)\/
    ∃(j:Nat) (v:Int) (n:Nat),(Instr.findKey k (key x) (l.map (eQ key))).run P w=.ok (some (j,.int .i64 v)) w/\l[j]? =some (x,v,n):=by
  obtain⟨s,r⟩:=K.lit x q;rcases K.keyed.find w r (l.map (eQ key)) (aJy K p)with⟨f,c⟩|⟨j,e0,f,c,o⟩
  · have i:∀ a∈l,a.1≠x:=λa g m=>c (eQ key a) (baV.2 ⟨a,g,rfl⟩) (by simp[eQ,m])
    refine .inl ⟨f,?_,i⟩;unfold get;rw[bbu.2 λa g=>by simpa using i a g];rfl
  · rw[bau]at c
    cases d:l[j]? with
    | none=>rw[d]at c;cases c
    | some a =>
      rw[d]at c;obtain rfl:=bae c;obtain rfl:a.1=x:=K.inj _ _ o;exact .inr ⟨j,a.2.1,a.2.2,f,d⟩
theorem lookup(d:P.underlying t=some (.map k e))(i:(zeroValue e).run P w=.ok (.int .i64 0) w)(h:eO key w b l clock)(o:∀ e∈l,wf e.1)(m:(l.map (·.1)).Nodup)(x:c6)(f:wf x):
    (Instr.lookup t (.map (some b)) (key x) false).run P w=.ok (.int .i64 ((get l x).getD 0)) w/\
    (Instr.lookup t (.map (some b)) (key x) true).run P w=.ok (.tuple #[.int .i64 ((get l x).getD 0),.bool (get l x).isSome]) w:=by
  obtain⟨p,g⟩:=K.lit x f;rcases found K h o x f with⟨a,c,_⟩|⟨j,v,n,a,c⟩
  · rw[c]
    constructor<;>simp[Instr.lookup,bbw d,bbe h.iI,K.keyed.check w _ g,a,i,Result.andThen]
  · rw[iK m c]
    constructor<;>simp[Instr.lookup,bbw d,bbe h.iI,K.keyed.check w _ g,a,Result.andThen]
theorem entry(V:P.underlying t=some (.map k e))(b1:∀ u:World,(zeroValue e).run P u=.ok (.int .i64 0) u)(h:eO key w b l clock)(C:∀ e∈l,wf e.1)(B:(l.map (·.1)).Nodup)(x:c6)(D:wf x):
    ∃(st:Nat) (p:List (c6×Int×Nat)) (c1:Nat),(∀ n,(Instr.mapEntry t (.map (some b)) (key x)).run P (w.drewN n)=.ok (.tuple #[.int .i64 ((get l x).getD 0),.int .i64 (st:Int)]) ((kI w b (p.map (eQ key)).toArray c1).drewN n))/\
      eO key (kI w b (p.map (eQ key)).toArray c1) b p c1/\(∀ e∈p,wf e.1)/\(p.map (·.1)).Nodup/\get p x=some ((get l x).getD 0)/\
      ∀ v n,(Instr.entryStore t (.map (some b)) (.int .i64 (st:Int)) (.int .i64 v)).run P ((kI w b (p.map (eQ key)).toArray c1).drewN n)=.ok () ((kI w b ((put l clock x v).map (eQ key)).toArray (tick l clock x)).drewN n)/\
        eO key (kI w b ((put l clock x v).map (eQ key)).toArray (tick l clock x)) b (put l clock x v) (tick l clock x):=by
  obtain⟨jK,U⟩:=K.lit x D;have ae:=h.iI;have z:=h.lt;have r:∀ n,(w.drewN n).heap[b]? =some (.map (l.map (eQ key)).toArray clock):=λn=>ae;have Y:∀(m:List (c6×Int×Nat)) (j:Nat) (a:c6×Int×Nat),(m.map (·.2.2)).Nodup->m[j]? =some a->((m.map (eQ key)).toArray).findIdx? (λy=>((y.born:Nat):Int)== ((a.2.2:Nat):Int))=some j:=by
    intro m j a hm o;rw[be7];refine be2 (l:=m.map (eQ key)) (j:=j) (e0:=eQ key a) ?_ (by rw[bau,o];rfl);rw[bds];exact hm
  rcases found K h C x D with⟨L,f,G⟩|⟨j,q,g,L,f⟩
  · have F:l.any (λe=>decide (e.1=x))=false:=by
      rw[bdF];intro d;obtain⟨a,d,hd⟩:=bbD.1 d;exact G a d (by simpa using hd)
    have s:∀ v,put l clock x v=l++ [(x,v,clock)]:=λv=>by unfold put;rw[ban (by rw[F];decide)]
    have N:tick l clock x=clock+1:=by unfold tick;rw[ban (by rw[F];decide)]
    have E:∀ v,eO key (kI w b ((l++ [(x,v,clock)]).map (eQ key)).toArray (clock+1)) b (l++ [(x,v,clock)]) (clock+1):=λv=>by
      refine⟨HN z,λa d=>?_,?_⟩
      · rcases bas.1 d with d|d
        · have:=h.born a d;omega
        · simp at d;subst d;simp
      · rw[baJ,bbb]
        refine⟨h.stamps,Kx,λa d c hc e=>?_⟩;simp at hc;obtain⟨y,aP,rfl⟩:=baV.1 d;have:=h.born y aP;omega
    have M:∀ n,(Instr.findKey k (key x) (l.map (eQ key))).run P (w.drewN n)=.ok none (w.drewN n):=λn=>by
      rcases found (w:=w.drewN n) K ⟨r n,h.born,h.stamps⟩ C x D with⟨L,_,_⟩|⟨j,v,m,_,o⟩
      · exact L
      · exact absurd rfl (G _ (baQ o))
    refine⟨clock,l++ [(x,0,clock)],clock+1,λn=>?_,E 0,λa d=>?_,?_,?_,λv n=>?_⟩
    · rw[f]
      have:(l.map (eQ key)).toArray.push (⟨key x,.int .i64 0,clock⟩:MapEntry)=((l++ [(x,0,clock)]).map (eQ key)).toArray:=by simp[eQ]
      simp[Instr.mapEntry,bbw V,bbe (r n),K.keyed.check (w.drewN n) false U,M n,b1,bbF _ (r n),Result.andThen,kI,Go.ChangeMaps.setBlock,goInt,eQ];rfl
    · rcases bas.1 d with d|d
      · exact C a d
      · simp at d;subst d;exact D
    · have:=MX B clock x 0
      rw[s]at this;exact this
    · have:=Eo l clock x x 0
      rw[s,bap rfl]at this;rw[this,f];rfl
    · rw[s,N]
      refine⟨?_,E v⟩;have Q:=Y (l++ [(x,0,clock)]) l.length (x,0,clock) (E 0).stamps Kx;have H:((l++ [(x,0,clock)]).map (eQ key)).toArray.modify l.length (λe=> {e with val:=Value.int .i64 v})=((l++ [(x,v,clock)]).map (eQ key)).toArray:=by
        apply bbQ;rw[bcP];have ag:l.length=(l.map (eQ key)).length:=Kx
        rw[ag];simp only[baJ,ba5,bcl];rw[Go.WideElems.modify_last];rfl
      have A:((kI w b ((l++ [(x,0,clock)]).map (eQ key)).toArray (clock+1)).drewN n).heap[b]? =some (.map ((l++ [(x,0,clock)]).map (eQ key)).toArray (clock+1)):=HN z;have S:(Instr.entryStore t (.map (some b)) (goInt clock) (.int .i64 v)).run P ((kI w b ((l++ [(x,0,clock)]).map (eQ key)).toArray (clock+1)).drewN n)=.ok () (kI ((kI w b ((l++ [(x,0,clock)]).map (eQ key)).toArray (clock+1)).drewN n) b ((l++ [(x,v,clock)]).map (eQ key)).toArray (clock+1)):=by
        rw[<-H];simp only[Instr.entryStore,bar,bbe A,bal,asInt,asIntOf,goInt,bat];rw[Q];exact bbF _ A
      refine S.trans ?_;simp[kI,Go.ChangeMaps.setBlock,World.drewN]
  · have F:l.any (λe=>decide (e.1=x))=true:=bbD.2 ⟨_,baQ f,Kx⟩
    have s:∀ v,put l clock x v=l.map (λe=>if e.1=x then(e.1,v,e.2.2)else e):=λv=>by unfold put;rw[bap F]
    have N:tick l clock x=clock:=by unfold tick;rw[bap F]
    have W:=iK B f;have y3:∀ v,l.map (λe=>if e.1=x then(e.1,v,e.2.2)else e)=l.set j (x,v,g):=by
      intro v;refine bbB λi=>?_;rw[bau];by_cases R:j=i
      · subst R
        rw[f,baw (bab.1 f).1];simp
      · rw[baH R]
        cases X:l[i]? with
        | none=>rfl
        | some a =>
          have:a.1≠x:=by
            intro Ey;have Jz:=(bab.1 X);have Qt:=(bab.1 f);have O:(l.map (·.1))[i]? =(l.map (·.1))[j]? :=by rw[bau,bau,X,f];simp[Ey]
            obtain⟨T,_⟩:=Jz;obtain⟨ni,_⟩:=Qt;have:=(beu (by simpa using T) B).1 O;exact R this.symm
          simp[this]
    have M:∀ n,(Instr.findKey k (key x) (l.map (eQ key))).run P (w.drewN n)=.ok (some (j,.int .i64 q)) (w.drewN n):=λn=>by
      rcases found (w:=w.drewN n) K ⟨r n,h.born,h.stamps⟩ C x D with⟨_,_,G⟩|⟨aa,v,m,Je,o⟩
      · exact absurd rfl (G (x,q,g) (baQ f))
      · have O:(l.map (·.1))[aa]? =(l.map (·.1))[j]? :=by rw[bau,bau,o,f];rfl
        have:=(beu (by simpa using(bab.1 o).1) B).1 O;subst this;rw[f]at o;injection o with o
        injection o with _ o
        injection o with JA _
        rw[Je,JA]
    have E:∀ v,eO key (kI w b ((l.set j (x,v,g)).map (eQ key)).toArray clock) b (l.set j (x,v,g)) clock:=λv=>by
      refine⟨HN z,λa d=>?_,?_⟩
      · rcases bbs d with d|d
        · exact h.born a d
        · rw[d];exact h.born (x,q,g) (baQ f)
      · rw[bbA]
        have:(l.map (·.2.2)).set j g=l.map (·.2.2):=by
          have VG:=(bab.1 f);obtain⟨T,ni⟩:=VG;have e:(l.map (·.2.2))[j]'(by simpa using T)=g:=by rw[bdN,ni]
          conv=>lhs;rw[<-e]
          exact bbV _
        rw[this];exact h.stamps
    refine⟨g,l,clock,λn=>?_,⟨HN z,h.born,h.stamps⟩,C,B,by rw[W];rfl,λv n=>?_⟩
    · rw[W]
      have o:(l.map (eQ key)).toArray[j]? =some (eQ key (x,q,g)):=by simp[f]
      have ad:(l.map (eQ key)).toArray.modify j (λe=> {e with key:=key x})=(l.map (eQ key)).toArray:=by
        apply bbQ;rw[bcP,bcE _ _ _ _ (by rw[bau,f];rfl)];exact bfl _ _ _ (by rw[bau,f];rfl)
      have af:(eQ key (x,q,g)).key=key x:=rfl;have ab:(eQ key (x,q,g)).born=g:=rfl;simp only[Instr.mapEntry,bar,bbw V,bal,bbe (r n),K.keyed.check (w.drewN n) false U,M n,o,bbR,bbq,af,K.keyed.stays (w.drewN n) U,ad,bbF _ (r n),ab,bat];rfl
    · rw[s,N,y3]
      refine⟨?_,E v⟩;have Q:=Y l j (x,q,g) h.stamps f;have H:(l.map (eQ key)).toArray.modify j (λe=> {e with val:=Value.int .i64 v})=((l.set j (x,v,g)).map (eQ key)).toArray:=by
        apply bbQ;rw[bcP,bcE _ _ _ _ (by rw[bau,f];rfl),bbA];rfl
      have A:((kI w b (l.map (eQ key)).toArray clock).drewN n).heap[b]? =some (.map (l.map (eQ key)).toArray clock):=HN z;have S:(Instr.entryStore t (.map (some b)) (goInt g) (.int .i64 v)).run P ((kI w b (l.map (eQ key)).toArray clock).drewN n)=.ok () (kI ((kI w b (l.map (eQ key)).toArray clock).drewN n) b ((l.set j (x,v,g)).map (eQ key)).toArray clock):=by
        rw[<-H];simp only[Instr.entryStore,bar,bbe A,bal,asInt,asIntOf,goInt,bat];rw[Q];exact bbF _ A
      refine S.trans ?_;simp[kI,Go.ChangeMaps.setBlock,World.drewN]
end eO

theorem ash{P:Program}{w:World}{o:Oper}{a:Act}(f:FuncId)(fn:Func)(e:P.funcs[f]? =some fn)(g:(fn.name == "runtime.NumGoroutine")=false)(c:fn.body.isNone=false)
    (xs:Array Operand)(i:Array TypeId)(j:o.op=Op.call {callee:=Callee.value (Operand.func f),args:=xs,argTypes:=i})(args:Array Value)(b:xs.map a.eval=args):
    (execOp a.eval o).run P w=.ok (.enter f args) w:=by
  unfold execOp;have d:a.eval (.func f)=.func (.func f) #[] #[]:=rfl;have h:Sem.run P program w=.ok P w:=rfl;simp only[j,resolve,invoke,Deferred.ofValue,d,callFunc,bar,bat,bal,b,h,e,g,c,bdz,Array.append_empty,ba0,bbE]
theorem XF{P:Program}{b:Array Oper}{o:Oper}{a:Act}{w:World}{K:Act->World->Prop}{Q:Exit->Act->World->Prop}{E:Prop}
    (d:o.guard=none)(f:FuncId)(fn:Func)(l:P.funcs[f]? =some fn)(m:(fn.name == "runtime.NumGoroutine")=false)(i:fn.body.isNone=false)
    (xs:Array Operand)(c:Array TypeId)(p:o.op=Op.call {callee:=Callee.value (Operand.func f),args:=xs,argTypes:=c})(args:Array Value)(g:xs.map a.eval=args)
    (k:Calls P f args w λe w'=>∃ v,e=.returned v/\K (a.put o.dst v) w'):
    if Region.wanted o (yielded b a.tmps)=true then Oper.wp P o a w K Q else E:=by
  have n:Region.wanted o (yielded b a.tmps)=true:=by simp[Region.wanted,d]
  rw[bap n];unfold Oper.wp;rw[ash f fn l m i xs c p args g,Oper.upon_enter];refine k.mono λe q j=>?_;obtain⟨v,rfl,h⟩:=j;exact h
def qH{a b w':World}(h:Below a.heap.size a b)(c:Below b.heap.size b w'):Below a.heap.size a w':=h.trans (c.mono h.size)
def aiJ{a b w':World}(h:Below a.heap.size a b)(c:Below b.drew.heap.size b.drew w'):Below a.heap.size a w':=h.drew.trans (c.mono h.size)
theorem Yf{P:Program}{e:Nat}{Q:Exit->Act->World->Prop}{a:Act}{w:World}{l:List Oper}(d:P.follows .mixedOrders=true)(c:Region.lexB .any l.toArray=true)
    (h:wpQuiet P l.toArray (λw'=>Below w.heap.size w w') (λb=>∀ w',Below w.heap.size w w'->Q .normal b w') l a):(Code.region e l.toArray true).wp P Q a w :=
  wp_region_quiet (C:=λw'=>Below w.heap.size w w') d c (below_drewN (baL _ w) 1) (by simpa using h)
def aNA{P:Program}{o:Oper}{a:Act}{C:World->Prop}{w:World}{v:Value}(h:(execOp a.eval o).run P w=.ok (.value v) w):o.quietAt P a C w v:=by
  unfold Oper.quietAt;rw[h];exact⟨Z,Z⟩
def aNz{P:Program}{o:Oper}{a:Act}{C:World->Prop}{w:World}{v:Value}{f:FuncId}{args:Array Value}(h:(execOp a.eval o).run P w=.ok (.enter f args) w)(b:Calls P f args w λe c=>e=.returned v/\C c):o.quietAt P a C w v:=by
  unfold Oper.quietAt;rw[h];exact⟨Z,b⟩
def Xm{P:Program}{o:Oper}{a:Act}{C:World->Prop}{w:World}{v:Value}{r:Result Next}(h:(execOp a.eval o).run P w=r)(b:r=.ok (.value v) w):o.quietAt P a C w v:=aNA (h.trans b)
def Xl{P:Program}{o:Oper}{a:Act}{C:World->Prop}{w:World}{v:Value}{f:FuncId}{args:Array Value}{r:Result Next}(h:(execOp a.eval o).run P w=r)(c:r=.ok (.enter f args) w)(b:Calls P f args w λe d=>e=.returned v/\C d):o.quietAt P a C w v:=aNz (h.trans c) b
abbrev Ext(w w':World):Prop:=Below w.heap.size w w'
def Ext.U(w:World):Ext w w:=baL _ w
def Ext.O{a b c:World}(h:Ext a b)(k:Ext b c):Ext a c:=Below.trans h (be9 k h.size)
section
variable{P:Program}{ops:Array Oper}{Q:Exit->Act->World->Prop}{a_:Nat->Nat}
def CX(P:Program)(w:World)(v:Value):Result Next->Prop
  | .ok (.value u) w'=>w'=w/\u=v
  | .ok .skip w'=>w'=w/\v=undef
  | .ok (.enter f args) w'=>w'=w/\Calls P f args w (λe a=>e=.returned v/\Ext w a)
  | _=>False
def xi(P:Program)(b:Array Oper)(c:World)(o:Oper)(v:Value)(a:Act):Prop :=
  (Region.wanted o (yielded b a.tmps)=true/\∀ w,Ext c w->CX P w v ((execOp a.eval o).run P w))\/
  (Region.wanted o (yielded b a.tmps)=false/\v=undef)
def xi.of_same{c:World}{o:Oper}{v:Value}{a b:Act}(h:xi P ops c o v a)(d:execOp b.eval o=execOp a.eval o)(e:Region.wanted o (yielded ops b.tmps)=Region.wanted o (yielded ops a.tmps)):xi P ops c o v b:=by
  unfold xi at *;rw[d,e];exact h
def xi.on{c b:World}{o:Oper}{v:Value}{a:Act}(h:xi P ops c o v a)(g:Ext c b):xi P ops b o v a :=
  h.imp (λ⟨d,e⟩=>⟨d,λw f=>e w (g.O f)⟩) id
def Yields.arU{d:World}{o:Oper}{v:Value}{a:Act}(h:Yields P ops o v a):xi P ops d o v a :=
  h.imp (λ⟨b,c⟩=>⟨b,λw _=>by rw[c w];exact⟨rfl,rfl⟩⟩) id
def aPs(P:Program)(d:Array Oper)(Q:Exit->Act->World->Prop)(c:Nat->Nat)(i:Nat)(K:Act->World->Prop)(a:Act)(b:World):Prop :=
  ∃ o,d[i]? =some o/\
    ((c i<=1/\∃ v,xi P d b o v a/\K (a.put o.dst v) b)\/
     (1<c i/\∀ w,Ext b w->wpOp P d Q i (λe w'=>(c i=2->Ext b w')/\K e w') a w))
def Gl(P:Program)(b:Array Oper)(Q:Exit->Act->World->Prop)(c:Nat->Nat):Nat->Array Bool->Act->World->Prop
  | 0,l,a,w0=>Region.ready .any b l=[]/\∀ w,Ext w0 w->Q .normal a w
  | f+1,l,a,w0=>(Region.ready .any b l=[]->∀ w,Ext w0 w->Q .normal a w)/\∀ i∈Region.ready .any b l,aPs P b Q c i (Gl P b Q c f (l.setIfInBounds i true)) a w0
theorem Gm:∀(f:Nat) (l:Array Bool) (a:Act) (g:World),Gl P ops Q a_ f l a g->∀ w,Ext g w->wpAny P .any ops Q f l a w
  | 0,_,_,_,h,w,hw=>⟨h.1,h.2 w hw⟩
  | f+1,l,a,g,h,w,hw=>⟨λj=>h.1 j w hw,λi k=>by
      obtain⟨o,p,c⟩:=h.2 i k;rcases c with⟨_,v,I,b⟩|⟨_,c⟩
      · unfold wpOp
        simp only[p];rcases I with⟨d,I⟩|⟨d,rfl⟩
        · rw[bap d]
          refine .inl ?_;have I:=I w hw;unfold Oper.wp;generalize (execOp a.eval o).run P w=r at *
          cases r with
          | ok n w' =>
            cases n<;>simp only[CX]at I<;>simp only[Oper.upon]
            case value u=>obtain⟨rfl,rfl⟩:=I;exact Gm f _ _ _ b _ hw
            case skip=>obtain⟨rfl,rfl⟩:=I;exact Gm f _ _ _ b _ hw
            case enter z args=>obtain⟨rfl,q⟩:=I;exact q.mono λe A ⟨s,t⟩=>by subst s;exact Gm f _ _ _ b _ (hw.O t)
          | halt x w'=>simp only[CX]at I
        · rw[ban (by rw[d];decide)]
          exact Gm f _ _ _ b _ hw
      · exact bcR (λy w' m=>Gm f _ _ _ m.2 _ (Ext.U w')) (c w hw)⟩
theorem agt{aQ:Act->Prop}{j:Nat}{i:Option Tmp}{g:Oper}{v:Value}(A:ops[j]? =some g)(p:∀ d,i=some d->d∉g.looksAt ops)(l:∀ d,i=some d->g.dst≠some d)
    (q:∀ cs b,g.op≠ .select cs b)(z:∀ c a w,¬Q (.panic c) a w)(m:∀ a u,aQ a->aQ (a.put g.dst u))(C:∀ a d,aQ a->aQ {a with defers:=d::a.defers})
    {K:Act->World->Prop}{a:Act}{w:World}(k:aQ a)(h:wpOp P ops Q j K (a.put i v) w):wpOp P ops Q j (λs w'=>aQ s/\K (s.put i v) w') a w:=by
  unfold wpOp at *
  simp only[A]at *
  rw[bdB g a i v p]at h;by_cases y:Region.wanted g (yielded ops a.tmps)=true
  · rw[bap y]at h ⊢
    rcases h with h|⟨t,B⟩
    case inr=>exact .inr ⟨by unfold Oper.asks at *;rw[bdk g q a i v p]at t;exact t,B⟩
    refine .inl ?_;unfold Oper.wp at *
    rw[bdk g q a i v p]at h;generalize (execOp a.eval g).run P w=r at *
    cases r with
    | ok n w' =>
      cases n<;>simp only[Oper.upon]at h ⊢
      case value u=>exact⟨m a u k,by rw[<-bcB a v u l];exact h⟩
      case skip=>exact⟨m a _ k,by rw[<-bcB a v undef l];exact h⟩
      case defer d =>
        refine⟨m _ _ (C a d k),?_⟩;rw[<-bcB _ v undef l,<-Act.put_defers];exact h
      case enter f args =>
        refine beC h λe D o=>?_;cases e with
        | returned u=>exact⟨m a u k,by rw[<-bcB a v u l];exact o⟩
        | panicked c=>exact(z _ _ _ o).elim
        | outgrown=>exact o
      case row row args=>exact Rows.mono h λu D o=>⟨m a u k,by rw[<-bcB a v u l];exact o⟩
    | halt x w' =>
      cases x<;>simp only[Oper.upon]at h ⊢
      case panic u=>exact(z _ _ _ h).elim
  · rw[ban y]at h ⊢
    exact⟨m a _ k,by rw[<-bcB a v undef l];exact h⟩
theorem UO{i:Nat}{m:Oper}{v:Value}(O:ops[i]? =some m)(r:a_ i<=1)(p':∀(j:Nat) (o:Oper) cs b,ops[j]? =some o->o.op≠ .select cs b)
    (j3:∀ c a w,¬Q (.panic c) a w)(aQ:World->Act->Prop)(n3:∀ g a,aQ g a->xi P ops g m v a)
    (z2:∀ g a C,aQ g a->execOp C.eval m=execOp a.eval m->Region.wanted m (yielded ops C.tmps)=Region.wanted m (yielded ops a.tmps)->aQ g C)
    (z3:∀ g t a,Ext g t->aQ g a->aQ t a)(R:Nat->Bool)(M:Array Bool)
    (hR:∀ j x,ops[j]? =some x->j≠i->(∀ e∈x.after,Region.binds .any e=true->R e.on=true)->R j=true)
    (E:(∀ g t a,aQ g a->aQ t a)\/∀ j,R j=true->3<=a_ j->M.getD j true=true):
    ∀(f:Nat) (l:Array Bool) (a:Act) (g:World),(∀ j,l.getD j false=true->R j=true)->(∀ j,M.getD j true=true->l.getD j true=true)->
      (∀ j x,ops[j]? =some x->j≠i->l.getD j true=false->(∀ e∈x.after,Region.binds .any e=true->e.on≠i)->m.apart ops x=true)->
      i∈Region.ready .any ops l->aQ g a->Gl P ops Q a_ f (l.setIfInBounds i true) (a.put m.dst v) g->Gl P ops Q a_ (f+1) l a g:=by
  intro f;induction f with
  | zero =>
    intro l a g _ _ _ A s H;refine⟨λh=>(by rw[h]at A;cases A),λj G=>?_⟩;by_cases p:j=i
    · subst p;exact⟨m,O,.inl ⟨r,v,n3 _ _ s,H⟩⟩
    · have:=bc5 G p
      rw[H.1]at this;cases this
  | succ f b0 =>
    intro l a g Ha G_ W A s H;refine⟨λh=>(by rw[h]at A;cases A),λj G=>?_⟩;by_cases p:j=i
    · subst p;exact⟨m,O,.inl ⟨r,v,n3 _ _ s,H⟩⟩
    · obtain⟨x,B,q⟩:=H.2 j (bc5 G p)
      obtain⟨K,n,Hi,eA⟩:=bei.1 G;obtain rfl:n=x:=by rw[B]at Hi;exact(bae Hi).symm
      have QG:∀ e∈n.after,Region.binds .any e=true->e.on≠i:=λe T N aa=>by
        have q:=eA e T N;have aN:=(bei.1 A).1;rw[aa]at q;rcases ba2 i l.size with z|z
        · simp[z]at aN q;rw[aN]at q;cases q
        · simp[bbj z]at q
      have Qd:=W j n B p K QG;obtain⟨S,a2,a3⟩:=be1 Qd;have QU:∀ cs b,m.op≠ .select cs b:=λcs b=>p' i m cs b O;have U:∀ cs b,n.op≠ .select cs b:=λcs b=>p' j n cs b B;have be:∀ t a u,aQ t a->aQ t (a.put n.dst u):=λt a u s=>z2 _ _ _ s (bdk m QU a n.dst u a3) (bdB m a n.dst u a3);have Y:R j=true:=hR j n B p λe T N=>Ha _ (eA e T N);have Hb:∀ k,(l.setIfInBounds j true).getD k false=true->R k=true:=λk r=>by
        by_cases y:j=k
        · rw[<-y];exact Y
        · rw[bcM false y]at r;exact Ha k r
      have V:∀ k,M.getD k true=true->(l.setIfInBounds j true).getD k true=true:=λk r=>by
        by_cases y:j=k
        · subst y
          rcases ba2 j l.size with z|z
          · simp[z]
          · simp[bbj z]
        · rw[bcM true y];exact G_ k r
      have X:∀ k F,ops[k]? =some F->k≠i->(l.setIfInBounds j true).getD k true=false->
          (∀ e∈F.after,Region.binds .any e=true->e.on≠i)->m.apart ops F=true:=λk F r sm Ho iy=>by
        refine W k F r sm ?_ iy;by_cases y:j=k
        · subst y;exact K
        · rw[bcM true y]at Ho;exact Ho
      have Hn:=bc5 A (bdg p);rcases q with⟨L,u,I,hK⟩|⟨L,q⟩
      · refine⟨n,B,.inl ⟨L,u,I.of_same (bdk n U a m.dst v S).symm (bdB n a m.dst v S).symm,?_⟩⟩
        refine b0 _ _ _ Hb V X Hn (be _ _ _ s) ?_;rw[bbX _ _ p,<-bcB a v u a2];exact hK
      · refine⟨n,B,.inr ⟨L,λw hw=>?_⟩⟩
        refine bcR (λC w' D=>⟨D.2.1,?_⟩) (agt (aQ:=aQ g) B S a2 U j3 (be g) (λa d s=>z2 _ _ _ s Z Z) s (q w hw));have QW:aQ w' C:=by
          rcases ba2 (a_ j) 3 with bW|uG
          · exact z3 _ _ _ (D.2.1 GE) D.1
          · rcases E with E|E
            · exact E _ _ _ D.1
            · have:=G_ j (E j Y uG);rw[K]at this;cases this
        refine b0 _ _ _ Hb V X Hn QW ?_;rw[bbX _ _ p];exact D.2.2
def x_(P:Program)(c:Array Oper)(Q:Exit->Act->World->Prop)(b:Nat->Nat):List Nat->Act->World->Prop
  | [],a,w0=>∀ w,Ext w0 w->Q .normal a w
  | i::r,a,w0=>∃ o,c[i]? =some o/\
      ((b i=0/\∃ v,xi P c w0 o v a/\x_ P c Q b r (a.put o.dst v) w0)\/
       (b i=1/\∃ v,Yields P c o v a/\x_ P c Q b r (a.put o.dst v) w0)\/
       (1<b i/\∀ w,Ext w0 w->wpOp P c Q i (λd w'=>(b i=2->Ext w0 w')/\x_ P c Q b r d w') a w))
def afz(b:Array Oper)(i:Nat):Array Bool :=
  b.foldl (init:=#[]) λa o=>a.push (a.size != i && o.after.all λe=> !Region.binds .any e || a.getD e.on false)
def TY(a:Array Oper)(b:Nat->Nat)(l:Array Bool)(i:Nat):Bool :=
  (List.range a.size).all (λj=>l.getD j true || Nat.blt (b j) 3) ||
  (let R:=afz a i
   (List.range a.size).all λj=>(j == i || R.getD j false || !((a[j]?).map (·.after.all λe=> !Region.binds .any e || R.getD e.on false)).getD false) && (!l.getD j false || R.getD j false) && (!R.getD j false || Nat.blt (b j) 3 || l.getD j true))
def l1(a:Array Oper)(b:Nat->Nat):List Nat->Array Bool->Bool
  | [],l=>(Region.ready .any a l).isEmpty
  | i::r,l=>(match b i with
      | 0=>Region.free .any a l i && (Region.ready .any a l).contains i && TY a b l i
      | 1=>Region.free .any a l i && (Region.ready .any a l).contains i
      | _=>Region.ready .any a l == [i]) && l1 a b r (l.setIfInBounds i true)
theorem TZ{l:Array Bool}{i:Nat}(r:l.size=ops.size)(h:TY ops a_ l i=true):∃ R:Nat->Bool,
    (∀ j c,ops[j]? =some c->j≠i->(∀ e∈c.after,Region.binds .any e=true->R e.on=true)->R j=true)/\
    (∀ j,l.getD j false=true->R j=true)/\(∀ j,R j=true->3<=a_ j->l.getD j true=true):=by
  unfold TY at h;have g:∀ j,¬j<ops.size->l.getD j true=true:=λj a=>by simp[bbj (by omega:l.size<=j)]
  rw[baY]at h;rcases h with h|h
  · refine⟨λ_=>true,λ_ _ _ _ _=>rfl,λ_ _=>rfl,λj _ m=>?_⟩
    by_cases a:j<ops.size
    · have:=ba8.1 h j (baW.2 a)
      rw[baY]at this;rcases this with h|h
      · exact h
      · rw[bej]at h;omega
    · exact g j a
  · refine⟨λj=>(afz ops i).getD j false,λj c f q o=>?_,λj a=>?_,λj a m=>?_⟩
    · have b:=(baU.1 f).1
      have:=ba8.1 h j (baW.2 b);simp only[f,bbR,bbq,bai,baY,ba9,q,false_or,ba3]at this;rcases this.1.1 with h|h
      · exact h
      · have n:c.after.all (λe=> !Region.binds .any e || (afz ops i).getD e.on false)=true:=by
          rw[Array.all_eq_true_iff_forall_mem];intro e p;cases k:Region.binds .any e
          · rfl
          · have:=o e p k;simp only at this;simp[this]
        rw[n]at h;cases h
    · have b:j<ops.size:=by
        rcases ba2 j l.size with d|d
        · omega
        · simp[bbj d]at a
      have:=ba8.1 h j (baW.2 b);simp only[bai,baY,ba3]at this;rcases this.1.2 with h|h
      · rw[h]at a;cases a
      · exact h
    · by_cases b:j<ops.size
      · have:=ba8.1 h j (baW.2 b)
        simp only[bai,baY,ba3]at this;rcases this.2 with(h|h)|h
        · simp only at a;rw[h]at a;cases a
        · (rw[bej]at h;omega)
        · exact h
      · exact g j b
theorem IP(p:Region.noSelect ops=true)(n:∀ c a w,¬Q (.panic c) a w):∀(r:List Nat) (l:Array Bool) (a:Act) (e:World),l.size=ops.size->l1 ops a_ r l=true->x_ P ops Q a_ r a e->Gl P ops Q a_ r.length l a e
  | [],l,a,e,_,b,h=>⟨by simpa[l1]using b,h⟩
  | i::r,l,a,e,az,b,h=>by
    obtain⟨o,g,h⟩:=h;have z:=bdo p;rcases h with⟨f,v,I,q⟩|⟨f,v,I,q⟩|⟨f,h⟩
    · simp only[l1,f,bai]at b
      obtain⟨⟨⟨t,d⟩,B⟩,b⟩:=b;obtain⟨R,E,F,A⟩:=TZ az B;exact UO g GE z n (λe a=>xi P ops e o v a) (λ_ _ h=>h) (λ_ _ _ h s m=>h.of_same s m) (λ_ _ _ D h=>h.on D) R l E (.inr A) _ _ _ _ F (λ_ h=>h) (bcb g t) (by simpa using d) I
        (IP p n r _ _ _ (by simpa using az) b q)
    · simp only[l1,f,bai]at b
      obtain⟨⟨t,d⟩,b⟩:=b;exact UO g GE z n (λ_ a=>Yields P ops o v a) (λ_ _ h=>Yields.arU h) (λ_ _ _ h s m=>h.of_same s m) (λ_ _ _ _ h=>h) (λ_=>true) l (λ_ _ _ _ _=>Z) (.inl λ_ _ _ h=>h) _ _ _ _ (λ_ _=>Z) (λ_ h=>h) (bcb g t) (by simpa using d) I
        (IP p n r _ _ _ (by simpa using az) b q)
    · obtain⟨k,C⟩:∃ k,a_ i=k+2:=⟨a_ i-2,GE⟩
      simp only[l1,C,bai,ba9]at b;obtain⟨d,b⟩:=b;refine⟨λx=>(by rw[d]at x;cases x),λj u=>?_⟩;rw[d]at u;obtain rfl:j=i:=by simpa using u
      exact⟨o,g,.inr ⟨f,λw m=>bcR (λG w' y=>⟨y.1,IP p n r _ _ _ (by simpa using az) b y.2⟩) (h w m)⟩⟩
def i_(K:Act->World->Prop):Exit->Act->World->Prop
  | .normal,a,w=>K a w
  | _,_,_=>False
theorem aNO{i:Nat}{a:Act}{w:World}(c:List Nat)(f:P.follows .mixedOrders=true)(b:(Region.noSelect ops && (c.length == ops.size) && l1 ops a_ c (Array.replicate ops.size false))=true)
    (h:x_ P ops (i_ (Q .normal)) a_ c a w):(Code.region i ops true).wp P Q a w:=by
  simp only[bai,ba9]at b;obtain⟨⟨g,d⟩,b⟩:=b;refine bft (bep f (Q:=i_ (Q .normal)) ?_) (λe a w I=>by cases e<;>first|exact I|exact I.elim);have:=IP (P:=P) g (Q:=i_ (Q .normal)) (λ_ _ _ h=>h) c (Array.replicate ops.size false) a w Kx b h;rw[d]at this;exact Gm _ _ _ _ this _ (baL _ w).drew
end
end Go.Proofs.YtooonebcoaleiaaGreat
