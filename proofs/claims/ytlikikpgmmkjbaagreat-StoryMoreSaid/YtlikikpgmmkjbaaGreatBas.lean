import Derived.WalkKit
import Derived.Lib.Hide
import Derived.WalkSpells
import Derived.WalkLawsBesides
import Derived.Deep.QuietTactic
import Derived.Deep.DeepFit
import Derived.BigQuiet
import Derived.BigRegion
import Derived.Deep.RegionHeld3
import Derived.Laws.CopyOwn
import Derived.LoopN
import Derived.Laws.IdiomStrings
import Derived.Lib.Strings
import Derived.Deep.AppendLies
import Derived.Maps.AppendAt
import Derived.OwnWalk
import Derived.Shelf.SlicesE.Clone
import Derived.Deep.Slices
import Derived.Deep.Fields
import Derived.ChangeSame
import Derived.SizedLaws
import Derived.OpenShut
import Derived.WideKeyEntry
import Derived.Maps.Keyed
import Derived.DeepKeys4
import Derived.Handy
import Derived.Deep.RegionLaw
import Derived.Orders
import Derived.Still
set_option linter.unusedVariables false
set_option linter.unusedSimpArgs false
set_option maxRecDepth 100000
set_option maxHeartbeats 4000000
namespace Go.Proofs.YtlikikpgmmkjbaaGreat
end Go.Proofs.YtlikikpgmmkjbaaGreat
namespace Go.Proofs.YtlikikpgmmkjbaaGreat.Bv
open Go.RowKit
def U {n:Nat} (b:BitVec n):Int:=(b.toNat:Int)

theorem U_nonneg {n:Nat} (b:BitVec n):0≤U b:=Int.natCast_nonneg _
theorem U32_lt (b:BitVec 32):U b<4294967296:=by have:=b.isLt;unfold U;omega
theorem U64_lt (b:BitVec 64):U b<18446744073709551616:=by have:=b.isLt;unfold U;omega
theorem U32_le (b:BitVec 32):U b≤4294967295:=by have:=b.isLt;unfold U;omega
theorem of_U {n:Nat} (b:BitVec n):BitVec.ofInt n (U b)=b:=by
  unfold U;rw [BitVec.ofInt_natCast,BitVec.ofNat_toNat,BitVec.setWidth_eq]
theorem U_of32 (x:Int) (h0:0≤x) (h1:x<4294967296):U (BitVec.ofInt 32 x)=x:=by
  obtain ⟨m,rfl⟩:=Int.eq_ofNat_of_zero_le h0
  unfold U;rw [BitVec.ofInt_natCast,BitVec.toNat_ofNat];omega
theorem U_of64 (x:Int) (h0:0≤x) (h1:x<18446744073709551616):U (BitVec.ofInt 64 x)=x:=by
  obtain ⟨m,rfl⟩:=Int.eq_ofNat_of_zero_le h0
  unfold U;rw [BitVec.ofInt_natCast,BitVec.toNat_ofNat];omega
theorem U_inj {n:Nat} {a b:BitVec n} (h:U a=U b):a=b:=by
  unfold U at h;exact BitVec.eq_of_toNat_eq (by omega)
theorem eq32 {x:Int} {b:BitVec 32} (h0:0≤x) (h1:x<4294967296) (h:BitVec.ofInt 32 x=b):x=U b:=by
  rw [← h,U_of32 x h0 h1]
theorem eq64 {x:Int} {b:BitVec 64} (h0:0≤x) (h1:x<18446744073709551616) (h:BitVec.ofInt 64 x=b):x=U b:=by
  rw [← h,U_of64 x h0 h1]
theorem bits_u_range (k:IntKind) (op:BinOp) (a b:Int) (hs:k.signed=false):0≤bits op k a b∧bits op k a b<2 ^ k.bits:=by
  have hp:(0:Int)<2 ^ k.bits:=Int.pow_pos (by decide)
  have key:∀ n:Int,0≤k.wrap n∧k.wrap n<2 ^ k.bits:=by
    intro n
    simp only [IntKind.wrap,hs,Bool.false_and,Bool.false_eq_true,if_false]
    exact ⟨Int.emod_nonneg _ (by omega),Int.emod_lt_of_pos _ hp⟩
  unfold bits
  exact key _
theorem bits32_nonneg (op:BinOp) (a b:Int):0≤bits op .u32 a b:=(bits_u_range .u32 op a b rfl).1
theorem bits32_lt (op:BinOp) (a b:Int):bits op .u32 a b<4294967296:=(bits_u_range .u32 op a b rfl).2
theorem bits64_nonneg (op:BinOp) (a b:Int):0≤bits op .u64 a b:=(bits_u_range .u64 op a b rfl).1
theorem bits64_lt (op:BinOp) (a b:Int):bits op .u64 a b<18446744073709551616:=(bits_u_range .u64 op a b rfl).2
theorem ofInt_wrap (k:IntKind) (n:Int):BitVec.ofInt k.bits (k.wrap n)=BitVec.ofInt k.bits n:=by
  apply BitVec.eq_of_toInt_eq
  simp only [BitVec.toInt_ofInt]
  have h:(k.wrap n) % (2 ^ k.bits:Int)=n % (2 ^ k.bits:Int):=by
    unfold IntKind.wrap
    dsimp only
    split
    · rw [Int.sub_emod,Int.emod_self,Int.sub_zero,Int.emod_emod_of_dvd _ (Int.dvd_refl _),Int.emod_emod_of_dvd _ (Int.dvd_refl _)]
    · rw [Int.emod_emod_of_dvd _ (Int.dvd_refl _)]
  have e:((2 ^ k.bits:Nat):Int)=(2:Int) ^ k.bits:=by simp
  simp only [Int.bmod,e,h]

theorem of_emod32 (n:Int):BitVec.ofInt 32 (n % 4294967296)=BitVec.ofInt 32 n:=by
  have:=ofInt_wrap .u32 n;rw [IntKind.wrap_u32] at this;exact this
theorem of_wrap64 (n:Int):BitVec.ofInt 64 (IntKind.u64.wrap n)=BitVec.ofInt 64 n:=ofInt_wrap .u64 n
theorem of_xor (k:IntKind) (a b:Int):BitVec.ofInt k.bits (bits .xor k a b)=BitVec.ofInt k.bits a ^^^ BitVec.ofInt k.bits b:=by
  unfold bits;rw [ofInt_wrap,BitVec.ofInt_natCast];dsimp only;rw [BitVec.ofNat_toNat,BitVec.setWidth_eq]
theorem of_and (k:IntKind) (a b:Int):BitVec.ofInt k.bits (bits .and k a b)=BitVec.ofInt k.bits a &&& BitVec.ofInt k.bits b:=by
  unfold bits;rw [ofInt_wrap,BitVec.ofInt_natCast];dsimp only;rw [BitVec.ofNat_toNat,BitVec.setWidth_eq]
theorem of_or (k:IntKind) (a b:Int):BitVec.ofInt k.bits (bits .or k a b)=BitVec.ofInt k.bits a ||| BitVec.ofInt k.bits b:=by
  unfold bits;rw [ofInt_wrap,BitVec.ofInt_natCast];dsimp only;rw [BitVec.ofNat_toNat,BitVec.setWidth_eq]
theorem of_xor32 (a b:Int):BitVec.ofInt 32 (bits .xor .u32 a b)=BitVec.ofInt 32 a ^^^ BitVec.ofInt 32 b:=of_xor .u32 a b
theorem of_and32 (a b:Int):BitVec.ofInt 32 (bits .and .u32 a b)=BitVec.ofInt 32 a &&& BitVec.ofInt 32 b:=of_and .u32 a b
theorem of_xor64 (a b:Int):BitVec.ofInt 64 (bits .xor .u64 a b)=BitVec.ofInt 64 a ^^^ BitVec.ofInt 64 b:=of_xor .u64 a b
theorem of_or64 (a b:Int):BitVec.ofInt 64 (bits .or .u64 a b)=BitVec.ofInt 64 a ||| BitVec.ofInt 64 b:=of_or .u64 a b
theorem of_xori64 (a b:Int):BitVec.ofInt 64 (bits .xor .i64 a b)=BitVec.ofInt 64 a ^^^ BitVec.ofInt 64 b:=of_xor .i64 a b
theorem of_shr {n:Nat} (x:Int) (s:Nat) (h0:0≤x) (h1:x<2 ^ n):BitVec.ofInt n (x / 2 ^ s)=BitVec.ofInt n x >>> s:=by
  obtain ⟨m,rfl⟩:=Int.eq_ofNat_of_zero_le h0
  have h1':m<2 ^ n:=by exact_mod_cast h1
  have e:((m:Int) / 2 ^ s)=((m / 2 ^ s:Nat):Int):=by rw [Int.natCast_ediv];simp
  rw [e,BitVec.ofInt_natCast,BitVec.ofInt_natCast]
  apply BitVec.eq_of_toNat_eq
  rw [BitVec.toNat_ushiftRight,BitVec.toNat_ofNat,BitVec.toNat_ofNat,Nat.mod_eq_of_lt h1',Nat.shiftRight_eq_div_pow]
  exact Nat.mod_eq_of_lt (Nat.lt_of_le_of_lt (Nat.div_le_self _ _) h1')

theorem of_add {n:Nat} (a b:Int):BitVec.ofInt n (a+b)=BitVec.ofInt n a+BitVec.ofInt n b:=BitVec.ofInt_add ..
theorem of_mul {n:Nat} (a b:Int):BitVec.ofInt n (a * b)=BitVec.ofInt n a * BitVec.ofInt n b:=BitVec.ofInt_mul ..
theorem of_neg {n:Nat} (a:Int):BitVec.ofInt n (-a)= -BitVec.ofInt n a:=BitVec.ofInt_neg ..
end Go.Proofs.YtlikikpgmmkjbaaGreat.Bv
open Go.RowKit
namespace Go.Proofs.YtlikikpgmmkjbaaGreat
def IsRow (k:IntKind) (w:World) (a:Option Addr) (len cap:Nat) (zs:List Int):Prop :=
  (a=none∧len=0∧cap=0∧zs= [])∨
  ∃ x,a=some x∧len≤cap∧cap≤maxLen∧zs.length=cap∧(∀ i,i<zs.length→w.cell? (x.add i)=some (.int k (zs.getD i 0)))∧∀ n∈zs,(Lit.int k n).wf=true
theorem add0 (b j:Nat):(⟨b,0,none⟩:Addr).add j=⟨b,j,none⟩:=by
  unfold Addr.add
  split<;>simp_all
theorem bytes_ext {a b:ByteArray} (h:a.data.toList=b.data.toList):a=b:=ByteArray.ext (Array.toList_inj.1 h)
theorem bytes_eq (a b:ByteArray):(a.toList == b.toList)=decide (a=b):=by
  rw [ByteArray.toList_eq,ByteArray.toList_eq]
  by_cases h:a=b
  · subst h;simp
  · have h1:¬ a.data=b.data:=fun e=>h (ByteArray.ext e)
    simp [h,h1]
theorem bytes_true {a b:ByteArray} (h:a=b):(a.toList == b.toList)=true:=by rw [bytes_eq];simp [h]
theorem bytes_false {a b:ByteArray} (h:¬ a=b):(a.toList == b.toList)=false:=by rw [bytes_eq];simp [h]
theorem ret_true {a:Bool} (h:a=true):Ending.returned (.bool a)= .returned (.bool true):=by rw [h]
theorem addAt (b off j:Nat):(⟨b,off,none⟩:Addr).add j=⟨b,off+j,none⟩:=by
  unfold Addr.add
  split<;>simp_all
theorem ownsRow_later {w w':World} {base:Nat} {e:TypeId} {size:Nat} {v:Value} {n:Nat} {xs:List Value} (h:w.ownsRow base e size v n xs) (hb:Below w.heap.size w w'):w'.ownsRow base e size v n xs:=by
  obtain ⟨h1,h2⟩:=h
  refine ⟨h1, ?_⟩
  rcases h2 with h2 | ⟨g,cap,cur,hv,hg,hh,r⟩
  · exact .inl h2
  · exact .inr ⟨g,cap,cur,hv,hg,by rw [hb.block g (Array.getElem?_eq_some_iff.1 hh).1];exact hh,r⟩
theorem cell_later {w w':World} (hb:Below w.heap.size w w') {a:Addr} {v:Value} (h:w.cell? a=some v):w'.cell? a=some v:=by
  rw [hb.cell (World.block_lt_of_cell? w a h)];exact h
theorem cell_below {B:Nat} {w w':World} (hb:Below B w w') {a:Addr} {v:Value} (h:w.cell? a=some v) (ha:a.block<B):w'.cell? a=some v:=by
  rw [hb.cell ha];exact h
def Blk (w:World) (g:Nat) (cur:List Value) (e:TypeId) (fr:Nat×Nat):Prop:=w.heap[g]? =some (.cells cur.toArray e fr)
theorem Blk.lt {w:World} {g:Nat} {cur:List Value} {e:TypeId} {fr:Nat×Nat} (h:Blk w g cur e fr):g<w.heap.size:=(Array.getElem?_eq_some_iff.1 h).1
theorem Blk.cell {w:World} {g:Nat} {cur:List Value} {e:TypeId} {fr:Nat×Nat} (h:Blk w g cur e fr) (j:Nat):w.cell? ⟨g,j,none⟩=cur[j]? :=by
  rw [cell_of_row w g j _ e fr h];simp
theorem Blk.free {w:World} {g:Nat} {cur:List Value} {e:TypeId} {fr:Nat×Nat} (h:Blk w g cur e fr) (j:Nat) (hj:j<fr.1∨fr.2≤j):w.frozen? ⟨g,j,none⟩=false:=by
  unfold Blk at h
  obtain ⟨lo,hi⟩:=fr
  simp only [World.frozen?,h]
  simp only at hj
  simp
  omega
theorem Blk.set {w:World} {g:Nat} {cur:List Value} {e:TypeId} {fr:Nat×Nat} (h:Blk w g cur e fr) (j:Nat) (v:Value):Blk (w.setCell ⟨g,j,none⟩ v) g (cur.set j v) e fr:=by
  unfold Blk at *
  simp only [World.setCell,Array.getElem?_modify,h]
  simp
theorem Blk.later {w w':World} {g:Nat} {cur:List Value} {e:TypeId} {fr:Nat×Nat} (h:Blk w g cur e fr) (hb:Below w.heap.size w w'):Blk w' g cur e fr:=by
  have hl:=h.lt
  unfold Blk at *
  rw [hb.block g hl];exact h
theorem Blk.drew {w:World} {g:Nat} {cur:List Value} {e:TypeId} {fr:Nat×Nat} (h:Blk w g cur e fr):Blk w.drew g cur e fr:=h
theorem Blk.drewN {w:World} {g:Nat} {cur:List Value} {e:TypeId} {fr:Nat×Nat} (h:Blk w g cur e fr) (n:Nat):Blk (w.drewN n) g cur e fr:=h
theorem Blk.new (w:World) (cur:List Value) (e:TypeId) (fr:Nat×Nat):Blk (w.alloc (.cells cur.toArray e fr)) w.heap.size cur e fr:=heap_alloc_new w _
theorem Blk.setRow {w:World} {g:Nat} {cur:List Value} {e:TypeId} {fr:Nat×Nat} (h:Blk w g cur e fr) (new:List Value):Blk (w.setRow g new.toArray) g new e fr:=setRow_heap w g _ _ e fr h
theorem Blk.other {w:World} {g g':Nat} {cur:List Value} {e:TypeId} {fr:Nat×Nat} (h:Blk w g cur e fr) (hg:g≠g') (j:Nat) (v:Value):Blk (w.setCell ⟨g',j,none⟩ v) g cur e fr:=by
  unfold Blk at *
  rw [heap_setCell_other _ _ _ _ hg];exact h
theorem quiet_of {P:Program} {f:FuncId} {args:Array Value} {w:World} {n:Nat} {v:Value}
    (h:Calls P f args (w.drewN n) fun e w'=>e= .returned v∧w.drewN n=w'):Calls P f args (w.drewN n) fun e w''=>e= .returned v∧∃ m,w''=w.drewN m :=
  h.mono fun _ _ ⟨he,hm⟩=>⟨he,n,hm.symm⟩
theorem below_drewN {B:Nat} {a w:World} (h:Below B a w) (n:Nat):Below B a (w.drewN n):=⟨h.os,h.tape,h.output,h.size,h.block⟩
end Go.Proofs.YtlikikpgmmkjbaaGreat
set_option linter.unusedVariables false
set_option linter.unusedSimpArgs false
namespace Go.Proofs.YtlikikpgmmkjbaaGreat
open Go.RowKit
def Rd (w:World) (size:Nat) (A:Option Addr) (n:Nat) (xs:List Value):Prop :=
  xs.length=n * size∧(0<n→∃ b o,A=some ⟨b,o,none⟩∧∀ j u,xs[j]? =some u→w.cell? ⟨b,o+j,none⟩=some u)
theorem Rd.zero (w:World) (size:Nat) (A:Option Addr):Rd w size A 0 []:=⟨by simp,fun h=>absurd h (by decide)⟩
theorem Rd.later {w w':World} {size n:Nat} {A:Option Addr} {xs:List Value} (h:Rd w size A n xs) (hb:Below w.heap.size w w'):Rd w' size A n xs :=
  ⟨h.1,fun h0=>by
    obtain ⟨b,o,e,hc⟩:=h.2 h0
    exact ⟨b,o,e,fun j u hu=>cell_later hb (hc j u hu)⟩⟩
theorem Rd.drewN {w:World} {size n:Nat} {A:Option Addr} {xs:List Value} (h:Rd w size A n xs) (k:Nat):Rd (w.drewN k) size A n xs:=h
def Own (w:World) (base:Nat) (e:TypeId) (size:Nat) (G:Nat→Value→Prop) (v:Value) (n:Nat) (xs:List Value):Prop :=
  xs.length=n * size∧
  ((v= .slice none 0 0∧n=0)∨
   ∃ g cap cur,v= .slice (some ⟨g,0,none⟩) n cap∧base≤g∧w.heap[g]? =some (.cells cur e (0,0))∧n≤cap∧cap≤maxLen∧cur.size=cap * size∧cur.toList.take (n * size)=xs∧∀ j u,cur[j]? =some u→G (j % size) u)
section
variable {w w':World} {base e size:Nat} {G:Nat→Value→Prop} {v:Value} {n:Nat} {xs:List Value}
theorem Own.row (h:Own w base e size G v n xs):w.ownsRow base e size v n xs:=by
  obtain ⟨h1,h2⟩:=h
  refine ⟨h1, ?_⟩
  rcases h2 with h2 | ⟨g,cap,cur,a,b,c,d,e,f,i,_⟩
  · exact .inl h2
  · exact .inr ⟨g,cap,cur,a,b,c,d,e,f,i⟩
theorem Own.nil (w:World) (base e size:Nat) (G:Nat→Value→Prop):Own w base e size G (.slice none 0 0) 0 []:=⟨by simp, .inl ⟨rfl,rfl⟩⟩
theorem Own.of_block {B:Nat} (h:Own w base e size G v n xs) (hb:∀ g,v.ownBlock=some g→w'.heap[g]? =w.heap[g]?):Own w' base e size G v n xs:=by
  obtain ⟨h1,h2⟩:=h
  refine ⟨h1, ?_⟩
  rcases h2 with h2 | ⟨g,cap,cur,rfl,b,c,d⟩
  · exact .inl h2
  · exact .inr ⟨g,cap,cur,rfl,b,(hb g rfl).trans c,d⟩
theorem Own.later (h:Own w base e size G v n xs) (hb:Below w.heap.size w w'):Own w' base e size G v n xs :=
  h.of_block (B:=0) fun g hg=>hb.block g (h.row.lt g hg).2
theorem Own.drewN (h:Own w base e size G v n xs) (k:Nat):Own (w.drewN k) base e size G v n xs:=h
theorem Own.drew (h:Own w base e size G v n xs):Own w.drew base e size G v n xs:=h
theorem Own.mono (h:Own w base e size G v n xs) {base':Nat} (hb:base'≤base):Own w base' e size G v n xs:=by
  obtain ⟨h1,h2⟩:=h
  refine ⟨h1, ?_⟩
  rcases h2 with h2 | ⟨g,cap,cur,a,b,r⟩
  · exact .inl h2
  · exact .inr ⟨g,cap,cur,a,Nat.le_trans hb b,r⟩
theorem Own.rd (h:Own w base e size G v n xs) {A:Option Addr} {c:Nat} (hv:v= .slice A n c):Rd w size A n xs:=by
  obtain ⟨h1,h2⟩:=h
  refine ⟨h1,fun h0=> ?_⟩
  rcases h2 with ⟨_,h2⟩ | ⟨g,cap,cur,rfl,b,c,d,e,f,i,_⟩
  · omega
  · injection hv with hv _ _
    refine ⟨g,0,hv.symm,fun j u hu=> ?_⟩
    rw [Nat.zero_add,cell_of_row w g j cur _ (0,0) c,← Array.getElem?_toList]
    rw [← i,List.getElem?_take] at hu
    split at hu
    · exact hu
    · cases hu
theorem Own.shape (h:Own w base e size G v n xs):∃ A c,v= .slice A n c∧n≤c∧c≤maxLen∧Rd w size A n xs∧(∀ a,A=some a→base≤a.block∧a.block<w.heap.size)∧(A=none→v= .slice none 0 0):=by
  have h':=h
  obtain ⟨h1,h2⟩:=h
  rcases h2 with ⟨rfl,rfl⟩ | ⟨g,cap,cur,rfl,b,c,d,e,f,i,_⟩
  · exact ⟨none,0,rfl,Nat.le_refl _,Nat.zero_le _,h'.rd rfl,(fun a ha=>by cases ha),fun _=>rfl⟩
  · refine ⟨_,cap,rfl,d,e,h'.rd rfl,fun a ha=> ?_,fun h=>by cases h⟩
    injection ha with ha
    subst ha
    exact ⟨b,(Array.getElem?_eq_some_iff.1 c).1⟩
theorem zeroCells_good {z:Array Value} (hz:z.size=size) (hs:0<size) (hG:∀ j u,z[j]? =some u→G j u) (k:Nat):∀ j u,(Builtin.zeroCells z k)[j]? =some u→G (j % size) u:=by
  intro j u hu
  unfold Builtin.zeroCells at hu
  subst hz
  have hj:=(Array.getElem?_eq_some_iff.1 hu).1
  simp at hj
  have hlt:j % z.size<z.size:=Nat.mod_lt _ hs
  rw [Array.getElem?_map,Array.getElem?_range,if_pos hj] at hu
  simp only [Option.map_some,Option.some.injEq] at hu
  refine hG _ u ?_
  rw [← hu]
  simp [hlt]
theorem Own.stored {g c:Nat} (h:Own w base e size G (.slice (some ⟨g,0,none⟩) n c) n xs) (j:Nat) (u:Value) (hu:G (j % size) u):
    Own (w.setCell ⟨g,j,none⟩ u) base e size G (.slice (some ⟨g,0,none⟩) n c) n (xs.set j u):=by
  obtain ⟨h1,h2⟩:=h
  refine ⟨by rw [List.length_set];exact h1, ?_⟩
  rcases h2 with ⟨h2,_⟩ | ⟨g',cap,cur,hv,b,hh,d,hm,hs,ht,hG⟩
  · cases h2
  · injection hv with hv _ hc
    injection hv with hv
    injection hv with hv
    subst hv;subst hc
    refine .inr ⟨g,c,cur.setIfInBounds j u,rfl,b, ?_,d,hm,by simp [hs], ?_, ?_⟩
    · simp only [World.setCell,Array.getElem?_modify,hh]
      simp
    · rw [← ht]
      simp only [Array.toList_setIfInBounds]
      rw [List.take_set]
    · intro i v hv
      by_cases hij:j=i
      · subst hij
        have hlt:j<cur.size:=by
          have:=(Array.getElem?_eq_some_iff.1 hv).1
          simpa using this
        rw [Array.getElem?_setIfInBounds_self_of_lt hlt] at hv
        obtain rfl:=Option.some.inj hv
        exact hu
      · rw [Array.getElem?_setIfInBounds_ne hij] at hv
        exact hG i v hv
theorem Own.cell {g c:Nat} (h:Own w base e size G (.slice (some ⟨g,0,none⟩) n c) n xs) (j:Nat) (hj:j<n * size):w.cell? ⟨g,j,none⟩=xs[j]? :=h.row.cellAt j hj
theorem Own.free {g c:Nat} (h:Own w base e size G (.slice (some ⟨g,0,none⟩) n c) n xs) (j:Nat):w.frozen? ⟨g,j,none⟩=false:=h.row.frozenAt j
theorem Own.lit (w:World) (cs:Array Value) (n:Nat) (hb:base≤w.heap.size) (hm:n≤maxLen) (hs:cs.size=n * size) (hG:∀ j u,cs[j]? =some u→G (j % size) u):
    Own (w.alloc (.cells cs e)) base e size G (.slice (some ⟨w.heap.size,0,none⟩) n n) n cs.toList :=
  ⟨by simpa using hs, .inr ⟨w.heap.size,n,cs,rfl,hb,heap_alloc_new w _,Nat.le_refl _,hm,hs,List.take_of_length_le (by simp [hs]),hG⟩⟩
theorem Own.empty (w:World) (hb:base≤w.heap.size):Own (w.alloc (.cells #[] e)) base e size G (.slice (some ⟨w.heap.size,0,none⟩) 0 0) 0 [] :=
  Own.lit w #[] 0 hb (Nat.zero_le _) (by simp) (fun j u h=>by simp at h)
end
section
variable {P:Program} (w:World)
theorem run_append_all (base:Nat) (t ty e:TypeId) (i:TypeInfo) (z:Value) (size bytes:Nat) (ht:P.underlying t=some (.slice e)) (hi:P.info? e=some i) (hz:i.zero=some z)
    (hsize:i.size=size) (hby:i.bytes=bytes) (hzs:z.cells.size=size) (hsz:0<size) (G:Nat→Value→Prop) (hzG:∀ j u,z.cells[j]? =some u→G j u)
    (v:Value) (n:Nat) (xs:List Value) (hown:Own w base e size G v n xs)
    (A:Option Addr) (m c:Nat) (news:List Value) (hr:Rd w size A m news) (h1:∀ u∈news,u.oneCell'=true) (hnG:∀ j u,news[j]? =some u→G (j % size) u)
    (h63:n+m≤maxLen) (hbytes:(n+m) * bytes≤140737488355328) (hbase:base≤w.heap.size):
    ∃ v' w',(Builtin.append_ #[t,t] ty #[v, .slice A m c]).run P w= .ok v' w'∧Own w' base e size G v' (n+m) (xs++news)∧w.grownBy w' v.ownBlock∧
      (v'= .slice none 0 0↔v= .slice none 0 0∧m=0)∧(v'.ownBlock=v.ownBlock∨v'.ownBlock=some w.heap.size):=by
  subst hsize
  subst hby
  have hsmall:n+m≤9223372036854775807:=by simp only [maxLen] at h63;omega
  have hl:news.length=m * i.size:=hr.1
  have hxl:xs.length=n * i.size:=hown.1
  have hlen:(xs++news).length=(n+m) * i.size:=by rw [List.length_append,hxl,hl,Nat.add_mul]
  have hboth:(∀ j u,xs[j]? =some u→G (j % i.size) u)→∀ j u,(xs++news)[j]? =some u→G (j % i.size) u:=by
    intro hx j u hu
    by_cases hj:j<xs.length
    · rw [List.getElem?_append_left hj] at hu;exact hx j u hu
    · rw [List.getElem?_append_right (by omega)] at hu
      have:=hnG _ u hu
      rw [hxl] at this hj
      have e:j % i.size=(j - n * i.size) % i.size:=by
        conv=>lhs;rw [show j=n * i.size+(j - n * i.size) from by omega]
        rw [Nat.mul_comm n,Nat.mul_add_mod]
      rw [e];exact this
  -- what the growing arm leaves, whatever was there before
  have grown:(∀ j u,xs[j]? =some u→G (j % i.size) u)→∀ (old:Nat),old<n+m→∀ (row:Option Nat),
      Own (w.drew.alloc (.cells (xs.toArray++news.toArray++Builtin.zeroCells z.cells (grownCap w (n+m) old e - (n+m))) e)) base e i.size G
        (.slice (some ⟨w.heap.size,0,none⟩) (n+m) (grownCap w (n+m) old e)) (n+m) (xs++news)∧
      w.grownBy (w.drew.alloc (.cells (xs.toArray++news.toArray++Builtin.zeroCells z.cells (grownCap w (n+m) old e - (n+m))) e)) row:=by
    intro hxG old ho row
    have hge:=grownCap_ge w (n+m) old e
    have hcm:grownCap w (n+m) old e≤maxLen:=grownCap_le_maxLen w (n+m) old e h63
    refine ⟨⟨hlen, .inr ⟨w.heap.size,_,_,rfl,hbase,heap_alloc_new w.drew _,hge,hcm, ?_, ?_, ?_⟩⟩,⟨rfl,rfl,rfl,by simp,fun k hk _=>heap_alloc_old w.drew _ hk⟩⟩
    · simp only [Array.size_append,List.size_toArray,size_zeroCells,hzs,hxl,hl,← Nat.add_mul]
      congr 1
      omega
    · simp only [Array.toList_append,List.append_assoc]
      rw [← List.append_assoc,← hlen]
      exact List.take_left
    · intro j u hu
      rw [← Array.getElem?_toList] at hu
      simp only [Array.toList_append] at hu
      by_cases hj:j<(xs++news).length
      · rw [List.getElem?_append_left hj] at hu;exact hboth hxG j u hu
      · rw [List.getElem?_append_right (by simpa using hj)] at hu
        rw [Array.getElem?_toList] at hu
        have:=zeroCells_good hzs hsz hzG _ _ u hu
        have hl2:(xs.toArray.toList++news.toArray.toList).length=(n+m) * i.size:=hlen
        rw [hl2] at this
        rw [hlen] at hj
        have e:j % i.size=(j - (n+m) * i.size) % i.size:=by
          conv=>lhs;rw [show j=(n+m) * i.size+(j - (n+m) * i.size) from by omega]
          rw [Nat.mul_comm (n+m),Nat.mul_add_mod]
        rw [e];exact this
  have hsrc:A=none∨∃ a,A=some a:=by cases A with | none=>exact .inl rfl | some a=>exact .inr ⟨a,rfl⟩
  rcases hsrc with rfl | ⟨ad,rfl⟩
  · have hm:m=0:=by
      rcases Nat.eq_zero_or_pos m with h0 | h0
      · exact h0
      · obtain ⟨b,o,h,_⟩:=hr.2 h0
        cases h
    subst hm
    have hn:news= []:=List.eq_nil_of_length_eq_zero (by simpa using hl)
    subst hn
    refine ⟨v,w, ?_,by simpa using hown,World.grownBy.refl w _,by simp, .inl rfl⟩
    rcases hown.2 with ⟨rfl,rfl⟩ | ⟨g,cap,cur,rfl,_,_,hnc,_⟩
    · simp [Builtin.append_,run_underlying ht,sizeOf,typeInfo,hi,Builtin.lenOf,Builtin.firstCells]
    · simp [Builtin.append_,run_underlying ht,sizeOf,typeInfo,hi,Builtin.lenOf,Builtin.firstCells,hnc,storeCells]
  have hnews:∀ j u,news[j]? =some u→w.cell? (ad.add j)=some u:=by
    intro j u hu
    rcases Nat.eq_zero_or_pos m with h0 | h0
    · subst h0
      have hn:news= []:=List.eq_nil_of_length_eq_zero (by simpa using hl)
      subst hn
      simp at hu
    · obtain ⟨b,o,h,hc⟩:=hr.2 h0
      injection h with h
      subst h
      rw [addAt]
      exact hc j u hu
  rcases hown.2 with ⟨rfl,rfl⟩ | ⟨g,cap,cur,rfl,hbg,hg,hnc,hcm,hcs,htake,hG⟩
  · have hx:xs= []:=List.eq_nil_of_length_eq_zero (by simpa using hxl)
    subst hx
    by_cases hm:m=0
    · subst hm
      have hn:news= []:=List.eq_nil_of_length_eq_zero (by simpa using hl)
      subst hn
      refine ⟨.slice none 0 0,w, ?_,Own.nil w base e i.size G,⟨rfl,rfl,rfl,Nat.le_refl _,fun _ _ _=>rfl⟩,by simp,Or.inl rfl⟩
      simp [Builtin.append_,run_underlying ht,sizeOf,typeInfo,hi,Builtin.lenOf,Builtin.firstCells,loadCells,loadCellsFrom]
    · have hr:=run_append_nil (P:=P) w t ty e i z ht hi hz ad m c news hl hnews (by omega) (by omega) (by have hb:=hbytes;simp only [Nat.zero_add] at hb;omega)
      have hgr:=grown (fun j u hu=>by simp at hu) 0 (by omega) (Value.ownBlock (.slice none 0 0))
      simp only [Nat.zero_add,List.nil_append,Array.empty_append] at hgr ⊢
      exact ⟨_,_,hr,hgr.1,hgr.2,by simp [hm],Or.inr rfl⟩
  · have hxG:∀ j u,xs[j]? =some u→G (j % i.size) u:=by
      intro j u hu
      rw [← htake,List.getElem?_take] at hu
      split at hu
      · exact hG j u (by rw [← Array.getElem?_toList];exact hu)
      · cases hu
    by_cases hroom:n+m≤cap
    · have hfit:n * i.size+news.length≤cur.size:=by rw [hl,hcs,← Nat.add_mul];exact Nat.mul_le_mul_right _ hroom
      have hr:=run_append_room (P:=P) w t ty e i ht hi g n cap cur hg ad m c news hl hnews h1 hroom hfit
      refine ⟨_,_,hr,⟨hlen, .inr ⟨g,cap,_,rfl,hbg,setRow_heap w g cur _ e _ hg,hroom,hcm, ?_, ?_, ?_⟩⟩,⟨rfl,rfl,rfl,by simp,fun k _ hk=>setRow_other w g k _ (fun e=>hk (by simp [Value.ownBlock,e]))⟩,by simp,Or.inl rfl⟩
      · simp only [List.size_toArray,List.length_append,List.length_take,List.length_drop,Array.length_toList]
        omega
      · rw [htake,← hlen]
        exact List.take_left
      · intro j u hu
        rw [htake] at hu
        have hu:((xs++news)++cur.toList.drop (n * i.size+news.length))[j]? =some u:=by simpa using hu
        by_cases hj:j<(xs++news).length
        · rw [List.getElem?_append_left hj] at hu;exact hboth hxG j u hu
        · rw [List.getElem?_append_right (by omega),List.getElem?_drop] at hu
          rw [hlen] at hu hj
          rw [hl,← Nat.add_mul,show (n+m) * i.size+(j - (n+m) * i.size)=j from by omega] at hu
          exact hG j u (by rw [← Array.getElem?_toList];exact hu)
    · have holds:∀ j u,xs[j]? =some u→w.cell? ((⟨g,0,none⟩:Addr).add j)=some u:=hown.row.cells (g:=g) rfl
      have hr:=run_append_grow (P:=P) w t ty e i z ht hi hz ⟨g,0,none⟩ n cap xs hxl holds ad m c news hl hnews (by omega) (by omega) (growslice_fits (by omega) hbytes)
      have hgr:=grown hxG cap (by omega) (Value.ownBlock (.slice (some ⟨g,0,none⟩) n cap))
      exact ⟨_,_,hr,hgr.1,hgr.2,by simp,Or.inr rfl⟩

theorem wp_append_all {o:Oper} {a:Act} {K:Act→World→Prop} {Q:Exit→Act→World→Prop} (s x:Operand) (t:TypeId)
    (ho:o.op= .call {callee:= .builtin .append,args:=#[s,x],argTypes:=#[t,t]})
    (base:Nat) (e:TypeId) (i:TypeInfo) (z:Value) (size bytes:Nat) (ht:P.underlying t=some (.slice e)) (hi:P.info? e=some i) (hz:i.zero=some z)
    (hsize:i.size=size) (hby:i.bytes=bytes) (hzs:z.cells.size=size) (hsz:0<size) (G:Nat→Value→Prop) (hzG:∀ j u,z.cells[j]? =some u→G j u)
    (v:Value) (n:Nat) (xs:List Value) (hs:a.eval s=v) (hown:Own w base e size G v n xs)
    (A:Option Addr) (m c:Nat) (news:List Value) (hx:a.eval x= .slice A m c) (hr:Rd w size A m news) (h1:∀ u∈news,u.oneCell'=true) (hnG:∀ j u,news[j]? =some u→G (j % size) u)
    (h63:n+m≤maxLen) (hbytes:(n+m) * bytes≤140737488355328) (hbase:base≤w.heap.size)
    (h:∀ v' w',Own w' base e size G v' (n+m) (xs++news)→w.grownBy w' v.ownBlock→(v'= .slice none 0 0↔v= .slice none 0 0∧m=0)→(v'.ownBlock=v.ownBlock∨v'.ownBlock=some w.heap.size)→K (a.put o.dst v') w'):o.wp P a w K Q:=by
  obtain ⟨v',w',hrun,h2,h3,h4,h5⟩:=run_append_all (P:=P) w base t o.type e i z size bytes ht hi hz hsize hby hzs hsz G hzG v n xs hown A m c news hr h1 hnG h63 hbytes hbase
  unfold Oper.wp execOp
  simp only [ho,resolve,invoke,builtin,Sem.run_bind,Sem.run_pure,Result.andThen_ok,List.map_toArray,List.map_cons,List.map_nil,hs,hx,hrun]
  exact h v' w' h2 h3 h4 h5
theorem wpList_append_all {ops:Array Oper} {rest:List Oper} {o:Oper} {a:Act} {Q:Exit→Act→World→Prop} (hgd:o.guard=none) (s x:Operand) (t:TypeId)
    (ho:o.op= .call {callee:= .builtin .append,args:=#[s,x],argTypes:=#[t,t]})
    (base:Nat) (e:TypeId) (i:TypeInfo) (z:Value) (size bytes:Nat) (ht:P.underlying t=some (.slice e)) (hi:P.info? e=some i) (hz:i.zero=some z)
    (hsize:i.size=size) (hby:i.bytes=bytes) (hzs:z.cells.size=size) (hsz:0<size) (G:Nat→Value→Prop) (hzG:∀ j u,z.cells[j]? =some u→G j u)
    (v:Value) (n:Nat) (xs:List Value) (hs:a.eval s=v) (hown:Own w base e size G v n xs)
    (A:Option Addr) (m c:Nat) (news:List Value) (hx:a.eval x= .slice A m c) (hr:Rd w size A m news) (h1:∀ u∈news,u.oneCell'=true) (hnG:∀ j u,news[j]? =some u→G (j % size) u)
    (h63:n+m≤maxLen) (hbytes:(n+m) * bytes≤140737488355328) (hbase:base≤w.heap.size)
    (h:∀ v' w',Own w' base e size G v' (n+m) (xs++news)→w.grownBy w' v.ownBlock→(v'= .slice none 0 0↔v= .slice none 0 0∧m=0)→(v'.ownBlock=v.ownBlock∨v'.ownBlock=some w.heap.size)→wpList P ops Q rest (a.put o.dst v') w'):wpList P ops Q (o::rest) a w :=
  wpList_plain hgd fun _ hK=>wp_append_all w s x t ho base e i z size bytes ht hi hz hsize hby hzs hsz G hzG v n xs hs hown A m c news hx hr h1 hnG h63 hbytes hbase fun v' w' h2 h3 h4 h5=>hK _ _ (h v' w' h2 h3 h4 h5)
theorem step_append_all {ops:Array Oper} {o:Oper} {a:Act} {K:Act→World→Prop} {Q:Exit→Act→World→Prop} {E:Prop} (hgd:o.guard=none) (s x:Operand) (t:TypeId)
    (ho:o.op= .call {callee:= .builtin .append,args:=#[s,x],argTypes:=#[t,t]})
    (base:Nat) (e:TypeId) (i:TypeInfo) (z:Value) (size bytes:Nat) (ht:P.underlying t=some (.slice e)) (hi:P.info? e=some i) (hz:i.zero=some z)
    (hsize:i.size=size) (hby:i.bytes=bytes) (hzs:z.cells.size=size) (hsz:0<size) (G:Nat→Value→Prop) (hzG:∀ j u,z.cells[j]? =some u→G j u)
    (v:Value) (n:Nat) (xs:List Value) (hs:a.eval s=v) (hown:Own w base e size G v n xs)
    (A:Option Addr) (m c:Nat) (news:List Value) (hx:a.eval x= .slice A m c) (hr:Rd w size A m news) (h1:∀ u∈news,u.oneCell'=true) (hnG:∀ j u,news[j]? =some u→G (j % size) u)
    (h63:n+m≤maxLen) (hbytes:(n+m) * bytes≤140737488355328) (hbase:base≤w.heap.size)
    (h:∀ v' w',Own w' base e size G v' (n+m) (xs++news)→w.grownBy w' v.ownBlock→(v'= .slice none 0 0↔v= .slice none 0 0∧m=0)→(v'.ownBlock=v.ownBlock∨v'.ownBlock=some w.heap.size)→K (a.put o.dst v') w'):
    if Region.wanted o (yielded ops a.tmps)=true then Oper.wp P o a w K Q else E:=by
  have hw:Region.wanted o (yielded ops a.tmps)=true:=by simp [Region.wanted,hgd]
  rw [if_pos hw]
  exact wp_append_all w s x t ho base e i z size bytes ht hi hz hsize hby hzs hsz G hzG v n xs hs hown A m c news hx hr h1 hnG h63 hbytes hbase h
end
end Go.Proofs.YtlikikpgmmkjbaaGreat
set_option linter.unusedVariables false
set_option linter.unusedSimpArgs false
namespace Go.Proofs.YtlikikpgmmkjbaaGreat
open Go.ChangeShapes Go.WideShapes Go.Deep Go.RowKit
inductive Sh where
  | int (k:IntKind)
  | bool
  | str
  | slice (e:Sh) (bytes:Nat)
  | nil
  | cons (a b:Sh)
def Sh.size:Sh→Nat
  | .int _ | .bool | .str | .slice _ _=>1
  | .nil=>0
  | .cons a b=>a.size+b.size
def partsOf (P:Program) (t:TypeId):Option (List (TypeId×Nat)):=
  match P.underlying t with
  | some (.struct fs)=>some (fs.toList.map fun f=>(f.type,f.offset))
  | some (.array n e)=>some ((List.range n).map fun i=>(e,i * P.cellsOf e))
  | _=>none
def Sh.fit (P:Program):Sh→TypeId ⊕ (Nat×List (TypeId×Nat))→Bool
  | .int k, .inl t=>match P.underlying t with | some (.int k')=>decide (k'=k) | _=>false
  | .bool, .inl t=>match P.underlying t with | some .bool=>true | _=>false
  | .str, .inl t=>match P.underlying t with | some .string=>true | _=>false
  | .slice e by_, .inl t=>match P.underlying t with | some (.slice u)=>P.cellsOf u == e.size && P.bytesOf u == by_ && e.fit P (.inl u) | _=>false
  | .nil, .inl t=>P.cellsOf t == 0 && (match P.underlying t with | some (.struct _)=>true | some (.array ..)=>true | _=>false)
  | .cons a b, .inl t=>P.cellsOf t == a.size+b.size && (match partsOf P t with
      | some ((u,o)::r)=>o == 0 && P.cellsOf u == a.size && a.fit P (.inl u) && b.fit P (.inr (a.size,r))
      | _=>false)
  | .nil, .inr (_,fs)=>fs.isEmpty
  | .cons a b, .inr (off,fs)=>match fs with
    | (u,o)::r=>o == off && P.cellsOf u == a.size && a.fit P (.inl u) && b.fit P (.inr (off+a.size,r))
    | []=>false
  | _, .inr _=>false
def Sh.Ok (w:World):Sh→List Value→Prop
  | .int k,cs=>∃ n,cs= [.int k n]∧(Lit.int k n).wf=true
  | .bool,cs=>∃ b,cs= [.bool b]
  | .str,cs=>∃ s:ByteArray,cs= [.string s]∧s.size≤maxLen∧s.size≤140737488351232
  | .slice e by_,cs=>cs= [.slice none 0 0]∨∃ (a:Addr) (len cap:Nat),cs= [.slice (some a) len cap]∧len≤cap∧cap≤maxLen∧cap * by_≤140737488351232∧
      ∀ i,i<cap→∃ es:List Value,es.length=e.size∧(∀ j v,es[j]? =some v→w.cell? (a.add (i * e.size+j))=some v)∧e.Ok w es
  | .nil,cs=>cs= []
  | .cons a b,cs=>∃ xs ys,cs=xs++ys∧xs.length=a.size∧ys.length=b.size∧a.Ok w xs∧b.Ok w ys
variable {H:Type} {enc:TypeId×Value→H} {P:Program} {w:World} {base:Nat} {held:Bool}
def FieldsAt (enc:TypeId×Value→H) (P:Program) (w:World) (base:Nat) (held:Bool) (n:Nat) (cs:List Value) (fs:List (TypeId×Nat)) (xs:List (DataW H×List MemPlace)):Prop :=
  xs.length=fs.length∧∀ (i:Nat) (f:TypeId×Nat),fs[i]? =some f→DataW.trod enc P w base (fun _=>true) held n f.1 ((cs.drop f.2).take (P.cellsOf f.1))=xs[i]?
theorem FieldsAt.cons {n:Nat} {cs:List Value} {f:TypeId×Nat} {r:List (TypeId×Nat)} {xs:List (DataW H×List MemPlace)} (h:FieldsAt enc P w base held n cs (f::r) xs):
    ∃ x ys,xs=x::ys∧DataW.trod enc P w base (fun _=>true) held n f.1 ((cs.drop f.2).take (P.cellsOf f.1))=some x∧FieldsAt enc P w base held n cs r ys:=by
  obtain ⟨hl,hf⟩:=h
  match xs,hl with
  | x::ys,hl =>
    refine ⟨x,ys,rfl,hf 0 f rfl,by simpa using hl,fun i g hg=> ?_⟩
    exact hf (i+1) g hg
def Goal (P:Program) (w:World) (sh:Sh):TypeId ⊕ (Nat×List (TypeId×Nat))→Prop
  | .inl t=>∀ (H:Type) (enc:TypeId×Value→H) (base:Nat) (held:Bool) (fuel:Nat) (cs:List Value) (x:DataW H×List MemPlace),DataW.trod enc P w base (fun _=>true) held fuel t cs=some x→(∀ n∈x.1.weights P t,n≤reachBytes)→cs.length=sh.size∧sh.Ok w cs
  | .inr (off,fs)=>∀ (H:Type) (enc:TypeId×Value→H) (base:Nat) (held:Bool) (n:Nat) (cs:List Value) (xs:List (DataW H×List MemPlace)),FieldsAt enc P w base held n cs fs xs→cs.length=off+sh.size→(∀ n∈DataW.weightsEach P (fs.map (·.1)) (xs.map (·.1)),n≤reachBytes)→sh.Ok w (cs.drop off)
theorem list_of {α:Type} (n:Nat) (p:Nat→α→Prop) (h:∀ i,i<n→∃ x,p i x):∃ l:List α,l.length=n∧∀ i (hi:i<l.length),p i l[i]:=by
  induction n with
  | zero=>exact ⟨[],rfl,fun i hi=>absurd hi (by simp)⟩
  | succ n ih =>
    obtain ⟨l,hl,hp⟩:=ih (fun i hi=>h i (by omega))
    obtain ⟨x,hx⟩:=h n (by omega)
    refine ⟨l++ [x],by simp [hl],fun i hi=> ?_⟩
    by_cases hin:i<l.length
    · rw [List.getElem_append_left hin];exact hp i hin
    · have:i=n:=by simp at hi;omega
      subst this
      rw [List.getElem_append_right (by omega)]
      simpa [hl] using hx
end Go.Proofs.YtlikikpgmmkjbaaGreat
set_option linter.unusedVariables false
set_option linter.unusedSimpArgs false
namespace Go.Proofs.YtlikikpgmmkjbaaGreat
open Go.RowKit
def All2 {β α:Type} (P:β→α→Prop):List β→List α→Prop
  | [], []=>True
  | b::bs,a::m=>P b a∧All2 P bs m
  | _,_=>False
section
variable {β α:Type} {P Q:β→α→Prop}
theorem All2.length:∀ {l:List β} {m:List α},All2 P l m→l.length=m.length
  | [], [],_=>rfl
  | _::_,_::_,h=>by rw [List.length_cons,List.length_cons,All2.length h.2]
  | [],_::_,h=>h.elim
  | _::_, [],h=>h.elim
theorem All2.imp {l:List β} (hi:∀ b a,b∈l→P b a→Q b a):∀ {m:List α},All2 P l m→All2 Q l m:=by
  induction l with
  | nil=>intro m h;cases m with | nil=>trivial | cons=>exact h
  | cons b r ih =>
    intro m h
    cases m with
    | nil=>exact h
    | cons a s=>exact ⟨hi b a (by simp) h.1,ih (fun b a hb=>hi b a (by simp [hb])) h.2⟩
theorem All2.app:∀ {l:List β} {m:List α} {l':List β} {m':List α},All2 P l m→All2 P l' m'→All2 P (l++l') (m++m')
  | [], [],_,_,_,h=>h
  | _::_,_::_,_,_,h,h'=>⟨h.1,All2.app h.2 h'⟩
  | [],_::_,_,_,h,_=>h.elim
  | _::_, [],_,_,h,_=>h.elim
theorem All2.at_:∀ {l:List β} {m:List α} {i:Nat} {a:α},All2 P l m→m[i]? =some a→∃ b,l[i]? =some b∧P b a
  | [], [],_,_,_,h=>by simp at h
  | b::_,_::_,0,_,h,e=>⟨b,rfl,by simp at e;subst e;exact h.1⟩
  | _::_,_::_,i+1,_,h,e=>by
    obtain ⟨b,h1,h2⟩:=All2.at_ (i:=i) h.2 (by simpa using e)
    exact ⟨b,by simpa using h1,h2⟩
  | [],_::_,_,_,h,_=>h.elim
  | _::_, [],_,_,h,_=>h.elim
theorem All2.set_:∀ {l:List β} {m:List α} {i:Nat} {b:β} {a:α},All2 P l m→P b a→All2 P (l.set i b) (m.set i a)
  | [], [],_,_,_,_,_=>trivial
  | _::_,_::_,0,_,_,h,e=>⟨e,h.2⟩
  | _::_,_::_,_+1,_,_,h,e=>⟨h.1,All2.set_ h.2 e⟩
  | [],_::_,_,_,_,h,_=>h.elim
  | _::_, [],_,_,_,h,_=>h.elim
theorem All2.take_:∀ {l:List β} {m:List α} (k:Nat),All2 P l m→All2 P (l.take k) (m.take k)
  | [], [],_,_=>by simp [All2]
  | _::_,_::_,0,_=>trivial
  | _::_,_::_,k+1,h=>⟨h.1,All2.take_ k h.2⟩
  | [],_::_,_,h=>h.elim
  | _::_, [],_,h=>h.elim
theorem All2.left:∀ {l:List β} {m:List α},All2 P l m→∀ b∈l,∃ a,P b a
  | [],_,_,b,hb=>by simp at hb
  | c::_, [],h,_,_=>h.elim
  | c::_,a::_,h,b,hb=>by
    rcases List.mem_cons.1 hb with rfl | hb
    · exact ⟨a,h.1⟩
    · exact All2.left h.2 b hb
end
theorem flat_len {k:Nat}:∀ {l:List (List Value)},(∀ x∈l,x.length=k)→l.flatten.length=l.length * k
  | [],_=>by simp
  | x::r,h=>by rw [List.flatten_cons,List.length_append,h x (by simp),flat_len (l:=r) (fun y hy=>h y (by simp [hy])),List.length_cons,Nat.add_mul];omega
theorem flat_get {k:Nat}:∀ {l:List (List Value)} {i j:Nat} {es:List Value},(∀ x∈l,x.length=k)→l[i]? =some es→j<k→l.flatten[i * k+j]? =es[j]?
  | [],_,_,_,_,h,_=>by simp at h
  | x::r,0,j,es,h,e,hj=>by
    have e:x=es:=by simpa using e
    subst e
    rw [List.flatten_cons,Nat.zero_mul,Nat.zero_add,List.getElem?_append_left (by rw [h x (by simp)];exact hj)]
  | x::r,i+1,j,es,h,e,hj=>by
    have hx:=h x (by simp)
    rw [List.flatten_cons,List.getElem?_append_right (by rw [hx,Nat.add_mul];omega),hx,show (i+1) * k+j - k=i * k+j from by rw [Nat.add_mul];omega]
    exact flat_get (fun y hy=>h y (by simp [hy])) (by simpa using e) hj
theorem flat_set {k:Nat}:∀ {l:List (List Value)} {i j:Nat} {es:List Value} (u:Value),(∀ x∈l,x.length=k)→l[i]? =some es→j<k→l.flatten.set (i * k+j) u=(l.set i (es.set j u)).flatten
  | [],_,_,_,_,_,h,_=>by simp at h
  | x::r,0,j,es,u,h,e,hj=>by
    have e:x=es:=by simpa using e
    subst e
    rw [List.flatten_cons,Nat.zero_mul,Nat.zero_add,List.set_append_left _ _ (by rw [h x (by simp)];exact hj)]
    rfl
  | x::r,i+1,j,es,u,h,e,hj=>by
    have hx:=h x (by simp)
    rw [List.flatten_cons,List.set_append_right _ _ (by rw [hx,Nat.add_mul];omega),hx,show (i+1) * k+j - k=i * k+j from by rw [Nat.add_mul];omega,flat_set u (fun y hy=>h y (by simp [hy])) (by simpa using e) hj]
    rfl
theorem flat_take {k:Nat}:∀ {l:List (List Value)} (i:Nat),(∀ x∈l,x.length=k)→l.flatten.take (i * k)=(l.take i).flatten
  | [],_,_=>by simp
  | x::r,0,_=>by simp
  | x::r,i+1,h=>by
    have hx:=h x (by simp)
    rw [List.flatten_cons,List.take_succ_cons,List.flatten_cons,List.take_append,hx,List.take_of_length_le (by rw [hx,Nat.add_mul];omega),show (i+1) * k - k=i * k from by rw [Nat.add_mul];omega,flat_take i (fun y hy=>h y (by simp [hy]))]
structure Rep (α:Type) where
  size:Nat
  has:World→List Value→α→Prop
  own:World→Nat→List Nat→List Value→α→Prop
  raw:Nat→Value→Prop
  len:∀ {w cs a},has w cs a→cs.length=size
  one:∀ {w cs a},has w cs a→∀ u∈cs,u.oneCell'=true
  raw_:∀ {w cs a},has w cs a→∀ (j:Nat) u,cs[j]? =some u→raw j u
  keep:∀ {w w' cs a},has w cs a→Below w.heap.size w w'→has w' cs a
  ohas:∀ {w B f cs a},own w B f cs a→has w cs a
  okeep:∀ {w w' B f cs a},own w B f cs a→(∀ g∈f,w'.heap[g]? =w.heap[g]?)→own w' B f cs a
  olt:∀ {w B f cs a},own w B f cs a→∀ g∈f,B≤g∧g<w.heap.size
  odown:∀ {w B B' f cs a},own w B f cs a→B'≤B→own w B' f cs a
namespace Rep
variable {α β:Type} {w w':World} {B B':Nat} {f:List Nat} {cs:List Value} {a:α}
theorem olen (R:Rep α) (h:R.own w B f cs a):cs.length=R.size:=R.len (R.ohas h)
def flatO (size:Nat) (cells:α→List Value) (ok:α→Prop) (raw:Nat→Value→Prop) (hl:∀ a,(cells a).length=size) (h1:∀ a,∀ u∈cells a,u.oneCell'=true) (hr:∀ a,ok a→∀ (j:Nat) u,(cells a)[j]? =some u→raw j u):Rep α where
  size:=size
  has:=fun _ cs a=>cs=cells a∧ok a
  own:=fun _ _ f cs a=>f= []∧cs=cells a∧ok a
  raw:=raw
  len:=by rintro w cs a ⟨rfl,_⟩;exact hl a
  one:=by rintro w cs a ⟨rfl,_⟩;exact h1 a
  raw_:=by rintro w cs a ⟨rfl,h⟩;exact hr a h
  keep:=fun h _=>h
  ohas:=fun h=>h.2
  okeep:=fun h _=>h
  olt:=by rintro w B f cs a ⟨rfl,_⟩ g hg;simp at hg
  odown:=fun h _=>h
def flat (size:Nat) (cells:α→List Value) (ok:α→Prop) (raw:Nat→Value→Prop) (hl:∀ a,(cells a).length=size) (h1:∀ a,∀ u∈cells a,u.oneCell'=true) (hr:∀ a (j:Nat) u,(cells a)[j]? =some u→raw j u):Rep α where
  size:=size
  has:=fun _ cs a=>cs=cells a∧ok a
  own:=fun _ _ f cs a=>f= []∧cs=cells a∧ok a
  raw:=raw
  len:=by rintro w cs a ⟨rfl,_⟩;exact hl a
  one:=by rintro w cs a ⟨rfl,_⟩;exact h1 a
  raw_:=by rintro w cs a ⟨rfl,_⟩;exact hr a
  keep:=fun h _=>h
  ohas:=fun h=>h.2
  okeep:=fun h _=>h
  olt:=by rintro w B f cs a ⟨rfl,_⟩ g hg;simp at hg
  odown:=fun h _=>h
def pair (R:Rep α) (S:Rep β):Rep (α×β) where
  size:=R.size+S.size
  has:=fun w cs p=>∃ xs ys,cs=xs++ys∧R.has w xs p.1∧S.has w ys p.2
  own:=fun w B f cs p=>∃ xs ys f1 f2,cs=xs++ys∧f=f1++f2∧R.own w B f1 xs p.1∧S.own w B f2 ys p.2
  raw:=fun j u=>if j<R.size then R.raw j u else S.raw (j - R.size) u
  len:=by rintro w cs p ⟨xs,ys,rfl,h1,h2⟩;rw [List.length_append,R.len h1,S.len h2]
  one:=by
    rintro w cs p ⟨xs,ys,rfl,h1,h2⟩ u hu
    rcases List.mem_append.1 hu with hu | hu
    · exact R.one h1 u hu
    · exact S.one h2 u hu
  raw_:=by
    rintro w cs p ⟨xs,ys,rfl,h1,h2⟩ j u hu
    by_cases hj:j<R.size
    · rw [if_pos hj];rw [List.getElem?_append_left (by rw [R.len h1];exact hj)] at hu;exact R.raw_ h1 j u hu
    · rw [if_neg hj];rw [List.getElem?_append_right (by rw [R.len h1];omega),R.len h1] at hu;exact S.raw_ h2 _ u hu
  keep:=by rintro w w' cs p ⟨xs,ys,rfl,h1,h2⟩ hb;exact ⟨xs,ys,rfl,R.keep h1 hb,S.keep h2 hb⟩
  ohas:=by rintro w B f cs p ⟨xs,ys,f1,f2,rfl,rfl,h1,h2⟩;exact ⟨xs,ys,rfl,R.ohas h1,S.ohas h2⟩
  okeep:=by
    rintro w w' B f cs p ⟨xs,ys,f1,f2,rfl,rfl,h1,h2⟩ hk
    exact ⟨xs,ys,f1,f2,rfl,rfl,R.okeep h1 (fun g hg=>hk g (by simp [hg])),S.okeep h2 (fun g hg=>hk g (by simp [hg]))⟩
  olt:=by
    rintro w B f cs p ⟨xs,ys,f1,f2,rfl,rfl,h1,h2⟩ g hg
    rcases List.mem_append.1 hg with hg | hg
    · exact R.olt h1 g hg
    · exact S.olt h2 g hg
  odown:=by
    rintro w B B' f cs p ⟨xs,ys,f1,f2,rfl,rfl,h1,h2⟩ hb
    exact ⟨xs,ys,f1,f2,rfl,rfl,R.odown h1 hb,S.odown h2 hb⟩
def via (R:Rep α) (g:β→α):Rep β where
  size:=R.size
  has:=fun w cs b=>R.has w cs (g b)
  own:=fun w B f cs b=>R.own w B f cs (g b)
  raw:=R.raw
  len:=fun h=>R.len h
  one:=fun h=>R.one h
  raw_:=fun h=>R.raw_ h
  keep:=fun h hb=>R.keep h hb
  ohas:=fun h=>R.ohas h
  okeep:=fun h hk=>R.okeep h hk
  olt:=fun h=>R.olt h
  odown:=fun h hb=>R.odown h hb
def blkOf:Option Addr→List Nat
  | none=> []
  | some a=> [a.block]
theorem mem_blkOf {A:Option Addr} {g:Nat}:g∈blkOf A↔∃ a,A=some a∧a.block=g:=by
  cases A with
  | none=>simp [blkOf]
  | some a=>simp [blkOf,eq_comm]
def SHas (R:Rep α) (by_:Nat) (w:World) (A:Option Addr) (c:Nat) (l:List α):Prop :=
  l.length≤c∧c≤9223372036854775807∧l.length * by_≤140737488355328∧(A=none→c=0)∧
  ∃ ess,All2 (fun es a=>R.has w es a) ess l∧Rd w R.size A l.length ess.flatten
def SOwn (R:Rep α) (E:TypeId) (by_:Nat) (w:World) (B:Nat) (f:List Nat) (A:Option Addr) (c:Nat) (l:List α):Prop :=
  l.length * by_≤140737488355328∧
  ∃ ps:List (List Nat×List Value),f=blkOf A++(ps.map (·.1)).flatten∧f.Nodup∧Own w B E R.size R.raw (.slice A l.length c) l.length (ps.map (·.2)).flatten∧
    All2 (fun x a=>R.own w B x.1 x.2 a) ps l
theorem SHas.keep {R:Rep α} {by_:Nat} {A:Option Addr} {c:Nat} {l:List α} (h:R.SHas by_ w A c l) (hb:Below w.heap.size w w'):R.SHas by_ w' A c l:=by
  obtain ⟨h1,h2,h3,h4,ess,h5,h6⟩:=h
  exact ⟨h1,h2,h3,h4,ess,h5.imp (fun es a _ h=>R.keep h hb),h6.later hb⟩
theorem SHas.drewN {R:Rep α} {by_:Nat} {A:Option Addr} {c:Nat} {l:List α} (h:R.SHas by_ w A c l) (k:Nat):R.SHas by_ (w.drewN k) A c l:=h.keep (below_drewN (Below.refl _ w) k)
theorem All2.map_ {β γ α:Type} (g:β→γ) {P:γ→α→Prop}:∀ {l:List β} {m:List α},All2 (fun b a=>P (g b) a) l m→All2 P (l.map g) m
  | [], [],_=>trivial
  | _::_,_::_,h=>⟨h.1,All2.map_ g h.2⟩
  | [],_::_,h=>h.elim
  | _::_, [],h=>h.elim
theorem SOwn.has {R:Rep α} {E:TypeId} {by_:Nat} {A:Option Addr} {c:Nat} {l:List α} (h:R.SOwn E by_ w B f A c l):R.SHas by_ w A c l:=by
  obtain ⟨h1,ps,rfl,h3,h4,h5⟩:=h
  obtain ⟨A',c',e,hle,hmx,hrd,_,hnn⟩:=h4.shape
  injection e with e1 _ e2
  subst e1;subst e2
  refine ⟨hle,by unfold maxLen at hmx;omega,h1,fun hn=>by have:=hnn hn;injection this,_,All2.map_ (fun x:List Nat×List Value=>x.2) (h5.imp fun x a _ h=>R.ohas h),hrd⟩
theorem SOwn.keep {R:Rep α} {E:TypeId} {by_:Nat} {A:Option Addr} {c:Nat} {l:List α} (h:R.SOwn E by_ w B f A c l) (hk:∀ g∈f,w'.heap[g]? =w.heap[g]?):R.SOwn E by_ w' B f A c l:=by
  obtain ⟨h1,ps,rfl,h3,h4,h5⟩:=h
  refine ⟨h1,ps,rfl,h3,h4.of_block (B:=0) fun g hg=>hk g ?_,h5.imp fun x a hx h=>R.okeep h fun g hg=>hk g ?_⟩
  · cases A with
    | none=>cases hg
    | some a=>injection hg with hg;simp [blkOf,hg]
  · exact List.mem_append.2 (.inr (List.mem_flatten.2 ⟨x.1,List.mem_map.2 ⟨x,hx,rfl⟩,hg⟩))
theorem SOwn.lt {R:Rep α} {E:TypeId} {by_:Nat} {A:Option Addr} {c:Nat} {l:List α} (h:R.SOwn E by_ w B f A c l):∀ g∈f,B≤g∧g<w.heap.size:=by
  obtain ⟨h1,ps,rfl,h3,h4,h5⟩:=h
  intro g hg
  rcases List.mem_append.1 hg with hg | hg
  · obtain ⟨a,rfl,rfl⟩:=mem_blkOf.1 hg
    exact h4.row.lt _ rfl
  · obtain ⟨y,hy,hg⟩:=List.mem_flatten.1 hg
    obtain ⟨x,hx,rfl⟩:=List.mem_map.1 hy
    obtain ⟨a,ha⟩:=h5.left x hx
    exact R.olt ha g hg
theorem SOwn.later {R:Rep α} {E:TypeId} {by_:Nat} {A:Option Addr} {c:Nat} {l:List α} (h:R.SOwn E by_ w B f A c l) (hb:Below w.heap.size w w'):R.SOwn E by_ w' B f A c l:=h.keep fun g hg=>hb.block g (h.lt g hg).2
theorem SOwn.nodup {R:Rep α} {E:TypeId} {by_:Nat} {A:Option Addr} {c:Nat} {l:List α} (h:R.SOwn E by_ w B f A c l):f.Nodup:=by
  obtain ⟨_,ps,rfl,h3,_⟩:=h
  exact h3
theorem SOwn.down {R:Rep α} {E:TypeId} {by_:Nat} {A:Option Addr} {c:Nat} {l:List α} (h:R.SOwn E by_ w B f A c l) (hb:B'≤B):R.SOwn E by_ w B' f A c l:=by
  obtain ⟨h1,ps,rfl,h3,h4,h5⟩:=h
  exact ⟨h1,ps,rfl,h3,h4.mono hb,h5.imp fun x a _ h=>R.odown h hb⟩
def slice (R:Rep α) (E:TypeId) (by_:Nat):Rep (List α) where
  size:=1
  has:=fun w cs l=>∃ A c,cs= [.slice A l.length c]∧R.SHas by_ w A c l
  own:=fun w B f cs l=>∃ A c,cs= [.slice A l.length c]∧R.SOwn E by_ w B f A c l
  raw:=fun _ u=>∃ A n c,u= .slice A n c
  len:=by rintro w cs l ⟨A,c,rfl,_⟩;rfl
  one:=by rintro w cs l ⟨A,c,rfl,_⟩ u hu;simp at hu;subst hu;rfl
  raw_:=by
    rintro w cs l ⟨A,c,rfl,_⟩ j u hu
    cases j with
    | zero=>simp at hu;exact ⟨_,_,_,hu.symm⟩
    | succ j=>simp at hu
  keep:=by rintro w w' cs l ⟨A,c,rfl,h⟩ hb;exact ⟨A,c,rfl,h.keep hb⟩
  ohas:=by rintro w B f cs l ⟨A,c,rfl,h⟩;exact ⟨A,c,rfl,h.has⟩
  okeep:=by rintro w w' B f cs l ⟨A,c,rfl,h⟩ hk;exact ⟨A,c,rfl,h.keep hk⟩
  olt:=by rintro w B f cs l ⟨A,c,rfl,h⟩;exact h.lt
  odown:=by rintro w B B' f cs l ⟨A,c,rfl,h⟩ hb;exact ⟨A,c,rfl,h.down hb⟩
theorem All2.of_get {β α:Type} {P:β→α→Prop}:∀ {l:List β} {m:List α},l.length=m.length→(∀ (k:Nat) b a,l[k]? =some b→m[k]? =some a→P b a)→All2 P l m
  | [], [],_,_=>trivial
  | b::l,a::m,hl,h=>⟨h 0 b a rfl rfl,All2.of_get (by simpa using hl) (fun k b a h1 h2=>h (k+1) b a (by simpa using h1) (by simpa using h2))⟩
  | [],_::_,hl,_=>by simp at hl
  | _::_, [],hl,_=>by simp at hl
section
variable {R:Rep α} {E:TypeId} {by_:Nat} {A:Option Addr} {c:Nat} {l:List α}
theorem lens {ess:List (List Value)} (h:All2 (fun es a=>R.has w es a) ess l):∀ x∈ess,x.length=R.size:=fun x hx=>by
  obtain ⟨a,ha⟩:=h.left x hx
  exact R.len ha
theorem SHas.at_ (h:R.SHas by_ w A c l) (h0:0<l.length):∃ b o,A=some ⟨b,o,none⟩∧∀ (i:Nat) a,l[i]? =some a→∃ es,R.has w es a∧∀ (j:Nat) u,es[j]? =some u→w.cell? ⟨b,o+(i * R.size+j),none⟩=some u:=by
  obtain ⟨_,_,_,_,ess,h5,h6,h7⟩:=h
  obtain ⟨b,o,e,hc⟩:=h7 h0
  refine ⟨b,o,e,fun i a ha=> ?_⟩
  obtain ⟨es,h8,h9⟩:=h5.at_ ha
  refine ⟨es,h9,fun j u hu=>hc _ u ?_⟩
  have hj:=(List.getElem?_eq_some_iff.1 hu).1
  rw [R.len h9] at hj
  rw [flat_get (lens h5) h8 hj]
  exact hu
theorem SHas.all_ {Q:α→Prop} (hq:∀ {w cs a},R.has w cs a→Q a) (h:R.SHas by_ w A c l):∀ a∈l,Q a:=by
  obtain ⟨_,_,_,_,ess,h5,_⟩:=h
  intro a ha
  obtain ⟨i,hi,rfl⟩:=List.mem_iff_getElem.1 ha
  obtain ⟨es,_,he⟩:=h5.at_ (List.getElem?_eq_getElem hi)
  exact hq he
theorem opens_slice {e:Sh} (he:∀ w cs,e.Ok w cs→∃ a,R.has w cs a) (hs:e.size=R.size) (h0:0<R.size) {cs:List Value} (h:(Sh.slice e by_).Ok w cs):∃ A c l,cs= [.slice A (List.length l) c]∧R.SHas by_ w A c l:=by
  rcases h with rfl | ⟨a,len,cap,rfl,hl,hm,hr,hi⟩
  · exact ⟨none,0, [],rfl,Nat.le_refl _,by simp,by simp,fun _=>rfl, [],trivial,Rd.zero w R.size none⟩
  · obtain ⟨ess,hlen,hes⟩:=list_of len (fun i es=>List.length es=e.size∧(∀ j v,es[j]? =some v→w.cell? (a.add (i * e.size+j))=some v)∧e.Ok w es) (fun i hi'=>hi i (by omega))
    obtain ⟨l,hl2,hla⟩:=list_of len (fun i x=>∃ es,ess[i]? =some es∧R.has w es x) (fun i hi'=>by
      obtain ⟨x,hx⟩:=he w (ess[i]'(by omega)) (hes i (by omega)).2.2
      exact ⟨x,_,List.getElem?_eq_getElem _,hx⟩)
    have hall:All2 (fun es x=>R.has w es x) ess l:=by
      refine All2.of_get (by omega) fun k es x h1 h2=> ?_
      have hk:=(List.getElem?_eq_some_iff.1 h2)
      obtain ⟨hk1,hk2⟩:=hk
      obtain ⟨es',h3,h4⟩:=hla k hk1
      rw [h1] at h3
      obtain rfl:=Option.some.inj h3
      rw [← hk2];exact h4
    refine ⟨some a,cap,l,by rw [hl2],by omega,by unfold maxLen at hm;omega, ?_,fun h=>(by cases h),ess,hall,by rw [flat_len (lens hall),hall.length],fun h0'=> ?_⟩
    · have:=Nat.mul_le_mul_right by_ hl
      rw [hl2];omega
    · obtain ⟨b,off,spot⟩:=a
      have hc0:=(hes 0 (by omega)).2.1 0
      obtain ⟨v,hv⟩:∃ v,(ess[0]'(by omega))[0]? =some v:=by
        have:=(hes 0 (by omega)).1
        exact ⟨_,List.getElem?_eq_getElem (by omega)⟩
      have hc1:=hc0 v hv
      have hspot:spot=none:=by simpa [Addr.add] using World.cell?_spot hc1
      subst hspot
      refine ⟨b,off,rfl,fun j u hu=> ?_⟩
      have hlt:=(List.getElem?_eq_some_iff.1 hu).1
      rw [flat_len (lens hall)] at hlt
      have hj:j % R.size<R.size:=Nat.mod_lt _ h0
      have hd:j / R.size<ess.length:=by rw [Nat.div_lt_iff_lt_mul h0];exact hlt
      have hsum:j / R.size * R.size+j % R.size=j:=by rw [Nat.mul_comm];exact Nat.div_add_mod j R.size
      have h6:=flat_get (j:=j % R.size) (lens hall) (i:=j / R.size) (es:=ess[j / R.size]'hd) (List.getElem?_eq_getElem hd) hj
      rw [hsum,hu] at h6
      have h7:=(hes (j / R.size) hd).2.1 _ u h6.symm
      rw [addAt,hs,hsum] at h7
      exact h7
theorem SHas.len_le {A:Option Addr} {c:Nat} {l:List α} {by_:Nat} {R:Rep α} (h:R.SHas by_ w A c l):l.length≤9223372036854775807:=Nat.le_trans h.1 h.2.1
theorem SHas.take_ {A:Option Addr} {c:Nat} {l:List α} {by_:Nat} {R:Rep α} (h:R.SHas by_ w A c l) (k:Nat):R.SHas by_ w A c (l.take k):=by
  obtain ⟨h1,h2,h3,h4,ess,h5,h6⟩:=h
  have hl:(l.take k).length≤l.length:=by rw [List.length_take];omega
  have hm:=Nat.mul_le_mul_right by_ hl
  have h7:=h5.take_ k
  refine ⟨by omega,h2,by omega,h4,ess.take k,h7,by rw [flat_len (lens h7),h7.length],fun h0=> ?_⟩
  obtain ⟨b,o,e,hc⟩:=h6.2 (by omega)
  refine ⟨b,o,e,fun j u hu=>hc j u ?_⟩
  rw [← flat_take k (lens h5),List.getElem?_take] at hu
  split at hu
  · exact hu
  · cases hu
theorem SHas.nil (w:World):R.SHas by_ w none 0 []:=⟨Nat.le_refl _,by simp,by simp,fun _=>rfl, [],trivial,Rd.zero w R.size none⟩
theorem SOwn.nil (w:World):R.SOwn E by_ w B [] none 0 []:=⟨by simp, [],rfl,List.nodup_nil,Own.nil w B E R.size R.raw,trivial⟩
end
def SHole (R:Rep α) (E:TypeId) (by_:Nat) (w:World) (B:Nat) (fr:List Nat) (g c:Nat) (l:List α) (i:Nat) (es:List Value):Prop :=
  l.length * by_≤140737488355328∧ 
  ∃ ps:List (List Nat×List Value),fr=g::(ps.map (·.1)).flatten∧fr.Nodup∧Own w B E R.size R.raw (.slice (some ⟨g,0,none⟩) l.length c) l.length (ps.map (·.2)).flatten∧
    ps[i]? =some ([],es)∧es.length=R.size∧ps.length=l.length∧∀ k a,k≠i→l[k]? =some a→∃ x,ps[k]? =some x∧R.own w B x.1 x.2 a
section
variable {R:Rep α} {E:TypeId} {by_:Nat} {A:Option Addr} {c:Nat} {l:List α} {g i:Nat} {es:List Value} {fr:List Nat}
theorem olens {ps:List (List Nat×List Value)} (h:All2 (fun x a=>R.own w B x.1 x.2 a) ps l):∀ x∈ps.map (·.2),x.length=R.size:=fun x hx=>by
  obtain ⟨y,hy,rfl⟩:=List.mem_map.1 hx
  obtain ⟨a,ha⟩:=h.left y hy
  exact R.olen ha
theorem SOwn.block (h:R.SOwn E by_ w B f A c l) (h0:0<l.length):∃ g,A=some ⟨g,0,none⟩:=by
  obtain ⟨_,ps,_,_,h4,_⟩:=h
  obtain ⟨_,h5⟩:=h4
  rcases h5 with ⟨_,h5⟩ | ⟨g,cap,cur,hv,_⟩
  · omega
  · injection hv with hv;exact ⟨g,hv⟩
theorem SHole.lens (h:R.SHole E by_ w B fr g c l i es):∃ ps:List (List Nat×List Value),fr=g::(ps.map (·.1)).flatten∧fr.Nodup∧Own w B E R.size R.raw (.slice (some ⟨g,0,none⟩) l.length c) l.length (ps.map (·.2)).flatten∧
    ps[i]? =some ([],es)∧es.length=R.size∧ps.length=l.length∧(∀ k a,k≠i→l[k]? =some a→∃ x,ps[k]? =some x∧R.own w B x.1 x.2 a)∧∀ x∈ps.map (·.2),x.length=R.size:=by
  obtain ⟨_,ps,h2,h3,h4,h5,h6,h7,h8⟩:=h
  refine ⟨ps,h2,h3,h4,h5,h6,h7,h8,fun x hx=> ?_⟩
  obtain ⟨k,hk,rfl⟩:=List.mem_iff_getElem.1 hx
  rw [List.length_map] at hk
  rw [List.getElem_map]
  by_cases hki:k=i
  · subst hki
    rw [List.getElem?_eq_getElem hk] at h5
    rw [Option.some.inj h5];exact h6
  · obtain ⟨y,hy,ho⟩:=h8 k (l[k]'(by omega)) hki (List.getElem?_eq_getElem _)
    rw [List.getElem?_eq_getElem hk] at hy
    rw [Option.some.inj hy]
    exact R.olen ho
theorem SHole.keep (h:R.SHole E by_ w B fr g c l i es) (hk:∀ x∈fr,w'.heap[x]? =w.heap[x]?):R.SHole E by_ w' B fr g c l i es:=by
  obtain ⟨h1,ps,h2,h3,h4,h5,h6,h7,h8⟩:=h
  refine ⟨h1,ps,h2,h3,h4.of_block (B:=0) (fun x hx=>hk x ?_),h5,h6,h7,fun k a hki ha=> ?_⟩
  · injection hx with hx;rw [h2,← hx];simp
  · obtain ⟨x,hx,ho⟩:=h8 k a hki ha
    refine ⟨x,hx,R.okeep ho fun y hy=>hk y ?_⟩
    rw [h2]
    exact List.mem_cons_of_mem _ (List.mem_flatten.2 ⟨x.1,List.mem_map.2 ⟨x,List.mem_of_getElem? hx,rfl⟩,hy⟩)
theorem SHole.cell (h:R.SHole E by_ w B fr g c l i es) (hi:i<l.length) {j:Nat} {u:Value} (hu:es[j]? =some u):w.cell? ⟨g,i * R.size+j,none⟩=some u:=by
  obtain ⟨ps,h2,h3,h4,h5,h6,h7,h8,hl⟩:=h.lens
  have hj:j<R.size:=by rw [← h6];exact (List.getElem?_eq_some_iff.1 hu).1
  have:=h4.cell (i * R.size+j) (by
    have:(i+1) * R.size≤l.length * R.size:=Nat.mul_le_mul_right _ hi
    rw [Nat.add_mul] at this;omega)
  rw [this,flat_get hl (by rw [List.getElem?_map,h5];rfl) hj]
  exact hu
theorem SOwn.free (h:R.SOwn E by_ w B f (some ⟨g,0,none⟩) c l) (j:Nat):w.frozen? ⟨g,j,none⟩=false:=by
  obtain ⟨_,ps,rfl,_,h4,_⟩:=h
  exact h4.free j
end

section
variable {P:Program} {R:Rep α} {by_:Nat}
theorem own_blk (A:Option Addr) (n c:Nat):(Value.slice A n c).ownBlock.toList=blkOf A:=by cases A<;>rfl
theorem run_append_rep (ty:TypeId) (base:Nat) (t e:TypeId) (i:TypeInfo) (z:Value) (ht:P.underlying t=some (.slice e)) (hi:P.info? e=some i) (hz:i.zero=some z)
    (hsize:i.size=R.size) (hby:i.bytes=by_) (hzs:z.cells.size=R.size) (hsz:0<R.size) (hzG:∀ (j:Nat) u,z.cells[j]? =some u→R.raw j u)
    (f:List Nat) (A:Option Addr) (c:Nat) (l:List α) (h:R.SOwn e by_ w base f A c l)
    (A2:Option Addr) (m c2:Nat) (k:List α) (qs:List (List Nat×List Value)) (hq:All2 (fun x a=>R.own w base x.1 x.2 a) qs k) (hm:k.length=m) (hr:Rd w R.size A2 m (qs.map (·.2)).flatten)
    (hnd:(f++(qs.map (·.1)).flatten).Nodup) (h63:l.length+m≤9223372036854775807) (hbytes:(l.length+m) * by_≤140737488355328) (hbase:base≤w.heap.size):
    ∃ A' c' f' w',(Builtin.append_ #[t,t] ty #[.slice A l.length c, .slice A2 m c2]).run P w= .ok (.slice A' (l.length+m) c') w'∧R.SOwn e by_ w' base f' A' c' (l++k)∧w.grownBy w' (Value.slice A l.length c).ownBlock∧(A'=A∨∃ a,A'=some a∧a.block=w.heap.size)∧(∀ x∈f',x∈f∨x∈(qs.map (·.1)).flatten∨x=w.heap.size)∧(A'=none↔A=none∧m=0)∧base≤w'.heap.size:=by
  obtain ⟨h1,ps,rfl,h3,h4,h5⟩:=h
  have hnews:∀ (j:Nat) u,(qs.map (·.2)).flatten[j]? =some u→R.raw (j % R.size) u:=by
    intro j u hu
    have hl:=olens hq
    have hlt:=(List.getElem?_eq_some_iff.1 hu).1
    rw [flat_len hl,List.length_map] at hlt
    have hj:j % R.size<R.size:=Nat.mod_lt _ hsz
    have hd:j / R.size<qs.length:=by rw [Nat.div_lt_iff_lt_mul hsz];exact hlt
    have hqg:qs[j / R.size]? =some (qs[j / R.size]'hd):=List.getElem?_eq_getElem hd
    have hkg:k[j / R.size]? =some (k[j / R.size]'(by rw [← hq.length];exact hd)):=List.getElem?_eq_getElem _
    obtain ⟨x,hx,ho⟩:=hq.at_ hkg
    have:=flat_get (j:=j % R.size) hl (i:=j / R.size) (es:=x.2) (by rw [List.getElem?_map,hx];rfl) hj
    rw [show j / R.size * R.size+j % R.size=j from by rw [Nat.mul_comm];exact Nat.div_add_mod j R.size,hu] at this
    exact R.raw_ (R.ohas ho) _ u this.symm
  have hone:∀ u∈(qs.map (·.2)).flatten,u.oneCell'=true:=by
    intro u hu
    obtain ⟨y,hy,hu⟩:=List.mem_flatten.1 hu
    obtain ⟨x,hx,rfl⟩:=List.mem_map.1 hy
    obtain ⟨a,ha⟩:=hq.left x hx
    exact R.one (R.ohas ha) u hu
  obtain ⟨v',w',hrun,hown,hgrow,hnil,hat⟩:=run_append_all (P:=P) w base t ty e i z R.size by_ ht hi hz hsize hby hzs hsz R.raw hzG _ _ _ h4 A2 m c2 _ hr hone hnews (by unfold maxLen;omega) hbytes hbase
  obtain ⟨A',c',rfl,hle,hmx,hrd,hbl,hnn⟩:=hown.shape
  have hlt4:∀ x,(Value.slice A l.length c).ownBlock=some x→x∈blkOf A:=fun x hx=>by rw [← own_blk A l.length c,hx];simp
  have hA:∀ x∈blkOf A',x∈blkOf A∨x=w.heap.size:=by
    intro x hx
    rw [← own_blk A' (l.length+m) c'] at hx
    rcases hat with hat | hat
    · rw [hat,own_blk] at hx;exact .inl hx
    · rw [hat] at hx;simp at hx;exact .inr hx
  have hps:∀ x∈ps,∀ y∈x.1,y<w.heap.size∧y∉blkOf A:=by
    intro x hx y hy
    obtain ⟨a,ha⟩:=h5.left x hx
    refine ⟨(R.olt ha y hy).2,fun hb=> ?_⟩
    rw [List.nodup_append] at h3
    exact h3.2.2 y hb y (List.mem_flatten.2 ⟨x.1,List.mem_map.2 ⟨x,hx,rfl⟩,hy⟩) rfl
  have hqs:∀ x∈qs,∀ y∈x.1,y<w.heap.size∧y∉blkOf A:=by
    intro x hx y hy
    obtain ⟨a,ha⟩:=hq.left x hx
    refine ⟨(R.olt ha y hy).2,fun hb=> ?_⟩
    rw [List.nodup_append] at hnd
    exact hnd.2.2 y (List.mem_append_left _ hb) y (List.mem_flatten.2 ⟨x.1,List.mem_map.2 ⟨x,hx,rfl⟩,hy⟩) rfl
  have hblk:∀ y,y<w.heap.size→y∉blkOf A→w'.heap[y]? =w.heap[y]? :=fun y hy hn=>hgrow.block y hy fun e=>hn (hlt4 y e.symm)
  have hkeep:∀ x∈ps++qs,∀ y∈x.1,y<w.heap.size∧y∉blkOf A:=fun x hx=>by
    rcases List.mem_append.1 hx with hx | hx
    · exact hps x hx
    · exact hqs x hx
  refine ⟨A',c',blkOf A'++((ps++qs).map (·.1)).flatten,w',hrun,⟨by rw [List.length_append,hm];exact hbytes,ps++qs,rfl, ?_, ?_, ?_⟩,hgrow, ?_, ?_, ?_,Nat.le_trans hbase hgrow.size⟩
  · rw [List.append_assoc,← List.flatten_append,← List.map_append,List.nodup_append] at hnd
    rw [List.nodup_append]
    refine ⟨by cases A'<;>simp [blkOf],hnd.2.1,fun x hx y hy e=> ?_⟩
    subst e
    obtain ⟨z,hz,hy⟩:=List.mem_flatten.1 hy
    obtain ⟨v,hv,rfl⟩:=List.mem_map.1 hz
    have h6:=hkeep v hv x hy
    rcases hA x hx with h7 | h7
    · exact h6.2 h7
    · omega
  · rw [List.map_append,List.flatten_append,List.length_append,hm];exact hown
  · exact (h5.app hq).imp fun x a hx ho=>R.okeep ho fun y hy=>hblk y (hkeep x hx y hy).1 (hkeep x hx y hy).2
  · rcases hat with hat | hat
    · cases A' with
      | none =>
        cases A with
        | none=>exact .inl rfl
        | some a=>cases hat
      | some a' =>
        cases A with
        | none=>cases hat
        | some a =>
          obtain ⟨_,h6⟩:=h4
          obtain ⟨_,h7⟩:=hown
          rcases h6 with ⟨h6,_⟩ | ⟨g,cap,cur,h6,_⟩
          · cases h6
          rcases h7 with ⟨h7,_⟩ | ⟨g',cap',cur',h7,_⟩
          · cases h7
          injection h6 with h6
          injection h7 with h7
          rw [h6,h7] at hat ⊢
          injection hat with hat
          have hat:g'=g:=hat
          left;rw [hat]
    · cases A' with
      | none=>cases hat
      | some a'=>injection hat with hat;exact .inr ⟨a',rfl,hat⟩
  · intro x hx
    rcases List.mem_append.1 hx with hx | hx
    · rcases hA x hx with h | h
      · exact .inl (List.mem_append_left _ h)
      · exact .inr (.inr h)
    · rw [List.map_append,List.flatten_append] at hx
      rcases List.mem_append.1 hx with hx | hx
      · exact .inl (List.mem_append_right _ hx)
      · exact .inr (.inl hx)
  · have hA0:A=none→Value.slice A l.length c= .slice none 0 0:=fun e=>by
      obtain ⟨_,_,e4,_,_,_,_,hn4⟩:=h4.shape
      injection e4 with e1 _ e2
      subst e1;subst e2;exact hn4 e
    constructor
    · intro e
      obtain ⟨h6,h7⟩:=hnil.1 (hnn e)
      injection h6 with h6
      exact ⟨h6,h7⟩
    · rintro ⟨e,h0⟩
      have:=hnil.2 ⟨hA0 e,h0⟩
      injection this
theorem wp_append_rep {o:Oper} {a:Act} {K:Act→World→Prop} {Q:Exit→Act→World→Prop} (s x:Operand) (base:Nat) (t e:TypeId) (i:TypeInfo) (z:Value) (ht:P.underlying t=some (.slice e)) (hi:P.info? e=some i) (hz:i.zero=some z)
    (hsize:i.size=R.size) (hby:i.bytes=by_) (hzs:z.cells.size=R.size) (hsz:0<R.size) (hzG:∀ (j:Nat) u,z.cells[j]? =some u→R.raw j u)
    (f:List Nat) (A:Option Addr) (c:Nat) (l:List α) (h:R.SOwn e by_ w base f A c l)
    (A2:Option Addr) (m c2:Nat) (k:List α) (qs:List (List Nat×List Value)) (hq:All2 (fun x a=>R.own w base x.1 x.2 a) qs k) (hm:k.length=m) (hr:Rd w R.size A2 m (qs.map (·.2)).flatten)
    (hnd:(f++(qs.map (·.1)).flatten).Nodup) (h63:l.length+m≤9223372036854775807) (hbytes:(l.length+m) * by_≤140737488355328) (hbase:base≤w.heap.size)
    (ho:o.op= .call {callee:= .builtin .append,args:=#[s,x],argTypes:=#[t,t]}) (hs:a.eval s= .slice A l.length c) (hx:a.eval x= .slice A2 m c2)
    (hK:∀ A' c' f' w',R.SOwn e by_ w' base f' A' c' (l++k)∧w.grownBy w' (Value.slice A l.length c).ownBlock∧(A'=A∨∃ a,A'=some a∧a.block=w.heap.size)∧(∀ x∈f',x∈f∨x∈(qs.map (·.1)).flatten∨x=w.heap.size)∧(A'=none↔A=none∧m=0)∧base≤w'.heap.size→K (a.put o.dst (.slice A' (l.length+m) c')) w'):o.wp P a w K Q:=by
  obtain ⟨A',c',f',w',hrun,h2⟩:=run_append_rep (P:=P) (w:=w) o.type base t e i z ht hi hz hsize hby hzs hsz hzG f A c l h A2 m c2 k qs hq hm hr hnd h63 hbytes hbase
  unfold Oper.wp execOp
  simp only [ho,resolve,invoke,builtin,Sem.run_bind,Sem.run_pure,Result.andThen_ok,List.map_toArray,List.map_cons,List.map_nil,hs,hx,hrun]
  exact hK A' c' f' w' h2
theorem wpList_append_rep {ops:Array Oper} {rest:List Oper} {o:Oper} {a:Act} {Q:Exit→Act→World→Prop} (hgd:o.guard=none) (s x:Operand) (base:Nat) (t e:TypeId) (i:TypeInfo) (z:Value) (ht:P.underlying t=some (.slice e)) (hi:P.info? e=some i) (hz:i.zero=some z)
    (hsize:i.size=R.size) (hby:i.bytes=by_) (hzs:z.cells.size=R.size) (hsz:0<R.size) (hzG:∀ (j:Nat) u,z.cells[j]? =some u→R.raw j u)
    (f:List Nat) (A:Option Addr) (c:Nat) (l:List α) (h:R.SOwn e by_ w base f A c l)
    (A2:Option Addr) (m c2:Nat) (k:List α) (qs:List (List Nat×List Value)) (hq:All2 (fun x a=>R.own w base x.1 x.2 a) qs k) (hm:k.length=m) (hr:Rd w R.size A2 m (qs.map (·.2)).flatten)
    (hnd:(f++(qs.map (·.1)).flatten).Nodup) (h63:l.length+m≤9223372036854775807) (hbytes:(l.length+m) * by_≤140737488355328) (hbase:base≤w.heap.size)
    (ho:o.op= .call {callee:= .builtin .append,args:=#[s,x],argTypes:=#[t,t]}) (hs:a.eval s= .slice A l.length c) (hx:a.eval x= .slice A2 m c2)
    (hK:∀ A' c' f' w',R.SOwn e by_ w' base f' A' c' (l++k)∧w.grownBy w' (Value.slice A l.length c).ownBlock∧(A'=A∨∃ a,A'=some a∧a.block=w.heap.size)∧(∀ x∈f',x∈f∨x∈(qs.map (·.1)).flatten∨x=w.heap.size)∧(A'=none↔A=none∧m=0)∧base≤w'.heap.size→wpList P ops Q rest (a.put o.dst (.slice A' (l.length+m) c')) w'):wpList P ops Q (o::rest) a w :=
  wpList_plain hgd fun _ hK2=>wp_append_rep s x base t e i z ht hi hz hsize hby hzs hsz hzG f A c l h A2 m c2 k qs hq hm hr hnd h63 hbytes hbase ho hs hx fun A' c' f' w' h2=>hK2 _ _ (hK A' c' f' w' h2)
def Plain (R:Rep α):Prop:=∀ {w B cs a},R.has w cs a→R.own w B [] cs a
theorem flat_plain {size:Nat} {cells:α→List Value} {ok:α→Prop} {raw:Nat→Value→Prop} {hl h1 hr}:(flat size cells ok raw hl h1 hr).Plain:=fun h=>⟨rfl,h⟩
theorem flatO_plain {size:Nat} {cells:α→List Value} {ok:α→Prop} {raw:Nat→Value→Prop} {hl h1 hr}:(flatO size cells ok raw hl h1 hr).Plain:=fun h=>⟨rfl,h⟩
theorem All2.plain {ess:List (List Value)} {l:List α} (hp:R.Plain) (h:All2 (fun es a=>R.has w es a) ess l):All2 (fun x a=>R.own w B x.1 x.2 a) (ess.map fun es=>(([]:List Nat),es)) l :=
  All2.map_ (P:=fun (x:List Nat×List Value) a=>R.own w B x.1 x.2 a) (fun es=>(([]:List Nat),es)) (h.imp fun _ _ _ h=>hp h)
theorem plain_map (ess:List (List Value)):((ess.map fun es=>(([]:List Nat),es)).map (·.1)).flatten= []∧(ess.map fun es=>(([]:List Nat),es)).map (·.2)=ess:=by
  constructor
  · induction ess with
    | nil=>rfl
    | cons x r ih=>simp
  · rw [List.map_map]
    exact List.map_id' ess
theorem SOwn.of_plain {E:TypeId} {A:Option Addr} {c:Nat} {l:List α} (hp:R.Plain) {ess:List (List Value)} (h:All2 (fun es a=>R.has w es a) ess l) (hb:l.length * by_≤140737488355328) (ho:Own w B E R.size R.raw (.slice A l.length c) l.length ess.flatten):R.SOwn E by_ w B (blkOf A) A c l:=by
  obtain ⟨e1,e2⟩:=plain_map ess
  exact ⟨hb,_,by rw [e1,List.append_nil],by cases A<;>simp [blkOf],by rw [e2];exact ho,All2.plain hp h⟩
theorem SOwn.fp {E:TypeId} {A:Option Addr} {c:Nat} {l:List α} (hp:∀ {w B f cs a},R.own w B f cs a→f= []) (h:R.SOwn E by_ w B f A c l):f=blkOf A:=by
  obtain ⟨_,ps,rfl,_,_,h5⟩:=h
  have:(ps.map (·.1)).flatten= []:=by
    rw [List.flatten_eq_nil_iff]
    intro x hx
    obtain ⟨y,hy,rfl⟩:=List.mem_map.1 hx
    obtain ⟨a,ha⟩:=h5.left y hy
    exact hp ha
  rw [this,List.append_nil]
end
end Rep
end Go.Proofs.YtlikikpgmmkjbaaGreat
set_option linter.unusedVariables false
set_option linter.unusedSimpArgs false
namespace Go.Proofs.YtlikikpgmmkjbaaGreat
open Go.RowKit

theorem flat_raw {α:Type} {R:Rep α} {w:World} {ess:List (List Value)} {l:List α} (h:All2 (fun es a=>R.has w es a) ess l) (h0:0<R.size) {j:Nat} {u:Value} (hu:ess.flatten[j]? =some u):R.raw (j % R.size) u:=by
  have hl:=Rep.lens h
  have hlt:=(List.getElem?_eq_some_iff.1 hu).1
  rw [flat_len hl] at hlt
  have hj:j % R.size<R.size:=Nat.mod_lt _ h0
  have hd:j / R.size<ess.length:=by rw [Nat.div_lt_iff_lt_mul h0];exact hlt
  have hsum:j / R.size * R.size+j % R.size=j:=by rw [Nat.mul_comm];exact Nat.div_add_mod j R.size
  have h6:=flat_get (j:=j % R.size) hl (i:=j / R.size) (es:=ess[j / R.size]'hd) (List.getElem?_eq_getElem hd) hj
  rw [hsum,hu] at h6
  obtain ⟨a,ha⟩:=h.left _ (List.getElem_mem hd)
  exact R.raw_ ha _ u h6.symm
namespace Rep
variable {α:Type} {w w':World} {B:Nat} {f:List Nat} {R:Rep α} {E:TypeId} {A:Option Addr} {by_ g c:Nat} {l:List α}
def Bare (R:Rep α):Prop:=R.Plain∧∀ {w B f cs a},R.own w B f cs a→f= []
theorem flat_bare {size:Nat} {cells:α→List Value} {ok:α→Prop} {raw:Nat→Value→Prop} {hl h1 hr}:(flat size cells ok raw hl h1 hr).Bare:=⟨flat_plain,fun h=>h.1⟩
theorem flatO_bare {size:Nat} {cells:α→List Value} {ok:α→Prop} {raw:Nat→Value→Prop} {hl h1 hr}:(flatO size cells ok raw hl h1 hr).Bare:=⟨flatO_plain,fun h=>h.1⟩
theorem SOwn.setj (h:R.SOwn E by_ w B f (some ⟨g,0,none⟩) c l) (hp:R.Bare) {i j:Nat} {a a':α} {u:Value} (hi:l[i]? =some a) (hj:j<R.size) (hu:∀ cs,R.has w cs a→R.has (w.setCell ⟨g,i * R.size+j,none⟩ u) (cs.set j u) a'):
    R.SOwn E by_ (w.setCell ⟨g,i * R.size+j,none⟩ u) B f (some ⟨g,0,none⟩) c (l.set i a'):=by
  obtain ⟨hb,ps,rfl,hn,ho,hall⟩:=h
  obtain ⟨x,hx,hxo⟩:=hall.at_ hi
  have hl:=olens hall
  have hx1:x.1= []:=hp.2 hxo
  have hxl:x.2.length=R.size:=R.olen hxo
  have hnew:=hu x.2 (R.ohas hxo)
  have hraw:R.raw j u:=R.raw_ hnew j u (by rw [List.getElem?_set_self (by omega)])
  have h9:=ho.stored (i * R.size+j) u (by rw [Nat.mul_comm,Nat.mul_add_mod,Nat.mod_eq_of_lt hj];exact hraw)
  rw [flat_set u hl (i:=i) (es:=x.2) (by rw [List.getElem?_map,hx];rfl) hj] at h9
  have hlt:=(List.getElem?_eq_some_iff.1 hx).1
  have e1:(ps.set i (x.1,x.2.set j u)).map (·.1)=ps.map (·.1):=by
    rw [List.map_set]
    have:(ps.map (·.1))[i]? =some x.1:=by rw [List.getElem?_map,hx];rfl
    obtain ⟨h2,h3⟩:=List.getElem?_eq_some_iff.1 this
    conv=>lhs;rw [← h3]
    exact List.set_getElem_self _
  have e2:(ps.set i (x.1,x.2.set j u)).map (·.2)=(ps.map (·.2)).set i (x.2.set j u):=by rw [List.map_set]
  have hdiff:∀ y∈ps,∀ q∈y.1,q≠g:=fun y hy q hq e=>by
    obtain ⟨b,hb'⟩:=hall.left y hy
    rw [hp.2 hb'] at hq
    simp at hq
  have hall2:All2 (fun x a=>R.own (w.setCell ⟨g,i * R.size+j,none⟩ u) B x.1 x.2 a) ps l:=hall.imp fun y a hy hyo=>R.okeep hyo fun q hq=>heap_setCell_other _ _ _ _ (hdiff y hy q hq)
  refine ⟨by rw [List.length_set];exact hb,ps.set i (x.1,x.2.set j u),by rw [e1],hn,by rw [List.length_set,e2];exact h9, ?_⟩
  exact hall2.set_ (P:=fun (x:List Nat×List Value) a=>R.own (w.setCell ⟨g,i * R.size+j,none⟩ u) B x.1 x.2 a) (by rw [hx1];exact hp.1 hnew)
theorem SOwn.other (h:R.SOwn E by_ w B f A c l) {p:Addr} (hp:p.block∉f) (u:Value):R.SOwn E by_ (w.setCell p u) B f A c l :=
  h.keep fun g hg=>heap_setCell_other _ _ _ _ fun e=>hp (e ▸ hg)
theorem SOwn.drewN (h:R.SOwn E by_ w B f A c l) (k:Nat):R.SOwn E by_ (w.drewN k) B f A c l:=h.keep fun _ _=>rfl
theorem SOwn.drew (h:R.SOwn E by_ w B f A c l):R.SOwn E by_ w.drew B f A c l:=h.keep fun _ _=>rfl
end Rep
end Go.Proofs.YtlikikpgmmkjbaaGreat
namespace Go.Proofs.YtlikikpgmmkjbaaGreat
def inB (n lo hi:Int):Bool:=decide (lo≤n) && decide (n≤hi)
theorem inB_true {n lo hi:Int} (h:inB n lo hi=true):lo≤n∧n≤hi:=by simpa [inB] using h
theorem inB_false {n lo hi:Int} (h:inB n lo hi=false):n<lo∨hi<n:=by
  simp [inB] at h
  omega
theorem inB_mk {n lo hi:Int} (h1:lo≤n) (h2:n≤hi):inB n lo hi=true:=by simp [inB,h1,h2]
theorem inB_not {n lo hi:Int} (h:n<lo∨hi<n):inB n lo hi=false:=by
  cases hb:inB n lo hi with
  | false=>rfl
  | true=>have:=inB_true hb;omega
end Go.Proofs.YtlikikpgmmkjbaaGreat
namespace Go.Proofs.YtlikikpgmmkjbaaGreat
def idxI {α:Type} (p:α→Bool) (l:List α):Int:=match l.findIdx? p with | some k=>(k:Int) | none=> -1
theorem idxI_some {α:Type} {p:α→Bool} {l:List α} {k:Nat} (hk:k<l.length) (h1:p l[k]=true) (h2:∀ j (hj:j<k),p (l[j]'(by omega))=false):idxI p l=(k:Int):=by
  unfold idxI
  have:l.findIdx? p=some k:=by
    rw [List.findIdx?_eq_some_iff_getElem]
    exact ⟨hk,h1,fun j hj=>by rw [h2 j hj];simp⟩
  rw [this]
theorem idxI_none {α:Type} {p:α→Bool} {l:List α} (h2:∀ j (hj:j<l.length),p l[j]=false):idxI p l= -1:=by
  unfold idxI
  have:l.findIdx? p=none:=by
    rw [List.findIdx?_eq_none_iff]
    intro x hx
    obtain ⟨j,hj,rfl⟩:=List.mem_iff_getElem.1 hx
    exact h2 j hj
  rw [this]
theorem idxI_any {α:Type} (p:α→Bool) (l:List α):decide (0≤idxI p l)=l.any p:=by
  by_cases h:∀ j (hj:j<l.length),p l[j]=false
  · rw [idxI_none h]
    have:l.any p=false:=by
      rw [List.any_eq_false]
      intro x hx
      obtain ⟨j,hj,rfl⟩:=List.mem_iff_getElem.1 hx
      rw [h j hj];simp
    rw [this];rfl
  · have:l.any p=true:=by
      rw [List.any_eq_true]
      simp only [Classical.not_forall] at h
      obtain ⟨j,hj,h⟩:=h
      exact ⟨l[j],List.getElem_mem hj,by simpa using h⟩
    rw [this]
    unfold idxI
    cases hf:l.findIdx? p with
    | none =>
      rw [List.findIdx?_eq_none_iff] at hf
      rw [List.any_eq_true] at this
      obtain ⟨x,hx,hp⟩:=this
      rw [hf x hx] at hp;cases hp
    | some k=>simp
theorem idxI_cases {α:Type} (p:α→Bool) (l:List α):idxI p l= -1∧(∀ x∈l,p x=false)∨∃ (k:Nat) (h:k<l.length),idxI p l=(k:Int)∧p l[k]=true∧∀ j (hj:j<k),p (l[j]'(by omega))=false:=by
  unfold idxI
  cases hf:l.findIdx? p with
  | none=>exact .inl ⟨rfl,fun x hx=>List.findIdx?_eq_none_iff.1 hf x hx⟩
  | some k =>
    obtain ⟨h1,h2,h3⟩:=List.findIdx?_eq_some_iff_getElem.1 hf
    exact .inr ⟨k,h1,rfl,h2,fun j hj=>by have:=h3 j hj;simpa using this⟩
end Go.Proofs.YtlikikpgmmkjbaaGreat
set_option linter.unusedVariables false
set_option linter.unusedSimpArgs false
namespace Go.Proofs.YtlikikpgmmkjbaaGreat
open Go.RowKit Go.Maps

def setMap (w:World) (b:Nat) (es:Array MapEntry) (clock:Nat):World:=Go.ChangeMaps.setBlock w b (.map es clock)
theorem setMap_heap {w:World} {b:Nat} {es:Array MapEntry} {clock:Nat} (h:b<w.heap.size):(setMap w b es clock).heap[b]? =some (.map es clock):=by
  simp [setMap,Go.ChangeMaps.setBlock,h]
theorem setMap_other {w:World} {b g:Nat} {es:Array MapEntry} {clock:Nat} (h:g≠b):(setMap w b es clock).heap[g]? =w.heap[g]? :=by
  simp [setMap,Go.ChangeMaps.setBlock,Array.getElem?_setIfInBounds_ne (Ne.symm h)]
theorem setMap_size {w:World} {b:Nat} {es:Array MapEntry} {clock:Nat}:(setMap w b es clock).heap.size=w.heap.size:=by
  simp [setMap,Go.ChangeMaps.setBlock]
theorem setMap_below {B:Nat} {a w:World} {b:Nat} {es:Array MapEntry} {clock:Nat} (h:Below B a w) (hb:B≤b):Below B a (setMap w b es clock):=
  h.trans ⟨rfl,rfl,rfl,by simp [setMap_size],fun k hk=>setMap_other (by omega)⟩
def entOf {κ:Type} (key:κ→Value) (e:κ×Int×Nat):MapEntry:=⟨key e.1, .int .i64 e.2.1,e.2.2⟩
structure MapIs {κ:Type} (key:κ→Value) (w:World) (b:Nat) (l:List (κ×Int×Nat)) (clock:Nat):Prop where
  blk:w.heap[b]? =some (.map (l.map (entOf key)).toArray clock)
  born:∀ e∈l,e.2.2<clock
  stamps:(l.map (·.2.2)).Nodup
structure KeyOk {κ:Type} (P:Program) (k:TypeId) (key:κ→Value) (wf:κ→Prop):Prop where
  keyed:Keyed P k
  lit:∀ x,wf x→∃ l,keyOf P k (key x)=some l
  inj:∀ x y,key x=key y→x=y
namespace MapIs
section
variable {κ:Type} {key:κ→Value} {w:World} {b:Nat} {l:List (κ×Int×Nat)} {clock:Nat}
theorem lt (h:MapIs key w b l clock):b<w.heap.size:=(Array.getElem?_eq_some_iff.1 h.blk).1
theorem keep {w':World} (h:MapIs key w b l clock) (hk:w'.heap[b]? =w.heap[b]?):MapIs key w' b l clock:=⟨hk.trans h.blk,h.born,h.stamps⟩
theorem later {w':World} (h:MapIs key w b l clock) (hb:Below w.heap.size w w'):MapIs key w' b l clock:=h.keep (hb.block b h.lt)
theorem made (w:World):MapIs key (w.alloc (.map #[] 0)) w.heap.size [] 0:=⟨heap_alloc_new w _,(by simp),(by simp)⟩
theorem keyed_ {P:Program} {k:TypeId} {wf:κ→Prop} (K:KeyOk P k key wf) (hw:∀ e∈l,wf e.1):∀ y∈l.map (entOf key),∃ z,keyOf P k y.key=some z:=by
  intro y hy
  obtain ⟨a,ha,rfl⟩:=List.mem_map.1 hy
  exact K.lit a.1 (hw a ha)
end
variable {κ:Type} [DecidableEq κ] {key:κ→Value} {w:World} {b:Nat} {l:List (κ×Int×Nat)} {clock:Nat}
def get (l:List (κ×Int×Nat)) (x:κ):Option Int:=(l.find? fun e=>decide (e.1=x)).map (·.2.1)
def put (l:List (κ×Int×Nat)) (clock:Nat) (x:κ) (v:Int):List (κ×Int×Nat):=
  if l.any (fun e=>decide (e.1=x)) then l.map (fun e=>if e.1=x then (e.1,v,e.2.2) else e) else l++ [(x,v,clock)]
def tick (l:List (κ×Int×Nat)) (clock:Nat) (x:κ):Nat:=if l.any (fun e=>decide (e.1=x)) then clock else clock+1
theorem get_put (l:List (κ×Int×Nat)) (c:Nat) (x y:κ) (v:Int):get (put l c x v) y=if y=x then some v else get l y:=by
  unfold get put
  by_cases h:l.any (fun e=>decide (e.1=x))=true
  · rw [if_pos h]
    induction l with
    | nil=>simp at h
    | cons e r ih =>
      rw [List.map_cons]
      by_cases hex:e.1=x
      · rw [if_pos hex]
        by_cases hy:y=x
        · subst hy
          rw [List.find?_cons_of_pos (by simp [hex])]
          simp
        · rw [if_neg hy,List.find?_cons_of_neg (by simp [hex,Ne.symm hy]),List.find?_cons_of_neg (by simp [hex,Ne.symm hy])]
          by_cases hr:r.any (fun e=>decide (e.1=x))=true
          · have:=ih hr
            rw [if_neg hy] at this
            exact this
          · have e0:r.map (fun e=>if e.1=x then (e.1,v,e.2.2) else e)=r:=by
              conv=>rhs;rw [← List.map_id r]
              refine List.map_congr_left fun a ha=> ?_
              rw [if_neg];rfl
              intro he
              exact hr (List.any_eq_true.2 ⟨a,ha,by simp [he]⟩)
            rw [e0]
      · rw [if_neg hex]
        have hr:r.any (fun e=>decide (e.1=x))=true:=by simpa [hex] using h
        by_cases hey:e.1=y
        · have hyx:¬ y=x:=fun h=>hex (hey.trans h)
          rw [List.find?_cons_of_pos (by simp [hey]),List.find?_cons_of_pos (by simp [hey]),if_neg hyx]
        · rw [List.find?_cons_of_neg (by simp [hey]),List.find?_cons_of_neg (by simp [hey])]
          exact ih hr
  · rw [if_neg h,List.find?_append]
    by_cases hy:y=x
    · subst hy
      have:l.find? (fun e=>decide (e.1=y))=none:=by
        rw [List.find?_eq_none]
        intro e he hd
        exact h (List.any_eq_true.2 ⟨e,he,hd⟩)
      rw [this];simp
    · rw [if_neg hy]
      cases l.find? (fun e=>decide (e.1=y))<;>simp [Ne.symm hy]
theorem mem_put {l:List (κ×Int×Nat)} {c:Nat} {x:κ} {v:Int} {wf:κ→Prop} (hl:∀ e∈l,wf e.1) (hx:wf x):∀ e∈put l c x v,wf e.1:=by
  intro e he
  unfold put at he
  split at he
  · obtain ⟨a,ha,rfl⟩:=List.mem_map.1 he
    split
    · exact hl a ha
    · exact hl a ha
  · rcases List.mem_append.1 he with he | he
    · exact hl e he
    · simp at he;subst he;exact hx
theorem get_of {l:List (κ×Int×Nat)} (hn:(l.map (·.1)).Nodup) {j n:Nat} {x:κ} {v:Int} (hj:l[j]? =some (x,v,n)):get l x=some v:=by
  unfold get
  induction l generalizing j with
  | nil=>simp at hj
  | cons e r ih =>
    rw [List.map_cons,List.nodup_cons] at hn
    cases j with
    | zero=>simp at hj;subst hj;simp
    | succ j =>
      have hj:r[j]? =some (x,v,n):=by simpa using hj
      have:e.1≠x:=fun he=>hn.1 (List.mem_map.2 ⟨(x,v,n),List.mem_of_getElem? hj,he.symm⟩)
      rw [List.find?_cons_of_neg (by simpa using this)]
      exact ih hn.2 hj
theorem keys_put {l:List (κ×Int×Nat)} (hn:(l.map (·.1)).Nodup) (c:Nat) (x:κ) (v:Int):((put l c x v).map (·.1)).Nodup:=by
  unfold put
  split
  · rw [List.map_map]
    have:((fun e:κ×Int×Nat=>e.1) ∘ fun e=>if e.1=x then (e.1,v,e.2.2) else e)=fun e=>e.1:=by
      funext e;simp only [Function.comp];split<;>rfl
    rw [this];exact hn
  · rename_i h
    rw [List.map_append,List.nodup_append]
    refine ⟨hn,by simp,fun a ha c hc e=> ?_⟩
    simp at hc
    obtain ⟨y,hy,rfl⟩:=List.mem_map.1 ha
    exact h (List.any_eq_true.2 ⟨y,hy,by simp [e,hc]⟩)
variable {P:Program} {k e t:TypeId} {wf:κ→Prop} (K:KeyOk P k key wf)
include K
theorem found (h:MapIs key w b l clock) (hw:∀ e∈l,wf e.1) (x:κ) (hx:wf x):
    ((Instr.findKey k (key x) (l.map (entOf key))).run P w= .ok none w∧get l x=none∧∀ a∈l,a.1≠x)∨
    ∃ (j:Nat) (v:Int) (n:Nat),(Instr.findKey k (key x) (l.map (entOf key))).run P w= .ok (some (j, .int .i64 v)) w∧l[j]? =some (x,v,n):=by
  obtain ⟨lx,hlx⟩:=K.lit x hx
  rcases K.keyed.find w hlx (l.map (entOf key)) (keyed_ K hw) with ⟨h1,h2⟩ | ⟨j,e0,h1,h2,h3⟩
  · have hno:∀ a∈l,a.1≠x:=fun a ha hax=>h2 (entOf key a) (List.mem_map.2 ⟨a,ha,rfl⟩) (by simp [entOf,hax])
    refine .inl ⟨h1, ?_,hno⟩
    unfold get
    rw [List.find?_eq_none.2 fun a ha=>by simpa using hno a ha];rfl
  · rw [List.getElem?_map] at h2
    cases hj:l[j]? with
    | none=>rw [hj] at h2;cases h2
    | some a =>
      rw [hj] at h2
      obtain rfl:=Option.some.inj h2
      obtain rfl:a.1=x:=K.inj _ _ h3
      exact .inr ⟨j,a.2.1,a.2.2,h1,hj⟩
theorem lookup (ht:P.underlying t=some (.map k e)) (hz:(zeroValue e).run P w= .ok (.int .i64 0) w) (h:MapIs key w b l clock) (hw:∀ e∈l,wf e.1) (hn:(l.map (·.1)).Nodup) (x:κ) (hx:wf x):
    (Instr.lookup t (.map (some b)) (key x) false).run P w= .ok (.int .i64 ((get l x).getD 0)) w∧
    (Instr.lookup t (.map (some b)) (key x) true).run P w= .ok (.tuple #[.int .i64 ((get l x).getD 0), .bool (get l x).isSome]) w:=by
  obtain ⟨lx,hlx⟩:=K.lit x hx
  rcases found K h hw x hx with ⟨h1,h2,_⟩ | ⟨j,v,n,h1,h2⟩
  · rw [h2]
    constructor<;>simp [Instr.lookup,run_underlying ht,MapKept.run_getObj_map h.blk,K.keyed.check w _ hlx,h1,hz,Result.andThen]
  · rw [get_of hn h2]
    constructor<;>simp [Instr.lookup,run_underlying ht,MapKept.run_getObj_map h.blk,K.keyed.check w _ hlx,h1,Result.andThen]
theorem entry (ht:P.underlying t=some (.map k e)) (hz:∀ u:World,(zeroValue e).run P u= .ok (.int .i64 0) u) (h:MapIs key w b l clock) (hw:∀ e∈l,wf e.1) (hn:(l.map (·.1)).Nodup) (x:κ) (hx:wf x):
    ∃ (st:Nat) (l1:List (κ×Int×Nat)) (c1:Nat),(∀ n,(Instr.mapEntry t (.map (some b)) (key x)).run P (w.drewN n)= .ok (.tuple #[.int .i64 ((get l x).getD 0), .int .i64 (st:Int)]) ((setMap w b (l1.map (entOf key)).toArray c1).drewN n))∧
      MapIs key (setMap w b (l1.map (entOf key)).toArray c1) b l1 c1∧(∀ e∈l1,wf e.1)∧(l1.map (·.1)).Nodup∧get l1 x=some ((get l x).getD 0)∧
      ∀ v n,(Instr.entryStore t (.map (some b)) (.int .i64 (st:Int)) (.int .i64 v)).run P ((setMap w b (l1.map (entOf key)).toArray c1).drewN n)= .ok () ((setMap w b ((put l clock x v).map (entOf key)).toArray (tick l clock x)).drewN n)∧
        MapIs key (setMap w b ((put l clock x v).map (entOf key)).toArray (tick l clock x)) b (put l clock x v) (tick l clock x):=by
  obtain ⟨lx,hlx⟩:=K.lit x hx
  have hb:=h.blk
  have hlt:=h.lt
  have hbn:∀ n,(w.drewN n).heap[b]? =some (.map (l.map (entOf key)).toArray clock):=fun n=>hb
  have idxOf:∀ (m:List (κ×Int×Nat)) (j:Nat) (a:κ×Int×Nat),(m.map (·.2.2)).Nodup→m[j]? =some a→((m.map (entOf key)).toArray).findIdx? (fun y=>((y.born:Nat):Int)== ((a.2.2:Nat):Int))=some j:=by
    intro m j a hm hj
    rw [Go.WideElems.findIdx_arr]
    refine Go.WideElems.findIdx_born (l:=m.map (entOf key)) (j:=j) (e0:=entOf key a) ?_ (by rw [List.getElem?_map,hj];rfl)
    rw [List.map_map];exact hm
  rcases found K h hw x hx with ⟨h1,h2,h3⟩ | ⟨j,v0,n0,h1,h2⟩
  · have hany:l.any (fun e=>decide (e.1=x))=false:=by
      rw [Bool.eq_false_iff];intro ha
      obtain ⟨a,ha,hd⟩:=List.any_eq_true.1 ha
      exact h3 a ha (by simpa using hd)
    have hput:∀ v,put l clock x v=l++ [(x,v,clock)]:=fun v=>by unfold put;rw [if_neg (by rw [hany];decide)]
    have htick:tick l clock x=clock+1:=by unfold tick;rw [if_neg (by rw [hany];decide)]
    have hst:∀ v,MapIs key (setMap w b ((l++ [(x,v,clock)]).map (entOf key)).toArray (clock+1)) b (l++ [(x,v,clock)]) (clock+1):=fun v=>by
      refine ⟨setMap_heap hlt,fun a ha=> ?_, ?_⟩
      · rcases List.mem_append.1 ha with ha | ha
        · have:=h.born a ha;omega
        · simp at ha;subst ha;simp
      · rw [List.map_append,List.nodup_append]
        refine ⟨h.stamps,by simp,fun a ha c hc e=> ?_⟩
        simp at hc
        obtain ⟨y,hy,rfl⟩:=List.mem_map.1 ha
        have:=h.born y hy
        omega
    have h1n:∀ n,(Instr.findKey k (key x) (l.map (entOf key))).run P (w.drewN n)= .ok none (w.drewN n):=fun n=>by
      rcases found (w:=w.drewN n) K ⟨hbn n,h.born,h.stamps⟩ hw x hx with ⟨h1,_,_⟩ | ⟨j,v,m,_,hj⟩
      · exact h1
      · exact absurd rfl (h3 _ (List.mem_of_getElem? hj))
    refine ⟨clock,l++ [(x,0,clock)],clock+1,fun n=> ?_,hst 0,fun a ha=> ?_, ?_, ?_,fun v n=> ?_⟩
    · rw [h2]
      have:(l.map (entOf key)).toArray.push (⟨key x, .int .i64 0,clock⟩:MapEntry)=((l++ [(x,0,clock)]).map (entOf key)).toArray:=by simp [entOf]
      simp [Instr.mapEntry,run_underlying ht,MapKept.run_getObj_map (hbn n),K.keyed.check (w.drewN n) false hlx,h1n n,hz,MapKept.run_setObj_map _ (hbn n),Result.andThen,setMap,Go.ChangeMaps.setBlock,goInt,entOf]
      rfl
    · rcases List.mem_append.1 ha with ha | ha
      · exact hw a ha
      · simp at ha;subst ha;exact hx
    · have:=keys_put hn clock x 0
      rw [hput] at this;exact this
    · have:=get_put l clock x x 0
      rw [hput,if_pos rfl] at this
      rw [this,h2];rfl
    · rw [hput,htick]
      refine ⟨?_,hst v⟩
      have hidx:=idxOf (l++ [(x,0,clock)]) l.length (x,0,clock) (hst 0).stamps (by simp)
      have hmod:((l++ [(x,0,clock)]).map (entOf key)).toArray.modify l.length (fun e=> {e with val:=Value.int .i64 v})=((l++ [(x,v,clock)]).map (entOf key)).toArray:=by
        apply Array.ext'
        rw [Array.toList_modify]
        have hlen:l.length=(l.map (entOf key)).length:=by simp
        rw [hlen]
        simp only [List.map_append,List.map_cons,List.map_nil]
        rw [Go.WideElems.modify_last]
        rfl
      have hb1:((setMap w b ((l++ [(x,0,clock)]).map (entOf key)).toArray (clock+1)).drewN n).heap[b]? =some (.map ((l++ [(x,0,clock)]).map (entOf key)).toArray (clock+1)):=setMap_heap hlt
      have hrun:(Instr.entryStore t (.map (some b)) (goInt clock) (.int .i64 v)).run P ((setMap w b ((l++ [(x,0,clock)]).map (entOf key)).toArray (clock+1)).drewN n)= .ok () (setMap ((setMap w b ((l++ [(x,0,clock)]).map (entOf key)).toArray (clock+1)).drewN n) b ((l++ [(x,v,clock)]).map (entOf key)).toArray (clock+1)):=by
        rw [← hmod]
        simp only [Instr.entryStore,Sem.run_bind,MapKept.run_getObj_map hb1,Result.andThen_ok,asInt,asIntOf,goInt,Sem.run_pure]
        rw [hidx]
        exact MapKept.run_setObj_map _ hb1
      refine hrun.trans ?_
      simp [setMap,Go.ChangeMaps.setBlock,World.drewN]
  · have hany:l.any (fun e=>decide (e.1=x))=true:=List.any_eq_true.2 ⟨_,List.mem_of_getElem? h2,by simp⟩
    have hput:∀ v,put l clock x v=l.map (fun e=>if e.1=x then (e.1,v,e.2.2) else e):=fun v=>by unfold put;rw [if_pos hany]
    have htick:tick l clock x=clock:=by unfold tick;rw [if_pos hany]
    have hget:=get_of hn h2
    have hset:∀ v,l.map (fun e=>if e.1=x then (e.1,v,e.2.2) else e)=l.set j (x,v,n0):=by
      intro v
      refine List.ext_getElem? fun i=> ?_
      rw [List.getElem?_map]
      by_cases hij:j=i
      · subst hij
        rw [h2,List.getElem?_set_self (List.getElem?_eq_some_iff.1 h2).1]
        simp
      · rw [List.getElem?_set_ne hij]
        cases hi:l[i]? with
        | none=>rfl
        | some a =>
          have:a.1≠x:=by
            intro hax
            have hi':=(List.getElem?_eq_some_iff.1 hi)
            have hj':=(List.getElem?_eq_some_iff.1 h2)
            have e1:(l.map (·.1))[i]? =(l.map (·.1))[j]? :=by rw [List.getElem?_map,List.getElem?_map,hi,h2];simp [hax]
            obtain ⟨hl1,_⟩:=hi'
            obtain ⟨hl2,_⟩:=hj'
            have:=(List.getElem?_inj (by simpa using hl1) hn).1 e1
            exact hij this.symm
          simp [this]
    have h1n:∀ n,(Instr.findKey k (key x) (l.map (entOf key))).run P (w.drewN n)= .ok (some (j, .int .i64 v0)) (w.drewN n):=fun n=>by
      rcases found (w:=w.drewN n) K ⟨hbn n,h.born,h.stamps⟩ hw x hx with ⟨_,_,h3⟩ | ⟨j',v,m,h1',hj⟩
      · exact absurd rfl (h3 (x,v0,n0) (List.mem_of_getElem? h2))
      · have e1:(l.map (·.1))[j']? =(l.map (·.1))[j]? :=by rw [List.getElem?_map,List.getElem?_map,hj,h2];rfl
        have:=(List.getElem?_inj (by simpa using (List.getElem?_eq_some_iff.1 hj).1) hn).1 e1
        subst this
        rw [h2] at hj
        injection hj with hj
        injection hj with _ hj
        injection hj with hj1 _
        rw [h1',hj1]
    have hst:∀ v,MapIs key (setMap w b ((l.set j (x,v,n0)).map (entOf key)).toArray clock) b (l.set j (x,v,n0)) clock:=fun v=>by
      refine ⟨setMap_heap hlt,fun a ha=> ?_, ?_⟩
      · rcases List.mem_or_eq_of_mem_set ha with ha | ha
        · exact h.born a ha
        · rw [ha];exact h.born (x,v0,n0) (List.mem_of_getElem? h2)
      · rw [List.map_set]
        have:(l.map (·.2.2)).set j n0=l.map (·.2.2):=by
          have hlj:=(List.getElem?_eq_some_iff.1 h2)
          obtain ⟨hl1,hl2⟩:=hlj
          have e:(l.map (·.2.2))[j]'(by simpa using hl1)=n0:=by rw [List.getElem_map,hl2]
          conv=>lhs;rw [← e]
          exact List.set_getElem_self _
        rw [this];exact h.stamps
    refine ⟨n0,l,clock,fun n=> ?_,⟨setMap_heap hlt,h.born,h.stamps⟩,hw,hn,by rw [hget];rfl,fun v n=> ?_⟩
    · rw [hget]
      have hj:(l.map (entOf key)).toArray[j]? =some (entOf key (x,v0,n0)):=by simp [h2]
      have hsame:(l.map (entOf key)).toArray.modify j (fun e=> {e with key:=key x})=(l.map (entOf key)).toArray:=by
        apply Array.ext'
        rw [Array.toList_modify,Go.ChangeMaps.modify_eq_set _ _ _ _ (by rw [List.getElem?_map,h2];rfl)]
        exact Go.WideElems.set_self _ _ _ (by rw [List.getElem?_map,h2];rfl)
      have hke:(entOf key (x,v0,n0)).key=key x:=rfl
      have hbo:(entOf key (x,v0,n0)).born=n0:=rfl
      simp only [Instr.mapEntry,Sem.run_bind,run_underlying ht,Result.andThen_ok,MapKept.run_getObj_map (hbn n),K.keyed.check (w.drewN n) false hlx,h1n n,hj,Option.map_some,Option.getD_some,hke,K.keyed.stays (w.drewN n) hlx,hsame,MapKept.run_setObj_map _ (hbn n),hbo,Sem.run_pure]
      rfl
    · rw [hput,htick,hset]
      refine ⟨?_,hst v⟩
      have hidx:=idxOf l j (x,v0,n0) h.stamps h2
      have hmod:(l.map (entOf key)).toArray.modify j (fun e=> {e with val:=Value.int .i64 v})=((l.set j (x,v,n0)).map (entOf key)).toArray:=by
        apply Array.ext'
        rw [Array.toList_modify,Go.ChangeMaps.modify_eq_set _ _ _ _ (by rw [List.getElem?_map,h2];rfl),List.map_set]
        rfl
      have hb1:((setMap w b (l.map (entOf key)).toArray clock).drewN n).heap[b]? =some (.map (l.map (entOf key)).toArray clock):=setMap_heap hlt
      have hrun:(Instr.entryStore t (.map (some b)) (goInt n0) (.int .i64 v)).run P ((setMap w b (l.map (entOf key)).toArray clock).drewN n)= .ok () (setMap ((setMap w b (l.map (entOf key)).toArray clock).drewN n) b ((l.set j (x,v,n0)).map (entOf key)).toArray clock):=by
        rw [← hmod]
        simp only [Instr.entryStore,Sem.run_bind,MapKept.run_getObj_map hb1,Result.andThen_ok,asInt,asIntOf,goInt,Sem.run_pure]
        rw [hidx]
        exact MapKept.run_setObj_map _ hb1
      refine hrun.trans ?_
      simp [setMap,Go.ChangeMaps.setBlock,World.drewN]
end MapIs
end Go.Proofs.YtlikikpgmmkjbaaGreat
set_option linter.unusedVariables false
set_option linter.unusedSimpArgs false
namespace Go.Proofs.YtlikikpgmmkjbaaGreat
open Go.RowKit

theorem run_enter {P:Program} {w:World} {o:Oper} {a:Act} (f:FuncId) (fn:Func) (hf:P.funcs[f]? =some fn) (hn:(fn.name == "runtime.NumGoroutine")=false) (hb:fn.body.isNone=false)
    (xs:Array Operand) (ts:Array TypeId) (hop:o.op=Op.call {callee:=Callee.value (Operand.func f),args:=xs,argTypes:=ts}) (args:Array Value) (hargs:xs.map a.eval=args):
    (execOp a.eval o).run P w= .ok (.enter f args) w:=by
  unfold execOp
  have he:a.eval (.func f)= .func (.func f) #[] #[]:=rfl
  have hp:Sem.run P program w= .ok P w:=rfl
  simp only [hop,resolve,invoke,Deferred.ofValue,he,callFunc,Sem.run_bind,Sem.run_pure,Result.andThen_ok,hargs,hp,hf,hn,hb,Array.empty_append,Array.append_empty,Bool.false_eq_true,if_false]
theorem step_call {P:Program} {ops:Array Oper} {o:Oper} {a:Act} {w:World} {K:Act→World→Prop} {Q:Exit→Act→World→Prop} {E:Prop}
    (hg:o.guard=none) (f:FuncId) (fn:Func) (hf:P.funcs[f]? =some fn) (hn:(fn.name == "runtime.NumGoroutine")=false) (hb:fn.body.isNone=false)
    (xs:Array Operand) (ts:Array TypeId) (hop:o.op=Op.call {callee:=Callee.value (Operand.func f),args:=xs,argTypes:=ts}) (args:Array Value) (hargs:xs.map a.eval=args)
    (hc:Calls P f args w fun e w'=>∃ v,e= .returned v∧K (a.put o.dst v) w'):
    if Region.wanted o (yielded ops a.tmps)=true then Oper.wp P o a w K Q else E:=by
  have hw:Region.wanted o (yielded ops a.tmps)=true:=by simp [Region.wanted,hg]
  rw [if_pos hw]
  unfold Oper.wp
  rw [run_enter f fn hf hn hb xs ts hop args hargs,Oper.upon_enter]
  refine hc.mono fun e w'' hh=> ?_
  obtain ⟨v,rfl,h⟩:=hh
  exact h
theorem below_on {wr w1 w':World} (h:Below wr.heap.size wr w1) (h2:Below w1.heap.size w1 w'):Below wr.heap.size wr w':=h.trans (h2.mono h.size)
theorem below_onD {wr w1 w':World} (h:Below wr.heap.size wr w1) (h2:Below w1.drew.heap.size w1.drew w'):Below wr.heap.size wr w':=h.drew.trans (h2.mono h.size)
theorem wp_region_below {P:Program} {id:Nat} {Q:Exit→Act→World→Prop} {a:Act} {w:World} {l:List Oper} (hm:P.follows .mixedOrders=true) (hB:Region.lexB .any l.toArray=true)
    (h:wpQuiet P l.toArray (fun w'=>Below w.heap.size w w') (fun a'=>∀ w',Below w.heap.size w w'→Q .normal a' w') l a):(Code.region id l.toArray true).wp P Q a w :=
  wp_region_quiet (C:=fun w'=>Below w.heap.size w w') hm hB (below_drewN (Below.refl _ w) 1) (by simpa using h)
theorem quiet_val {P:Program} {o:Oper} {a:Act} {C:World→Prop} {w:World} {v:Value} (h:(execOp a.eval o).run P w= .ok (.value v) w):o.quietAt P a C w v:=by
  unfold Oper.quietAt
  rw [h]
  exact ⟨rfl,rfl⟩
theorem quiet_call {P:Program} {o:Oper} {a:Act} {C:World→Prop} {w:World} {v:Value} {f:FuncId} {args:Array Value} (h:(execOp a.eval o).run P w= .ok (.enter f args) w) (hc:Calls P f args w fun e w''=>e= .returned v∧C w''):o.quietAt P a C w v:=by
  unfold Oper.quietAt
  rw [h]
  exact ⟨rfl,hc⟩
theorem quiet_val2 {P:Program} {o:Oper} {a:Act} {C:World→Prop} {w:World} {v:Value} {r:Result Next} (h:(execOp a.eval o).run P w=r) (hr:r= .ok (.value v) w):o.quietAt P a C w v:=quiet_val (h.trans hr)
theorem quiet_call2 {P:Program} {o:Oper} {a:Act} {C:World→Prop} {w:World} {v:Value} {f:FuncId} {args:Array Value} {r:Result Next} (h:(execOp a.eval o).run P w=r) (hr:r= .ok (.enter f args) w) (hc:Calls P f args w fun e w''=>e= .returned v∧C w''):o.quietAt P a C w v:=quiet_call (h.trans hr) hc
end Go.Proofs.YtlikikpgmmkjbaaGreat
set_option linter.unusedVariables false
set_option linter.unusedSimpArgs false
namespace Go.Proofs.YtlikikpgmmkjbaaGreat
open Go.RowKit
abbrev Ext (w w':World):Prop:=Below w.heap.size w w'
theorem Ext.rf (w:World):Ext w w:=Below.refl _ w
theorem Ext.tr {a b c:World} (h:Ext a b) (k:Ext b c):Ext a c:=Below.trans h (Below.mono k h.size)
section
variable {P:Program} {ops:Array Oper} {Q:Exit→Act→World→Prop} {kd:Nat→Nat}
def qUpon (P:Program) (w:World) (v:Value):Result Next→Prop
  | .ok (.value u) w'=>w'=w∧u=v
  | .ok .skip w'=>w'=w∧v=undef
  | .ok (.enter f args) w'=>w'=w∧Calls P f args w (fun e w''=>e= .returned v∧Ext w w'')
  | _=>False
def QIn (P:Program) (ops:Array Oper) (w0:World) (o:Oper) (v:Value) (a:Act):Prop :=
  (Region.wanted o (yielded ops a.tmps)=true∧∀ w,Ext w0 w→qUpon P w v ((execOp a.eval o).run P w))∨
  (Region.wanted o (yielded ops a.tmps)=false∧v=undef)
theorem QIn.of_same {w0:World} {o:Oper} {v:Value} {a a':Act} (h:QIn P ops w0 o v a) (he:execOp a'.eval o=execOp a.eval o) (hw:Region.wanted o (yielded ops a'.tmps)=Region.wanted o (yielded ops a.tmps)):QIn P ops w0 o v a':=by
  unfold QIn at *;rw [he,hw];exact h
theorem QIn.on {w0 w1:World} {o:Oper} {v:Value} {a:Act} (h:QIn P ops w0 o v a) (hx:Ext w0 w1):QIn P ops w1 o v a :=
  h.imp (fun ⟨h1,h2⟩=>⟨h1,fun w hw=>h2 w (hx.tr hw)⟩) id
theorem Yields.qin {w0:World} {o:Oper} {v:Value} {a:Act} (h:Yields P ops o v a):QIn P ops w0 o v a :=
  h.imp (fun ⟨h1,h2⟩=>⟨h1,fun w _=>by rw [h2 w];exact ⟨rfl,rfl⟩⟩) id
def stepF (P:Program) (ops:Array Oper) (Q:Exit→Act→World→Prop) (kd:Nat→Nat) (i:Nat) (K:Act→World→Prop) (a:Act) (w0:World):Prop :=
  ∃ o,ops[i]? =some o∧
    ((kd i≤1∧∃ v,QIn P ops w0 o v a∧K (a.put o.dst v) w0)∨
     (1<kd i∧∀ w,Ext w0 w→wpOp P ops Q i (fun a' w'=>(kd i=2→Ext w0 w')∧K a' w') a w))
def anyF (P:Program) (ops:Array Oper) (Q:Exit→Act→World→Prop) (kd:Nat→Nat):Nat→Array Bool→Act→World→Prop
  | 0,l,a,w0=>Region.ready .any ops l= []∧∀ w,Ext w0 w→Q .normal a w
  | f+1,l,a,w0=>(Region.ready .any ops l= []→∀ w,Ext w0 w→Q .normal a w)∧∀ i∈Region.ready .any ops l,stepF P ops Q kd i (anyF P ops Q kd f (l.setIfInBounds i true)) a w0
theorem any_of_F:∀ (f:Nat) (l:Array Bool) (a:Act) (w0:World),anyF P ops Q kd f l a w0→∀ w,Ext w0 w→wpAny P .any ops Q f l a w
  | 0,_,_,_,h,w,hw=>⟨h.1,h.2 w hw⟩
  | f+1,l,a,w0,h,w,hw=>⟨fun h0=>h.1 h0 w hw,fun i hi=>by
      obtain ⟨o,ho,h2⟩:=h.2 i hi
      rcases h2 with ⟨_,v,hq,hk⟩ | ⟨_,h2⟩
      · unfold wpOp
        simp only [ho]
        rcases hq with ⟨hw1,hq⟩ | ⟨hw1,rfl⟩
        · rw [if_pos hw1]
          refine .inl ?_
          have hq:=hq w hw
          unfold Oper.wp
          generalize (execOp a.eval o).run P w=r at *
          cases r with
          | ok n w' =>
            cases n<;>simp only [qUpon] at hq<;>simp only [Oper.upon]
            case value u=>obtain ⟨rfl,rfl⟩:=hq;exact any_of_F f _ _ _ hk _ hw
            case skip=>obtain ⟨rfl,rfl⟩:=hq;exact any_of_F f _ _ _ hk _ hw
            case enter f' args=>obtain ⟨rfl,hc⟩:=hq;exact hc.mono fun e w'' ⟨he,hx⟩=>by subst he;exact any_of_F f _ _ _ hk _ (hw.tr hx)
          | halt x w'=>simp only [qUpon] at hq
        · rw [if_neg (by rw [hw1];decide)]
          exact any_of_F f _ _ _ hk _ hw
      · exact wpOp_mono (fun a' w' h3=>any_of_F f _ _ _ h3.2 _ (Ext.rf w')) (h2 w hw)⟩
theorem wpOp_putZ {Z:Act→Prop} {j:Nat} {dst:Option Tmp} {oj:Oper} {v:Value} (hj:ops[j]? =some oj) (h1:∀ d,dst=some d→d∉oj.looksAt ops) (h2:∀ d,dst=some d→oj.dst≠some d)
    (hsj:∀ cs b,oj.op≠ .select cs b) (hQ:∀ c a w,¬ Q (.panic c) a w) (keep:∀ a u,Z a→Z (a.put oj.dst u)) (keepD:∀ a d,Z a→Z {a with defers:=d::a.defers})
    {K:Act→World→Prop} {a:Act} {w:World} (hy:Z a) (h:wpOp P ops Q j K (a.put dst v) w):wpOp P ops Q j (fun a' w'=>Z a'∧K (a'.put dst v) w') a w:=by
  unfold wpOp at *
  simp only [hj] at *
  rw [wanted_put oj a dst v h1] at h
  by_cases hw:Region.wanted oj (yielded ops a.tmps)=true
  · rw [if_pos hw] at h ⊢
    rcases h with h | ⟨hasks,hlets⟩
    case inr=>exact .inr ⟨by unfold Oper.asks at *;rw [execOp_put oj hsj a dst v h1] at hasks;exact hasks,hlets⟩
    refine .inl ?_
    unfold Oper.wp at *
    rw [execOp_put oj hsj a dst v h1] at h
    generalize (execOp a.eval oj).run P w=r at *
    cases r with
    | ok n w' =>
      cases n<;>simp only [Oper.upon] at h ⊢
      case value u=>exact ⟨keep a u hy,by rw [← Act.put_comm a v u h2];exact h⟩
      case skip=>exact ⟨keep a _ hy,by rw [← Act.put_comm a v undef h2];exact h⟩
      case defer d =>
        refine ⟨keep _ _ (keepD a d hy), ?_⟩
        rw [← Act.put_comm _ v undef h2,← Act.put_defers]
        exact h
      case enter f args =>
        refine Calls.mono h fun e w'' he=> ?_
        cases e with
        | returned u=>exact ⟨keep a u hy,by rw [← Act.put_comm a v u h2];exact he⟩
        | panicked c=>exact (hQ _ _ _ he).elim
        | outgrown=>exact he
      case row row args=>exact Rows.mono h fun u w'' he=>⟨keep a u hy,by rw [← Act.put_comm a v u h2];exact he⟩
    | halt x w' =>
      cases x<;>simp only [Oper.upon] at h ⊢
      case panic u=>exact (hQ _ _ _ h).elim
  · rw [if_neg hw] at h ⊢
    exact ⟨keep a _ hy,by rw [← Act.put_comm a v undef h2];exact h⟩
theorem firstF {i:Nat} {oi:Oper} {v:Value} (hi:ops[i]? =some oi) (hk:kd i≤1) (hsel:∀ (j:Nat) (o:Oper) cs b,ops[j]? =some o→o.op≠ .select cs b)
    (hQ:∀ c a w,¬ Q (.panic c) a w) (Z:World→Act→Prop) (z1:∀ w0 a,Z w0 a→QIn P ops w0 oi v a)
    (z2:∀ w0 a a',Z w0 a→execOp a'.eval oi=execOp a.eval oi→Region.wanted oi (yielded ops a'.tmps)=Region.wanted oi (yielded ops a.tmps)→Z w0 a')
    (z3:∀ w0 w1 a,Ext w0 w1→Z w0 a→Z w1 a) (R:Nat→Bool) (l0:Array Bool)
    (hR:∀ j oj,ops[j]? =some oj→j≠i→(∀ e∈oj.after,Region.binds .any e=true→R e.on=true)→R j=true)
    (hB:(∀ w0 w1 a,Z w0 a→Z w1 a)∨∀ j,R j=true→3≤kd j→l0.getD j true=true):
    ∀ (f:Nat) (l:Array Bool) (a:Act) (w0:World),(∀ j,l.getD j false=true→R j=true)→(∀ j,l0.getD j true=true→l.getD j true=true)→
      (∀ j oj,ops[j]? =some oj→j≠i→l.getD j true=false→(∀ e∈oj.after,Region.binds .any e=true→e.on≠i)→oi.apart ops oj=true)→
      i∈Region.ready .any ops l→Z w0 a→anyF P ops Q kd f (l.setIfInBounds i true) (a.put oi.dst v) w0→anyF P ops Q kd (f+1) l a w0:=by
  intro f
  induction f with
  | zero =>
    intro l a w0 _ _ _ hr hz H
    refine ⟨fun h=>(by rw [h] at hr;cases hr),fun j hj=> ?_⟩
    by_cases hji:j=i
    · subst hji;exact ⟨oi,hi, .inl ⟨hk,v,z1 _ _ hz,H⟩⟩
    · have:=ready_mono hj hji
      rw [H.1] at this
      cases this
  | succ f ih =>
    intro l a w0 hlR hl0 hfree hr hz H
    refine ⟨fun h=>(by rw [h] at hr;cases hr),fun j hj=> ?_⟩
    by_cases hji:j=i
    · subst hji;exact ⟨oi,hi, .inl ⟨hk,v,z1 _ _ hz,H⟩⟩
    · obtain ⟨oj,hoj,h1⟩:=H.2 j (ready_mono hj hji)
      obtain ⟨hjun,oj',hoj',hall⟩:=mem_ready.1 hj
      obtain rfl:oj'=oj:=by rw [hoj] at hoj';exact (Option.some.inj hoj').symm
      have hnot:∀ e∈oj'.after,Region.binds .any e=true→e.on≠i:=fun e he hb heq=>by
        have h1:=hall e he hb
        have h0:=(mem_ready.1 hr).1
        rw [heq] at h1
        rcases Nat.lt_or_ge i l.size with h' | h'
        · simp [h'] at h0 h1;rw [h0] at h1;cases h1
        · simp [Array.getElem?_eq_none h'] at h1
      have hap:=hfree j oj' hoj hji hjun hnot
      obtain ⟨a1,a2,a3⟩:=Oper.apart_spec hap
      have hsi:∀ cs b,oi.op≠ .select cs b:=fun cs b=>hsel i oi cs b hi
      have hsj:∀ cs b,oj'.op≠ .select cs b:=fun cs b=>hsel j oj' cs b hoj
      have keep:∀ w1 a u,Z w1 a→Z w1 (a.put oj'.dst u):=fun w1 a u hz=>z2 _ _ _ hz (execOp_put oi hsi a oj'.dst u a3) (wanted_put oi a oj'.dst u a3)
      have hRj:R j=true:=hR j oj' hoj hji fun e he hb=>hlR _ (hall e he hb)
      have hlR':∀ k,(l.setIfInBounds j true).getD k false=true→R k=true:=fun k hk=>by
        by_cases hjk:j=k
        · rw [← hjk];exact hRj
        · rw [getD_set_ne false hjk] at hk;exact hlR k hk
      have hl0':∀ k,l0.getD k true=true→(l.setIfInBounds j true).getD k true=true:=fun k hk=>by
        by_cases hjk:j=k
        · subst hjk
          rcases Nat.lt_or_ge j l.size with h' | h'
          · simp [h']
          · simp [Array.getElem?_eq_none h']
        · rw [getD_set_ne true hjk];exact hl0 k hk
      have hfree':∀ k ok,ops[k]? =some ok→k≠i→(l.setIfInBounds j true).getD k true=false→
          (∀ e∈ok.after,Region.binds .any e=true→e.on≠i)→oi.apart ops ok=true:=fun k ok hk hki hun hno=>by
        refine hfree k ok hk hki ?_ hno
        by_cases hjk:j=k
        · subst hjk;exact hjun
        · rw [getD_set_ne true hjk] at hun;exact hun
      have hri:=ready_mono hr (Ne.symm hji)
      rcases h1 with ⟨hkj,u,hq,hK⟩ | ⟨hkj,h1⟩
      · refine ⟨oj',hoj, .inl ⟨hkj,u,hq.of_same (execOp_put oj' hsj a oi.dst v a1).symm (wanted_put oj' a oi.dst v a1).symm, ?_⟩⟩
        refine ih _ _ _ hlR' hl0' hfree' hri (keep _ _ _ hz) ?_
        rw [Array.setIfInBounds_comm _ _ hji,← Act.put_comm a v u a2]
        exact hK
      · refine ⟨oj',hoj, .inr ⟨hkj,fun w hw=> ?_⟩⟩
        refine wpOp_mono (fun a' w' h3=>⟨h3.2.1, ?_⟩) (wpOp_putZ (Z:=Z w0) hoj a1 a2 hsj hQ (keep w0) (fun a d hz=>z2 _ _ _ hz rfl rfl) hz (h1 w hw))
        have hzw:Z w' a':=by
          rcases Nat.lt_or_ge (kd j) 3 with hlt | hge
          · exact z3 _ _ _ (h3.2.1 (by omega)) h3.1
          · rcases hB with hB | hB
            · exact hB _ _ _ h3.1
            · have:=hl0 j (hB j hRj hge);rw [hjun] at this;cases this
        refine ih _ _ _ hlR' hl0' hfree' hri hzw ?_
        rw [Array.setIfInBounds_comm _ _ hji]
        exact h3.2.2
def wpFlow (P:Program) (ops:Array Oper) (Q:Exit→Act→World→Prop) (kd:Nat→Nat):List Nat→Act→World→Prop
  | [],a,w0=>∀ w,Ext w0 w→Q .normal a w
  | i::r,a,w0=>∃ o,ops[i]? =some o∧
      ((kd i=0∧∃ v,QIn P ops w0 o v a∧wpFlow P ops Q kd r (a.put o.dst v) w0)∨
       (kd i=1∧∃ v,Yields P ops o v a∧wpFlow P ops Q kd r (a.put o.dst v) w0)∨
       (1<kd i∧∀ w,Ext w0 w→wpOp P ops Q i (fun a' w'=>(kd i=2→Ext w0 w')∧wpFlow P ops Q kd r a' w') a w))
def satur (ops:Array Oper) (i:Nat):Array Bool :=
  ops.foldl (init:=#[]) fun acc o=>acc.push (acc.size != i && o.after.all fun e=> !Region.binds .any e || acc.getD e.on false)
def barOk (ops:Array Oper) (kd:Nat→Nat) (l:Array Bool) (i:Nat):Bool :=
  (List.range ops.size).all (fun j=>l.getD j true || Nat.blt (kd j) 3) ||
  (let R:=satur ops i
   (List.range ops.size).all fun j=>(j == i || R.getD j false || !((ops[j]?).map (·.after.all fun e=> !Region.binds .any e || R.getD e.on false)).getD false) && (!l.getD j false || R.getD j false) && (!R.getD j false || Nat.blt (kd j) 3 || l.getD j true))
def flowB (ops:Array Oper) (kd:Nat→Nat):List Nat→Array Bool→Bool
  | [],l=>(Region.ready .any ops l).isEmpty
  | i::r,l=>(match kd i with
      | 0=>Region.free .any ops l i && (Region.ready .any ops l).contains i && barOk ops kd l i
      | 1=>Region.free .any ops l i && (Region.ready .any ops l).contains i
      | _=>Region.ready .any ops l == [i]) && flowB ops kd r (l.setIfInBounds i true)
theorem barOk_spec {l:Array Bool} {i:Nat} (hl:l.size=ops.size) (h:barOk ops kd l i=true):∃ R:Nat→Bool,
    (∀ j oj,ops[j]? =some oj→j≠i→(∀ e∈oj.after,Region.binds .any e=true→R e.on=true)→R j=true)∧
    (∀ j,l.getD j false=true→R j=true)∧(∀ j,R j=true→3≤kd j→l.getD j true=true):=by
  unfold barOk at h
  have out:∀ j,¬ j<ops.size→l.getD j true=true:=fun j hj=>by simp [Array.getElem?_eq_none (by omega:l.size≤j)]
  rw [Bool.or_eq_true] at h
  rcases h with h | h
  · refine ⟨fun _=>true,fun _ _ _ _ _=>rfl,fun _ _=>rfl,fun j _ h3=> ?_⟩
    by_cases hj:j<ops.size
    · have:=List.all_eq_true.1 h j (List.mem_range.2 hj)
      rw [Bool.or_eq_true] at this
      rcases this with h | h
      · exact h
      · rw [Nat.blt_eq] at h;omega
    · exact out j hj
  · refine ⟨fun j=>(satur ops i).getD j false,fun j oj hoj hji hd=> ?_,fun j hj=> ?_,fun j hj h3=> ?_⟩
    · have hlt:=(Array.getElem?_eq_some_iff.1 hoj).1
      have:=List.all_eq_true.1 h j (List.mem_range.2 hlt)
      simp only [hoj,Option.map_some,Option.getD_some,Bool.and_eq_true,Bool.or_eq_true,beq_iff_eq,hji,false_or,Bool.not_eq_true'] at this
      rcases this.1.1 with h | h
      · exact h
      · have hall:oj.after.all (fun e=> !Region.binds .any e || (satur ops i).getD e.on false)=true:=by
          rw [Array.all_eq_true_iff_forall_mem]
          intro e he
          cases hb:Region.binds .any e
          · rfl
          · have:=hd e he hb;simp only at this;simp [this]
        rw [hall] at h;cases h
    · have hlt:j<ops.size:=by
        rcases Nat.lt_or_ge j l.size with h' | h'
        · omega
        · simp [Array.getElem?_eq_none h'] at hj
      have:=List.all_eq_true.1 h j (List.mem_range.2 hlt)
      simp only [Bool.and_eq_true,Bool.or_eq_true,Bool.not_eq_true'] at this
      rcases this.1.2 with h | h
      · rw [h] at hj;cases hj
      · exact h
    · by_cases hlt:j<ops.size
      · have:=List.all_eq_true.1 h j (List.mem_range.2 hlt)
        simp only [Bool.and_eq_true,Bool.or_eq_true,Bool.not_eq_true'] at this
        rcases this.2 with (h | h) | h
        · simp only at hj;rw [h] at hj;cases hj
        · (rw [Nat.blt_eq] at h;omega)
        · exact h
      · exact out j hlt
theorem any_of_flow (hs:Region.noSelect ops=true) (hQ:∀ c a w,¬ Q (.panic c) a w):∀ (r:List Nat) (l:Array Bool) (a:Act) (w0:World),l.size=ops.size→flowB ops kd r l=true→wpFlow P ops Q kd r a w0→anyF P ops Q kd r.length l a w0
  | [],l,a,w0,_,hB,h=>⟨by simpa [flowB] using hB,h⟩
  | i::r,l,a,w0,hl,hB,h=>by
    obtain ⟨o,ho,h⟩:=h
    have hsel:=Region.noSelect_spec hs
    rcases h with ⟨hk,v,hq,hK⟩ | ⟨hk,v,hq,hK⟩ | ⟨hk,h⟩
    · simp only [flowB,hk,Bool.and_eq_true] at hB
      obtain ⟨⟨⟨hf,hr⟩,hb⟩,hB⟩:=hB
      obtain ⟨R,r1,r2,r3⟩:=barOk_spec hl hb
      exact firstF ho (by omega) hsel hQ (fun w0 a=>QIn P ops w0 o v a) (fun _ _ h=>h) (fun _ _ _ h he hw=>h.of_same he hw) (fun _ _ _ hx h=>h.on hx) R l r1 (.inr r3) _ _ _ _ r2 (fun _ h=>h) (Region.free_spec ho hf) (by simpa using hr) hq
        (any_of_flow hs hQ r _ _ _ (by simpa using hl) hB hK)
    · simp only [flowB,hk,Bool.and_eq_true] at hB
      obtain ⟨⟨hf,hr⟩,hB⟩:=hB
      exact firstF ho (by omega) hsel hQ (fun _ a=>Yields P ops o v a) (fun _ _ h=>Yields.qin h) (fun _ _ _ h he hw=>h.of_same he hw) (fun _ _ _ _ h=>h) (fun _=>true) l (fun _ _ _ _ _=>rfl) (.inl fun _ _ _ h=>h) _ _ _ _ (fun _ _=>rfl) (fun _ h=>h) (Region.free_spec ho hf) (by simpa using hr) hq
        (any_of_flow hs hQ r _ _ _ (by simpa using hl) hB hK)
    · obtain ⟨k,hk2⟩:∃ k,kd i=k+2:=⟨kd i - 2,by omega⟩
      simp only [flowB,hk2,Bool.and_eq_true,beq_iff_eq] at hB
      obtain ⟨hr,hB⟩:=hB
      refine ⟨fun h0=>(by rw [hr] at h0;cases h0),fun j hj=> ?_⟩
      rw [hr] at hj
      obtain rfl:j=i:=by simpa using hj
      exact ⟨o,ho, .inr ⟨hk,fun w hw=>wpOp_mono (fun a' w' h3=>⟨h3.1,any_of_flow hs hQ r _ _ _ (by simpa using hl) hB h3.2⟩) (h w hw)⟩⟩
def nrm (K:Act→World→Prop):Exit→Act→World→Prop
  | .normal,a,w=>K a w
  | _,_,_=>False
theorem region_flow {id:Nat} {a:Act} {w:World} (τ:List Nat) (hm:P.follows .mixedOrders=true) (hB:(Region.noSelect ops && (τ.length == ops.size) && flowB ops kd τ (Array.replicate ops.size false))=true)
    (h:wpFlow P ops (nrm (Q .normal)) kd τ a w):(Code.region id ops true).wp P Q a w:=by
  simp only [Bool.and_eq_true,beq_iff_eq] at hB
  obtain ⟨⟨hs,hl⟩,hB⟩:=hB
  refine wp_mono (wp_region_any hm (Q:=nrm (Q .normal)) ?_) (fun e a w hq=>by cases e<;>first | exact hq | exact hq.elim)
  have:=any_of_flow (P:=P) hs (Q:=nrm (Q .normal)) (fun _ _ _ h=>h) τ (Array.replicate ops.size false) a w (by simp) hB h
  rw [hl] at this
  exact any_of_F _ _ _ _ this _ (Below.refl _ w).drew
end
end Go.Proofs.YtlikikpgmmkjbaaGreat
namespace Go.Proofs.YtlikikpgmmkjbaaGreat
end Go.Proofs.YtlikikpgmmkjbaaGreat
