import Derived.Lib.Hide
import Derived.WalkSpells
import Derived.WalkLawsBesides
import Derived.BigQuiet
import Derived.Deep.RegionHeld3
import Derived.Laws.CopyOwn
import Derived.Lib.Strings
import Derived.Deep.AppendLies
import Derived.Shelf.SlicesE.Clone
import Derived.Deep.Fields
import Derived.WideKeyEntry
import Derived.Handy
set_option linter.unusedVariables false
set_option linter.unusedSimpArgs false
set_option maxRecDepth 100000
set_option maxHeartbeats 4000000
namespace Go.Proofs.YtlikikpgmmkjbaaGreat
theorem Z.{u} {α:Sort u} {a:α}:a=a:=Eq.refl a
end Go.Proofs.YtlikikpgmmkjbaaGreat
namespace Go.Proofs.YtlikikpgmmkjbaaGreat.hO
open Go.RowKit
def U {n:Nat} (b:BitVec n):Int:=(b.toNat:Int)

theorem Jf {n:Nat} (b:BitVec n):0≤U b:=Int.natCast_nonneg _
theorem agm (b:BitVec 32):U b<4294967296:=by have:=b.isLt;unfold U;omega
theorem Vf (b:BitVec 64):U b<18446744073709551616:=by have:=b.isLt;unfold U;omega
theorem agl (b:BitVec 32):U b≤4294967295:=by have:=b.isLt;unfold U;omega
theorem qg {n:Nat} (b:BitVec n):BitVec.ofInt n (U b)=b:=by
  unfold U;rw [BitVec.ofInt_natCast,BitVec.ofNat_toNat,BitVec.setWidth_eq]
theorem ago (x:Int) (aE:0≤x) (γ:x<4294967296):U (BitVec.ofInt 32 x)=x:=by
  obtain ⟨m,rfl⟩:=Int.eq_ofNat_of_zero_le aE;unfold U;rw [BitVec.ofInt_natCast,BitVec.toNat_ofNat];omega
theorem agp (x:Int) (aE:0≤x) (γ:x<18446744073709551616):U (BitVec.ofInt 64 x)=x:=by
  obtain ⟨m,rfl⟩:=Int.eq_ofNat_of_zero_le aE;unfold U;rw [BitVec.ofInt_natCast,BitVec.toNat_ofNat];omega
theorem agn {n:Nat} {a b:BitVec n} (h:U a=U b):a=b:=by
  unfold U at h;exact BitVec.eq_of_toNat_eq (by omega)
theorem ON {x:Int} {b:BitVec 32} (aE:0≤x) (γ:x<4294967296) (h:BitVec.ofInt 32 x=b):x=U b:=by
  rw [← h,ago x aE γ]
theorem FY {x:Int} {b:BitVec 64} (aE:0≤x) (γ:x<18446744073709551616) (h:BitVec.ofInt 64 x=b):x=U b:=by
  rw [← h,agp x aE γ]
theorem Ju (k:IntKind) (op:BinOp) (a b:Int) (hs:k.signed=false):0≤bits op k a b∧bits op k a b<2 ^ k.bits:=by
  have hp:(0:Int)<2 ^ k.bits:=Int.pow_pos (by decide);have key:∀ n:Int,0≤k.wrap n∧k.wrap n<2 ^ k.bits:=by
    intro n;simp only [IntKind.wrap,hs,Bool.false_and,Bool.false_eq_true,if_false];exact ⟨Int.emod_nonneg _ (by omega),Int.emod_lt_of_pos _ hp⟩
  unfold bits;exact key _
theorem N0 (op:BinOp) (a b:Int):0≤bits op .u32 a b:=(Ju .u32 op a b rfl).1
theorem NZ (op:BinOp) (a b:Int):bits op .u32 a b<4294967296:=(Ju .u32 op a b rfl).2
theorem Js (op:BinOp) (a b:Int):0≤bits op .u64 a b:=(Ju .u64 op a b rfl).1
theorem Jr (op:BinOp) (a b:Int):bits op .u64 a b<18446744073709551616:=(Ju .u64 op a b rfl).2
theorem HF (k:IntKind) (n:Int):BitVec.ofInt k.bits (k.wrap n)=BitVec.ofInt k.bits n:=by
  apply BitVec.eq_of_toInt_eq;simp only [BitVec.toInt_ofInt];have h:(k.wrap n) % (2 ^ k.bits:Int)=n % (2 ^ k.bits:Int):=by
    unfold IntKind.wrap;dsimp only;split
    · rw [Int.sub_emod,Int.emod_self,Int.sub_zero,Int.emod_emod_of_dvd _ (Int.dvd_refl _),Int.emod_emod_of_dvd _ (Int.dvd_refl _)]
    · rw [Int.emod_emod_of_dvd _ (Int.dvd_refl _)]
  have e:((2 ^ k.bits:Nat):Int)=(2:Int) ^ k.bits:=by simp
  simp only [Int.bmod,e,h]

theorem aqG (n:Int):BitVec.ofInt 32 (n % 4294967296)=BitVec.ofInt 32 n:=by
  have:=HF .u32 n;rw [IntKind.wrap_u32] at this;exact this
theorem abG (n:Int):BitVec.ofInt 64 (IntKind.u64.wrap n)=BitVec.ofInt 64 n:=HF .u64 n
theorem Ru (k:IntKind) (a b:Int):BitVec.ofInt k.bits (bits .xor k a b)=BitVec.ofInt k.bits a ^^^ BitVec.ofInt k.bits b:=by
  unfold bits;rw [HF,BitVec.ofInt_natCast];dsimp only;rw [BitVec.ofNat_toNat,BitVec.setWidth_eq]
theorem aqF (k:IntKind) (a b:Int):BitVec.ofInt k.bits (bits .and k a b)=BitVec.ofInt k.bits a &&& BitVec.ofInt k.bits b:=by
  unfold bits;rw [HF,BitVec.ofInt_natCast];dsimp only;rw [BitVec.ofNat_toNat,BitVec.setWidth_eq]
theorem aqJ (k:IntKind) (a b:Int):BitVec.ofInt k.bits (bits .or k a b)=BitVec.ofInt k.bits a ||| BitVec.ofInt k.bits b:=by
  unfold bits;rw [HF,BitVec.ofInt_natCast];dsimp only;rw [BitVec.ofNat_toNat,BitVec.setWidth_eq]
theorem Rv (a b:Int):BitVec.ofInt 32 (bits .xor .u32 a b)=BitVec.ofInt 32 a ^^^ BitVec.ofInt 32 b:=Ru .u32 a b
theorem abD (a b:Int):BitVec.ofInt 32 (bits .and .u32 a b)=BitVec.ofInt 32 a &&& BitVec.ofInt 32 b:=aqF .u32 a b
theorem Rw (a b:Int):BitVec.ofInt 64 (bits .xor .u64 a b)=BitVec.ofInt 64 a ^^^ BitVec.ofInt 64 b:=Ru .u64 a b
theorem aqK (a b:Int):BitVec.ofInt 64 (bits .or .u64 a b)=BitVec.ofInt 64 a ||| BitVec.ofInt 64 b:=aqJ .u64 a b
theorem abH (a b:Int):BitVec.ofInt 64 (bits .xor .i64 a b)=BitVec.ofInt 64 a ^^^ BitVec.ofInt 64 b:=Ru .i64 a b
theorem Rt {n:Nat} (x:Int) (s:Nat) (aE:0≤x) (γ:x<2 ^ n):BitVec.ofInt n (x / 2 ^ s)=BitVec.ofInt n x >>> s:=by
  obtain ⟨m,rfl⟩:=Int.eq_ofNat_of_zero_le aE;have Kp:m<2 ^ n:=by exact_mod_cast γ
  have e:((m:Int) / 2 ^ s)=((m / 2 ^ s:Nat):Int):=by rw [Int.natCast_ediv];simp
  rw [e,BitVec.ofInt_natCast,BitVec.ofInt_natCast];apply BitVec.eq_of_toNat_eq;rw [BitVec.toNat_ushiftRight,BitVec.toNat_ofNat,BitVec.toNat_ofNat,Nat.mod_eq_of_lt Kp,Nat.shiftRight_eq_div_pow];exact Nat.mod_eq_of_lt (Nat.lt_of_le_of_lt (Nat.div_le_self _ _) Kp)

theorem aqE {n:Nat} (a b:Int):BitVec.ofInt n (a+b)=BitVec.ofInt n a+BitVec.ofInt n b:=BitVec.ofInt_add ..
theorem Rs {n:Nat} (a b:Int):BitVec.ofInt n (a * b)=BitVec.ofInt n a * BitVec.ofInt n b:=BitVec.ofInt_mul ..
theorem aqI {n:Nat} (a:Int):BitVec.ofInt n (-a)= -BitVec.ofInt n a:=BitVec.ofInt_neg ..
end Go.Proofs.YtlikikpgmmkjbaaGreat.hO
open Go.RowKit
namespace Go.Proofs.YtlikikpgmmkjbaaGreat
def axw (k:IntKind) (w:World) (a:Option Addr) (len cap:Nat) (zs:List Int):Prop :=
  (a=none∧len=0∧cap=0∧zs= [])∨
  ∃ x,a=some x∧len≤cap∧cap≤maxLen∧zs.length=cap∧(∀ i,i<zs.length→w.cell? (x.add i)=some (.int k (zs.getD i 0)))∧∀ n∈zs,(Lit.int k n).wf=true
theorem Vi (b j:Nat):(⟨b,0,none⟩:Addr).add j=⟨b,j,none⟩:=by
  unfold Addr.add;split<;>simp_all
theorem N4 {a b:ByteArray} (h:a.data.toList=b.data.toList):a=b:=ByteArray.ext (Array.toList_inj.1 h)
theorem VL (a b:ByteArray):(a.toList == b.toList)=decide (a=b):=by
  rw [ByteArray.toList_eq,ByteArray.toList_eq];by_cases h:a=b
  · subst h;simp
  · have γ:¬ a.data=b.data:=fun e=>h (ByteArray.ext e)
    simp [h,γ]
theorem VN {a b:ByteArray} (h:a=b):(a.toList == b.toList)=true:=by rw [VL];simp [h]
theorem VM {a b:ByteArray} (h:¬ a=b):(a.toList == b.toList)=false:=by rw [VL];simp [h]
theorem RX {a:Bool} (h:a=true):Ending.returned (.bool a)= .returned (.bool true):=by rw [h]
theorem CY (b off j:Nat):(⟨b,off,none⟩:Addr).add j=⟨b,off+j,none⟩:=by
  unfold Addr.add;split<;>simp_all
theorem aq4 {w w':World} {base:Nat} {e:TypeId} {size:Nat} {v:Value} {n:Nat} {xs:List Value} (h:w.ownsRow base e size v n xs) (Φ:Below w.heap.size w w'):w'.ownsRow base e size v n xs:=by
  obtain ⟨γ,aa⟩:=h;refine ⟨γ, ?_⟩;rcases aa with aa | ⟨g,cap,cur,hv,aO,ey,r⟩
  · exact .inl aa
  · exact .inr ⟨g,cap,cur,hv,aO,by rw [Φ.block g (Array.getElem?_eq_some_iff.1 ey).1];exact ey,r⟩
theorem cell_later {w w':World} (Φ:Below w.heap.size w w') {a:Addr} {v:Value} (h:w.cell? a=some v):w'.cell? a=some v:=by
  rw [Φ.cell (World.block_lt_of_cell? w a h)];exact h
theorem ahv {B:Nat} {w w':World} (Φ:Below B w w') {a:Addr} {v:Value} (h:w.cell? a=some v) (ha:a.block<B):w'.cell? a=some v:=by
  rw [Φ.cell ha];exact h
def aK (w:World) (g:Nat) (cur:List Value) (e:TypeId) (ax:Nat×Nat):Prop:=w.heap[g]? =some (.cells cur.toArray e ax)
theorem aK.lt {w:World} {g:Nat} {cur:List Value} {e:TypeId} {ax:Nat×Nat} (h:aK w g cur e ax):g<w.heap.size:=(Array.getElem?_eq_some_iff.1 h).1
theorem aK.cell {w:World} {g:Nat} {cur:List Value} {e:TypeId} {ax:Nat×Nat} (h:aK w g cur e ax) (j:Nat):w.cell? ⟨g,j,none⟩=cur[j]? :=by
  rw [cell_of_row w g j _ e ax h];simp
theorem aK.free {w:World} {g:Nat} {cur:List Value} {e:TypeId} {ax:Nat×Nat} (h:aK w g cur e ax) (j:Nat) (ay:j<ax.1∨ax.2≤j):w.frozen? ⟨g,j,none⟩=false:=by
  unfold aK at h;obtain ⟨lo,ao⟩:=ax;simp only [World.frozen?,h];simp only at ay;simp;omega
theorem aK.set {w:World} {g:Nat} {cur:List Value} {e:TypeId} {ax:Nat×Nat} (h:aK w g cur e ax) (j:Nat) (v:Value):aK (w.setCell ⟨g,j,none⟩ v) g (cur.set j v) e ax:=by
  unfold aK at *
  simp only [World.setCell,Array.getElem?_modify,h];simp
theorem aK.later {w w':World} {g:Nat} {cur:List Value} {e:TypeId} {ax:Nat×Nat} (h:aK w g cur e ax) (Φ:Below w.heap.size w w'):aK w' g cur e ax:=by
  have az:=h.lt;unfold aK at *
  rw [Φ.block g az];exact h
theorem aK.drew {w:World} {g:Nat} {cur:List Value} {e:TypeId} {ax:Nat×Nat} (h:aK w g cur e ax):aK w.drew g cur e ax:=h
theorem aK.drewN {w:World} {g:Nat} {cur:List Value} {e:TypeId} {ax:Nat×Nat} (h:aK w g cur e ax) (n:Nat):aK (w.drewN n) g cur e ax:=h
theorem aK.new (w:World) (cur:List Value) (e:TypeId) (ax:Nat×Nat):aK (w.alloc (.cells cur.toArray e ax)) w.heap.size cur e ax:=heap_alloc_new w _
theorem aK.setRow {w:World} {g:Nat} {cur:List Value} {e:TypeId} {ax:Nat×Nat} (h:aK w g cur e ax) (new:List Value):aK (w.setRow g new.toArray) g new e ax:=setRow_heap w g _ _ e ax h
theorem aK.other {w:World} {g g':Nat} {cur:List Value} {e:TypeId} {ax:Nat×Nat} (h:aK w g cur e ax) (aO:g≠g') (j:Nat) (v:Value):aK (w.setCell ⟨g',j,none⟩ v) g cur e ax:=by
  unfold aK at *
  rw [heap_setCell_other _ _ _ _ aO];exact h
theorem quiet_of {P:Program} {f:FuncId} {args:Array Value} {w:World} {n:Nat} {v:Value}
    (h:Calls P f args (w.drewN n) fun e w'=>e= .returned v∧w.drewN n=w'):Calls P f args (w.drewN n) fun e lK=>e= .returned v∧∃ m,lK=w.drewN m :=
  h.mono fun _ _ ⟨he,hm⟩=>⟨he,n,hm.symm⟩
theorem below_drewN {B:Nat} {a w:World} (h:Below B a w) (n:Nat):Below B a (w.drewN n):=⟨h.os,h.tape,h.output,h.size,h.block⟩
end Go.Proofs.YtlikikpgmmkjbaaGreat
set_option linter.unusedVariables false
set_option linter.unusedSimpArgs false
namespace Go.Proofs.YtlikikpgmmkjbaaGreat
open Go.RowKit
def Rd (w:World) (size:Nat) (A:Option Addr) (n:Nat) (xs:List Value):Prop :=
  xs.length=n * size∧(0<n→∃ b o,A=some ⟨b,o,none⟩∧∀ j u,xs[j]? =some u→w.cell? ⟨b,o+j,none⟩=some u)
theorem Rd.zero (w:World) (size:Nat) (A:Option Addr):Rd w size A 0 []:=⟨by simp,fun h=>absurd h (by decide)⟩
theorem Rd.later {w w':World} {size n:Nat} {A:Option Addr} {xs:List Value} (h:Rd w size A n xs) (Φ:Below w.heap.size w w'):Rd w' size A n xs :=
  ⟨h.1,fun aE=>by
    obtain ⟨b,o,e,hc⟩:=h.2 aE;exact ⟨b,o,e,fun j u hu=>cell_later Φ (hc j u hu)⟩⟩
theorem Rd.drewN {w:World} {size n:Nat} {A:Option Addr} {xs:List Value} (h:Rd w size A n xs) (k:Nat):Rd (w.drewN k) size A n xs:=h
def Own (w:World) (base:Nat) (e:TypeId) (size:Nat) (G:Nat→Value→Prop) (v:Value) (n:Nat) (xs:List Value):Prop :=
  xs.length=n * size∧
  ((v= .slice none 0 0∧n=0)∨
   ∃ g cap cur,v= .slice (some ⟨g,0,none⟩) n cap∧base≤g∧w.heap[g]? =some (.cells cur e (0,0))∧n≤cap∧cap≤maxLen∧cur.size=cap * size∧cur.toList.take (n * size)=xs∧∀ j u,cur[j]? =some u→G (j % size) u)
section
variable {w w':World} {base e size:Nat} {G:Nat→Value→Prop} {v:Value} {n:Nat} {xs:List Value}
theorem Own.row (h:Own w base e size G v n xs):w.ownsRow base e size v n xs:=by
  obtain ⟨γ,aa⟩:=h;refine ⟨γ, ?_⟩;rcases aa with aa | ⟨g,cap,cur,a,b,c,d,e,f,i,_⟩
  · exact .inl aa
  · exact .inr ⟨g,cap,cur,a,b,c,d,e,f,i⟩
theorem Own.nil (w:World) (base e size:Nat) (G:Nat→Value→Prop):Own w base e size G (.slice none 0 0) 0 []:=⟨by simp, .inl ⟨rfl,rfl⟩⟩
theorem Own.of_block {B:Nat} (h:Own w base e size G v n xs) (Φ:∀ g,v.ownBlock=some g→w'.heap[g]? =w.heap[g]?):Own w' base e size G v n xs:=by
  obtain ⟨γ,aa⟩:=h;refine ⟨γ, ?_⟩;rcases aa with aa | ⟨g,cap,cur,rfl,b,c,d⟩
  · exact .inl aa
  · exact .inr ⟨g,cap,cur,rfl,b,(Φ g rfl).trans c,d⟩
theorem Own.later (h:Own w base e size G v n xs) (Φ:Below w.heap.size w w'):Own w' base e size G v n xs :=
  h.of_block (B:=0) fun g aO=>Φ.block g (h.row.lt g aO).2
theorem Own.drewN (h:Own w base e size G v n xs) (k:Nat):Own (w.drewN k) base e size G v n xs:=h
theorem Own.drew (h:Own w base e size G v n xs):Own w.drew base e size G v n xs:=h
theorem Own.mono (h:Own w base e size G v n xs) {VB:Nat} (Φ:VB≤base):Own w VB e size G v n xs:=by
  obtain ⟨γ,aa⟩:=h;refine ⟨γ, ?_⟩;rcases aa with aa | ⟨g,cap,cur,a,b,r⟩
  · exact .inl aa
  · exact .inr ⟨g,cap,cur,a,Nat.le_trans Φ b,r⟩
theorem Own.rd (h:Own w base e size G v n xs) {A:Option Addr} {c:Nat} (hv:v= .slice A n c):Rd w size A n xs:=by
  obtain ⟨γ,aa⟩:=h;refine ⟨γ,fun aE=> ?_⟩;rcases aa with ⟨_,aa⟩ | ⟨g,cap,cur,rfl,b,c,d,e,f,i,_⟩
  · omega
  · injection hv with hv _ _
    refine ⟨g,0,hv.symm,fun j u hu=> ?_⟩;rw [Nat.zero_add,cell_of_row w g j cur _ (0,0) c,← Array.getElem?_toList];rw [← i,List.getElem?_take] at hu;split at hu
    · exact hu
    · cases hu
theorem Own.shape (h:Own w base e size G v n xs):∃ A c,v= .slice A n c∧n≤c∧c≤maxLen∧Rd w size A n xs∧(∀ a,A=some a→base≤a.block∧a.block<w.heap.size)∧(A=none→v= .slice none 0 0):=by
  have cU:=h;obtain ⟨γ,aa⟩:=h;rcases aa with ⟨rfl,rfl⟩ | ⟨g,cap,cur,rfl,b,c,d,e,f,i,_⟩
  · exact ⟨none,0,rfl,Nat.le_refl _,Nat.zero_le _,cU.rd rfl,(fun a ha=>by cases ha),fun _=>rfl⟩
  · refine ⟨_,cap,rfl,d,e,cU.rd rfl,fun a ha=> ?_,fun h=>by cases h⟩
    injection ha with ha
    subst ha;exact ⟨b,(Array.getElem?_eq_some_iff.1 c).1⟩
theorem awC {z:Array Value} (bw:z.size=size) (hs:0<size) (bq:∀ j u,z[j]? =some u→G j u) (k:Nat):∀ j u,(Builtin.zeroCells z k)[j]? =some u→G (j % size) u:=by
  intro j u hu;unfold Builtin.zeroCells at hu;subst bw;have ay:=(Array.getElem?_eq_some_iff.1 hu).1;simp at ay;have bl:j % z.size<z.size:=Nat.mod_lt _ hs;rw [Array.getElem?_map,Array.getElem?_range,if_pos ay] at hu;simp only [Option.map_some,Option.some.injEq] at hu;refine bq _ u ?_;rw [← hu];simp [bl]
theorem Own.stored {g c:Nat} (h:Own w base e size G (.slice (some ⟨g,0,none⟩) n c) n xs) (j:Nat) (u:Value) (hu:G (j % size) u):
    Own (w.setCell ⟨g,j,none⟩ u) base e size G (.slice (some ⟨g,0,none⟩) n c) n (xs.set j u):=by
  obtain ⟨γ,aa⟩:=h;refine ⟨by rw [List.length_set];exact γ, ?_⟩;rcases aa with ⟨aa,_⟩ | ⟨g',cap,cur,hv,b,ey,d,hm,hs,aA,bq⟩
  · cases aa
  · injection hv with hv _ hc
    injection hv with hv
    injection hv with hv
    subst hv;subst hc;refine .inr ⟨g,c,cur.setIfInBounds j u,Z,b, ?_,d,hm,by simp [hs], ?_, ?_⟩
    · simp only [World.setCell,Array.getElem?_modify,ey]
      simp
    · rw [← aA]
      simp only [Array.toList_setIfInBounds];rw [List.take_set]
    · intro i v hv
      by_cases ke:j=i
      · subst ke
        have bl:j<cur.size:=by
          have:=(Array.getElem?_eq_some_iff.1 hv).1;simpa using this
        rw [Array.getElem?_setIfInBounds_self_of_lt bl] at hv;obtain rfl:=Option.some.inj hv;exact hu
      · rw [Array.getElem?_setIfInBounds_ne ke] at hv
        exact bq i v hv
theorem Own.cell {g c:Nat} (h:Own w base e size G (.slice (some ⟨g,0,none⟩) n c) n xs) (j:Nat) (ay:j<n * size):w.cell? ⟨g,j,none⟩=xs[j]? :=h.row.cellAt j ay
theorem Own.free {g c:Nat} (h:Own w base e size G (.slice (some ⟨g,0,none⟩) n c) n xs) (j:Nat):w.frozen? ⟨g,j,none⟩=false:=h.row.frozenAt j
theorem Own.lit (w:World) (cs:Array Value) (n:Nat) (Φ:base≤w.heap.size) (hm:n≤maxLen) (hs:cs.size=n * size) (bq:∀ j u,cs[j]? =some u→G (j % size) u):
    Own (w.alloc (.cells cs e)) base e size G (.slice (some ⟨w.heap.size,0,none⟩) n n) n cs.toList :=
  ⟨by simpa using hs, .inr ⟨w.heap.size,n,cs,rfl,Φ,heap_alloc_new w _,Nat.le_refl _,hm,hs,List.take_of_length_le (by simp [hs]),bq⟩⟩
theorem Own.empty (w:World) (Φ:base≤w.heap.size):Own (w.alloc (.cells #[] e)) base e size G (.slice (some ⟨w.heap.size,0,none⟩) 0 0) 0 [] :=
  Own.lit w #[] 0 Φ (Nat.zero_le _) (by simp) (fun j u h=>by simp at h)
end
section
variable {P:Program} (w:World)
theorem acB (base:Nat) (t ty e:TypeId) (i:TypeInfo) (z:Value) (size bytes:Nat) (aA:P.underlying t=some (.slice e)) (ao:P.info? e=some i) (bw:i.zero=some z)
    (ra:i.size=size) (l':i.bytes=bytes) (ou:z.cells.size=size) (hH:0<size) (G:Nat→Value→Prop) (re:∀ j u,z.cells[j]? =some u→G j u)
    (v:Value) (n:Nat) (xs:List Value) (eI:Own w base e size G v n xs)
    (A:Option Addr) (m c:Nat) (news:List Value) (hr:Rd w size A m news) (γ:∀ u∈news,u.oneCell'=true) (By:∀ j u,news[j]? =some u→G (j % size) u)
    (nJ:n+m≤maxLen) (nM:(n+m) * bytes≤140737488355328) (l_:base≤w.heap.size):
    ∃ v' w',(Builtin.append_ #[t,t] ty #[v, .slice A m c]).run P w= .ok v' w'∧Own w' base e size G v' (n+m) (xs++news)∧w.grownBy w' v.ownBlock∧
      (v'= .slice none 0 0↔v= .slice none 0 0∧m=0)∧(v'.ownBlock=v.ownBlock∨v'.ownBlock=some w.heap.size):=by
  subst ra;subst l';have aAA:n+m≤9223372036854775807:=by simp only [maxLen] at nJ;omega
  have az:news.length=m * i.size:=hr.1;have DS:xs.length=n * i.size:=eI.1;have hlen:(xs++news).length=(n+m) * i.size:=by rw [List.length_append,DS,az,Nat.add_mul]
  have Yv:(∀ j u,xs[j]? =some u→G (j % i.size) u)→∀ j u,(xs++news)[j]? =some u→G (j % i.size) u:=by
    intro hx j u hu;by_cases ay:j<xs.length
    · rw [List.getElem?_append_left ay] at hu;exact hx j u hu
    · rw [List.getElem?_append_right (by omega)] at hu
      have:=By _ u hu;rw [DS] at this ay;have e:j % i.size=(j - n * i.size) % i.size:=by
        conv=>lhs;rw [show j=n * i.size+(j - n * i.size) from by omega]
        rw [Nat.mul_comm n,Nat.mul_add_mod]
      rw [e];exact this
  -- what the growing arm leaves, whatever was there before
  have grown:(∀ j u,xs[j]? =some u→G (j % i.size) u)→∀ (old:Nat),old<n+m→∀ (row:Option Nat),
      Own (w.drew.alloc (.cells (xs.toArray++news.toArray++Builtin.zeroCells z.cells (grownCap w (n+m) old e - (n+m))) e)) base e i.size G
        (.slice (some ⟨w.heap.size,0,none⟩) (n+m) (grownCap w (n+m) old e)) (n+m) (xs++news)∧
      w.grownBy (w.drew.alloc (.cells (xs.toArray++news.toArray++Builtin.zeroCells z.cells (grownCap w (n+m) old e - (n+m))) e)) row:=by
    intro Lb old bJ row;have sf:=grownCap_ge w (n+m) old e;have pb:grownCap w (n+m) old e≤maxLen:=grownCap_le_maxLen w (n+m) old e nJ;refine ⟨⟨hlen, .inr ⟨w.heap.size,_,_,Z,l_,heap_alloc_new w.drew _,sf,pb, ?_, ?_, ?_⟩⟩,⟨Z,Z,Z,by simp,fun k av _=>heap_alloc_old w.drew _ av⟩⟩
    · simp only [Array.size_append,List.size_toArray,size_zeroCells,ou,DS,az,← Nat.add_mul]
      congr 1;omega
    · simp only [Array.toList_append,List.append_assoc]
      rw [← List.append_assoc,← hlen];exact List.take_left
    · intro j u hu
      rw [← Array.getElem?_toList] at hu;simp only [Array.toList_append] at hu;by_cases ay:j<(xs++news).length
      · rw [List.getElem?_append_left ay] at hu;exact Yv Lb j u hu
      · rw [List.getElem?_append_right (by simpa using ay)] at hu
        rw [Array.getElem?_toList] at hu;have:=awC ou hH re _ _ u hu;have p8:(xs.toArray.toList++news.toArray.toList).length=(n+m) * i.size:=hlen;rw [p8] at this;rw [hlen] at ay;have e:j % i.size=(j - (n+m) * i.size) % i.size:=by
          conv=>lhs;rw [show j=(n+m) * i.size+(j - (n+m) * i.size) from by omega]
          rw [Nat.mul_comm (n+m),Nat.mul_add_mod]
        rw [e];exact this
  have Qw:A=none∨∃ a,A=some a:=by cases A with | none=>exact .inl rfl | some a=>exact .inr ⟨a,rfl⟩
  rcases Qw with rfl | ⟨ad,rfl⟩
  · have hm:m=0:=by
      rcases Nat.eq_zero_or_pos m with aE | aE
      · exact aE
      · obtain ⟨b,o,h,_⟩:=hr.2 aE
        cases h
    subst hm;have hn:news= []:=List.eq_nil_of_length_eq_zero (by simpa using az);subst hn;refine ⟨v,w, ?_,by simpa using eI,World.grownBy.refl w _,by simp, .inl rfl⟩;rcases eI.2 with ⟨rfl,rfl⟩ | ⟨g,cap,cur,rfl,_,_,ph,_⟩
    · simp [Builtin.append_,run_underlying aA,sizeOf,typeInfo,ao,Builtin.lenOf,Builtin.firstCells]
    · simp [Builtin.append_,run_underlying aA,sizeOf,typeInfo,ao,Builtin.lenOf,Builtin.firstCells,ph,storeCells]
  have GI:∀ j u,news[j]? =some u→w.cell? (ad.add j)=some u:=by
    intro j u hu;rcases Nat.eq_zero_or_pos m with aE | aE
    · subst aE
      have hn:news= []:=List.eq_nil_of_length_eq_zero (by simpa using az);subst hn;simp at hu
    · obtain ⟨b,o,h,hc⟩:=hr.2 aE
      injection h with h
      subst h;rw [CY];exact hc j u hu
  rcases eI.2 with ⟨rfl,rfl⟩ | ⟨g,cap,cur,rfl,PY,aO,ph,pb,mQ,QA,bq⟩
  · have hx:xs= []:=List.eq_nil_of_length_eq_zero (by simpa using DS)
    subst hx;by_cases hm:m=0
    · subst hm
      have hn:news= []:=List.eq_nil_of_length_eq_zero (by simpa using az);subst hn;refine ⟨.slice none 0 0,w, ?_,Own.nil w base e i.size G,⟨Z,Z,Z,Nat.le_refl _,fun _ _ _=>Z⟩,by simp,Or.inl rfl⟩;simp [Builtin.append_,run_underlying aA,sizeOf,typeInfo,ao,Builtin.lenOf,Builtin.firstCells,loadCells,loadCellsFrom]
    · have hr:=run_append_nil (P:=P) w t ty e i z aA ao bw ad m c news az GI (by omega) (by omega) (by have Φ:=nM;simp only [Nat.zero_add] at Φ;omega)
      have y4:=grown (fun j u hu=>by simp at hu) 0 (by omega) (Value.ownBlock (.slice none 0 0));simp only [Nat.zero_add,List.nil_append,Array.empty_append] at y4 ⊢;exact ⟨_,_,hr,y4.1,y4.2,by simp [hm],Or.inr rfl⟩
  · have Lb:∀ j u,xs[j]? =some u→G (j % i.size) u:=by
      intro j u hu;rw [← QA,List.getElem?_take] at hu;split at hu
      · exact bq j u (by rw [← Array.getElem?_toList];exact hu)
      · cases hu
    by_cases Qs:n+m≤cap
    · have P':n * i.size+news.length≤cur.size:=by rw [az,mQ,← Nat.add_mul];exact Nat.mul_le_mul_right _ Qs
      have hr:=run_append_room (P:=P) w t ty e i aA ao g n cap cur aO ad m c news az GI γ Qs P';refine ⟨_,_,hr,⟨hlen, .inr ⟨g,cap,_,Z,PY,setRow_heap w g cur _ e _ aO,Qs,pb, ?_, ?_, ?_⟩⟩,⟨Z,Z,Z,by simp,fun k _ av=>setRow_other w g k _ (fun e=>av (by simp [Value.ownBlock,e]))⟩,by simp,Or.inl rfl⟩
      · simp only [List.size_toArray,List.length_append,List.length_take,List.length_drop,Array.length_toList]
        omega
      · rw [QA,← hlen]
        exact List.take_left
      · intro j u hu
        rw [QA] at hu;have hu:((xs++news)++cur.toList.drop (n * i.size+news.length))[j]? =some u:=by simpa using hu
        by_cases ay:j<(xs++news).length
        · rw [List.getElem?_append_left ay] at hu;exact Yv Lb j u hu
        · rw [List.getElem?_append_right (by omega),List.getElem?_drop] at hu
          rw [hlen] at hu ay;rw [az,← Nat.add_mul,show (n+m) * i.size+(j - (n+m) * i.size)=j from by omega] at hu;exact bq j u (by rw [← Array.getElem?_toList];exact hu)
    · have holds:∀ j u,xs[j]? =some u→w.cell? ((⟨g,0,none⟩:Addr).add j)=some u:=eI.row.cells (g:=g) rfl
      have hr:=run_append_grow (P:=P) w t ty e i z aA ao bw ⟨g,0,none⟩ n cap xs DS holds ad m c news az GI (by omega) (by omega) (growslice_fits (by omega) nM);have y4:=grown Lb cap (by omega) (Value.ownBlock (.slice (some ⟨g,0,none⟩) n cap));exact ⟨_,_,hr,y4.1,y4.2,by simp,Or.inr rfl⟩

theorem ad9 {o:Oper} {a:Act} {K:Act→World→Prop} {Q:Exit→Act→World→Prop} (s x:Operand) (t:TypeId)
    (bJ:o.op= .call {callee:= .builtin .append,args:=#[s,x],argTypes:=#[t,t]})
    (base:Nat) (e:TypeId) (i:TypeInfo) (z:Value) (size bytes:Nat) (aA:P.underlying t=some (.slice e)) (ao:P.info? e=some i) (bw:i.zero=some z)
    (ra:i.size=size) (l':i.bytes=bytes) (ou:z.cells.size=size) (hH:0<size) (G:Nat→Value→Prop) (re:∀ j u,z.cells[j]? =some u→G j u)
    (v:Value) (n:Nat) (xs:List Value) (hs:a.eval s=v) (eI:Own w base e size G v n xs)
    (A:Option Addr) (m c:Nat) (news:List Value) (hx:a.eval x= .slice A m c) (hr:Rd w size A m news) (γ:∀ u∈news,u.oneCell'=true) (By:∀ j u,news[j]? =some u→G (j % size) u)
    (nJ:n+m≤maxLen) (nM:(n+m) * bytes≤140737488355328) (l_:base≤w.heap.size)
    (h:∀ v' w',Own w' base e size G v' (n+m) (xs++news)→w.grownBy w' v.ownBlock→(v'= .slice none 0 0↔v= .slice none 0 0∧m=0)→(v'.ownBlock=v.ownBlock∨v'.ownBlock=some w.heap.size)→K (a.put o.dst v') w'):o.wp P a w K Q:=by
  obtain ⟨v',w',jY,aa,au,a1,bO⟩:=acB (P:=P) w base t o.type e i z size bytes aA ao bw ra l' ou hH G re v n xs eI A m c news hr γ By nJ nM l_;unfold Oper.wp execOp;simp only [bJ,resolve,invoke,builtin,Sem.run_bind,Sem.run_pure,Result.andThen_ok,List.map_toArray,List.map_cons,List.map_nil,hs,hx,jY];exact h v' w' aa au a1 bO
theorem Ia {ops:Array Oper} {rest:List Oper} {o:Oper} {a:Act} {Q:Exit→Act→World→Prop} (Gx:o.guard=none) (s x:Operand) (t:TypeId)
    (bJ:o.op= .call {callee:= .builtin .append,args:=#[s,x],argTypes:=#[t,t]})
    (base:Nat) (e:TypeId) (i:TypeInfo) (z:Value) (size bytes:Nat) (aA:P.underlying t=some (.slice e)) (ao:P.info? e=some i) (bw:i.zero=some z)
    (ra:i.size=size) (l':i.bytes=bytes) (ou:z.cells.size=size) (hH:0<size) (G:Nat→Value→Prop) (re:∀ j u,z.cells[j]? =some u→G j u)
    (v:Value) (n:Nat) (xs:List Value) (hs:a.eval s=v) (eI:Own w base e size G v n xs)
    (A:Option Addr) (m c:Nat) (news:List Value) (hx:a.eval x= .slice A m c) (hr:Rd w size A m news) (γ:∀ u∈news,u.oneCell'=true) (By:∀ j u,news[j]? =some u→G (j % size) u)
    (nJ:n+m≤maxLen) (nM:(n+m) * bytes≤140737488355328) (l_:base≤w.heap.size)
    (h:∀ v' w',Own w' base e size G v' (n+m) (xs++news)→w.grownBy w' v.ownBlock→(v'= .slice none 0 0↔v= .slice none 0 0∧m=0)→(v'.ownBlock=v.ownBlock∨v'.ownBlock=some w.heap.size)→wpList P ops Q rest (a.put o.dst v') w'):wpList P ops Q (o::rest) a w :=
  wpList_plain Gx fun _ hK=>ad9 w s x t bJ base e i z size bytes aA ao bw ra l' ou hH G re v n xs hs eI A m c news hx hr γ By nJ nM l_ fun v' w' aa au a1 bO=>hK _ _ (h v' w' aa au a1 bO)
theorem ac6 {ops:Array Oper} {o:Oper} {a:Act} {K:Act→World→Prop} {Q:Exit→Act→World→Prop} {E:Prop} (Gx:o.guard=none) (s x:Operand) (t:TypeId)
    (bJ:o.op= .call {callee:= .builtin .append,args:=#[s,x],argTypes:=#[t,t]})
    (base:Nat) (e:TypeId) (i:TypeInfo) (z:Value) (size bytes:Nat) (aA:P.underlying t=some (.slice e)) (ao:P.info? e=some i) (bw:i.zero=some z)
    (ra:i.size=size) (l':i.bytes=bytes) (ou:z.cells.size=size) (hH:0<size) (G:Nat→Value→Prop) (re:∀ j u,z.cells[j]? =some u→G j u)
    (v:Value) (n:Nat) (xs:List Value) (hs:a.eval s=v) (eI:Own w base e size G v n xs)
    (A:Option Addr) (m c:Nat) (news:List Value) (hx:a.eval x= .slice A m c) (hr:Rd w size A m news) (γ:∀ u∈news,u.oneCell'=true) (By:∀ j u,news[j]? =some u→G (j % size) u)
    (nJ:n+m≤maxLen) (nM:(n+m) * bytes≤140737488355328) (l_:base≤w.heap.size)
    (h:∀ v' w',Own w' base e size G v' (n+m) (xs++news)→w.grownBy w' v.ownBlock→(v'= .slice none 0 0↔v= .slice none 0 0∧m=0)→(v'.ownBlock=v.ownBlock∨v'.ownBlock=some w.heap.size)→K (a.put o.dst v') w'):
    if Region.wanted o (yielded ops a.tmps)=true then Oper.wp P o a w K Q else E:=by
  have hw:Region.wanted o (yielded ops a.tmps)=true:=by simp [Region.wanted,Gx]
  rw [if_pos hw];exact ad9 w s x t bJ base e i z size bytes aA ao bw ra l' ou hH G re v n xs hs eI A m c news hx hr γ By nJ nM l_ h
end
end Go.Proofs.YtlikikpgmmkjbaaGreat
set_option linter.unusedVariables false
set_option linter.unusedSimpArgs false
namespace Go.Proofs.YtlikikpgmmkjbaaGreat
open Go.ChangeShapes Go.WideShapes Go.Deep Go.RowKit
inductive fr where
  | int (k:IntKind)
  | bool
  | str
  | slice (e:fr) (bytes:Nat)
  | nil
  | cons (a b:fr)
def fr.size:fr→Nat
  | .int _ | .bool | .str | .slice _ _=>1
  | .nil=>0
  | .cons a b=>a.size+b.size
def partsOf (P:Program) (t:TypeId):Option (List (TypeId×Nat)):=
  match P.underlying t with
  | some (.struct fs)=>some (fs.toList.map fun f=>(f.type,f.offset))
  | some (.array n e)=>some ((List.range n).map fun i=>(e,i * P.cellsOf e))
  | _=>none
def fr.fit (P:Program):fr→TypeId ⊕ (Nat×List (TypeId×Nat))→Bool
  | .int k, .inl t=>match P.underlying t with | some (.int k')=>decide (k'=k) | _=>false
  | .bool, .inl t=>match P.underlying t with | some .bool=>true | _=>false
  | .str, .inl t=>match P.underlying t with | some .string=>true | _=>false
  | .slice e by_, .inl t=>match P.underlying t with | some (.slice u)=>P.cellsOf u == e.size && P.bytesOf u == by_ && e.fit P (.inl u) | _=>false
  | .nil, .inl t=>P.cellsOf t == 0 && (match P.underlying t with | some (.struct _)=>true | some (.array ..)=>true | _=>false)
  | .cons a b, .inl t=>P.cellsOf t == a.size+b.size && (match partsOf P t with
      | some ((u,o)::r)=>o == 0 && P.cellsOf u == a.size && a.fit P (.inl u) && b.fit P (.inr (a.size,r))
      | _=>false)
  | .nil, .inr (_,fs)=>fs.isEmpty
  | .cons a b, .inr (off,fs)=>match fs with
    | (u,o)::r=>o == off && P.cellsOf u == a.size && a.fit P (.inl u) && b.fit P (.inr (off+a.size,r))
    | []=>false
  | _, .inr _=>false
def fr.gY (w:World):fr→List Value→Prop
  | .int k,cs=>∃ n,cs= [.int k n]∧(Lit.int k n).wf=true
  | .bool,cs=>∃ b,cs= [.bool b]
  | .str,cs=>∃ s:ByteArray,cs= [.string s]∧s.size≤maxLen∧s.size≤140737488351232
  | .slice e by_,cs=>cs= [.slice none 0 0]∨∃ (a:Addr) (len cap:Nat),cs= [.slice (some a) len cap]∧len≤cap∧cap≤maxLen∧cap * by_≤140737488351232∧
      ∀ i,i<cap→∃ es:List Value,es.length=e.size∧(∀ j v,es[j]? =some v→w.cell? (a.add (i * e.size+j))=some v)∧e.gY w es
  | .nil,cs=>cs= []
  | .cons a b,cs=>∃ xs ys,cs=xs++ys∧xs.length=a.size∧ys.length=b.size∧a.gY w xs∧b.gY w ys
variable {H:Type} {enc:TypeId×Value→H} {P:Program} {w:World} {base:Nat} {held:Bool}
theorem ad5 {e:TypeId} {l:List (DataW H)} {d:DataW H} (h:d∈l):∀ n∈d.weights P e,n∈DataW.weightsAll P e l:=by
  induction l with
  | nil=>cases h
  | cons x r bk =>
    intro n hn;simp only [DataW.weightsAll,List.mem_append];rcases List.mem_cons.1 h with rfl | h
    · exact .inl hn
    · exact .inr (bk h n hn)
def Fb (enc:TypeId×Value→H) (P:Program) (w:World) (base:Nat) (held:Bool) (n:Nat) (cs:List Value) (fs:List (TypeId×Nat)) (xs:List (DataW H×List MemPlace)):Prop :=
  xs.length=fs.length∧∀ (i:Nat) (f:TypeId×Nat),fs[i]? =some f→DataW.trod enc P w base (fun _=>true) held n f.1 ((cs.drop f.2).take (P.cellsOf f.1))=xs[i]?
theorem Fb.cons {n:Nat} {cs:List Value} {f:TypeId×Nat} {r:List (TypeId×Nat)} {xs:List (DataW H×List MemPlace)} (h:Fb enc P w base held n cs (f::r) xs):
    ∃ x ys,xs=x::ys∧DataW.trod enc P w base (fun _=>true) held n f.1 ((cs.drop f.2).take (P.cellsOf f.1))=some x∧Fb enc P w base held n cs r ys:=by
  obtain ⟨az,hf⟩:=h
  match xs,az with
  | x::ys,az =>
    refine ⟨x,ys,Z,hf 0 f Z,by simpa using az,fun i g aO=> ?_⟩;exact hf (i+1) g aO
def Goal (P:Program) (w:World) (sh:fr):TypeId ⊕ (Nat×List (TypeId×Nat))→Prop
  | .inl t=>∀ (H:Type) (enc:TypeId×Value→H) (base:Nat) (held:Bool) (fuel:Nat) (cs:List Value) (x:DataW H×List MemPlace),DataW.trod enc P w base (fun _=>true) held fuel t cs=some x→(∀ n∈x.1.weights P t,n≤reachBytes)→cs.length=sh.size∧sh.gY w cs
  | .inr (off,fs)=>∀ (H:Type) (enc:TypeId×Value→H) (base:Nat) (held:Bool) (n:Nat) (cs:List Value) (xs:List (DataW H×List MemPlace)),Fb enc P w base held n cs fs xs→cs.length=off+sh.size→(∀ n∈DataW.weightsEach P (fs.map (·.1)) (xs.map (·.1)),n≤reachBytes)→sh.gY w (cs.drop off)
theorem Goal.fields {a b:fr} (aos:∀ t,a.fit P t=true→Goal P w a t) (aot:∀ t,b.fit P t=true→Goal P w b t) {off:Nat} {f:TypeId×Nat} {r:List (TypeId×Nat)} (γ:f.2=off) (aa:P.cellsOf f.1=a.size) (au:a.fit P (.inl f.1)=true) (a1:b.fit P (.inr (off+a.size,r))=true):
    Goal P w (.cons a b) (.inr (off,f::r)):=by
  intro H enc base held n cs xs hx az hw;obtain ⟨x,ys,rfl,aA,hr⟩:=hx.cons;have ha:=aos _ au H enc base held n _ x aA (fun m hm=>hw m (by simp only [List.map_cons,DataW.weightsEach,List.mem_append];exact .inl hm));have hH:(fr.cons a b).size=a.size+b.size:=rfl;have Φ:=aot _ a1 H enc base held n cs ys hr (by omega) (fun m hm=>hw m (by simp only [List.map_cons,DataW.weightsEach,List.mem_append];exact .inr hm));rw [γ,aa] at ha;refine ⟨_,_, ?_,ha.1, ?_,ha.2,Φ⟩
  · rw [← List.drop_drop,List.take_append_drop]
  · rw [List.length_drop];omega
theorem ad6 {e:TypeId}:∀ (l:List (DataW H)) (ts:List TypeId),ts.length=l.length→(∀ t∈ts,t=e)→DataW.weightsEach P ts l=DataW.weightsAll P e l
  | [], [],_,_=>rfl
  | d::l,t::ts,h,aA=>by
    rw [DataW.weightsEach,DataW.weightsAll,aA t (by simp),ad6 l ts (by simpa using h) (fun u hu=>aA u (by simp [hu]))]
  | [],_::_,h,_=>by simp at h
  | _::_, [],h,_=>by simp at h
theorem adi {t:TypeId} {fs:List (TypeId×Nat)} {fuel:Nat} {cs:List Value} {x:DataW H×List MemPlace} (hp:partsOf P t=some fs) (h:DataW.trod enc P w base (fun _=>true) held fuel t cs=some x):
    cs.length=P.cellsOf t∧∃ (xs:List (DataW H×List MemPlace)) (n:Nat),Fb enc P w base held n cs fs xs∧x.1.weights P t=DataW.weightsEach P (fs.map (·.1)) (xs.map (·.1)):=by
  unfold partsOf at hp;split at hp
  · rename_i gs hu
    obtain rfl:=Option.some.inj hp;obtain ⟨xs,n,_,rfl,az,hlen,hf⟩:=DataW.trod_struct hu h;refine ⟨az,xs,n,⟨by rw [hlen];simp,fun i f aO=> ?_⟩, ?_⟩
    · rw [List.getElem?_map] at aO
      match amD:gs.toList[i]?,aO with
      | some g,aO =>
        obtain rfl:=Option.some.inj aO;exact hf i g (by rw [← Array.getElem?_toList];exact amD)
    · simp only [DataW.weights,hu,List.map_map]
      rfl
  · rename_i m e hu
    obtain rfl:=Option.some.inj hp;obtain ⟨xs,n,_,rfl,az,hlen,hf⟩:=DataW.trod_array hu h;refine ⟨az,xs,n,⟨by rw [hlen];simp,fun i f aO=> ?_⟩, ?_⟩
    · rw [List.getElem?_map] at aO
      have ao:i<m:=by
        rcases Nat.lt_or_ge i m with h | h
        · exact h
        · rw [List.getElem?_eq_none (by simpa using h)] at aO;cases aO
      rw [List.getElem?_range ao] at aO;obtain rfl:=Option.some.inj aO;exact hf i ao
    · simp only [DataW.weights,hu]
      rw [ad6 (e:=e)]
      · simp [hlen]
      · intro u hu;simp at hu;exact hu.2.symm
  · cases hp
theorem Dq (P:Program) (w:World):∀ (sh:fr) (t:TypeId ⊕ (Nat×List (TypeId×Nat))),sh.fit P t=true→Goal P w sh t
  | .int k, .inl t,h=>by
    intro H enc base held fuel cs x aA _;unfold fr.fit at h;split at h
    · rename_i k' hu
      obtain rfl:k'=k:=of_decide_eq_true h;cases fuel with
      | zero=>simp [DataW.trod] at aA
      | succ n =>
        unfold DataW.trod at aA;rw [hu] at aA;split at aA<;>simp_all;exact ⟨Z,_,Z,aA.1.2⟩
    · cases h
  | .bool, .inl t,h=>by
    intro H enc base held fuel cs x aA _;unfold fr.fit at h;split at h
    · rename_i hu
      cases fuel with
      | zero=>simp [DataW.trod] at aA
      | succ n =>
        unfold DataW.trod at aA;rw [hu] at aA;split at aA<;>simp_all;exact ⟨Z,_,Z⟩
    · cases h
  | .str, .inl t,h=>by
    intro H enc base held fuel cs x aA hw;unfold fr.fit at h;split at h
    · rename_i hu
      cases fuel with
      | zero=>simp [DataW.trod] at aA
      | succ n =>
        unfold DataW.trod at aA;rw [hu] at aA;split at aA<;>simp_all;obtain ⟨γ,rfl⟩:=aA;refine ⟨Z,_,Z,γ, ?_⟩;simpa [DataW.weights,reachBytes] using hw
    · cases h
  | .slice e by_, .inl t,h=>by
    intro H enc base held fuel cs x aA hw;unfold fr.fit at h;split at h
    · rename_i u hu
      simp only [Bool.and_eq_true,beq_iff_eq] at h;obtain ⟨⟨γ,aa⟩,au⟩:=h;rcases open_slice hu aA with ⟨rfl,_⟩ | ⟨a,len,cap,m,n,D,axC,rfl,_,az,hm,KX,rfl,ao⟩
      · exact ⟨rfl, .inl rfl⟩
      · simp only [if_true] at KX
        subst KX;refine ⟨Z, .inr ⟨a,len,m,Z,az,hm, ?_,fun i amH=> ?_⟩⟩
        · have:=hw ((((List.range len).map D).length+((List.range (m - len)).map fun j=>D (len+j)).length) * P.bytesOf u) (by simp [DataW.weights,hu])
          rw [aa] at this;simp only [List.length_map,List.length_range,reachBytes] at this;rw [show len+(m - len)=m from by omega] at this;exact this
        · obtain ⟨Wa,hc,anQ⟩:=ao i amH
          have aO:=Dq P w e (.inl u) au H enc base held n Wa _ anQ (fun k av=>hw k (by
            simp only [DataW.weights,hu,List.mem_cons,List.mem_append];right;by_cases DJ:i<len
            · exact .inl (ad5 (List.mem_map.2 ⟨i,List.mem_range.2 DJ,rfl⟩) k av)
            · exact .inr (ad5 (List.mem_map.2 ⟨i - len,List.mem_range.2 (by omega),by rw [show len+(i - len)=i from by omega]⟩) k av)))
          obtain ⟨_,om,dz⟩:=World.cells?_some hc;refine ⟨Wa,aO.1,fun j v hv=> ?_,aO.2⟩;have ay:j<P.cellsOf u:=by have:=(List.getElem?_eq_some_iff.1 hv).1;omega
          rw [γ] at dz ay;rw [← Go.Deep.add_add,dz j ay,hv]
    · cases h
  | .nil, .inl t,h=>by
    intro H enc base held fuel cs x aA hw;unfold fr.fit at h;simp only [Bool.and_eq_true,beq_iff_eq] at h;obtain ⟨aE,γ⟩:=h;have hp:∃ fs,partsOf P t=some fs:=by
      unfold partsOf;split at γ
      · exact ⟨_,rfl⟩
      · exact ⟨_,rfl⟩
      · cases γ
    obtain ⟨fs,hp⟩:=hp;have az:=(adi hp aA).1;rw [aE] at az;exact ⟨az,List.eq_nil_of_length_eq_zero az⟩
  | .cons a b, .inl t,h=>by
    intro H enc base held fuel cs x aA hw;unfold fr.fit at h;simp only [Bool.and_eq_true,beq_iff_eq] at h;obtain ⟨aE,h⟩:=h;split at h
    · rename_i u o r hp
      obtain ⟨az,xs,n,hx,he⟩:=adi hp aA;rw [aE] at az;refine ⟨az, ?_⟩;simp only [Bool.and_eq_true,beq_iff_eq] at h;obtain ⟨⟨⟨γ,aa⟩,au⟩,a1⟩:=h;have a1:b.fit P (.inr (0+a.size,r))=true:=by rw [Nat.zero_add];exact a1
      exact Goal.fields (w:=w) (f:=(u,o)) (fun t aA=>Dq P w a t aA) (fun t aA=>Dq P w b t aA) γ aa au a1 H enc base held n cs xs hx (by rw [az];show _=0+(a.size+b.size);omega) (fun m hm=>hw m (by rw [he];exact hm))
    · cases h
  | .nil, .inr (off,fs),h=>by
    intro H enc base held n cs xs hx az hw;exact List.eq_nil_of_length_eq_zero (by rw [List.length_drop,az];simp [fr.size])
  | .cons a b, .inr (off,fs),h=>by
    unfold fr.fit at h;split at h
    · rename_i u o r
      simp only [Bool.and_eq_true,beq_iff_eq] at h;obtain ⟨⟨⟨γ,aa⟩,au⟩,a1⟩:=h;exact Goal.fields (f:=(u,o)) (fun t aA=>Dq P w a t aA) (fun t aA=>Dq P w b t aA) γ aa au a1
    · cases h
  | .int _, .inr _,h=>by simp [fr.fit] at h
  | .bool, .inr _,h=>by simp [fr.fit] at h
  | .str, .inr _,h=>by simp [fr.fit] at h
  | .slice _ _, .inr _,h=>by simp [fr.fit] at h
theorem abJ {ts:List TypeId} {ds:List (DataW H)} (sh:fr) {j:Nat} {t:TypeId} {v:Value} {d:DataW H} {p:List MemPlace} (P':sh.fit P (.inl t)=true)
    (hH:(DataW.weightsEach P ts ds).all (· ≤reachBytes)=true) (aA:ts[j]? =some t) (hd:ds[j]? =some d) (h:DataW.Trod enc P w base (fun _=>true) held t v d p):
    v.cells.toList.length=sh.size∧sh.gY w v.cells.toList:=by
  obtain ⟨fuel,hf⟩:=h;exact Dq P w sh (.inl t) P' H enc base held fuel _ (d,p) hf (fun n hn=>by
    have:=List.all_eq_true.1 hH _ (DataW.weights_mem_each aA hd n hn);simpa using this)
theorem aa4 {α:Type} (n:Nat) (p:Nat→α→Prop) (h:∀ i,i<n→∃ x,p i x):∃ l:List α,l.length=n∧∀ i (ao:i<l.length),p i l[i]:=by
  induction n with
  | zero=>exact ⟨[],rfl,fun i ao=>absurd ao (by simp)⟩
  | succ n bk =>
    obtain ⟨l,az,hp⟩:=bk (fun i ao=>h i (by omega));obtain ⟨x,hx⟩:=h n (by omega);refine ⟨l++ [x],by simp [az],fun i ao=> ?_⟩;by_cases cM:i<l.length
    · rw [List.getElem_append_left cM];exact hp i cM
    · have:i=n:=by simp at ao;omega
      subst this;rw [List.getElem_append_right (by omega)];simpa [az] using hx
end Go.Proofs.YtlikikpgmmkjbaaGreat
set_option linter.unusedVariables false
set_option linter.unusedSimpArgs false
namespace Go.Proofs.YtlikikpgmmkjbaaGreat
open Go.RowKit
def cD {β α:Type} (P:β→α→Prop):List β→List α→Prop
  | [], []=>True
  | b::cH,a::m=>P b a∧cD P cH m
  | _,_=>False
section
variable {β α:Type} {P Q:β→α→Prop}
theorem cD.length:∀ {l:List β} {m:List α},cD P l m→l.length=m.length
  | [], [],_=>rfl
  | _::_,_::_,h=>by rw [List.length_cons,List.length_cons,cD.length h.2]
  | [],_::_,h=>h.elim
  | _::_, [],h=>h.elim
theorem cD.imp {l:List β} (ao:∀ b a,b∈l→P b a→Q b a):∀ {m:List α},cD P l m→cD Q l m:=by
  induction l with
  | nil=>intro m h;cases m with | nil=>trivial | cons=>exact h
  | cons b r bk =>
    intro m h;cases m with
    | nil=>exact h
    | cons a s=>exact ⟨ao b a (by simp) h.1,bk (fun b a Φ=>ao b a (by simp [Φ])) h.2⟩
theorem cD.app:∀ {l:List β} {m:List α} {DW:List β} {m':List α},cD P l m→cD P DW m'→cD P (l++DW) (m++m')
  | [], [],_,_,_,h=>h
  | _::_,_::_,_,_,h,cU=>⟨h.1,cD.app h.2 cU⟩
  | [],_::_,_,_,h,_=>h.elim
  | _::_, [],_,_,h,_=>h.elim
theorem cD.at_:∀ {l:List β} {m:List α} {i:Nat} {a:α},cD P l m→m[i]? =some a→∃ b,l[i]? =some b∧P b a
  | [], [],_,_,_,h=>by simp at h
  | b::_,_::_,0,_,h,e=>⟨b,rfl,by simp at e;subst e;exact h.1⟩
  | _::_,_::_,i+1,_,h,e=>by
    obtain ⟨b,γ,aa⟩:=cD.at_ (i:=i) h.2 (by simpa using e);exact ⟨b,by simpa using γ,aa⟩
  | [],_::_,_,_,h,_=>h.elim
  | _::_, [],_,_,h,_=>h.elim
theorem cD.R_:∀ {l:List β} {m:List α} {i:Nat} {b:β} {a:α},cD P l m→P b a→cD P (l.set i b) (m.set i a)
  | [], [],_,_,_,_,_=>trivial
  | _::_,_::_,0,_,_,h,e=>⟨e,h.2⟩
  | _::_,_::_,_+1,_,_,h,e=>⟨h.1,cD.R_ h.2 e⟩
  | [],_::_,_,_,_,h,_=>h.elim
  | _::_, [],_,_,_,h,_=>h.elim
theorem cD.Et:∀ {l:List β} {m:List α} (k:Nat),cD P l m→cD P (l.take k) (m.take k)
  | [], [],_,_=>by simp [cD]
  | _::_,_::_,0,_=>trivial
  | _::_,_::_,k+1,h=>⟨h.1,cD.Et k h.2⟩
  | [],_::_,_,h=>h.elim
  | _::_, [],_,h=>h.elim
theorem cD.left:∀ {l:List β} {m:List α},cD P l m→∀ b∈l,∃ a,P b a
  | [],_,_,b,Φ=>by simp at Φ
  | c::_, [],h,_,_=>h.elim
  | c::_,a::_,h,b,Φ=>by
    rcases List.mem_cons.1 Φ with rfl | Φ
    · exact ⟨a,h.1⟩
    · exact cD.left h.2 b Φ
end
theorem w5 {k:Nat}:∀ {l:List (List Value)},(∀ x∈l,x.length=k)→l.flatten.length=l.length * k
  | [],_=>by simp
  | x::r,h=>by rw [List.flatten_cons,List.length_append,h x (by simp),w5 (l:=r) (fun y aG=>h y (by simp [aG])),List.length_cons,Nat.add_mul];omega
theorem Dm {k:Nat}:∀ {l:List (List Value)} {i j:Nat} {es:List Value},(∀ x∈l,x.length=k)→l[i]? =some es→j<k→l.flatten[i * k+j]? =es[j]?
  | [],_,_,_,_,h,_=>by simp at h
  | x::r,0,j,es,h,e,ay=>by
    have e:x=es:=by simpa using e
    subst e;rw [List.flatten_cons,Nat.zero_mul,Nat.zero_add,List.getElem?_append_left (by rw [h x (by simp)];exact ay)]
  | x::r,i+1,j,es,h,e,ay=>by
    have hx:=h x (by simp);rw [List.flatten_cons,List.getElem?_append_right (by rw [hx,Nat.add_mul];omega),hx,show (i+1) * k+j - k=i * k+j from by rw [Nat.add_mul];omega];exact Dm (fun y aG=>h y (by simp [aG])) (by simpa using e) ay
theorem XG {k:Nat}:∀ {l:List (List Value)} {i j:Nat} {es:List Value} (u:Value),(∀ x∈l,x.length=k)→l[i]? =some es→j<k→l.flatten.set (i * k+j) u=(l.set i (es.set j u)).flatten
  | [],_,_,_,_,_,h,_=>by simp at h
  | x::r,0,j,es,u,h,e,ay=>by
    have e:x=es:=by simpa using e
    subst e;rw [List.flatten_cons,Nat.zero_mul,Nat.zero_add,List.set_append_left _ _ (by rw [h x (by simp)];exact ay)];rfl
  | x::r,i+1,j,es,u,h,e,ay=>by
    have hx:=h x (by simp);rw [List.flatten_cons,List.set_append_right _ _ (by rw [hx,Nat.add_mul];omega),hx,show (i+1) * k+j - k=i * k+j from by rw [Nat.add_mul];omega,XG u (fun y aG=>h y (by simp [aG])) (by simpa using e) ay];rfl
theorem XH {k:Nat}:∀ {l:List (List Value)} (i:Nat),(∀ x∈l,x.length=k)→l.flatten.take (i * k)=(l.take i).flatten
  | [],_,_=>by simp
  | x::r,0,_=>by simp
  | x::r,i+1,h=>by
    have hx:=h x (by simp);rw [List.flatten_cons,List.take_succ_cons,List.flatten_cons,List.take_append,hx,List.take_of_length_le (by rw [hx,Nat.add_mul];omega),show (i+1) * k - k=i * k from by rw [Nat.add_mul];omega,XH i (fun y aG=>h y (by simp [aG]))]
structure κ (α:Type) where
  size:Nat
  has:World→List Value→α→Prop
  own:World→Nat→List Nat→List Value→α→Prop
  raw:Nat→Value→Prop
  len:∀ {w cs a},has w cs a→cs.length=size
  one:∀ {w cs a},has w cs a→∀ u∈cs,u.oneCell'=true
  sx:∀ {w cs a},has w cs a→∀ (j:Nat) u,cs[j]? =some u→raw j u
  keep:∀ {w w' cs a},has w cs a→Below w.heap.size w w'→has w' cs a
  qh:∀ {w B f cs a},own w B f cs a→has w cs a
  qi:∀ {w w' B f cs a},own w B f cs a→(∀ g∈f,w'.heap[g]? =w.heap[g]?)→own w' B f cs a
  sw:∀ {w B f cs a},own w B f cs a→∀ g∈f,B≤g∧g<w.heap.size
  xE:∀ {w B oM f cs a},own w B f cs a→oM≤B→own w oM f cs a
namespace κ
variable {α β:Type} {w w':World} {B oM:Nat} {f:List Nat} {cs:List Value} {a:α}
theorem Rz (R:κ α) (h:R.own w B f cs a):cs.length=R.size:=R.len (R.qh h)
def Kc (size:Nat) (cells:α→List Value) (ok:α→Prop) (raw:Nat→Value→Prop) (az:∀ a,(cells a).length=size) (γ:∀ a,∀ u∈cells a,u.oneCell'=true) (hr:∀ a,ok a→∀ (j:Nat) u,(cells a)[j]? =some u→raw j u):κ α where
  size:=size
  has:=fun _ cs a=>cs=cells a∧ok a
  own:=fun _ _ f cs a=>f= []∧cs=cells a∧ok a
  raw:=raw
  len:=by rintro w cs a ⟨rfl,_⟩;exact az a
  one:=by rintro w cs a ⟨rfl,_⟩;exact γ a
  sx:=by rintro w cs a ⟨rfl,h⟩;exact hr a h
  keep:=fun h _=>h
  qh:=fun h=>h.2
  qi:=fun h _=>h
  sw:=by rintro w B f cs a ⟨rfl,_⟩ g aO;simp at aO
  xE:=fun h _=>h
def flat (size:Nat) (cells:α→List Value) (ok:α→Prop) (raw:Nat→Value→Prop) (az:∀ a,(cells a).length=size) (γ:∀ a,∀ u∈cells a,u.oneCell'=true) (hr:∀ a (j:Nat) u,(cells a)[j]? =some u→raw j u):κ α where
  size:=size
  has:=fun _ cs a=>cs=cells a∧ok a
  own:=fun _ _ f cs a=>f= []∧cs=cells a∧ok a
  raw:=raw
  len:=by rintro w cs a ⟨rfl,_⟩;exact az a
  one:=by rintro w cs a ⟨rfl,_⟩;exact γ a
  sx:=by rintro w cs a ⟨rfl,_⟩;exact hr a
  keep:=fun h _=>h
  qh:=fun h=>h.2
  qi:=fun h _=>h
  sw:=by rintro w B f cs a ⟨rfl,_⟩ g aO;simp at aO
  xE:=fun h _=>h
def pair (R:κ α) (S:κ β):κ (α×β) where
  size:=R.size+S.size
  has:=fun w cs p=>∃ xs ys,cs=xs++ys∧R.has w xs p.1∧S.has w ys p.2
  own:=fun w B f cs p=>∃ xs ys f1 f2,cs=xs++ys∧f=f1++f2∧R.own w B f1 xs p.1∧S.own w B f2 ys p.2
  raw:=fun j u=>if j<R.size then R.raw j u else S.raw (j - R.size) u
  len:=by rintro w cs p ⟨xs,ys,rfl,γ,aa⟩;rw [List.length_append,R.len γ,S.len aa]
  one:=by
    rintro w cs p ⟨xs,ys,rfl,γ,aa⟩ u hu;rcases List.mem_append.1 hu with hu | hu
    · exact R.one γ u hu
    · exact S.one aa u hu
  sx:=by
    rintro w cs p ⟨xs,ys,rfl,γ,aa⟩ j u hu;by_cases ay:j<R.size
    · rw [if_pos ay];rw [List.getElem?_append_left (by rw [R.len γ];exact ay)] at hu;exact R.sx γ j u hu
    · rw [if_neg ay];rw [List.getElem?_append_right (by rw [R.len γ];omega),R.len γ] at hu;exact S.sx aa _ u hu
  keep:=by rintro w w' cs p ⟨xs,ys,rfl,γ,aa⟩ Φ;exact ⟨xs,ys,Z,R.keep γ Φ,S.keep aa Φ⟩
  qh:=by rintro w B f cs p ⟨xs,ys,f1,f2,rfl,rfl,γ,aa⟩;exact ⟨xs,ys,Z,R.qh γ,S.qh aa⟩
  qi:=by
    rintro w w' B f cs p ⟨xs,ys,f1,f2,rfl,rfl,γ,aa⟩ av;exact ⟨xs,ys,f1,f2,Z,Z,R.qi γ (fun g aO=>av g (by simp [aO])),S.qi aa (fun g aO=>av g (by simp [aO]))⟩
  sw:=by
    rintro w B f cs p ⟨xs,ys,f1,f2,rfl,rfl,γ,aa⟩ g aO;rcases List.mem_append.1 aO with aO | aO
    · exact R.sw γ g aO
    · exact S.sw aa g aO
  xE:=by
    rintro w B oM f cs p ⟨xs,ys,f1,f2,rfl,rfl,γ,aa⟩ Φ;exact ⟨xs,ys,f1,f2,Z,Z,R.xE γ Φ,S.xE aa Φ⟩
def via (R:κ α) (g:β→α):κ β where
  size:=R.size
  has:=fun w cs b=>R.has w cs (g b)
  own:=fun w B f cs b=>R.own w B f cs (g b)
  raw:=R.raw
  len:=fun h=>R.len h
  one:=fun h=>R.one h
  sx:=fun h=>R.sx h
  keep:=fun h Φ=>R.keep h Φ
  qh:=fun h=>R.qh h
  qi:=fun h av=>R.qi h av
  sw:=fun h=>R.sw h
  xE:=fun h Φ=>R.xE h Φ
def af:Option Addr→List Nat
  | none=> []
  | some a=> [a.block]
theorem apX {A:Option Addr} {g:Nat}:g∈af A↔∃ a,A=some a∧a.block=g:=by
  cases A with
  | none=>simp [af]
  | some a=>simp [af,eq_comm]
def aH (R:κ α) (by_:Nat) (w:World) (A:Option Addr) (c:Nat) (l:List α):Prop :=
  l.length≤c∧c≤9223372036854775807∧l.length * by_≤140737488355328∧(A=none→c=0)∧
  ∃ ess,cD (fun es a=>R.has w es a) ess l∧Rd w R.size A l.length ess.flatten
def aF (R:κ α) (E:TypeId) (by_:Nat) (w:World) (B:Nat) (f:List Nat) (A:Option Addr) (c:Nat) (l:List α):Prop :=
  l.length * by_≤140737488355328∧
  ∃ ps:List (List Nat×List Value),f=af A++(ps.map (·.1)).flatten∧f.Nodup∧Own w B E R.size R.raw (.slice A l.length c) l.length (ps.map (·.2)).flatten∧
    cD (fun x a=>R.own w B x.1 x.2 a) ps l
theorem aH.keep {R:κ α} {by_:Nat} {A:Option Addr} {c:Nat} {l:List α} (h:R.aH by_ w A c l) (Φ:Below w.heap.size w w'):R.aH by_ w' A c l:=by
  obtain ⟨γ,aa,au,a1,ess,bO,b_⟩:=h;exact ⟨γ,aa,au,a1,ess,bO.imp (fun es a _ h=>R.keep h Φ),b_.later Φ⟩
theorem aH.drewN {R:κ α} {by_:Nat} {A:Option Addr} {c:Nat} {l:List α} (h:R.aH by_ w A c l) (k:Nat):R.aH by_ (w.drewN k) A c l:=h.keep (below_drewN (Below.refl _ w) k)
theorem cD.Rg {β aew α:Type} (g:β→aew) {P:aew→α→Prop}:∀ {l:List β} {m:List α},cD (fun b a=>P (g b) a) l m→cD P (l.map g) m
  | [], [],_=>trivial
  | _::_,_::_,h=>⟨h.1,cD.Rg g h.2⟩
  | [],_::_,h=>h.elim
  | _::_, [],h=>h.elim
theorem aF.has {R:κ α} {E:TypeId} {by_:Nat} {A:Option Addr} {c:Nat} {l:List α} (h:R.aF E by_ w B f A c l):R.aH by_ w A c l:=by
  obtain ⟨γ,ps,rfl,au,a1,bO⟩:=h;obtain ⟨bH,bW,e,hle,hmx,GO,_,kW⟩:=a1.shape;injection e with aU _ bc
  subst aU;subst bc;refine ⟨hle,by unfold maxLen at hmx;omega,γ,fun hn=>by have:=kW hn;injection this,_,cD.Rg (fun x:List Nat×List Value=>x.2) (bO.imp fun x a _ h=>R.qh h),GO⟩
theorem aF.keep {R:κ α} {E:TypeId} {by_:Nat} {A:Option Addr} {c:Nat} {l:List α} (h:R.aF E by_ w B f A c l) (av:∀ g∈f,w'.heap[g]? =w.heap[g]?):R.aF E by_ w' B f A c l:=by
  obtain ⟨γ,ps,rfl,au,a1,bO⟩:=h;refine ⟨γ,ps,Z,au,a1.of_block (B:=0) fun g aO=>av g ?_,bO.imp fun x a hx h=>R.qi h fun g aO=>av g ?_⟩
  · cases A with
    | none=>cases aO
    | some a=>injection aO with aO;simp [af,aO]
  · exact List.mem_append.2 (.inr (List.mem_flatten.2 ⟨x.1,List.mem_map.2 ⟨x,hx,rfl⟩,aO⟩))
theorem aF.lt {R:κ α} {E:TypeId} {by_:Nat} {A:Option Addr} {c:Nat} {l:List α} (h:R.aF E by_ w B f A c l):∀ g∈f,B≤g∧g<w.heap.size:=by
  obtain ⟨γ,ps,rfl,au,a1,bO⟩:=h;intro g aO;rcases List.mem_append.1 aO with aO | aO
  · obtain ⟨a,rfl,rfl⟩:=apX.1 aO
    exact a1.row.lt _ Z
  · obtain ⟨y,aG,aO⟩:=List.mem_flatten.1 aO
    obtain ⟨x,hx,rfl⟩:=List.mem_map.1 aG;obtain ⟨a,ha⟩:=bO.left x hx;exact R.sw ha g aO
theorem aF.later {R:κ α} {E:TypeId} {by_:Nat} {A:Option Addr} {c:Nat} {l:List α} (h:R.aF E by_ w B f A c l) (Φ:Below w.heap.size w w'):R.aF E by_ w' B f A c l:=h.keep fun g aO=>Φ.block g (h.lt g aO).2
theorem aF.nodup {R:κ α} {E:TypeId} {by_:Nat} {A:Option Addr} {c:Nat} {l:List α} (h:R.aF E by_ w B f A c l):f.Nodup:=by
  obtain ⟨_,ps,rfl,au,_⟩:=h;exact au
theorem aF.down {R:κ α} {E:TypeId} {by_:Nat} {A:Option Addr} {c:Nat} {l:List α} (h:R.aF E by_ w B f A c l) (Φ:oM≤B):R.aF E by_ w oM f A c l:=by
  obtain ⟨γ,ps,rfl,au,a1,bO⟩:=h;exact ⟨γ,ps,Z,au,a1.mono Φ,bO.imp fun x a _ h=>R.xE h Φ⟩
def slice (R:κ α) (E:TypeId) (by_:Nat):κ (List α) where
  size:=1
  has:=fun w cs l=>∃ A c,cs= [.slice A l.length c]∧R.aH by_ w A c l
  own:=fun w B f cs l=>∃ A c,cs= [.slice A l.length c]∧R.aF E by_ w B f A c l
  raw:=fun _ u=>∃ A n c,u= .slice A n c
  len:=by rintro w cs l ⟨A,c,rfl,_⟩;rfl
  one:=by rintro w cs l ⟨A,c,rfl,_⟩ u hu;simp at hu;subst hu;rfl
  sx:=by
    rintro w cs l ⟨A,c,rfl,_⟩ j u hu;cases j with
    | zero=>simp at hu;exact ⟨_,_,_,hu.symm⟩
    | succ j=>simp at hu
  keep:=by rintro w w' cs l ⟨A,c,rfl,h⟩ Φ;exact ⟨A,c,Z,h.keep Φ⟩
  qh:=by rintro w B f cs l ⟨A,c,rfl,h⟩;exact ⟨A,c,Z,h.has⟩
  qi:=by rintro w w' B f cs l ⟨A,c,rfl,h⟩ av;exact ⟨A,c,Z,h.keep av⟩
  sw:=by rintro w B f cs l ⟨A,c,rfl,h⟩;exact h.lt
  xE:=by rintro w B oM f cs l ⟨A,c,rfl,h⟩ Φ;exact ⟨A,c,Z,h.down Φ⟩
theorem cD.abE {β α:Type} {P:β→α→Prop}:∀ {l:List β} {m:List α},l.length=m.length→(∀ (k:Nat) b a,l[k]? =some b→m[k]? =some a→P b a)→cD P l m
  | [], [],_,_=>trivial
  | b::l,a::m,az,h=>⟨h 0 b a rfl rfl,cD.abE (by simpa using az) (fun k b a γ aa=>h (k+1) b a (by simpa using γ) (by simpa using aa))⟩
  | [],_::_,az,_=>by simp at az
  | _::_, [],az,_=>by simp at az
section
variable {R:κ α} {E:TypeId} {by_:Nat} {A:Option Addr} {c:Nat} {l:List α}
theorem lens {ess:List (List Value)} (h:cD (fun es a=>R.has w es a) ess l):∀ x∈ess,x.length=R.size:=fun x hx=>by
  obtain ⟨a,ha⟩:=h.left x hx;exact R.len ha
theorem aH.at_ (h:R.aH by_ w A c l) (aE:0<l.length):∃ b o,A=some ⟨b,o,none⟩∧∀ (i:Nat) a,l[i]? =some a→∃ es,R.has w es a∧∀ (j:Nat) u,es[j]? =some u→w.cell? ⟨b,o+(i * R.size+j),none⟩=some u:=by
  obtain ⟨_,_,_,_,ess,bO,b_,dW⟩:=h;obtain ⟨b,o,e,hc⟩:=dW aE;refine ⟨b,o,e,fun i a ha=> ?_⟩;obtain ⟨es,fu,p5⟩:=bO.at_ ha;refine ⟨es,p5,fun j u hu=>hc _ u ?_⟩;have ay:=(List.getElem?_eq_some_iff.1 hu).1;rw [R.len p5] at ay;rw [Dm (lens bO) fu ay];exact hu
theorem aH.AT {Q:α→Prop} (I:∀ {w cs a},R.has w cs a→Q a) (h:R.aH by_ w A c l):∀ a∈l,Q a:=by
  obtain ⟨_,_,_,_,ess,bO,_⟩:=h;intro a ha;obtain ⟨i,ao,rfl⟩:=List.mem_iff_getElem.1 ha;obtain ⟨es,_,he⟩:=bO.at_ (List.getElem?_eq_getElem ao);exact I he
theorem vL {e:fr} (he:∀ w cs,e.gY w cs→∃ a,R.has w cs a) (hs:e.size=R.size) (aE:0<R.size) {cs:List Value} (h:(fr.slice e by_).gY w cs):∃ A c l,cs= [.slice A (List.length l) c]∧R.aH by_ w A c l:=by
  rcases h with rfl | ⟨a,len,cap,rfl,az,hm,hr,ao⟩
  · exact ⟨none,0, [],rfl,Nat.le_refl _,by simp,by simp,fun _=>rfl, [],trivial,Rd.zero w R.size none⟩
  · obtain ⟨ess,hlen,Bs⟩:=aa4 len (fun i es=>List.length es=e.size∧(∀ j v,es[j]? =some v→w.cell? (a.add (i * e.size+j))=some v)∧e.gY w es) (fun i Gz=>ao i (by omega))
    obtain ⟨l,p8,KQ⟩:=aa4 len (fun i x=>∃ es,ess[i]? =some es∧R.has w es x) (fun i Gz=>by
      obtain ⟨x,hx⟩:=he w (ess[i]'(by omega)) (Bs i (by omega)).2.2;exact ⟨x,_,List.getElem?_eq_getElem _,hx⟩)
    have di:cD (fun es x=>R.has w es x) ess l:=by
      refine cD.abE (by omega) fun k es x γ aa=> ?_;have av:=(List.getElem?_eq_some_iff.1 aa);obtain ⟨oq,gP⟩:=av;obtain ⟨azn,au,a1⟩:=KQ k oq;rw [γ] at au;obtain rfl:=Option.some.inj au;rw [← gP];exact a1
    refine ⟨some a,cap,l,by rw [p8],by omega,by unfold maxLen at hm;omega, ?_,fun h=>(by cases h),ess,di,by rw [w5 (lens di),di.length],fun azI=> ?_⟩
    · have:=Nat.mul_le_mul_right by_ az
      rw [p8];omega
    · obtain ⟨b,off,spot⟩:=a
      have q7:=(Bs 0 (by omega)).2.1 0;obtain ⟨v,hv⟩:∃ v,(ess[0]'(by omega))[0]? =some v:=by
        have:=(Bs 0 (by omega)).1;exact ⟨_,List.getElem?_eq_getElem (by omega)⟩
      have tP:=q7 v hv;have xq:spot=none:=by simpa [Addr.add] using World.cell?_spot tP
      subst xq;refine ⟨b,off,Z,fun j u hu=> ?_⟩;have bl:=(List.getElem?_eq_some_iff.1 hu).1;rw [w5 (lens di)] at bl;have ay:j % R.size<R.size:=Nat.mod_lt _ aE;have hd:j / R.size<ess.length:=by rw [Nat.div_lt_iff_lt_mul aE];exact bl
      have K8:j / R.size * R.size+j % R.size=j:=by rw [Nat.mul_comm];exact Nat.div_add_mod j R.size
      have b_:=Dm (j:=j % R.size) (lens di) (i:=j / R.size) (es:=ess[j / R.size]'hd) (List.getElem?_eq_getElem hd) ay;rw [K8,hu] at b_;have dW:=(Bs (j / R.size) hd).2.1 _ u b_.symm;rw [CY,hs,K8] at dW;exact dW
theorem aH.ez {A:Option Addr} {c:Nat} {l:List α} {by_:Nat} {R:κ α} (h:R.aH by_ w A c l):l.length≤9223372036854775807:=Nat.le_trans h.1 h.2.1
theorem aH.Et {A:Option Addr} {c:Nat} {l:List α} {by_:Nat} {R:κ α} (h:R.aH by_ w A c l) (k:Nat):R.aH by_ w A c (l.take k):=by
  obtain ⟨γ,aa,au,a1,ess,bO,b_⟩:=h;have az:(l.take k).length≤l.length:=by rw [List.length_take];omega
  have hm:=Nat.mul_le_mul_right by_ az;have dW:=bO.Et k;refine ⟨by omega,aa,by omega,a1,ess.take k,dW,by rw [w5 (lens dW),dW.length],fun aE=> ?_⟩;obtain ⟨b,o,e,hc⟩:=b_.2 (by omega);refine ⟨b,o,e,fun j u hu=>hc j u ?_⟩;rw [← XH k (lens bO),List.getElem?_take] at hu;split at hu
  · exact hu
  · cases hu
theorem aH.nil (w:World):R.aH by_ w none 0 []:=⟨Nat.le_refl _,by simp,by simp,fun _=>rfl, [],trivial,Rd.zero w R.size none⟩
theorem aF.nil (w:World):R.aF E by_ w B [] none 0 []:=⟨by simp, [],rfl,List.nodup_nil,Own.nil w B E R.size R.raw,trivial⟩
end
def AP (R:κ α) (E:TypeId) (by_:Nat) (w:World) (B:Nat) (ax:List Nat) (g c:Nat) (l:List α) (i:Nat) (es:List Value):Prop :=
  l.length * by_≤140737488355328∧ 
  ∃ ps:List (List Nat×List Value),ax=g::(ps.map (·.1)).flatten∧ax.Nodup∧Own w B E R.size R.raw (.slice (some ⟨g,0,none⟩) l.length c) l.length (ps.map (·.2)).flatten∧
    ps[i]? =some ([],es)∧es.length=R.size∧ps.length=l.length∧∀ k a,k≠i→l[k]? =some a→∃ x,ps[k]? =some x∧R.own w B x.1 x.2 a
section
variable {R:κ α} {E:TypeId} {by_:Nat} {A:Option Addr} {c:Nat} {l:List α} {g i:Nat} {es:List Value} {ax:List Nat}
theorem LK {ps:List (List Nat×List Value)} (h:cD (fun x a=>R.own w B x.1 x.2 a) ps l):∀ x∈ps.map (·.2),x.length=R.size:=fun x hx=>by
  obtain ⟨y,aG,rfl⟩:=List.mem_map.1 hx;obtain ⟨a,ha⟩:=h.left y aG;exact R.Rz ha
theorem aF.block (h:R.aF E by_ w B f A c l) (aE:0<l.length):∃ g,A=some ⟨g,0,none⟩:=by
  obtain ⟨_,ps,_,_,a1,_⟩:=h;obtain ⟨_,bO⟩:=a1;rcases bO with ⟨_,bO⟩ | ⟨g,cap,cur,hv,_⟩
  · omega
  · injection hv with hv;exact ⟨g,hv⟩
theorem AP.lens (h:R.AP E by_ w B ax g c l i es):∃ ps:List (List Nat×List Value),ax=g::(ps.map (·.1)).flatten∧ax.Nodup∧Own w B E R.size R.raw (.slice (some ⟨g,0,none⟩) l.length c) l.length (ps.map (·.2)).flatten∧
    ps[i]? =some ([],es)∧es.length=R.size∧ps.length=l.length∧(∀ k a,k≠i→l[k]? =some a→∃ x,ps[k]? =some x∧R.own w B x.1 x.2 a)∧∀ x∈ps.map (·.2),x.length=R.size:=by
  obtain ⟨_,ps,aa,au,a1,bO,b_,dW,fu⟩:=h;refine ⟨ps,aa,au,a1,bO,b_,dW,fu,fun x hx=> ?_⟩;obtain ⟨k,av,rfl⟩:=List.mem_iff_getElem.1 hx;rw [List.length_map] at av;rw [List.getElem_map];by_cases nO:k=i
  · subst nO
    rw [List.getElem?_eq_getElem av] at bO;rw [Option.some.inj bO];exact b_
  · obtain ⟨y,aG,bJ⟩:=fu k (l[k]'(by omega)) nO (List.getElem?_eq_getElem _)
    rw [List.getElem?_eq_getElem av] at aG;rw [Option.some.inj aG];exact R.Rz bJ
theorem AP.keep (h:R.AP E by_ w B ax g c l i es) (av:∀ x∈ax,w'.heap[x]? =w.heap[x]?):R.AP E by_ w' B ax g c l i es:=by
  obtain ⟨γ,ps,aa,au,a1,bO,b_,dW,fu⟩:=h;refine ⟨γ,ps,aa,au,a1.of_block (B:=0) (fun x hx=>av x ?_),bO,b_,dW,fun k a nO ha=> ?_⟩
  · injection hx with hx;rw [aa,← hx];simp
  · obtain ⟨x,hx,bJ⟩:=fu k a nO ha
    refine ⟨x,hx,R.qi bJ fun y aG=>av y ?_⟩;rw [aa];exact List.mem_cons_of_mem _ (List.mem_flatten.2 ⟨x.1,List.mem_map.2 ⟨x,List.mem_of_getElem? hx,Z⟩,aG⟩)
theorem AP.cell (h:R.AP E by_ w B ax g c l i es) (ao:i<l.length) {j:Nat} {u:Value} (hu:es[j]? =some u):w.cell? ⟨g,i * R.size+j,none⟩=some u:=by
  obtain ⟨ps,aa,au,a1,bO,b_,dW,fu,az⟩:=h.lens;have ay:j<R.size:=by rw [← b_];exact (List.getElem?_eq_some_iff.1 hu).1
  have:=a1.cell (i * R.size+j) (by
    have:(i+1) * R.size≤l.length * R.size:=Nat.mul_le_mul_right _ ao;rw [Nat.add_mul] at this;omega)
  rw [this,Dm az (by rw [List.getElem?_map,bO];rfl) ay];exact hu
theorem aF.free (h:R.aF E by_ w B f (some ⟨g,0,none⟩) c l) (j:Nat):w.frozen? ⟨g,j,none⟩=false:=by
  obtain ⟨_,ps,rfl,_,a1,_⟩:=h;exact a1.free j
end

section
variable {P:Program} {R:κ α} {by_:Nat}
theorem LM (A:Option Addr) (n c:Nat):(Value.slice A n c).ownBlock.toList=af A:=by cases A<;>rfl
theorem asK (ty:TypeId) (base:Nat) (t e:TypeId) (i:TypeInfo) (z:Value) (aA:P.underlying t=some (.slice e)) (ao:P.info? e=some i) (bw:i.zero=some z)
    (ra:i.size=R.size) (l':i.bytes=by_) (ou:z.cells.size=R.size) (hH:0<R.size) (re:∀ (j:Nat) u,z.cells[j]? =some u→R.raw j u)
    (f:List Nat) (A:Option Addr) (c:Nat) (l:List α) (h:R.aF e by_ w base f A c l)
    (cC:Option Addr) (m c2:Nat) (k:List α) (jq:List (List Nat×List Value)) (I:cD (fun x a=>R.own w base x.1 x.2 a) jq k) (hm:k.length=m) (hr:Rd w R.size cC m (jq.map (·.2)).flatten)
    (h6:(f++(jq.map (·.1)).flatten).Nodup) (nJ:l.length+m≤9223372036854775807) (nM:(l.length+m) * by_≤140737488355328) (l_:base≤w.heap.size):
    ∃ bH bW f' w',(Builtin.append_ #[t,t] ty #[.slice A l.length c, .slice cC m c2]).run P w= .ok (.slice bH (l.length+m) bW) w'∧R.aF e by_ w' base f' bH bW (l++k)∧w.grownBy w' (Value.slice A l.length c).ownBlock∧(bH=A∨∃ a,bH=some a∧a.block=w.heap.size)∧(∀ x∈f',x∈f∨x∈(jq.map (·.1)).flatten∨x=w.heap.size)∧(bH=none↔A=none∧m=0)∧base≤w'.heap.size:=by
  obtain ⟨γ,ps,rfl,au,a1,bO⟩:=h;have GI:∀ (j:Nat) u,(jq.map (·.2)).flatten[j]? =some u→R.raw (j % R.size) u:=by
    intro j u hu;have az:=LK I;have bl:=(List.getElem?_eq_some_iff.1 hu).1;rw [w5 az,List.length_map] at bl;have ay:j % R.size<R.size:=Nat.mod_lt _ hH;have hd:j / R.size<jq.length:=by rw [Nat.div_lt_iff_lt_mul hH];exact bl
    have aAv:jq[j / R.size]? =some (jq[j / R.size]'hd):=List.getElem?_eq_getElem hd;have amW:k[j / R.size]? =some (k[j / R.size]'(by rw [← I.length];exact hd)):=List.getElem?_eq_getElem _;obtain ⟨x,hx,bJ⟩:=I.at_ amW;have:=Dm (j:=j % R.size) az (i:=j / R.size) (es:=x.2) (by rw [List.getElem?_map,hx];rfl) ay;rw [show j / R.size * R.size+j % R.size=j from by rw [Nat.mul_comm];exact Nat.div_add_mod j R.size,hu] at this;exact R.sx (R.qh bJ) _ u this.symm
  have nQ:∀ u∈(jq.map (·.2)).flatten,u.oneCell'=true:=by
    intro u hu;obtain ⟨y,aG,hu⟩:=List.mem_flatten.1 hu;obtain ⟨x,hx,rfl⟩:=List.mem_map.1 aG;obtain ⟨a,ha⟩:=I.left x hx;exact R.one (R.qh ha) u hu
  obtain ⟨v',w',jY,eI,iQ,mR,dz⟩:=acB (P:=P) w base t ty e i z R.size by_ aA ao bw ra l' ou hH R.raw re _ _ _ a1 cC m c2 _ hr nQ GI (by unfold maxLen;omega) nM l_;obtain ⟨bH,bW,rfl,hle,hmx,GO,DC,kW⟩:=eI.shape;have am9:∀ x,(Value.slice A l.length c).ownBlock=some x→x∈af A:=fun x hx=>by rw [← LM A l.length c,hx];simp
  have hA:∀ x∈af bH,x∈af A∨x=w.heap.size:=by
    intro x hx;rw [← LM bH (l.length+m) bW] at hx;rcases dz with dz | dz
    · rw [dz,LM] at hx;exact .inl hx
    · rw [dz] at hx;simp at hx;exact .inr hx
  have anx:∀ x∈ps,∀ y∈x.1,y<w.heap.size∧y∉af A:=by
    intro x hx y aG;obtain ⟨a,ha⟩:=bO.left x hx;refine ⟨(R.sw ha y aG).2,fun Φ=> ?_⟩;rw [List.nodup_append] at au;exact au.2.2 y Φ y (List.mem_flatten.2 ⟨x.1,List.mem_map.2 ⟨x,hx,Z⟩,aG⟩) Z
  have anB:∀ x∈jq,∀ y∈x.1,y<w.heap.size∧y∉af A:=by
    intro x hx y aG;obtain ⟨a,ha⟩:=I.left x hx;refine ⟨(R.sw ha y aG).2,fun Φ=> ?_⟩;rw [List.nodup_append] at h6;exact h6.2.2 y (List.mem_append_left _ Φ) y (List.mem_flatten.2 ⟨x.1,List.mem_map.2 ⟨x,hx,Z⟩,aG⟩) Z
  have amc:∀ y,y<w.heap.size→y∉af A→w'.heap[y]? =w.heap[y]? :=fun y aG hn=>iQ.block y aG fun e=>hn (am9 y e.symm);have Qi:∀ x∈ps++jq,∀ y∈x.1,y<w.heap.size∧y∉af A:=fun x hx=>by
    rcases List.mem_append.1 hx with hx | hx
    · exact anx x hx
    · exact anB x hx
  refine ⟨bH,bW,af bH++((ps++jq).map (·.1)).flatten,w',jY,⟨by rw [List.length_append,hm];exact nM,ps++jq,rfl, ?_, ?_, ?_⟩,iQ, ?_, ?_, ?_,Nat.le_trans l_ iQ.size⟩
  · rw [List.append_assoc,← List.flatten_append,← List.map_append,List.nodup_append] at h6
    rw [List.nodup_append];refine ⟨by cases bH<;>simp [af],h6.2.1,fun x hx y aG e=> ?_⟩;subst e;obtain ⟨z,bw,aG⟩:=List.mem_flatten.1 aG;obtain ⟨v,hv,rfl⟩:=List.mem_map.1 bw;have b_:=Qi v hv x aG;rcases hA x hx with dW | dW
    · exact b_.2 dW
    · omega
  · rw [List.map_append,List.flatten_append,List.length_append,hm];exact eI
  · exact (bO.app I).imp fun x a hx bJ=>R.qi bJ fun y aG=>amc y (Qi x hx y aG).1 (Qi x hx y aG).2
  · rcases dz with dz | dz
    · cases bH with
      | none =>
        cases A with
        | none=>exact .inl rfl
        | some a=>cases dz
      | some a' =>
        cases A with
        | none=>cases dz
        | some a =>
          obtain ⟨_,b_⟩:=a1;obtain ⟨_,dW⟩:=eI;rcases b_ with ⟨b_,_⟩ | ⟨g,cap,cur,b_,_⟩
          · cases b_
          rcases dW with ⟨dW,_⟩ | ⟨g',ayW,yG,dW,_⟩
          · cases dW
          injection b_ with b_
          injection dW with dW
          rw [b_,dW] at dz ⊢;injection dz with dz
          have dz:g'=g:=dz
          left;rw [dz]
    · cases bH with
      | none=>cases dz
      | some a'=>injection dz with dz;exact .inr ⟨a',Z,dz⟩
  · intro x hx
    rcases List.mem_append.1 hx with hx | hx
    · rcases hA x hx with h | h
      · exact .inl (List.mem_append_left _ h)
      · exact .inr (.inr h)
    · rw [List.map_append,List.flatten_append] at hx
      rcases List.mem_append.1 hx with hx | hx
      · exact .inl (List.mem_append_right _ hx)
      · exact .inr (.inl hx)
  · have Ba:A=none→Value.slice A l.length c= .slice none 0 0:=fun e=>by
      obtain ⟨_,_,jd,_,_,_,_,ang⟩:=a1.shape;injection jd with aU _ bc
      subst aU;subst bc;exact ang e
    constructor
    · intro e
      obtain ⟨b_,dW⟩:=mR.1 (kW e);injection b_ with b_
      exact ⟨b_,dW⟩
    · rintro ⟨e,aE⟩
      have:=mR.2 ⟨Ba e,aE⟩;injection this
theorem avA {o:Oper} {a:Act} {K:Act→World→Prop} {Q:Exit→Act→World→Prop} (s x:Operand) (base:Nat) (t e:TypeId) (i:TypeInfo) (z:Value) (aA:P.underlying t=some (.slice e)) (ao:P.info? e=some i) (bw:i.zero=some z)
    (ra:i.size=R.size) (l':i.bytes=by_) (ou:z.cells.size=R.size) (hH:0<R.size) (re:∀ (j:Nat) u,z.cells[j]? =some u→R.raw j u)
    (f:List Nat) (A:Option Addr) (c:Nat) (l:List α) (h:R.aF e by_ w base f A c l)
    (cC:Option Addr) (m c2:Nat) (k:List α) (jq:List (List Nat×List Value)) (I:cD (fun x a=>R.own w base x.1 x.2 a) jq k) (hm:k.length=m) (hr:Rd w R.size cC m (jq.map (·.2)).flatten)
    (h6:(f++(jq.map (·.1)).flatten).Nodup) (nJ:l.length+m≤9223372036854775807) (nM:(l.length+m) * by_≤140737488355328) (l_:base≤w.heap.size)
    (bJ:o.op= .call {callee:= .builtin .append,args:=#[s,x],argTypes:=#[t,t]}) (hs:a.eval s= .slice A l.length c) (hx:a.eval x= .slice cC m c2)
    (hK:∀ bH bW f' w',R.aF e by_ w' base f' bH bW (l++k)∧w.grownBy w' (Value.slice A l.length c).ownBlock∧(bH=A∨∃ a,bH=some a∧a.block=w.heap.size)∧(∀ x∈f',x∈f∨x∈(jq.map (·.1)).flatten∨x=w.heap.size)∧(bH=none↔A=none∧m=0)∧base≤w'.heap.size→K (a.put o.dst (.slice bH (l.length+m) bW)) w'):o.wp P a w K Q:=by
  obtain ⟨bH,bW,f',w',jY,aa⟩:=asK (P:=P) (w:=w) o.type base t e i z aA ao bw ra l' ou hH re f A c l h cC m c2 k jq I hm hr h6 nJ nM l_;unfold Oper.wp execOp;simp only [bJ,resolve,invoke,builtin,Sem.run_bind,Sem.run_pure,Result.andThen_ok,List.map_toArray,List.map_cons,List.map_nil,hs,hx,jY];exact hK bH bW f' w' aa
theorem avy {ops:Array Oper} {rest:List Oper} {o:Oper} {a:Act} {Q:Exit→Act→World→Prop} (Gx:o.guard=none) (s x:Operand) (base:Nat) (t e:TypeId) (i:TypeInfo) (z:Value) (aA:P.underlying t=some (.slice e)) (ao:P.info? e=some i) (bw:i.zero=some z)
    (ra:i.size=R.size) (l':i.bytes=by_) (ou:z.cells.size=R.size) (hH:0<R.size) (re:∀ (j:Nat) u,z.cells[j]? =some u→R.raw j u)
    (f:List Nat) (A:Option Addr) (c:Nat) (l:List α) (h:R.aF e by_ w base f A c l)
    (cC:Option Addr) (m c2:Nat) (k:List α) (jq:List (List Nat×List Value)) (I:cD (fun x a=>R.own w base x.1 x.2 a) jq k) (hm:k.length=m) (hr:Rd w R.size cC m (jq.map (·.2)).flatten)
    (h6:(f++(jq.map (·.1)).flatten).Nodup) (nJ:l.length+m≤9223372036854775807) (nM:(l.length+m) * by_≤140737488355328) (l_:base≤w.heap.size)
    (bJ:o.op= .call {callee:= .builtin .append,args:=#[s,x],argTypes:=#[t,t]}) (hs:a.eval s= .slice A l.length c) (hx:a.eval x= .slice cC m c2)
    (hK:∀ bH bW f' w',R.aF e by_ w' base f' bH bW (l++k)∧w.grownBy w' (Value.slice A l.length c).ownBlock∧(bH=A∨∃ a,bH=some a∧a.block=w.heap.size)∧(∀ x∈f',x∈f∨x∈(jq.map (·.1)).flatten∨x=w.heap.size)∧(bH=none↔A=none∧m=0)∧base≤w'.heap.size→wpList P ops Q rest (a.put o.dst (.slice bH (l.length+m) bW)) w'):wpList P ops Q (o::rest) a w :=
  wpList_plain Gx fun _ alv=>avA s x base t e i z aA ao bw ra l' ou hH re f A c l h cC m c2 k jq I hm hr h6 nJ nM l_ bJ hs hx fun bH bW f' w' aa=>alv _ _ (hK bH bW f' w' aa)
def Plain (R:κ α):Prop:=∀ {w B cs a},R.has w cs a→R.own w B [] cs a
theorem r5 {size:Nat} {cells:α→List Value} {ok:α→Prop} {raw:Nat→Value→Prop} {az γ hr}:(flat size cells ok raw az γ hr).Plain:=fun h=>⟨rfl,h⟩
theorem akC {size:Nat} {cells:α→List Value} {ok:α→Prop} {raw:Nat→Value→Prop} {az γ hr}:(Kc size cells ok raw az γ hr).Plain:=fun h=>⟨rfl,h⟩
theorem cD.plain {ess:List (List Value)} {l:List α} (hp:R.Plain) (h:cD (fun es a=>R.has w es a) ess l):cD (fun x a=>R.own w B x.1 x.2 a) (ess.map fun es=>(([]:List Nat),es)) l :=
  cD.Rg (P:=fun (x:List Nat×List Value) a=>R.own w B x.1 x.2 a) (fun es=>(([]:List Nat),es)) (h.imp fun _ _ _ h=>hp h)
theorem abT (ess:List (List Value)):((ess.map fun es=>(([]:List Nat),es)).map (·.1)).flatten= []∧(ess.map fun es=>(([]:List Nat),es)).map (·.2)=ess:=by
  constructor
  · induction ess with
    | nil=>rfl
    | cons x r bk=>simp
  · rw [List.map_map]
    exact List.map_id' ess
theorem aF.xF {E:TypeId} {A:Option Addr} {c:Nat} {l:List α} (hp:R.Plain) {ess:List (List Value)} (h:cD (fun es a=>R.has w es a) ess l) (Φ:l.length * by_≤140737488355328) (bJ:Own w B E R.size R.raw (.slice A l.length c) l.length ess.flatten):R.aF E by_ w B (af A) A c l:=by
  obtain ⟨aU,bc⟩:=abT ess;exact ⟨Φ,_,by rw [aU,List.append_nil],by cases A<;>simp [af],by rw [bc];exact bJ,cD.plain hp h⟩
theorem aF.akP {E:TypeId} {A:Option Addr} {c:Nat} {l:List α} (hp:∀ {w B f cs a},R.own w B f cs a→f= []) (h:R.aF E by_ w B f A c l):f=af A:=by
  obtain ⟨_,ps,rfl,_,_,bO⟩:=h;have:(ps.map (·.1)).flatten= []:=by
    rw [List.flatten_eq_nil_iff];intro x hx;obtain ⟨y,aG,rfl⟩:=List.mem_map.1 hx;obtain ⟨a,ha⟩:=bO.left y aG;exact hp ha
  rw [this,List.append_nil]
end
end κ
end Go.Proofs.YtlikikpgmmkjbaaGreat
set_option linter.unusedVariables false
set_option linter.unusedSimpArgs false
namespace Go.Proofs.YtlikikpgmmkjbaaGreat
open Go.RowKit

theorem F0 {α:Type} {R:κ α} {w:World} {ess:List (List Value)} {l:List α} (h:cD (fun es a=>R.has w es a) ess l) (aE:0<R.size) {j:Nat} {u:Value} (hu:ess.flatten[j]? =some u):R.raw (j % R.size) u:=by
  have az:=κ.lens h;have bl:=(List.getElem?_eq_some_iff.1 hu).1;rw [w5 az] at bl;have ay:j % R.size<R.size:=Nat.mod_lt _ aE;have hd:j / R.size<ess.length:=by rw [Nat.div_lt_iff_lt_mul aE];exact bl
  have K8:j / R.size * R.size+j % R.size=j:=by rw [Nat.mul_comm];exact Nat.div_add_mod j R.size
  have b_:=Dm (j:=j % R.size) az (i:=j / R.size) (es:=ess[j / R.size]'hd) (List.getElem?_eq_getElem hd) ay;rw [K8,hu] at b_;obtain ⟨a,ha⟩:=h.left _ (List.getElem_mem hd);exact R.sx ha _ u b_.symm
namespace κ
variable {α:Type} {w w':World} {B:Nat} {f:List Nat} {R:κ α} {E:TypeId} {A:Option Addr} {by_ g c:Nat} {l:List α}
def sW (R:κ α):Prop:=R.Plain∧∀ {w B f cs a},R.own w B f cs a→f= []
theorem dV {size:Nat} {cells:α→List Value} {ok:α→Prop} {raw:Nat→Value→Prop} {az γ hr}:(flat size cells ok raw az γ hr).sW:=⟨r5,fun h=>h.1⟩
theorem akB {size:Nat} {cells:α→List Value} {ok:α→Prop} {raw:Nat→Value→Prop} {az γ hr}:(Kc size cells ok raw az γ hr).sW:=⟨akC,fun h=>h.1⟩
theorem aF.as3 (h:R.aF E by_ w B f (some ⟨g,0,none⟩) c l) (hp:R.sW) {i j:Nat} {a a':α} {u:Value} (ao:l[i]? =some a) (ay:j<R.size) (hu:∀ cs,R.has w cs a→R.has (w.setCell ⟨g,i * R.size+j,none⟩ u) (cs.set j u) a'):
    R.aF E by_ (w.setCell ⟨g,i * R.size+j,none⟩ u) B f (some ⟨g,0,none⟩) c (l.set i a'):=by
  obtain ⟨Φ,ps,rfl,hn,bJ,di⟩:=h;obtain ⟨x,hx,G3⟩:=di.at_ ao;have az:=LK di;have iE:x.1= []:=hp.2 G3;have DS:x.2.length=R.size:=R.Rz G3;have Zi:=hu x.2 (R.qh G3);have q_:R.raw j u:=R.sx Zi j u (by rw [List.getElem?_set_self (by omega)]);have p5:=bJ.stored (i * R.size+j) u (by rw [Nat.mul_comm,Nat.mul_add_mod,Nat.mod_eq_of_lt ay];exact q_);rw [XG u az (i:=i) (es:=x.2) (by rw [List.getElem?_map,hx];rfl) ay] at p5;have bl:=(List.getElem?_eq_some_iff.1 hx).1;have aU:(ps.set i (x.1,x.2.set j u)).map (·.1)=ps.map (·.1):=by
    rw [List.map_set];have:(ps.map (·.1))[i]? =some x.1:=by rw [List.getElem?_map,hx];rfl
    obtain ⟨aa,au⟩:=List.getElem?_eq_some_iff.1 this
    conv=>lhs;rw [← au]
    exact List.set_getElem_self _
  have bc:(ps.set i (x.1,x.2.set j u)).map (·.2)=(ps.map (·.2)).set i (x.2.set j u):=by rw [List.map_set]
  have P7:∀ y∈ps,∀ q∈y.1,q≠g:=fun y aG q I e=>by
    obtain ⟨b,Bl⟩:=di.left y aG;rw [hp.2 Bl] at I;simp at I
  have PU:cD (fun x a=>R.own (w.setCell ⟨g,i * R.size+j,none⟩ u) B x.1 x.2 a) ps l:=di.imp fun y a aG Lc=>R.qi Lc fun q I=>heap_setCell_other _ _ _ _ (P7 y aG q I);refine ⟨by rw [List.length_set];exact Φ,ps.set i (x.1,x.2.set j u),by rw [aU],hn,by rw [List.length_set,bc];exact p5, ?_⟩;exact PU.R_ (P:=fun (x:List Nat×List Value) a=>R.own (w.setCell ⟨g,i * R.size+j,none⟩ u) B x.1 x.2 a) (by rw [iE];exact hp.1 Zi)
theorem aF.other (h:R.aF E by_ w B f A c l) {p:Addr} (hp:p.block∉f) (u:Value):R.aF E by_ (w.setCell p u) B f A c l :=
  h.keep fun g aO=>heap_setCell_other _ _ _ _ fun e=>hp (e ▸ aO)
theorem aF.drewN (h:R.aF E by_ w B f A c l) (k:Nat):R.aF E by_ (w.drewN k) B f A c l:=h.keep fun _ _=>rfl
theorem aF.drew (h:R.aF E by_ w B f A c l):R.aF E by_ w.drew B f A c l:=h.keep fun _ _=>rfl
end κ
def cw (n lo ao:Int):Bool:=decide (lo≤n) && decide (n≤ao)
theorem jk {n lo ao:Int} (h:cw n lo ao=true):lo≤n∧n≤ao:=by simpa [cw] using h
theorem aou {n lo ao:Int} (h:cw n lo ao=false):n<lo∨ao<n:=by
  simp [cw] at h;omega
theorem mU {n lo ao:Int} (γ:lo≤n) (aa:n≤ao):cw n lo ao=true:=by simp [cw,γ,aa]
theorem nT {n lo ao:Int} (h:n<lo∨ao<n):cw n lo ao=false:=by
  cases Φ:cw n lo ao with
  | false=>rfl
  | true=>have:=jk Φ;omega
def gh {α:Type} (p:α→Bool) (l:List α):Int:=match l.findIdx? p with | some k=>(k:Int) | none=> -1
theorem G6 {α:Type} {p:α→Bool} {l:List α} {k:Nat} (av:k<l.length) (γ:p l[k]=true) (aa:∀ j (ay:j<k),p (l[j]'(by omega))=false):gh p l=(k:Int):=by
  unfold gh;have:l.findIdx? p=some k:=by
    rw [List.findIdx?_eq_some_iff_getElem];exact ⟨av,γ,fun j ay=>by rw [aa j ay];simp⟩
  rw [this]
theorem DT {α:Type} {p:α→Bool} {l:List α} (aa:∀ j (ay:j<l.length),p l[j]=false):gh p l= -1:=by
  unfold gh;have:l.findIdx? p=none:=by
    rw [List.findIdx?_eq_none_iff];intro x hx;obtain ⟨j,ay,rfl⟩:=List.mem_iff_getElem.1 hx;exact aa j ay
  rw [this]
theorem QH {α:Type} (p:α→Bool) (l:List α):decide (0≤gh p l)=l.any p:=by
  by_cases h:∀ j (ay:j<l.length),p l[j]=false
  · rw [DT h]
    have:l.any p=false:=by
      rw [List.any_eq_false];intro x hx;obtain ⟨j,ay,rfl⟩:=List.mem_iff_getElem.1 hx;rw [h j ay];simp
    rw [this];rfl
  · have:l.any p=true:=by
      rw [List.any_eq_true];simp only [Classical.not_forall] at h;obtain ⟨j,ay,h⟩:=h;exact ⟨l[j],List.getElem_mem ay,by simpa using h⟩
    rw [this];unfold gh;cases hf:l.findIdx? p with
    | none =>
      rw [List.findIdx?_eq_none_iff] at hf;rw [List.any_eq_true] at this;obtain ⟨x,hx,hp⟩:=this;rw [hf x hx] at hp;cases hp
    | some k=>simp
theorem aol {α:Type} (p:α→Bool) (l:List α):gh p l= -1∧(∀ x∈l,p x=false)∨∃ (k:Nat) (h:k<l.length),gh p l=(k:Int)∧p l[k]=true∧∀ j (ay:j<k),p (l[j]'(by omega))=false:=by
  unfold gh;cases hf:l.findIdx? p with
  | none=>exact .inl ⟨rfl,fun x hx=>List.findIdx?_eq_none_iff.1 hf x hx⟩
  | some k =>
    obtain ⟨γ,aa,au⟩:=List.findIdx?_eq_some_iff_getElem.1 hf;exact .inr ⟨k,γ,Z,aa,fun j ay=>by have:=au j ay;simpa using this⟩
end Go.Proofs.YtlikikpgmmkjbaaGreat
set_option linter.unusedVariables false
set_option linter.unusedSimpArgs false
namespace Go.Proofs.YtlikikpgmmkjbaaGreat
open Go.RowKit Go.Maps

def hj (w:World) (b:Nat) (es:Array MapEntry) (clock:Nat):World:=Go.ChangeMaps.setBlock w b (.map es clock)
theorem zI {w:World} {b:Nat} {es:Array MapEntry} {clock:Nat} (h:b<w.heap.size):(hj w b es clock).heap[b]? =some (.map es clock):=by
  simp [hj,Go.ChangeMaps.setBlock,h]
theorem HR {w:World} {b g:Nat} {es:Array MapEntry} {clock:Nat} (h:g≠b):(hj w b es clock).heap[g]? =w.heap[g]? :=by
  simp [hj,Go.ChangeMaps.setBlock,Array.getElem?_setIfInBounds_ne (Ne.symm h)]
theorem acK {w:World} {b:Nat} {es:Array MapEntry} {clock:Nat}:(hj w b es clock).heap.size=w.heap.size:=by
  simp [hj,Go.ChangeMaps.setBlock]
theorem as0 {B:Nat} {a w:World} {b:Nat} {es:Array MapEntry} {clock:Nat} (h:Below B a w) (Φ:B≤b):Below B a (hj w b es clock):=
  h.trans ⟨rfl,rfl,rfl,by simp [acK],fun k av=>HR (by omega)⟩
def dc {fi:Type} (key:fi→Value) (e:fi×Int×Nat):MapEntry:=⟨key e.1, .int .i64 e.2.1,e.2.2⟩
structure c7 {fi:Type} (key:fi→Value) (w:World) (b:Nat) (l:List (fi×Int×Nat)) (clock:Nat):Prop where
  eu:w.heap[b]? =some (.map (l.map (dc key)).toArray clock)
  born:∀ e∈l,e.2.2<clock
  stamps:(l.map (·.2.2)).Nodup
structure Nl {fi:Type} (P:Program) (k:TypeId) (key:fi→Value) (wf:fi→Prop):Prop where
  keyed:Keyed P k
  lit:∀ x,wf x→∃ l,keyOf P k (key x)=some l
  inj:∀ x y,key x=key y→x=y
namespace c7
section
variable {fi:Type} {key:fi→Value} {w:World} {b:Nat} {l:List (fi×Int×Nat)} {clock:Nat}
theorem lt (h:c7 key w b l clock):b<w.heap.size:=(Array.getElem?_eq_some_iff.1 h.eu).1
theorem keep {w':World} (h:c7 key w b l clock) (av:w'.heap[b]? =w.heap[b]?):c7 key w' b l clock:=⟨av.trans h.eu,h.born,h.stamps⟩
theorem later {w':World} (h:c7 key w b l clock) (Φ:Below w.heap.size w w'):c7 key w' b l clock:=h.keep (Φ.block b h.lt)
theorem made (w:World):c7 key (w.alloc (.map #[] 0)) w.heap.size [] 0:=⟨heap_alloc_new w _,(by simp),(by simp)⟩
theorem aoU {P:Program} {k:TypeId} {wf:fi→Prop} (K:Nl P k key wf) (hw:∀ e∈l,wf e.1):∀ y∈l.map (dc key),∃ z,keyOf P k y.key=some z:=by
  intro y aG;obtain ⟨a,ha,rfl⟩:=List.mem_map.1 aG;exact K.lit a.1 (hw a ha)
end
variable {fi:Type} [DecidableEq fi] {key:fi→Value} {w:World} {b:Nat} {l:List (fi×Int×Nat)} {clock:Nat}
def get (l:List (fi×Int×Nat)) (x:fi):Option Int:=(l.find? fun e=>decide (e.1=x)).map (·.2.1)
def put (l:List (fi×Int×Nat)) (clock:Nat) (x:fi) (v:Int):List (fi×Int×Nat):=
  if l.any (fun e=>decide (e.1=x)) then l.map (fun e=>if e.1=x then (e.1,v,e.2.2) else e) else l++ [(x,v,clock)]
def tick (l:List (fi×Int×Nat)) (clock:Nat) (x:fi):Nat:=if l.any (fun e=>decide (e.1=x)) then clock else clock+1
theorem w9 (l:List (fi×Int×Nat)) (c:Nat) (x y:fi) (v:Int):get (put l c x v) y=if y=x then some v else get l y:=by
  unfold get put;by_cases h:l.any (fun e=>decide (e.1=x))=true
  · rw [if_pos h]
    induction l with
    | nil=>simp at h
    | cons e r bk =>
      rw [List.map_cons];by_cases hex:e.1=x
      · rw [if_pos hex]
        by_cases aG:y=x
        · subst aG
          rw [List.find?_cons_of_pos (by simp [hex])];simp
        · rw [if_neg aG,List.find?_cons_of_neg (by simp [hex,Ne.symm aG]),List.find?_cons_of_neg (by simp [hex,Ne.symm aG])]
          by_cases hr:r.any (fun e=>decide (e.1=x))=true
          · have:=bk hr
            rw [if_neg aG] at this;exact this
          · have e0:r.map (fun e=>if e.1=x then (e.1,v,e.2.2) else e)=r:=by
              conv=>rhs;rw [← List.map_id r]
              refine List.map_congr_left fun a ha=> ?_;rw [if_neg];rfl;intro he;exact hr (List.any_eq_true.2 ⟨a,ha,by simp [he]⟩)
            rw [e0]
      · rw [if_neg hex]
        have hr:r.any (fun e=>decide (e.1=x))=true:=by simpa [hex] using h
        by_cases Gv:e.1=y
        · have aod:¬ y=x:=fun h=>hex (Gv.trans h)
          rw [List.find?_cons_of_pos (by simp [Gv]),List.find?_cons_of_pos (by simp [Gv]),if_neg aod]
        · rw [List.find?_cons_of_neg (by simp [Gv]),List.find?_cons_of_neg (by simp [Gv])]
          exact bk hr
  · rw [if_neg h,List.find?_append]
    by_cases aG:y=x
    · subst aG
      have:l.find? (fun e=>decide (e.1=y))=none:=by
        rw [List.find?_eq_none];intro e he hd;exact h (List.any_eq_true.2 ⟨e,he,hd⟩)
      rw [this];simp
    · rw [if_neg aG]
      cases l.find? (fun e=>decide (e.1=y))<;>simp [Ne.symm aG]
theorem Ri {l:List (fi×Int×Nat)} {c:Nat} {x:fi} {v:Int} {wf:fi→Prop} (az:∀ e∈l,wf e.1) (hx:wf x):∀ e∈put l c x v,wf e.1:=by
  intro e he;unfold put at he;split at he
  · obtain ⟨a,ha,rfl⟩:=List.mem_map.1 he
    split
    · exact az a ha
    · exact az a ha
  · rcases List.mem_append.1 he with he | he
    · exact az e he
    · simp at he;subst he;exact hx
theorem gg {l:List (fi×Int×Nat)} (hn:(l.map (·.1)).Nodup) {j n:Nat} {x:fi} {v:Int} (ay:l[j]? =some (x,v,n)):get l x=some v:=by
  unfold get;induction l generalizing j with
  | nil=>simp at ay
  | cons e r bk =>
    rw [List.map_cons,List.nodup_cons] at hn;cases j with
    | zero=>simp at ay;subst ay;simp
    | succ j =>
      have ay:r[j]? =some (x,v,n):=by simpa using ay
      have:e.1≠x:=fun he=>hn.1 (List.mem_map.2 ⟨(x,v,n),List.mem_of_getElem? ay,he.symm⟩);rw [List.find?_cons_of_neg (by simpa using this)];exact bk hn.2 ay
theorem DU {l:List (fi×Int×Nat)} (hn:(l.map (·.1)).Nodup) (c:Nat) (x:fi) (v:Int):((put l c x v).map (·.1)).Nodup:=by
  unfold put;split
  · rw [List.map_map]
    have:((fun e:fi×Int×Nat=>e.1) ∘ fun e=>if e.1=x then (e.1,v,e.2.2) else e)=fun e=>e.1:=by
      funext e;simp only [Function.comp];split<;>rfl
    rw [this];exact hn
  · rename_i h
    rw [List.map_append,List.nodup_append];refine ⟨hn,by simp,fun a ha c hc e=> ?_⟩;simp at hc;obtain ⟨y,aG,rfl⟩:=List.mem_map.1 ha;exact h (List.any_eq_true.2 ⟨y,aG,by simp [e,hc]⟩)
variable {P:Program} {k e t:TypeId} {wf:fi→Prop} (K:Nl P k key wf)
include K
theorem found (h:c7 key w b l clock) (hw:∀ e∈l,wf e.1) (x:fi) (hx:wf x):
    ((Instr.findKey k (key x) (l.map (dc key))).run P w= .ok none w∧get l x=none∧∀ a∈l,a.1≠x)∨
    ∃ (j:Nat) (v:Int) (n:Nat),(Instr.findKey k (key x) (l.map (dc key))).run P w= .ok (some (j, .int .i64 v)) w∧l[j]? =some (x,v,n):=by
  obtain ⟨fh,p9⟩:=K.lit x hx;rcases K.keyed.find w p9 (l.map (dc key)) (aoU K hw) with ⟨γ,aa⟩ | ⟨j,e0,γ,aa,au⟩
  · have ji:∀ a∈l,a.1≠x:=fun a ha xf=>aa (dc key a) (List.mem_map.2 ⟨a,ha,rfl⟩) (by simp [dc,xf])
    refine .inl ⟨γ, ?_,ji⟩;unfold get;rw [List.find?_eq_none.2 fun a ha=>by simpa using ji a ha];rfl
  · rw [List.getElem?_map] at aa
    cases ay:l[j]? with
    | none=>rw [ay] at aa;cases aa
    | some a =>
      rw [ay] at aa;obtain rfl:=Option.some.inj aa;obtain rfl:a.1=x:=K.inj _ _ au;exact .inr ⟨j,a.2.1,a.2.2,γ,ay⟩
theorem lookup (aA:P.underlying t=some (.map k e)) (bw:(zeroValue e).run P w= .ok (.int .i64 0) w) (h:c7 key w b l clock) (hw:∀ e∈l,wf e.1) (hn:(l.map (·.1)).Nodup) (x:fi) (hx:wf x):
    (Instr.lookup t (.map (some b)) (key x) false).run P w= .ok (.int .i64 ((get l x).getD 0)) w∧
    (Instr.lookup t (.map (some b)) (key x) true).run P w= .ok (.tuple #[.int .i64 ((get l x).getD 0), .bool (get l x).isSome]) w:=by
  obtain ⟨fh,p9⟩:=K.lit x hx;rcases found K h hw x hx with ⟨γ,aa,_⟩ | ⟨j,v,n,γ,aa⟩
  · rw [aa]
    constructor<;>simp [Instr.lookup,run_underlying aA,MapKept.run_getObj_map h.eu,K.keyed.check w _ p9,γ,bw,Result.andThen]
  · rw [gg hn aa]
    constructor<;>simp [Instr.lookup,run_underlying aA,MapKept.run_getObj_map h.eu,K.keyed.check w _ p9,γ,Result.andThen]
theorem entry (aA:P.underlying t=some (.map k e)) (bw:∀ u:World,(zeroValue e).run P u= .ok (.int .i64 0) u) (h:c7 key w b l clock) (hw:∀ e∈l,wf e.1) (hn:(l.map (·.1)).Nodup) (x:fi) (hx:wf x):
    ∃ (st:Nat) (dL:List (fi×Int×Nat)) (c1:Nat),(∀ n,(Instr.mapEntry t (.map (some b)) (key x)).run P (w.drewN n)= .ok (.tuple #[.int .i64 ((get l x).getD 0), .int .i64 (st:Int)]) ((hj w b (dL.map (dc key)).toArray c1).drewN n))∧
      c7 key (hj w b (dL.map (dc key)).toArray c1) b dL c1∧(∀ e∈dL,wf e.1)∧(dL.map (·.1)).Nodup∧get dL x=some ((get l x).getD 0)∧
      ∀ v n,(Instr.entryStore t (.map (some b)) (.int .i64 (st:Int)) (.int .i64 v)).run P ((hj w b (dL.map (dc key)).toArray c1).drewN n)= .ok () ((hj w b ((put l clock x v).map (dc key)).toArray (tick l clock x)).drewN n)∧
        c7 key (hj w b ((put l clock x v).map (dc key)).toArray (tick l clock x)) b (put l clock x v) (tick l clock x):=by
  obtain ⟨fh,p9⟩:=K.lit x hx;have Φ:=h.eu;have bl:=h.lt;have Bo:∀ n,(w.drewN n).heap[b]? =some (.map (l.map (dc key)).toArray clock):=fun n=>Φ;have idxOf:∀ (m:List (fi×Int×Nat)) (j:Nat) (a:fi×Int×Nat),(m.map (·.2.2)).Nodup→m[j]? =some a→((m.map (dc key)).toArray).findIdx? (fun y=>((y.born:Nat):Int)== ((a.2.2:Nat):Int))=some j:=by
    intro m j a hm ay;rw [Go.WideElems.findIdx_arr];refine Go.WideElems.findIdx_born (l:=m.map (dc key)) (j:=j) (e0:=dc key a) ?_ (by rw [List.getElem?_map,ay];rfl);rw [List.map_map];exact hm
  rcases found K h hw x hx with ⟨γ,aa,au⟩ | ⟨j,v0,n0,γ,aa⟩
  · have nK:l.any (fun e=>decide (e.1=x))=false:=by
      rw [Bool.eq_false_iff];intro ha;obtain ⟨a,ha,hd⟩:=List.any_eq_true.1 ha;exact au a ha (by simpa using hd)
    have ze:∀ v,put l clock x v=l++ [(x,v,clock)]:=fun v=>by unfold put;rw [if_neg (by rw [nK];decide)]
    have QB:tick l clock x=clock+1:=by unfold tick;rw [if_neg (by rw [nK];decide)]
    have fM:∀ v,c7 key (hj w b ((l++ [(x,v,clock)]).map (dc key)).toArray (clock+1)) b (l++ [(x,v,clock)]) (clock+1):=fun v=>by
      refine ⟨zI bl,fun a ha=> ?_, ?_⟩
      · rcases List.mem_append.1 ha with ha | ha
        · have:=h.born a ha;omega
        · simp at ha;subst ha;simp
      · rw [List.map_append,List.nodup_append]
        refine ⟨h.stamps,by simp,fun a ha c hc e=> ?_⟩;simp at hc;obtain ⟨y,aG,rfl⟩:=List.mem_map.1 ha;have:=h.born y aG;omega
    have Pm:∀ n,(Instr.findKey k (key x) (l.map (dc key))).run P (w.drewN n)= .ok none (w.drewN n):=fun n=>by
      rcases found (w:=w.drewN n) K ⟨Bo n,h.born,h.stamps⟩ hw x hx with ⟨γ,_,_⟩ | ⟨j,v,m,_,ay⟩
      · exact γ
      · exact absurd rfl (au _ (List.mem_of_getElem? ay))
    refine ⟨clock,l++ [(x,0,clock)],clock+1,fun n=> ?_,fM 0,fun a ha=> ?_, ?_, ?_,fun v n=> ?_⟩
    · rw [aa]
      have:(l.map (dc key)).toArray.push (⟨key x, .int .i64 0,clock⟩:MapEntry)=((l++ [(x,0,clock)]).map (dc key)).toArray:=by simp [dc]
      simp [Instr.mapEntry,run_underlying aA,MapKept.run_getObj_map (Bo n),K.keyed.check (w.drewN n) false p9,Pm n,bw,MapKept.run_setObj_map _ (Bo n),Result.andThen,hj,Go.ChangeMaps.setBlock,goInt,dc];rfl
    · rcases List.mem_append.1 ha with ha | ha
      · exact hw a ha
      · simp at ha;subst ha;exact hx
    · have:=DU hn clock x 0
      rw [ze] at this;exact this
    · have:=w9 l clock x x 0
      rw [ze,if_pos rfl] at this;rw [this,aa];rfl
    · rw [ze,QB]
      refine ⟨?_,fM v⟩;have dJ:=idxOf (l++ [(x,0,clock)]) l.length (x,0,clock) (fM 0).stamps (by simp);have tT:((l++ [(x,0,clock)]).map (dc key)).toArray.modify l.length (fun e=> {e with val:=Value.int .i64 v})=((l++ [(x,v,clock)]).map (dc key)).toArray:=by
        apply Array.ext';rw [Array.toList_modify];have hlen:l.length=(l.map (dc key)).length:=by simp
        rw [hlen];simp only [List.map_append,List.map_cons,List.map_nil];rw [Go.WideElems.modify_last];rfl
      have cF:((hj w b ((l++ [(x,0,clock)]).map (dc key)).toArray (clock+1)).drewN n).heap[b]? =some (.map ((l++ [(x,0,clock)]).map (dc key)).toArray (clock+1)):=zI bl;have jY:(Instr.entryStore t (.map (some b)) (goInt clock) (.int .i64 v)).run P ((hj w b ((l++ [(x,0,clock)]).map (dc key)).toArray (clock+1)).drewN n)= .ok () (hj ((hj w b ((l++ [(x,0,clock)]).map (dc key)).toArray (clock+1)).drewN n) b ((l++ [(x,v,clock)]).map (dc key)).toArray (clock+1)):=by
        rw [← tT];simp only [Instr.entryStore,Sem.run_bind,MapKept.run_getObj_map cF,Result.andThen_ok,asInt,asIntOf,goInt,Sem.run_pure];rw [dJ];exact MapKept.run_setObj_map _ cF
      refine jY.trans ?_;simp [hj,Go.ChangeMaps.setBlock,World.drewN]
  · have nK:l.any (fun e=>decide (e.1=x))=true:=List.any_eq_true.2 ⟨_,List.mem_of_getElem? aa,by simp⟩
    have ze:∀ v,put l clock x v=l.map (fun e=>if e.1=x then (e.1,v,e.2.2) else e):=fun v=>by unfold put;rw [if_pos nK]
    have QB:tick l clock x=clock:=by unfold tick;rw [if_pos nK]
    have Y1:=gg hn aa;have sj:∀ v,l.map (fun e=>if e.1=x then (e.1,v,e.2.2) else e)=l.set j (x,v,n0):=by
      intro v;refine List.ext_getElem? fun i=> ?_;rw [List.getElem?_map];by_cases ke:j=i
      · subst ke
        rw [aa,List.getElem?_set_self (List.getElem?_eq_some_iff.1 aa).1];simp
      · rw [List.getElem?_set_ne ke]
        cases ao:l[i]? with
        | none=>rfl
        | some a =>
          have:a.1≠x:=by
            intro xf;have Gz:=(List.getElem?_eq_some_iff.1 ao);have Qe:=(List.getElem?_eq_some_iff.1 aa);have aU:(l.map (·.1))[i]? =(l.map (·.1))[j]? :=by rw [List.getElem?_map,List.getElem?_map,ao,aa];simp [xf]
            obtain ⟨xm,_⟩:=Gz;obtain ⟨p8,_⟩:=Qe;have:=(List.getElem?_inj (by simpa using xm) hn).1 aU;exact ke this.symm
          simp [this]
    have Pm:∀ n,(Instr.findKey k (key x) (l.map (dc key))).run P (w.drewN n)= .ok (some (j, .int .i64 v0)) (w.drewN n):=fun n=>by
      rcases found (w:=w.drewN n) K ⟨Bo n,h.born,h.stamps⟩ hw x hx with ⟨_,_,au⟩ | ⟨aoI,v,m,Kp,ay⟩
      · exact absurd rfl (au (x,v0,n0) (List.mem_of_getElem? aa))
      · have aU:(l.map (·.1))[aoI]? =(l.map (·.1))[j]? :=by rw [List.getElem?_map,List.getElem?_map,ay,aa];rfl
        have:=(List.getElem?_inj (by simpa using (List.getElem?_eq_some_iff.1 ay).1) hn).1 aU;subst this;rw [aa] at ay;injection ay with ay
        injection ay with _ ay
        injection ay with amP _
        rw [Kp,amP]
    have fM:∀ v,c7 key (hj w b ((l.set j (x,v,n0)).map (dc key)).toArray clock) b (l.set j (x,v,n0)) clock:=fun v=>by
      refine ⟨zI bl,fun a ha=> ?_, ?_⟩
      · rcases List.mem_or_eq_of_mem_set ha with ha | ha
        · exact h.born a ha
        · rw [ha];exact h.born (x,v0,n0) (List.mem_of_getElem? aa)
      · rw [List.map_set]
        have:(l.map (·.2.2)).set j n0=l.map (·.2.2):=by
          have am5:=(List.getElem?_eq_some_iff.1 aa);obtain ⟨xm,p8⟩:=am5;have e:(l.map (·.2.2))[j]'(by simpa using xm)=n0:=by rw [List.getElem_map,p8]
          conv=>lhs;rw [← e]
          exact List.set_getElem_self _
        rw [this];exact h.stamps
    refine ⟨n0,l,clock,fun n=> ?_,⟨zI bl,h.born,h.stamps⟩,hw,hn,by rw [Y1];rfl,fun v n=> ?_⟩
    · rw [Y1]
      have ay:(l.map (dc key)).toArray[j]? =some (dc key (x,v0,n0)):=by simp [aa]
      have Qu:(l.map (dc key)).toArray.modify j (fun e=> {e with key:=key x})=(l.map (dc key)).toArray:=by
        apply Array.ext';rw [Array.toList_modify,Go.ChangeMaps.modify_eq_set _ _ _ _ (by rw [List.getElem?_map,aa];rfl)];exact Go.WideElems.set_self _ _ _ (by rw [List.getElem?_map,aa];rfl)
      have Qh:(dc key (x,v0,n0)).key=key x:=rfl;have P0:(dc key (x,v0,n0)).born=n0:=rfl;simp only [Instr.mapEntry,Sem.run_bind,run_underlying aA,Result.andThen_ok,MapKept.run_getObj_map (Bo n),K.keyed.check (w.drewN n) false p9,Pm n,ay,Option.map_some,Option.getD_some,Qh,K.keyed.stays (w.drewN n) p9,Qu,MapKept.run_setObj_map _ (Bo n),P0,Sem.run_pure];rfl
    · rw [ze,QB,sj]
      refine ⟨?_,fM v⟩;have dJ:=idxOf l j (x,v0,n0) h.stamps aa;have tT:(l.map (dc key)).toArray.modify j (fun e=> {e with val:=Value.int .i64 v})=((l.set j (x,v,n0)).map (dc key)).toArray:=by
        apply Array.ext';rw [Array.toList_modify,Go.ChangeMaps.modify_eq_set _ _ _ _ (by rw [List.getElem?_map,aa];rfl),List.map_set];rfl
      have cF:((hj w b (l.map (dc key)).toArray clock).drewN n).heap[b]? =some (.map (l.map (dc key)).toArray clock):=zI bl;have jY:(Instr.entryStore t (.map (some b)) (goInt n0) (.int .i64 v)).run P ((hj w b (l.map (dc key)).toArray clock).drewN n)= .ok () (hj ((hj w b (l.map (dc key)).toArray clock).drewN n) b ((l.set j (x,v,n0)).map (dc key)).toArray clock):=by
        rw [← tT];simp only [Instr.entryStore,Sem.run_bind,MapKept.run_getObj_map cF,Result.andThen_ok,asInt,asIntOf,goInt,Sem.run_pure];rw [dJ];exact MapKept.run_setObj_map _ cF
      refine jY.trans ?_;simp [hj,Go.ChangeMaps.setBlock,World.drewN]
end c7
end Go.Proofs.YtlikikpgmmkjbaaGreat
set_option linter.unusedVariables false
set_option linter.unusedSimpArgs false
namespace Go.Proofs.YtlikikpgmmkjbaaGreat
open Go.RowKit

theorem acD {P:Program} {w:World} {o:Oper} {a:Act} (f:FuncId) (fn:Func) (hf:P.funcs[f]? =some fn) (hn:(fn.name == "runtime.NumGoroutine")=false) (Φ:fn.body.isNone=false)
    (xs:Array Operand) (ts:Array TypeId) (si:o.op=Op.call {callee:=Callee.value (Operand.func f),args:=xs,argTypes:=ts}) (args:Array Value) (KE:xs.map a.eval=args):
    (execOp a.eval o).run P w= .ok (.enter f args) w:=by
  unfold execOp;have he:a.eval (.func f)= .func (.func f) #[] #[]:=rfl;have hp:Sem.run P program w= .ok P w:=rfl;simp only [si,resolve,invoke,Deferred.ofValue,he,callFunc,Sem.run_bind,Sem.run_pure,Result.andThen_ok,KE,hp,hf,hn,Φ,Array.empty_append,Array.append_empty,Bool.false_eq_true,if_false]
theorem zL {P:Program} {ops:Array Oper} {o:Oper} {a:Act} {w:World} {K:Act→World→Prop} {Q:Exit→Act→World→Prop} {E:Prop}
    (aO:o.guard=none) (f:FuncId) (fn:Func) (hf:P.funcs[f]? =some fn) (hn:(fn.name == "runtime.NumGoroutine")=false) (Φ:fn.body.isNone=false)
    (xs:Array Operand) (ts:Array TypeId) (si:o.op=Op.call {callee:=Callee.value (Operand.func f),args:=xs,argTypes:=ts}) (args:Array Value) (KE:xs.map a.eval=args)
    (hc:Calls P f args w fun e w'=>∃ v,e= .returned v∧K (a.put o.dst v) w'):
    if Region.wanted o (yielded ops a.tmps)=true then Oper.wp P o a w K Q else E:=by
  have hw:Region.wanted o (yielded ops a.tmps)=true:=by simp [Region.wanted,aO]
  rw [if_pos hw];unfold Oper.wp;rw [acD f fn hf hn Φ xs ts si args KE,Oper.upon_enter];refine hc.mono fun e lK ey=> ?_;obtain ⟨v,rfl,h⟩:=ey;exact h
theorem l0 {wr aM w':World} (h:Below wr.heap.size wr aM) (aa:Below aM.heap.size aM w'):Below wr.heap.size wr w':=h.trans (aa.mono h.size)
theorem VD {wr aM w':World} (h:Below wr.heap.size wr aM) (aa:Below aM.drew.heap.size aM.drew w'):Below wr.heap.size wr w':=h.drew.trans (aa.mono h.size)
theorem MA {P:Program} {id:Nat} {Q:Exit→Act→World→Prop} {a:Act} {w:World} {l:List Oper} (hm:P.follows .mixedOrders=true) (aX:Region.lexB .any l.toArray=true)
    (h:wpQuiet P l.toArray (fun w'=>Below w.heap.size w w') (fun a'=>∀ w',Below w.heap.size w w'→Q .normal a' w') l a):(Code.region id l.toArray true).wp P Q a w :=
  wp_region_quiet (C:=fun w'=>Below w.heap.size w w') hm aX (below_drewN (Below.refl _ w) 1) (by simpa using h)
theorem asm {P:Program} {o:Oper} {a:Act} {C:World→Prop} {w:World} {v:Value} (h:(execOp a.eval o).run P w= .ok (.value v) w):o.quietAt P a C w v:=by
  unfold Oper.quietAt;rw [h];exact ⟨Z,Z⟩
theorem asl {P:Program} {o:Oper} {a:Act} {C:World→Prop} {w:World} {v:Value} {f:FuncId} {args:Array Value} (h:(execOp a.eval o).run P w= .ok (.enter f args) w) (hc:Calls P f args w fun e lK=>e= .returned v∧C lK):o.quietAt P a C w v:=by
  unfold Oper.quietAt;rw [h];exact ⟨Z,hc⟩
theorem LV {P:Program} {o:Oper} {a:Act} {C:World→Prop} {w:World} {v:Value} {r:Result Next} (h:(execOp a.eval o).run P w=r) (hr:r= .ok (.value v) w):o.quietAt P a C w v:=asm (h.trans hr)
theorem LU {P:Program} {o:Oper} {a:Act} {C:World→Prop} {w:World} {v:Value} {f:FuncId} {args:Array Value} {r:Result Next} (h:(execOp a.eval o).run P w=r) (hr:r= .ok (.enter f args) w) (hc:Calls P f args w fun e lK=>e= .returned v∧C lK):o.quietAt P a C w v:=asl (h.trans hr) hc
end Go.Proofs.YtlikikpgmmkjbaaGreat
set_option linter.unusedVariables false
set_option linter.unusedSimpArgs false
namespace Go.Proofs.YtlikikpgmmkjbaaGreat
open Go.RowKit
abbrev Ext (w w':World):Prop:=Below w.heap.size w w'
theorem Ext.bM (w:World):Ext w w:=Below.refl _ w
theorem Ext.iK {a b c:World} (h:Ext a b) (k:Ext b c):Ext a c:=Below.trans h (Below.mono k h.size)
section
variable {P:Program} {ops:Array Oper} {Q:Exit→Act→World→Prop} {aR:Nat→Nat}
def vN (P:Program) (w:World) (v:Value):Result Next→Prop
  | .ok (.value u) w'=>w'=w∧u=v
  | .ok .skip w'=>w'=w∧v=undef
  | .ok (.enter f args) w'=>w'=w∧Calls P f args w (fun e lK=>e= .returned v∧Ext w lK)
  | _=>False
def qT (P:Program) (ops:Array Oper) (w0:World) (o:Oper) (v:Value) (a:Act):Prop :=
  (Region.wanted o (yielded ops a.tmps)=true∧∀ w,Ext w0 w→vN P w v ((execOp a.eval o).run P w))∨
  (Region.wanted o (yielded ops a.tmps)=false∧v=undef)
theorem qT.of_same {w0:World} {o:Oper} {v:Value} {a a':Act} (h:qT P ops w0 o v a) (he:execOp a'.eval o=execOp a.eval o) (hw:Region.wanted o (yielded ops a'.tmps)=Region.wanted o (yielded ops a.tmps)):qT P ops w0 o v a':=by
  unfold qT at *;rw [he,hw];exact h
theorem qT.on {w0 aM:World} {o:Oper} {v:Value} {a:Act} (h:qT P ops w0 o v a) (hx:Ext w0 aM):qT P ops aM o v a :=
  h.imp (fun ⟨γ,aa⟩=>⟨γ,fun w hw=>aa w (hx.iK hw)⟩) id
theorem Yields.acf {w0:World} {o:Oper} {v:Value} {a:Act} (h:Yields P ops o v a):qT P ops w0 o v a :=
  h.imp (fun ⟨γ,aa⟩=>⟨γ,fun w _=>by rw [aa w];exact ⟨rfl,rfl⟩⟩) id
def atr (P:Program) (ops:Array Oper) (Q:Exit→Act→World→Prop) (aR:Nat→Nat) (i:Nat) (K:Act→World→Prop) (a:Act) (w0:World):Prop :=
  ∃ o,ops[i]? =some o∧
    ((aR i≤1∧∃ v,qT P ops w0 o v a∧K (a.put o.dst v) w0)∨
     (1<aR i∧∀ w,Ext w0 w→wpOp P ops Q i (fun a' w'=>(aR i=2→Ext w0 w')∧K a' w') a w))
def yv (P:Program) (ops:Array Oper) (Q:Exit→Act→World→Prop) (aR:Nat→Nat):Nat→Array Bool→Act→World→Prop
  | 0,l,a,w0=>Region.ready .any ops l= []∧∀ w,Ext w0 w→Q .normal a w
  | f+1,l,a,w0=>(Region.ready .any ops l= []→∀ w,Ext w0 w→Q .normal a w)∧∀ i∈Region.ready .any ops l,atr P ops Q aR i (yv P ops Q aR f (l.setIfInBounds i true)) a w0
theorem yw:∀ (f:Nat) (l:Array Bool) (a:Act) (w0:World),yv P ops Q aR f l a w0→∀ w,Ext w0 w→wpAny P .any ops Q f l a w
  | 0,_,_,_,h,w,hw=>⟨h.1,h.2 w hw⟩
  | f+1,l,a,w0,h,w,hw=>⟨fun aE=>h.1 aE w hw,fun i ao=>by
      obtain ⟨o,bJ,aa⟩:=h.2 i ao;rcases aa with ⟨_,v,I,av⟩ | ⟨_,aa⟩
      · unfold wpOp
        simp only [bJ];rcases I with ⟨mS,I⟩ | ⟨mS,rfl⟩
        · rw [if_pos mS]
          refine .inl ?_;have I:=I w hw;unfold Oper.wp;generalize (execOp a.eval o).run P w=r at *
          cases r with
          | ok n w' =>
            cases n<;>simp only [vN] at I<;>simp only [Oper.upon]
            case value u=>obtain ⟨rfl,rfl⟩:=I;exact yw f _ _ _ av _ hw
            case skip=>obtain ⟨rfl,rfl⟩:=I;exact yw f _ _ _ av _ hw
            case enter f' args=>obtain ⟨rfl,hc⟩:=I;exact hc.mono fun e lK ⟨he,hx⟩=>by subst he;exact yw f _ _ _ av _ (hw.iK hx)
          | halt x w'=>simp only [vN] at I
        · rw [if_neg (by rw [mS];decide)]
          exact yw f _ _ _ av _ hw
      · exact wpOp_mono (fun a' w' au=>yw f _ _ _ au.2 _ (Ext.bM w')) (aa w hw)⟩
theorem SX {aB:Act→Prop} {j:Nat} {dst:Option Tmp} {cQ:Oper} {v:Value} (ay:ops[j]? =some cQ) (γ:∀ d,dst=some d→d∉cQ.looksAt ops) (aa:∀ d,dst=some d→cQ.dst≠some d)
    (tV:∀ cs b,cQ.op≠ .select cs b) (gK:∀ c a w,¬ Q (.panic c) a w) (keep:∀ a u,aB a→aB (a.put cQ.dst u)) (aoO:∀ a d,aB a→aB {a with defers:=d::a.defers})
    {K:Act→World→Prop} {a:Act} {w:World} (aG:aB a) (h:wpOp P ops Q j K (a.put dst v) w):wpOp P ops Q j (fun a' w'=>aB a'∧K (a'.put dst v) w') a w:=by
  unfold wpOp at *
  simp only [ay] at *
  rw [wanted_put cQ a dst v γ] at h;by_cases hw:Region.wanted cQ (yielded ops a.tmps)=true
  · rw [if_pos hw] at h ⊢
    rcases h with h | ⟨Ys,am3⟩
    case inr=>exact .inr ⟨by unfold Oper.asks at *;rw [execOp_put cQ tV a dst v γ] at Ys;exact Ys,am3⟩
    refine .inl ?_;unfold Oper.wp at *
    rw [execOp_put cQ tV a dst v γ] at h;generalize (execOp a.eval cQ).run P w=r at *
    cases r with
    | ok n w' =>
      cases n<;>simp only [Oper.upon] at h ⊢
      case value u=>exact ⟨keep a u aG,by rw [← Act.put_comm a v u aa];exact h⟩
      case skip=>exact ⟨keep a _ aG,by rw [← Act.put_comm a v undef aa];exact h⟩
      case defer d =>
        refine ⟨keep _ _ (aoO a d aG), ?_⟩;rw [← Act.put_comm _ v undef aa,← Act.put_defers];exact h
      case enter f args =>
        refine Calls.mono h fun e lK he=> ?_;cases e with
        | returned u=>exact ⟨keep a u aG,by rw [← Act.put_comm a v u aa];exact he⟩
        | panicked c=>exact (gK _ _ _ he).elim
        | outgrown=>exact he
      case row row args=>exact Rows.mono h fun u lK he=>⟨keep a u aG,by rw [← Act.put_comm a v u aa];exact he⟩
    | halt x w' =>
      cases x<;>simp only [Oper.upon] at h ⊢
      case panic u=>exact (gK _ _ _ h).elim
  · rw [if_neg hw] at h ⊢
    exact ⟨keep a _ aG,by rw [← Act.put_comm a v undef aa];exact h⟩
theorem Kb {i:Nat} {dX:Oper} {v:Value} (ao:ops[i]? =some dX) (av:aR i≤1) (lr:∀ (j:Nat) (o:Oper) cs b,ops[j]? =some o→o.op≠ .select cs b)
    (gK:∀ c a w,¬ Q (.panic c) a w) (aB:World→Act→Prop) (jv:∀ w0 a,aB w0 a→qT P ops w0 dX v a)
    (z2:∀ w0 a a',aB w0 a→execOp a'.eval dX=execOp a.eval dX→Region.wanted dX (yielded ops a'.tmps)=Region.wanted dX (yielded ops a.tmps)→aB w0 a')
    (z3:∀ w0 aM a,Ext w0 aM→aB w0 a→aB aM a) (R:Nat→Bool) (tY:Array Bool)
    (hR:∀ j cQ,ops[j]? =some cQ→j≠i→(∀ e∈cQ.after,Region.binds .any e=true→R e.on=true)→R j=true)
    (aX:(∀ w0 aM a,aB w0 a→aB aM a)∨∀ j,R j=true→3≤aR j→tY.getD j true=true):
    ∀ (f:Nat) (l:Array Bool) (a:Act) (w0:World),(∀ j,l.getD j false=true→R j=true)→(∀ j,tY.getD j true=true→l.getD j true=true)→
      (∀ j cQ,ops[j]? =some cQ→j≠i→l.getD j true=false→(∀ e∈cQ.after,Region.binds .any e=true→e.on≠i)→dX.apart ops cQ=true)→
      i∈Region.ready .any ops l→aB w0 a→yv P ops Q aR f (l.setIfInBounds i true) (a.put dX.dst v) w0→yv P ops Q aR (f+1) l a w0:=by
  intro f;induction f with
  | zero =>
    intro l a w0 _ _ _ hr bw H;refine ⟨fun h=>(by rw [h] at hr;cases hr),fun j ay=> ?_⟩;by_cases gw:j=i
    · subst gw;exact ⟨dX,ao, .inl ⟨av,v,jv _ _ bw,H⟩⟩
    · have:=ready_mono ay gw
      rw [H.1] at this;cases this
  | succ f bk =>
    intro l a w0 y7 y5 y1 hr bw H;refine ⟨fun h=>(by rw [h] at hr;cases hr),fun j ay=> ?_⟩;by_cases gw:j=i
    · subst gw;exact ⟨dX,ao, .inl ⟨av,v,jv _ _ bw,H⟩⟩
    · obtain ⟨cQ,jj,γ⟩:=H.2 j (ready_mono ay gw)
      obtain ⟨tR,fw,zc,di⟩:=mem_ready.1 ay;obtain rfl:fw=cQ:=by rw [jj] at zc;exact (Option.some.inj zc).symm
      have GJ:∀ e∈fw.after,Region.binds .any e=true→e.on≠i:=fun e he Φ heq=>by
        have γ:=di e he Φ;have aE:=(mem_ready.1 hr).1;rw [heq] at γ;rcases Nat.lt_or_ge i l.size with cU | cU
        · simp [cU] at aE γ;rw [aE] at γ;cases γ
        · simp [Array.getElem?_eq_none cU] at γ
      have Gj:=y1 j fw jj gw tR GJ;obtain ⟨b7,a2,a3⟩:=Oper.apart_spec Gj;have GY:∀ cs b,dX.op≠ .select cs b:=fun cs b=>lr i dX cs b ao;have tV:∀ cs b,fw.op≠ .select cs b:=fun cs b=>lr j fw cs b jj;have keep:∀ aM a u,aB aM a→aB aM (a.put fw.dst u):=fun aM a u bw=>z2 _ _ _ bw (execOp_put dX GY a fw.dst u a3) (wanted_put dX a fw.dst u a3);have yU:R j=true:=hR j fw jj gw fun e he Φ=>y7 _ (di e he Φ);have y8:∀ k,(l.setIfInBounds j true).getD k false=true→R k=true:=fun k av=>by
        by_cases gx:j=k
        · rw [← gx];exact yU
        · rw [getD_set_ne false gx] at av;exact y7 k av
      have y6:∀ k,tY.getD k true=true→(l.setIfInBounds j true).getD k true=true:=fun k av=>by
        by_cases gx:j=k
        · subst gx
          rcases Nat.lt_or_ge j l.size with cU | cU
          · simp [cU]
          · simp [Array.getElem?_eq_none cU]
        · rw [getD_set_ne true gx];exact y5 k av
      have y2:∀ k ok,ops[k]? =some ok→k≠i→(l.setIfInBounds j true).getD k true=false→
          (∀ e∈ok.after,Region.binds .any e=true→e.on≠i)→dX.apart ops ok=true:=fun k ok av nO zg ji=>by
        refine y1 k ok av nO ?_ ji;by_cases gx:j=k
        · subst gx;exact tR
        · rw [getD_set_ne true gx] at zg;exact zg
      have zf:=ready_mono hr (Ne.symm gw);rcases γ with ⟨tS,u,I,hK⟩ | ⟨tS,γ⟩
      · refine ⟨fw,jj, .inl ⟨tS,u,I.of_same (execOp_put fw tV a dX.dst v b7).symm (wanted_put fw a dX.dst v b7).symm, ?_⟩⟩
        refine bk _ _ _ y8 y6 y2 zf (keep _ _ _ bw) ?_;rw [Array.setIfInBounds_comm _ _ gw,← Act.put_comm a v u a2];exact hK
      · refine ⟨fw,jj, .inr ⟨tS,fun w hw=> ?_⟩⟩
        refine wpOp_mono (fun a' w' au=>⟨au.2.1, ?_⟩) (SX (aB:=aB w0) jj b7 a2 tV gK (keep w0) (fun a d bw=>z2 _ _ _ bw Z Z) bw (γ w hw));have G4:aB w' a':=by
          rcases Nat.lt_or_ge (aR j) 3 with bl | sf
          · exact z3 _ _ _ (au.2.1 (by omega)) au.1
          · rcases aX with aX | aX
            · exact aX _ _ _ au.1
            · have:=y5 j (aX j yU sf);rw [tR] at this;cases this
        refine bk _ _ _ y8 y6 y2 zf G4 ?_;rw [Array.setIfInBounds_comm _ _ gw];exact au.2.2
def rC (P:Program) (ops:Array Oper) (Q:Exit→Act→World→Prop) (aR:Nat→Nat):List Nat→Act→World→Prop
  | [],a,w0=>∀ w,Ext w0 w→Q .normal a w
  | i::r,a,w0=>∃ o,ops[i]? =some o∧
      ((aR i=0∧∃ v,qT P ops w0 o v a∧rC P ops Q aR r (a.put o.dst v) w0)∨
       (aR i=1∧∃ v,Yields P ops o v a∧rC P ops Q aR r (a.put o.dst v) w0)∨
       (1<aR i∧∀ w,Ext w0 w→wpOp P ops Q i (fun a' w'=>(aR i=2→Ext w0 w')∧rC P ops Q aR r a' w') a w))
def R6 (ops:Array Oper) (i:Nat):Array Bool :=
  ops.foldl (init:=#[]) fun acc o=>acc.push (acc.size != i && o.after.all fun e=> !Region.binds .any e || acc.getD e.on false)
def Jp (ops:Array Oper) (aR:Nat→Nat) (l:Array Bool) (i:Nat):Bool :=
  (List.range ops.size).all (fun j=>l.getD j true || Nat.blt (aR j) 3) ||
  (let R:=R6 ops i
   (List.range ops.size).all fun j=>(j == i || R.getD j false || !((ops[j]?).map (·.after.all fun e=> !Region.binds .any e || R.getD e.on false)).getD false) && (!l.getD j false || R.getD j false) && (!R.getD j false || Nat.blt (aR j) 3 || l.getD j true))
def iP (ops:Array Oper) (aR:Nat→Nat):List Nat→Array Bool→Bool
  | [],l=>(Region.ready .any ops l).isEmpty
  | i::r,l=>(match aR i with
      | 0=>Region.free .any ops l i && (Region.ready .any ops l).contains i && Jp ops aR l i
      | 1=>Region.free .any ops l i && (Region.ready .any ops l).contains i
      | _=>Region.ready .any ops l == [i]) && iP ops aR r (l.setIfInBounds i true)
theorem Jq {l:Array Bool} {i:Nat} (az:l.size=ops.size) (h:Jp ops aR l i=true):∃ R:Nat→Bool,
    (∀ j cQ,ops[j]? =some cQ→j≠i→(∀ e∈cQ.after,Region.binds .any e=true→R e.on=true)→R j=true)∧
    (∀ j,l.getD j false=true→R j=true)∧(∀ j,R j=true→3≤aR j→l.getD j true=true):=by
  unfold Jp at h;have out:∀ j,¬ j<ops.size→l.getD j true=true:=fun j ay=>by simp [Array.getElem?_eq_none (by omega:l.size≤j)]
  rw [Bool.or_eq_true] at h;rcases h with h | h
  · refine ⟨fun _=>true,fun _ _ _ _ _=>rfl,fun _ _=>rfl,fun j _ au=> ?_⟩
    by_cases ay:j<ops.size
    · have:=List.all_eq_true.1 h j (List.mem_range.2 ay)
      rw [Bool.or_eq_true] at this;rcases this with h | h
      · exact h
      · rw [Nat.blt_eq] at h;omega
    · exact out j ay
  · refine ⟨fun j=>(R6 ops i).getD j false,fun j cQ jj gw hd=> ?_,fun j ay=> ?_,fun j ay au=> ?_⟩
    · have bl:=(Array.getElem?_eq_some_iff.1 jj).1
      have:=List.all_eq_true.1 h j (List.mem_range.2 bl);simp only [jj,Option.map_some,Option.getD_some,Bool.and_eq_true,Bool.or_eq_true,beq_iff_eq,gw,false_or,Bool.not_eq_true'] at this;rcases this.1.1 with h | h
      · exact h
      · have di:cQ.after.all (fun e=> !Region.binds .any e || (R6 ops i).getD e.on false)=true:=by
          rw [Array.all_eq_true_iff_forall_mem];intro e he;cases Φ:Region.binds .any e
          · rfl
          · have:=hd e he Φ;simp only at this;simp [this]
        rw [di] at h;cases h
    · have bl:j<ops.size:=by
        rcases Nat.lt_or_ge j l.size with cU | cU
        · omega
        · simp [Array.getElem?_eq_none cU] at ay
      have:=List.all_eq_true.1 h j (List.mem_range.2 bl);simp only [Bool.and_eq_true,Bool.or_eq_true,Bool.not_eq_true'] at this;rcases this.1.2 with h | h
      · rw [h] at ay;cases ay
      · exact h
    · by_cases bl:j<ops.size
      · have:=List.all_eq_true.1 h j (List.mem_range.2 bl)
        simp only [Bool.and_eq_true,Bool.or_eq_true,Bool.not_eq_true'] at this;rcases this.2 with (h | h) | h
        · simp only at ay;rw [h] at ay;cases ay
        · (rw [Nat.blt_eq] at h;omega)
        · exact h
      · exact out j bl
theorem AW (hs:Region.noSelect ops=true) (gK:∀ c a w,¬ Q (.panic c) a w):∀ (r:List Nat) (l:Array Bool) (a:Act) (w0:World),l.size=ops.size→iP ops aR r l=true→rC P ops Q aR r a w0→yv P ops Q aR r.length l a w0
  | [],l,a,w0,_,aX,h=>⟨by simpa [iP] using aX,h⟩
  | i::r,l,a,w0,az,aX,h=>by
    obtain ⟨o,bJ,h⟩:=h;have lr:=Region.noSelect_spec hs;rcases h with ⟨av,v,I,hK⟩ | ⟨av,v,I,hK⟩ | ⟨av,h⟩
    · simp only [iP,av,Bool.and_eq_true] at aX
      obtain ⟨⟨⟨hf,hr⟩,Φ⟩,aX⟩:=aX;obtain ⟨R,r1,r2,uC⟩:=Jq az Φ;exact Kb bJ (by omega) lr gK (fun w0 a=>qT P ops w0 o v a) (fun _ _ h=>h) (fun _ _ _ h he hw=>h.of_same he hw) (fun _ _ _ hx h=>h.on hx) R l r1 (.inr uC) _ _ _ _ r2 (fun _ h=>h) (Region.free_spec bJ hf) (by simpa using hr) I
        (AW hs gK r _ _ _ (by simpa using az) aX hK)
    · simp only [iP,av,Bool.and_eq_true] at aX
      obtain ⟨⟨hf,hr⟩,aX⟩:=aX;exact Kb bJ (by omega) lr gK (fun _ a=>Yields P ops o v a) (fun _ _ h=>Yields.acf h) (fun _ _ _ h he hw=>h.of_same he hw) (fun _ _ _ _ h=>h) (fun _=>true) l (fun _ _ _ _ _=>Z) (.inl fun _ _ _ h=>h) _ _ _ _ (fun _ _=>Z) (fun _ h=>h) (Region.free_spec bJ hf) (by simpa using hr) I
        (AW hs gK r _ _ _ (by simpa using az) aX hK)
    · obtain ⟨k,gP⟩:∃ k,aR i=k+2:=⟨aR i - 2,by omega⟩
      simp only [iP,gP,Bool.and_eq_true,beq_iff_eq] at aX;obtain ⟨hr,aX⟩:=aX;refine ⟨fun aE=>(by rw [hr] at aE;cases aE),fun j ay=> ?_⟩;rw [hr] at ay;obtain rfl:j=i:=by simpa using ay
      exact ⟨o,bJ, .inr ⟨av,fun w hw=>wpOp_mono (fun a' w' au=>⟨au.1,AW hs gK r _ _ _ (by simpa using az) aX au.2⟩) (h w hw)⟩⟩
def fX (K:Act→World→Prop):Exit→Act→World→Prop
  | .normal,a,w=>K a w
  | _,_,_=>False
theorem asv {id:Nat} {a:Act} {w:World} (bN:List Nat) (hm:P.follows .mixedOrders=true) (aX:(Region.noSelect ops && (bN.length == ops.size) && iP ops aR bN (Array.replicate ops.size false))=true)
    (h:rC P ops (fX (Q .normal)) aR bN a w):(Code.region id ops true).wp P Q a w:=by
  simp only [Bool.and_eq_true,beq_iff_eq] at aX;obtain ⟨⟨hs,az⟩,aX⟩:=aX;refine wp_mono (wp_region_any hm (Q:=fX (Q .normal)) ?_) (fun e a w I=>by cases e<;>first | exact I | exact I.elim);have:=AW (P:=P) hs (Q:=fX (Q .normal)) (fun _ _ _ h=>h) bN (Array.replicate ops.size false) a w (by simp) aX h;rw [az] at this;exact yw _ _ _ _ this _ (Below.refl _ w).drew
end
end Go.Proofs.YtlikikpgmmkjbaaGreat
