import Derived.Test.YthlpmldmhakhaaaGreatDoorFcs
import Derived.RangeFuncNested
import Derived.OrdersIn
import Derived.LoopNIn
import Derived.Lib.SplitLaws
import Derived.Lib.ParseIntB
import Derived.Lib.ItoaNum
import Derived.Lib.Join
set_option linter.unusedVariables false
set_option linter.unusedSimpArgs false
set_option maxRecDepth 100000
set_option maxHeartbeats 4000000
open Go.RowKit
namespace Go.Proofs.YthlpmldmhakhaaaGreatDoor
open Tryz
open Tryz
abbrev aMD:=@decide_eq_true_eq
abbrev aMW:=@List.take_succ_eq_append_getElem
abbrev aNs:=@List.drop_eq_getElem_cons
abbrev aN7:=@List.not_mem_nil
abbrev aOj:=@List.getElem_of_mem
abbrev aOl:=@Option.map_eq_some_iff
abbrev aOu:=@List.count_cons_of_ne
abbrev aOy:=@Int.mul_le_mul
abbrev aOM:=@or_false
abbrev aOX:=@List.mem_of_mem_take
abbrev aO7:=@Int.mul_nonneg
abbrev aPg:=@List.all_eq_false
abbrev aPj:=@Bool.true_and
abbrev aPw:=@Bool.and_eq_false_iff
abbrev aPz:=@Go.run_convert_bytes_back
abbrev aPG:=@List.count_cons_self
abbrev aPI:=@Bool.and_false
abbrev aPT:=@Nat.add_sub_cancel
abbrev aPY:=@Go.Oper.semAt_eq
abbrev aQi:=@Bool.eq_iff_iff
abbrev aQt:=@Int.tdiv_eq_ediv_of_nonneg
abbrev aQu:=@Go.wpIn_region_lit
abbrev aQy:=@List.map_take
abbrev aQQ:=@Array.mem_of_getElem?
abbrev aQ1:=@List.count_pos_iff

namespace Φ
variable {α:Type} {R:Φ α}
theorem apo {β:Type} {size:Nat} {X:List (List β)} {i:Nat} {es:List β} (Bt:∀ x∈X,x.length=size) (ak:i<X.length):(X.set i es).flatten=X.flatten.take (i * size)++es++X.flatten.drop (i * size+size):=by
 rw [aOJ,aMI ak,aO2,aNr,Nb i Bt,RT (i+1) Bt,aNU,aM6]
theorem azk {β:Type} {cur es:List β} {p n k:Nat} (aj:es.length=k) (κ:p+k≤n) (τ:n≤cur.length):(cur.take p++es++cur.drop (p+k)).take n=(cur.take n).take p++es++(cur.take n).drop (p+k):=by
 apply aOd;intro j;subst aj;simp only [aNe,List.getElem?_append,aMB,aME,aNz]
 grind
theorem aL.afN {E by_ B c i g:Nat} {f:List Nat} {l:List α} {w:World} {q':α} {es:List Value} {cur:Array Value} (h:R.aL E by_ w B f (some ⟨g,0,none⟩) c l) (hp:R.uW) (ak:i<l.length) (I:∀ w,R.has w es q') (sz:w.heap[g]? =some (.cells cur E (0,0))):
  R.aL E by_ (w.setRow g (cur.toList.take (i * R.size)++es++cur.toList.drop (i * R.size+es.length)).toArray) B f (some ⟨g,0,none⟩) c (l.set i q')∧i * R.size+es.length≤cur.toList.length:=by
 obtain ⟨af,ps,rfl,hn,bl,ej⟩:=h;have F8:es.length=R.size:=R.len (I w);have ay:=OD ej;have tK:ps.length=l.length:=ej.length;obtain ⟨BH,yp⟩:=bl;obtain ⟨g',cap,A_,hv,ap7,dN,BC,p9,hE,asz,av⟩:=yp.resolve_left (λ bo=>nomatch bo.1);injection hv with nI TD asF
 injection nI with nI
 injection nI with nI aGN aGO
 subst nI asF;rw [dN] at sz;injection sz with sz
 injection sz with sz
 subst sz;have hle:i * R.size+R.size≤l.length * R.size:=by rw [← aNU];exact aNh _ ak
 have aF5:l.length * R.size≤c * R.size:=aNh _ BC;have yo:A_.toList.length=c * R.size:=by rw [aNN,hE]
 obtain ⟨x,hx,JD⟩:=ej.at_ (cl (l:=l) (u:=q') ak);have jL:x.1= []:=hp.2 JD;have S9:∀ y∈ps,∀ q∈y.1,q≠g:=λ y aH q I e=>by
  obtain ⟨b,Dh⟩:=ej.left y aH;rw [hp.2 Dh] at I;simp at I
 have aR:(ps.set i (x.1,es)).map (·.1)=ps.map (·.1):=by
  rw [aOq];have:(ps.map (·.1))[i]? =some x.1:=by rw [aMX,hx];rfl
  obtain ⟨τ,aq⟩:=aMx.1 this
  conv=>lhs;rw [← aq]
  exact aOt _
 have a6:(ps.set i (x.1,es)).map (·.2)=(ps.map (·.2)).set i es:=by rw [aOq]
 have abi:=apo (es:=es) ay (by rw [aNf];omega:i<(ps.map (·.2)).length);rw [F8];refine ⟨⟨by rw [aMM];exact af,ps.set i (x.1,es),by rw [aR],hn,⟨?_, .inr ⟨g,c,(A_.toList.take (i * R.size)++es++A_.toList.drop (i * R.size+R.size)).toArray,by rw [aMM],ap7, ?_,by rw [aMM];exact BC,p9, ?_, ?_, ?_⟩⟩, ?_⟩,by omega⟩
 ·rw [a6,abi,aMM];simp only [aMB,aME,aM9,BH,F8];omega
 ·exact aO.setRow (cur:=A_.toList) (by simpa [aO] using dN) _
 ·rw [aNV];simp only [aMB,aME,aM9,yo,F8];omega
 ·rw [aMM,a6,abi,← asz];exact azk F8 hle (by omega)
 ·intro j u hu;rw [aPu] at hu;by_cases κ:j<i * R.size
  ·refine av j u ?_;rw [aM6,aMZ (by rw [aME];omega),aNe,aMI κ] at hu;rw [← aNw];exact hu
  ·by_cases τ:j<i * R.size+R.size
   ·rw [aM6,aM7 (by rw [aME];omega),aMZ (by rw [aME];omega),aME] at hu;have aw:j % R.size=j - i * R.size:=by
     have aq:j=R.size * i+(j - i * R.size):=by rw [aOm];omega
     have bT:(j - i * R.size) % R.size=j - i * R.size:=aP9 (by omega)
     conv=>lhs;rw [aq,aPr,bT]
    rw [aw];exact R.t_ (I w) _ u (by rw [aO0 (by omega)] at hu;exact hu)
   ·refine av j u ?_;rw [aM7 (by simp only [aMB,aME];omega),aNz] at hu;rw [← aNw];rw [show i * R.size+R.size+(j - (List.take (i * R.size) A_.toList++es).length)=j from by simp only [aMB,aME];omega] at hu;exact hu
 ·have SX:dp (λ x a=>R.own (w.setRow g (A_.toList.take (i * R.size)++es++A_.toList.drop (i * R.size+R.size)).toArray) B x.1 x.2 a) ps l:=ej.imp λ y a aH N2=>R.rG N2 λ q I=>(Mod.setRow w g _).block q (R.sG N2 q I).2 (by simpa using S9 y aH q I);exact SX.UR (P:=λ (x:List Nat×List Value) a=>R.own _ B x.1 x.2 a) (by rw [jL];exact hp.1 (I _))
end Φ
section
variable {P:Program} {n:Nat} {E cd:List (Nat×Value)} {a:Act} {w w' w0 aM:World} {Q:Exit→Act→World→Prop} {ops:Array Oper} {v:Value}
variable {d:Option Nat} {ty:TypeId} {pos:String} {aW:Array Edge} {g:Option (Nat×Bool)} {x y z:Operand} {t:TypeId} {rest:List Oper}
theorem OW {α:Type} {R:Φ α} {e by_ B i:Nat} {A:Option Addr} {c:Nat} {l:List α} {q':α} {p:Addr} {es:List Value} (h:R.aL e by_ w B (Φ.ab A) A c l) (hR:R.uW) (ak:i<l.length) (hx:ev E x=some (.pointer (some p))) (hp:p=⟨et A,jO A+i * R.size,none⟩) (aH:ev E y=some v) (hc:v.cells=es.toArray)
  (I:∀ w,R.has w es q') (hs:eN P t es.length)
  (aj:∀ aM,Mod (Φ.ab A) w aM→R.aL e by_ aM B (Φ.ab A) A c (l.set i q')→bO P n ops Q rest E aM):bO P n ops Q (⟨none, .store t x y,ty,pos,aW,none⟩::rest) E w:=by
 obtain ⟨b,rfl⟩:=h.block (by omega);have Jv:p=⟨b,i * R.size,none⟩:=by rw [hp];simp [et,jO]
 subst Jv;obtain ⟨_,ps,_,_,bl,_⟩:=id h;obtain ⟨cur,sz,_,_⟩:=bl.Yn;obtain ⟨tL,hle⟩:=Φ.aL.afN (q':=q') h hR ak I sz;have iZ:=UL (P:=P) (w:=w) (b:=b) (p:=i * R.size) (cur:=cur.toList) (e:=e) (by simpa [aO] using sz) hc hs (aNd.2 (R.one (I w))) hle;refine us (λ n a ha=> ?_) (aj _ (Mod.setRow w b _) tL);simp only [execOp,ha.ev hx,ha.ev aH,Instr.storeAt,Instr.sureAddr,aML,aMP,aMG,iZ]
def Ki (A:Option Addr) (aDI:Nat):Option Addr:=A
theorem UN {A:Option Addr} {len cap e s:Nat} {k:IntKind} (ak m:Nat) {i:Int} (aC:P.underlying t=some (.slice e)) (hs:eN P e s) (hx:ev E x=some (.slice A len cap)) (aH:ev E y=some (.int k i)) (κ:i=(ak:Int)) (τ:ak≤cap) (hm:m=ak):cF P E ⟨d, .slice t x none (some y) none,ty,pos,aW,g⟩ w (.slice (Ki A ak) m cap) w:=λ n a ha=>by
 subst κ;subst hm;have κ:P.underlying t=some (.slice (P.elem t)):=by simp [Program.elem,aC]
 have nP:P.elem t=e:=by simp [Program.elem,aC]
 have aq:=run_slice_h (P:=P) (w:=w) t A len cap κ k (m:Int) (by omega) (by omega);have bb:=aOP (P:=P) (w:=w) t (.slice A len cap) none (some (.int k (m:Int))) none κ;rw [nP,hs w] at aq;simp only [execOp,ha.ev hx,ha.ev aH,Option.map,bb,aq,aML,aMG,aMP,sliced,aNE,Nat.sub_zero];unfold Ki;cases A with
 | none=>simp
 | some a=>simp [Addr.add]
end
theorem Φ.aQ.pre {α:Type} {R:Φ α} {by_ c:Nat} {A:Option Addr} {l:List α} {w:World} (h:R.aQ by_ w A c l) (k:Nat):R.aQ by_ w (Ki A k) c (l.take k):=h.GR k
open Tryz
section
variable {P:Program} {n:Nat} {E:List (Nat×Value)} {w:World} {Q:Exit→Act→World→Prop} {ops:Array Oper} {aK:Nat→Nat}
def aCN (P:Program) (ops:Array Oper) (Q:Exit→Act→World→Prop) (aK:Nat→Nat) (Cs aCw:List Nat):Exit→Act→World→Prop :=
 eT (λ a w=>xf P ops (eT (Q .normal)) aK Cs a w∧xf P ops (eT (Q .normal)) aK aCw a w)
end
open Tryz
section
variable {f:FuncId} {args:Array Value} {o:Oper} {a:Act} {l:List Oper} {b k D B e by_ len cap s:Nat} {vs:List Value} {op:Op} {Y:World} {S:List Nat} {α:Type} {A:Option Addr}
def jH (ro:Option Nat):Fence:= {Fence.wide with round:=ro}
section
variable {P:Program} {ro:Option Nat} {m:Nat} {ops:Array Oper} {Q:Exit→Act→World→Prop} {w:World}
theorem amd {R:Ending→World→Prop} (h:Calls P f args w R):CallsIn (jH ro) m P f args w R:=(callsIn_wide (n:=m)).2 h
theorem ayf {row:String} {R:Value→World→Prop} (h:Rows P row args w R):RowsIn (jH ro) m P row args w R:=λ c cs _ =>
 let ⟨v,w',r,s⟩:=h c cs;⟨v,w',r,stepsIn_wide.2 s⟩
def BV (o:Oper):Bool:=match o.op with
 | .defer _=>false
 | _=>true
theorem aeQ {K:Act→World→Prop} (hd:BV o=true) (h:o.wp P a w K Q):o.wpIn (jH ro) m P a w K Q:=by
 refine ⟨λ _ _=>trivial, ?_⟩;have hs:o.semAt (jH ro).round a.eval=execOp a.eval o:=aPY _ _ _ (λ c e=>by simp [BV,e] at hd);rw [hs];unfold Oper.wp at h;generalize (execOp a.eval o).run P w=r at *
 cases r with
 | ok x w' =>
  cases x<;>simp only [Oper.upon] at h<;>simp only [Oper.uponIn] <;>
   first
    | exact h
    | exact h.elim
    | exact ⟨λ h=>by simp [jH,Fence.wide] at h,amd h⟩
    | exact ⟨λ h=>by simp [jH,Fence.wide] at h,ayf h⟩
 | halt x w'=>cases x<;>simp only [Oper.upon] at h<;>simp only [Oper.uponIn]<;>first | exact h | exact h.elim
theorem T1:∀ (l:List Oper) {a:Act} {w:World},l.all BV=true→wpList P ops Q l a w→(∀ c a w,¬ Q (.panic c) a w)→¬ LetsOut Q→wpListIn (jH ro) m P ops Q l a w
 | [],a,w,_,h,_,_=>by unfold wpList at h;unfold wpListIn;exact h
 | o::rest,a,w,hd,h,hp,bl=>by
  rw [List.all_cons,aMF] at hd;unfold wpList at h;unfold wpListIn;split at h
  ·rename_i hw
   rw [aMI hw];rcases h with h | ⟨h,x⟩
   ·exact Oper.wpIn_mono (λ a w h=>T1 rest hd.2 h hp bl) (aeQ hd.1 h)
   ·exact (bl x).elim
  ·rename_i hw
   rw [aMA hw];exact ⟨λ _ _=>trivial,T1 rest hd.2 h hp bl⟩
theorem aAQ {i:Nat} {K:Act→World→Prop} {w:World} (hd:ops.toList.all BV=true) (bl:¬ LetsOut Q) (h:wpOp P ops Q i K a w):wpOpIn (jH ro) m P ops Q i K a w:=by
 unfold wpOp at h;unfold wpOpIn;split at h
 ·rename_i ak;simp only [ak];exact h
 ·rename_i o ak
  simp only [ak];have aq5:BV o=true:=aNd.1 hd o (by rw [Array.mem_toList_iff];exact aQQ ak);split at h
  ·rename_i hw
   rw [aMI hw];rcases h with h | ⟨h,x⟩
   ·exact aeQ aq5 h
   ·exact (bl x).elim
  ·rename_i hw
   rw [aMA hw];exact ⟨λ _ _=>trivial,h⟩
theorem XG (hd:ops.toList.all BV=true) (bl:¬ LetsOut Q):∀ (f:Nat) (l:Array Bool) {a:Act} {w:World},wpAny P .any ops Q f l a w→wpAnyIn (jH ro) m P .any ops Q f l a w
 | 0,l,a,w,h=>h
 | f+1,l,a,w,h=>⟨h.1,λ i ak=>wpOpIn_mono (λ a w h=>XG hd bl f _ h) (aAQ hd bl (h.2 i ak))⟩
end
theorem aeH {K:Act→World→Prop}:∀ c a w,¬ eT K (.panic c) a w:=λ _ _ _ h=>h
theorem aeG {K:Act→World→Prop}:¬ LetsOut (eT K):=λ ⟨_,_,h⟩=>h
theorem aeF {K:Exit→Act→World→Prop}:∀ e a w,eT (K .normal) e a w→K e a w:=λ e a w h=>by cases e<;>first | exact h | exact h.elim
namespace Rd
section
variable {P:Program} {ro:Option Nat} {m n:Nat} {ops:Array Oper} {Q:Exit→Act→World→Prop} {w w0:World} {E cd:List (Nat×Value)} {id N3:Nat} {c:Operand} {x y:Code} {i j:Int} {ba:List Nat} {v:Value}
def W (ro:Option Nat) (m:Nat) (P:Program) (n:Nat) (c:Code) (Q:Exit→Act→World→Prop) (E:List (Nat×Value)) (w:World):Prop:=∀ a,c8 n E a→c.wpIn (jH ro) m P Q a w
abbrev M (n:Nat) (Q:Exit→Act→World→Prop) (E:List (Nat×Value)) (w:World):Prop:=N n (eT (Q .normal)) E w
abbrev lB (ro:Option Nat) (m:Nat) (P:Program) (y:Code) (Q:Exit→Act→World→Prop):Exit→Act→World→Prop:=Exit.then (λ a w=>y.wpIn (jH ro) m P Q a w) Q
theorem aI (h:W ro m P n x (lB ro m P y Q) E w):W ro m P n (.seq x y) Q E w:=λ a ha=>wpIn_seq (h a ha)
theorem gb (h:M n Q E w):W ro m P n .skip Q E w:=λ a ha=>wpIn_skip (h a ha)
theorem rt (h:T n Q E w):W ro m P n .ret Q E w:=λ a ha=>wpIn_ret (h a ha)
theorem er (h:X n Q id E w):W ro m P n (.exit id) Q E w:=λ a ha=>wpIn_exit (h a ha)
theorem bV (h:W ro m P n x (Exit.inBlock id Q) E w):W ro m P n (.block id x) Q E w:=λ a ha=>wpIn_block (h a ha)
theorem rg (h:bO P n l.toArray (eT (Q .normal)) l E w) (hd:l.all BV=true:=by kernel_rfl):W ro m P n (.region id l.toArray false) Q E w:=λ a ha=>Go.wpIn_mono (aQu (T1 l hd (h a ha) aeH aeG)) aeF
theorem c_ {b:Bool} (hc:ev E c=some (.bool b)) (κ:b=true→W ro m P n x Q E w) (τ:b=false→W ro m P n y Q E w):W ro m P n (.cond c x y) Q E w :=
 λ a ha=>wpIn_cond_split (ha.ev hc) (λ h=>κ h a ha) (λ h=>τ h a ha)
theorem fM (hc:ev E c=some (.bool (decide (i<j)))) (κ:i<j→W ro m P n x Q E w) (τ:¬ i<j→W ro m P n y Q E w):W ro m P n (.cond c x y) Q E w:=c_ hc (λ h=>κ (aNt h)) (λ h=>τ (aOG h))
theorem ob (hc:ev E c=some (.bool (i != j))) (κ:¬ i=j→W ro m P n x Q E w) (τ:i=j→W ro m P n y Q E w):W ro m P n (.cond c x y) Q E w:=c_ hc (λ h=>κ (by simpa using h)) (λ h=>τ (by simpa using h))
theorem br (h:W ro m P n y Q E w):M n (lB ro m P y Q) E w:=h
theorem ne {fn:Func} {R:Ending→World→Prop} (h:T n (bodyPost P fn R) E w):M n (bodyPost P fn R) E w:=λ a ha=>h a ha
theorem cm (h:M n Q E w):M n (Exit.inBlock id Q) E w:=h
theorem ep (h:X n Q id E w):X n (lB ro m P y Q) id E w:=h
theorem eo (h:M n Q E w):X n (Exit.inBlock id Q) id E w:=λ a ha=>by simp only [Exit.inBlock,aN5];exact h a ha
theorem cW (h:T n Q E w):T n (lB ro m P y Q) E w:=h
theorem gh {c:Code} (cC:Nat→List (Nat×Value)→World→Prop) (k:Nat) (cd:List (Nat×Value)) (aB:cC k cd w) (hs:Sub cd E)
  (round:∀ k E w,cC k E w→W ro m P n c (Exit.then (HL n cC k) Q) E w):W ro m P n (.loop c) Q E w:=λ a ha=>by
 intro b TV cs asr af hr;have key:∀ k a w,(∃ E,cC k E w∧c8 n E a)→∃ e a' w',Q e a' w'∧ArrivesIn (Machine.fenced P (jH ro)) P (lone (b.atR a (.code c:: .inLoop c::TV)) cs w) b TV cs e a' w':=by
  intro k;induction k using Nat.strongRecOn with
  | _ k bu =>
   intro a w ⟨E,kR,ha⟩;obtain ⟨e,cV,aM,I,ov⟩:=round k E w kR a ha b (.inLoop c::TV) cs asr af hr;cases e with
   | normal =>
    obtain ⟨m',bB,Sn⟩:=I;obtain ⟨a6,a2,b',Gg,SZ⟩:=bu m' bB cV aM Sn;exact ⟨a6,a2,b',Gg, .of_steps (StepsIn.trans ov (.one (fenced_calm af hr Z) stepR_inLoop)) SZ⟩
   | exit id=>exact ⟨_,cV,aM,I, .pass (x:= .inLoop c) rfl (λ _ _=> .inl (by simp)) ov⟩
   | goto l=>exact ⟨_,cV,aM,I, .pass (x:= .inLoop c) rfl (λ _ _=> .inl (by simp)) ov⟩
   | ret=>exact ⟨_,cV,aM,I, .pass (x:= .inLoop c) rfl (λ _ _=> .inl (by simp)) ov⟩
   | panic ch=>exact ⟨_,cV,aM,I, .pass (x:= .inLoop c) rfl (λ _ _=> .inl (by simp)) ov⟩
   | outgrown=>exact ⟨_,cV,aM,I, .pass (x:= .inLoop c) rfl (λ _ _=> .inl (by simp)) ov⟩
 obtain ⟨e,a',w',I,ov⟩:=key k a w ⟨cd,aB,ha.sub hs⟩;exact ⟨e,a',w',I, .of_steps (.one (fenced_calm af hr Z) stepR_loop) ov⟩
theorem lM {cC:Nat→List (Nat×Value)→World→Prop} (k':Nat) (cd:List (Nat×Value)) (h:cC k' cd w) (hm:k'<k) (hs:Sub cd E):M n (Exit.then (HL n cC k) Q) E w :=
 λ a ha=>⟨k',hm,cd,h,ha.sub hs⟩
theorem rd (hO:List (Nat×Nat)) (ba:List Nat) (hm:P.follows .mixedOrders=true) (aS:(Region.noSelect ops && (ba.length == ops.size) && hM ops (j7 hO) ba (Array.replicate ops.size false))=true)
  (h:eD P n ops (eT (Q .normal)) (j7 hO) ba E w) (hd:ops.toList.all BV=true:=by kernel_rfl):W ro m P n (.region id ops true) Q E w:=λ a ha=>by
 simp only [aMF,aNq] at aS;obtain ⟨⟨hs,ay⟩,aS⟩:=aS;refine Go.wpIn_mono (wpIn_region_any hm (Q:=eT (Q .normal)) (XG hd aeG _ _ ?_)) aeF;have:=CQ (P:=P) hs (Q:=eT (Q .normal)) aeH ba (Array.replicate ops.size false) a w (by simp) aS (h a ha);rw [ay] at this;exact xM _ _ _ _ this _ (aNb _ w).drew
theorem XD {l:List Value} (ay:Nat.ble l.length n=true):c8 n (zq 0 l) {tmps:=l.toArray++Array.replicate (n - l.toArray.size) undef,defers:= []}:=by
 refine ⟨Z, ?_,λ t v hv=> ?_⟩
 ·have:=aNZ ay;simp only [aPh,aN2,aNV];omega
 ·obtain ⟨j,e,aw⟩:=L' l 0 t v hv;have bB:=(aMx.1 aw).1;rw [aO9 (by simp;omega)];simpa [show t=j by omega] using aw
theorem cx {fn:Func} {c:Code} {l:List Value} {R:Ending→World→Prop} (hf:P.funcs[f]? =some fn) (af:fn.body=some c) (hn:fn.ntmps=n) (ay:Nat.ble l.length n=true)
  (h:W none m P n c (bodyPostM (jH none) m P fn R) (zq 0 l) w):Calls P f l.toArray w R:=by
 have κ:CallsIn (jH none) m P f l.toArray w R:=callsIn_of_wp_marks hf af trivial (by rw [hn];exact h _ (XD ay)) rfl;exact (callsIn_wide (n:=m)).1 κ
theorem amb {fn:Func} {c:Code} {l:List Value} {R:Ending→World→Prop} (hf:P.funcs[f]? =some fn) (af:fn.body=some c) (hn:fn.ntmps=n) (ay:Nat.ble l.length n=true)
  (h:W none m P n c (bodyPost P fn R) (zq 0 l) w):CallsIn (jH none) m P f l.toArray w R :=
 callsIn_of_wp hf af trivial (by rw [hn];exact h _ (XD ay)) rfl
theorem dR {fn:Func} {R:Ending→World→Prop} (h:vq P E w fn.results.toList vs) (hR:R (.returned (qB vs)) w):T n (bodyPostM (jH none) m P fn R) E w :=
 λ a ha=>by
  show LeavesInM _ _ _ _ _ _ a.defers _ _;rw [ha.d];exact ⟨_,UK h ha,hR⟩
end
end Rd
namespace nA
section
variable {P:Program} {ro:Option Nat} {m n:Nat} {ops:Array Oper} {Q:Exit→Act→World→Prop} {w w' w0:World} {E cd:List (Nat×Value)} {id:Nat} {v:Value}
variable {d:Option Nat} {ty:TypeId} {pos:String} {aW:Array Edge} {g:Option (Nat×Bool)} {x y z:Operand} {t:TypeId} {rest:List Oper}
def bO (ro:Option Nat) (m:Nat) (P:Program) (n:Nat) (ops:Array Oper) (Q:Exit→Act→World→Prop) (l:List Oper) (E:List (Nat×Value)) (w:World):Prop:=∀ a,c8 n E a→wpListIn (jH ro) m P ops Q l a w
theorem rg (h:bO ro m P n l.toArray Q l E w):Rd.W ro m P n (.region id l.toArray false) Q E w:=λ a ha=>aQu (h a ha)
theorem nl (h:Rd.M n Q E w):bO ro m P n ops Q [] E w:=h
theorem ig {d:Nat} (hr:cF P E ⟨some d,op,ty,pos,aW,none⟩ w v w') (hd:Nat.blt d n=true) (h:bO ro m P n ops Q rest ((d,v)::E) w'):bO ro m P n ops Q (⟨some d,op,ty,pos,aW,none⟩::rest) E w:=λ a ha=>by
 have kC:=hr n a ha;unfold wpListIn;rw [aMI (by simp [Region.wanted])];refine ⟨λ _ _=>trivial, ?_⟩;have hs:(⟨some d,op,ty,pos,aW,none⟩:Oper).semAt (jH ro).round a.eval=execOp a.eval ⟨some d,op,ty,pos,aW,none⟩:=aPY _ _ _ (λ c e=>by
  have e:op= .defer c:=e;subst e;simp only [execOp,aML,aMP] at kC;revert kC;generalize (resolve a.eval c ty).run P w=r;cases r<;>simp [Result.andThen])
 rw [hs,kC];exact h _ (ha.put hd v)
theorem aBg {d:Nat} {l:Nat} {xs:Array Operand} {ts:Array TypeId} {args:List Value} (hx:ev E x=some (.func (.yield l) #[] #[])) (he:fr E xs.toList=some args) (hd:Nat.blt d n=true)
  (h:YieldAt (jH ro) (m - 1) P l args.toArray w λ e w'=>∃ v,e= .returned v∧bO ro m P n ops Q rest ((d,v)::E) w'):bO ro m P n ops Q (⟨some d, .call {callee:= .value x,args:=xs,argTypes:=ts},ty,pos,aW,none⟩::rest) E w:=λ a ha=>by
 obtain ⟨fn,tmps,assign,body,aH,hR⟩:=h;unfold wpListIn;rw [aMI (by simp [Region.wanted])];refine ⟨λ _ _=>trivial, ?_⟩;have hs:(⟨some d, .call {callee:= .value x,args:=xs,argTypes:=ts},ty,pos,aW,none⟩:Oper).semAt (jH ro).round a.eval=execOp a.eval ⟨some d, .call {callee:= .value x,args:=xs,argTypes:=ts},ty,pos,aW,none⟩:=aPY _ _ _ (λ c e=>by cases e);have hm:xs.map a.eval=args.toArray:=by rw [← ha.fr he];apply aNW;simp
 have kC:(execOp a.eval ⟨some d, .call {callee:= .value x,args:=xs,argTypes:=ts},ty,pos,aW,none⟩).run P w= .ok (.round l fn tmps assign body) w:=by
  unfold execOp;simp only [resolve,invoke,Deferred.ofValue,ha.ev hx,callFunc,aML,aMP,aMG,hm,aPa];first
   | exact aH
   | simpa using aH
 rw [hs,kC];refine ⟨λ h=>by simp [jH,Fence.wide] at h,hR.mono λ e w' he=> ?_⟩;obtain ⟨v,rfl,h⟩:=he;exact h _ (ha.put hd v)
end
end nA
def mark (D:Nat):List Deferred:= [{target:= .collected D,args:=#[]}]
def wd (ds:List Deferred) (a:Act):Act:= {a with defers:=ds}
theorem aAK (ds:List Deferred) (a:Act) (d:Option Nat) (v:Value):(wd ds a).put d v=wd ds (a.put d v):=by cases d<;>rfl
theorem aAJ (ds:List Deferred) (a:Act):(wd ds a).eval=a.eval:=by funext x;cases x<;>rfl
def y7 (w:World) (D:Nat):Prop:=w.heap[D]? =some (.deferred (some []))
theorem y7.lt {w:World} (h:y7 w D):D<w.heap.size:=(aM1.1 h).1
theorem y7.later {w w':World} (h:y7 w D) (x:Ext w w'):y7 w' D:=(x.block D h.lt).trans h
def Vo (w:World) (D:Nat):World:=w.putObj D (.deferred none)
theorem y7.un {w:World} (h:y7 w D):Mod [D] w (Vo w D):=by
 have:=Mod.grown (grownBy_putObj' w D (.deferred none));exact this
namespace qU
section
variable {P:Program} {ds:List Deferred} {m n:Nat} {ops:Array Oper} {Q:Exit→Act→World→Prop} {w w' w0:World} {E cd:List (Nat×Value)} {id:Nat} {v:Value}
variable {d:Option Nat} {ty:TypeId} {pos:String} {aW:Array Edge} {g:Option (Nat×Bool)} {x y z:Operand} {t:TypeId} {rest:List Oper} {c:Operand} {A' Iq:Code} {i j:Int}
def W (ds:List Deferred) (m:Nat) (P:Program) (n:Nat) (c:Code) (Q:Exit→Act→World→Prop) (E:List (Nat×Value)) (w:World):Prop:=∀ a,c8 n E a→c.wpIn (jH none) m P Q (wd ds a) w
def N (ds:List Deferred) (n:Nat) (Q:Exit→Act→World→Prop) (E:List (Nat×Value)) (w:World):Prop:=∀ a,c8 n E a→Q .normal (wd ds a) w
def T (ds:List Deferred) (n:Nat) (Q:Exit→Act→World→Prop) (E:List (Nat×Value)) (w:World):Prop:=∀ a,c8 n E a→Q .ret (wd ds a) w
def bO (ds:List Deferred) (m:Nat) (P:Program) (n:Nat) (ops:Array Oper) (Q:Exit→Act→World→Prop) (l:List Oper) (E:List (Nat×Value)) (w:World):Prop:=∀ a,c8 n E a→wpListIn (jH none) m P ops Q l (wd ds a) w
theorem aI (h:W ds m P n A' (Rd.lB none m P Iq Q) E w):W ds m P n (.seq A' Iq) Q E w:=λ a ha=>wpIn_seq (h a ha)
theorem rt (h:T ds n Q E w):W ds m P n .ret Q E w:=λ a ha=>wpIn_ret (h a ha)
theorem rg (h:bO ds m P n l.toArray Q l E w):W ds m P n (.region id l.toArray false) Q E w:=λ a ha=>aQu (h a ha)
theorem nl (h:N ds n Q E w):bO ds m P n ops Q [] E w:=h
theorem br (h:W ds m P n Iq Q E w):N ds n (Rd.lB none m P Iq Q) E w:=h
theorem cm (h:N ds n Q E w):N ds n (Exit.inBlock id Q) E w:=h
theorem av6 {v:Value} (h:(execOp a.eval o).run P w= .ok (.value v) w'):∀ c,o.op≠ .defer c:=λ c e=>by
 unfold execOp at h;rw [e] at h;simp only [aML,aMP] at h;revert h;generalize (resolve a.eval c o.type).run P w=r;cases r<;>simp [Result.andThen]
theorem ig {d:Nat} (hr:cF P E ⟨some d,op,ty,pos,aW,none⟩ w v w') (hd:Nat.blt d n=true) (h:bO ds m P n ops Q rest ((d,v)::E) w'):bO ds m P n ops Q (⟨some d,op,ty,pos,aW,none⟩::rest) E w:=λ a ha=>by
 have kC:=hr n a ha;unfold wpListIn;rw [aMI (by simp [Region.wanted])];refine ⟨λ _ _=>trivial, ?_⟩;rw [aAJ,aPY _ _ _ (av6 kC),kC];show wpListIn _ _ _ _ _ _ _ _;rw [aAK];exact h _ (ha.put hd v)
theorem dR {fn:Func} {R:Ending→World→Prop} (hK:y7 w D) (h:vq P E (Vo w D) fn.results.toList vs) (hR:R (.returned (qB vs)) (Vo w D)):T (mark D) n (bodyPostM (jH none) m P fn R) E w :=
 λ a ha=>by
  have hr:=UK (a:=a) h ha;exact ⟨by simp, .inl ⟨D,_,rfl,run_takeDeferred hK,_,hr,hR⟩⟩
end
end qU
def zh (b c:Nat) (W hJ:World):Prop:=hJ.heap[b]? =W.heap[b]? ∧hJ.heap[c]? =W.heap[c]?
theorem zh.nT {c:Nat} {X az:World} (h:zh b c X Y) (k:zh b c Y az):zh b c X az:=⟨k.1.trans h.1,k.2.trans h.2⟩
theorem Mod.adt {W hJ:World} (h:Mod S W hJ) (hS:∀ q∈S,q<W.heap.size→∃ cur e ao,W.heap[q]? =some (.cells cur e ao)):KeepsFrom B W hJ :=
 ⟨h.size,λ k o _ aj bl=>by
  by_cases hm:k∈S
  ·obtain ⟨cur,e,ao,hc⟩:=hS k hm (aM1.1 aj).1;rw [hc] at aj;injection aj with aj
   subst aj;exact nomatch bl
  ·exact (h.block k (aM1.1 aj).1 hm).trans aj⟩
theorem Mod.ats {W X:World} {c:Nat} (h:Mod S W X) (k:Mod S W Y) (af:b<W.heap.size∧c<W.heap.size) (κ:b∉S) (τ:c∉S):zh b c X Y :=
 ⟨(k.block b af.1 κ).trans (h.block b af.1 κ).symm,(k.block c af.2 τ).trans (h.block c af.2 τ).symm⟩
def u' (B:Nat) (w0 w:World):Prop:=KeepsFrom B w0 w
theorem u'.bM (B:Nat) (w:World):u' B w w:=KeepsFrom.refl B w
theorem u'.later {w0 w w':World} (h:u' B w0 w) (x:Ext w w'):u' B w0 w':=KeepsFrom.trans h ((Mod.aP (S:= []) x).adt λ q I=>nomatch I)
theorem u'.mod {w0 w w':World} (h:u' B w0 w) (m:Mod S w w') (hS:∀ q∈S,∃ cur e ao,w.heap[q]? =some (.cells cur e ao)):u' B w0 w':=KeepsFrom.trans h (m.adt λ q I _=>hS q I)
theorem Φ.aL.Q9 {R:Φ α} {c:Nat} {l:List α} {w:World} (h:R.aL e by_ w B (Φ.ab A) A c l):∀ q∈Φ.ab A,∃ cur e ao,w.heap[q]? =some (.cells cur e ao):=by
 obtain ⟨_,ps,_,_,⟨_,bl⟩,_⟩:=h;rcases bl with ⟨κ,_⟩ | ⟨g,cap,cur,κ,_,τ,_⟩
 ·injection κ with κ;subst κ;intro q I;exact nomatch I
 ·injection κ with κ;subst κ;intro q I
  obtain rfl:=aMu.1 I;exact ⟨_,_,_,τ⟩
structure CI {α:Type} (B:Nat) (jj:List α→World→Prop) (pre:List α) (w:World):Prop where
 QQ:AbidesFrom B jj
 at_:jj pre w
theorem CI.later {jj:List α→World→Prop} {pre:List α} {w w':World} (h:CI B jj pre w) (x:Ext w w'):CI B jj pre w' :=
 ⟨h.QQ,h.QQ _ _ _ none h.at_ ⟨x.os,x.tape,x.output,x.size,λ k aj _=>x.block k aj⟩ λ r e=>nomatch e⟩
theorem aO.N6 {cs:List Value} {e:TypeId} {ao:Nat×Nat} {w w':World} (h:aO w b cs e ao) (k:w'.heap[b]? =w.heap[b]?):aO w' b cs e ao:=k.trans h
theorem aBh {F:Fence} {m:Nat} {P:Program} {l:Nat} {W:World} {R R':Ending→World→Prop} (h:YieldAt F m P l args W R) (hr:∀ e w,R e w→R' e w):YieldAt F m P l args W R':=by
 obtain ⟨fn,tmps,assign,body,aH,hR⟩:=h;exact ⟨fn,tmps,assign,body,aH,hR.mono hr⟩
theorem aBk {P Q:Prop} {e:Ending} (h:(e= .returned (.bool true)∧P)∨(e= .returned (.bool false)∧Q)):∃ b,e= .returned (.bool b)∧(b=true→P)∧(b=false→Q):=by
 rcases h with ⟨h,p⟩ | ⟨h,q⟩
 ·exact ⟨true,h,λ _=>p,(λ h=>nomatch h)⟩
 ·exact ⟨false,h,(λ h=>nomatch h),λ _=>q⟩
theorem ape {q:Nat} (aj:k<q):(List.finRange q).take k++ [⟨k,aj⟩]=(List.finRange q).take (k+1):=by
 rw [aMW (by simpa using aj)];simp
section
variable {P:Program} {n:Nat} {E cd:List (Nat×Value)} {w:World} {d:Option Nat} {ty:TypeId} {pos:String} {aW:Array Edge} {g:Option (Nat×Bool)} {x y z u:Operand} {t:TypeId}
theorem ayr {k:IntKind} (lo:Nat) {i:Int} (aC:P.underlying t=some (.slice e)) (hs:eN P e s) (hx:ev E x=some (.slice A len cap)) (aH:ev E y=some (.int k i)) (κ:i=(lo:Int)) (τ:lo≤len):
  cF P E ⟨d, .slice t x (some y) none none,ty,pos,aW,g⟩ w (.slice (ez A cap lo s) (len - lo) (cap - lo)) w:=λ n a ha=>by
 subst κ;have kX:P.underlying t=some (.slice (P.elem t)):=by simp [Program.elem,aC]
 have nP:P.elem t=e:=by simp [Program.elem,aC]
 have aq:=run_slice_l (P:=P) (w:=w) t A len cap kX k (lo:Int) (by omega) (by omega);have bb:=aOP (P:=P) (w:=w) t (.slice A len cap) (some (.int k (lo:Int))) none none kX;rw [nP,hs w] at aq;simp only [execOp,ha.ev hx,ha.ev aH,Option.map,bb,aq,aML,aMG,aMP,sliced,aNE,ez]
theorem ayq {k k' ey:IntKind} (lo ak n:Nat) {i j TP:Int} (aC:P.underlying t=some (.slice e)) (hs:eN P e s) (hx:ev E x=some (.slice A len cap)) (aH:ev E y=some (.int k i)) (bo:ev E z=some (.int k' j)) (hu:ev E u=some (.int ey TP)) (zZ:i=(lo:Int)) (Ds:j=(ak:Int)) (arn:TP=(ak:Int)) (κ:lo≤ak) (τ:ak≤cap) (hn:n=ak - lo):
  cF P E ⟨d, .slice t x (some y) (some z) (some u),ty,pos,aW,g⟩ w (.slice (ez A ak lo s) n n) w:=λ mV a ha=>by
 subst zZ;subst Ds;subst arn;subst hn;have kX:P.underlying t=some (.slice (P.elem t)):=by simp [Program.elem,aC]
 have nP:P.elem t=e:=by simp [Program.elem,aC]
 have aq:=run_slice_lhm (P:=P) (w:=w) t A len cap kX k k' ey (lo:Int) (ak:Int) (ak:Int) (by omega) (by omega) (by omega) (by omega);have bb:=aOP (P:=P) (w:=w) t (.slice A len cap) (some (.int k (lo:Int))) (some (.int k' (ak:Int))) (some (.int ey (ak:Int))) kX;rw [nP,hs w] at aq;simp only [execOp,ha.ev hx,ha.ev aH,ha.ev bo,ha.ev hu,Option.map,bb,aq,aML,aMG,aMP,sliced,aNE,ez]
end
theorem Φ.aQ.chunk {R:Φ α} {c:Nat} {l:List α} {w:World} (h:R.aQ by_ w A c l) (lo ak:Nat) (κ:lo<ak) (τ:ak≤l.length):R.aQ by_ w (ez A ak lo R.size) (ak - lo) ((l.drop lo).take (ak - lo)):=by
 have hs:=h.sub lo ak (by omega) τ;have hc:=h.1;have p9:=h.2.1;have e:ez A ak lo R.size=ez A c lo R.size:=by unfold ez;rw [aMA (by omega),aMA (by omega)]
 rw [e];obtain ⟨g1,g2,g3,g4,g5⟩:=hs;refine ⟨by rw [aME];omega,by omega,g3,λ hn=> ?_,g5⟩;have:=g4 hn;omega
namespace Rd
theorem bM {P:Program} {m n:Nat} {Q:Exit→Act→World→Prop} {w w0:World} {E:List (Nat×Value)} {tt p:Nat} {ty:TypeId} {pos:String} {aW:Array Edge} {id:Nat} {body:Code} {g:Operand} {gf:Nat} {lb:List Value} {enc:α→Value} {e_ gD:Nat} {S akr:List α→Prop} {HM:Nat}
  (aT:ev E g=some (.func (.func gf) #[] lb.toArray)) (hf:Enters P gf) (asu:SeqStopsK (jH none) (m - 1) P gf lb.toArray (λ x=>#[enc x]) (zh e_ gD) S akr HM w0) (bq:e_<w.heap.size) (ek:gD<w.heap.size) (cS:Ext w0 w) (κ:1≤m) (hp:Nat.blt p n=true) (aC:Nat.blt tt n=true)
  (cC:List α→World→Prop) (kR:∀ s W hJ S,cC s W→Mod S W hJ→(∀ q∈S,w.heap.size≤q∧∀ cur e ao,W.heap[q]? ≠some (.cells cur e ao))→cC s hJ) (aB:cC [] w)
  (aqU:∀ (l:Nat) (pre:List α) (x:α) (hJ:World),cC pre hJ→pre.length<HM→W (some l) (m - 1 - 1) P n body (ownPostG w.heap.size (zh e_ gD) cC (λ _ _ _=>False) (pre++ [x]) hJ) ((tt,enc x)::(p,enc x)::E) hJ)
  (aq6:∀ (D:Nat) (xs:List α) (hJ:World),w.heap.size≤D→S xs→cC xs hJ→y7 hJ D→qU.N (mark D) n Q E hJ):
  W none m P n (.rangeFunc g #[p] (.region id #[⟨some tt, .assign (.tmp p),ty,pos,aW,none⟩] false) body) Q E w:=λ a ha=>by
 have aqf:∀ {β:Type} (jj:β→World→Prop),(∀ s W hJ S,jj s W→Mod S W hJ→(∀ q∈S,w.heap.size≤q∧∀ cur e ao,W.heap[q]? ≠some (.cells cur e ao))→jj s hJ)→OwnFrom w.heap.size jj:=λ jj ye s X Y row hs By hr =>
  ye s X Y row.toList hs (Mod.grown By) λ q I=>by
   cases row with
   | none=>exact nomatch I
   | some r =>
    obtain rfl:=aMu.1 I;obtain ⟨aS,o,bl,hc⟩:=hr _ rfl;exact ⟨aS,λ cur e ao h=>by rw [h] at bl;injection bl with bl;subst bl;exact nomatch hc⟩
 obtain ⟨fn,aq8,aq9,abg⟩:=hf;obtain ⟨q1,aqQ⟩:∃ c,fn.body=some c:=by
  cases h:fn.body with
  | none=>rw [h] at abg;simp at abg
  | some c=>exact ⟨c,rfl⟩
 refine wpIn_rangeFunc_ownH (F:=jH none) Z κ (gf:=gf) (lb:=lb.toArray) (ha.ev aT) trivial (enters_of aq8 aq9 aqQ) asu (λ h k=>h.nT k) ?_ cS (λ x=>Z) cC (λ _ _ _=>False) (aqf cC kR) (λ c s A B row hs aT hr=>hs.elim) aB
  (λ x a' _=>c8 n ((tt,enc x)::(p,enc x)::E) a') (λ x a' s A B row hs aT hr=>hs) ?_ ?_ ?_ ?_
 ·intro hJ l o Kb ay b8 _ _;have hm:=Mod.grown (grownBy_putObj' hJ l Kb);exact ⟨hm.block e_ (by have:=(aM1.1 b8).1;omega) (by simp;omega),hm.block gD (by have:=(aM1.1 b8).1;omega) (by simp;omega)⟩
 ·intro l pre x hJ K ak hK;have hA:c8 n ((p,enc x)::E) {tmps:=(#[p].zip #[enc x]).foldl (λ t (p,v)=>t.setIfInBounds p v) a.tmps,defers:= []}:=by
   have:=ha.put hp (enc x);have e:({tmps:=(#[p].zip #[enc x]).foldl (λ t (p,v)=>t.setIfInBounds p v) a.tmps,defers:= []}:Act)=a.put (some p) (enc x):=by
    simp [Act.put,ha.d]
   rw [e];exact this
  have τ:W (some l) (m - 1 - 1) P n (.region id [(⟨some tt, .assign (.tmp p),ty,pos,aW,none⟩:Oper)].toArray false) (Exit.then K (λ _ _ _=>False)) ((p,enc x)::E) hJ:=by
   refine nA.rg (nA.ig (v:=enc x) (w':=hJ) (eQ ?_) aC (nA.nl λ a' ot=>hK a' hJ (KeepsFrom.refl _ _) ⟨Z,Z⟩ ak ot));show look ((p,enc x)::E) p=_;simp [look]
  exact τ _ hA
 ·intro l pre x a' hJ _ _ ak hx hlen;exact aqU l pre x hJ ak hlen a' hx
 ·intro D xs hJ mM hS ak hK;have:=aq6 D xs hJ mM hS ak hK a ha;have e:({a with defers:= {target:= .collected D,args:=#[]}::a.defers}:Act)=wd (mark D) a:=by simp [wd,mark,ha.d]
  rw [e];exact this
 ·intro D c pre hJ _ _ h _;exact h.elim
end Rd
end
section
variable {by_ c:Nat} {A:Option Addr} {l:List UInt8} {s p q:ByteArray}
def Al:Φ UInt8:=Φ.flat 1 (λ b=> [.int .u8 (b.toNat:Int)]) (λ _=>True) (λ _ u=>∃ n:Int,u= .int .u8 n) (λ _=>rfl) (by intro a u hu;simp at hu;subst hu;rfl) (by
 intro a j u hu;cases j with
 | zero=>simp at hu;exact ⟨_,hu.symm⟩
 | succ j=>simp at hu)
theorem as9:(prog.info? 5).map (λ i=>(i.zero,i.size,i.bytes))=some (some (.int .u8 0),1,1):=by kernel_rfl
theorem axS:∀ (j:Nat) u,(Value.int .u8 0).cells[j]? =some u→Al.raw j u:=by
 intro j u hu;have hu:(#[(.int .u8 0:Value)]:Array Value)[j]? =some u:=hu
 match j,hu with
 | 0,hu=>exact ⟨0,(aMJ hu).symm⟩
 | j+1,hu=>simp at hu
theorem aya {w:World} (h:Al.aQ by_ w A c l) (aB:0<l.length):∃ b o,A=some ⟨b,o,none⟩∧∀ (i:Nat) (a:UInt8),l[i]? =some a→w.cell? ⟨b,o+i,none⟩=some (.int .u8 (a.toNat:Int)):=by
 obtain ⟨b,o,e,hc⟩:=h.at_ aB;refine ⟨b,o,e,λ i a ha=> ?_⟩;obtain ⟨es,⟨rfl,_⟩,aw⟩:=hc i a ha;have:=aw 0 _ rfl;simpa [Al,Φ.flat] using this
def aD (l:List UInt8):ByteArray:=⟨l.toArray⟩
theorem Mj {m:List UInt8} (h:aD l=aD m):l=m:=by
 unfold aD at h;injection h with h
 injection h
section
variable {P:Program} {n:Nat} {E cd:List (Nat×Value)} {w:World} {d:Option Nat} {ty:TypeId} {pos:String} {aW:Array Edge} {g:Option (Nat×Bool)} {x y z u:Operand} {t t2:TypeId}
theorem Kp {k:IntKind} {i:Int} {v:UInt8} (aC:P.underlying t=some .string) (hx:ev E x=some (.string s)) (aH:ev E y=some (.int k i)) (aB:0≤i) (hv:s.data.toList[i.toNat]? =some v):
  cF P E ⟨d, .index t x y,ty,pos,aW,g⟩ w (.int .u8 (v.toNat:Int)) w:=λ n a ha=>by
 have bB:=(aMx.1 hv).1;have hE:i.toNat<s.size:=by simpa using bB
 have ak:0≤i∧i<s.size:=by omega
 have hr:=run_index_string (P:=P) w t s k i aC;rw [dif_pos ak] at hr;have e:(s[i.toNat]'hE)=v:=by
  have:=(aMx.1 hv).2;simpa [ByteArray.getElem_eq_getElem_data] using this
 simp only [execOp,ha.ev hx,ha.ev aH,aML,hr,aMG,aMP,e]
theorem amF {e:TypeId} (hs:P.underlying t=some (.slice e)) (he:P.underlying e=some (.int .u8)) (hd:P.underlying t2=some .string) (h:Al.aQ by_ w A c l) (hx:ev E x=some (.slice A l.length c)):
  cF P E ⟨d, .convert t t2 x,ty,pos,aW,g⟩ w (.string (aD l)) w:=λ n a ha=>by
 have hr:(convert t t2 (.slice A l.length c)).run P w= .ok (.string (aD l)) w:=by
  cases A with
  | none =>
   have hc:c=0:=h.2.2.2.1 rfl;have ay:l= []:=aM3 (by have:=h.1;omega);subst ay;subst hc;show (convert t t2 (.slice none 0 0)).run P w=_;rw [run_convert_bytes_string w t t2 e none 0 0 hs he hd];simp [Conv.bytesToString];rfl
  | some p =>
   cases ay:l with
   | nil =>
    have:∀ j (aw:j<([]:List UInt8).length),w.cell? (p.add j)=some (.int .u8 (([]:List UInt8)[j].toNat:Int)):=λ j aw=>nomatch aw;exact aPz w t t2 e p c [] hs he hd this
   | cons b r =>
    rw [← ay];obtain ⟨b,o,rfl',hc⟩:=aya h (by rw [ay];simp);injection rfl' with rfl'
    subst rfl';exact aPz w t t2 e _ c l hs he hd λ j aw=>by
     have:=hc j _ (aMy aw);have e:(⟨b,o,none⟩:Addr).add j=⟨b,o+j,none⟩:=by
      unfold Addr.add;by_cases aB:j=0
      ·subst aB;simp
      ·simp [aB]
     rw [e];exact this
 simp only [execOp,ha.ev hx,aML,hr,aMG,aMP]
theorem O2 (p q:ByteArray):(p == q)=decide (p=q):=by
 rw [aQi,aMD];constructor
 ·intro h;obtain ⟨a⟩:=p;obtain ⟨b⟩:=q;have:a=b:=by simpa using (show (a == b)=true from h)
  rw [this]
 ·rintro rfl;obtain ⟨a⟩:=p;show (a == a)=true;simp
theorem kP (aC:P.underlying t=some .string) (hx:ev E x=some (.string p)) (aH:ev E y=some (.string q)):cF P E ⟨d, .binOp .eql t x y t2,ty,pos,aW,g⟩ w (.bool (decide (p=q))) w:=λ n a ha=>by
 have:(eqGuard .eql t x y (.string p) (.string q)).run P w= .ok () w:=by cases x<;>cases y<;>rfl
 have τ:(binOp .eql t (.string p) (.string q)).run P w= .ok (.bool (decide (p=q))) w:=by
  simp only [binOp,Op.stringOp,aMP];simp [bne,O2];rw [← beq_toListBytes,O2]
 simp only [execOp,ha.ev hx,ha.ev aH,aML,this,τ,aMG,aMP]
theorem Ie (aC:P.underlying t=some .string) (hx:ev E x=some (.string p)) (aH:ev E y=some (.string q)):cF P E ⟨d, .binOp .neq t x y t2,ty,pos,aW,g⟩ w (.bool (!decide (p=q))) w:=λ n a ha=>by
 have:(eqGuard .neq t x y (.string p) (.string q)).run P w= .ok () w:=by cases x<;>cases y<;>rfl
 have τ:(binOp .neq t (.string p) (.string q)).run P w= .ok (.bool (!decide (p=q))) w:=by
  simp only [binOp,Op.stringOp,aMP];simp [bne,O2];rw [← beq_toListBytes,O2]
 simp only [execOp,ha.ev hx,ha.ev aH,aML,this,τ,aMG,aMP]
theorem DG (aC:P.underlying t=some .string) (hx:ev E x=some (.string s)) (hs:(s.size:Int)≤9223372036854775807):cF P E ⟨d, .call {callee:= .builtin .len,args:=#[x],argTypes:=#[t]},ty,pos,aW,g⟩ w (.int .i64 (s.size:Int)) w :=
 bi (vs:= [.string s]) (by simp only [fr,hx]) λ cs=>by
  have:=run_len_string (P:=P) w t ty s aC;simp only [builtin,aML,this,aMG,aMP];rfl
end
end
section
variable {n k:Nat} {ws r:List ByteArray}
def gu (b:UInt8):List UInt8→List (List UInt8)
 | []=> [[]]
 | x::l=>if x=b then []::gu b l else match gu b l with | h::t=>(x::h)::t | []=> [[x]]
theorem af1 (b:UInt8):gu b []= [[]]:=rfl
theorem B4 (b:UInt8) (l:List UInt8):gu b (b::l)= []::gu b l:=by simp [gu]
theorem Am (b:UInt8):∀ l,∃ h t,gu b l=h::t
 | []=>⟨_,_,rfl⟩
 | x::l=>by
  obtain ⟨h,t,e⟩:=Am b l;unfold gu;rw [e];by_cases hx:x=b<;>simp [hx]
theorem An {b x:UInt8} (hx:x≠b) {l h:List UInt8} {t:List (List UInt8)} (e:gu b l=h::t):gu b (x::l)=(x::h)::t:=by
 conv=>lhs;unfold gu
 rw [aMA hx,e]
theorem wh (b:UInt8):∀ l:List UInt8,(l.count b=0→Lib.index l [b]= -1)∧(∀ x:UInt8,x≠b→∀ i:Nat,Lib.index l [b]=i→Lib.index (x::l) [b]=((i+1:Nat):Int))∧Lib.index (b::l) [b]=0
 | []=>⟨λ _=>rfl,λ x hx i ak=>by
   have:(-1:Int)=i:=ak
   omega,by unfold Lib.index;simp⟩
 | y::l=>by
  refine ⟨λ aB=> ?_,λ x hx i ak=> ?_,by unfold Lib.index;simp⟩
  ·have aH:y≠b:=λ e=>by subst e;simp at aB
   have κ:=(wh b l).1 (by rw [List.count_cons] at aB;omega);have hn:([b]:List UInt8).isPrefixOf (y::l)=false:=by simp [List.isPrefixOf,aOV aH]
   unfold Lib.index;rw [hn,κ];rfl
  ·have hn:([b]:List UInt8).isPrefixOf (x::y::l)=false:=by simp [List.isPrefixOf,aOV hx]
   unfold Lib.index;rw [hn,ak];have:¬ ((i:Int)== -1)=true:=λ e=>by have:=aNq.1 e;omega
   simp only [aNm,aNR,this];omega
theorem U3 (b:UInt8):∀ l:List UInt8,Lib.splitK [b] 0 (l.count b) l=gu b l
 | []=>rfl
 | x::l=>by
  have bu:=U3 b l;by_cases hx:x=b
  ·subst hx;rw [aPG,B4,← bu]
   conv=>lhs;unfold Lib.splitK
   rw [(wh x l).2.2];simp
  ·rw [aOu hx];cases hc:l.count b with
   | zero =>
    rw [hc] at bu;rw [An hx (h:=l) (t:= []) (by rw [← bu];rfl)];rfl
   | succ k =>
    rw [hc] at bu;obtain ⟨i,ak⟩:∃ i:Nat,Lib.index l [b]=i:=by
     rcases Lib.index_spec l [b] with ⟨h,bl⟩ | ⟨i,h,_⟩
     ·exfalso;have hm:b∈l:=aQ1.1 (by omega);obtain ⟨j,aw,e⟩:=aOj hm;have:=bl j (by omega);unfold Lib.occAt at this;rw [aNs aw,e] at this;simp [List.isPrefixOf] at this
     ·exact ⟨i,h⟩
    have τ:=(wh b l).2.1 x hx i ak;have BU:¬ (((i+1:Nat):Int)== -1)=true:=λ e=>by have:=aNq.1 e;omega
    have rB:¬ ((i:Int)== -1)=true:=λ e=>by have:=aNq.1 e;omega
    have aR:Lib.splitK [b] 0 (k+1) l=l.take i::Lib.splitK [b] 0 k (l.drop (i+1)):=by
     conv=>lhs;unfold Lib.splitK
     rw [ak,aMA rB];simp
    have a6:Lib.splitK [b] 0 (k+1) (x::l)=(x::l.take i)::Lib.splitK [b] 0 k (l.drop (i+1)):=by
     conv=>lhs;unfold Lib.splitK
     rw [τ,aMA BU];simp
    rw [a6];exact (An hx (by rw [← bu,aR])).symm
def wM (s:ByteArray):Option Nat :=
 match Lib.parseUintB 32 s.data.toList with
 | .ok u=>if s.size≤9∧aD (Lib.decDigits u)=s then some u else none
 | _=>none
def Ai:List ByteArray→Option (Nat×List ByteArray)
 | []=>none
 | s::r=>(wM s).map λ u=>(u,r)
def ea:Nat→List ByteArray→Option (List Int)
 | 0,ws=>if ws= [] then some [] else none
 | n+1,ws=>match Ai ws with
  | none=>none
  | some x=>(ea n x.2).map λ l=>(x.1:Int)::l
theorem wN:∀ {n:Nat} {ws:List ByteArray} {l:List Int},ea n ws=some l→l.length=n
 | 0,ws,l,h=>by
  unfold ea at h;split at h
  ·cases h;rfl
  ·cases h
 | n+1,ws,l,h=>by
  unfold ea at h;split at h
  ·cases h
  ·rw [aOl] at h;obtain ⟨k,aj,rfl⟩:=h;rw [aMw,wN aj]
theorem awj {T:List Int} (h:ea n ws=(ea (k+1) r).map (T++ ·)) (hn:Ai r=none):ea n ws=none:=by rw [h,ea,hn];rfl
theorem awl {r':List ByteArray} {u:Nat} {T:List Int} (h:ea n ws=(ea (k+1) r).map (T++ ·)) (hn:Ai r=some (u,r')):ea n ws=(ea k r').map ((T++ [(u:Int)])++ ·):=by
 rw [h,ea,hn];show Option.map _ (Option.map _ (ea k r'))=_;rw [Option.map_map];congr 1
 funext l
 simp
def aIm (l:List UInt8):List (List UInt8):=if l= [] then [] else if (gu 10 l).getLast? =some [] then (gu 10 l).dropLast else gu 10 l
def aMn (l:List UInt8):List (List UInt8):=(gu 32 l).filter λ x=>x≠ []
end
section
variable {f:FuncId} {xs:Array Operand} {ts:Array TypeId} {args:List Value} {t:TypeId}
section
variable {P:Program} {n:Nat} {E:List (Nat×Value)} {w w':World} {Q:Exit→Act→World→Prop} {ops:Array Oper} {v:Value} {d:Option Nat} {ty:TypeId} {pos:String} {aW:Array Edge} {x:Operand} {rest:List Oper} {ch:List PanicEntry}
def r4 (n:Nat) (Q:Exit→Act→World→Prop) (ch:List PanicEntry) (E:List (Nat×Value)) (w:World):Prop:=∀ a,c8 n E a→Q (.panic ch) a w
theorem dP {y:Code} (h:r4 n Q ch E w):r4 n (lB P y Q) ch E w:=h
theorem GD {K:Act→World→Prop} (h:r4 n Q ch E w):r4 n (Exit.then K Q) ch E w:=h
theorem ko {id:Nat} (h:r4 n Q ch E w):r4 n (Exit.inBlock id Q) ch E w:=h
theorem f_ {fn:Func} {R:Ending→World→Prop} (h:R (.panicked ch) w):r4 n (bodyPost P fn R) ch E w:=λ a ha=>⟨ha.d,h⟩
theorem E9 (hf:Enters P f) (he:fr E xs.toList=some args)
  (h:Calls P f args.toArray w λ e w'=>∃ ch,e= .panicked ch∧r4 n Q ch E w'):bO P n ops Q (⟨d, .call {callee:= .value (.func f),args:=xs,argTypes:=ts},ty,pos,aW,none⟩::rest) E w:=λ a ha=>by
 refine xL Z ?_;unfold Oper.wp;rw [B1 hf ha he];refine aOs h λ e w' dN=> ?_;obtain ⟨ch,rfl,h⟩:=dN;exact h _ ha
theorem ae3 (hx:ev E x=some (.iface t v)) (h:r4 n Q [{v:= .iface t v,recovered:=false}] E w):bO P n ops Q (⟨d, .panic x,ty,pos,aW,none⟩::rest) E w:=λ a ha=>by
 refine xL Z ?_;unfold Oper.wp;have e:(execOp a.eval ⟨d, .panic x,ty,pos,aW,none⟩).run P w= .halt (.panic (.iface t v)) w:=by
  simp only [execOp,ha.ev hx,aML,run_panic_iface];rfl
 rw [e];exact h _ ha
theorem hy {d:Nat} (hf:Enters P f) (he:fr E xs.toList=some args) (hd:Nat.blt d n=true)
  (h:Calls P f args.toArray w λ e w'=>(∃ ch,e= .panicked ch∧r4 n Q ch E w')∨∃ v,e= .returned v∧bO P n ops Q rest ((d,v)::E) w'):bO P n ops Q (⟨some d, .call {callee:= .value (.func f),args:=xs,argTypes:=ts},ty,pos,aW,none⟩::rest) E w:=λ a ha=>by
 refine xL Z ?_;unfold Oper.wp;rw [B1 hf ha he];refine aOs h λ e w' dN=> ?_;rcases dN with ⟨ch,rfl,h⟩ | ⟨v,rfl,h⟩
 ·exact h _ ha
 ·exact h _ (ha.put hd v)
def Ly (cs:List Value) (k:Nat) (e:TypeId) (v:Value) (f:List Nat) (w:World):Prop:=∃ b,v= .slice (some ⟨b,0,none⟩) k k∧f= [b]∧aO w b cs e (0,0)
theorem Ue {i d k e:Nat} {ps:Array (Nat×Operand)} {l:List (Nat×Value)} {cs:List Value} (ak:ops[i]? =some ⟨some d, .buildSlice t k ps,ty,pos,aW,none⟩) (he:q7 E ps.toList=some l) (hr:∀ w,(Instr.buildSlice t k l.toArray).run P w= .ok (.slice (some ⟨w.heap.size,0,none⟩) k k) (w.alloc (.cells cs.toArray e))) (kB:look E d=none) (hd:Nat.blt d n=true):Lx P n ops Q E w i d (Ly cs k e):=by
 refine ⟨λ v f w w' ⟨b,κ,τ,aq⟩ hx=>⟨b,κ,τ,aq.later hx⟩,kB,hd,λ a aM K ha hx hK=> ?_⟩;unfold wpOp;simp only [ak];rw [aMI (qG rfl)];refine .inl ?_;unfold Oper.wp;have aR:ps.map (λ (i,x)=>(i,a.eval x))=l.toArray:=by rw [← ha.q7 he];apply aNW;simp
 have I:(execOp a.eval ⟨some d, .buildSlice t k ps,ty,pos,aW,none⟩).run P aM= .ok (.value (.slice (some ⟨aM.heap.size,0,none⟩) k k)) (aM.alloc (.cells cs.toArray e)):=by
  simp only [execOp,aR,aML,hr,aMG,aMP]
 rw [I];refine hK _ _ [aM.heap.size] ((aNb _ aM).alloc (aMO _) _) (λ q I=> ?_) ⟨aM.heap.size,Z,Z,aO.new aM cs e (0,0)⟩;rw [aMu.1 I];exact ⟨aMO _,by simp⟩
end
end
section
variable {by_ B c:Nat} {A:Option Addr}
namespace Φ
variable {α:Type} {R:Φ α}
theorem aL.apJ {E by_ c:Nat} {A:Option Addr} {l:List α} {w:World} {ps:List (List Nat×List Value)} (hp:R.uW) (ej:dp (λ x a=>R.own w B x.1 x.2 a) ps l):∀ y∈ps,y.1= []:=λ y aH=>by
 obtain ⟨b,af⟩:=ej.left y aH;exact hp.2 af
theorem apI {ps:List (List Nat×List Value)} (h:∀ y∈ps,y.1= []):(ps.map (·.1)).flatten= []:=by
 rw [aQE];intro x hx;obtain ⟨y,aH,rfl⟩:=aMT.1 hx;exact h y aH
theorem aL.cut {E:Nat} {l:List α} {w:World} (h:R.aL E by_ w B (ab A) A c l) (hp:R.uW) (k:Nat) (aj:k≤l.length):R.aL E by_ w B (ab A) A c (l.take k):=by
 obtain ⟨af,ps,hf,hn,bl,ej⟩:=h;have ay:=OD ej;have tK:ps.length=l.length:=ej.length;have κ:=aL.apJ (E:=E) (by_:=by_) (c:=c) (A:=A) hp ej;have hlen:(l.take k).length=k:=by rw [aME];omega
 have hm:=aNh by_ aj;refine ⟨by rw [hlen];omega,ps.take k, ?_,hn, ?_,ej.GR k⟩
 ·rw [apI λ y aH=>κ y (aOX aH),aM4]
 ·rw [hlen,aQy,Nb k ay];obtain ⟨BH,yp⟩:=bl;have hle:k * R.size≤l.length * R.size:=aNh _ aj;refine ⟨by rw [aME,BH];omega, ?_⟩;rcases yp with ⟨yp,aGR⟩ | ⟨g,cap,cur,hv,aS,dN,BC,p9,hs,aC,av⟩
  ·injection yp with aR a6 cM
   subst aR cM;have:k=0:=by omega
   subst this;exact .inl ⟨Z,Z⟩
  ·injection hv with aR a6 cM
   subst aR cM;exact .inr ⟨g,c,cur,Z,aS,dN,by omega,p9,hs,by rw [← aC,List.take_take,aO0 hle],av⟩
end Φ
section
variable {P:Program} {n:Nat} {E cd:List (Nat×Value)} {a:Act} {w w' w0 aM:World} {Q:Exit→Act→World→Prop} {ops:Array Oper} {v:Value}
variable {d:Option Nat} {ty:TypeId} {pos:String} {aW:Array Edge} {g:Option (Nat×Bool)} {x y z:Operand} {t:TypeId} {rest:List Oper}
theorem afG {len cap e s:Nat} {k:IntKind} (lo:Nat) {i:Int} (aC:P.underlying t=some (.slice e)) (hs:eN P e s) (hx:ev E x=some (.slice A len cap)) (aH:ev E y=some (.int k i)) (ak:i=(lo:Int)) (κ:lo≤len):
  cF P E ⟨d, .slice t x (some y) none none,ty,pos,aW,g⟩ w (.slice (ez A cap lo s) (len - lo) (cap - lo)) w:=λ n a ha=>by
 subst ak;have kX:P.underlying t=some (.slice (P.elem t)):=by simp [Program.elem,aC]
 have nP:P.elem t=e:=by simp [Program.elem,aC]
 have aq:=run_slice_l (P:=P) (w:=w) t A len cap kX k (lo:Int) (by omega) (by omega);have bb:=aOP (P:=P) (w:=w) t (.slice A len cap) (some (.int k (lo:Int))) none none kX;rw [nP,hs w] at aq;simp only [execOp,ha.ev hx,ha.ev aH,Option.map,bb,aq,aML,aMG,aMP,sliced,aNE,ez]
theorem ata {k:IntKind} {i j:Int} (aB:0≤i) (κ:0<j) (hw:k.wrap (i / j)=i / j):Op.intDiv .quo k i j=pure (.int k (i / j)):=by
 unfold Op.intDiv;have e:i.tdiv j=i / j:=aQt aB;rw [aMA (by omega)];simp only [e,hw]
theorem atb {k:IntKind} {i j:Int} (aB:0≤i) (κ:0<j):Op.intDiv .rem k i j=pure (.int k (i % j)):=by
 unfold Op.intDiv;have e:i.tmod j=i % j:=Int.tmod_eq_emod_of_nonneg aB;rw [aMA (by omega)];simp only [e]
section
variable {k:IntKind} {i j:Int} {u:TypeId}
theorem ak6 (hx:ev E x=some (.int k i)) (aH:ev E y=some (.int k j)) (aB:0≤i) (κ:0<j) (hw:k.wrap (i / j)=i / j):cF P E ⟨d, .binOp .quo t x y u,ty,pos,aW,g⟩ w (.int k (i / j)) w:=ua hx aH (binOp_quo t k i j) (by rw [ata aB κ hw];rfl)
theorem ak8 (hx:ev E x=some (.int k i)) (aH:ev E y=some (.int k j)) (aB:0≤i) (κ:0<j):cF P E ⟨d, .binOp .rem t x y u,ty,pos,aW,g⟩ w (.int k (i % j)) w:=ua hx aH (binOp_rem t k i j) (by rw [atb aB κ];rfl)
theorem axL {i j:Int} (aB:0≤i) (κ:0<j) (τ:i≤9223372036854775807):IntKind.i64.wrap (i / j)=i / j:=by
 have aR:0≤i / j:=Int.ediv_nonneg aB (by omega);have a6:i / j≤i:=Int.ediv_le_self _ aB;exact la ⟨by omega,by omega⟩
end
end
end
open Tryz

structure ai where
 x:Int
 y:Int
 deriving DecidableEq,Inhabited
namespace ai
def cells (a:ai):List Value:= [.int .i64 (a.x), .int .i64 (a.y)]
def ok (a:ai):Prop:=(Lit.int .i64 a.x).wf=true∧(Lit.int .i64 a.y).wf=true
def raw (j:Nat) (u:Value):Prop:=match j with
 | 0 | 1=>∃ n:Int,u= .int .i64 n
 | _=>True
theorem sa (a:ai):∀ (j:Nat) u,a.cells[j]? =some u→raw j u:=by
 intro j u hu
 match j,hu with
 | 0,hu | 1,hu=>exact ⟨_,(aMJ hu).symm⟩
 | j+2,hu=>exact trivial
theorem r_ (a:ai):∀ u∈a.cells,u.oneCell'=true:=by
 intro u hu;unfold cells at hu;simp only [aMN,aN7,aOM] at hu;rcases hu with rfl | rfl<;>rfl
def rep:Φ ai:=Φ.flat 2 cells ok raw (λ _=>rfl) r_ sa
theorem plain:rep.Plain:=Φ.q9
def zero:Value:= .agg #[.int .i64 0, .int .i64 0]
theorem k3:∀ (j:Nat) u,zero.cells[j]? =some u→rep.raw j u:=by
 intro j u hu;have hu:(#[(.int .i64 0:Value),(.int .i64 0:Value)]:Array Value)[j]? =some u:=hu
 match j,hu with
 | 0,hu | 1,hu=>exact ⟨_,(aMJ hu).symm⟩
 | j+2,hu=>cases hu
theorem info:(prog.info? 98).map (λ i=>(i.zero,i.size,i.bytes))=some (some zero,2,16):=by kernel_rfl
theorem at_ {by_:Nat} {w:World} {A:Option Addr} {c:Nat} {l:List ai} (h:rep.aQ by_ w A c l) (aB:0<l.length):
  ∃ b o,A=some ⟨b,o,none⟩∧∀ (i:Nat) (a:ai),l[i]? =some a→w.cell? ⟨b,o+i * 2,none⟩=some (.int .i64 (a.x))∧w.cell? ⟨b,o+i * 2+1,none⟩=some (.int .i64 (a.y)):=by
 obtain ⟨b,o,e,hc⟩:=h.at_ aB;refine ⟨b,o,e,λ i a ha=> ?_⟩;obtain ⟨es,⟨rfl,_⟩,aw⟩:=hc i a ha;exact ⟨aw 0 _ Z,aw 1 _ Z⟩
theorem QS {by_:Nat} {w:World} {A:Option Addr} {c:Nat} {l:List ai} (h:rep.aQ by_ w A c l):∀ a∈l,a.ok:=Φ.aQ.H6 (R:=rep) (Q:=ok) (fun {w cs a} (h:rep.has w cs a)=>(show cs=a.cells∧a.ok from h).2) h
theorem eh {w:World} {g:Nat} {t:TypeId} {ao:Nat×Nat} {a:ai} (h:aO w g a.cells t ao):w.cell? ⟨g,0,none⟩=some (.int .i64 (a.x))∧w.cell? ⟨g,1,none⟩=some (.int .i64 (a.y)):=
 ⟨h.cell 0,h.cell 1⟩
def sh:hq:=(.cons (.int .i64) (.cons (.int .i64) .nil))
end ai
theorem vP {w:World} {cs:List Value} {a:ai} (h:ai.rep.has w cs a):cs=a.cells:=aOY (show cs=a.cells∧a.ok from h)
open Tryz

structure a8 where
 id:Int
 owner:Int
 kind:Int
 spot:ai
 df:Int
 load:Int
 deriving DecidableEq,Inhabited
namespace a8
def cells (a:a8):List Value:= [.int .i64 (a.id), .int .i64 (a.owner), .int .i64 (a.kind), .int .i64 (a.spot.x), .int .i64 (a.spot.y), .int .i64 (a.df), .int .i64 (a.load)]
def ok (a:a8):Prop:=(Lit.int .i64 a.id).wf=true∧(Lit.int .i64 a.owner).wf=true∧(Lit.int .i64 a.kind).wf=true∧(Lit.int .i64 a.spot.x).wf=true∧(Lit.int .i64 a.spot.y).wf=true∧(Lit.int .i64 a.df).wf=true∧(Lit.int .i64 a.load).wf=true
def raw (j:Nat) (u:Value):Prop:=match j with
 | 0 | 1 | 2 | 3 | 4 | 5 | 6=>∃ n:Int,u= .int .i64 n
 | _=>True
theorem sa (a:a8):∀ (j:Nat) u,a.cells[j]? =some u→raw j u:=by
 intro j u hu
 match j,hu with
 | 0,hu | 1,hu | 2,hu | 3,hu | 4,hu | 5,hu | 6,hu=>exact ⟨_,(aMJ hu).symm⟩
 | j+7,hu=>exact trivial
theorem r_ (a:a8):∀ u∈a.cells,u.oneCell'=true:=by
 intro u hu;unfold cells at hu;simp only [aMN,aN7,aOM] at hu;rcases hu with rfl | rfl | rfl | rfl | rfl | rfl | rfl<;>rfl
def rep:Φ a8:=Φ.flat 7 cells ok raw (λ _=>rfl) r_ sa
theorem plain:rep.Plain:=Φ.q9
def zero:Value:= .agg #[.int .i64 0, .int .i64 0, .int .i64 0, .int .i64 0, .int .i64 0, .int .i64 0, .int .i64 0]
theorem k3:∀ (j:Nat) u,zero.cells[j]? =some u→rep.raw j u:=by
 intro j u hu;have hu:(#[(.int .i64 0:Value),(.int .i64 0:Value),(.int .i64 0:Value),(.int .i64 0:Value),(.int .i64 0:Value),(.int .i64 0:Value),(.int .i64 0:Value)]:Array Value)[j]? =some u:=hu
 match j,hu with
 | 0,hu | 1,hu | 2,hu | 3,hu | 4,hu | 5,hu | 6,hu=>exact ⟨_,(aMJ hu).symm⟩
 | j+7,hu=>cases hu
theorem info:(prog.info? 108).map (λ i=>(i.zero,i.size,i.bytes))=some (some zero,7,56):=by kernel_rfl
theorem at_ {by_:Nat} {w:World} {A:Option Addr} {c:Nat} {l:List a8} (h:rep.aQ by_ w A c l) (aB:0<l.length):
  ∃ b o,A=some ⟨b,o,none⟩∧∀ (i:Nat) (a:a8),l[i]? =some a→w.cell? ⟨b,o+i * 7,none⟩=some (.int .i64 (a.id))∧w.cell? ⟨b,o+i * 7+1,none⟩=some (.int .i64 (a.owner))∧w.cell? ⟨b,o+i * 7+2,none⟩=some (.int .i64 (a.kind))∧w.cell? ⟨b,o+i * 7+3,none⟩=some (.int .i64 (a.spot.x))∧w.cell? ⟨b,o+i * 7+4,none⟩=some (.int .i64 (a.spot.y))∧w.cell? ⟨b,o+i * 7+5,none⟩=some (.int .i64 (a.df))∧w.cell? ⟨b,o+i * 7+6,none⟩=some (.int .i64 (a.load)):=by
 obtain ⟨b,o,e,hc⟩:=h.at_ aB;refine ⟨b,o,e,λ i a ha=> ?_⟩;obtain ⟨es,⟨rfl,_⟩,aw⟩:=hc i a ha;exact ⟨aw 0 _ Z,aw 1 _ Z,aw 2 _ Z,aw 3 _ Z,aw 4 _ Z,aw 5 _ Z,aw 6 _ Z⟩
theorem eh {w:World} {g:Nat} {t:TypeId} {ao:Nat×Nat} {a:a8} (h:aO w g a.cells t ao):w.cell? ⟨g,0,none⟩=some (.int .i64 (a.id))∧w.cell? ⟨g,1,none⟩=some (.int .i64 (a.owner))∧w.cell? ⟨g,2,none⟩=some (.int .i64 (a.kind))∧w.cell? ⟨g,3,none⟩=some (.int .i64 (a.spot.x))∧w.cell? ⟨g,4,none⟩=some (.int .i64 (a.spot.y))∧w.cell? ⟨g,5,none⟩=some (.int .i64 (a.df))∧w.cell? ⟨g,6,none⟩=some (.int .i64 (a.load)):=
 ⟨h.cell 0,h.cell 1,h.cell 2,h.cell 3,h.cell 4,h.cell 5,h.cell 6⟩
def sh:hq:=(.cons (.int .i64) (.cons (.int .i64) (.cons (.int .i64) (.cons (.cons (.int .i64) (.cons (.int .i64) .nil)) (.cons (.int .i64) (.cons (.int .i64) .nil))))))
end a8
theorem jo {w:World} {cs:List Value} {a:a8} (h:a8.rep.has w cs a):cs=a.cells:=aOY (show cs=a.cells∧a.ok from h)
open Tryz

structure au where
 wide:Int
 high:Int
 places:List Int
 deriving DecidableEq,Inhabited
structure ae where
 field:au
 bj:List ai
 bh:List Int
 bW:List Int
 ah:List a8
 next:Int
 now:Int
 deriving DecidableEq,Inhabited
namespace au
def OL (p:Int):Bool:=cJ p 0 3
def a7 (f:au):Int :=
 if cJ f.wide 1 40 && cJ f.high 1 40 then (if decide ((f.places.length:Int)=f.wide * f.high) && f.places.all OL then 0 else 4) else 1
def dU (f:au) (c:ai):Bool:=cJ c.x 0 (f.wide - 1) && cJ c.y 0 (f.high - 1)
def place (f:au) (c:ai):Int:=f.places.getD (c.y * f.wide+c.x).toNat 0
def ground (f:au) (c:ai):Bool:=f.dU c && f.place c != 1
theorem amw (f:au):f.a7=0∨f.a7=1∨f.a7=4:=by unfold a7;split<;>(try split)<;>simp
theorem g_ {f:au} (h:f.a7=0):1≤f.wide∧f.wide≤40∧1≤f.high∧f.high≤40∧(f.places.length:Int)=f.wide * f.high∧∀ p∈f.places,0≤p∧p≤3:=by
 unfold a7 at h;split at h
 ·rename_i κ
  rw [aMF] at κ;have a:=jt κ.1;have b:=jt κ.2;split at h
  ·rename_i τ
   rw [aMF,aNd] at τ;exact ⟨a.1,a.2,b.1,b.2,by simpa using τ.1,λ p hp=>jt (τ.2 p hp)⟩
  ·cases h
 ·cases h
theorem Ys {f:au} (h:(cJ f.wide 1 40 && cJ f.high 1 40)=false):f.a7=1:=by unfold a7;rw [h];rfl
theorem idx {f:au} (h:f.a7=0) {c:ai} (hc:f.dU c=true):0≤c.y * f.wide+c.x∧c.y * f.wide+c.x<(f.places.length:Int)∧0≤c.x∧c.x<f.wide∧0≤c.y∧c.y<f.high:=by
 obtain ⟨g1,g2,g3,g4,g5,_⟩:=g_ h;unfold dU at hc;rw [aMF] at hc;have a:=jt hc.1;have b:=jt hc.2;have aR:0≤c.y * f.wide:=aO7 b.1 (by omega);have a6:c.y * f.wide≤(f.high - 1) * f.wide:=Int.mul_le_mul_of_nonneg_right b.2 (by omega);have cM:(f.high - 1) * f.wide=f.wide * f.high - f.wide:=by rw [Int.sub_mul,Int.one_mul,Int.mul_comm]
 rw [g5];omega
theorem km {f:au} (h:f.a7=0):f.places.length≤1600:=by
 obtain ⟨g1,g2,g3,g4,g5,_⟩:=g_ h;have a6:f.wide * f.high≤40 * 40:=aOy g2 g4 (by omega) (by omega);omega
end au
namespace au
def cG (f:au) (c:ai):Int:=if f.a7≠0 then f.a7 else if f.dU c then 0 else 7
def l6 (f:au) (c:ai):Int:=if f.a7≠0 then 0 else if f.dU c then f.place c else 0
theorem Mb {f:au} {c:ai} (h:f.a7≠0):f.cG c=f.a7∧f.l6 c=0:=by unfold cG l6;rw [aMI h,aMI h];exact ⟨Z,Z⟩
theorem Ia {f:au} {c:ai} (h:f.a7=0) (τ:f.dU c=false):f.cG c=7∧f.l6 c=0:=by unfold cG l6;simp [h,τ]
theorem k6 {f:au} {c:ai} (h:f.a7=0) (τ:f.dU c=true):f.cG c=0∧f.l6 c=f.place c:=by unfold cG l6;simp [h,τ]
theorem atf {f:au} {c:ai} (h:c.x<0∨f.wide≤c.x∨c.y<0∨f.high≤c.y):f.dU c=false:=by
 unfold dU;rcases h with h | h | h | h
 ·rw [oB (.inl h)];rfl
 ·rw [oB (n:=c.x) (.inr (by omega))];rfl
 ·rw [oB (n:=c.y) (.inl h),aPI]
 ·rw [oB (n:=c.y) (.inr (by omega)),aPI]
theorem ate {f:au} {c:ai} (κ:0≤c.x) (τ:c.x<f.wide) (aq:0≤c.y) (bb:c.y<f.high):f.dU c=true:=by
 unfold dU;rw [ma κ (by omega),ma aq (by omega)];rfl
end au
def kindOf (k:Int):Option (Int×Int×Int×Int):=if k=1 then some (10,1,1,5) else if k=2 then some (20,2,4,12) else none
namespace ae
def wO (W:ae) (i:Nat):Bool:=W.field.ground (W.bj.getD i default) && !(W.bj.take i).contains (W.bj.getD i default) && cJ (W.bh.getD i 0) 0 1000000
def mZ (W:ae):Bool:=decide (W.bh.length=W.bj.length) && (List.range W.bj.length).all W.wO
def wP (W:ae) (i:Nat):Bool:=cJ (W.bW.getD i 0) 0 1000000 && (decide (W.bW.getD i 0≤0) || W.field.places.getD i 0 == 3)
def nM (W:ae):Bool:=decide (W.bW.length=W.field.places.length) && (List.range W.bW.length).all W.wP
def i' (W:ae) (i:Nat):Int:=if i=0 then 0 else (W.ah.getD (i - 1) default).id
def hg (k:Int):Int:=if k=1 then 10 else if k=2 then 20 else 0
def Ah (k:Int):Int:=if k=1 then 5 else 0
def Kd (W:ae) (wm nN:Int) (t:a8):Bool :=
 cJ t.kind 1 2 && cJ t.id wm nN && cJ t.owner 0 ((W.bj.length:Int) - 1) && W.field.ground t.spot && cJ t.df 1 (hg t.kind) && cJ t.load 0 (Ah t.kind)
def iz (W:ae) (k:Nat):List ai:=(W.ah.take k).map (·.spot)
def wR (W:ae) (i:Nat):Bool:=W.Kd (wrap64 (W.i' i+1)) (wrap64 (W.next - 1)) (W.ah.getD i default) && !(W.iz i).contains (W.ah.getD i default).spot
def jQ (W:ae):Bool:=(List.range W.ah.length).all W.wR && (cJ W.next 1 1000000 && cJ W.now 0 1000000)
def a7 (W:ae):Int :=
 if W.field.a7≠0 then W.field.a7 else if 8<W.bj.length∨100<W.ah.length then 2 else if W.mZ && W.nM && W.jQ then 0 else 4
structure cU where
 P:Option Addr
 B:Option Addr
 S:Option Addr
 M:Option Addr
 T:Option Addr
 p:Nat
 b:Nat
 s:Nat
 m:Nat
 t:Nat
def FE (A:Option Addr) (c:Nat) (f:au):List Value:= [.int .i64 f.wide, .int .i64 f.high, .slice A f.places.length c]
def cells (h:cU) (W:ae):List Value :=
 [.int .i64 W.field.wide, .int .i64 W.field.high, .slice h.P W.field.places.length h.p, .slice h.B W.bj.length h.b, .slice h.S W.bh.length h.s, .slice h.M W.bW.length h.m, .slice h.T W.ah.length h.t, .int .i64 W.next, .int .i64 W.now]
theorem amn (h:cU) (W:ae):(cells h W).toArray=#[.int .i64 W.field.wide, .int .i64 W.field.high, .slice h.P W.field.places.length h.p, .slice h.B W.bj.length h.b, .slice h.S W.bh.length h.s, .slice h.M W.bW.length h.m, .slice h.T W.ah.length h.t, .int .i64 W.next, .int .i64 W.now]:=rfl
structure Has (w:World) (h:cU) (W:ae):Prop where
 P:bz.aQ 8 w h.P h.p W.field.places
 B:ai.rep.aQ 16 w h.B h.b W.bj
 S:bz.aQ 8 w h.S h.s W.bh
 M:bz.aQ 8 w h.M h.m W.bW
 T:a8.rep.aQ 56 w h.T h.t W.ah
 nums:dz W.field.wide∧dz W.field.high∧dz W.next∧dz W.now
theorem Has.keep {w w':World} {h:cU} {W:ae} (hw:Has w h W) (af:Below w.heap.size w w'):Has w' h W :=
 ⟨hw.P.keep af,hw.B.keep af,hw.S.keep af,hw.M.keep af,hw.T.keep af,hw.nums⟩
def apH:hq:= .cons (.int .i64) (.cons (.int .i64) (.cons (.slice (.int .i64) 8) .nil))
def sh:hq:= .cons apH (.cons (.slice ai.sh 16) (.cons (.slice (.int .i64) 8) (.cons (.slice (.int .i64) 8) (.cons (.slice a8.sh 56) (.cons (.int .i64) (.cons (.int .i64) .nil))))))
theorem ZX {w:World} {g:Nat} {t:TypeId} {ao:Nat×Nat} {A:Option Addr} {c:Nat} {f:au} (h:aO w g (FE A c f) t ao):
  w.cell? ⟨g,0,none⟩=some (.int .i64 f.wide)∧w.cell? ⟨g,1,none⟩=some (.int .i64 f.high)∧w.cell? ⟨g,2,none⟩=some (.slice A f.places.length c):=⟨h.cell 0,h.cell 1,h.cell 2⟩
theorem rM {w:World} {g:Nat} {t:TypeId} {ao:Nat×Nat} {a:cU} {W:ae} (h:aO w g (cells a W) t ao):
  w.cell? ⟨g,0,none⟩=some (.int .i64 W.field.wide)∧w.cell? ⟨g,1,none⟩=some (.int .i64 W.field.high)∧w.cell? ⟨g,2,none⟩=some (.slice a.P W.field.places.length a.p)∧
  w.cell? ⟨g,3,none⟩=some (.slice a.B W.bj.length a.b)∧w.cell? ⟨g,4,none⟩=some (.slice a.S W.bh.length a.s)∧w.cell? ⟨g,5,none⟩=some (.slice a.M W.bW.length a.m)∧w.cell? ⟨g,6,none⟩=some (.slice a.T W.ah.length a.t)∧
  w.cell? ⟨g,7,none⟩=some (.int .i64 W.next)∧w.cell? ⟨g,8,none⟩=some (.int .i64 W.now):=⟨h.cell 0,h.cell 1,h.cell 2,h.cell 3,h.cell 4,h.cell 5,h.cell 6,h.cell 7,h.cell 8⟩
end ae
open Tryz

theorem au.jn {f:au} {c:ai} (h:f.ground c=true):f.dU c=true:=by
 unfold au.ground at h;rw [aMF] at h;exact h.1
namespace ae
theorem Yq {W:ae} (h:W.field.a7≠0):W.a7=W.field.a7:=by unfold a7;rw [aMI h]
theorem Yr {W:ae} (h:W.field.a7=0) (τ:8<W.bj.length∨100<W.ah.length):W.a7=2:=by unfold a7;rw [aMA (by simpa using h),aMI τ]
theorem Q_ {W:ae} (h:W.field.a7=0) (τ:¬ (8<W.bj.length∨100<W.ah.length)):W.a7=if W.mZ && W.nM && W.jQ then 0 else 4:=by unfold a7;rw [aMA (by simpa using h),aMA τ]
end ae
theorem ae.aw9 {W:ae} (h:¬ W.bh.length=W.bj.length):W.mZ=false:=by unfold ae.mZ;rw [aMY h];rfl
theorem ae.Us {W:ae} {k:Nat} (aj:k<W.bj.length) (h:W.wO k=false):W.mZ=false:=by
 unfold ae.mZ;rw [aPw];right;rw [aPg];exact ⟨k,aM8.2 aj,by rw [h];simp⟩
theorem ae.ae2 {W:ae} (h:W.bh.length=W.bj.length) (ha:∀ k,k<W.bj.length→W.wO k=true):W.mZ=true:=by
 unfold ae.mZ;rw [aMV h,aPj,aNd];exact λ k aj=>ha k (aM8.1 aj)
theorem ae.avC {W:ae} (h:¬ W.bW.length=W.field.places.length):W.nM=false:=by unfold ae.nM;rw [aMY h];rfl
theorem ae.aex {W:ae} {k:Nat} (aj:k<W.bW.length) (h:W.wP k=false):W.nM=false:=by
 unfold ae.nM;rw [aPw];right;rw [aPg];exact ⟨k,aM8.2 aj,by rw [h];simp⟩
theorem ae.aey {W:ae} (h:W.bW.length=W.field.places.length) (ha:∀ k,k<W.bW.length→W.wP k=true):W.nM=true:=by
 unfold ae.nM;rw [aMV h,aPj,aNd];exact λ k aj=>ha k (aM8.1 aj)
theorem ae.sL {W:ae} {k:Nat} (aj:k<W.ah.length) (h:W.wR k=false):W.jQ=false:=by
 unfold ae.jQ;rw [aPw];left;rw [aPg];exact ⟨k,aM8.2 aj,by rw [h];simp⟩
def gH (id:Int) (t:a8):Bool:=t.id == id
def pg (p:ai) (t:a8):Bool:=decide (t.spot=p)
def aAO (W:ae) (p:a8→Bool):Int:=if W.a7=0 then max (hb p W.ah) 0 else 0
def ag9 (W:ae) (p:a8→Bool):Bool:=decide (W.a7=0) && decide (0≤hb p W.ah)
def av1 (c:ai) (r:Int) (t:a8):Bool:=cJ c.x (t.spot.x - r) (t.spot.x+r) && cJ c.y (t.spot.y - r) (t.spot.y+r)
def aJg (W:ae) (c:ai) (r:Int):List Int:=(W.ah.filter (av1 c r)).map (·.id)
def aJf (W:ae) (r:Int):Int:=if W.a7≠0 then W.a7 else if cJ r 0 12 then 0 else 1
theorem Si {W:ae} (h:W.a7=0):W.field.a7=0∧W.bj.length≤8∧W.ah.length≤100∧W.mZ=true∧W.nM=true∧W.jQ=true:=by
 by_cases κ:W.field.a7=0
 ·by_cases τ:8<W.bj.length∨100<W.ah.length
  ·rw [ae.Yr κ τ] at h;cases h
  ·rw [ae.Q_ κ τ] at h;split at h
   ·rename_i aq
    rw [aMF,aMF] at aq;exact ⟨κ,by omega,by omega,aq.1.1,aq.1.2,aq.2⟩
   ·cases h
 ·rw [ae.Yq κ] at h;exact absurd h κ
theorem Np {W:ae} (h:W.a7=0) {k:Nat} {t:a8} (aC:W.ah[k]? =some t):W.field.ground t.spot=true∧cJ t.kind 1 2=true∧cJ t.owner 0 ((W.bj.length:Int) - 1)=true∧cJ t.df 1 (ae.hg t.kind)=true∧cJ t.load 0 (ae.Ah t.kind)=true∧(W.iz k).contains t.spot=false∧cJ t.id (wrap64 (W.i' k+1)) (wrap64 (W.next - 1))=true:=by
 obtain ⟨aB,_,_,_,_,cy⟩:=Si h;unfold ae.jQ at cy;rw [aMF,aNd] at cy;have aj:=(aMx.1 aC).1;have ec:=cy.1 k (aM8.2 aj);unfold ae.wR ae.Kd at ec;rw [aMv,aC] at ec;simp only [aNx,aMF,aNF] at ec;obtain ⟨⟨⟨⟨⟨⟨cV,a2⟩,a3⟩,a4⟩,a5⟩,akz⟩,akA⟩:=ec;exact ⟨a4,cV,a3,a5,akz,akA,a2⟩
open Tryz

theorem aeD {W:ae} (h:W.a7=0):1≤W.next∧W.next≤1000000∧0≤W.now∧W.now≤1000000:=by
 obtain ⟨_,_,_,_,_,cy⟩:=Si h;unfold ae.jQ at cy;rw [aMF,aMF] at cy;have a:=jt cy.2.1;have b:=jt cy.2.2;exact ⟨a.1,a.2,b.1,b.2⟩
theorem wrap_small {x:Int} (κ: -1000≤x) (τ:x≤2000000):wrap64 x=x:=by
 have h:=IntKind.wrap_i64 x;unfold wrap64;first | (rw [h];omega) | omega
theorem asU {W:ae} (h:W.a7=0):∀ (k:Nat) (t:a8),W.ah[k]? =some t→W.i' k<t.id∧t.id<W.next∧0≤W.i' k:=by
 obtain ⟨BU,rB,_,_⟩:=aeD h;intro k;induction k with
 | zero =>
  intro t aC;have ec:=jt (Np h aC).2.2.2.2.2.2;have e:W.i' 0=0:=rfl;rw [e] at ec ⊢;rw [wrap_small (by omega) (by omega),wrap_small (by omega) (by omega)] at ec;omega
 | succ k bu =>
  intro t aC;have bB:=(aMx.1 aC).1;obtain ⟨u,hu⟩:=jm (l:=W.ah) (i:=k) (by omega);have ft:=bu u hu;have ec:=jt (Np h aC).2.2.2.2.2.2;have e:W.i' (k+1)=u.id:=by
   unfold ae.i';rw [aMA (by omega),aMv,aPT,hu];rfl
  rw [e] at ec ⊢;rw [wrap_small (by omega) (by omega),wrap_small (by omega) (by omega)] at ec;omega
open Tryz
structure L3 (f:au) (gU:Nat) (t:a8):Prop where
 kind:t.kind=1∨t.kind=2
 owner:0≤t.owner∧t.owner<(gU:Int)
 ground:f.ground t.spot=true
 df:1≤t.df∧t.df≤ae.hg t.kind
 load:0≤t.load∧t.load≤ae.Ah t.kind
structure Good (W:ae):Prop where
 field:W.field.a7=0
 gU:W.bj.length≤8
 dH:W.ah.length≤100
 sl:W.bh.length=W.bj.length
 bj:∀ (i:Nat) c,W.bj[i]? =some c→W.field.ground c=true∧(W.bj.take i).contains c=false
 bh:∀ (i:Nat) s,W.bh[i]? =some s→0≤s∧s≤1000000
 D3:W.bW.length=W.field.places.length
 bW:∀ (i:Nat) m,W.bW[i]? =some m→0≤m∧m≤1000000∧(m≤0∨W.field.places.getD i 0=3)
 ah:∀ (i:Nat) t,W.ah[i]? =some t→L3 W.field W.bj.length t
 ids:∀ (i:Nat) t,W.ah[i]? =some t→W.i' i<t.id∧t.id<W.next∧0≤W.i' i
 iz:∀ (i:Nat) t,W.ah[i]? =some t→(W.iz i).contains t.spot=false
 next:1≤W.next∧W.next≤1000000
 now:0≤W.now∧W.now≤1000000
theorem Good.tX {W:ae} (h:W.a7=0):Good W:=by
 obtain ⟨aB,ft,yd,hp,hm,aC⟩:=Si h;obtain ⟨BU,rB,pj,qv⟩:=aeD h;unfold ae.mZ at hp;unfold ae.nM at hm;rw [aMF,aNd] at hp hm;have yo:W.bh.length=W.bj.length:=by simpa using hp.1
 have NO:W.bW.length=W.field.places.length:=by simpa using hm.1
 refine ⟨aB,ft,yd,yo,λ i c hc=> ?_,λ i s hs=> ?_,NO,λ i m ak=> ?_,λ i t ak=> ?_,λ i t ak=>asU h i t ak,λ i t ak=>(Np h ak).2.2.2.2.2.1,⟨BU,rB⟩,⟨pj,qv⟩⟩
 ·have bB:=(aMx.1 hc).1;have:=hp.2 i (aM8.2 bB);unfold ae.wO at this;rw [aMv,hc] at this;simp only [aNx,aMF,aNF] at this;exact ⟨this.1.1,this.1.2⟩
 ·have bB:=(aMx.1 hs).1;have:=hp.2 i (aM8.2 (by omega));unfold ae.wO at this;rw [aMF] at this;have τ:=jt this.2;rw [aMv,hs] at τ;exact τ
 ·have bB:=(aMx.1 ak).1;have:=hm.2 i (aM8.2 bB);unfold ae.wP at this;rw [aMv,ak,aMF,aNa] at this;have τ:=jt this.1;refine ⟨τ.1,τ.2, ?_⟩;rcases this.2 with aq | aq
  ·exact .inl (by simpa using aq)
  ·exact .inr (by simpa using aq)
 ·obtain ⟨cV,a2,a3,a4,a5,_,_⟩:=Np h ak;have e_:=jt a2;have gD:=jt a3;have CR:=jt a4;have Mc:=jt a5;exact ⟨by omega,⟨gD.1,by omega⟩,cV,CR,Mc⟩
theorem Good.a7 {W:ae} (h:Good W):W.a7=0:=by
 have hp:W.mZ=true:=ae.ae2 h.sl λ k aj=>by
  obtain ⟨c,hc⟩:=jm aj;obtain ⟨s,hs⟩:=jm (l:=W.bh) (i:=k) (by rw [h.sl];exact aj);unfold ae.wO;rw [aMv,hc,aMv,hs];have κ:=h.bj k c hc;have τ:=h.bh k s hs;simp only [aNx];rw [κ.1,κ.2,ma τ.1 τ.2];rfl
 have hm:W.nM=true:=ae.aey h.D3 λ k aj=>by
  obtain ⟨m,hm⟩:=jm aj;have κ:=h.bW k m hm;unfold ae.wP;rw [aMv,hm];simp only [aNx];rw [ma κ.1 κ.2.1,aPj,aNa];rcases κ.2.2 with aq | aq
  ·exact .inl (by simpa using aq)
  ·exact .inr (by simpa using aq)
 have aC:W.jQ=true:=by
  unfold ae.jQ;rw [ma h.next.1 h.next.2,ma h.now.1 h.now.2,Bool.and_true,Bool.and_true,aNd];intro k aj;obtain ⟨t,aC⟩:=jm (aM8.1 aj);have κ:=h.ah k t aC;have τ:=h.ids k t aC;have aq:=h.iz k t aC;have hn:=h.next;unfold ae.wR ae.Kd;rw [aMv,aC];simp only [aNx];have dt:cJ t.kind 1 2=true:=by
   rcases κ.kind with h | h
   ·exact ma (by omega) (by omega)
   ·exact ma (by omega) (by omega)
  have ey:cJ t.id (W.i' k+1) (W.next - 1)=true:=ma (by omega) (by omega);have ju:cJ t.owner 0 ((W.bj.length:Int) - 1)=true:=ma κ.owner.1 (by have:=κ.owner.2;omega);rw [wrap_small (by omega) (by omega),wrap_small (by omega) (by omega),dt,ey,ju,aq,κ.ground,ma κ.df.1 κ.df.2,ma κ.load.1 κ.load.2];rfl
 rw [ae.Q_ h.field (by have:=h.gU;have:=h.dH;omega),hp,hm,aC];rfl
open Tryz
structure bt (w:World) (az:Nat) (a:ae.cU) (W:ae):Prop where
 P:bz.aL 3 8 w az (Φ.ab a.P) a.P a.p W.field.places
 B:ai.rep.aL 98 16 w az (Φ.ab a.B) a.B a.b W.bj
 S:bz.aL 3 8 w az (Φ.ab a.S) a.S a.s W.bh
 M:bz.aL 3 8 w az (Φ.ab a.M) a.M a.m W.bW
 T:a8.rep.aL 108 56 w az (Φ.ab a.T) a.T a.t W.ah
 apart:(Φ.ab a.P++Φ.ab a.B++Φ.ab a.S++Φ.ab a.M++Φ.ab a.T).Nodup
 nums:dz W.field.wide∧dz W.field.high∧dz W.next∧dz W.now
theorem bt.has {w:World} {B:Nat} {a:ae.cU} {W:ae} (h:bt w B a W):ae.Has w a W:=⟨h.P.has,h.B.has,h.S.has,h.M.has,h.T.has,h.nums⟩
theorem bt.later {w w':World} {B:Nat} {a:ae.cU} {W:ae} (h:bt w B a W) (af:Below w.heap.size w w'):bt w' B a W:=⟨h.P.later af,h.B.later af,h.S.later af,h.M.later af,h.T.later af,h.apart,h.nums⟩
def bt.cA (a:ae.cU):List Nat:=Φ.ab a.P++Φ.ab a.B++Φ.ab a.S++Φ.ab a.M++Φ.ab a.T
theorem bt.lt {w:World} {B:Nat} {a:ae.cU} {W:ae} (h:bt w B a W):∀ g∈bt.cA a,B≤g∧g<w.heap.size:=by
 intro g aT;unfold bt.cA at aT;simp only [aMQ] at aT;rcases aT with (((aT | aT) | aT) | aT) | aT
 ·exact h.P.lt g aT
 ·exact h.B.lt g aT
 ·exact h.S.lt g aT
 ·exact h.M.lt g aT
 ·exact h.T.lt g aT
theorem bt.other {w:World} {B:Nat} {a:ae.cU} {W:ae} (h:bt w B a W) {p:Addr} (hp:p.block∉bt.cA a) (u:Value):bt (w.setCell p u) B a W:=by
 unfold bt.cA at hp;simp only [aMQ,not_or] at hp;exact ⟨h.P.other hp.1.1.1.1 u,h.B.other hp.1.1.1.2 u,h.S.other hp.1.1.2 u,h.M.other hp.1.2 u,h.T.other hp.2 u,h.apart,h.nums⟩
theorem GA {w:World} {B:Nat} {A:Option Addr} {α:Type} {R:Φ α} {E by_ c:Nat} {l:List α} (h:R.aL E by_ w B (Φ.ab A) A c l) {g:Nat} (aT:g<B):g∉Φ.ab A:=λ hm=>by have:=h.lt g hm;omega
theorem Ce {w:World} {g:Nat} {cX fj fQ ih nd j' oR jz ng:Value} {t:TypeId} {ao:Nat×Nat} (h:aO w g [cX,fj,fQ,ih,nd,j',oR,jz,ng] t ao):w.cell? ⟨g,0,none⟩=some cX∧w.cell? ⟨g,1,none⟩=some fj∧w.cell? ⟨g,2,none⟩=some fQ∧w.cell? ⟨g,3,none⟩=some ih∧w.cell? ⟨g,4,none⟩=some nd∧w.cell? ⟨g,5,none⟩=some j'∧w.cell? ⟨g,6,none⟩=some oR∧w.cell? ⟨g,7,none⟩=some jz∧w.cell? ⟨g,8,none⟩=some ng :=
 ⟨h.cell 0,h.cell 1,h.cell 2,h.cell 3,h.cell 4,h.cell 5,h.cell 6,h.cell 7,h.cell 8⟩
theorem L9 {dO iJ:List Nat} {n m:Nat} (κ:dO.Nodup∧∀ g∈dO,g<n) (τ:iJ.Nodup) (aq:∀ g∈iJ,n≤g∧g<m) (aGs:n≤m):(dO++iJ).Nodup∧∀ g∈dO++iJ,g<m:=by
 refine ⟨aNk.2 ⟨κ.1,τ,λ a ha b af e=> ?_⟩,λ g aT=> ?_⟩
 ·have:=κ.2 a ha;have:=(aq b af).1;omega
 ·rcases aMQ.1 aT with aT | aT
  ·have:=κ.2 g aT;omega
  ·exact (aq g aT).2
theorem q2 (A:Option Addr):(Φ.ab A).Nodup:=by cases A<;>simp [Φ.ab]
theorem av4 {w:World} {g:Nat} {z0 kt z2 z3 z4 z5 aBl aBm aBn:Value} {t:TypeId} {ao:Nat×Nat} (h:aO w g [z0,kt,z2,z3,z4,z5,aBl,aBm,aBn] t ao) (cX fj fQ ih nd j' oR jz ng:Value):aO (((((((((w.setCell ⟨g,0,none⟩ cX).setCell ⟨g,1,none⟩ fj).setCell ⟨g,2,none⟩ fQ).setCell ⟨g,3,none⟩ ih).setCell ⟨g,4,none⟩ nd).setCell ⟨g,5,none⟩ j').setCell ⟨g,6,none⟩ oR).setCell ⟨g,7,none⟩ jz).setCell ⟨g,8,none⟩ ng) g [cX,fj,fQ,ih,nd,j',oR,jz,ng] t ao :=
 (((((((((h.set 0 cX).set 1 fj).set 2 fQ).set 3 ih).set 4 nd).set 5 j').set 6 oR).set 7 jz).set 8 ng)
theorem bt.nine {w:World} {az:Nat} {a:ae.cU} {W:ae} {g:Nat} (h:bt w az a W) (aT:g∉bt.cA a) (cX fj fQ ih nd j' oR jz ng:Value):bt (((((((((w.setCell ⟨g,0,none⟩ cX).setCell ⟨g,1,none⟩ fj).setCell ⟨g,2,none⟩ fQ).setCell ⟨g,3,none⟩ ih).setCell ⟨g,4,none⟩ nd).setCell ⟨g,5,none⟩ j').setCell ⟨g,6,none⟩ oR).setCell ⟨g,7,none⟩ jz).setCell ⟨g,8,none⟩ ng) az a W :=
 (((((((((h.other (p:=⟨g,0,none⟩) aT cX).other (p:=⟨g,1,none⟩) aT fj).other (p:=⟨g,2,none⟩) aT fQ).other (p:=⟨g,3,none⟩) aT ih).other (p:=⟨g,4,none⟩) aT nd).other (p:=⟨g,5,none⟩) aT j').other (p:=⟨g,6,none⟩) aT oR).other (p:=⟨g,7,none⟩) aT jz).other (p:=⟨g,8,none⟩) aT ng)
theorem akY {w0 w:World} {az g:Nat} (h:Below az w0 w) (aT:az≤g) (cX fj fQ ih nd j' oR jz ng:Value):Below az w0 (((((((((w.setCell ⟨g,0,none⟩ cX).setCell ⟨g,1,none⟩ fj).setCell ⟨g,2,none⟩ fQ).setCell ⟨g,3,none⟩ ih).setCell ⟨g,4,none⟩ nd).setCell ⟨g,5,none⟩ j').setCell ⟨g,6,none⟩ oR).setCell ⟨g,7,none⟩ jz).setCell ⟨g,8,none⟩ ng):=
 (((((((((h.setCell (p:=⟨g,0,none⟩) aT cX).setCell (p:=⟨g,1,none⟩) aT fj).setCell (p:=⟨g,2,none⟩) aT fQ).setCell (p:=⟨g,3,none⟩) aT ih).setCell (p:=⟨g,4,none⟩) aT nd).setCell (p:=⟨g,5,none⟩) aT j').setCell (p:=⟨g,6,none⟩) aT oR).setCell (p:=⟨g,7,none⟩) aT jz).setCell (p:=⟨g,8,none⟩) aT ng)
def Xp (w nc:World) (fG:Option Addr) (mY:Nat) (W:ae) (fq:Option Addr) (fv:Nat) (eO:Option Addr) (eS rB:Nat):Prop :=
 ∃ (et:Option Addr) (lC:Nat) (ez:Option Addr) (lO pj qv:Nat),aO nc w.heap.size [.int .i64 W.field.wide, .int .i64 W.field.high, .slice fG W.field.places.length mY, .slice et W.bj.length lC, .slice ez W.bh.length lO, .slice fq W.bW.length fv, .slice eO W.ah.length eS, .int .i64 W.next, .int .i64 W.now] 52 (0,0)∧
  aO nc (w.heap.size+1) [.int .i64 0, .int .i64 0, .slice none 0 0, .slice none 0 0, .slice none 0 0, .slice none 0 0, .slice none 0 0, .int .i64 0, .int .i64 0] 52 (0,0)∧bz.aL 3 8 nc w.heap.size (Φ.ab fG) fG mY W.field.places∧ai.rep.aL 98 16 nc rB (Φ.ab et) et lC W.bj∧bz.aL 3 8 nc pj (Φ.ab ez) ez lO W.bh∧
  (∀ g∈Φ.ab et,rB≤g∧g<pj)∧(∀ g∈Φ.ab ez,pj≤g∧g<qv)∧Below w.heap.size w nc∧rB≤pj∧pj≤qv∧qv=nc.heap.size
open Tryz
section
section
variable {α:Type} {p:α→Bool} {l L:List α} {d:α} {i j k:Nat}
theorem mU (h:k<l.length):l.getD k d∈l:=by rw [aMv,aMy h];exact aNK h
theorem oj (h:k<l.length):l.getD k d=l[k]:=by rw [aMv,aMy h];rfl
theorem as2 (h:∀ i,i<l.length→p (l.getD i d)=false):hb p l= -1:=Gm λ j aw=>by rw [← oj (d:=d) aw];exact h j aw
theorem as4 (aj:k<l.length) (κ:p (l.getD k d)=true) (h:∀ i,i<k→p (l.getD i d)=false):hb p l=(k:Int):=
 JF aj (by rw [← oj (d:=d) aj];exact κ) λ j aw=>by rw [← oj (d:=d) (by omega:j<l.length)];exact h j aw
theorem Ao (h:k<l.length):l.take (k+1)=l.take k++ [l.getD k d]:=by rw [aMW h,oj h]
end
end
theorem F3 {w:World} {cs:List Value} {a:ByteArray} (h:eU.has w cs a):cs= [.string a]:=aOY (show cs= [.string a]∧a.size≤140737488351232 from h)
theorem D9:∀ (j:Nat) u,(Value.string .empty).cells[j]? =some u→eU.raw j u:=by
 intro j u hu;have hu:(#[(Value.string .empty:Value)]:Array Value)[j]? =some u:=hu
 match j,hu with
 | 0,hu=>exact ⟨_,(aMJ hu).symm,by decide⟩
 | j+1,hu=>cases hu
theorem DC:(prog.info? 9).map (λ i=>(i.zero,i.size,i.bytes))=some (some (.string .empty),1,16):=by kernel_rfl
end Go.Proofs.YthlpmldmhakhaaaGreatDoor
