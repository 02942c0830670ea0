import Derived.Test.YthlpmldmhakhaaaGreatDoorFcs
import Derived.RangeFuncNested
import Derived.OrdersIn
import Derived.LoopNIn
import Derived.Lib.SplitLaws
import Derived.Lib.ParseIntB
import Derived.Lib.ItoaNum
import Derived.Lib.Join
set_option linter.unusedVariables false
set_option linter.unusedSimpArgs false
set_option maxRecDepth 100000
set_option maxHeartbeats 4000000
open Go.RowKit
namespace Go.Proofs.YthlpmldmhakhaaaGreatDoor
open Tryz
open Tryz
abbrev aM8:=@decide_eq_true_eq
abbrev aNs:=@List.take_succ_eq_append_getElem
abbrev aNX:=@List.drop_eq_getElem_cons
abbrev aOx:=@List.not_mem_nil
abbrev aOO:=@List.getElem_of_mem
abbrev aOR:=@Option.map_eq_some_iff
abbrev aO0:=@List.count_cons_of_ne
abbrev aO4:=@Int.mul_le_mul
abbrev aPi:=@or_false
abbrev aPr:=@List.mem_of_mem_take
abbrev aPC:=@Int.mul_nonneg
abbrev aPL:=@List.all_eq_false
abbrev aPO:=@Bool.true_and
abbrev aP2:=@Bool.and_eq_false_iff
abbrev aP5:=@Go.run_convert_bytes_back
abbrev aQc:=@List.count_cons_self
abbrev aQe:=@Bool.and_false
abbrev aQr:=@Nat.add_sub_cancel
abbrev aQw:=@Go.Oper.semAt_eq
abbrev aQO:=@Bool.eq_iff_iff
abbrev aQY:=@Int.tdiv_eq_ediv_of_nonneg
abbrev aQZ:=@Go.wpIn_region_lit
abbrev aQ3:=@List.map_take
abbrev aRl:=@Array.mem_of_getElem?
abbrev aRw:=@List.count_pos_iff

namespace Φ
variable {α:Type} {R:Φ α}
theorem ap2 {β:Type} {size:Nat} {X:List (List β)} {i:Nat} {es:List β} (BO:∀ x∈X,x.length=size) (ak:i<X.length):(X.set i es).flatten=X.flatten.take (i * size)++es++X.flatten.drop (i * size+size):=by
 rw [aPf,aNd ak,aPw,aNW,Nx i BO,Sf (i+1) BO,aOp,aNB]
theorem azV {β:Type} {cur es:List β} {p n k:Nat} (aj:es.length=k) (κ:p+k≤n) (τ:n≤cur.length):(cur.take p++es++cur.drop (p+k)).take n=(cur.take n).take p++es++(cur.take n).drop (p+k):=by
 apply aOI;intro j;subst aj;simp only [aNK,List.getElem?_append,aM6,aM9,aN6]
 grind
theorem aM.agn {E by_ B c i g:Nat} {f:List Nat} {l:List α} {w:World} {q':α} {es:List Value} {cur:Array Value} (h:R.aM E by_ w B f (some ⟨g,0,none⟩) c l) (hp:R.vp) (ak:i<l.length) (I:∀ w,R.has w es q') (sM:w.heap[g]? =some (.cells cur E (0,0))):
  R.aM E by_ (w.setRow g (cur.toList.take (i * R.size)++es++cur.toList.drop (i * R.size+es.length)).toArray) B f (some ⟨g,0,none⟩) c (l.set i q')∧i * R.size+es.length≤cur.toList.length:=by
 obtain ⟨af,ps,rfl,hn,bk,ep⟩:=h;have Gl:es.length=R.size:=R.len (I w);have ay:=OX ep;have tX:ps.length=l.length:=ep.length;obtain ⟨B3,yG⟩:=bk;obtain ⟨g',cap,Bu,hv,aqL,dP,BX,qf,hh,ata,ar⟩:=yG.resolve_left (λ bo=>nomatch bo.1);injection hv with nQ T3 atg
 injection nQ with nQ
 injection nQ with nQ aHk aHl
 subst nQ atg;rw [dP] at sM;injection sM with sM
 injection sM with sM
 subst sM;have hle:i * R.size+R.size≤l.length * R.size:=by rw [← aOp];exact aNM _ ak
 have aGD:l.length * R.size≤c * R.size:=aNM _ BX;have yF:Bu.toList.length=c * R.size:=by rw [aOj,hh]
 obtain ⟨x,hx,JT⟩:=ep.at_ (cj (l:=l) (u:=q') ak);have jO:x.1= []:=hp.2 JT;have Tw:∀ y∈ps,∀ q∈y.1,q≠g:=λ y aH q I e=>by
  obtain ⟨b,DA⟩:=ep.left y aH;rw [hp.2 DA] at I;simp at I
 have aR:(ps.set i (x.1,es)).map (·.1)=ps.map (·.1):=by
  rw [aOW];have:(ps.map (·.1))[i]? =some x.1:=by rw [aNt,hx];rfl
  obtain ⟨τ,aq⟩:=aM2.1 this
  conv=>lhs;rw [← aq]
  exact aOZ _
 have a1:(ps.set i (x.1,es)).map (·.2)=(ps.map (·.2)).set i es:=by rw [aOW]
 have abP:=ap2 (es:=es) ay (by rw [aNI];omega:i<(ps.map (·.2)).length);rw [Gl];refine ⟨⟨by rw [aNj];exact af,ps.set i (x.1,es),by rw [aR],hn,⟨?_, .inr ⟨g,c,(Bu.toList.take (i * R.size)++es++Bu.toList.drop (i * R.size+R.size)).toArray,by rw [aNj],aqL, ?_,by rw [aNj];exact BX,qf, ?_, ?_, ?_⟩⟩, ?_⟩,by omega⟩
 ·rw [a1,abP,aNj];simp only [aM6,aM9,aNE,B3,Gl];omega
 ·exact aO.setRow (cur:=Bu.toList) (by simpa [aO] using dP) _
 ·rw [aOq];simp only [aM6,aM9,aNE,yF,Gl];omega
 ·rw [aNj,a1,abP,← ata];exact azV Gl hle (by omega)
 ·intro j u hu;rw [aP0] at hu;by_cases κ:j<i * R.size
  ·refine ar j u ?_;rw [aNB,aNw (by rw [aM9];omega),aNK,aNd κ] at hu;rw [← aN1];exact hu
  ·by_cases τ:j<i * R.size+R.size
   ·rw [aNB,aNC (by rw [aM9];omega),aNw (by rw [aM9];omega),aM9] at hu;have aw:j % R.size=j - i * R.size:=by
     have aq:j=R.size * i+(j - i * R.size):=by rw [aOS];omega
     have bV:(j - i * R.size) % R.size=j - i * R.size:=aPQ (by omega)
     conv=>lhs;rw [aq,aPX,bV]
    rw [aw];exact R.ur (I w) _ u (by rw [aPu (by omega)] at hu;exact hu)
   ·refine ar j u ?_;rw [aNC (by simp only [aM6,aM9];omega),aN6] at hu;rw [← aN1];rw [show i * R.size+R.size+(j - (List.take (i * R.size) Bu.toList++es).length)=j from by simp only [aM6,aM9];omega] at hu;exact hu
 ·have Tj:dt (λ x a=>R.own (w.setRow g (Bu.toList.take (i * R.size)++es++Bu.toList.drop (i * R.size+R.size)).toArray) B x.1 x.2 a) ps l:=ep.imp λ y a aH Ok=>R.rR Ok λ q I=>(Mod.setRow w g _).block q (R.sU Ok q I).2 (by simpa using Tw y aH q I);exact Tj.Vj (P:=λ (x:List Nat×List Value) a=>R.own _ B x.1 x.2 a) (by rw [jO];exact hp.1 (I _))
end Φ
section
variable {P:Program} {n:Nat} {E cd:List (Nat×Value)} {a:Act} {w w' w0 aN:World} {Q:Exit→Act→World→Prop} {ops:Array Oper} {v:Value}
variable {d:Option Nat} {ty:TypeId} {pos:String} {aW:Array Edge} {g:Option (Nat×Bool)} {x y z:Operand} {t:TypeId} {rest:List Oper}
theorem Pf {α:Type} {R:Φ α} {e by_ B i:Nat} {A:Option Addr} {c:Nat} {l:List α} {q':α} {p:Addr} {es:List Value} (h:R.aM e by_ w B (Φ.ab A) A c l) (hR:R.vp) (ak:i<l.length) (hx:ev E x=some (.pointer (some p))) (hp:p=⟨et A,jR A+i * R.size,none⟩) (aH:ev E y=some v) (hc:v.cells=es.toArray)
  (I:∀ w,R.has w es q') (hs:eO P t es.length)
  (aj:∀ aN,Mod (Φ.ab A) w aN→R.aM e by_ aN B (Φ.ab A) A c (l.set i q')→bQ P n ops Q rest E aN):bQ P n ops Q (⟨none, .store t x y,ty,pos,aW,none⟩::rest) E w:=by
 obtain ⟨b,rfl⟩:=h.block (by omega);have JK:p=⟨b,i * R.size,none⟩:=by rw [hp];simp [et,jR]
 subst JK;obtain ⟨_,ps,_,_,bk,_⟩:=id h;obtain ⟨cur,sM,_,_⟩:=bk.YS;obtain ⟨tY,hle⟩:=Φ.aM.agn (q':=q') h hR ak I sM;have ja:=Vd (P:=P) (w:=w) (b:=b) (p:=i * R.size) (cur:=cur.toList) (e:=e) (by simpa [aO] using sM) hc hs (aNJ.2 (R.one (I w))) hle;refine us (λ n a ha=> ?_) (aj _ (Mod.setRow w b _) tY);simp only [execOp,ha.ev hx,ha.ev aH,Instr.storeAt,Instr.sureAddr,aNh,aNl,aNb,ja]
def KB (A:Option Addr) (aEi:Nat):Option Addr:=A
theorem Vf {A:Option Addr} {len cap e s:Nat} {k:IntKind} (ak m:Nat) {i:Int} (aD:P.underlying t=some (.slice e)) (hs:eO P e s) (hx:ev E x=some (.slice A len cap)) (aH:ev E y=some (.int k i)) (κ:i=(ak:Int)) (τ:ak≤cap) (hm:m=ak):cG P E ⟨d, .slice t x none (some y) none,ty,pos,aW,g⟩ w (.slice (KB A ak) m cap) w:=λ n a ha=>by
 subst κ;subst hm;have κ:P.underlying t=some (.slice (P.elem t)):=by simp [Program.elem,aD]
 have nZ:P.elem t=e:=by simp [Program.elem,aD]
 have aq:=run_slice_h (P:=P) (w:=w) t A len cap κ k (m:Int) (by omega) (by omega);have bb:=aPj (P:=P) (w:=w) t (.slice A len cap) none (some (.int k (m:Int))) none κ;rw [nZ,hs w] at aq;simp only [execOp,ha.ev hx,ha.ev aH,Option.map,bb,aq,aNh,aNb,aNl,sliced,aN9,Nat.sub_zero];unfold KB;cases A with
 | none=>simp
 | some a=>simp [Addr.add]
end
theorem Φ.aQ.pre {α:Type} {R:Φ α} {by_ c:Nat} {A:Option Addr} {l:List α} {w:World} (h:R.aQ by_ w A c l) (k:Nat):R.aQ by_ w (KB A k) c (l.take k):=h.G_ k
open Tryz
section
variable {P:Program} {n:Nat} {E:List (Nat×Value)} {w:World} {Q:Exit→Act→World→Prop} {ops:Array Oper} {aL:Nat→Nat}
def aDp (P:Program) (ops:Array Oper) (Q:Exit→Act→World→Prop) (aL:Nat→Nat) (CK aC8:List Nat):Exit→Act→World→Prop :=
 eY (λ a w=>xv P ops (eY (Q .normal)) aL CK a w∧xv P ops (eY (Q .normal)) aL aC8 a w)
end
open Tryz
section
variable {f:FuncId} {args:Array Value} {o:Oper} {a:Act} {l:List Oper} {b k D B e by_ len cap s:Nat} {vs:List Value} {op:Op} {Y:World} {S:List Nat} {α:Type} {A:Option Addr}
def jK (ro:Option Nat):Fence:= {Fence.wide with round:=ro}
section
variable {P:Program} {ro:Option Nat} {m:Nat} {ops:Array Oper} {Q:Exit→Act→World→Prop} {w:World}
theorem amO {R:Ending→World→Prop} (h:Calls P f args w R):CallsIn (jK ro) m P f args w R:=(callsIn_wide (n:=m)).2 h
theorem ayR {row:String} {R:Value→World→Prop} (h:Rows P row args w R):RowsIn (jK ro) m P row args w R:=λ c cs _ =>
 let ⟨v,w',r,s⟩:=h c cs;⟨v,w',r,stepsIn_wide.2 s⟩
def Cg (o:Oper):Bool:=match o.op with
 | .defer _=>false
 | _=>true
theorem afo {K:Act→World→Prop} (hd:Cg o=true) (h:o.wp P a w K Q):o.wpIn (jK ro) m P a w K Q:=by
 refine ⟨λ _ _=>trivial, ?_⟩;have hs:o.semAt (jK ro).round a.eval=execOp a.eval o:=aQw _ _ _ (λ c e=>by simp [Cg,e] at hd);rw [hs];unfold Oper.wp at h;generalize (execOp a.eval o).run P w=r at *
 cases r with
 | ok x w' =>
  cases x<;>simp only [Oper.upon] at h<;>simp only [Oper.uponIn] <;>
   first
    | exact h
    | exact h.elim
    | exact ⟨λ h=>by simp [jK,Fence.wide] at h,amO h⟩
    | exact ⟨λ h=>by simp [jK,Fence.wide] at h,ayR h⟩
 | halt x w'=>cases x<;>simp only [Oper.upon] at h<;>simp only [Oper.uponIn]<;>first | exact h | exact h.elim
theorem Ur:∀ (l:List Oper) {a:Act} {w:World},l.all Cg=true→wpList P ops Q l a w→(∀ c a w,¬ Q (.panic c) a w)→¬ LetsOut Q→wpListIn (jK ro) m P ops Q l a w
 | [],a,w,_,h,_,_=>by unfold wpList at h;unfold wpListIn;exact h
 | o::rest,a,w,hd,h,hp,bk=>by
  rw [List.all_cons,aNa] at hd;unfold wpList at h;unfold wpListIn;split at h
  ·rename_i hw
   rw [aNd hw];rcases h with h | ⟨h,x⟩
   ·exact Oper.wpIn_mono (λ a w h=>Ur rest hd.2 h hp bk) (afo hd.1 h)
   ·exact (bk x).elim
  ·rename_i hw
   rw [aM4 hw];exact ⟨λ _ _=>trivial,Ur rest hd.2 h hp bk⟩
theorem aBs {i:Nat} {K:Act→World→Prop} {w:World} (hd:ops.toList.all Cg=true) (bk:¬ LetsOut Q) (h:wpOp P ops Q i K a w):wpOpIn (jK ro) m P ops Q i K a w:=by
 unfold wpOp at h;unfold wpOpIn;split at h
 ·rename_i ak;simp only [ak];exact h
 ·rename_i o ak
  simp only [ak];have arJ:Cg o=true:=aNJ.1 hd o (by rw [Array.mem_toList_iff];exact aRl ak);split at h
  ·rename_i hw
   rw [aNd hw];rcases h with h | ⟨h,x⟩
   ·exact afo arJ h
   ·exact (bk x).elim
  ·rename_i hw
   rw [aM4 hw];exact ⟨λ _ _=>trivial,h⟩
theorem X_ (hd:ops.toList.all Cg=true) (bk:¬ LetsOut Q):∀ (f:Nat) (l:Array Bool) {a:Act} {w:World},wpAny P .any ops Q f l a w→wpAnyIn (jK ro) m P .any ops Q f l a w
 | 0,l,a,w,h=>h
 | f+1,l,a,w,h=>⟨h.1,λ i ak=>wpOpIn_mono (λ a w h=>X_ hd bk f _ h) (aBs hd bk (h.2 i ak))⟩
end
theorem aff {K:Act→World→Prop}:∀ c a w,¬ eY K (.panic c) a w:=λ _ _ _ h=>h
theorem afe {K:Act→World→Prop}:¬ LetsOut (eY K):=λ ⟨_,_,h⟩=>h
theorem afd {K:Exit→Act→World→Prop}:∀ e a w,eY (K .normal) e a w→K e a w:=λ e a w h=>by cases e<;>first | exact h | exact h.elim
namespace Rd
section
variable {P:Program} {ro:Option Nat} {m n:Nat} {ops:Array Oper} {Q:Exit→Act→World→Prop} {w w0:World} {E cd:List (Nat×Value)} {id Ol:Nat} {c:Operand} {x y:Code} {i j:Int} {ba:List Nat} {v:Value}
def W (ro:Option Nat) (m:Nat) (P:Program) (n:Nat) (c:Code) (Q:Exit→Act→World→Prop) (E:List (Nat×Value)) (w:World):Prop:=∀ a,c' n E a→c.wpIn (jK ro) m P Q a w
abbrev M (n:Nat) (Q:Exit→Act→World→Prop) (E:List (Nat×Value)) (w:World):Prop:=N n (eY (Q .normal)) E w
abbrev lJ (ro:Option Nat) (m:Nat) (P:Program) (y:Code) (Q:Exit→Act→World→Prop):Exit→Act→World→Prop:=Exit.then (λ a w=>y.wpIn (jK ro) m P Q a w) Q
theorem aI (h:W ro m P n x (lJ ro m P y Q) E w):W ro m P n (.seq x y) Q E w:=λ a ha=>wpIn_seq (h a ha)
theorem fZ (h:M n Q E w):W ro m P n .skip Q E w:=λ a ha=>wpIn_skip (h a ha)
theorem rt (h:T n Q E w):W ro m P n .ret Q E w:=λ a ha=>wpIn_ret (h a ha)
theorem ej (h:X n Q id E w):W ro m P n (.exit id) Q E w:=λ a ha=>wpIn_exit (h a ha)
theorem bT (h:W ro m P n x (Exit.inBlock id Q) E w):W ro m P n (.block id x) Q E w:=λ a ha=>wpIn_block (h a ha)
theorem rg (h:bQ P n l.toArray (eY (Q .normal)) l E w) (hd:l.all Cg=true:=by kernel_rfl):W ro m P n (.region id l.toArray false) Q E w:=λ a ha=>Go.wpIn_mono (aQZ (Ur l hd (h a ha) aff afe)) afd
theorem c1 {b:Bool} (hc:ev E c=some (.bool b)) (κ:b=true→W ro m P n x Q E w) (τ:b=false→W ro m P n y Q E w):W ro m P n (.cond c x y) Q E w :=
 λ a ha=>wpIn_cond_split (ha.ev hc) (λ h=>κ h a ha) (λ h=>τ h a ha)
theorem fH (hc:ev E c=some (.bool (decide (i<j)))) (κ:i<j→W ro m P n x Q E w) (τ:¬ i<j→W ro m P n y Q E w):W ro m P n (.cond c x y) Q E w:=c1 hc (λ h=>κ (aNY h)) (λ h=>τ (aPc h))
theorem oq (hc:ev E c=some (.bool (i != j))) (κ:¬ i=j→W ro m P n x Q E w) (τ:i=j→W ro m P n y Q E w):W ro m P n (.cond c x y) Q E w:=c1 hc (λ h=>κ (by simpa using h)) (λ h=>τ (by simpa using h))
theorem br (h:W ro m P n y Q E w):M n (lJ ro m P y Q) E w:=h
theorem ne {fn:Func} {R:Ending→World→Prop} (h:T n (bodyPost P fn R) E w):M n (bodyPost P fn R) E w:=λ a ha=>h a ha
theorem cl (h:M n Q E w):M n (Exit.inBlock id Q) E w:=h
theorem ei (h:X n Q id E w):X n (lJ ro m P y Q) id E w:=h
theorem eh (h:M n Q E w):X n (Exit.inBlock id Q) id E w:=λ a ha=>by simp only [Exit.inBlock,aOB];exact h a ha
theorem cU (h:T n Q E w):T n (lJ ro m P y Q) E w:=h
theorem gi {c:Code} (cC:Nat→List (Nat×Value)→World→Prop) (k:Nat) (cd:List (Nat×Value)) (aC:cC k cd w) (hs:Sub cd E)
  (round:∀ k E w,cC k E w→W ro m P n c (Exit.then (H2 n cC k) Q) E w):W ro m P n (.loop c) Q E w:=λ a ha=>by
 intro b Uk cs as2 af hr;have key:∀ k a w,(∃ E,cC k E w∧c' n E a)→∃ e a' w',Q e a' w'∧ArrivesIn (Machine.fenced P (jK ro)) P (lone (b.atR a (.code c:: .inLoop c::Uk)) cs w) b Uk cs e a' w':=by
  intro k;induction k using Nat.strongRecOn with
  | _ k bu =>
   intro a w ⟨E,kV,ha⟩;obtain ⟨e,di,aN,I,oF⟩:=round k E w kV a ha b (.inLoop c::Uk) cs as2 af hr;cases e with
   | normal =>
    obtain ⟨m',bB,SK⟩:=I;obtain ⟨a1,a2,cb,Gx,Tl⟩:=bu m' bB di aN SK;exact ⟨a1,a2,cb,Gx, .of_steps (StepsIn.trans oF (.one (fenced_calm af hr Z) stepR_inLoop)) Tl⟩
   | exit id=>exact ⟨_,di,aN,I, .pass (x:= .inLoop c) rfl (λ _ _=> .inl (by simp)) oF⟩
   | goto l=>exact ⟨_,di,aN,I, .pass (x:= .inLoop c) rfl (λ _ _=> .inl (by simp)) oF⟩
   | ret=>exact ⟨_,di,aN,I, .pass (x:= .inLoop c) rfl (λ _ _=> .inl (by simp)) oF⟩
   | panic ch=>exact ⟨_,di,aN,I, .pass (x:= .inLoop c) rfl (λ _ _=> .inl (by simp)) oF⟩
   | outgrown=>exact ⟨_,di,aN,I, .pass (x:= .inLoop c) rfl (λ _ _=> .inl (by simp)) oF⟩
 obtain ⟨e,a',w',I,oF⟩:=key k a w ⟨cd,aC,ha.sub hs⟩;exact ⟨e,a',w',I, .of_steps (.one (fenced_calm af hr Z) stepR_loop) oF⟩
theorem lT {cC:Nat→List (Nat×Value)→World→Prop} (k':Nat) (cd:List (Nat×Value)) (h:cC k' cd w) (hm:k'<k) (hs:Sub cd E):M n (Exit.then (H2 n cC k) Q) E w :=
 λ a ha=>⟨k',hm,cd,h,ha.sub hs⟩
theorem rd (hU:List (Nat×Nat)) (ba:List Nat) (hm:P.follows .mixedOrders=true) (aS:(Region.noSelect ops && (ba.length == ops.size) && hQ ops (j_ hU) ba (Array.replicate ops.size false))=true)
  (h:eD P n ops (eY (Q .normal)) (j_ hU) ba E w) (hd:ops.toList.all Cg=true:=by kernel_rfl):W ro m P n (.region id ops true) Q E w:=λ a ha=>by
 simp only [aNa,aNV] at aS;obtain ⟨⟨hs,ay⟩,aS⟩:=aS;refine Go.wpIn_mono (wpIn_region_any hm (Q:=eY (Q .normal)) (X_ hd afe _ _ ?_)) afd;have:=C9 (P:=P) hs (Q:=eY (Q .normal)) aff ba (Array.replicate ops.size false) a w (by simp) aS (h a ha);rw [ay] at this;exact x' _ _ _ _ this _ (aNH _ w).drew
theorem X8 {l:List Value} (ay:Nat.ble l.length n=true):c' n (zG 0 l) {tmps:=l.toArray++Array.replicate (n - l.toArray.size) undef,defers:= []}:=by
 refine ⟨Z, ?_,λ t v hv=> ?_⟩
 ·have:=aOu ay;simp only [aPM,aOy,aOq];omega
 ·obtain ⟨j,e,aw⟩:=Ms l 0 t v hv;have bB:=(aM2.1 aw).1;rw [aPE (by simp;omega)];simpa [show t=j by omega] using aw
theorem cx {fn:Func} {c:Code} {l:List Value} {R:Ending→World→Prop} (hf:P.funcs[f]? =some fn) (af:fn.body=some c) (hn:fn.ntmps=n) (ay:Nat.ble l.length n=true)
  (h:W none m P n c (bodyPostM (jK none) m P fn R) (zG 0 l) w):Calls P f l.toArray w R:=by
 have κ:CallsIn (jK none) m P f l.toArray w R:=callsIn_of_wp_marks hf af trivial (by rw [hn];exact h _ (X8 ay)) rfl;exact (callsIn_wide (n:=m)).1 κ
theorem amM {fn:Func} {c:Code} {l:List Value} {R:Ending→World→Prop} (hf:P.funcs[f]? =some fn) (af:fn.body=some c) (hn:fn.ntmps=n) (ay:Nat.ble l.length n=true)
  (h:W none m P n c (bodyPost P fn R) (zG 0 l) w):CallsIn (jK none) m P f l.toArray w R :=
 callsIn_of_wp hf af trivial (by rw [hn];exact h _ (X8 ay)) rfl
theorem dS {fn:Func} {R:Ending→World→Prop} (h:vF P E w fn.results.toList vs) (hR:R (.returned (qK vs)) w):T n (bodyPostM (jK none) m P fn R) E w :=
 λ a ha=>by
  show LeavesInM _ _ _ _ _ _ a.defers _ _;rw [ha.d];exact ⟨_,Vc h ha,hR⟩
end
end Rd
namespace nI
section
variable {P:Program} {ro:Option Nat} {m n:Nat} {ops:Array Oper} {Q:Exit→Act→World→Prop} {w w' w0:World} {E cd:List (Nat×Value)} {id:Nat} {v:Value}
variable {d:Option Nat} {ty:TypeId} {pos:String} {aW:Array Edge} {g:Option (Nat×Bool)} {x y z:Operand} {t:TypeId} {rest:List Oper}
def bQ (ro:Option Nat) (m:Nat) (P:Program) (n:Nat) (ops:Array Oper) (Q:Exit→Act→World→Prop) (l:List Oper) (E:List (Nat×Value)) (w:World):Prop:=∀ a,c' n E a→wpListIn (jK ro) m P ops Q l a w
theorem rg (h:bQ ro m P n l.toArray Q l E w):Rd.W ro m P n (.region id l.toArray false) Q E w:=λ a ha=>aQZ (h a ha)
theorem nl (h:Rd.M n Q E w):bQ ro m P n ops Q [] E w:=h
theorem im {d:Nat} (hr:cG P E ⟨some d,op,ty,pos,aW,none⟩ w v w') (hd:Nat.blt d n=true) (h:bQ ro m P n ops Q rest ((d,v)::E) w'):bQ ro m P n ops Q (⟨some d,op,ty,pos,aW,none⟩::rest) E w:=λ a ha=>by
 have kF:=hr n a ha;unfold wpListIn;rw [aNd (by simp [Region.wanted])];refine ⟨λ _ _=>trivial, ?_⟩;have hs:(⟨some d,op,ty,pos,aW,none⟩:Oper).semAt (jK ro).round a.eval=execOp a.eval ⟨some d,op,ty,pos,aW,none⟩:=aQw _ _ _ (λ c e=>by
  have e:op= .defer c:=e;subst e;simp only [execOp,aNh,aNl] at kF;revert kF;generalize (resolve a.eval c ty).run P w=r;cases r<;>simp [Result.andThen])
 rw [hs,kF];exact h _ (ha.put hd v)
theorem aBS {d:Nat} {l:Nat} {xs:Array Operand} {ts:Array TypeId} {args:List Value} (hx:ev E x=some (.func (.yield l) #[] #[])) (he:fw E xs.toList=some args) (hd:Nat.blt d n=true)
  (h:YieldAt (jK ro) (m - 1) P l args.toArray w λ e w'=>∃ v,e= .returned v∧bQ ro m P n ops Q rest ((d,v)::E) w'):bQ ro m P n ops Q (⟨some d, .call {callee:= .value x,args:=xs,argTypes:=ts},ty,pos,aW,none⟩::rest) E w:=λ a ha=>by
 obtain ⟨fn,tmps,assign,body,aH,hR⟩:=h;unfold wpListIn;rw [aNd (by simp [Region.wanted])];refine ⟨λ _ _=>trivial, ?_⟩;have hs:(⟨some d, .call {callee:= .value x,args:=xs,argTypes:=ts},ty,pos,aW,none⟩:Oper).semAt (jK ro).round a.eval=execOp a.eval ⟨some d, .call {callee:= .value x,args:=xs,argTypes:=ts},ty,pos,aW,none⟩:=aQw _ _ _ (λ c e=>by cases e);have hm:xs.map a.eval=args.toArray:=by rw [← ha.fw he];apply aOr;simp
 have kF:(execOp a.eval ⟨some d, .call {callee:= .value x,args:=xs,argTypes:=ts},ty,pos,aW,none⟩).run P w= .ok (.round l fn tmps assign body) w:=by
  unfold execOp;simp only [resolve,invoke,Deferred.ofValue,ha.ev hx,callFunc,aNh,aNl,aNb,hm,aPF];first
   | exact aH
   | simpa using aH
 rw [hs,kF];refine ⟨λ h=>by simp [jK,Fence.wide] at h,hR.mono λ e w' he=> ?_⟩;obtain ⟨v,rfl,h⟩:=he;exact h _ (ha.put hd v)
end
end nI
def mark (D:Nat):List Deferred:= [{target:= .collected D,args:=#[]}]
def wd (ds:List Deferred) (a:Act):Act:= {a with defers:=ds}
theorem aBm (ds:List Deferred) (a:Act) (d:Option Nat) (v:Value):(wd ds a).put d v=wd ds (a.put d v):=by cases d<;>rfl
theorem aBl (ds:List Deferred) (a:Act):(wd ds a).eval=a.eval:=by funext x;cases x<;>rfl
def zk (w:World) (D:Nat):Prop:=w.heap[D]? =some (.deferred (some []))
theorem zk.lt {w:World} (h:zk w D):D<w.heap.size:=(aNy.1 h).1
theorem zk.later {w w':World} (h:zk w D) (x:Ext w w'):zk w' D:=(x.block D h.lt).trans h
def VT (w:World) (D:Nat):World:=w.putObj D (.deferred none)
theorem zk.un {w:World} (h:zk w D):Mod [D] w (VT w D):=by
 have:=Mod.grown (grownBy_putObj' w D (.deferred none));exact this
namespace q4
section
variable {P:Program} {ds:List Deferred} {m n:Nat} {ops:Array Oper} {Q:Exit→Act→World→Prop} {w w' w0:World} {E cd:List (Nat×Value)} {id:Nat} {v:Value}
variable {d:Option Nat} {ty:TypeId} {pos:String} {aW:Array Edge} {g:Option (Nat×Bool)} {x y z:Operand} {t:TypeId} {rest:List Oper} {c:Operand} {Bv IG:Code} {i j:Int}
def W (ds:List Deferred) (m:Nat) (P:Program) (n:Nat) (c:Code) (Q:Exit→Act→World→Prop) (E:List (Nat×Value)) (w:World):Prop:=∀ a,c' n E a→c.wpIn (jK none) m P Q (wd ds a) w
def N (ds:List Deferred) (n:Nat) (Q:Exit→Act→World→Prop) (E:List (Nat×Value)) (w:World):Prop:=∀ a,c' n E a→Q .normal (wd ds a) w
def T (ds:List Deferred) (n:Nat) (Q:Exit→Act→World→Prop) (E:List (Nat×Value)) (w:World):Prop:=∀ a,c' n E a→Q .ret (wd ds a) w
def bQ (ds:List Deferred) (m:Nat) (P:Program) (n:Nat) (ops:Array Oper) (Q:Exit→Act→World→Prop) (l:List Oper) (E:List (Nat×Value)) (w:World):Prop:=∀ a,c' n E a→wpListIn (jK none) m P ops Q l (wd ds a) w
theorem aI (h:W ds m P n Bv (Rd.lJ none m P IG Q) E w):W ds m P n (.seq Bv IG) Q E w:=λ a ha=>wpIn_seq (h a ha)
theorem rt (h:T ds n Q E w):W ds m P n .ret Q E w:=λ a ha=>wpIn_ret (h a ha)
theorem rg (h:bQ ds m P n l.toArray Q l E w):W ds m P n (.region id l.toArray false) Q E w:=λ a ha=>aQZ (h a ha)
theorem nl (h:N ds n Q E w):bQ ds m P n ops Q [] E w:=h
theorem br (h:W ds m P n IG Q E w):N ds n (Rd.lJ none m P IG Q) E w:=h
theorem cl (h:N ds n Q E w):N ds n (Exit.inBlock id Q) E w:=h
theorem awK {v:Value} (h:(execOp a.eval o).run P w= .ok (.value v) w'):∀ c,o.op≠ .defer c:=λ c e=>by
 unfold execOp at h;rw [e] at h;simp only [aNh,aNl] at h;revert h;generalize (resolve a.eval c o.type).run P w=r;cases r<;>simp [Result.andThen]
theorem im {d:Nat} (hr:cG P E ⟨some d,op,ty,pos,aW,none⟩ w v w') (hd:Nat.blt d n=true) (h:bQ ds m P n ops Q rest ((d,v)::E) w'):bQ ds m P n ops Q (⟨some d,op,ty,pos,aW,none⟩::rest) E w:=λ a ha=>by
 have kF:=hr n a ha;unfold wpListIn;rw [aNd (by simp [Region.wanted])];refine ⟨λ _ _=>trivial, ?_⟩;rw [aBl,aQw _ _ _ (awK kF),kF];show wpListIn _ _ _ _ _ _ _ _;rw [aBm];exact h _ (ha.put hd v)
theorem dS {fn:Func} {R:Ending→World→Prop} (hK:zk w D) (h:vF P E (VT w D) fn.results.toList vs) (hR:R (.returned (qK vs)) (VT w D)):T (mark D) n (bodyPostM (jK none) m P fn R) E w :=
 λ a ha=>by
  have hr:=Vc (a:=a) h ha;exact ⟨by simp, .inl ⟨D,_,rfl,run_takeDeferred hK,_,hr,hR⟩⟩
end
end q4
def zx (b c:Nat) (W hN:World):Prop:=hN.heap[b]? =W.heap[b]? ∧hN.heap[c]? =W.heap[c]?
theorem zx.n4 {c:Nat} {X aA:World} (h:zx b c X Y) (k:zx b c Y aA):zx b c X aA:=⟨k.1.trans h.1,k.2.trans h.2⟩
theorem Mod.ad0 {W hN:World} (h:Mod S W hN) (hS:∀ q∈S,q<W.heap.size→∃ cur e ao,W.heap[q]? =some (.cells cur e ao)):KeepsFrom B W hN :=
 ⟨h.size,λ k o _ aj bk=>by
  by_cases hm:k∈S
  ·obtain ⟨cur,e,ao,hc⟩:=hS k hm (aNy.1 aj).1;rw [hc] at aj;injection aj with aj
   subst aj;exact nomatch bk
  ·exact (h.block k (aNy.1 aj).1 hm).trans aj⟩
theorem Mod.at4 {W X:World} {c:Nat} (h:Mod S W X) (k:Mod S W Y) (af:b<W.heap.size∧c<W.heap.size) (κ:b∉S) (τ:c∉S):zx b c X Y :=
 ⟨(k.block b af.1 κ).trans (h.block b af.1 κ).symm,(k.block c af.2 τ).trans (h.block c af.2 τ).symm⟩
def vv (B:Nat) (w0 w:World):Prop:=KeepsFrom B w0 w
theorem vv.bN (B:Nat) (w:World):vv B w w:=KeepsFrom.refl B w
theorem vv.later {w0 w w':World} (h:vv B w0 w) (x:Ext w w'):vv B w0 w':=KeepsFrom.trans h ((Mod.aP (S:= []) x).ad0 λ q I=>nomatch I)
theorem vv.mod {w0 w w':World} (h:vv B w0 w) (m:Mod S w w') (hS:∀ q∈S,∃ cur e ao,w.heap[q]? =some (.cells cur e ao)):vv B w0 w':=KeepsFrom.trans h (m.ad0 λ q I _=>hS q I)
theorem Φ.aM.Rs {R:Φ α} {c:Nat} {l:List α} {w:World} (h:R.aM e by_ w B (Φ.ab A) A c l):∀ q∈Φ.ab A,∃ cur e ao,w.heap[q]? =some (.cells cur e ao):=by
 obtain ⟨_,ps,_,_,⟨_,bk⟩,_⟩:=h;rcases bk with ⟨κ,_⟩ | ⟨g,cap,cur,κ,_,τ,_⟩
 ·injection κ with κ;subst κ;intro q I;exact nomatch I
 ·injection κ with κ;subst κ;intro q I
  obtain rfl:=aMZ.1 I;exact ⟨_,_,_,τ⟩
structure C0 {α:Type} (B:Nat) (jm:List α→World→Prop) (pre:List α) (w:World):Prop where
 Q9:AbidesFrom B jm
 at_:jm pre w
theorem C0.later {jm:List α→World→Prop} {pre:List α} {w w':World} (h:C0 B jm pre w) (x:Ext w w'):C0 B jm pre w' :=
 ⟨h.Q9,h.Q9 _ _ _ none h.at_ ⟨x.os,x.tape,x.output,x.size,λ k aj _=>x.block k aj⟩ λ r e=>nomatch e⟩
theorem aO.Oo {cs:List Value} {e:TypeId} {ao:Nat×Nat} {w w':World} (h:aO w b cs e ao) (k:w'.heap[b]? =w.heap[b]?):aO w' b cs e ao:=k.trans h
theorem aBT {F:Fence} {m:Nat} {P:Program} {l:Nat} {W:World} {R R':Ending→World→Prop} (h:YieldAt F m P l args W R) (hr:∀ e w,R e w→R' e w):YieldAt F m P l args W R':=by
 obtain ⟨fn,tmps,assign,body,aH,hR⟩:=h;exact ⟨fn,tmps,assign,body,aH,hR.mono hr⟩
theorem aBW {P Q:Prop} {e:Ending} (h:(e= .returned (.bool true)∧P)∨(e= .returned (.bool false)∧Q)):∃ b,e= .returned (.bool b)∧(b=true→P)∧(b=false→Q):=by
 rcases h with ⟨h,p⟩ | ⟨h,q⟩
 ·exact ⟨true,h,λ _=>p,(λ h=>nomatch h)⟩
 ·exact ⟨false,h,(λ h=>nomatch h),λ _=>q⟩
theorem apS {q:Nat} (aj:k<q):(List.finRange q).take k++ [⟨k,aj⟩]=(List.finRange q).take (k+1):=by
 rw [aNs (by simpa using aj)];simp
section
variable {P:Program} {n:Nat} {E cd:List (Nat×Value)} {w:World} {d:Option Nat} {ty:TypeId} {pos:String} {aW:Array Edge} {g:Option (Nat×Bool)} {x y z u:Operand} {t:TypeId}
theorem ay3 {k:IntKind} (lo:Nat) {i:Int} (aD:P.underlying t=some (.slice e)) (hs:eO P e s) (hx:ev E x=some (.slice A len cap)) (aH:ev E y=some (.int k i)) (κ:i=(lo:Int)) (τ:lo≤len):
  cG P E ⟨d, .slice t x (some y) none none,ty,pos,aW,g⟩ w (.slice (ez A cap lo s) (len - lo) (cap - lo)) w:=λ n a ha=>by
 subst κ;have lu:P.underlying t=some (.slice (P.elem t)):=by simp [Program.elem,aD]
 have nZ:P.elem t=e:=by simp [Program.elem,aD]
 have aq:=run_slice_l (P:=P) (w:=w) t A len cap lu k (lo:Int) (by omega) (by omega);have bb:=aPj (P:=P) (w:=w) t (.slice A len cap) (some (.int k (lo:Int))) none none lu;rw [nZ,hs w] at aq;simp only [execOp,ha.ev hx,ha.ev aH,Option.map,bb,aq,aNh,aNb,aNl,sliced,aN9,ez]
theorem ay2 {k k' ey:IntKind} (lo ak n:Nat) {i j Ud:Int} (aD:P.underlying t=some (.slice e)) (hs:eO P e s) (hx:ev E x=some (.slice A len cap)) (aH:ev E y=some (.int k i)) (bo:ev E z=some (.int k' j)) (hu:ev E u=some (.int ey Ud)) (Al:i=(lo:Int)) (DL:j=(ak:Int)) (arY:Ud=(ak:Int)) (κ:lo≤ak) (τ:ak≤cap) (hn:n=ak - lo):
  cG P E ⟨d, .slice t x (some y) (some z) (some u),ty,pos,aW,g⟩ w (.slice (ez A ak lo s) n n) w:=λ na a ha=>by
 subst Al;subst DL;subst arY;subst hn;have lu:P.underlying t=some (.slice (P.elem t)):=by simp [Program.elem,aD]
 have nZ:P.elem t=e:=by simp [Program.elem,aD]
 have aq:=run_slice_lhm (P:=P) (w:=w) t A len cap lu k k' ey (lo:Int) (ak:Int) (ak:Int) (by omega) (by omega) (by omega) (by omega);have bb:=aPj (P:=P) (w:=w) t (.slice A len cap) (some (.int k (lo:Int))) (some (.int k' (ak:Int))) (some (.int ey (ak:Int))) lu;rw [nZ,hs w] at aq;simp only [execOp,ha.ev hx,ha.ev aH,ha.ev bo,ha.ev hu,Option.map,bb,aq,aNh,aNb,aNl,sliced,aN9,ez]
end
theorem Φ.aQ.chunk {R:Φ α} {c:Nat} {l:List α} {w:World} (h:R.aQ by_ w A c l) (lo ak:Nat) (κ:lo<ak) (τ:ak≤l.length):R.aQ by_ w (ez A ak lo R.size) (ak - lo) ((l.drop lo).take (ak - lo)):=by
 have hs:=h.sub lo ak (by omega) τ;have hc:=h.1;have qf:=h.2.1;have e:ez A ak lo R.size=ez A c lo R.size:=by unfold ez;rw [aM4 (by omega),aM4 (by omega)]
 rw [e];obtain ⟨g1,g2,g3,g4,g5⟩:=hs;refine ⟨by rw [aM9];omega,by omega,g3,λ hn=> ?_,g5⟩;have:=g4 hn;omega
namespace Rd
theorem bN {P:Program} {m n:Nat} {Q:Exit→Act→World→Prop} {w w0:World} {E:List (Nat×Value)} {tt p:Nat} {ty:TypeId} {pos:String} {aW:Array Edge} {id:Nat} {body:Code} {g:Operand} {gf:Nat} {lb:List Value} {enc:α→Value} {fe gJ:Nat} {S ak3:List α→Prop} {H3:Nat}
  (aU:ev E g=some (.func (.func gf) #[] lb.toArray)) (hf:Enters P gf) (as5:SeqStopsK (jK none) (m - 1) P gf lb.toArray (λ x=>#[enc x]) (zx fe gJ) S ak3 H3 w0) (bq:fe<w.heap.size) (er:gJ<w.heap.size) (cT:Ext w0 w) (κ:1≤m) (hp:Nat.blt p n=true) (aD:Nat.blt tt n=true)
  (cC:List α→World→Prop) (kV:∀ s W hN S,cC s W→Mod S W hN→(∀ q∈S,w.heap.size≤q∧∀ cur e ao,W.heap[q]? ≠some (.cells cur e ao))→cC s hN) (aC:cC [] w)
  (ary:∀ (l:Nat) (pre:List α) (x:α) (hN:World),cC pre hN→pre.length<H3→W (some l) (m - 1 - 1) P n body (ownPostG w.heap.size (zx fe gJ) cC (λ _ _ _=>False) (pre++ [x]) hN) ((tt,enc x)::(p,enc x)::E) hN)
  (arK:∀ (D:Nat) (xs:List α) (hN:World),w.heap.size≤D→S xs→cC xs hN→zk hN D→q4.N (mark D) n Q E hN):
  W none m P n (.rangeFunc g #[p] (.region id #[⟨some tt, .assign (.tmp p),ty,pos,aW,none⟩] false) body) Q E w:=λ a ha=>by
 have aqT:∀ {β:Type} (jm:β→World→Prop),(∀ s W hN S,jm s W→Mod S W hN→(∀ q∈S,w.heap.size≤q∧∀ cur e ao,W.heap[q]? ≠some (.cells cur e ao))→jm s hN)→OwnFrom w.heap.size jm:=λ jm yv s X Y row hs BT hr =>
  yv s X Y row.toList hs (Mod.grown BT) λ q I=>by
   cases row with
   | none=>exact nomatch I
   | some r =>
    obtain rfl:=aMZ.1 I;obtain ⟨aS,o,bk,hc⟩:=hr _ rfl;exact ⟨aS,λ cur e ao h=>by rw [h] at bk;injection bk with bk;subst bk;exact nomatch hc⟩
 obtain ⟨fn,arM,arN,abN⟩:=hf;obtain ⟨ra,aru⟩:∃ c,fn.body=some c:=by
  cases h:fn.body with
  | none=>rw [h] at abN;simp at abN
  | some c=>exact ⟨c,rfl⟩
 refine wpIn_rangeFunc_ownH (F:=jK none) Z κ (gf:=gf) (lb:=lb.toArray) (ha.ev aU) trivial (enters_of arM arN aru) as5 (λ h k=>h.n4 k) ?_ cT (λ x=>Z) cC (λ _ _ _=>False) (aqT cC kV) (λ c s A B row hs aU hr=>hs.elim) aC
  (λ x a' _=>c' n ((tt,enc x)::(p,enc x)::E) a') (λ x a' s A B row hs aU hr=>hs) ?_ ?_ ?_ ?_
 ·intro hN l o Ks ay b8 _ _;have hm:=Mod.grown (grownBy_putObj' hN l Ks);exact ⟨hm.block fe (by have:=(aNy.1 b8).1;omega) (by simp;omega),hm.block gJ (by have:=(aNy.1 b8).1;omega) (by simp;omega)⟩
 ·intro l pre x hN K ak hK;have hA:c' n ((p,enc x)::E) {tmps:=(#[p].zip #[enc x]).foldl (λ t (p,v)=>t.setIfInBounds p v) a.tmps,defers:= []}:=by
   have:=ha.put hp (enc x);have e:({tmps:=(#[p].zip #[enc x]).foldl (λ t (p,v)=>t.setIfInBounds p v) a.tmps,defers:= []}:Act)=a.put (some p) (enc x):=by
    simp [Act.put,ha.d]
   rw [e];exact this
  have τ:W (some l) (m - 1 - 1) P n (.region id [(⟨some tt, .assign (.tmp p),ty,pos,aW,none⟩:Oper)].toArray false) (Exit.then K (λ _ _ _=>False)) ((p,enc x)::E) hN:=by
   refine nI.rg (nI.im (v:=enc x) (w':=hN) (eV ?_) aD (nI.nl λ a' oD=>hK a' hN (KeepsFrom.refl _ _) ⟨Z,Z⟩ ak oD));show look ((p,enc x)::E) p=_;simp [look]
  exact τ _ hA
 ·intro l pre x a' hN _ _ ak hx hlen;exact ary l pre x hN ak hlen a' hx
 ·intro D xs hN mT hS ak hK;have:=arK D xs hN mT hS ak hK a ha;have e:({a with defers:= {target:= .collected D,args:=#[]}::a.defers}:Act)=wd (mark D) a:=by simp [wd,mark,ha.d]
  rw [e];exact this
 ·intro D c pre hN _ _ h _;exact h.elim
end Rd
end
section
variable {by_ c:Nat} {A:Option Addr} {l:List UInt8} {s p q:ByteArray}
def AF:Φ UInt8:=Φ.flat 1 (λ b=> [.int .u8 (b.toNat:Int)]) (λ _=>True) (λ _ u=>∃ n:Int,u= .int .u8 n) (λ _=>rfl) (by intro a u hu;simp at hu;subst hu;rfl) (by
 intro a j u hu;cases j with
 | zero=>simp at hu;exact ⟨_,hu.symm⟩
 | succ j=>simp at hu)
theorem atK:(prog.info? 5).map (λ i=>(i.zero,i.size,i.bytes))=some (some (.int .u8 0),1,1):=by kernel_rfl
theorem ayu:∀ (j:Nat) u,(Value.int .u8 0).cells[j]? =some u→AF.raw j u:=by
 intro j u hu;have hu:(#[(.int .u8 0:Value)]:Array Value)[j]? =some u:=hu
 match j,hu with
 | 0,hu=>exact ⟨0,(aNf hu).symm⟩
 | j+1,hu=>simp at hu
theorem ayM {w:World} (h:AF.aQ by_ w A c l) (aC:0<l.length):∃ b o,A=some ⟨b,o,none⟩∧∀ (i:Nat) (a:UInt8),l[i]? =some a→w.cell? ⟨b,o+i,none⟩=some (.int .u8 (a.toNat:Int)):=by
 obtain ⟨b,o,e,hc⟩:=h.at_ aC;refine ⟨b,o,e,λ i a ha=> ?_⟩;obtain ⟨es,⟨rfl,_⟩,aw⟩:=hc i a ha;have:=aw 0 _ rfl;simpa [AF,Φ.flat] using this
def az (l:List UInt8):ByteArray:=⟨l.toArray⟩
theorem MC {m:List UInt8} (h:az l=az m):l=m:=by
 unfold az at h;injection h with h
 injection h
section
variable {P:Program} {n:Nat} {E cd:List (Nat×Value)} {w:World} {d:Option Nat} {ty:TypeId} {pos:String} {aW:Array Edge} {g:Option (Nat×Bool)} {x y z u:Operand} {t t2:TypeId}
theorem KI {k:IntKind} {i:Int} {v:UInt8} (aD:P.underlying t=some .string) (hx:ev E x=some (.string s)) (aH:ev E y=some (.int k i)) (aC:0≤i) (hv:s.data.toList[i.toNat]? =some v):
  cG P E ⟨d, .index t x y,ty,pos,aW,g⟩ w (.int .u8 (v.toNat:Int)) w:=λ n a ha=>by
 have bB:=(aM2.1 hv).1;have hh:i.toNat<s.size:=by simpa using bB
 have ak:0≤i∧i<s.size:=by omega
 have hr:=run_index_string (P:=P) w t s k i aD;rw [dif_pos ak] at hr;have e:(s[i.toNat]'hh)=v:=by
  have:=(aM2.1 hv).2;simpa [ByteArray.getElem_eq_getElem_data] using this
 simp only [execOp,ha.ev hx,ha.ev aH,aNh,hr,aNb,aNl,e]
theorem anl {e:TypeId} (hs:P.underlying t=some (.slice e)) (he:P.underlying e=some (.int .u8)) (hd:P.underlying t2=some .string) (h:AF.aQ by_ w A c l) (hx:ev E x=some (.slice A l.length c)):
  cG P E ⟨d, .convert t t2 x,ty,pos,aW,g⟩ w (.string (az l)) w:=λ n a ha=>by
 have hr:(convert t t2 (.slice A l.length c)).run P w= .ok (.string (az l)) w:=by
  cases A with
  | none =>
   have hc:c=0:=h.2.2.2.1 rfl;have ay:l= []:=aNv (by have:=h.1;omega);subst ay;subst hc;show (convert t t2 (.slice none 0 0)).run P w=_;rw [run_convert_bytes_string w t t2 e none 0 0 hs he hd];simp [Conv.bytesToString];rfl
  | some p =>
   cases ay:l with
   | nil =>
    have:∀ j (aw:j<([]:List UInt8).length),w.cell? (p.add j)=some (.int .u8 (([]:List UInt8)[j].toNat:Int)):=λ j aw=>nomatch aw;exact aP5 w t t2 e p c [] hs he hd this
   | cons b r =>
    rw [← ay];obtain ⟨b,o,rfl',hc⟩:=ayM h (by rw [ay];simp);injection rfl' with rfl'
    subst rfl';exact aP5 w t t2 e _ c l hs he hd λ j aw=>by
     have:=hc j _ (aM3 aw);have e:(⟨b,o,none⟩:Addr).add j=⟨b,o+j,none⟩:=by
      unfold Addr.add;by_cases aC:j=0
      ·subst aC;simp
      ·simp [aC]
     rw [e];exact this
 simp only [execOp,ha.ev hx,aNh,hr,aNb,aNl]
theorem Pm (p q:ByteArray):(p == q)=decide (p=q):=by
 rw [aQO,aM8];constructor
 ·intro h;obtain ⟨a⟩:=p;obtain ⟨b⟩:=q;have:a=b:=by simpa using (show (a == b)=true from h)
  rw [this]
 ·rintro rfl;obtain ⟨a⟩:=p;show (a == a)=true;simp
theorem kj (aD:P.underlying t=some .string) (hx:ev E x=some (.string p)) (aH:ev E y=some (.string q)):cG P E ⟨d, .binOp .eql t x y t2,ty,pos,aW,g⟩ w (.bool (decide (p=q))) w:=λ n a ha=>by
 have:(eqGuard .eql t x y (.string p) (.string q)).run P w= .ok () w:=by cases x<;>cases y<;>rfl
 have τ:(binOp .eql t (.string p) (.string q)).run P w= .ok (.bool (decide (p=q))) w:=by
  simp only [binOp,Op.stringOp,aNl];simp [bne,Pm];rw [← beq_toListBytes,Pm]
 simp only [execOp,ha.ev hx,ha.ev aH,aNh,this,τ,aNb,aNl]
theorem Fo (aD:P.underlying t=some .string) (hx:ev E x=some (.string p)) (aH:ev E y=some (.string q)):cG P E ⟨d, .binOp .neq t x y t2,ty,pos,aW,g⟩ w (.bool (!decide (p=q))) w:=λ n a ha=>by
 have:(eqGuard .neq t x y (.string p) (.string q)).run P w= .ok () w:=by cases x<;>cases y<;>rfl
 have τ:(binOp .neq t (.string p) (.string q)).run P w= .ok (.bool (!decide (p=q))) w:=by
  simp only [binOp,Op.stringOp,aNl];simp [bne,Pm];rw [← beq_toListBytes,Pm]
 simp only [execOp,ha.ev hx,ha.ev aH,aNh,this,τ,aNb,aNl]
theorem B5 (aD:P.underlying t=some .string) (hx:ev E x=some (.string s)) (hs:(s.size:Int)≤9223372036854775807):cG P E ⟨d, .call {callee:= .builtin .len,args:=#[x],argTypes:=#[t]},ty,pos,aW,g⟩ w (.int .i64 (s.size:Int)) w :=
 bi (vs:= [.string s]) (by simp only [fw,hx]) λ cs=>by
  have:=run_len_string (P:=P) w t ty s aD;simp only [builtin,aNh,this,aNb,aNl];rfl
end
end
section
variable {n k:Nat} {ws r:List ByteArray}
def fR (b:UInt8):List UInt8→List (List UInt8)
 | []=> [[]]
 | x::l=>if x=b then []::fR b l else match fR b l with | h::t=>(x::h)::t | []=> [[x]]
theorem agD (b:UInt8):fR b []= [[]]:=rfl
theorem AG (b:UInt8) (l:List UInt8):fR b (b::l)= []::fR b l:=by simp [fR]
theorem AH (b:UInt8):∀ l,∃ h t,fR b l=h::t
 | []=>⟨_,_,rfl⟩
 | x::l=>by
  obtain ⟨h,t,e⟩:=AH b l;unfold fR;rw [e];by_cases hx:x=b<;>simp [hx]
theorem xj {b x:UInt8} (hx:x≠b) {l h:List UInt8} {t:List (List UInt8)} (e:fR b l=h::t):fR b (x::l)=(x::h)::t:=by
 conv=>lhs;unfold fR
 rw [aM4 hx,e]
theorem wF (b:UInt8):∀ l:List UInt8,(l.count b=0→Lib.index l [b]= -1)∧(∀ x:UInt8,x≠b→∀ i:Nat,Lib.index l [b]=i→Lib.index (x::l) [b]=((i+1:Nat):Int))∧Lib.index (b::l) [b]=0
 | []=>⟨λ _=>rfl,λ x hx i ak=>by
   have:(-1:Int)=i:=ak
   omega,by unfold Lib.index;simp⟩
 | y::l=>by
  refine ⟨λ aC=> ?_,λ x hx i ak=> ?_,by unfold Lib.index;simp⟩
  ·have aH:y≠b:=λ e=>by subst e;simp at aC
   have κ:=(wF b l).1 (by rw [List.count_cons] at aC;omega);have hn:([b]:List UInt8).isPrefixOf (y::l)=false:=by simp [List.isPrefixOf,aPp aH]
   unfold Lib.index;rw [hn,κ];rfl
  ·have hn:([b]:List UInt8).isPrefixOf (x::y::l)=false:=by simp [List.isPrefixOf,aPp hx]
   unfold Lib.index;rw [hn,ak];have:¬ ((i:Int)== -1)=true:=λ e=>by have:=aNV.1 e;omega
   simp only [aNR,aOm,this];omega
theorem Vu (b:UInt8):∀ l:List UInt8,Lib.splitK [b] 0 (l.count b) l=fR b l
 | []=>rfl
 | x::l=>by
  have bu:=Vu b l;by_cases hx:x=b
  ·subst hx;rw [aQc,AG,← bu]
   conv=>lhs;unfold Lib.splitK
   rw [(wF x l).2.2];simp
  ·rw [aO0 hx];cases hc:l.count b with
   | zero =>
    rw [hc] at bu;rw [xj hx (h:=l) (t:= []) (by rw [← bu];rfl)];rfl
   | succ k =>
    rw [hc] at bu;obtain ⟨i,ak⟩:∃ i:Nat,Lib.index l [b]=i:=by
     rcases Lib.index_spec l [b] with ⟨h,bk⟩ | ⟨i,h,_⟩
     ·exfalso;have hm:b∈l:=aRw.1 (by omega);obtain ⟨j,aw,e⟩:=aOO hm;have:=bk j (by omega);unfold Lib.occAt at this;rw [aNX aw,e] at this;simp [List.isPrefixOf] at this
     ·exact ⟨i,h⟩
    have τ:=(wF b l).2.1 x hx i ak;have Cf:¬ (((i+1:Nat):Int)== -1)=true:=λ e=>by have:=aNV.1 e;omega
    have rM:¬ ((i:Int)== -1)=true:=λ e=>by have:=aNV.1 e;omega
    have aR:Lib.splitK [b] 0 (k+1) l=l.take i::Lib.splitK [b] 0 k (l.drop (i+1)):=by
     conv=>lhs;unfold Lib.splitK
     rw [ak,aM4 rM];simp
    have a1:Lib.splitK [b] 0 (k+1) (x::l)=(x::l.take i)::Lib.splitK [b] 0 k (l.drop (i+1)):=by
     conv=>lhs;unfold Lib.splitK
     rw [τ,aM4 Cf];simp
    rw [a1];exact (xj hx (by rw [← bu,aR])).symm
def xa (s:ByteArray):Option Nat :=
 match Lib.parseUintB 32 s.data.toList with
 | .ok u=>if s.size≤9∧az (Lib.decDigits u)=s then some u else none
 | _=>none
def AB:List ByteArray→Option (Nat×List ByteArray)
 | []=>none
 | s::r=>(xa s).map λ u=>(u,r)
def ec:Nat→List ByteArray→Option (List Int)
 | 0,ws=>if ws= [] then some [] else none
 | n+1,ws=>match AB ws with
  | none=>none
  | some x=>(ec n x.2).map λ l=>(x.1:Int)::l
theorem xb:∀ {n:Nat} {ws:List ByteArray} {l:List Int},ec n ws=some l→l.length=n
 | 0,ws,l,h=>by
  unfold ec at h;split at h
  ·cases h;rfl
  ·cases h
 | n+1,ws,l,h=>by
  unfold ec at h;split at h
  ·cases h
  ·rw [aOR] at h;obtain ⟨k,aj,rfl⟩:=h;rw [aM1,xb aj]
theorem awX {T:List Int} (h:ec n ws=(ec (k+1) r).map (T++ ·)) (hn:AB r=none):ec n ws=none:=by rw [h,ec,hn];rfl
theorem awZ {r':List ByteArray} {u:Nat} {T:List Int} (h:ec n ws=(ec (k+1) r).map (T++ ·)) (hn:AB r=some (u,r')):ec n ws=(ec k r').map ((T++ [(u:Int)])++ ·):=by
 rw [h,ec,hn];show Option.map _ (Option.map _ (ec k r'))=_;rw [Option.map_map];congr 1
 funext l
 simp
def aIT (l:List UInt8):List (List UInt8):=if l= [] then [] else if (fR 10 l).getLast? =some [] then (fR 10 l).dropLast else fR 10 l
def aMS (l:List UInt8):List (List UInt8):=(fR 32 l).filter λ x=>x≠ []
end
section
variable {f:FuncId} {xs:Array Operand} {ts:Array TypeId} {args:List Value} {t:TypeId}
section
variable {P:Program} {n:Nat} {E:List (Nat×Value)} {w w':World} {Q:Exit→Act→World→Prop} {ops:Array Oper} {v:Value} {d:Option Nat} {ty:TypeId} {pos:String} {aW:Array Edge} {x:Operand} {rest:List Oper} {ch:List PanicEntry}
def sg (n:Nat) (Q:Exit→Act→World→Prop) (ch:List PanicEntry) (E:List (Nat×Value)) (w:World):Prop:=∀ a,c' n E a→Q (.panic ch) a w
theorem dR {y:Code} (h:sg n Q ch E w):sg n (lJ P y Q) ch E w:=h
theorem GY {K:Act→World→Prop} (h:sg n Q ch E w):sg n (Exit.then K Q) ch E w:=h
theorem kt {id:Nat} (h:sg n Q ch E w):sg n (Exit.inBlock id Q) ch E w:=h
theorem gm {fn:Func} {R:Ending→World→Prop} (h:R (.panicked ch) w):sg n (bodyPost P fn R) ch E w:=λ a ha=>⟨ha.d,h⟩
theorem Fs (hf:Enters P f) (he:fw E xs.toList=some args)
  (h:Calls P f args.toArray w λ e w'=>∃ ch,e= .panicked ch∧sg n Q ch E w'):bQ P n ops Q (⟨d, .call {callee:= .value (.func f),args:=xs,argTypes:=ts},ty,pos,aW,none⟩::rest) E w:=λ a ha=>by
 refine x_ Z ?_;unfold Oper.wp;rw [Cl hf ha he];refine aOY h λ e w' dP=> ?_;obtain ⟨ch,rfl,h⟩:=dP;exact h _ ha
theorem afC (hx:ev E x=some (.iface t v)) (h:sg n Q [{v:= .iface t v,recovered:=false}] E w):bQ P n ops Q (⟨d, .panic x,ty,pos,aW,none⟩::rest) E w:=λ a ha=>by
 refine x_ Z ?_;unfold Oper.wp;have e:(execOp a.eval ⟨d, .panic x,ty,pos,aW,none⟩).run P w= .halt (.panic (.iface t v)) w:=by
  simp only [execOp,ha.ev hx,aNh,run_panic_iface];rfl
 rw [e];exact h _ ha
theorem hD {d:Nat} (hf:Enters P f) (he:fw E xs.toList=some args) (hd:Nat.blt d n=true)
  (h:Calls P f args.toArray w λ e w'=>(∃ ch,e= .panicked ch∧sg n Q ch E w')∨∃ v,e= .returned v∧bQ P n ops Q rest ((d,v)::E) w'):bQ P n ops Q (⟨some d, .call {callee:= .value (.func f),args:=xs,argTypes:=ts},ty,pos,aW,none⟩::rest) E w:=λ a ha=>by
 refine x_ Z ?_;unfold Oper.wp;rw [Cl hf ha he];refine aOY h λ e w' dP=> ?_;rcases dP with ⟨ch,rfl,h⟩ | ⟨v,rfl,h⟩
 ·exact h _ ha
 ·exact h _ (ha.put hd v)
def LR (cs:List Value) (k:Nat) (e:TypeId) (v:Value) (f:List Nat) (w:World):Prop:=∃ b,v= .slice (some ⟨b,0,none⟩) k k∧f= [b]∧aO w b cs e (0,0)
theorem UG {i d k e:Nat} {ps:Array (Nat×Operand)} {l:List (Nat×Value)} {cs:List Value} (ak:ops[i]? =some ⟨some d, .buildSlice t k ps,ty,pos,aW,none⟩) (he:rj E ps.toList=some l) (hr:∀ w,(Instr.buildSlice t k l.toArray).run P w= .ok (.slice (some ⟨w.heap.size,0,none⟩) k k) (w.alloc (.cells cs.toArray e))) (kE:look E d=none) (hd:Nat.blt d n=true):LQ P n ops Q E w i d (LR cs k e):=by
 refine ⟨λ v f w w' ⟨b,κ,τ,aq⟩ hx=>⟨b,κ,τ,aq.later hx⟩,kE,hd,λ a aN K ha hx hK=> ?_⟩;unfold wpOp;simp only [ak];rw [aNd (qP rfl)];refine .inl ?_;unfold Oper.wp;have aR:ps.map (λ (i,x)=>(i,a.eval x))=l.toArray:=by rw [← ha.rj he];apply aOr;simp
 have I:(execOp a.eval ⟨some d, .buildSlice t k ps,ty,pos,aW,none⟩).run P aN= .ok (.value (.slice (some ⟨aN.heap.size,0,none⟩) k k)) (aN.alloc (.cells cs.toArray e)):=by
  simp only [execOp,aR,aNh,hr,aNb,aNl]
 rw [I];refine hK _ _ [aN.heap.size] ((aNH _ aN).alloc (aNk _) _) (λ q I=> ?_) ⟨aN.heap.size,Z,Z,aO.new aN cs e (0,0)⟩;rw [aMZ.1 I];exact ⟨aNk _,by simp⟩
end
end
section
variable {by_ B c:Nat} {A:Option Addr}
namespace Φ
variable {α:Type} {R:Φ α}
theorem aM.aqm {E by_ c:Nat} {A:Option Addr} {l:List α} {w:World} {ps:List (List Nat×List Value)} (hp:R.vp) (ep:dt (λ x a=>R.own w B x.1 x.2 a) ps l):∀ y∈ps,y.1= []:=λ y aH=>by
 obtain ⟨b,af⟩:=ep.left y aH;exact hp.2 af
theorem aql {ps:List (List Nat×List Value)} (h:∀ y∈ps,y.1= []):(ps.map (·.1)).flatten= []:=by
 rw [aQ9];intro x hx;obtain ⟨y,aH,rfl⟩:=aNn.1 hx;exact h y aH
theorem aM.cut {E:Nat} {l:List α} {w:World} (h:R.aM E by_ w B (ab A) A c l) (hp:R.vp) (k:Nat) (aj:k≤l.length):R.aM E by_ w B (ab A) A c (l.take k):=by
 obtain ⟨af,ps,hf,hn,bk,ep⟩:=h;have ay:=OX ep;have tX:ps.length=l.length:=ep.length;have κ:=aM.aqm (E:=E) (by_:=by_) (c:=c) (A:=A) hp ep;have hlen:(l.take k).length=k:=by rw [aM9];omega
 have hm:=aNM by_ aj;refine ⟨by rw [hlen];omega,ps.take k, ?_,hn, ?_,ep.G_ k⟩
 ·rw [aql λ y aH=>κ y (aPr aH),aNA]
 ·rw [hlen,aQ3,Nx k ay];obtain ⟨B3,yG⟩:=bk;have hle:k * R.size≤l.length * R.size:=aNM _ aj;refine ⟨by rw [aM9,B3];omega, ?_⟩;rcases yG with ⟨yG,aHo⟩ | ⟨g,cap,cur,hv,aS,dP,BX,qf,hs,aD,ar⟩
  ·injection yG with aR a1 cL
   subst aR cL;have:k=0:=by omega
   subst this;exact .inl ⟨Z,Z⟩
  ·injection hv with aR a1 cL
   subst aR cL;exact .inr ⟨g,c,cur,Z,aS,dP,by omega,qf,hs,by rw [← aD,List.take_take,aPu hle],ar⟩
end Φ
section
variable {P:Program} {n:Nat} {E cd:List (Nat×Value)} {a:Act} {w w' w0 aN:World} {Q:Exit→Act→World→Prop} {ops:Array Oper} {v:Value}
variable {d:Option Nat} {ty:TypeId} {pos:String} {aW:Array Edge} {g:Option (Nat×Bool)} {x y z:Operand} {t:TypeId} {rest:List Oper}
theorem agf {len cap e s:Nat} {k:IntKind} (lo:Nat) {i:Int} (aD:P.underlying t=some (.slice e)) (hs:eO P e s) (hx:ev E x=some (.slice A len cap)) (aH:ev E y=some (.int k i)) (ak:i=(lo:Int)) (κ:lo≤len):
  cG P E ⟨d, .slice t x (some y) none none,ty,pos,aW,g⟩ w (.slice (ez A cap lo s) (len - lo) (cap - lo)) w:=λ n a ha=>by
 subst ak;have lu:P.underlying t=some (.slice (P.elem t)):=by simp [Program.elem,aD]
 have nZ:P.elem t=e:=by simp [Program.elem,aD]
 have aq:=run_slice_l (P:=P) (w:=w) t A len cap lu k (lo:Int) (by omega) (by omega);have bb:=aPj (P:=P) (w:=w) t (.slice A len cap) (some (.int k (lo:Int))) none none lu;rw [nZ,hs w] at aq;simp only [execOp,ha.ev hx,ha.ev aH,Option.map,bb,aq,aNh,aNb,aNl,sliced,aN9,ez]
theorem atL {k:IntKind} {i j:Int} (aC:0≤i) (κ:0<j) (hw:k.wrap (i / j)=i / j):Op.intDiv .quo k i j=pure (.int k (i / j)):=by
 unfold Op.intDiv;have e:i.tdiv j=i / j:=aQY aC;rw [aM4 (by omega)];simp only [e,hw]
theorem atM {k:IntKind} {i j:Int} (aC:0≤i) (κ:0<j):Op.intDiv .rem k i j=pure (.int k (i % j)):=by
 unfold Op.intDiv;have e:i.tmod j=i % j:=Int.tmod_eq_emod_of_nonneg aC;rw [aM4 (by omega)];simp only [e]
section
variable {k:IntKind} {i j:Int} {u:TypeId}
theorem alJ (hx:ev E x=some (.int k i)) (aH:ev E y=some (.int k j)) (aC:0≤i) (κ:0<j) (hw:k.wrap (i / j)=i / j):cG P E ⟨d, .binOp .quo t x y u,ty,pos,aW,g⟩ w (.int k (i / j)) w:=uu hx aH (binOp_quo t k i j) (by rw [atL aC κ hw];rfl)
theorem alL (hx:ev E x=some (.int k i)) (aH:ev E y=some (.int k j)) (aC:0≤i) (κ:0<j):cG P E ⟨d, .binOp .rem t x y u,ty,pos,aW,g⟩ w (.int k (i % j)) w:=uu hx aH (binOp_rem t k i j) (by rw [atM aC κ];rfl)
theorem ayn {i j:Int} (aC:0≤i) (κ:0<j) (τ:i≤9223372036854775807):IntKind.i64.wrap (i / j)=i / j:=by
 have aR:0≤i / j:=Int.ediv_nonneg aC (by omega);have a1:i / j≤i:=Int.ediv_le_self _ aC;exact ll ⟨by omega,by omega⟩
end
end
end
open Tryz

structure ai where
 x:Int
 y:Int
 deriving DecidableEq,Inhabited
namespace ai
def cells (a:ai):List Value:= [.int .i64 (a.x), .int .i64 (a.y)]
def ok (a:ai):Prop:=(Lit.int .i64 a.x).wf=true∧(Lit.int .i64 a.y).wf=true
def raw (j:Nat) (u:Value):Prop:=match j with
 | 0 | 1=>∃ n:Int,u= .int .i64 n
 | _=>True
theorem sv (a:ai):∀ (j:Nat) u,a.cells[j]? =some u→raw j u:=by
 intro j u hu
 match j,hu with
 | 0,hu | 1,hu=>exact ⟨_,(aNf hu).symm⟩
 | j+2,hu=>exact trivial
theorem su (a:ai):∀ u∈a.cells,u.oneCell'=true:=by
 intro u hu;unfold cells at hu;simp only [aNg,aOx,aPi] at hu;rcases hu with rfl | rfl<;>rfl
def rep:Φ ai:=Φ.flat 2 cells ok raw (λ _=>rfl) su sv
theorem plain:rep.Plain:=Φ.rm
def zero:Value:= .agg #[.int .i64 0, .int .i64 0]
theorem k6:∀ (j:Nat) u,zero.cells[j]? =some u→rep.raw j u:=by
 intro j u hu;have hu:(#[(.int .i64 0:Value),(.int .i64 0:Value)]:Array Value)[j]? =some u:=hu
 match j,hu with
 | 0,hu | 1,hu=>exact ⟨_,(aNf hu).symm⟩
 | j+2,hu=>cases hu
theorem info:(prog.info? 98).map (λ i=>(i.zero,i.size,i.bytes))=some (some zero,2,16):=by kernel_rfl
theorem at_ {by_:Nat} {w:World} {A:Option Addr} {c:Nat} {l:List ai} (h:rep.aQ by_ w A c l) (aC:0<l.length):
  ∃ b o,A=some ⟨b,o,none⟩∧∀ (i:Nat) (a:ai),l[i]? =some a→w.cell? ⟨b,o+i * 2,none⟩=some (.int .i64 (a.x))∧w.cell? ⟨b,o+i * 2+1,none⟩=some (.int .i64 (a.y)):=by
 obtain ⟨b,o,e,hc⟩:=h.at_ aC;refine ⟨b,o,e,λ i a ha=> ?_⟩;obtain ⟨es,⟨rfl,_⟩,aw⟩:=hc i a ha;exact ⟨aw 0 _ Z,aw 1 _ Z⟩
theorem Q' {by_:Nat} {w:World} {A:Option Addr} {c:Nat} {l:List ai} (h:rep.aQ by_ w A c l):∀ a∈l,a.ok:=Φ.aQ.Im (R:=rep) (Q:=ok) (fun {w cs a} (h:rep.has w cs a)=>(show cs=a.cells∧a.ok from h).2) h
theorem en {w:World} {g:Nat} {t:TypeId} {ao:Nat×Nat} {a:ai} (h:aO w g a.cells t ao):w.cell? ⟨g,0,none⟩=some (.int .i64 (a.x))∧w.cell? ⟨g,1,none⟩=some (.int .i64 (a.y)):=
 ⟨h.cell 0,h.cell 1⟩
def sh:hB:=(.cons (.int .i64) (.cons (.int .i64) .nil))
end ai
theorem wh {w:World} {cs:List Value} {a:ai} (h:ai.rep.has w cs a):cs=a.cells:=aPs (show cs=a.cells∧a.ok from h)
open Tryz

structure a8 where
 id:Int
 owner:Int
 kind:Int
 spot:ai
 df:Int
 load:Int
 deriving DecidableEq,Inhabited
namespace a8
def cells (a:a8):List Value:= [.int .i64 (a.id), .int .i64 (a.owner), .int .i64 (a.kind), .int .i64 (a.spot.x), .int .i64 (a.spot.y), .int .i64 (a.df), .int .i64 (a.load)]
def ok (a:a8):Prop:=(Lit.int .i64 a.id).wf=true∧(Lit.int .i64 a.owner).wf=true∧(Lit.int .i64 a.kind).wf=true∧(Lit.int .i64 a.spot.x).wf=true∧(Lit.int .i64 a.spot.y).wf=true∧(Lit.int .i64 a.df).wf=true∧(Lit.int .i64 a.load).wf=true
def raw (j:Nat) (u:Value):Prop:=match j with
 | 0 | 1 | 2 | 3 | 4 | 5 | 6=>∃ n:Int,u= .int .i64 n
 | _=>True
theorem sv (a:a8):∀ (j:Nat) u,a.cells[j]? =some u→raw j u:=by
 intro j u hu
 match j,hu with
 | 0,hu | 1,hu | 2,hu | 3,hu | 4,hu | 5,hu | 6,hu=>exact ⟨_,(aNf hu).symm⟩
 | j+7,hu=>exact trivial
theorem su (a:a8):∀ u∈a.cells,u.oneCell'=true:=by
 intro u hu;unfold cells at hu;simp only [aNg,aOx,aPi] at hu;rcases hu with rfl | rfl | rfl | rfl | rfl | rfl | rfl<;>rfl
def rep:Φ a8:=Φ.flat 7 cells ok raw (λ _=>rfl) su sv
theorem plain:rep.Plain:=Φ.rm
def zero:Value:= .agg #[.int .i64 0, .int .i64 0, .int .i64 0, .int .i64 0, .int .i64 0, .int .i64 0, .int .i64 0]
theorem k6:∀ (j:Nat) u,zero.cells[j]? =some u→rep.raw j u:=by
 intro j u hu;have hu:(#[(.int .i64 0:Value),(.int .i64 0:Value),(.int .i64 0:Value),(.int .i64 0:Value),(.int .i64 0:Value),(.int .i64 0:Value),(.int .i64 0:Value)]:Array Value)[j]? =some u:=hu
 match j,hu with
 | 0,hu | 1,hu | 2,hu | 3,hu | 4,hu | 5,hu | 6,hu=>exact ⟨_,(aNf hu).symm⟩
 | j+7,hu=>cases hu
theorem info:(prog.info? 108).map (λ i=>(i.zero,i.size,i.bytes))=some (some zero,7,56):=by kernel_rfl
theorem at_ {by_:Nat} {w:World} {A:Option Addr} {c:Nat} {l:List a8} (h:rep.aQ by_ w A c l) (aC:0<l.length):
  ∃ b o,A=some ⟨b,o,none⟩∧∀ (i:Nat) (a:a8),l[i]? =some a→w.cell? ⟨b,o+i * 7,none⟩=some (.int .i64 (a.id))∧w.cell? ⟨b,o+i * 7+1,none⟩=some (.int .i64 (a.owner))∧w.cell? ⟨b,o+i * 7+2,none⟩=some (.int .i64 (a.kind))∧w.cell? ⟨b,o+i * 7+3,none⟩=some (.int .i64 (a.spot.x))∧w.cell? ⟨b,o+i * 7+4,none⟩=some (.int .i64 (a.spot.y))∧w.cell? ⟨b,o+i * 7+5,none⟩=some (.int .i64 (a.df))∧w.cell? ⟨b,o+i * 7+6,none⟩=some (.int .i64 (a.load)):=by
 obtain ⟨b,o,e,hc⟩:=h.at_ aC;refine ⟨b,o,e,λ i a ha=> ?_⟩;obtain ⟨es,⟨rfl,_⟩,aw⟩:=hc i a ha;exact ⟨aw 0 _ Z,aw 1 _ Z,aw 2 _ Z,aw 3 _ Z,aw 4 _ Z,aw 5 _ Z,aw 6 _ Z⟩
theorem en {w:World} {g:Nat} {t:TypeId} {ao:Nat×Nat} {a:a8} (h:aO w g a.cells t ao):w.cell? ⟨g,0,none⟩=some (.int .i64 (a.id))∧w.cell? ⟨g,1,none⟩=some (.int .i64 (a.owner))∧w.cell? ⟨g,2,none⟩=some (.int .i64 (a.kind))∧w.cell? ⟨g,3,none⟩=some (.int .i64 (a.spot.x))∧w.cell? ⟨g,4,none⟩=some (.int .i64 (a.spot.y))∧w.cell? ⟨g,5,none⟩=some (.int .i64 (a.df))∧w.cell? ⟨g,6,none⟩=some (.int .i64 (a.load)):=
 ⟨h.cell 0,h.cell 1,h.cell 2,h.cell 3,h.cell 4,h.cell 5,h.cell 6⟩
def sh:hB:=(.cons (.int .i64) (.cons (.int .i64) (.cons (.int .i64) (.cons (.cons (.int .i64) (.cons (.int .i64) .nil)) (.cons (.int .i64) (.cons (.int .i64) .nil))))))
end a8
theorem js {w:World} {cs:List Value} {a:a8} (h:a8.rep.has w cs a):cs=a.cells:=aPs (show cs=a.cells∧a.ok from h)
open Tryz

structure av where
 wide:Int
 high:Int
 places:List Int
 deriving DecidableEq,Inhabited
structure ae where
 field:av
 bj:List ai
 bh:List Int
 bY:List Int
 ah:List a8
 next:Int
 now:Int
 deriving DecidableEq,Inhabited
namespace av
def O4 (p:Int):Bool:=cM p 0 3
def a7 (f:av):Int :=
 if cM f.wide 1 40 && cM f.high 1 40 then (if decide ((f.places.length:Int)=f.wide * f.high) && f.places.all O4 then 0 else 4) else 1
def dV (f:av) (c:ai):Bool:=cM c.x 0 (f.wide - 1) && cM c.y 0 (f.high - 1)
def place (f:av) (c:ai):Int:=f.places.getD (c.y * f.wide+c.x).toNat 0
def ground (f:av) (c:ai):Bool:=f.dV c && f.place c != 1
theorem am8 (f:av):f.a7=0∨f.a7=1∨f.a7=4:=by unfold a7;split<;>(try split)<;>simp
theorem hg {f:av} (h:f.a7=0):1≤f.wide∧f.wide≤40∧1≤f.high∧f.high≤40∧(f.places.length:Int)=f.wide * f.high∧∀ p∈f.places,0≤p∧p≤3:=by
 unfold a7 at h;split at h
 ·rename_i κ
  rw [aNa] at κ;have a:=jw κ.1;have b:=jw κ.2;split at h
  ·rename_i τ
   rw [aNa,aNJ] at τ;exact ⟨a.1,a.2,b.1,b.2,by simpa using τ.1,λ p hp=>jw (τ.2 p hp)⟩
  ·cases h
 ·cases h
theorem YX {f:av} (h:(cM f.wide 1 40 && cM f.high 1 40)=false):f.a7=1:=by unfold a7;rw [h];rfl
theorem idx {f:av} (h:f.a7=0) {c:ai} (hc:f.dV c=true):0≤c.y * f.wide+c.x∧c.y * f.wide+c.x<(f.places.length:Int)∧0≤c.x∧c.x<f.wide∧0≤c.y∧c.y<f.high:=by
 obtain ⟨g1,g2,g3,g4,g5,_⟩:=hg h;unfold dV at hc;rw [aNa] at hc;have a:=jw hc.1;have b:=jw hc.2;have aR:0≤c.y * f.wide:=aPC b.1 (by omega);have a1:c.y * f.wide≤(f.high - 1) * f.wide:=Int.mul_le_mul_of_nonneg_right b.2 (by omega);have cL:(f.high - 1) * f.wide=f.wide * f.high - f.wide:=by rw [Int.sub_mul,Int.one_mul,Int.mul_comm]
 rw [g5];omega
theorem kr {f:av} (h:f.a7=0):f.places.length≤1600:=by
 obtain ⟨g1,g2,g3,g4,g5,_⟩:=hg h;have a1:f.wide * f.high≤40 * 40:=aO4 g2 g4 (by omega) (by omega);omega
end av
namespace av
def cH (f:av) (c:ai):Int:=if f.a7≠0 then f.a7 else if f.dV c then 0 else 7
def mb (f:av) (c:ai):Int:=if f.a7≠0 then 0 else if f.dV c then f.place c else 0
theorem Mu {f:av} {c:ai} (h:f.a7≠0):f.cH c=f.a7∧f.mb c=0:=by unfold cH mb;rw [aNd h,aNd h];exact ⟨Z,Z⟩
theorem It {f:av} {c:ai} (h:f.a7=0) (τ:f.dV c=false):f.cH c=7∧f.mb c=0:=by unfold cH mb;simp [h,τ]
theorem la {f:av} {c:ai} (h:f.a7=0) (τ:f.dV c=true):f.cH c=0∧f.mb c=f.place c:=by unfold cH mb;simp [h,τ]
theorem atQ {f:av} {c:ai} (h:c.x<0∨f.wide≤c.x∨c.y<0∨f.high≤c.y):f.dV c=false:=by
 unfold dV;rcases h with h | h | h | h
 ·rw [oL (.inl h)];rfl
 ·rw [oL (n:=c.x) (.inr (by omega))];rfl
 ·rw [oL (n:=c.y) (.inl h),aQe]
 ·rw [oL (n:=c.y) (.inr (by omega)),aQe]
theorem atP {f:av} {c:ai} (κ:0≤c.x) (τ:c.x<f.wide) (aq:0≤c.y) (bb:c.y<f.high):f.dV c=true:=by
 unfold dV;rw [ml κ (by omega),ml aq (by omega)];rfl
end av
def kindOf (k:Int):Option (Int×Int×Int×Int):=if k=1 then some (10,1,1,5) else if k=2 then some (20,2,4,12) else none
namespace ae
def xc (W:ae) (i:Nat):Bool:=W.field.ground (W.bj.getD i default) && !(W.bj.take i).contains (W.bj.getD i default) && cM (W.bh.getD i 0) 0 1000000
def ng (W:ae):Bool:=decide (W.bh.length=W.bj.length) && (List.range W.bj.length).all W.xc
def xd (W:ae) (i:Nat):Bool:=cM (W.bY.getD i 0) 0 1000000 && (decide (W.bY.getD i 0≤0) || W.field.places.getD i 0 == 3)
def nU (W:ae):Bool:=decide (W.bY.length=W.field.places.length) && (List.range W.bY.length).all W.xd
def jc (W:ae) (i:Nat):Int:=if i=0 then 0 else (W.ah.getD (i - 1) default).id
def hj (k:Int):Int:=if k=1 then 10 else if k=2 then 20 else 0
def Az (k:Int):Int:=if k=1 then 5 else 0
def Ku (W:ae) (wI nV:Int) (t:a8):Bool :=
 cM t.kind 1 2 && cM t.id wI nV && cM t.owner 0 ((W.bj.length:Int) - 1) && W.field.ground t.spot && cM t.df 1 (hj t.kind) && cM t.load 0 (Az t.kind)
def iE (W:ae) (k:Nat):List ai:=(W.ah.take k).map (·.spot)
def xe (W:ae) (i:Nat):Bool:=W.Ku (wrap64 (W.jc i+1)) (wrap64 (W.next - 1)) (W.ah.getD i default) && !(W.iE i).contains (W.ah.getD i default).spot
def jS (W:ae):Bool:=(List.range W.ah.length).all W.xe && (cM W.next 1 1000000 && cM W.now 0 1000000)
def a7 (W:ae):Int :=
 if W.field.a7≠0 then W.field.a7 else if 8<W.bj.length∨100<W.ah.length then 2 else if W.ng && W.nU && W.jS then 0 else 4
structure cW where
 P:Option Addr
 B:Option Addr
 S:Option Addr
 M:Option Addr
 T:Option Addr
 p:Nat
 b:Nat
 s:Nat
 m:Nat
 t:Nat
def FW (A:Option Addr) (c:Nat) (f:av):List Value:= [.int .i64 f.wide, .int .i64 f.high, .slice A f.places.length c]
def cells (h:cW) (W:ae):List Value :=
 [.int .i64 W.field.wide, .int .i64 W.field.high, .slice h.P W.field.places.length h.p, .slice h.B W.bj.length h.b, .slice h.S W.bh.length h.s, .slice h.M W.bY.length h.m, .slice h.T W.ah.length h.t, .int .i64 W.next, .int .i64 W.now]
theorem amZ (h:cW) (W:ae):(cells h W).toArray=#[.int .i64 W.field.wide, .int .i64 W.field.high, .slice h.P W.field.places.length h.p, .slice h.B W.bj.length h.b, .slice h.S W.bh.length h.s, .slice h.M W.bY.length h.m, .slice h.T W.ah.length h.t, .int .i64 W.next, .int .i64 W.now]:=rfl
structure Has (w:World) (h:cW) (W:ae):Prop where
 P:bz.aQ 8 w h.P h.p W.field.places
 B:ai.rep.aQ 16 w h.B h.b W.bj
 S:bz.aQ 8 w h.S h.s W.bh
 M:bz.aQ 8 w h.M h.m W.bY
 T:a8.rep.aQ 56 w h.T h.t W.ah
 nums:dB W.field.wide∧dB W.field.high∧dB W.next∧dB W.now
theorem Has.keep {w w':World} {h:cW} {W:ae} (hw:Has w h W) (af:Below w.heap.size w w'):Has w' h W :=
 ⟨hw.P.keep af,hw.B.keep af,hw.S.keep af,hw.M.keep af,hw.T.keep af,hw.nums⟩
def aqk:hB:= .cons (.int .i64) (.cons (.int .i64) (.cons (.slice (.int .i64) 8) .nil))
def sh:hB:= .cons aqk (.cons (.slice ai.sh 16) (.cons (.slice (.int .i64) 8) (.cons (.slice (.int .i64) 8) (.cons (.slice a8.sh 56) (.cons (.int .i64) (.cons (.int .i64) .nil))))))
theorem aaq {w:World} {g:Nat} {t:TypeId} {ao:Nat×Nat} {A:Option Addr} {c:Nat} {f:av} (h:aO w g (FW A c f) t ao):
  w.cell? ⟨g,0,none⟩=some (.int .i64 f.wide)∧w.cell? ⟨g,1,none⟩=some (.int .i64 f.high)∧w.cell? ⟨g,2,none⟩=some (.slice A f.places.length c):=⟨h.cell 0,h.cell 1,h.cell 2⟩
theorem rX {w:World} {g:Nat} {t:TypeId} {ao:Nat×Nat} {a:cW} {W:ae} (h:aO w g (cells a W) t ao):
  w.cell? ⟨g,0,none⟩=some (.int .i64 W.field.wide)∧w.cell? ⟨g,1,none⟩=some (.int .i64 W.field.high)∧w.cell? ⟨g,2,none⟩=some (.slice a.P W.field.places.length a.p)∧
  w.cell? ⟨g,3,none⟩=some (.slice a.B W.bj.length a.b)∧w.cell? ⟨g,4,none⟩=some (.slice a.S W.bh.length a.s)∧w.cell? ⟨g,5,none⟩=some (.slice a.M W.bY.length a.m)∧w.cell? ⟨g,6,none⟩=some (.slice a.T W.ah.length a.t)∧
  w.cell? ⟨g,7,none⟩=some (.int .i64 W.next)∧w.cell? ⟨g,8,none⟩=some (.int .i64 W.now):=⟨h.cell 0,h.cell 1,h.cell 2,h.cell 3,h.cell 4,h.cell 5,h.cell 6,h.cell 7,h.cell 8⟩
end ae
open Tryz

theorem av.jr {f:av} {c:ai} (h:f.ground c=true):f.dV c=true:=by
 unfold av.ground at h;rw [aNa] at h;exact h.1
namespace ae
theorem YV {W:ae} (h:W.field.a7≠0):W.a7=W.field.a7:=by unfold a7;rw [aNd h]
theorem YW {W:ae} (h:W.field.a7=0) (τ:8<W.bj.length∨100<W.ah.length):W.a7=2:=by unfold a7;rw [aM4 (by simpa using h),aNd τ]
theorem Rt {W:ae} (h:W.field.a7=0) (τ:¬ (8<W.bj.length∨100<W.ah.length)):W.a7=if W.ng && W.nU && W.jS then 0 else 4:=by unfold a7;rw [aM4 (by simpa using h),aM4 τ]
end ae
theorem ae.axM {W:ae} (h:¬ W.bh.length=W.bj.length):W.ng=false:=by unfold ae.ng;rw [aNu h];rfl
theorem ae.UW {W:ae} {k:Nat} (aj:k<W.bj.length) (h:W.xc k=false):W.ng=false:=by
 unfold ae.ng;rw [aP2];right;rw [aPL];exact ⟨k,aND.2 aj,by rw [h];simp⟩
theorem ae.afB {W:ae} (h:W.bh.length=W.bj.length) (ha:∀ k,k<W.bj.length→W.xc k=true):W.ng=true:=by
 unfold ae.ng;rw [aNp h,aPO,aNJ];exact λ k aj=>ha k (aND.1 aj)
theorem ae.awf {W:ae} (h:¬ W.bY.length=W.field.places.length):W.nU=false:=by unfold ae.nU;rw [aNu h];rfl
theorem ae.ae3 {W:ae} {k:Nat} (aj:k<W.bY.length) (h:W.xd k=false):W.nU=false:=by
 unfold ae.nU;rw [aP2];right;rw [aPL];exact ⟨k,aND.2 aj,by rw [h];simp⟩
theorem ae.ae4 {W:ae} (h:W.bY.length=W.field.places.length) (ha:∀ k,k<W.bY.length→W.xd k=true):W.nU=true:=by
 unfold ae.nU;rw [aNp h,aPO,aNJ];exact λ k aj=>ha k (aND.1 aj)
theorem ae.sZ {W:ae} {k:Nat} (aj:k<W.ah.length) (h:W.xe k=false):W.jS=false:=by
 unfold ae.jS;rw [aP2];left;rw [aPL];exact ⟨k,aND.2 aj,by rw [h];simp⟩
def gL (id:Int) (t:a8):Bool:=t.id == id
def py (p:ai) (t:a8):Bool:=decide (t.spot=p)
def aBq (W:ae) (p:a8→Bool):Int:=if W.a7=0 then max (hi p W.ah) 0 else 0
def ahL (W:ae) (p:a8→Bool):Bool:=decide (W.a7=0) && decide (0≤hi p W.ah)
def awE (c:ai) (r:Int) (t:a8):Bool:=cM c.x (t.spot.x - r) (t.spot.x+r) && cM c.y (t.spot.y - r) (t.spot.y+r)
def aJN (W:ae) (c:ai) (r:Int):List Int:=(W.ah.filter (awE c r)).map (·.id)
def aJM (W:ae) (r:Int):Int:=if W.a7≠0 then W.a7 else if cM r 0 12 then 0 else 1
theorem SF {W:ae} (h:W.a7=0):W.field.a7=0∧W.bj.length≤8∧W.ah.length≤100∧W.ng=true∧W.nU=true∧W.jS=true:=by
 by_cases κ:W.field.a7=0
 ·by_cases τ:8<W.bj.length∨100<W.ah.length
  ·rw [ae.YW κ τ] at h;cases h
  ·rw [ae.Rt κ τ] at h;split at h
   ·rename_i aq
    rw [aNa,aNa] at aq;exact ⟨κ,by omega,by omega,aq.1.1,aq.1.2,aq.2⟩
   ·cases h
 ·rw [ae.YV κ] at h;exact absurd h κ
theorem NK {W:ae} (h:W.a7=0) {k:Nat} {t:a8} (aD:W.ah[k]? =some t):W.field.ground t.spot=true∧cM t.kind 1 2=true∧cM t.owner 0 ((W.bj.length:Int) - 1)=true∧cM t.df 1 (ae.hj t.kind)=true∧cM t.load 0 (ae.Az t.kind)=true∧(W.iE k).contains t.spot=false∧cM t.id (wrap64 (W.jc k+1)) (wrap64 (W.next - 1))=true:=by
 obtain ⟨aC,_,_,_,_,cy⟩:=SF h;unfold ae.jS at cy;rw [aNa,aNJ] at cy;have aj:=(aM2.1 aD).1;have ed:=cy.1 k (aND.2 aj);unfold ae.xe ae.Ku at ed;rw [aM0,aD] at ed;simp only [aN2,aNa,aOa] at ed;obtain ⟨⟨⟨⟨⟨⟨di,a2⟩,a3⟩,a4⟩,a5⟩,alb⟩,alc⟩:=ed;exact ⟨a4,di,a3,a5,alb,alc,a2⟩
open Tryz

theorem ae9 {W:ae} (h:W.a7=0):1≤W.next∧W.next≤1000000∧0≤W.now∧W.now≤1000000:=by
 obtain ⟨_,_,_,_,_,cy⟩:=SF h;unfold ae.jS at cy;rw [aNa,aNa] at cy;have a:=jw cy.2.1;have b:=jw cy.2.2;exact ⟨a.1,a.2,b.1,b.2⟩
theorem wrap_small {x:Int} (κ: -1000≤x) (τ:x≤2000000):wrap64 x=x:=by
 have h:=IntKind.wrap_i64 x;unfold wrap64;first | (rw [h];omega) | omega
theorem atv {W:ae} (h:W.a7=0):∀ (k:Nat) (t:a8),W.ah[k]? =some t→W.jc k<t.id∧t.id<W.next∧0≤W.jc k:=by
 obtain ⟨Cf,rM,_,_⟩:=ae9 h;intro k;induction k with
 | zero =>
  intro t aD;have ed:=jw (NK h aD).2.2.2.2.2.2;have e:W.jc 0=0:=rfl;rw [e] at ed ⊢;rw [wrap_small (by omega) (by omega),wrap_small (by omega) (by omega)] at ed;omega
 | succ k bu =>
  intro t aD;have bB:=(aM2.1 aD).1;obtain ⟨u,hu⟩:=jq (l:=W.ah) (i:=k) (by omega);have fx:=bu u hu;have ed:=jw (NK h aD).2.2.2.2.2.2;have e:W.jc (k+1)=u.id:=by
   unfold ae.jc;rw [aM4 (by omega),aM0,aQr,hu];rfl
  rw [e] at ed ⊢;rw [wrap_small (by omega) (by omega),wrap_small (by omega) (by omega)] at ed;omega
open Tryz
structure Mi (f:av) (gX:Nat) (t:a8):Prop where
 kind:t.kind=1∨t.kind=2
 owner:0≤t.owner∧t.owner<(gX:Int)
 ground:f.ground t.spot=true
 df:1≤t.df∧t.df≤ae.hj t.kind
 load:0≤t.load∧t.load≤ae.Az t.kind
structure Good (W:ae):Prop where
 field:W.field.a7=0
 gX:W.bj.length≤8
 dD:W.ah.length≤100
 sl:W.bh.length=W.bj.length
 bj:∀ (i:Nat) c,W.bj[i]? =some c→W.field.ground c=true∧(W.bj.take i).contains c=false
 bh:∀ (i:Nat) s,W.bh[i]? =some s→0≤s∧s≤1000000
 Ej:W.bY.length=W.field.places.length
 bY:∀ (i:Nat) m,W.bY[i]? =some m→0≤m∧m≤1000000∧(m≤0∨W.field.places.getD i 0=3)
 ah:∀ (i:Nat) t,W.ah[i]? =some t→Mi W.field W.bj.length t
 ids:∀ (i:Nat) t,W.ah[i]? =some t→W.jc i<t.id∧t.id<W.next∧0≤W.jc i
 iE:∀ (i:Nat) t,W.ah[i]? =some t→(W.iE i).contains t.spot=false
 next:1≤W.next∧W.next≤1000000
 now:0≤W.now∧W.now≤1000000
theorem Good.um {W:ae} (h:W.a7=0):Good W:=by
 obtain ⟨aC,fx,yu,hp,hm,aD⟩:=SF h;obtain ⟨Cf,rM,pA,qD⟩:=ae9 h;unfold ae.ng at hp;unfold ae.nU at hm;rw [aNa,aNJ] at hp hm;have yF:W.bh.length=W.bj.length:=by simpa using hp.1
 have N9:W.bY.length=W.field.places.length:=by simpa using hm.1
 refine ⟨aC,fx,yu,yF,λ i c hc=> ?_,λ i s hs=> ?_,N9,λ i m ak=> ?_,λ i t ak=> ?_,λ i t ak=>atv h i t ak,λ i t ak=>(NK h ak).2.2.2.2.2.1,⟨Cf,rM⟩,⟨pA,qD⟩⟩
 ·have bB:=(aM2.1 hc).1;have:=hp.2 i (aND.2 bB);unfold ae.xc at this;rw [aM0,hc] at this;simp only [aN2,aNa,aOa] at this;exact ⟨this.1.1,this.1.2⟩
 ·have bB:=(aM2.1 hs).1;have:=hp.2 i (aND.2 (by omega));unfold ae.xc at this;rw [aNa] at this;have τ:=jw this.2;rw [aM0,hs] at τ;exact τ
 ·have bB:=(aM2.1 ak).1;have:=hm.2 i (aND.2 bB);unfold ae.xd at this;rw [aM0,ak,aNa,aNG] at this;have τ:=jw this.1;refine ⟨τ.1,τ.2, ?_⟩;rcases this.2 with aq | aq
  ·exact .inl (by simpa using aq)
  ·exact .inr (by simpa using aq)
 ·obtain ⟨di,a2,a3,a4,a5,_,_⟩:=NK h ak;have fe:=jw a2;have gJ:=jw a3;have C_:=jw a4;have Mv:=jw a5;exact ⟨by omega,⟨gJ.1,by omega⟩,di,C_,Mv⟩
theorem Good.a7 {W:ae} (h:Good W):W.a7=0:=by
 have hp:W.ng=true:=ae.afB h.sl λ k aj=>by
  obtain ⟨c,hc⟩:=jq aj;obtain ⟨s,hs⟩:=jq (l:=W.bh) (i:=k) (by rw [h.sl];exact aj);unfold ae.xc;rw [aM0,hc,aM0,hs];have κ:=h.bj k c hc;have τ:=h.bh k s hs;simp only [aN2];rw [κ.1,κ.2,ml τ.1 τ.2];rfl
 have hm:W.nU=true:=ae.ae4 h.Ej λ k aj=>by
  obtain ⟨m,hm⟩:=jq aj;have κ:=h.bY k m hm;unfold ae.xd;rw [aM0,hm];simp only [aN2];rw [ml κ.1 κ.2.1,aPO,aNG];rcases κ.2.2 with aq | aq
  ·exact .inl (by simpa using aq)
  ·exact .inr (by simpa using aq)
 have aD:W.jS=true:=by
  unfold ae.jS;rw [ml h.next.1 h.next.2,ml h.now.1 h.now.2,Bool.and_true,Bool.and_true,aNJ];intro k aj;obtain ⟨t,aD⟩:=jq (aND.1 aj);have κ:=h.ah k t aD;have τ:=h.ids k t aD;have aq:=h.iE k t aD;have hn:=h.next;unfold ae.xe ae.Ku;rw [aM0,aD];simp only [aN2];have dv:cM t.kind 1 2=true:=by
   rcases κ.kind with h | h
   ·exact ml (by omega) (by omega)
   ·exact ml (by omega) (by omega)
  have ey:cM t.id (W.jc k+1) (W.next - 1)=true:=ml (by omega) (by omega);have jx:cM t.owner 0 ((W.bj.length:Int) - 1)=true:=ml κ.owner.1 (by have:=κ.owner.2;omega);rw [wrap_small (by omega) (by omega),wrap_small (by omega) (by omega),dv,ey,jx,aq,κ.ground,ml κ.df.1 κ.df.2,ml κ.load.1 κ.load.2];rfl
 rw [ae.Rt h.field (by have:=h.gX;have:=h.dD;omega),hp,hm,aD];rfl
open Tryz
structure bt (w:World) (aA:Nat) (a:ae.cW) (W:ae):Prop where
 P:bz.aM 3 8 w aA (Φ.ab a.P) a.P a.p W.field.places
 B:ai.rep.aM 98 16 w aA (Φ.ab a.B) a.B a.b W.bj
 S:bz.aM 3 8 w aA (Φ.ab a.S) a.S a.s W.bh
 M:bz.aM 3 8 w aA (Φ.ab a.M) a.M a.m W.bY
 T:a8.rep.aM 108 56 w aA (Φ.ab a.T) a.T a.t W.ah
 apart:(Φ.ab a.P++Φ.ab a.B++Φ.ab a.S++Φ.ab a.M++Φ.ab a.T).Nodup
 nums:dB W.field.wide∧dB W.field.high∧dB W.next∧dB W.now
theorem bt.has {w:World} {B:Nat} {a:ae.cW} {W:ae} (h:bt w B a W):ae.Has w a W:=⟨h.P.has,h.B.has,h.S.has,h.M.has,h.T.has,h.nums⟩
theorem bt.later {w w':World} {B:Nat} {a:ae.cW} {W:ae} (h:bt w B a W) (af:Below w.heap.size w w'):bt w' B a W:=⟨h.P.later af,h.B.later af,h.S.later af,h.M.later af,h.T.later af,h.apart,h.nums⟩
def bt.cA (a:ae.cW):List Nat:=Φ.ab a.P++Φ.ab a.B++Φ.ab a.S++Φ.ab a.M++Φ.ab a.T
theorem bt.lt {w:World} {B:Nat} {a:ae.cW} {W:ae} (h:bt w B a W):∀ g∈bt.cA a,B≤g∧g<w.heap.size:=by
 intro g aU;unfold bt.cA at aU;simp only [aNi] at aU;rcases aU with (((aU | aU) | aU) | aU) | aU
 ·exact h.P.lt g aU
 ·exact h.B.lt g aU
 ·exact h.S.lt g aU
 ·exact h.M.lt g aU
 ·exact h.T.lt g aU
theorem bt.other {w:World} {B:Nat} {a:ae.cW} {W:ae} (h:bt w B a W) {p:Addr} (hp:p.block∉bt.cA a) (u:Value):bt (w.setCell p u) B a W:=by
 unfold bt.cA at hp;simp only [aNi,not_or] at hp;exact ⟨h.P.other hp.1.1.1.1 u,h.B.other hp.1.1.1.2 u,h.S.other hp.1.1.2 u,h.M.other hp.1.2 u,h.T.other hp.2 u,h.apart,h.nums⟩
theorem GU {w:World} {B:Nat} {A:Option Addr} {α:Type} {R:Φ α} {E by_ c:Nat} {l:List α} (h:R.aM E by_ w B (Φ.ab A) A c l) {g:Nat} (aU:g<B):g∉Φ.ab A:=λ hm=>by have:=h.lt g hm;omega
theorem Cw {w:World} {g:Nat} {cX fo fU iq nn kc o1 jC np:Value} {t:TypeId} {ao:Nat×Nat} (h:aO w g [cX,fo,fU,iq,nn,kc,o1,jC,np] t ao):w.cell? ⟨g,0,none⟩=some cX∧w.cell? ⟨g,1,none⟩=some fo∧w.cell? ⟨g,2,none⟩=some fU∧w.cell? ⟨g,3,none⟩=some iq∧w.cell? ⟨g,4,none⟩=some nn∧w.cell? ⟨g,5,none⟩=some kc∧w.cell? ⟨g,6,none⟩=some o1∧w.cell? ⟨g,7,none⟩=some jC∧w.cell? ⟨g,8,none⟩=some np :=
 ⟨h.cell 0,h.cell 1,h.cell 2,h.cell 3,h.cell 4,h.cell 5,h.cell 6,h.cell 7,h.cell 8⟩
theorem Mq {dQ iO:List Nat} {n m:Nat} (κ:dQ.Nodup∧∀ g∈dQ,g<n) (τ:iO.Nodup) (aq:∀ g∈iO,n≤g∧g<m) (aG0:n≤m):(dQ++iO).Nodup∧∀ g∈dQ++iO,g<m:=by
 refine ⟨aNP.2 ⟨κ.1,τ,λ a ha b af e=> ?_⟩,λ g aU=> ?_⟩
 ·have:=κ.2 a ha;have:=(aq b af).1;omega
 ·rcases aNi.1 aU with aU | aU
  ·have:=κ.2 g aU;omega
  ·exact (aq g aU).2
theorem rb (A:Option Addr):(Φ.ab A).Nodup:=by cases A<;>simp [Φ.ab]
theorem awH {w:World} {g:Nat} {z0 ky z2 z3 z4 z5 aBX aBY aBZ:Value} {t:TypeId} {ao:Nat×Nat} (h:aO w g [z0,ky,z2,z3,z4,z5,aBX,aBY,aBZ] t ao) (cX fo fU iq nn kc o1 jC np:Value):aO (((((((((w.setCell ⟨g,0,none⟩ cX).setCell ⟨g,1,none⟩ fo).setCell ⟨g,2,none⟩ fU).setCell ⟨g,3,none⟩ iq).setCell ⟨g,4,none⟩ nn).setCell ⟨g,5,none⟩ kc).setCell ⟨g,6,none⟩ o1).setCell ⟨g,7,none⟩ jC).setCell ⟨g,8,none⟩ np) g [cX,fo,fU,iq,nn,kc,o1,jC,np] t ao :=
 (((((((((h.set 0 cX).set 1 fo).set 2 fU).set 3 iq).set 4 nn).set 5 kc).set 6 o1).set 7 jC).set 8 np)
theorem bt.nine {w:World} {aA:Nat} {a:ae.cW} {W:ae} {g:Nat} (h:bt w aA a W) (aU:g∉bt.cA a) (cX fo fU iq nn kc o1 jC np:Value):bt (((((((((w.setCell ⟨g,0,none⟩ cX).setCell ⟨g,1,none⟩ fo).setCell ⟨g,2,none⟩ fU).setCell ⟨g,3,none⟩ iq).setCell ⟨g,4,none⟩ nn).setCell ⟨g,5,none⟩ kc).setCell ⟨g,6,none⟩ o1).setCell ⟨g,7,none⟩ jC).setCell ⟨g,8,none⟩ np) aA a W :=
 (((((((((h.other (p:=⟨g,0,none⟩) aU cX).other (p:=⟨g,1,none⟩) aU fo).other (p:=⟨g,2,none⟩) aU fU).other (p:=⟨g,3,none⟩) aU iq).other (p:=⟨g,4,none⟩) aU nn).other (p:=⟨g,5,none⟩) aU kc).other (p:=⟨g,6,none⟩) aU o1).other (p:=⟨g,7,none⟩) aU jC).other (p:=⟨g,8,none⟩) aU np)
theorem alB {w0 w:World} {aA g:Nat} (h:Below aA w0 w) (aU:aA≤g) (cX fo fU iq nn kc o1 jC np:Value):Below aA w0 (((((((((w.setCell ⟨g,0,none⟩ cX).setCell ⟨g,1,none⟩ fo).setCell ⟨g,2,none⟩ fU).setCell ⟨g,3,none⟩ iq).setCell ⟨g,4,none⟩ nn).setCell ⟨g,5,none⟩ kc).setCell ⟨g,6,none⟩ o1).setCell ⟨g,7,none⟩ jC).setCell ⟨g,8,none⟩ np):=
 (((((((((h.setCell (p:=⟨g,0,none⟩) aU cX).setCell (p:=⟨g,1,none⟩) aU fo).setCell (p:=⟨g,2,none⟩) aU fU).setCell (p:=⟨g,3,none⟩) aU iq).setCell (p:=⟨g,4,none⟩) aU nn).setCell (p:=⟨g,5,none⟩) aU kc).setCell (p:=⟨g,6,none⟩) aU o1).setCell (p:=⟨g,7,none⟩) aU jC).setCell (p:=⟨g,8,none⟩) aU np)
def XU (w nk:World) (eZ:Option Addr) (nd:Nat) (W:ae) (fv:Option Addr) (fz:Nat) (eP:Option Addr) (eW rM:Nat):Prop :=
 ∃ (et:Option Addr) (lK:Nat) (ez:Option Addr) (lU pA qD:Nat),aO nk w.heap.size [.int .i64 W.field.wide, .int .i64 W.field.high, .slice eZ W.field.places.length nd, .slice et W.bj.length lK, .slice ez W.bh.length lU, .slice fv W.bY.length fz, .slice eP W.ah.length eW, .int .i64 W.next, .int .i64 W.now] 52 (0,0)∧
  aO nk (w.heap.size+1) [.int .i64 0, .int .i64 0, .slice none 0 0, .slice none 0 0, .slice none 0 0, .slice none 0 0, .slice none 0 0, .int .i64 0, .int .i64 0] 52 (0,0)∧bz.aM 3 8 nk w.heap.size (Φ.ab eZ) eZ nd W.field.places∧ai.rep.aM 98 16 nk rM (Φ.ab et) et lK W.bj∧bz.aM 3 8 nk pA (Φ.ab ez) ez lU W.bh∧
  (∀ g∈Φ.ab et,rM≤g∧g<pA)∧(∀ g∈Φ.ab ez,pA≤g∧g<qD)∧Below w.heap.size w nk∧rM≤pA∧pA≤qD∧qD=nk.heap.size
open Tryz
section
section
variable {α:Type} {p:α→Bool} {l L:List α} {d:α} {i j k:Nat}
theorem mr (h:k<l.length):l.getD k d∈l:=by rw [aM0,aM3 h];exact aOg h
theorem oz (h:k<l.length):l.getD k d=l[k]:=by rw [aM0,aM3 h];rfl
theorem atD (h:∀ i,i<l.length→p (l.getD i d)=false):hi p l= -1:=GD λ j aw=>by rw [← oz (d:=d) aw];exact h j aw
theorem atF (aj:k<l.length) (κ:p (l.getD k d)=true) (h:∀ i,i<k→p (l.getD i d)=false):hi p l=(k:Int):=
 JV aj (by rw [← oz (d:=d) aj];exact κ) λ j aw=>by rw [← oz (d:=d) (by omega:j<l.length)];exact h j aw
theorem AI (h:k<l.length):l.take (k+1)=l.take k++ [l.getD k d]:=by rw [aNs h,oz h]
end
end
theorem DI {w:World} {cs:List Value} {a:ByteArray} (h:e_.has w cs a):cs= [.string a]:=aPs (show cs= [.string a]∧a.size≤140737488351232 from h)
theorem Er:∀ (j:Nat) u,(Value.string .empty).cells[j]? =some u→e_.raw j u:=by
 intro j u hu;have hu:(#[(Value.string .empty:Value)]:Array Value)[j]? =some u:=hu
 match j,hu with
 | 0,hu=>exact ⟨_,(aNf hu).symm,by decide⟩
 | j+1,hu=>cases hu
theorem DW:(prog.info? 9).map (λ i=>(i.zero,i.size,i.bytes))=some (some (.string .empty),1,16):=by kernel_rfl
end Go.Proofs.YthlpmldmhakhaaaGreatDoor
