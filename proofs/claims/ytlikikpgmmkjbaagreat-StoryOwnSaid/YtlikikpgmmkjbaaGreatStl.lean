import Derived.Test.YtlikikpgmmkjbaaGreatOrw
set_option linter.unusedVariables false
set_option linter.unusedSimpArgs false
set_option maxRecDepth 100000
set_option maxHeartbeats 4000000
namespace Go.Proofs.YtlikikpgmmkjbaaGreat
open Tryz
section
open Go.RowKit
theorem afR:Fa prog aI.cells 51 :=by
 intro a b w;obtain ⟨a0,b7,a2,⟨a3,a4⟩,a5⟩:=a;obtain ⟨FG,kR,eF,⟨fK,wS⟩,C1⟩:=b;simp only [aI.cells,aI.mk.injEq,ar.mk.injEq];constructor
 ·go_simp
  repeat' split
  all_goals simp_all
 ·go_simp
  repeat' split
  all_goals simp_all
theorem afQ:(prog).eqGuardType (prog).depth 51 =false:=by kernel_rfl
theorem V9 {α:Type} (n:Nat):∀ (q:Nat) (l:List α),l.length=q * n→((List.finRange q).flatMap λ k=>(l.drop (k.1 * n)).take n)=l
 | 0,l,h=>by
  have:l= []:=List.eq_nil_of_length_eq_zero (by omega);subst this;rfl
 | q+1,l,h=>by
  rw [Nat.succ_mul] at h;have bk:=V9 n q (l.drop n) (by rw [List.length_drop];omega);rw [List.finRange_succ,List.flatMap_cons,List.flatMap_map];have e:(λ k:Fin q=>(l.drop (k.succ.1 * n)).take n)=λ k:Fin q=>((l.drop n).drop (k.1 * n)).take n:=by
   funext k
   rw [List.drop_drop];congr 2;show (k.1+1) * n=_;rw [Nat.succ_mul];omega
  show (l.drop (0 * n)).take n++((List.finRange q).flatMap λ k:Fin q=>(l.drop (k.succ.1 * n)).take n)=l;rw [e,bk,Nat.zero_mul,List.drop_zero,List.take_append_drop]
theorem LG (o:aI) (l:List aI):nums (o::l)=o.by_::o.kind::o.aL::o.spot.x::o.spot.y::o.what::nums l:=rfl
theorem abB:∀ {a b:List aI},nums a=nums b→a=b
 | [], [],_=>rfl
 | [],o::b,h=>by rw [LG] at h;exact nomatch h
 | o::a, [],h=>by rw [LG] at h;exact nomatch h
 | o::a,p::b,h=>by
  rw [LG,LG] at h;injection h with γ h
  injection h with aa h
  injection h with au h
  injection h with a1 h
  injection h with bO h
  injection h with b_ h
  have e:o=p:=by
   obtain ⟨b7,a2,a3,⟨a4,a5⟩,NI⟩:=o;obtain ⟨c1,c2,c3,⟨c4,c5⟩,c'⟩:=p;simp only at γ aa au a1 bO b_;subst γ aa au a1 bO b_;rfl
  rw [e,abB h]
theorem apq {l:List Int} (h:l.length=6): [l.getD 0 0,l.getD 1 0,l.getD 2 0,l.getD 3 0,l.getD 4 0,l.getD 5 0]=l:=by
 match l,h with
 | [a,b,c,d,e,f],_=>rfl
theorem aqv {out:List Int} {q:Nat} (h:out.length=q * 6):nums (Ec out q)=out:=by
 have e:nums (Ec out q)=(List.finRange q).flatMap λ k=>(out.drop (k.1 * 6)).take 6:=by
  unfold nums Ec;rw [List.flatMap_map];have bc:(λ k:Fin q=> [(uy (ew out k.1)).by_,(uy (ew out k.1)).kind,(uy (ew out k.1)).aL,(uy (ew out k.1)).spot.x,(uy (ew out k.1)).spot.y,(uy (ew out k.1)).what])=λ k:Fin q=>(out.drop (k.1 * 6)).take 6:=by
   funext k
   have av:=k.2;have b_:=V8 (l:=out) (k:=k.1) (by omega);have dW:ew out k.1=(out.drop (k.1 * 6)).take 6:=by unfold ew;congr 1;omega
   rw [← dW];exact apq b_
  exact congrArg (λ f=>(List.finRange q).flatMap f) bc
 rw [e];exact V9 6 q out h
theorem aqu {l:List aI} (h:∀ o∈l,o.ok):pU (nums l):=by
 intro x hx;obtain ⟨o,bJ,hx⟩:=List.mem_flatMap.1 hx;obtain ⟨BV,nc,kk,lC,ml,nZ⟩:=h o bJ;simp only [List.mem_cons,List.not_mem_nil,or_false] at hx;rcases hx with rfl | rfl | rfl | rfl | rfl | rfl
 ·exact bt.1 BV
 ·exact bt.1 nc
 ·exact bt.1 kk
 ·exact bt.1 lC
 ·exact bt.1 ml
 ·exact bt.1 nZ
theorem aqX {l m:List aI} {k:Int} (h:iT l=0) (cV:∀ o∈l,o.ok) (hR:Nz (gS l) m k):k=0∧m=l:=by
 have hw:=SY h;have hn:=LH l;have tF:=(HI h).1;have bJ:k_.kl (gS l)=(Pack.strOf (Pack.oB (nums l)),0):=by rw [hw];exact k_.aqO _
 have I:(nums l).length=l.length * 6:=by omega
 have hf:BX (nums l)=l:=by
  rw [HJ I];exact abB (aqv I)
 rcases hR with ⟨γ,_⟩ | ⟨_,out,j,bq,aa⟩
 ·rw [bJ] at γ;exact absurd Z γ
 ·rw [bJ] at bq;obtain ⟨ay,rfl⟩:=Pack.alm (aqu cV) (by omega) bq;rcases aa with ⟨au,_⟩ | ⟨_,au,_⟩ | ⟨_,_,⟨au,_⟩ | ⟨au,a1,bO⟩⟩
  ·exact absurd ay au
  ·omega
  ·rw [hf] at au;exact absurd h au
  ·exact ⟨bO,by rw [a1,hf]⟩
theorem aeb (l:List aI):(gS l).size≤140737488351232:=by
 by_cases h:iT l=0
 ·have γ:=(HI h).1;have aa:=LH l;have au:=Pack.ab4 (nums l);rw [SY h,k_.L1,Pack.Es];omega
 ·rw [aea h];decide
def aDA:List aI:= [⟨1,2,7,⟨2, -1⟩,0⟩]
theorem OQ (A B:Option Addr) (c d kR eF:Nat) (l m:List aI) (w:World) (γ:aI.rep.aH kR w A c l) (aa:aI.rep.aH eF w B d m):
  Calls prog 19 #[.slice A l.length c, .slice B m.length d] w (λ e w'=>e= .returned (.bool (decide (l=m)))∧Ext w w'):=by
 have hle:=γ.ez;refine cv (n:=26) func19 Z Z Z ?_;refine aj<|va Z<|ah<|aD<|aj<|vm Z<|J (cW underlying44 Z)<|vm Z<|J (cW underlying44 Z)<|J (bne Z Z)<|ah<| ?_;refine hg Z (λ ll=> ?_) (λ ll=> ?_)
 ·refine aj<|va Z<|ah<|rt<|cf<|bp (.tmp Z .nil)<| ?_;rw [decide_eq_false (λ e=>ll (by rw [e]))];exact ⟨Z,(Ext.bM w)⟩
 ·refine bx<|aD<|aj<|vm Z<|J (cW underlying44 Z)<|vm Z<|ah<|bP<| ?_;refine fe (λ ck ch aS=>∃ k:Nat,ch= [(0, .slice A l.length c),(1, .slice B m.length d),(12, .int .i64 (l.length:Int)),(13, .int .i64 (k:Int))]∧ck=l.length - k∧Ext w aS∧(k≤l.length)∧(∀ j,j<k→l[j]? =m[j]?)) _ _ ⟨0,Z,Z,(Ext.bM w),by omega,λ j ay=>absurd ay (by omega)⟩ (.cons Z (.cons Z (.cons Z (.cons (bX Z (by first | omega | rfl | (simp<;>omega))) .nil)))) ?_;rintro D9 CN qs ⟨k,rfl,rfl,c0,av,gP⟩;have:=c0.size;have hle:=γ.ez;have Qk:=aa.ez;refine aj<|J (blt Z Z)<|ah<|aD<| ?_;refine ef Z (λ l9=> ?_) (λ l9=> ?_)
  ·obtain ⟨eh,iE⟩:=gg (l:=l) (i:=k) (by omega);obtain ⟨pL,tX⟩:=gg (l:=m) (i:=k) (by omega);refine bx<|aD<|bP<|aj<|vm Z<|va Z<|ah<|aD<| ?_;refine rd [(3,0),(7,0)] [0,1,2,3,4,5,6,7,8] (by kernel_rfl) (by kernel_rfl) ?_;refine aq Z (λ _=>aJ Z)<|aq Z (λ _=>aJ Z)<|aq Z (λ _=>bY k underlying44 e6 Z Z ((γ.keep c0).bA (a8 k (by omega))) Z (by omega))<|bD Z (λ _ x=>ak Z (κ.aH.ic Gr ((γ.keep (τ c0 x)).cL (a8 k (by omega))) iE je e6))<|aq Z (λ _=>aJ Z)<|aq Z (λ _=>aJ Z)<|aq Z (λ _=>bY k underlying44 e6 Z Z ((aa.keep c0).bA (a8 k (by omega))) Z (by omega))<|bD Z (λ _ x=>ak Z (κ.aH.ic Gr ((aa.keep (τ c0 x)).cL (a8 k (by omega))) tX je e6))<|aq Z (λ _=>Jx afR afQ (p:=eh) (q:=pL) Z Z)<|fn λ xY iZ=> ?_;have:=iZ.size;have j7:=τ c0 iZ;refine a6<| ?_;refine fk Z (λ ig=> ?_) (λ ig=> ?_)
   ·refine aj<|va Z<|ah<|rt<|gF<|cf<|sA<|gF<|cf<|bp (.tmp Z .nil)<| ?_;rw [decide_eq_false (λ e=>by rw [e,tX] at iE;injection iE with iE;exact absurd iE.symm (by first | exact Ro ig | exact ig))];exact ⟨Z,j7⟩
   ·refine hk<|cg<|a6<|rg<|J (bad Z Z (bF (by omega)))<|vm Z<|nl<| ?_;exact du _ _ ⟨k+1,Z,Z,j7,by omega,vE gP (by rw [iE,tX,(by first | exact OP ig | exact ig:eh=pL)])⟩ (by omega) (.cons Z (.cons Z (.cons Z (.cons (bX Z (by first | omega | rfl | (simp<;>omega))) .nil))))
  ·refine dG<|dF<|eb<|dE<|a6<|aj<|va Z<|ah<|rt<|bp (.tmp Z .nil)<| ?_;rw [decide_eq_true (OO (by omega) (by omega) gP)];exact ⟨Z,c0⟩
end
section
open Go.RowKit
theorem YC {w:World} {cs:List Value} {a:ByteArray} (h:pE.has w cs a):cs= [.string a]:=And.left (show cs= [.string a]∧a.size≤140737488351232 from h)
theorem asq:∀ (j:Nat) u,(Value.string .empty).cells[j]? =some u→pE.raw j u:=by
 intro j u hu;have hu:(#[(Value.string .empty:Value)]:Array Value)[j]? =some u:=hu
 match j,hu with
 | 0,hu=>exact ⟨_,(Option.some.inj hu).symm,by decide⟩
 | j+1,hu=>cases hu
theorem aoz:(prog.info? 9).map (λ i=>(i.zero,i.size,i.bytes))=some (some (.string .empty),1,16):=by kernel_rfl
end
end Go.Proofs.YtlikikpgmmkjbaaGreat
set_option linter.unusedVariables false
set_option linter.unusedSimpArgs false
namespace Go.Proofs.YtlikikpgmmkjbaaGreat.Tree
open Tryz
open Go.RowKit Go.Proofs.YtlikikpgmmkjbaaGreat Go.Proofs.YtlikikpgmmkjbaaGreat.hO Go.Proofs.YtlikikpgmmkjbaaGreat.Mark

theorem asD (A:Option Addr) (n c:Nat) (l:List ByteArray) (w:World) (mO:n≤256) (ph:n≤c) (hc:c≤9223372036854775807) (hs:AQ l) (hr:Rd w 1 A n (l2 l)):
  Calls prog 53 #[.slice A n c] w fun e w'=>e= .returned (.tuple #[.int .u64 (U (iq (lists l))), .int .i64 0])∧∃ q,w'=w.drewN q:=by
 have anK:=R0 n A n c l w (Nat.le_refl _) mO ph hc hs hr;generalize iq (lists l)=z at *
 go_enter func53,ntmps53;go_wp2_with fail
 refine anK.mono ?_;rintro e w' ⟨rfl,q,rfl⟩;go_wp2_with fail
 go_ret2
 exact ⟨Z,q,Z⟩
def Dr (k:Nat):Nat→List (List UInt8)→List bV
 | 0,_=> []
 | e+1,l=>if k.testBit e then iq (l.take (2 ^ e))::Dr k e (l.drop (2 ^ e)) else Dr k e l
def jS (l:List bV):List Value:=l.map fun x=>Value.int .u64 (U x)
theorem C7 (l:List bV):(jS l).length=l.length:=by unfold jS;simp
theorem JH (l:List bV) (i:Nat) (h:i<l.length):(jS l)[i]? =some (.int .u64 (U l[i])):=by unfold jS;simp [h]
theorem V2 (l:List bV) (x:bV):jS (l++ [x])=jS l++ [.int .u64 (U x)]:=by unfold jS;simp
def GW (_:Nat) (u:Value):Prop:=∃ n:Int,u= .int .u64 n
theorem aox:(prog.info? 41).map (fun i=>(i.zero,i.size,i.bytes))=some (some (.int .u64 0),1,8):=by kernel_rfl
def axu (k:Nat) (l:List ByteArray) (w:World) (e:Ending) (w':World):Prop :=
 ∃ A c,e= .returned (.tuple #[.slice A (Dr k 9 (lists l)).length c, .int .i64 0])∧Own w' w.heap.size 41 1 GW (.slice A (Dr k 9 (lists l)).length c) (Dr k 9 (lists l)).length (jS (Dr k 9 (lists l)))∧Below w.heap.size w w'
end Go.Proofs.YtlikikpgmmkjbaaGreat.Tree
namespace Go.Proofs.YtlikikpgmmkjbaaGreat
open Tryz
end Go.Proofs.YtlikikpgmmkjbaaGreat
set_option linter.unusedVariables false
set_option linter.unusedSimpArgs false
namespace Go.Proofs.YtlikikpgmmkjbaaGreat.Tree
open Tryz
open Go.RowKit Go.Proofs.YtlikikpgmmkjbaaGreat Go.Proofs.YtlikikpgmmkjbaaGreat.hO Go.Proofs.YtlikikpgmmkjbaaGreat.Mark
def aoJ:List bV→bV
 | []=>0#64
 | x::r=>match r with
  | []=>x
  | y::t=>pA x (aoJ (y::t))
def axv (w:World) (e:Ending) (w':World):Prop:=∃ (A:Option Addr) (n c:Nat) (k:Int),e= .returned (.tuple #[.slice A n c, .int .i64 k])∧Below w.heap.size w w'
def GS (_:Nat) (u:Value):Prop:=∃ s:ByteArray,u= .string s
def awL (w:World) (n:Nat) (l:List ByteArray) (e:Ending) (w':World):Prop :=
 ∃ A c,e= .returned (.slice A n c)∧Own w' w.heap.size 9 1 GS (.slice A n c) n (l2 l)∧Below w.heap.size w w'
end Go.Proofs.YtlikikpgmmkjbaaGreat.Tree
namespace Go.Proofs.YtlikikpgmmkjbaaGreat
open Tryz
end Go.Proofs.YtlikikpgmmkjbaaGreat
set_option linter.unusedVariables false
set_option linter.unusedSimpArgs false
namespace Go.Proofs.YtlikikpgmmkjbaaGreat.Tree
open Tryz
open Go.RowKit Go.Proofs.YtlikikpgmmkjbaaGreat Go.Proofs.YtlikikpgmmkjbaaGreat.hO Go.Proofs.YtlikikpgmmkjbaaGreat.Mark
def jT:Nat→bV→Nat→Nat→List bV→bV×Bool
 | 0,m,_,_,t=>(m,t.isEmpty)
 | f+1,m,at_,n,t =>
  if n=1 then (m,t.isEmpty) else
  match t.getLast? with
  | none=>(0#64,false)
  | some x=>if at_<bu n then (pA (jT f m at_ (bu n) t.dropLast).1 x,(jT f m at_ (bu n) t.dropLast).2)
   else (pA x (jT f m (at_ - bu n) (n - bu n) t.dropLast).1,(jT f m (at_ - bu n) (n - bu n) t.dropLast).2)
theorem Rd.init {w:World} {A:Option Addr} {k:Nat} {t:List bV} (h:Rd w 1 A (k+1) (jS t)):Rd w 1 A k (jS t.dropLast):=by
 have az:t.length=k+1:=by have:=h.1;rw [C7] at this;omega
 refine ⟨by rw [C7,List.length_dropLast];omega,fun aE=> ?_⟩;obtain ⟨b,o,e,hc⟩:=h.2 (by omega);refine ⟨b,o,e,fun j u hu=>hc j u ?_⟩;have ay:j<t.dropLast.length:=by have:=(List.getElem?_eq_some_iff.1 hu).1;rwa [C7] at this
 rw [JH _ j ay] at hu;rw [JH t j (by rw [List.length_dropLast] at ay;omega),← hu,List.getElem_dropLast]
def ae7 (w:World) (r:bV×Bool) (e:Ending) (w':World):Prop:=e= .returned (.tuple #[.int .u64 (U r.1), .bool r.2])∧w=w'
theorem ahP (f:Nat):∀ (m:bV) (at_ n:Nat) (A:Option Addr) (k c:Nat) (t:List bV) (w:World),n≤f→1≤n→n≤256→at_<n→k≤c→c≤9223372036854775807→Rd w 1 A k (jS t)→
  Calls prog 82 #[.int .u64 (U m), .int .i64 (at_:Int), .int .i64 (n:Int), .slice A k c] w (ae7 w (jT f m at_ n t)):=by
 induction f with
 | zero=>intro m at_ n A k c t w γ aa;omega
 | succ f bk =>
  intro m at_ n A k c t w hf γ mO dz KO hc hr;have az:t.length=k:=by have:=hr.1;rw [C7] at this;omega
  by_cases hn:n=1
  ·subst hn;have he:jT (f+1) m at_ 1 t=(m,t.isEmpty):=by rw [jT,if_pos rfl]
   have hd:t.isEmpty=((k:Int)== 0):=by
    rw [← az];cases t with
    | nil=>rfl
    | cons x r=>simp;omega
   rw [he,hd];clear bk hr he hd az;have nQ:(((1:Nat):Int)== 1)=true:=rfl;go_enter func82,ntmps82;go_wp2_with fail
   go_ret2
   exact ⟨Z,Z⟩
  ·have Bx:((n:Int)== 1)=false:=by rw [beq_eq_false_iff_ne];omega
   cases k with
   | zero =>
    have aA:t= []:=List.eq_nil_of_length_eq_zero az;subst aA;have he:jT (f+1) m at_ n []=(0#64,false):=by rw [jT,if_neg hn];rfl
    rw [he];clear bk hr he az hn;go_enter func82,ntmps82;go_wp2_with fail
    go_ret2
    exact ⟨Z,Z⟩
   | succ k =>
    obtain ⟨b,o,rfl,P2⟩:=hr.2 (by omega);have rb:=zJ (n:=n) (by omega);have xp:=Ep n (by omega) mO;have KR:t.getLast? =some (t[k]'(by omega)):=by rw [List.getLast?_eq_getElem?,show t.length - 1=k from by omega,List.getElem?_eq_getElem (by omega)]
    have hx:=P2 k _ (JH t k (by omega));have cM:=Rd.init hr;have he:jT (f+1) m at_ n t=if at_<bu n then (pA (jT f m at_ (bu n) t.dropLast).1 (t[k]'(by omega)),(jT f m at_ (bu n) t.dropLast).2)
      else (pA (t[k]'(by omega)) (jT f m (at_ - bu n) (n - bu n) t.dropLast).1,(jT f m (at_ - bu n) (n - bu n) t.dropLast).2):=by
     rw [jT,if_neg hn,KR]
    rw [he];generalize t[k]'(by omega)=x at *
    by_cases bl:at_<bu n
    ·rw [if_pos bl];have DI:=bk m at_ (bu n) (some ⟨b,o,none⟩) k c t.dropLast w (by omega) rb.1 (by omega) bl (by omega) hc cM;obtain ⟨y,ok,aG⟩:∃ y ok,jT f m at_ (bu n) t.dropLast=(y,ok):=⟨_,_,rfl⟩;rw [aG] at DI ⊢;have hp:=RA y x;simp only [];generalize pA y x=z at *
     have Qy:bu n<n:=rb.2.1;clear he KR cM P2 bk hr aG az rb hn;generalize bu n=s at *
     go_enter func82,ntmps82;go_wp2_with fail
     refine (xp _).mono ?_;rintro e w' ⟨rfl,rfl⟩;go_wp2_with fail
     refine DI.mono ?_;rintro e w' ⟨rfl,rfl⟩;go_wp2_with fail
     refine (hp _).mono ?_;rintro e w' ⟨rfl,rfl⟩;go_wp2_with fail
     go_ret2
     exact ⟨Z,Z⟩
    ·rw [if_neg bl];have DI:=bk m (at_ - bu n) (n - bu n) (some ⟨b,o,none⟩) k c t.dropLast w (by omega) (by omega) (by omega) (by omega) (by omega) hc cM;obtain ⟨y,ok,aG⟩:∃ y ok,jT f m (at_ - bu n) (n - bu n) t.dropLast=(y,ok):=⟨_,_,rfl⟩;rw [aG] at DI ⊢;have hp:=RA x y;simp only [];generalize pA x y=z at *
     have Qy:bu n<n:=rb.2.1;have tP:((at_ - bu n:Nat):Int)=(at_:Int) - (bu n:Int):=by omega
     have Gp:((n - bu n:Nat):Int)=(n:Int) - (bu n:Int):=by omega
     rw [tP,Gp] at DI;clear he KR cM P2 bk hr aG az rb hn tP Gp;generalize bu n=s at *
     go_enter func82,ntmps82;go_wp2_with fail
     refine (xp _).mono ?_;rintro e w' ⟨rfl,rfl⟩;go_wp2_with fail
     refine DI.mono ?_;rintro e w' ⟨rfl,rfl⟩;go_wp2_with fail
     refine (hp _).mono ?_;rintro e w' ⟨rfl,rfl⟩;go_wp2_with fail
     go_ret2
     exact ⟨Z,Z⟩
def zd (root:bV) (s:List UInt8) (at_ n:Nat) (t:List bV):Bool:=(jT n (qb s) at_ n t).2 && decide ((jT n (qb s) at_ n t).1=root)
theorem ans (root:bV) (s:ByteArray) (hs:s.size≤9223372036854775807) (at_ n:Nat) (A:Option Addr) (k c:Nat) (t:List bV) (w:World) (γ:1≤n) (mO:n≤256) (dz:at_<n) (KO:k≤c) (hc:c≤9223372036854775807) (hr:Rd w 1 A k (jS t)):
  Calls prog 54 #[.int .u64 (U root), .string s, .int .i64 (at_:Int), .int .i64 (n:Int), .slice A k c] w fun e w'=>e= .returned (.tuple #[.bool (zd root s.data.toList at_ n t), .int .i64 0])∧∃ q,w'=w.drewN q:=by
 have KS:=zm s hs;have om:=fun q=>ahP n (qb s.data.toList) at_ n A k c t (w.drewN q) (Nat.le_refl _) γ mO dz KO hc (hr.drewN q);unfold zd;obtain ⟨y,ok,aG⟩:∃ y ok,jT n (qb s.data.toList) at_ n t=(y,ok):=⟨_,_,rfl⟩;rw [aG] at om ⊢;generalize qb s.data.toList=aCd at *
 have he:(U y == U root)=decide (y=root):=by
  by_cases h:y=root
  ·subst h;simp
  ·rw [decide_eq_false h,beq_eq_false_iff_ne];exact fun e=>h (agn e)
 clear hr aG;simp only [];rw [← he];have ia:=Lib.hid he;clear he;cases ok with
 | false =>
  rw [Bool.false_and];go_enter func54,ntmps54;go_wp2_with fail
  refine (KS _).mono ?_;rintro e w' ⟨rfl,q,rfl⟩;go_wp2_with fail
  refine (om q).mono ?_;rintro e w' ⟨rfl,rfl⟩;go_wp2_with fail
  go_ret2
  exact ⟨Z,q,Z⟩
 | true =>
  rw [Bool.true_and];go_enter func54,ntmps54;go_wp2_with fail
  refine (KS _).mono ?_;rintro e w' ⟨rfl,q,rfl⟩;go_wp2_with fail
  refine (om q).mono ?_;rintro e w' ⟨rfl,rfl⟩;go_wp2_with fail
  go_ret2
  exact ⟨Z,q,Z⟩
end Go.Proofs.YtlikikpgmmkjbaaGreat.Tree
namespace Go.Proofs.YtlikikpgmmkjbaaGreat
open Tryz
end Go.Proofs.YtlikikpgmmkjbaaGreat
set_option linter.unusedVariables false
set_option linter.unusedSimpArgs false
namespace Go.Proofs.YtlikikpgmmkjbaaGreat.Tree
open Tryz
open Go.RowKit Go.Proofs.YtlikikpgmmkjbaaGreat Go.Proofs.YtlikikpgmmkjbaaGreat.hO Go.Proofs.YtlikikpgmmkjbaaGreat.Mark

def jr:Nat→List (List UInt8)→Nat→List bV
 | 0,_,_=> []
 | f+1,l,at_=>if l.length=1 then [] else
  if at_<bu l.length then jr f (l.take (bu l.length)) at_++ [iq (l.drop (bu l.length))]
  else jr f (l.drop (bu l.length)) (at_ - bu l.length)++ [iq (l.take (bu l.length))]
def Jc (w:World) (t:List bV) (e:Ending) (w':World):Prop:=∃ A c,e= .returned (.slice A t.length c)∧Own w' w.heap.size 41 1 GW (.slice A t.length c) t.length (jS t)∧Below w.heap.size w w'
theorem Sn (f:Nat) (l:List (List UInt8)) (at_:Nat):(jr f l at_).length≤f:=by
 induction f generalizing l at_ with
 | zero=>simp [jr]
 | succ f bk =>
  rw [jr];split
  ·simp
  ·split
   ·have:=bk (l.take (bu l.length)) at_;simp;omega
   ·have:=bk (l.drop (bu l.length)) (at_ - bu l.length);simp;omega
theorem acp (w:World) (x:bV) (q:Nat):Rd ((w.alloc (.cells #[.int .u64 (U x)] 41)).drewN q) 1 (some ⟨w.heap.size,0,none⟩) 1 [.int .u64 (U x)] :=
 Rd.drewN ⟨rfl,fun _=>⟨w.heap.size,0,rfl,fun q u I=>by
  match q,I with
  | 0,I=>simp at I;subst I;simp⟩⟩ q
theorem X5:∀ j u,(Value.int .u64 0).cells[j]? =some u→GW j u:=fun j u hu=>by match j,hu with | 0,hu=>exact ⟨0,(Option.some.inj hu).symm⟩
theorem abK {x:bV}:∀ u∈ [Value.int .u64 (U x)],u.oneCell'=true:=by intro u hu;simp at hu;subst hu;rfl
theorem X4 {x:bV}:∀ j u, [Value.int .u64 (U x)][j]? =some u→GW (j % 1) u:=fun q u I=>by match q,I with | 0,I=>exact ⟨_,(Option.some.inj I).symm⟩
theorem adg {w kG kp:World} {x:bV} {q n:Nat} {EB:Value} {xs:List Value} (xh:Below w.drew.heap.size w.drew kG)
  (bJ:Own ((kG.alloc (.cells #[.int .u64 (U x)] 41)).drewN q) w.heap.size 41 1 GW EB n xs) (aO:((kG.alloc (.cells #[.int .u64 (U x)] 41)).drewN q).grownBy kp EB.ownBlock):Below w.heap.size w kp:=by
 have γ:Below w.heap.size w kG:=((Below.refl w.heap.size w).drew).trans xh;have aa:=below_drewN (γ.alloc γ.size (.cells #[.int .u64 (U x)] 41)) q;exact aa.grown aO aa.size (fun k av=>(bJ.row.lt k av).1)
theorem atO (f:Nat):∀ (A:Option Addr) (n c at_:Nat) (l:List ByteArray) (w:World),n≤f→f≤256→1≤n→at_<n→n≤c→c≤9223372036854775807→AQ l→Rd w 1 A n (l2 l)→
  Calls prog 80 #[.slice A n c, .int .i64 (at_:Int)] w (Jc w (jr f (lists l) at_)):=by
 induction f with
 | zero=>intro A n c at_ l w γ aa au;omega
 | succ f bk =>
  intro A n c at_ l w hf mO γ dz ph hc hs hr;have az:l.length=n:=by have:=hr.1;rw [yE] at this;omega
  have ot:(lists l).length=n:=by rw [Lj];exact az
  by_cases hn:n=1
  ·subst hn;have he:jr (f+1) (lists l) at_= []:=by rw [jr,if_pos ot]
   rw [he];have nQ:(((1:Nat):Int)== 1)=true:=rfl;clear bk hr he az ot;go_enter func80,ntmps80;go_wp2_with fail
   go_ret;exact ⟨none,0,Z,Own.nil _ _ _ _ _,Below.refl _ _⟩
  ·have Bx:((n:Int)== 1)=false:=by rw [beq_eq_false_iff_ne];omega
   obtain ⟨b,o,rfl,_⟩:=hr.2 (by omega);obtain ⟨i0,ao,lv,mT,nS⟩:=info_parts aox;have rb:=zJ (n:=n) (by omega);have xp:=Ep n (by omega) (by omega);have hcut:=Rd.cut hr (bu n) (by omega);have aA:lists (l.take (bu n))=(lists l).take (bu n):=by unfold lists;rw [List.map_take]
   have hd:lists (l.drop (bu n))=(lists l).drop (bu n):=by unfold lists;rw [List.map_drop]
   have eg:AQ (l.take (bu n)):=fun s h=>hs s (List.mem_of_mem_take h);have fp:AQ (l.drop (bu n)):=fun s h=>hs s (List.mem_of_mem_drop h);have he:jr (f+1) (lists l) at_=if at_<bu n then jr f (lists (l.take (bu n))) at_++ [iq (lists (l.drop (bu n)))] else jr f (lists (l.drop (bu n))) (at_ - bu n)++ [iq (lists (l.take (bu n)))]:=by
    rw [jr,if_neg (by rw [ot];exact hn),ot,aA,hd]
   rw [he];by_cases bl:at_<bu n
   ·rw [if_pos bl];have bQ:=fun bV (bs:Rd bV 1 (some ⟨b,o,none⟩) (bu n) (l2 (l.take (bu n))))=>bk (some ⟨b,o,none⟩) (bu n) c at_ (l.take (bu n)) bV (by omega) (by omega) rb.1 bl (by omega) hc eg bs;have hR:=fun bV (bs:Rd bV 1 (some ⟨b,o+bu n,none⟩) (n - bu n) (l2 (l.drop (bu n))))=>R0 (n - bu n) (some ⟨b,o+bu n,none⟩) (n - bu n) (c - bu n) (l.drop (bu n)) bV (Nat.le_refl _) (by omega) (by omega) (by omega) fp bs;have hlen:=Sn f (lists (l.take (bu n))) at_;generalize jr f (lists (l.take (bu n))) at_=iK at *
    generalize iq (lists (l.drop (bu n)))=rt at *
    unfold Jc at bQ;obtain ⟨MZ,CL⟩:=hcut;clear aA hd he bk hr az ot hn eg fp;generalize l.take (bu n)=apa at *
    generalize l.drop (bu n)=lb at *
    have Qy:bu n<n:=rb.2.1;generalize bu n=s at *
    have hsc:s≤c:=by omega
    have xo:s≤n:=by omega
    have mQ:¬ c=s:=by omega
    go_enter func80,ntmps80;go_wp2_with fail
    refine (xp _).mono ?_;rintro e w' ⟨rfl,rfl⟩;clear xp;go_wp2_with fail
    go_region_law (first
     | (refine zL rfl 80 _ func80 (by kernel_rfl) (by kernel_rfl) _ _ rfl #[.slice (some ⟨b,o,none⟩) s c, .int .i64 (at_:Int)] (by simp [Act.eval,Act.put]) ?_;refine (bQ w.drew (MZ.later (Below.refl w.heap.size w).drew)).mono ?_;rintro e kG ⟨EB,vc,rfl,GK,xh⟩;refine ⟨_,rfl, ?_⟩)
     | (refine zL rfl 81 _ func81 (by kernel_rfl) (by kernel_rfl) _ _ rfl #[.slice (some ⟨b,o+s,none⟩) (n - s) (c - s)] (by simp [Act.eval]) ?_;refine (hR kG (CL.later ((Below.refl w.heap.size w).drew.trans xh))).mono ?_;rintro e auQ ⟨rfl,xK,rfl⟩;have u2:=Lib.hid (show Own ((kG.alloc (.cells #[.int .u64 (U rt)] 41)).drewN xK) w.heap.size 41 1 GW (.slice EB iK.length vc) iK.length (jS iK) from ((GK.later ((Below.refl kG.heap.size kG).alloc (Nat.le_refl _) _)).drewN xK));have AF:=Lib.hid (show Rd ((kG.alloc (.cells #[.int .u64 (U rt)] 41)).drewN xK) 1 (some ⟨kG.heap.size,0,none⟩) 1 [.int .u64 (U rt)] from acp kG rt xK);refine ⟨_,rfl, ?_⟩)
     | (refine ac6 _ rfl _ _ _ rfl w.heap.size 41 i0 (.int .u64 0) 1 8 underlying38 ao lv mT nS rfl (by decide) GW X5 _ iK.length (jS iK) rfl u2.out (some ⟨kG.heap.size,0,none⟩) 1 1 [.int .u64 (U rt)] rfl AF.out abK X4 (by unfold maxLen;omega) (by omega) (by have:=xh.size;simp at this ⊢;omega) ?_;intro v5 kp p_ Gy _ PX))
    have kd:=adg xh u2.out Gy;have p_:Own kp w.heap.size 41 1 GW v5 (iK++ [rt]).length (jS (iK++ [rt])):=by rw [List.length_append,V2];exact p_
    clear Gy PX GK u2 AF;have Nc:=Lib.hid p_;obtain ⟨E4,c5,rfl,_⟩:=p_.shape;clear p_;go_wp2_with fail
    go_ret;exact ⟨E4,c5,Z,Nc.out,kd⟩
   ·rw [if_neg bl];have bQ:=fun bV (bs:Rd bV 1 (some ⟨b,o+bu n,none⟩) (n - bu n) (l2 (l.drop (bu n))))=>bk (some ⟨b,o+bu n,none⟩) (n - bu n) (c - bu n) (at_ - bu n) (l.drop (bu n)) bV (by omega) (by omega) (by omega) (by omega) (by omega) (by omega) fp bs;have hR:=fun bV (bs:Rd bV 1 (some ⟨b,o,none⟩) (bu n) (l2 (l.take (bu n))))=>R0 (bu n) (some ⟨b,o,none⟩) (bu n) c (l.take (bu n)) bV (Nat.le_refl _) (by omega) (by omega) hc eg bs;have hlen:=Sn f (lists (l.drop (bu n))) (at_ - bu n);generalize jr f (lists (l.drop (bu n))) (at_ - bu n)=iK at *
    generalize iq (lists (l.take (bu n)))=rt at *
    unfold Jc at bQ;have Zz:((at_ - bu n:Nat):Int)=(at_:Int) - (bu n:Int):=by omega
    rw [Zz] at bQ;have aAL:IntKind.i64.wrap ((at_:Int) - (bu n:Int))=(at_:Int) - (bu n:Int):=IntWalk.i64_in _ (by omega);obtain ⟨CL,MZ⟩:=hcut;clear Zz;clear aA hd he bk hr az ot hn eg fp;generalize l.take (bu n)=apa at *
    generalize l.drop (bu n)=lb at *
    have Qy:bu n<n:=rb.2.1;generalize bu n=s at *
    have hsc:s≤c:=by omega
    have xo:s≤n:=by omega
    have mQ:¬ c=s:=by omega
    go_enter func80,ntmps80;go_wp2_with fail
    refine (xp _).mono ?_;rintro e w' ⟨rfl,rfl⟩;clear xp;go_wp2_with fail
    go_region_law (first
     | (refine zL rfl 80 _ func80 (by kernel_rfl) (by kernel_rfl) _ _ rfl #[.slice (some ⟨b,o+s,none⟩) (n - s) (c - s), .int .i64 ((at_:Int) - (s:Int))] (by simp [Act.eval,Act.put]) ?_;refine (bQ w.drew (MZ.later (Below.refl w.heap.size w).drew)).mono ?_;rintro e kG ⟨EB,vc,rfl,GK,xh⟩;refine ⟨_,rfl, ?_⟩)
     | (refine zL rfl 81 _ func81 (by kernel_rfl) (by kernel_rfl) _ _ rfl #[.slice (some ⟨b,o,none⟩) s c] (by simp [Act.eval]) ?_;refine (hR kG (CL.later ((Below.refl w.heap.size w).drew.trans xh))).mono ?_;rintro e auQ ⟨rfl,xK,rfl⟩;have u2:=Lib.hid (show Own ((kG.alloc (.cells #[.int .u64 (U rt)] 41)).drewN xK) w.heap.size 41 1 GW (.slice EB iK.length vc) iK.length (jS iK) from ((GK.later ((Below.refl kG.heap.size kG).alloc (Nat.le_refl _) _)).drewN xK));have AF:=Lib.hid (show Rd ((kG.alloc (.cells #[.int .u64 (U rt)] 41)).drewN xK) 1 (some ⟨kG.heap.size,0,none⟩) 1 [.int .u64 (U rt)] from acp kG rt xK);refine ⟨_,rfl, ?_⟩)
     | (refine ac6 _ rfl _ _ _ rfl w.heap.size 41 i0 (.int .u64 0) 1 8 underlying38 ao lv mT nS rfl (by decide) GW X5 _ iK.length (jS iK) rfl u2.out (some ⟨kG.heap.size,0,none⟩) 1 1 [.int .u64 (U rt)] rfl AF.out abK X4 (by unfold maxLen;omega) (by omega) (by have:=xh.size;simp at this ⊢;omega) ?_;intro v5 kp p_ Gy _ PX))
    have kd:=adg xh u2.out Gy;have p_:Own kp w.heap.size 41 1 GW v5 (iK++ [rt]).length (jS (iK++ [rt])):=by rw [List.length_append,V2];exact p_
    clear Gy PX GK u2 AF;have Nc:=Lib.hid p_;obtain ⟨E4,c5,rfl,_⟩:=p_.shape;clear p_;go_wp2_with fail
    go_ret;exact ⟨E4,c5,Z,Nc.out,kd⟩
end Go.Proofs.YtlikikpgmmkjbaaGreat.Tree
namespace Go.Proofs.YtlikikpgmmkjbaaGreat
open Tryz
end Go.Proofs.YtlikikpgmmkjbaaGreat
set_option linter.unusedVariables false
set_option linter.unusedSimpArgs false
namespace Go.Proofs.YtlikikpgmmkjbaaGreat.Tree
open Tryz
open Go.Proofs.YtlikikpgmmkjbaaGreat.hO Go.Proofs.YtlikikpgmmkjbaaGreat.Mark

def Dc:Nat→Nat→Nat→Nat
 | 0,_,_=>0
 | f+1,at_,n=>if n=1 then 0 else if at_<bu n then Dc f at_ (bu n)+1 else Dc f (at_ - bu n) (n - bu n)+1
def acR:Nat→Nat→Nat→List Bool
 | 0,_,_=> []
 | f+1,at_,n=>if n=1 then [] else if at_<bu n then acR f at_ (bu n)++ [false] else acR f (at_ - bu n) (n - bu n)++ [true]
def atv (m:bV) (x:Bool×bV):bV:=if x.1 then pA x.2 m else pA m x.2
theorem atP (f:Nat):∀ (l:List (List UInt8)) at_,l.length≤f→1≤l.length→at_<l.length→(jr f l at_).length=Dc f at_ l.length:=by
 induction f with
 | zero=>intro l at_ γ aa;omega
 | succ f bk =>
  intro l at_ hf γ dz;rw [jr,Dc];by_cases hn:l.length=1
  ·rw [if_pos hn,if_pos hn];rfl
  ·rw [if_neg hn,if_neg hn];have hs:=zJ (n:=l.length) (by omega);by_cases bl:at_<bu l.length
   ·rw [if_pos bl,if_pos bl,List.length_append,bk _ _ (by rw [List.length_take];omega) (by rw [List.length_take];omega) (by rw [List.length_take];omega),List.length_take,Nat.min_eq_left (by omega)];rfl
   ·rw [if_neg bl,if_neg bl,List.length_append,bk _ _ (by rw [List.length_drop];omega) (by rw [List.length_drop];omega) (by rw [List.length_drop];omega),List.length_drop];rfl
theorem ahQ (f:Nat):∀ m at_ n (t:List bV),n≤f→1≤n→at_<n→(jT f m at_ n t).2=decide (t.length=Dc f at_ n):=by
 induction f with
 | zero=>intro m at_ n t γ aa;omega
 | succ f bk =>
  intro m at_ n t hf γ dz;rw [jT,Dc];by_cases hn:n=1
  ·rw [if_pos hn,if_pos hn];cases t<;>simp
  ·rw [if_neg hn,if_neg hn];have hs:=zJ (n:=n) (by omega);rcases List.eq_nil_or_concat t with rfl | ⟨t',x,rfl⟩
   ·simp;split<;>omega
   ·simp only [List.concat_eq_append,List.getLast?_append,List.getLast?_singleton,Option.some_or,List.dropLast_concat,List.length_append,List.length_singleton];split
    ·rw [bk _ _ _ _ (by omega) hs.1 (by assumption)];simp
    ·rw [bk _ _ _ _ (by omega) (by omega) (by omega)];simp
theorem ahR (f:Nat):∀ (l:List (List UInt8)) at_,l.length≤f→1≤l.length→at_<l.length→(jT f (qb (l.getD at_ [])) at_ l.length (jr f l at_)).1=iq l:=by
 induction f with
 | zero=>intro l at_ γ aa;omega
 | succ f bk =>
  intro l at_ hf γ dz;rw [jT,jr];by_cases hn:l.length=1
  ·rw [if_pos hn]
   match l,hn with
   | [s],_ =>
    obtain rfl:at_=0:=by simpa using dz
    rfl
  ·rw [if_neg hn,if_neg hn];have hs:=zJ (n:=l.length) (by omega);rw [acy l (by omega)];by_cases bl:at_<bu l.length
   ·simp only [if_pos bl,List.getLast?_append,List.getLast?_singleton,Option.some_or,List.dropLast_concat];have h:=bk (l.take (bu l.length)) at_ (by rw [List.length_take];omega) (by rw [List.length_take];omega) (by rw [List.length_take];omega);have aU:(l.take (bu l.length)).getD at_ []=l.getD at_ []:=by
     rw [List.getD_eq_getElem?_getD,List.getD_eq_getElem?_getD,List.getElem?_take,if_pos bl]
    rw [aU,List.length_take,Nat.min_eq_left (by omega)] at h;rw [h]
   ·simp only [if_neg bl,List.getLast?_append,List.getLast?_singleton,Option.some_or,List.dropLast_concat];have h:=bk (l.drop (bu l.length)) (at_ - bu l.length) (by rw [List.length_drop];omega) (by rw [List.length_drop];omega) (by rw [List.length_drop];omega);have aU:(l.drop (bu l.length)).getD (at_ - bu l.length) []=l.getD at_ []:=by
     rw [List.getD_eq_getElem?_getD,List.getD_eq_getElem?_getD,List.getElem?_drop,show bu l.length+(at_ - bu l.length)=at_ from by omega]
    rw [aU,List.length_drop] at h;rw [h]
theorem ant (l:List (List UInt8)) (at_:Nat) (dz:at_<l.length):zd (iq l) (l.getD at_ []) at_ l.length (jr l.length l at_)=true:=by
 unfold zd;rw [ahQ _ _ _ _ _ (Nat.le_refl _) (by omega) dz,ahR _ _ _ (Nat.le_refl _) (by omega) dz,atP _ _ _ (Nat.le_refl _) (by omega) dz];simp
def along (sd:List Bool) (t:List bV) (m:bV) (k:Nat):bV:=((sd.zip t).take k).foldl atv m
end Go.Proofs.YtlikikpgmmkjbaaGreat.Tree
namespace Go.Proofs.YtlikikpgmmkjbaaGreat
open Tryz
end Go.Proofs.YtlikikpgmmkjbaaGreat
set_option linter.unusedVariables false
set_option linter.unusedSimpArgs false
namespace Go.Proofs.YtlikikpgmmkjbaaGreat.Tree
open Tryz
open Go.RowKit Go.Proofs.YtlikikpgmmkjbaaGreat Go.Proofs.YtlikikpgmmkjbaaGreat.hO Go.Proofs.YtlikikpgmmkjbaaGreat.Mark

theorem atS (A:Option Addr) (n c:Nat) (k:Int) (w:World) (mO:n≤256) (av:k<0∨(n:Int)≤k):
  Calls prog 52 #[.slice A n c, .int .i64 k] w fun e w'=>e= .returned (.tuple #[.slice none 0 0, .int .i64 7])∧w=w':=by
 rcases av with h | h
 ·go_enter func52,ntmps52;go_wp2_with fail
  go_ret2
  exact ⟨Z,Z⟩
 ·have aE:¬ k<0:=by omega
  go_enter func52,ntmps52;go_wp2_with fail
  go_ret2
  exact ⟨Z,Z⟩
def agk (w:World) (t:List bV) (e:Ending) (w':World):Prop:=∃ A c,e= .returned (.tuple #[.slice A t.length c, .int .i64 0])∧Own w' w.heap.size 41 1 GW (.slice A t.length c) t.length (jS t)∧Below w.heap.size w w'
theorem atQ (A:Option Addr) (n c at_:Nat) (l:List ByteArray) (w:World) (mO:n≤256) (dz:at_<n) (ph:n≤c) (hc:c≤9223372036854775807) (hs:AQ l) (hr:Rd w 1 A n (l2 l)):
  Calls prog 52 #[.slice A n c, .int .i64 (at_:Int)] w (agk w (jr n (lists l) at_)):=by
 have aA:=atO n A n c at_ l w (Nat.le_refl _) mO (by omega) dz ph hc hs hr;generalize jr n (lists l) at_=t at *
 unfold Jc at aA;have aa:¬ (256:Int)<(n:Int):=by omega
 have au:¬ (n:Int)≤(at_:Int):=by omega
 clear hr;go_enter func52,ntmps52;go_wp2_with fail
 refine aA.mono ?_;rintro e w' ⟨bH,bW,rfl,bJ,Φ⟩;have aN:=Lib.hid bJ;clear bJ;go_wp2_with fail
 go_ret2
 exact ⟨bH,bW,Z,aN.out,Φ⟩
def awM (w:World) (n:Nat) (l:List bV) (e:Ending) (w':World):Prop :=
 ∃ A c,e= .returned (.slice A n c)∧Own w' w.heap.size 41 1 GW (.slice A n c) n (jS l)∧Below w.heap.size w w'
end Go.Proofs.YtlikikpgmmkjbaaGreat.Tree
namespace Go.Proofs.YtlikikpgmmkjbaaGreat
open Tryz
section
open Go.RowKit
theorem agh:ff prog pE 72 9 16:=ff.lB (z:= .string .empty) (k:=1) underlying72 aoz rfl rfl (by decide) (λ j u h=>asq j u h)
open Go.Proofs.YtlikikpgmmkjbaaGreat.hO
theorem asA:iU.Plain:=κ.r5
theorem Ext.W0 (w:World) (q:Nat):Ext w (w.drewN q):=below_drewN (Below.refl _ w) q
theorem aco {w:World} {A:Option Addr} {c:Nat} {l:List ByteArray} (h:pE.aH 16 w A c l):Rd w 1 A l.length (Tree.l2 l):=
 ⟨by rw [Tree.yE,Nat.mul_one],λ aE=>by
  obtain ⟨b,o,e,hc⟩:=asy h aE;refine ⟨b,o,e,λ j u hu=> ?_⟩;have ay:j<l.length:=by have:=(List.getElem?_eq_some_iff.1 hu).1;rwa [Tree.yE] at this
  rw [Tree.ahx l j ay] at hu;obtain rfl:=Option.some.inj hu;exact hc j _ (List.getElem?_eq_getElem ay)⟩
theorem acP {w:World} {A:Option Addr} {c:Nat} {l:List ByteArray} (h:pE.aH 16 w A c l):Tree.AQ l:=λ s hs =>
 Nat.le_trans (κ.aH.AT (R:=pE) (Q:=λ s:ByteArray=>s.size≤140737488351232) (fun {w cs a} (h:pE.has w cs a)=>(show cs= [.string a]∧a.size≤140737488351232 from h).2) h s hs) (by decide)
theorem ast {w:World} {A:Option Addr} {c:Nat} {l:List (BitVec 64)} (h:iU.aH 8 w A c l):Rd w 1 A l.length (Tree.jS l):=
 ⟨by rw [Tree.C7,Nat.mul_one],λ aE=>by
  obtain ⟨b,o,e,hc⟩:=h.at_ aE;refine ⟨b,o,e,λ j u hu=> ?_⟩;have ay:j<l.length:=by have:=(List.getElem?_eq_some_iff.1 hu).1;rwa [Tree.C7] at this
  rw [Tree.JH l j ay] at hu;obtain rfl:=Option.some.inj hu;obtain ⟨es,he,hx⟩:=hc j _ (List.getElem?_eq_getElem ay);obtain rfl:=ami he;have:=hx 0 _ rfl;simpa [iU,κ.flat] using this⟩
theorem Vl {w:World}:∀ t:List (BitVec 64),cD (λ es a=>iU.has w es a) (t.map λ a=> [Value.int .u64 (U a)]) t
 | []=>trivial
 | a::t=>⟨⟨rfl,trivial⟩,Vl t⟩
theorem XI:∀ t:List (BitVec 64),(t.map λ a=> [Value.int .u64 (U a)]).flatten=Tree.jS t
 | []=>rfl
 | a::t=>by rw [List.map_cons,List.flatten_cons,XI t];rfl
theorem aqZ {w:World} {B:Nat} {A:Option Addr} {c:Nat} {t:List (BitVec 64)} (az:t.length≤256) (h:Own w B 41 1 Tree.GW (.slice A t.length c) t.length (Tree.jS t)):iU.aF 41 8 w B (κ.af A) A c t :=
 κ.aF.xF (ess:=t.map λ a=> [Value.int .u64 (U a)]) asA (Vl t) (by omega) (by rw [XI];exact h)
theorem atV (A:Option Addr) (c:Nat) (l:List ByteArray) (w:World) (h:pE.aH 16 w A c l) (mO:l.length≤256):
  Calls prog 53 #[.slice A l.length c] w (λ e w'=>e= .returned (.tuple #[.int .u64 (U (Tree.iq (Tree.lists l))), .int .i64 0])∧Ext w w'):=by
 refine (Tree.asD A l.length c l w mO h.1 h.2.1 (acP h) (aco h)).mono ?_;rintro e w' ⟨rfl,q,rfl⟩;exact ⟨Z,Ext.W0 w q⟩
def FB (l:List ByteArray) (n k:Int) (t:List (BitVec 64)):Prop:=(k=0∧0≤n∧n<(l.length:Int)∧t=Tree.jr l.length (Tree.lists l) n.toNat)∨(k≠0∧¬(0≤n∧n<(l.length:Int))∧t= [])
theorem FB.no {l:List ByteArray} {n k:Int} {t:List (BitVec 64)} (h:FB l n k t) (aE:k≠0):¬(0≤n∧n<(l.length:Int)):=by
 rcases h with h | h
 ·exact absurd h.1 aE
 ·exact h.2.1
theorem FB.yes {l:List ByteArray} {n k:Int} {t:List (BitVec 64)} (h:FB l n k t) (aE:k=0):0≤n∧n<(l.length:Int)∧t=Tree.jr l.length (Tree.lists l) n.toNat:=by
 rcases h with h | h
 ·exact h.2
 ·exact absurd aE h.1
theorem atY (A:Option Addr) (c:Nat) (l:List ByteArray) (n:Int) (w:World) (h:pE.aH 16 w A c l) (mO:l.length≤256):
  Calls prog 52 #[.slice A l.length c, .int .i64 n] w (λ e w'=>∃ bH bW t k,FB l n k t∧e= .returned (.tuple #[.slice bH t.length bW, .int .i64 k])∧iU.aF 41 8 w' w.heap.size (κ.af bH) bH bW t∧Ext w w'):=by
 by_cases hr:0≤n∧n<(l.length:Int)
 ·obtain ⟨m,rfl⟩:=Int.eq_ofNat_of_zero_le hr.1;refine (Tree.atQ A l.length c m l w mO (by omega) h.1 h.2.1 (acP h) (aco h)).mono ?_;rintro e w' ⟨bH,bW,rfl,bJ,Φ⟩;refine ⟨bH,bW,_,0, .inl ⟨Z,hr.1,hr.2,Z⟩,Z,aqZ ?_ bJ,Φ⟩;exact Nat.le_trans (Tree.Sn _ _ _) mO
 ·refine (Tree.atS A l.length c n w mO (by omega)).mono ?_;rintro e w' ⟨rfl,rfl⟩;exact ⟨none,0, [],7, .inr ⟨by decide,hr,rfl⟩,Z,κ.aF.nil _,Ext.bM _⟩
theorem atL (B0:BitVec 64) (uE:ByteArray) (hs_:uE.size≤140737488351232) (at_ rr:Int) (A:Option Addr) (c:Nat) (t:List (BitVec 64)) (w:World) (h:iU.aH 8 w A c t) (Pl:1≤rr) (X6:rr≤256) (Pn:0≤at_) (X7:at_<rr):
  Calls prog 54 #[.int .u64 (U B0), .string uE, .int .i64 at_, .int .i64 rr, .slice A t.length c] w (λ e w'=>e= .returned (.tuple #[.bool (Tree.zd B0 uE.data.toList at_.toNat rr.toNat t), .int .i64 0])∧Ext w w'):=by
 obtain ⟨m,rfl⟩:=Int.eq_ofNat_of_zero_le Pn;obtain ⟨n,rfl⟩:=Int.eq_ofNat_of_zero_le (Int.le_trans (by decide) Pl);refine (Tree.ans B0 uE (Nat.le_trans hs_ (by decide)) m n A t.length c t w (by omega) (by omega) (by omega) h.1 h.2.1 (ast h)).mono ?_;rintro e w' ⟨rfl,q,rfl⟩;exact ⟨Z,Ext.W0 w q⟩
def NB (W:ae) (L:List (List aI)) (n e:Int) (r:BitVec 64):Prop :=
 (e=0∧ja W L∧0≤n∧n≤(L.length:Int)∧r=Tree.iq (Tree.lists ((L.take n.toNat).map gS)))∨(e≠0∧¬(ja W L∧0≤n∧n≤(L.length:Int))∧r=0)
def Fz (W:ae) (L:List (List aI)) (n e:Int) (s:ByteArray) (t:List (BitVec 64)):Prop :=
 (e=0∧ja W L∧0≤n∧n<(L.length:Int)∧s=(L.map gS).getD n.toNat ByteArray.empty∧t=Tree.jr (L.map gS).length (Tree.lists (L.map gS)) n.toNat)∨(e≠0∧¬(ja W L∧0≤n∧n<(L.length:Int))∧s=C5 []∧t= [])
def Vd (r:BitVec 64) (n at_:Int) (s:ByteArray) (t:List (BitVec 64)) (m:List aI) (k:Int) (b:Bool):Prop :=
 (Tree.zd r s.data.toList at_.toNat n.toNat t=true∧Nz s m k∧b=(k == 0))∨(Tree.zd r s.data.toList at_.toNat n.toNat t=false∧m= []∧b=false∧k=0)
theorem ada (A:Option Addr) (c:Nat) (T:List dB) (L:List (List aI)) (w:World) (bQ:iu.aH 24 w A c T) (eG:fJ w T L):
  Calls prog 51 #[.slice A T.length c] w (λ e w'=>∃ bH bW,e= .returned (.slice bH (L.map gS).length bW)∧pE.aF 9 16 w' w.heap.size (κ.af bH) bH bW (L.map gS)∧Ext w w'):=by
 have Bu:=bQ.ez;have amY:=bQ.2.2.1;refine cv (n:=25) func51 Z Z Z ?_;refine aj<|va Z<|ah<|aj<|va Z<|ah<|aD<|aj<|vm Z<|J (cW underlying29 Z)<|vm Z<|ah<|bP<| ?_;refine fe (λ ck ch aS=>∃ k:Nat,∃ pV:List ByteArray,∃ dg:Option Addr,∃ ib:Nat,ch= [(2, .slice none 0 0),(3, .slice dg pV.length ib),(8, .slice A T.length c),(9, .int .i64 (T.length:Int)),(10, .int .i64 (k:Int))]∧ck=T.length - k∧Ext w aS∧pE.aF 9 16 aS w.heap.size (κ.af dg) dg ib pV∧(k≤T.length)∧(pV=(L.take k).map gS)) _ _ ⟨0, [],none,0,Z,Z,(Ext.bM w),(κ.aF.nil _),by omega,rfl⟩ (.cons Z (.cons Z (.cons Z (.cons Z (.cons (bX Z (by first | omega | rfl | (simp<;>omega))) .nil))))) ?_;rintro Q9 M0 dw ⟨k,pV,dg,ib,rfl,rfl,br,cJ,av,xb⟩;have:=br.size;have aur:=λ q I=>(cJ.lt q I).2;have alw:pV.length≤k:=by rw [xb,List.length_map,List.length_take];omega
 have F3:∀ q∈κ.af dg,w.heap.size≤q:=λ q I=>(cJ.lt q I).1;refine aj<|J (blt Z Z)<|ah<|aD<| ?_;refine ef Z (λ l9=> ?_) (λ l9=> ?_)
 ·obtain ⟨jO,fS,fh,o9,p6,hx⟩:=eG.at_ (k:=k) (by omega);refine bx<|aD<|bP<|aj<|J (bY k underlying29 p2 Z Z ((bQ.keep br).bA (a8 k (by omega))) Z (by omega))<|J (v:= .slice jO fh.length fS) (ak Z (κ.aH.e9 y0 ((bQ.keep br).cL (a8 k (by omega))) o9 Z tA))<|va Z<|ah<|aj<|vm Z<|ca ajw Z Z ((aq5 _ _ fh _ (hx.keep br)).mono ?_);rintro e xY ⟨rfl,iZ⟩;refine ⟨_,Z, ?_⟩;have:=iZ.size;have j7:=τ br iZ;refine vm Z<|J (ex Z Z)<|J (ex Z Z)<|va Z<|va Z<|ah<|rg<|vm Z<|vm Z<|cH (e:= 9) (cs:= [.string (gS fh)]) Z (λ _=>by kernel_rfl) Z λ auR axP lM aBr TY=> ?_;have:=lM.size;have S3:=τ j7 lM;have aDW:=TY.lt;have cJ:=cJ.later (τ iZ lM);refine ap agh asz cJ (aK.gv (R:=pE) (by_:=16) (q:=gS fh) TY ⟨Z,aeb _⟩ (by decide)) Z Z (by simp only [List.length_cons,List.length_nil];omega) (by simp only [List.length_cons,List.length_nil];omega) (by omega) Z λ wa aeK vh jZ I7 azC aC8=> ?_;have:=jZ.size;have rI:=Ext.mod S3 jZ (λ q I=>Nat.le_trans (by omega) (cJ.lt q I).1);have Mg:=λ q I=>(I7.lt q I).2;have:=jZ.size;refine va Z<|nl<|cg<|a6<|rg<|J (bad Z Z (bF (by omega)))<|vm Z<|nl<| ?_;exact du _ _ ⟨k+1,pV++ [gS fh],aeK,vh,Z,Z,rI,I7,by omega,by rw [xb,zO p6,List.map_append];rfl⟩ (by omega) (.cons Z (.cons Z (.cons Z (.cons Z (.cons (bX Z (by first | omega | rfl | (simp<;>omega))) .nil)))))
 ·have o6:k=L.length:=by rw [← eG.1];omega
  refine dG<|dF<|eb<|dE<|a6<|aj<|vm Z<|va Z<|ah<|rt<|bp (.tmp Z .nil)<| ?_;rw [o6,List.take_length] at xb;subst xb;exact ⟨dg,ib,Z,cJ,br⟩
theorem asC (a:ae.b6) (W:ae) (A:Option Addr) (c:Nat) (T:List dB) (L:List (List aI)) (n:Int) (w:World) (bs:ae.Has w a W) (bQ:iu.aH 24 w A c T) (eG:fJ w T L):
  Calls prog 17 #[.agg #[.int .i64 W.field.wide, .int .i64 W.field.high, .slice a.P W.field.aP.length a.p, .slice a.B W.aY.length a.b, .slice a.S W.a_.length a.s, .slice a.M W.bm.length a.m, .slice a.T W.ag.length a.t, .int .i64 W.next, .int .i64 W.now, .slice A T.length c], .int .i64 n] w (λ e w'=>∃ (e':Int) (r:BitVec 64),e= .returned (.tuple #[.int .u64 (U r), .int .i64 e'])∧NB W L n e' r∧Ext w w'):=by
 have Bu:=bQ.ez;refine cv (n:=29) func17 Z Z Z ?_;refine aj<|cI Z Z Z Z λ dw bC bg eY ab=> ?_;have:=bg.size;have br:=τ (Ext.bM w) bg;have eZ:=ab.lt;refine va Z<|va Z<|ah<|aD<|aj<|J (ak Z (ab.all q1 lj))<|ca Ox Z Z ((Ob a W _ _ T L _ (bs.keep br) (bQ.keep br) (eG.keep br)).mono ?_);rintro e uK ⟨Au,rfl,Gq,bj⟩;refine ⟨_,Z, ?_⟩;have:=bj.size;have iy:=τ br bj;refine va Z<|ah<|aj<|vm Z<|J (bne Z Z)<|ah<| ?_;refine hg Z (λ kV=> ?_) (λ kV=> ?_)
 ·refine aj<|vm Z<|va Z<|va Z<|ah<|rt<|cf<|bp (.tmp Z (.tmp Z .nil))<| ?_;exact ⟨Au,0,Z, .inr ⟨(by simpa using kV),λ cA=>(show ¬ Au=0 by simpa using kV) (Gq.2 cA.1),Z⟩,iy⟩
 ·have cV:ja W L:=Gq.1 (by simpa using kV);have DL:=eG.1;have KT:L.length≤256:=by have:=cV.1;omega
  refine bx<|aD<|aj<|vm Z<|J (blt Z Z)<|vm Z<|bB Z Z Z Z (λ hc=>aJ Z) Z<|bB Z Z Z Z (λ hc=>aw kC Z) Z<| ?_;have ab:=ab.later bj;refine bB Z Z Z Z (λ hc=>ak (gt hc Z) (ab.one l7 Z)) Z<|bB Z Z Z Z (λ hc=>cW underlying29 (gt hc Z)) Z<|bB Z Z Z Z (λ hc=>jC (gt hc Z) (gt hc Z)) Z<|J (gy Z Z Z Z)<|ah<| ?_;refine fk Z (λ xc=> ?_) (λ xc=> ?_)
  ·simp only [cB] at xc;refine aj<|va Z<|va Z<|ah<|rt<|cf<|bp (.tmp Z (.tmp Z .nil))<| ?_;exact ⟨1,0,Z, .inr ⟨(by decide),λ cA=>by have DL:=eG.1;have:=cA.2;have Gm:=xc;omega,rfl⟩,iy⟩
  ·simp only [cB] at xc;have K0:0≤n∧n≤(T.length:Int):=by have Gm:=xc;omega
   refine bx<|aj<|J (aw kC Z)<|J (ak Z (ab.one l7 Z))<|vm Z<|J (LZ ((n).toNat) (T.take ((n).toNat)).length underlying29 p2 Z Z (by omega) (by have:=bQ.1;omega) (by rw [List.length_take];omega))<|ca Xg Z Z ((ada _ _ (T.take ((n).toNat)) (L.take ((n).toNat)) _ ((bQ.keep iy).pre ((n).toNat)) ((eG.take ((n).toNat)).keep iy)).mono ?_);rintro e wa ⟨awF,ayA,rfl,Ns,h_⟩;refine ⟨_,Z, ?_⟩;have:=h_.size;have rI:=τ iy h_;have auh:=λ q I=>(Ns.lt q I).2;have aCh:=λ q I=>(Ns.lt q I).1;refine ca ajx Z Z ((atV _ _ (((L.take ((n).toNat)).map gS)) _ Ns.has (by rw [List.length_map,List.length_take];have:=cV.1;omega)).mono ?_);rintro e xU ⟨rfl,js⟩;refine ⟨_,Z, ?_⟩;have:=js.size;have np:=τ rI js;refine J (ex Z Z)<|J (ex Z Z)<|va Z<|va Z<|ah<|rt<|bp (.tmp Z (.tmp Z .nil))<| ?_;exact ⟨0,_,Z, .inl ⟨Z,cV,K0.1,(by omega),Z⟩,np⟩
theorem as5 (a:ae.b6) (W:ae) (A:Option Addr) (c:Nat) (T:List dB) (L:List (List aI)) (n:Int) (w:World) (bs:ae.Has w a W) (bQ:iu.aH 24 w A c T) (eG:fJ w T L):
  Calls prog 16 #[.agg #[.int .i64 W.field.wide, .int .i64 W.field.high, .slice a.P W.field.aP.length a.p, .slice a.B W.aY.length a.b, .slice a.S W.a_.length a.s, .slice a.M W.bm.length a.m, .slice a.T W.ag.length a.t, .int .i64 W.next, .int .i64 W.now, .slice A T.length c], .int .i64 n] w (λ e w'=>∃ (e':Int) (s:ByteArray) (bH:Option Addr) (bW:Nat) (t:List (BitVec 64)),e= .returned (.tuple #[.string s, .slice bH t.length bW, .int .i64 e'])∧Fz W L n e' s t∧iU.aF 41 8 w' w.heap.size (κ.af bH) bH bW t∧Ext w w'):=by
 have Bu:=bQ.ez;refine cv (n:=33) func16 Z Z Z ?_;refine aj<|cI Z Z Z Z λ dw bC bg eY ab=> ?_;have:=bg.size;have br:=τ (Ext.bM w) bg;have eZ:=ab.lt;refine va Z<|va Z<|va Z<|ah<|aD<|aj<|J (ak Z (ab.all q1 lj))<|ca Ox Z Z ((Ob a W _ _ T L _ (bs.keep br) (bQ.keep br) (eG.keep br)).mono ?_);rintro e uK ⟨Au,rfl,Gq,bj⟩;refine ⟨_,Z, ?_⟩;have:=bj.size;have iy:=τ br bj;refine va Z<|ah<|aj<|vm Z<|J (bne Z Z)<|ah<| ?_;refine hg Z (λ kV=> ?_) (λ kV=> ?_)
 ·refine aj<|vm Z<|va Z<|va Z<|va Z<|ah<|rt<|cf<|bp (.tmp Z (.tmp Z (.tmp Z .nil)))<| ?_;exact ⟨Au,_,none,0, [],Z, .inr ⟨(by simpa using kV),λ cA=>(show ¬ Au=0 by simpa using kV) (Gq.2 cA.1),Z,Z⟩,κ.aF.nil _,iy⟩
 ·have cV:ja W L:=Gq.1 (by simpa using kV);have DL:=eG.1;have KT:L.length≤256:=by have:=cV.1;omega
  refine bx<|aj<|J (aw kC Z)<| ?_;have ab:=ab.later bj;refine J (ak Z (ab.one l7 Z))<|ca Xg Z Z ((ada _ _ T L _ (bQ.keep iy) (eG.keep iy)).mono ?_);rintro e xT ⟨Tv,VO,rfl,AN,b0⟩;refine ⟨_,Z, ?_⟩;have:=b0.size;have j6:=τ iy b0;have auc:=λ q I=>(AN.lt q I).2;have aCg:=λ q I=>(AN.lt q I).1;refine va Z<|ah<|aj<|vm Z<|vm Z<|ca ajy Z Z ((atY _ _ (((L).map gS)) n _ AN.has (by rw [List.length_map];exact KT)).mono ?_);rintro e oD ⟨aex,agZ,t19,aoK,Y5,rfl,Nr,dA⟩;refine ⟨_,Z, ?_⟩;have:=dA.size;have fG:=τ j6 dA;have pF:=λ q I=>(Nr.lt q I).2;have apv:=λ q I=>(Nr.lt q I).1;refine vm Z<|J (ex Z Z)<|J (ex Z Z)<|va Z<|va Z<|ah<|aD<|aj<|vm Z<|J (bne Z Z)<|ah<| ?_;refine hg Z (λ yW=> ?_) (λ yW=> ?_)
  ·refine aj<|vm Z<|va Z<|va Z<|va Z<|ah<|rt<|cf<|bp (.tmp Z (.tmp Z (.tmp Z .nil)))<| ?_;exact ⟨aoK,_,none,0, [],Z, .inr ⟨(by simpa using yW),λ cA=>(Y5.no (by simpa using yW)) ⟨cA.2.1,by rw [List.length_map];exact cA.2.2⟩,Z,Z⟩,κ.aF.nil _,fG⟩
  ·obtain ⟨pL,Ah,EY⟩:=Y5.yes (by simpa using yW);rw [List.length_map] at Ah;refine bx<|aj<|vm Z<|vm Z<| ?_;have AN:=AN.later dA;refine J (bY n.toNat underlying72 ajA Z Z (AN.has.bA (a8 n.toNat (by rw [List.length_map];omega))) (by omega) (by rw [List.length_map];omega))<|J (ak Z (κ.aH.e9 YC (AN.has.cL (a8 n.toNat (by rw [List.length_map];omega))) (dO (l:=((L).map gS)) (u:=ByteArray.empty) (by rw [List.length_map];omega)) Z ajB))<|vm Z<|va Z<|va Z<|va Z<|ah<|rt<|bp (.tmp Z (.tmp Z (.tmp Z .nil)))<| ?_;exact ⟨0,_,aex,agZ,t19,Z, .inl ⟨Z,cV,pL,Ah,Z,EY⟩,Nr.down (by omega),fG⟩
theorem as6 (B0:BitVec 64) (rr at_:Int) (uE:ByteArray) (A:Option Addr) (c:Nat) (L_:List (BitVec 64)) (w:World) (aA:iU.aH 8 w A c L_) (hs_:uE.size≤140737488351232) (Pl:1≤rr) (X6:rr≤256) (Pn:0≤at_) (X7:at_<rr):
  Calls prog 18 #[.int .u64 (U B0), .int .i64 rr, .int .i64 at_, .string uE, .slice A L_.length c] w (λ e w'=>∃ (bH:Option Addr) (bW:Nat) (m:List aI) (k:Int) (b:Bool),e= .returned (.tuple #[.slice bH m.length bW, .bool b, .int .i64 k])∧Vd B0 rr at_ uE L_ m k b∧aI.rep.aF 51 48 w' w.heap.size (κ.af bH) bH bW m∧Ext w w'):=by
 refine cv (n:=41) func18 Z Z Z ?_;refine aj<|va Z<|va Z<|va Z<|ah<|aj<|vm Z<|vm Z<|vm Z<|vm Z<|vm Z<|ca ajC Z Z ((atL B0 uE hs_ at_ rr _ _ L_ _ (aA.keep (Ext.bM w)) Pl X6 Pn X7).mono ?_);rintro e dw ⟨rfl,gG⟩;refine ⟨_,Z, ?_⟩;have:=gG.size;have br:=τ (Ext.bM w) gG;refine vm Z<|J (ex Z Z)<|J (ex Z Z)<|va Z<|va Z<|ah<|aD<|aj<|vm Z<|J (bne Z Z)<|vm Z<|jG Z Z Z<|vm Z<|jG Z Z Z<|J (eo Z)<|J (qj Z Z)<|ah<| ?_;refine fk Z (λ mP=> ?_) (λ mP=> ?_)
 ·simp only [cB] at mP;refine aj<|vm Z<|va Z<|va Z<|va Z<|ah<|rt<|cf<|bp (.tmp Z (.tmp Z (.tmp Z .nil)))<| ?_;exact ⟨none,0, [],0,false,Z, .inr ⟨by simpa using mP,rfl,rfl,rfl⟩,κ.aF.nil _,br⟩
 ·simp only [cB] at mP;refine bx<|aj<|vm Z<|ca ajD Z Z ((aqW uE _ hs_).mono ?_);rintro e eB ⟨m5,G8,E4,c5,yT,rfl,Np,dn⟩;refine ⟨_,Z, ?_⟩;have:=dn.size;have bS:=τ br dn;have Sw:=λ q I=>(Np.lt q I).2;have apy:=λ q I=>(Np.lt q I).1;refine vm Z<|J (ex Z Z)<|J (ex Z Z)<|va Z<|va Z<|ah<|aj<|vm Z<|vm Z<|J (beq Z Z)<|vm Z<|va Z<|va Z<|va Z<|ah<|rt<|bp (.tmp Z (.tmp Z (.tmp Z .nil)))<| ?_;exact ⟨E4,c5,m5,G8,_,Z, .inl ⟨by simpa using mP,yT,rfl⟩,Np.down (by omega),bS⟩
end
section
open Go.RowKit
open Go.Proofs.YtlikikpgmmkjbaaGreat.hO
theorem MO.out {W:ae} {L:List (List aI)} {n e:Int} {V:ae} (h:MO W L n e V) (cV:ja W L) (aE:0≤n) (γ:n≤(L.length:Int)):e=0∧V=ng W (L.take n.toNat):=by
 rcases h with h | h
 ·exact ⟨h.1,h.2.2.2.2⟩
 ·exact absurd ⟨cV,aE,γ⟩ h.2.1
theorem NB.out {W:ae} {L:List (List aI)} {n e:Int} {r:BitVec 64} (h:NB W L n e r) (cV:ja W L) (aE:0≤n) (γ:n≤(L.length:Int)):e=0∧r=Tree.iq (Tree.lists ((L.take n.toNat).map gS)):=by
 rcases h with h | h
 ·exact ⟨h.1,h.2.2.2.2⟩
 ·exact absurd ⟨cV,aE,γ⟩ h.2.1
theorem Fz.out {W:ae} {L:List (List aI)} {n e:Int} {s:ByteArray} {t:List (BitVec 64)} (h:Fz W L n e s t) (cV:ja W L) (aE:0≤n) (γ:n<(L.length:Int)):e=0∧s=(L.map gS).getD n.toNat ByteArray.empty∧t=Tree.jr (L.map gS).length (Tree.lists (L.map gS)) n.toNat:=by
 rcases h with h | h
 ·exact ⟨h.1,h.2.2.2.2⟩
 ·exact absurd ⟨cV,aE,γ⟩ h.2.1
theorem XZ (L:List (List aI)) {i:Nat} (h:i<L.length):(L.map gS).getD i ByteArray.empty=gS (L.getD i []):=by
 rw [List.getD_eq_getElem?_getD,List.getD_eq_getElem?_getD,List.getElem?_map,List.getElem?_eq_getElem h];rfl
theorem Fz.size {W:ae} {L:List (List aI)} {n e:Int} {s:ByteArray} {t:List (BitVec 64)} (h:Fz W L n e s t):s.size≤140737488351232:=by
 rcases h with ⟨_,_,aE,γ,aa,_⟩ | ⟨_,_,aa,_⟩
 ·rw [aa,XZ L (by omega)];exact aeb _
 ·rw [aa];decide
theorem ja.aqR {W:ae} {L:List (List aI)} (h:ja W L) {i:Nat} (ao:i<L.length):iT (L.getD i [])=0:=by
 have γ:=(h.take i).2.2;have aa:=(h.take (i+1)).2.2;have aO:L[i]? =some (L.getD i []):=by rw [List.getD_eq_getElem?_getD,List.getElem?_eq_getElem ao];rfl
 rw [R3 γ aO] at aa;exact (L5 (Sq aa).1).1
theorem apr (l:List ByteArray) (i:Nat):(Tree.lists l).getD i []=(l.getD i ByteArray.empty).data.toList:=by
 unfold Tree.lists;rw [List.getD_eq_getElem?_getD,List.getD_eq_getElem?_getD,List.getElem?_map];cases l[i]? <;>rfl
theorem as7 {W:ae} {L:List (List aI)} (cV:ja W L) {at_ n:Int} (aE:0≤at_) (γ:at_<(L.length:Int)) {s:ByteArray} {t:List (BitVec 64)} {r:BitVec 64} {m:List aI} {k:Int} {b:Bool}
  (hs:s=(L.map gS).getD at_.toNat ByteArray.empty) (aA:t=Tree.jr (L.map gS).length (Tree.lists (L.map gS)) at_.toNat) (hr:r=Tree.iq (Tree.lists ((L.take n.toNat).map gS))) (bJ:∀ o∈L.getD at_.toNat [],o.ok)
  (hR:Vd r n at_ s t m k b) (hn:n=(L.length:Int):=by rfl):b=true∧k=0∧m=L.getD at_.toNat []:=by
 subst hn;rw [Int.toNat_natCast,List.take_length] at hr;have az:(Tree.lists (L.map gS)).length=L.length:=by rw [Tree.Lj,List.length_map]
 have ey:=Tree.ant (Tree.lists (L.map gS)) at_.toNat (by omega);rw [apr,az] at ey;have Φ:Tree.zd r s.data.toList at_.toNat (L.length:Int).toNat t=true:=by
  rw [hs,aA,hr,Int.toNat_natCast,List.length_map];exact ey
 rcases hR with ⟨_,aa,au⟩ | ⟨aa,_⟩
 ·rw [hs,XZ L (by omega)] at aa;obtain ⟨aU,bc⟩:=aqX (cV.aqR (by omega)) bJ aa;exact ⟨by rw [au,aU];rfl,aU,bc⟩
 ·rw [Φ] at aa;cases aa
def zK:List (List aI):= [lJ, []]
theorem L9:ja e2 zK:=⟨by decide,by decide +kernel,by
 show km e2 ([lJ]++ [[]])=0;rw [LW,R1,if_neg (by rw [Sr.1];simp),show ng e2 [lJ]=L' from Sr.2.1,R1];exact (at3 (W:=L') (by decide +kernel) (by decide)).1⟩
theorem atn:(ng e2 (zK.take (1:Int).toNat)).now=1:=by
 show (mq e2 lJ).now=1;rw [Sr.2.1];rfl
theorem aty  (w:World):
  Calls prog 14 #[] w (λ e w'=>e= .returned (.bool true)∧Ext w w'):=by
 refine cv (n:=72) func14 Z Z Z ?_;refine aj<|va Z<|ah<|aj<|ca ajE Z Z ((atc _).mono ?_);rintro e avd ⟨ka,rfl,oP,rG⟩;refine ⟨_,Z, ?_⟩;have:=rG.size;have Tk:=τ (Ext.bM w) rG;have adt:=λ q I=>(oP.lt q I).2;have aCj:=λ q I=>(oP.lt q I).1;refine J (v:= .agg #[.int .i64 2, .int .i64 0]) (cO Z (by kernel_rfl))<|J (v:= .agg #[.int .i64 0, .int .i64 3, .int .i64 1, .int .i64 2, .int .i64 0, .int .i64 0]) (cO Z (by kernel_rfl))<|cH (e:= 51) (cs:= [.int .i64 0, .int .i64 3, .int .i64 1, .int .i64 2, .int .i64 0, .int .i64 0]) Z (λ _=>by kernel_rfl) Z λ xY yA dn aoX ku=> ?_;have:=dn.size;have j7:=τ Tk dn;have arT:=ku.lt;refine cH (e:= 44) (cs:= [.slice (some ⟨yA,0,none⟩) 1 1, .slice none 0 0]) Z (λ _=>by kernel_rfl) Z λ EC C2 hl aBA CH=> ?_;have:=hl.size;have uQ:=τ j7 hl;have aD4:=CH.lt;refine J (v:= .agg #[.int .i64 e2.field.wide, .int .i64 e2.field.high, .slice ka.P e2.field.aP.length ka.p, .slice ka.B e2.aY.length ka.b, .slice ka.S e2.a_.length ka.s, .slice ka.M e2.bm.length ka.m, .slice ka.T e2.ag.length ka.t, .int .i64 e2.next, .int .i64 e2.now, .slice (some ⟨C2,0,none⟩) 2 2]) (cO Z (by kernel_rfl))<|al Z J3 Z Z λ xV ax5 dA aBF oO=> ?_;have:=dA.size;have ks:=τ uQ dA;have ar0:=oO.lt;refine st (new:= [.int .i64 e2.field.wide, .int .i64 e2.field.high, .slice ka.P e2.field.aP.length ka.p, .slice ka.B e2.aY.length ka.b, .slice ka.S e2.a_.length ka.s, .slice ka.M e2.bm.length ka.m, .slice ka.T e2.ag.length ka.t, .int .i64 e2.next, .int .i64 e2.now, .slice (some ⟨C2,0,none⟩) 2 2]) Z Z oO Z lj Z Z Z λ Cb mY oO=> ?_;have:=mY.size;have qA:=Ext.mod ks mY (bR (by omega));have:=mY.size;refine ah<|aj<|J (ak Z (oO.all q1 lj))<| ?_;have CH:=CH.later dA;have CH:=CH.mod mY (bb (by omega));have pW:=aK.ru (R:=iu) (by_:=24) (B:=w.heap.size) (k:= [(⟨some ⟨yA,0,none⟩,1,1⟩:dB),(⟨none,0,0⟩:dB)]) CH [[.slice (some ⟨yA,0,none⟩) 1 1], [.slice none 0 0]] rfl (⟨⟨rfl,trivial⟩,⟨rfl,trivial⟩,trivial⟩) (by simp) (by simp) (by decide) (by omega);have aki:∀ q∈κ.af (some ⟨C2,0,none⟩),q=C2:=λ q I=>List.mem_singleton.1 I;have aBh:∀ q∈κ.af (some ⟨C2,0,none⟩),w.heap.size≤q:=λ q I=>by rw [aki q I];omega
 have at9:∀ q∈κ.af (some ⟨C2,0,none⟩),q<Cb.heap.size:=λ q I=>(pW.lt q I).2;have ku:=ku.later (τ hl dA);have ku:=ku.mod mY (bb (by omega));have oP:=oP.later (τ dn (τ hl dA));have oP:=oP.mod mY (cj adt (by omega));refine ca Xh Z Z ((Vr ka e2 _ _ ([(⟨some ⟨yA,0,none⟩,1,1⟩:dB),(⟨none,0,0⟩:dB)]) zK 1 _ oP.has pW.has (show fJ _ _ zK from (fJ.one (aK.yX (R:=aI.rep) (by_:=48) (k:= [(⟨0,3,1,⟨2,0⟩,0⟩:aI)]) ku [[.int .i64 0, .int .i64 3, .int .i64 1, .int .i64 2, .int .i64 0, .int .i64 0]] Z (⟨⟨Z,⟨bt.2 (by decide),bt.2 (by decide),bt.2 (by decide),bt.2 (by decide),bt.2 (by decide),bt.2 (by decide)⟩⟩,trivial⟩) (by simp) (by simp))).app (fJ.one (κ.aH.nil _)))).mono ?_);rintro e Mq ⟨awQ,axJ,agq,rfl,anC,Up,iX⟩;refine ⟨_,Z, ?_⟩;have:=iX.size;have uR:=τ qA iX;have auo:=λ q I=>(Up.lt q I).2;have aCk:=λ q I=>(Up.lt q I).1;refine vm Z<|J (ex Z Z)<|J (ex Z Z)<|al Z l8 Z Z λ EF ayb dQ aBO CI=> ?_;have:=dQ.size;have x6:=τ uR dQ;have ar7:=CI.lt;refine st Z Z CI Z b2 Z Z Z λ EG kh CI=> ?_;have:=kh.size;have rK:=Ext.mod x6 kh (bR (by omega));have:=kh.size;refine va Z<|ah<|aj<| ?_;have oO:=oO.later (τ iX dQ);have oO:=oO.mod kh (bb (by omega));refine J (ak Z (oO.all q1 lj))<| ?_;have pW:=pW.later (τ iX dQ);have pW:=pW.mod kh (cj at9 (by omega));have ku:=ku.later (τ iX dQ);have ku:=ku.mod kh (bb (by omega));have oP:=oP.later (τ iX dQ);have oP:=oP.mod kh (cj adt (by omega));refine ca ajF Z Z ((as5 ka e2 _ _ ([(⟨some ⟨yA,0,none⟩,1,1⟩:dB),(⟨none,0,0⟩:dB)]) zK 0 _ oP.has pW.has (show fJ _ _ zK from (fJ.one (aK.yX (R:=aI.rep) (by_:=48) (k:= [(⟨0,3,1,⟨2,0⟩,0⟩:aI)]) ku [[.int .i64 0, .int .i64 3, .int .i64 1, .int .i64 2, .int .i64 0, .int .i64 0]] Z (⟨⟨Z,⟨bt.2 (by decide),bt.2 (by decide),bt.2 (by decide),bt.2 (by decide),bt.2 (by decide),bt.2 (by decide)⟩⟩,trivial⟩) (by simp) (by simp))).app (fJ.one (κ.aH.nil _)))).mono ?_);rintro e EI ⟨awR,asP,awG,ayI,t49,rfl,Zv,Fs,mz⟩;refine ⟨_,Z, ?_⟩;have:=mz.size;have n':=τ rK mz;have aus:=λ q I=>(Fs.lt q I).2;have aCo:=λ q I=>(Fs.lt q I).1;refine vm Z<|J (ex Z Z)<|J (ex Z Z)<|J (ex Z Z)<|va Z<|va Z<|va Z<|ah<|aj<| ?_;have oO:=oO.later mz;refine J (ak Z (oO.all q1 lj))<| ?_;have pW:=pW.later mz;have ku:=ku.later mz;have oP:=oP.later mz;refine ca ajG Z Z ((asC ka e2 _ _ ([(⟨some ⟨yA,0,none⟩,1,1⟩:dB),(⟨none,0,0⟩:dB)]) zK 2 _ oP.has pW.has (show fJ _ _ zK from (fJ.one (aK.yX (R:=aI.rep) (by_:=48) (k:= [(⟨0,3,1,⟨2,0⟩,0⟩:aI)]) ku [[.int .i64 0, .int .i64 3, .int .i64 1, .int .i64 2, .int .i64 0, .int .i64 0]] Z (⟨⟨Z,⟨bt.2 (by decide),bt.2 (by decide),bt.2 (by decide),bt.2 (by decide),bt.2 (by decide),bt.2 (by decide)⟩⟩,trivial⟩) (by simp) (by simp))).app (fJ.one (κ.aH.nil _)))).mono ?_);rintro e avh ⟨awS,aso,rfl,anE,sN⟩;refine ⟨_,Z, ?_⟩;have:=sN.size;have Tn:=τ n' sN;refine vm Z<|J (ex Z Z)<|J (ex Z Z)<|va Z<|va Z<|ah<|aj<|vm Z<|vm Z<|vm Z<| ?_;have Fs:=Fs.later sN;refine ca ajH Z Z ((as6 aso 2 0 asP _ _ t49 _ Fs.has Zv.size (by decide) (by decide) (by decide) (by decide)).mono ?_);rintro e H7 ⟨awH,ayJ,abe,aAY,axK,rfl,anF,Nq,iY⟩;refine ⟨_,Z, ?_⟩;have:=iY.size;have rL:=τ Tn iY;have zU:=λ q I=>(Nq.lt q I).2;have DY:=λ q I=>(Nq.lt q I).1;refine vm Z<|J (ex Z Z)<|J (ex Z Z)<|J (ex Z Z)<|va Z<|va Z<|va Z<|ah<|aj<|vm Z<|J (beq Z Z)<|vm Z<|bB Z Z Z Z (λ hc=>aJ Z) Z<|bB Z Z Z Z (λ hc=>beq (gt hc Z) Z) Z<|J (eA Z Z Z Z)<|vm Z<|bB Z Z Z Z (λ hc=>aJ Z) Z<|bB Z Z Z Z (λ hc=>beq (gt hc Z) Z) Z<|J (eA Z Z Z Z)<|vm Z<|bB Z Z Z Z (λ hc=>aJ Z) Z<|bB Z Z Z Z (λ hc=>beq (gt hc Z) Z) Z<| ?_;refine J (eA Z Z Z Z)<|vm Z<|bB Z Z Z Z (λ hc=>aJ Z) Z<|J (eA Z Z Z Z)<|vm Z<|bB Z Z Z Z (λ hc=>aJ Z) Z<|bB Z Z Z Z (λ hc=>aw kC Z) Z<| ?_;have oO:=oO.later (τ sN iY);refine bB Z Z Z Z (λ hc=>ak (gt hc Z) (oO.one l7 Z)) Z<| ?_;have pW:=pW.later (τ sN iY);refine bB Z Z Z Z (λ hc=>bY 0 underlying29 p2 (gt hc Z) Z (pW.has.bA (a8 0 (by decide:0<2))) Z (by decide:0<2)) Z<|bB (v:= .slice (some ⟨yA,0,none⟩) 1 1) Z Z Z Z (λ hc=>ak (gt hc Z) (κ.aH.e9 y0 (pW.has.cL (a8 0 (by decide:0<2))) Z Z tA)) Z<| ?_;have ku:=ku.later (τ sN iY);refine uH Z Z Z Z Oy (λ hc=>fB (gt hc Z) (fB (gt hc Z) Z)) (λ hc=>OQ _ _ _ _ _ _ abe ([(⟨0,3,1,⟨2,0⟩,0⟩:aI)]) _ Nq.has (aK.yX (R:=aI.rep) (by_:=48) (k:= [(⟨0,3,1,⟨2,0⟩,0⟩:aI)]) ku [[.int .i64 0, .int .i64 3, .int .i64 1, .int .i64 2, .int .i64 0, .int .i64 0]] Z (⟨⟨Z,⟨bt.2 (by decide),bt.2 (by decide),bt.2 (by decide),bt.2 (by decide),bt.2 (by decide),bt.2 (by decide)⟩⟩,trivial⟩) (by simp) (by simp))) Z λ H8 k4=> ?_;have:=k4.size;have pP:=τ rL k4;refine J (eA Z Z Z Z)<|vm Z<|bB Z Z Z Z (λ hc=>aw De Z) Z<| ?_;have CI:=CI.later (τ mz (τ sN (τ iY k4)));refine bB Z Z Z Z (λ hc=>ak (gt hc Z) (CI.one aZ Z)) Z<|bB Z Z Z Z (λ hc=>beq (gt hc Z) Z) Z<|J (eA Z Z Z Z)<|va Z<|ah<|rt<|bp (.tmp Z .nil)<| ?_;obtain ⟨f1,f2⟩:=anC.out L9 (by decide) (by decide);obtain ⟨f3,f4,f5⟩:=Zv.out L9 (by decide) (by decide);obtain ⟨f6,f7⟩:=anE.out L9 (by decide) (by decide);obtain ⟨f8,f9,f10⟩:=as7 L9 (by decide) (by decide) f4 f5 f7 (λ o bJ=>by rw [List.mem_singleton.1 (show o∈lJ from bJ)];exact ⟨bt.2 (by decide),bt.2 (by decide),bt.2 (by decide),bt.2 (by decide),bt.2 (by decide),bt.2 (by decide)⟩) anF;have f11:agq.now=1:=by rw [f2,atn]
 have f12:abe= [(⟨0,3,1,⟨2,0⟩,0⟩:aI)]:=f10;exact ⟨RX (by simp [f1,f3,f6,f8,f9,f11,f12]),pP⟩
end
end Go.Proofs.YtlikikpgmmkjbaaGreat
