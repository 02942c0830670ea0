import Derived.Test.YtlikikpgmmkjbaaGreatOrw
set_option linter.unusedVariables false
set_option linter.unusedSimpArgs false
set_option maxRecDepth 100000
set_option maxHeartbeats 4000000
open Go.RowKit
namespace Go.Proofs.YtlikikpgmmkjbaaGreat
open Tryz
abbrev aVz:=@List.mem_flatMap
section
theorem aom:Oh prog aF.cells 51 :=by
 intro a b w;obtain ⟨a0,cd,a2,⟨a3,a4⟩,a5⟩:=a;obtain ⟨OV,mI,fz,⟨gR,AB⟩,Cu⟩:=b;simp only [aF.cells,aF.mk.injEq,ax.mk.injEq];constructor
 ·go_simp
  repeat' split
  all_goals simp_all
 ·go_simp
  repeat' split
  all_goals simp_all
theorem aol:(prog).eqGuardType (prog).depth 51 =false:=by kernel_rfl
theorem acU {α:Type} (n:Nat):∀ (q:Nat) (l:List α),l.length=q * n→((List.finRange q).flatMap λ k=>(l.drop (k.1 * n)).take n)=l
 | 0,l,h=>by
  have:l= []:=aSb (by omega);subst this;rfl
 | q+1,l,h=>by
  rw [aTh] at h;have bD:=acU n q (l.drop n) (by rw [aRV];omega);rw [List.finRange_succ,aTe,List.flatMap_map];have e:(λ k:Fin q=>(l.drop (k.succ.1 * n)).take n)=λ k:Fin q=>((l.drop n).drop (k.1 * n)).take n:=by
   funext k
   rw [aUo];congr 2;show (k.1+1) * n=_;rw [aTh];omega
  show (l.drop (0 * n)).take n++((List.finRange q).flatMap λ k:Fin q=>(l.drop (k.succ.1 * n)).take n)=l;rw [e,bD,aV4,aUc,aTL]
theorem Ru (o:aF) (l:List aF):nums (o::l)=o.by_::o.kind::o.aQ::o.spot.x::o.spot.y::o.what::nums l:=rfl
theorem aju:∀ {a b:List aF},nums a=nums b→a=b
 | [], [],_=>rfl
 | [],o::b,h=>by rw [Ru] at h;exact nomatch h
 | o::a, [],h=>by rw [Ru] at h;exact nomatch h
 | o::a,p::b,h=>by
  rw [Ru,Ru] at h;injection h with τ h
  injection h with aa h
  injection h with aw h
  injection h with a1 h
  injection h with bK h
  injection h with b_ h
  have e:o=p:=by
   obtain ⟨cd,a2,a3,⟨a4,a5⟩,Kb⟩:=o;obtain ⟨c1,c2,c3,⟨c4,c5⟩,dD⟩:=p;simp only at τ aa aw a1 bK b_;subst τ aa aw a1 bK b_;rfl
  rw [e,aju h]
theorem azh {l:List Int} (h:l.length=6): [l.getD 0 0,l.getD 1 0,l.getD 2 0,l.getD 3 0,l.getD 4 0,l.getD 5 0]=l:=by
 match l,h with
 | [a,b,c,d,e,f],_=>rfl
theorem ajv {out:List Int} {q:Nat} (h:out.length=q * 6):nums (IB out q)=out:=by
 have e:nums (IB out q)=(List.finRange q).flatMap λ k=>(out.drop (k.1 * 6)).take 6:=by
  unfold nums IB;rw [List.flatMap_map];have bj:(λ k:Fin q=> [(x7 (fu out k.1)).by_,(x7 (fu out k.1)).kind,(x7 (fu out k.1)).aQ,(x7 (fu out k.1)).spot.x,(x7 (fu out k.1)).spot.y,(x7 (fu out k.1)).what])=λ k:Fin q=>(out.drop (k.1 * 6)).take 6:=by
   funext k
   have ar:=k.2;have b_:=acT (l:=out) (k:=k.1) (by omega);have ed:fu out k.1=(out.drop (k.1 * 6)).take 6:=by unfold fu;congr 1;omega
   rw [← ed];exact azh b_
  exact aSI (λ f=>(List.finRange q).flatMap f) bj
 rw [e];exact acU 6 q out h
theorem aAp {l:List aF} (h:∀ o∈l,o.ok):sR (nums l):=by
 intro x hx;obtain ⟨o,bS,hx⟩:=aVz.1 hx;obtain ⟨FN,o_,l3,nM,oi,qc⟩:=h o bS;simp only [aRW,aS3,aTR] at hx;rcases hx with rfl | rfl | rfl | rfl | rfl | rfl
 ·exact bI.1 FN
 ·exact bI.1 o_
 ·exact bI.1 l3
 ·exact bI.1 nM
 ·exact bI.1 oi
 ·exact bI.1 qc
theorem Yw {l m:List aF} {k:Int} (h:hC l=0) (eh:∀ o∈l,o.ok) (hR:Cn (iQ l) m k):k=0∧m=l:=by
 have hw:=SP h;have hn:=Rv l;have xB:=(FQ h).1;have bS:kC.l4 (iQ l)=(Pack.strOf (Pack.q9 (nums l)),0):=by rw [hw];exact kC.aAL _
 have I:(nums l).length=l.length * 6:=by omega
 have hf:FR (nums l)=l:=by
  rw [IA I];exact aju (ajv I)
 rcases hR with ⟨τ,_⟩ | ⟨_,out,j,bB,aa⟩
 ·rw [bS] at τ;exact absurd Z τ
 ·rw [bS] at bB;obtain ⟨ay,rfl⟩:=Pack.auK (aAp eh) (by omega) bB;rcases aa with ⟨aw,_⟩ | ⟨_,aw,_⟩ | ⟨_,_,⟨aw,_⟩ | ⟨aw,a1,bK⟩⟩
  ·exact absurd ay aw
  ·omega
  ·rw [hf] at aw;exact absurd h aw
  ·exact ⟨bK,by rw [a1,hf]⟩
theorem aCm {s:ByteArray} {m:List aF} {k:Int} (hR:Cn s m k):(k=0→hC m=0∧iQ m=s)∧(k≠0→m= []):=by
 rcases hR with ⟨τ,aa,aw⟩ | ⟨τ,out,j,bB,aa⟩
 ·exact ⟨λ h=>absurd (aw ▸ h) τ,λ _=>aa⟩
 ·rcases aa with ⟨aw,a1,bK⟩ | ⟨_,aw,a1,bK⟩ | ⟨ay,b_,⟨aw,a1,bK⟩ | ⟨aw,a1,bK⟩⟩
  ·exact ⟨λ h=>absurd (bK ▸ h) aw,λ _=>a1⟩
  ·exact ⟨λ h=>by omega,λ _=>a1⟩
  ·exact ⟨λ h=>absurd (bK ▸ h) aw,λ _=>a1⟩
  ·refine ⟨λ _=> ?_,λ h=>absurd bK h⟩;subst a1;refine ⟨aw, ?_⟩;have I:out.length=(out.length / 6) * 6:=by omega
   rw [SP aw,IA I,ajv I,← (bB.2.1 ay).1];rcases kC.ajM s with ⟨_,ed⟩ | ⟨ed,_⟩
   ·exact ed
   ·omega
theorem amp (l:List aF):(iQ l).size≤140737488351232:=by
 by_cases h:hC l=0
 ·have τ:=(FQ h).1;have aa:=Rv l;have aw:=Pack.aj9 (nums l);rw [SP h,kC.RY,Pack.IU];omega
 ·rw [amo h];decide
def aN7:List aF:= [⟨1,2,7,⟨2, -1⟩,0⟩]
theorem aeB (A B:Option Addr) (c d mI fz:Nat) (l m:List aF) (w:World) (τ:aF.rep.aJ mI w A c l) (aa:aF.rep.aJ fz w B d m):
  Calls prog 19 #[.slice A l.length c, .slice B m.length d] w (λ e w'=>e= .returned (.bool (decide (l=m)))∧Ext w w'):=by
 have hle:=τ.ez;refine ch (n:=26) func19 Z Z Z ?_;refine aj<|va Z<|ai<|aA<|aj<|vm Z<|J (cA underlying44 Z)<|vm Z<|J (cA underlying44 Z)<|J (bne Z Z)<|ai<| ?_;refine e1 Z (λ mo=> ?_) (λ mo=> ?_)
 ·refine aj<|va Z<|ai<|rt<|bT<|bb (.tmp Z .nil)<| ?_;rw [aSk (λ e=>mo (by rw [e]))];exact ⟨Z,(Ext.bF w)⟩
 ·refine bt<|aA<|aj<|vm Z<|J (cA underlying44 Z)<|vm Z<|ai<|bM<| ?_;refine e8 (λ cm cl aU=>∃ k:Nat,cl= [(0, .slice A l.length c),(1, .slice B m.length d),(12, .int .i64 (l.length:Int)),(13, .int .i64 (k:Int))]∧cm=l.length - k∧Ext w aU∧(k≤l.length)∧(∀ j,j<k→l[j]? =m[j]?)) _ _ ⟨0,Z,Z,(Ext.bF w),by omega,λ j ay=>absurd ay (by omega)⟩ (.cons Z (.cons Z (.cons Z (.cons (bZ Z (by first | omega | rfl | (simp<;>omega))) .nil)))) ?_;rintro X8 Tl lg ⟨k,rfl,rfl,eB,ar,gS⟩;have:=eB.size;have hle:=τ.ez;have awy:=aa.ez;refine aj<|J (blt Z Z)<|ai<|aA<| ?_;refine eg Z (λ pV=> ?_) (λ pV=> ?_)
  ·obtain ⟨fw,tk⟩:=iN (l:=l) (i:=k) (by omega);obtain ⟨DU,LS⟩:=iN (l:=m) (i:=k) (by omega);refine bt<|aA<|bM<|aj<|vm Z<|va Z<|ai<|aA<| ?_;refine rd [(3,0),(7,0)] [0,1,2,3,4,5,6,7,8] (by kernel_rfl) (by kernel_rfl) ?_;refine au Z (λ _=>aM Z)<|au Z (λ _=>aM Z)<|au Z (λ _=>b' k underlying44 dN Z Z ((τ.keep eB).bR (ba k)) Z (by omega))<|bH Z (λ _ x=>ao Z (κ.aJ.ho CX ((τ.keep (γ eB x)).cu (ba k)) tk hN dN))<|au Z (λ _=>aM Z)<|au Z (λ _=>aM Z)<|au Z (λ _=>b' k underlying44 dN Z Z ((aa.keep eB).bR (ba k)) Z (by omega))<|bH Z (λ _ x=>ao Z (κ.aJ.ho CX ((aa.keep (γ eB x)).cu (ba k)) LS hN dN))<|au Z (λ _=>Uk aom aol (p:=fw) (q:=DU) Z Z)<|fn λ Nu tT=> ?_;have:=tT.size;have vw:=γ eB tT;refine aV<| ?_;refine dJ Z (λ pT=> ?_) (λ pT=> ?_)
   ·refine aj<|va Z<|ai<|rt<|e_<|bT<|nR<|e_<|bT<|bb (.tmp Z .nil)<| ?_;rw [aSk (λ e=>by rw [e,LS] at tk;injection tk with tk;exact absurd tk.symm (by first | exact aAd pT | exact pT))];exact ⟨Z,vw⟩
   ·refine e9<|b0<|aV<|rg<|J (bad Z Z (bE (by omega)))<|vm Z<|nl<| ?_;exact c6 _ _ ⟨k+1,Z,Z,vw,by omega,wk gS (by rw [tk,LS,(by first | exact atL pT | exact pT:fw=DU)])⟩ (by omega) (.cons Z (.cons Z (.cons Z (.cons (bZ Z (by first | omega | rfl | (simp<;>omega))) .nil))))
  ·refine dH<|dG<|ef<|dF<|aV<|aj<|va Z<|ai<|rt<|bb (.tmp Z .nil)<| ?_;rw [aSe (atK (by omega) (by omega) gS)];exact ⟨Z,eB⟩
end
section
theorem avN {w:World} {cs:List Value} {a:ByteArray} (h:u1.has w cs a):cs= [.string a]:=aTI (show cs= [.string a]∧a.size≤140737488351232 from h)
theorem aCj:∀ (j:Nat) u,(Value.string .empty).cells[j]? =some u→u1.raw j u:=by
 intro j u hu;have hu:(#[(Value.string .empty:Value)]:Array Value)[j]? =some u:=hu
 match j,hu with
 | 0,hu=>exact ⟨_,(aRA hu).symm,by decide⟩
 | j+1,hu=>cases hu
theorem ayi:(prog.info? 9).map (λ i=>(i.zero,i.size,i.bytes))=some (some (.string .empty),1,16):=by kernel_rfl
end
end Go.Proofs.YtlikikpgmmkjbaaGreat
namespace Go.Proofs.YtlikikpgmmkjbaaGreat.Tree
open Tryz
open Go.RowKit Go.Proofs.YtlikikpgmmkjbaaGreat Go.Proofs.YtlikikpgmmkjbaaGreat.fc Go.Proofs.YtlikikpgmmkjbaaGreat.Mark
def HA (k:Nat):Nat→List (List UInt8)→List cY
 | 0,_=> []
 | e+1,l=>if k.testBit e then RO (l.take (2 ^ e))::HA k e (l.drop (2 ^ e)) else HA k e l
def Ph (l:List cY):List Value:=l.map fun x=>Value.int .u64 (U x)
def GW (_:Nat) (u:Value):Prop:=∃ n:Int,u= .int .u64 n
def aHp (k:Nat) (l:List ByteArray) (w:World) (e:Ending) (w':World):Prop :=
 ∃ A c,e= .returned (.tuple #[.slice A (HA k 9 (lists l)).length c, .int .i64 0])∧Own w' w.heap.size 41 1 GW (.slice A (HA k 9 (lists l)).length c) (HA k 9 (lists l)).length (Ph (HA k 9 (lists l)))∧Below w.heap.size w w'
end Go.Proofs.YtlikikpgmmkjbaaGreat.Tree
namespace Go.Proofs.YtlikikpgmmkjbaaGreat
open Tryz
end Go.Proofs.YtlikikpgmmkjbaaGreat
namespace Go.Proofs.YtlikikpgmmkjbaaGreat.Tree
open Tryz
open Go.RowKit Go.Proofs.YtlikikpgmmkjbaaGreat Go.Proofs.YtlikikpgmmkjbaaGreat.fc Go.Proofs.YtlikikpgmmkjbaaGreat.Mark
def ayt:List cY→cY
 | []=>0#64
 | x::r=>match r with
  | []=>x
  | y::t=>IE x (ayt (y::t))
def aHq (w:World) (e:Ending) (w':World):Prop:=∃ (A:Option Addr) (n c:Nat) (k:Int),e= .returned (.tuple #[.slice A n c, .int .i64 k])∧Below w.heap.size w w'
def GS (_:Nat) (u:Value):Prop:=∃ s:ByteArray,u= .string s
def aGJ (w:World) (n:Nat) (l:List ByteArray) (e:Ending) (w':World):Prop :=
 ∃ A c,e= .returned (.slice A n c)∧Own w' w.heap.size 9 1 GS (.slice A n c) n (aqk l)∧Below w.heap.size w w'
end Go.Proofs.YtlikikpgmmkjbaaGreat.Tree
namespace Go.Proofs.YtlikikpgmmkjbaaGreat
open Tryz
end Go.Proofs.YtlikikpgmmkjbaaGreat
namespace Go.Proofs.YtlikikpgmmkjbaaGreat.Tree
open Tryz
open Go.RowKit Go.Proofs.YtlikikpgmmkjbaaGreat Go.Proofs.YtlikikpgmmkjbaaGreat.fc Go.Proofs.YtlikikpgmmkjbaaGreat.Mark
def G9:Nat→cY→Nat→Nat→List cY→cY×Bool
 | 0,m,_,_,t=>(m,t.isEmpty)
 | f+1,m,at_,n,t =>
  if n=1 then (m,t.isEmpty) else
  match t.getLast? with
  | none=>(0#64,false)
  | some x=>if at_<l5 n then (IE (G9 f m at_ (l5 n) t.dropLast).1 x,(G9 f m at_ (l5 n) t.dropLast).2)
   else (IE x (G9 f m (at_ - l5 n) (n - l5 n) t.dropLast).1,(G9 f m (at_ - l5 n) (n - l5 n) t.dropLast).2)
def aGI (w:World) (r:cY×Bool) (e:Ending) (w':World):Prop:=e= .returned (.tuple #[.int .u64 (U r.1), .bool r.2])∧w=w'
def agK (root:cY) (s:List UInt8) (at_ n:Nat) (t:List cY):Bool:=(G9 n (Db s) at_ n t).2 && decide ((G9 n (Db s) at_ n t).1=root)
end Go.Proofs.YtlikikpgmmkjbaaGreat.Tree
namespace Go.Proofs.YtlikikpgmmkjbaaGreat
open Tryz
end Go.Proofs.YtlikikpgmmkjbaaGreat
namespace Go.Proofs.YtlikikpgmmkjbaaGreat.Tree
open Tryz
open Go.RowKit Go.Proofs.YtlikikpgmmkjbaaGreat Go.Proofs.YtlikikpgmmkjbaaGreat.fc Go.Proofs.YtlikikpgmmkjbaaGreat.Mark

def R6:Nat→List (List UInt8)→Nat→List cY
 | 0,_,_=> []
 | f+1,l,at_=>if l.length=1 then [] else
  if at_<l5 l.length then R6 f (l.take (l5 l.length)) at_++ [RO (l.drop (l5 l.length))]
  else R6 f (l.drop (l5 l.length)) (at_ - l5 l.length)++ [RO (l.take (l5 l.length))]
def aHL (w:World) (t:List cY) (e:Ending) (w':World):Prop:=∃ A c,e= .returned (.slice A t.length c)∧Own w' w.heap.size 41 1 GW (.slice A t.length c) t.length (Ph t)∧Below w.heap.size w w'
end Go.Proofs.YtlikikpgmmkjbaaGreat.Tree
namespace Go.Proofs.YtlikikpgmmkjbaaGreat
open Tryz
end Go.Proofs.YtlikikpgmmkjbaaGreat
namespace Go.Proofs.YtlikikpgmmkjbaaGreat.Tree
open Tryz
open Go.Proofs.YtlikikpgmmkjbaaGreat.fc Go.Proofs.YtlikikpgmmkjbaaGreat.Mark

def adI:Nat→Nat→Nat→Nat
 | 0,_,_=>0
 | f+1,at_,n=>if n=1 then 0 else if at_<l5 n then adI f at_ (l5 n)+1 else adI f (at_ - l5 n) (n - l5 n)+1
def akV:Nat→Nat→Nat→List Bool
 | 0,_,_=> []
 | f+1,at_,n=>if n=1 then [] else if at_<l5 n then akV f at_ (l5 n)++ [false] else akV f (at_ - l5 n) (n - l5 n)++ [true]
def aDs (m:cY) (x:Bool×cY):cY:=if x.1 then IE x.2 m else IE m x.2
def along (sd:List Bool) (t:List cY) (m:cY) (k:Nat):cY:=((sd.zip t).take k).foldl aDs m
end Go.Proofs.YtlikikpgmmkjbaaGreat.Tree
namespace Go.Proofs.YtlikikpgmmkjbaaGreat
open Tryz
end Go.Proofs.YtlikikpgmmkjbaaGreat
namespace Go.Proofs.YtlikikpgmmkjbaaGreat.Tree
open Tryz
open Go.RowKit Go.Proofs.YtlikikpgmmkjbaaGreat Go.Proofs.YtlikikpgmmkjbaaGreat.fc Go.Proofs.YtlikikpgmmkjbaaGreat.Mark

def aHM (w:World) (t:List cY) (e:Ending) (w':World):Prop:=∃ A c,e= .returned (.tuple #[.slice A t.length c, .int .i64 0])∧Own w' w.heap.size 41 1 GW (.slice A t.length c) t.length (Ph t)∧Below w.heap.size w w'
def aGK (w:World) (n:Nat) (l:List cY) (e:Ending) (w':World):Prop :=
 ∃ A c,e= .returned (.slice A n c)∧Own w' w.heap.size 41 1 GW (.slice A n c) n (Ph l)∧Below w.heap.size w w'
end Go.Proofs.YtlikikpgmmkjbaaGreat.Tree
namespace Go.Proofs.YtlikikpgmmkjbaaGreat
open Tryz
section
open Go.Proofs.YtlikikpgmmkjbaaGreat.fc
def aHK (l:List ByteArray) (n k:Int) (t:List (BitVec 64)):Prop:=(k=0∧0≤n∧n<(l.length:Int)∧t=Tree.R6 l.length (Tree.lists l) n.toNat)∨(k≠0∧¬(0≤n∧n<(l.length:Int))∧t= [])
def aHD (W:ah) (L:List (List aF)) (n e:Int) (r:BitVec 64):Prop :=
 (e=0∧oN W L∧0≤n∧n≤(L.length:Int)∧r=Tree.RO (Tree.lists ((L.take n.toNat).map iQ)))∨(e≠0∧¬(oN W L∧0≤n∧n≤(L.length:Int))∧r=0)
def abY (W:ah) (L:List (List aF)) (n e:Int) (s:ByteArray) (t:List (BitVec 64)):Prop :=
 (e=0∧oN W L∧0≤n∧n<(L.length:Int)∧s=(L.map iQ).getD n.toNat ByteArray.empty∧t=Tree.R6 (L.map iQ).length (Tree.lists (L.map iQ)) n.toNat)∨(e≠0∧¬(oN W L∧0≤n∧n<(L.length:Int))∧s=G6 []∧t= [])
def aHJ (r:BitVec 64) (n at_:Int) (s:ByteArray) (t:List (BitVec 64)) (m:List aF) (k:Int) (b:Bool):Prop :=
 (Tree.agK r s.data.toList at_.toNat n.toNat t=true∧Cn s m k∧b=(k == 0))∨(Tree.agK r s.data.toList at_.toNat n.toNat t=false∧m= []∧b=false∧k=0)
end
section
open Go.Proofs.YtlikikpgmmkjbaaGreat.fc
theorem auB (L:List (List aF)) {i:Nat} (h:i<L.length):(L.map iQ).getD i ByteArray.empty=iQ (L.getD i []):=by
 rw [aRB,aRB,aRU,aRD h];rfl
theorem abY.size {W:ah} {L:List (List aF)} {n e:Int} {s:ByteArray} {t:List (BitVec 64)} (h:abY W L n e s t):s.size≤140737488351232:=by
 rcases h with ⟨_,_,aH,τ,aa,_⟩ | ⟨_,_,aa,_⟩
 ·rw [aa,auB L (by omega)];exact amp _
 ·rw [aa];decide
theorem oN.aAP {W:ah} {L:List (List aF)} (h:oN W L) {i:Nat} (aq:i<L.length):hC (L.getD i [])=0:=by
 have τ:=(h.take i).2.2;have aa:=(h.take (i+1)).2.2;have aK:L[i]? =some (L.getD i []):=by rw [aRB,aRD aq];rfl
 rw [RR τ aK] at aa;exact (M5 (R7 aa).1).1
def aPm:List (List aF):= [nS, []]
end
section
theorem G_ (A:Option Addr) (c:Nat) (l:List aF) (w:World) (h:aF.rep.aJ 48 w A c l):
  Calls prog 28 #[.slice A l.length c] w λ e w'=>∃ bG b4,e= .returned (.slice bG l.length b4)∧aF.rep.aD 51 48 w' w.heap.size (κ.ae bG) bG b4 l∧(bG=none↔A=none)∧Below w.heap.size w w':=by
 obtain ⟨i0,aq,o2,nC,qX⟩:=aUa aF.info;have RK:∀ (w:World) (a:Option Addr) (n c jQ b4:Nat),(binOp .eql 44 (.slice a n c) (.slice none jQ b4)).run prog w= .ok (.bool a.isNone) w:=λ w a n c jQ b4=>aTQ w _ _ a n c jQ b4 underlying44;cases A with
 | none =>
  obtain rfl:c=0:=h.2.2.2.1 rfl;obtain rfl:l= []:=aSb (by have:=h.1;omega);go_enter func28,ntmps28;go_wp2_with fail
  go_ret;exact ⟨none,0,Z,κ.aD.nil _,by simp,aR8 _ _⟩
 | some a =>
  have cF:Below w.heap.size w (w.alloc (.cells #[] 51)):=(aR8 _ w).alloc (aRN _) _;obtain ⟨n,fe⟩:∃ n,Hid (l.length=n):=⟨_,aRF rfl⟩;obtain ⟨τ,aa,aw,a1,ess,bK,b_⟩:=h.keep cF;have ry:=aRF bK;have o0:∀ u∈ess.flatten,u.oneCell'=true:=by
   intro u hu;obtain ⟨y,aL,hu⟩:=aSN.1 hu;obtain ⟨a,ha⟩:=bK.left y aL;exact aF.rep.one ha u hu
  have qW:∀ (j:Nat) u,ess.flatten[j]? =some u→aF.rep.raw (j % aF.rep.size) u:=λ j u hu=>Ht bK (by decide) hu;rw [fe.out] at τ aw b_;have ct:=aRF b_;have jm:=aRF (Own.empty (e:= 51) (size:=aF.rep.size) (G:=aF.rep.raw) w (aRN w.heap.size));clear h a1 bK b_;rw [fe.out];go_enter func28,ntmps28;go_wp2_with (at_builtin;refine Ji _ rfl _ _ 44 rfl w.heap.size 51 i0 aF.zero aF.rep.size 48 underlying44 aq o2 nC qX rfl (by decide) aF.rep.raw aF.h8 _ _ _ rfl jm.out (some a) n c ess.flatten rfl ct.out o0 qW ?qc4 ?qc5 ?qc6 ?_)
  case qc4=>unfold maxLen;omega
  case qc5=>omega
  case qc6=>simp
  intro v' aP fi jB mP fL;have cT:=cF.grown jB (by simp) (by intro k ar;simp [Value.ownBlock] at ar;omega);obtain ⟨cq,c1,rfl,hle,_,_,_,lA⟩:=fi.shape;have kl:cq≠none:=by
   intro h;subst h;exact mP (lA Z)
  have aT:Hid (aF.rep.aD 51 48 aP w.heap.size (κ.ae cq) cq c1 l):=aRF (κ.aD.By aF.plain ry.out (by rw [fe.out];exact aw) (by rw [fe.out];simpa using fi));have ue:=aRF kl;clear jB mP fL fi kl lA o0 qW;go_wp2_with fail
  go_ret;exact ⟨cq,c1,Z,aT.out,⟨λ h=>absurd h ue.out,λ h=>by cases h⟩,cT⟩
end
section
theorem abZ:eC prog ov 29 44 24:=eC.kT (z:= .slice none 0 0) (k:=1) underlying29 Xz rfl rfl (by decide) (λ j u h=>YP j u h)
open Go.Proofs.YtlikikpgmmkjbaaGreat.fc
def kX (T:List gZ):List Nat:=T.flatMap λ v:gZ=>κ.ae v.a
def iu (w:World) (aC:Nat) (T:List gZ) (L:List (List aF)):Prop:=T.length=L.length∧∀ (i:Nat) (v:gZ),T[i]? =some v→∃ l:List aF,L[i]? =some l∧v.n=l.length∧aF.rep.aD 51 48 w aC (κ.ae v.a) v.a v.c l
theorem iu.nil (w:World) (aC:Nat):iu w aC [] []:=⟨rfl,λ i v h=>by simp at h⟩
theorem alj {T:List gZ} {q:Nat} (h:q∈kX T):∃ (i:Nat) (v:gZ),T[i]? =some v∧q∈κ.ae v.a:=by
 obtain ⟨v,hv,I⟩:=aVz.1 h;obtain ⟨i,aq,rfl⟩:=aSw.1 hv;exact ⟨i,_,aRD aq,I⟩
theorem Zi {T:List gZ} {q i:Nat} {v:gZ} (h:T[i]? =some v) (I:q∈κ.ae v.a):q∈kX T:=aVz.2 ⟨v,aSc h,I⟩
theorem M8 {T:List gZ} {v:gZ} {q:Nat} (h:q∈kX (T++ [v])):q∈kX T∨q∈κ.ae v.a:=by
 unfold kX at h ⊢;rw [aSZ,aRR] at h;exact h.imp id λ h=>by simpa using h
section
variable {w w':World} {aC:Nat} {T:List gZ} {L:List (List aF)}
theorem iu.later (h:iu w aC T L) (x:Ext w w'):iu w' aC T L:=⟨h.1,λ i v aq=>by
 obtain ⟨l,τ,aa,aw⟩:=h.2 i v aq;exact ⟨l,τ,aa,aw.later x⟩⟩
theorem iu.mod {S:List Nat} (h:iu w aC T L) (m:Mod S w w') (hd:∀ q∈kX T,q∉S):iu w' aC T L:=⟨h.1,λ i v aq=>by
 obtain ⟨l,τ,aa,aw⟩:=h.2 i v aq;exact ⟨l,τ,aa,aw.mod m λ q I=>hd q (Zi aq I)⟩⟩
theorem iu.down {sW:Nat} (h:iu w aC T L) (bs:sW≤aC):iu w sW T L:=⟨h.1,λ i v aq=>by
 obtain ⟨l,τ,aa,aw⟩:=h.2 i v aq;exact ⟨l,τ,aa,aw.down bs⟩⟩
theorem iu.lt (h:iu w aC T L):∀ q∈kX T,aC≤q∧q<w.heap.size:=λ q I=>by
 obtain ⟨i,v,aq,I⟩:=alj I;obtain ⟨l,τ,aa,aw⟩:=h.2 i v aq;exact aw.lt q I
theorem iu.snoc {A:Option Addr} {c:Nat} {l:List aF} (h:iu w aC T L) (o:aF.rep.aD 51 48 w aC (κ.ae A) A c l):iu w aC (T++ [⟨A,l.length,c⟩]) (L++ [l]):=⟨by simp [h.1],λ i v aq=>by
 rcases aSA i T.length with bw | r4
 ·rw [aRX bw] at aq;obtain ⟨uP,τ,aa,aw⟩:=h.2 i v aq;exact ⟨uP,by rw [aRX (by rw [← h.1];exact bw)];exact τ,aa,aw⟩
 ·rw [aR0 r4] at aq;have aH:i - T.length=0:=by
   rcases aUn (i - T.length) with aH | aH
   ·exact aH
   ·rw [aSR (by simp;omega)] at aq;cases aq
  rw [aH] at aq;obtain rfl:=aRA (show some (⟨A,l.length,c⟩:gZ)=some v from aq);refine ⟨l,by rw [aR0 (by rw [← h.1];exact r4),← h.1,aH];rfl,rfl,o⟩⟩
theorem iu.Zg (h:iu w aC T L):qI w T L:=⟨h.1,λ i v aq=>by
 obtain ⟨l,τ,aa,aw⟩:=h.2 i v aq;exact ⟨l,τ,aa,aw.has⟩⟩
end
def aob (W:ah) (L:List (List aF)) (l:List aF) (e:Int) (V:ah) (yN:List (List aF)):Prop :=
 (e=0∧oN W L∧L.length<200∧h5 (ot W L) l=0∧V=W∧yN=L++ [l])∨(e≠0∧¬(oN W L∧L.length<200∧h5 (ot W L) l=0)∧V=ah.zero∧yN= [])
theorem Yj (a:ah.b5) (W:ah) (A:Option Addr) (c:Nat) (T:List gZ) (L:List (List aF)) (po:Option Addr) (uz:Nat) (l:List aF) (w:World) (bV:ah.Has w a W) (b8:ov.aJ 24 w A c T) (kK:qI w T L) (az:aF.rep.aJ 48 w po uz l):
  Calls prog 23 #[.agg #[.int .i64 W.field.wide, .int .i64 W.field.high, .slice a.P W.field.aZ.length a.p, .slice a.B W.aW.length a.b, .slice a.S W.bk.length a.s, .slice a.M W.br.length a.m, .slice a.T W.ak.length a.t, .int .i64 W.next, .int .i64 W.now, .slice A T.length c], .slice po l.length uz] w (λ e w'=>∃ (e':Int) (a':ah.b5) (V:ah) (bG:Option Addr) (b4:Nat) (j3:List gZ) (yN:List (List aF)),e= .returned (.tuple #[.agg #[.int .i64 V.field.wide, .int .i64 V.field.high, .slice a'.P V.field.aZ.length a'.p, .slice a'.B V.aW.length a'.b, .slice a'.S V.bk.length a'.s, .slice a'.M V.br.length a'.m, .slice a'.T V.ak.length a'.t, .int .i64 V.next, .int .i64 V.now, .slice bG j3.length b4], .int .i64 e'])∧aob W L l e' V yN∧bq w' w.heap.size a' V∧ov.aD 44 24 w' w.heap.size (κ.ae bG) bG b4 j3∧iu w' w.heap.size j3 yN∧(∀ q∈bq.bX a',q∉κ.ae bG∧q∉kX j3)∧(∀ q∈κ.ae bG,q∉kX j3)∧Ext w w'):=by
 have A_:=b8.ez;refine ch (n:=79) func23 Z Z Z ?_;refine aj<|cB Z Z Z Z λ cv bJ a7 ee ab=> ?_;have:=a7.size;have bg:=γ (Ext.bF w) a7;have ei:=ab.lt;refine al Z U0 Z Z λ eK cw bl ie ag=> ?_;have:=bl.size;have bQ:=γ bg bl;have h3:=ag.lt;refine va Z<|ai<|aj<|J (av KD Z)<| ?_;have ab:=ab.later bl;refine J (ao Z (ab.par [.int .i64 W.field.wide, .int .i64 W.field.high, .slice a.P W.field.aZ.length a.p, .slice a.B W.aW.length a.b, .slice a.S W.bk.length a.s, .slice a.M W.br.length a.m, .slice a.T W.ak.length a.t, .int .i64 W.next, .int .i64 W.now] du cf Z))<|J (av uF Z)<|J (ao Z (ab.one za Z))<|ca KE Z Z ((MT a W _ _ T L _ (bV.keep bQ) (b8.keep bQ) (kK.keep bQ)).mono ?_);rintro e yj ⟨B7,dn,cz,Jv,apG,az4,rfl,LG,iI,JY,Lg,hD⟩;refine ⟨_,Z, ?_⟩;have:=hD.size;have kB:=γ bQ hD;have m_:=λ q I=>(iI.lt q I).2;have mR:=λ q I=>(iI.lt q I).1;have u7:=λ q I=>(JY.lt q I).2;have xX:=λ q I=>(JY.lt q I).1;have aq9:∀ q∈κ.ae Jv,q∈bq.bX dn→False:=Lg;have ar1:∀ q∈bq.bX dn,q∈κ.ae Jv→False:=λ q τ aa=>Lg q aa τ;refine vm Z<|J (ex Z Z)<|J (ex Z Z)<|J (ex Z Z)<|al Z pQ Z Z λ yk aIe gV aMf N7=> ?_;have:=gV.size;have ke:=γ kB gV;have aOH:=N7.lt;refine st Z Z N7 Z cf Z Z Z λ BK x1 N7=> ?_;have:=x1.size;have ph:=Ext.mod ke x1 bu;refine va Z<|va Z<|ai<|aA<|aj<|vm Z<|J (bne Z Z)<|ai<| ?_;refine e1 Z (λ oX=> ?_) (λ oX=> ?_)
 ·refine aj<|J (v:= .agg #[.int .i64 0, .int .i64 0, .slice none 0 0, .slice none 0 0, .slice none 0 0, .slice none 0 0, .slice none 0 0, .int .i64 0, .int .i64 0, .slice none 0 0]) (cK Z (by kernel_rfl))<|vm Z<| ?_;have ag:=ag.later (γ hD gV);have ag:=ag.mod x1 aO;refine st (new:= [.int .i64 0, .int .i64 0, .slice none 0 0, .slice none 0 0, .slice none 0 0, .slice none 0 0, .slice none 0 0, .int .i64 0, .int .i64 0, .slice none 0 0]) Z Z ag Z rN Z Z Z λ I7 Ir ag=> ?_;have:=Ir.size;have qv:=Ext.mod ph Ir bu;refine va Z<|ai<|rt<|bT<|bb (.cell Z (ag.all CK rN) (.tmp Z .nil))<| ?_;exact ⟨B7,⟨none,none,none,none,none,0,0,0,0,0⟩,ah.zero,none,0, [], [],Z, .inr ⟨(by simpa using oX),λ bd=>(show ¬ B7=0 by simpa using oX) (LG.R2.2 bd.1),Z,Z⟩,bq.zero _ _,κ.aD.nil _,iu.nil _ _,λ q I=>⟨λ h=>by simp [κ.ae] at h,λ h=>by simp [kX] at h⟩,λ q I=>by simp [κ.ae] at I,qv⟩
 ·obtain ⟨o_,l3,nM,oi,qc⟩:=LG.ok (by simpa using oX);have aKn:=kK.1;refine bt<|aA<|aj<|J (av uF Z)<| ?_;have ab:=ab.later (γ hD gV);have ab:=ab.mod x1 aO;refine J (ao Z (ab.one za Z))<|J (cA underlying29 Z)<|J (beq Z Z)<|ai<| ?_;refine i' Z (λ v8=> ?_) (λ v8=> ?_)
  ·refine aj<|J (v:= .agg #[.int .i64 0, .int .i64 0, .slice none 0 0, .slice none 0 0, .slice none 0 0, .slice none 0 0, .slice none 0 0, .int .i64 0, .int .i64 0, .slice none 0 0]) (cK Z (by kernel_rfl))<| ?_;have ag:=ag.later (γ hD gV);have ag:=ag.mod x1 aO;refine st (new:= [.int .i64 0, .int .i64 0, .slice none 0 0, .slice none 0 0, .slice none 0 0, .slice none 0 0, .slice none 0 0, .int .i64 0, .int .i64 0, .slice none 0 0]) Z Z ag Z rN Z Z Z λ Ni Bq ag=> ?_;have:=Bq.size;have rm:=Ext.mod ph Bq bu;refine va Z<|ai<|rt<|bT<|bb (.cell Z (ag.all CK rN) (.tmp Z .nil))<| ?_;exact ⟨6,⟨none,none,none,none,none,0,0,0,0,0⟩,ah.zero,none,0, [], [],Z, .inr ⟨(by decide),λ bd=>by have:=bd.2.1;have Ws:=v8;omega,rfl,rfl⟩,bq.zero _ _,κ.aD.nil _,iu.nil _ _,λ q I=>⟨λ h=>by simp [κ.ae] at h,λ h=>by simp [kX] at h⟩,λ q I=>by simp [κ.ae] at I,rm⟩
  ·have bw:L.length<200:=by have Ws:=v8;omega
   refine bt<|aA<|aj<|J (ao Z (N7.all du cf))<|vm Z<| ?_;have iI:=iI.later gV;have iI:=iI.mod x1 (bL m_);refine ca UZ Z Z ((M9 dn cz _ _ l _ iI.has (az.keep ph)).mono ?_);rintro e Nq ⟨GZ,Gy,acz,Gz,acA,GA,acB,rfl,aaZ,jr,js,jt,WA,jU⟩;refine ⟨_,Z, ?_⟩;have:=jU.size;have yz:=γ ph jU;have aD6:=λ q I=>(aaZ.lt q I).2;have aMQ:=λ q I=>(aaZ.lt q I).1;have I0:=λ q I=>(jr.lt q I).2;have aMS:=λ q I=>(jr.lt q I).1;have DB:=λ q I=>(js.lt q I).2;have aMT:=λ q I=>(js.lt q I).1;have DC:=λ q I=>(jt.lt q I).2;have aMU:=λ q I=>(jt.lt q I).1;have arb:∀ q∈κ.ae Gy,q∈bq.bX GZ→False:=λ q I=>WA q (.inl I);have aJc:∀ q∈bq.bX GZ,q∈κ.ae Gy→False:=λ q τ aa=>arb q aa τ;have arc:∀ q∈κ.ae Gz,q∈bq.bX GZ→False:=λ q I=>WA q (.inr (.inl I));have aJd:∀ q∈bq.bX GZ,q∈κ.ae Gz→False:=λ q τ aa=>arc q aa τ;have ard:∀ q∈κ.ae GA,q∈bq.bX GZ→False:=λ q I=>WA q (.inr (.inr I));have aJe:∀ q∈bq.bX GZ,q∈κ.ae GA→False:=λ q τ aa=>ard q aa τ;refine vm Z<|J (ex Z Z)<|J (ex Z Z)<|J (ex Z Z)<|al Z pQ Z Z λ aEW aIm ek aMt JB=> ?_;have:=ek.size;have Z3:=γ yz ek;have aOU:=JB.lt;refine al Z Hi Z Z λ SA acf jV aiU nh=> ?_;have:=jV.size;have tZ:=γ Z3 jV;have RI:=nh.lt;have JB:=JB.later jV;refine st Z Z JB Z cf Z Z Z λ Nv ko JB=> ?_;have:=ko.size;have yB:=Ext.mod tZ ko bu;have nh:=nh.mod ko aO;refine st (new:= [.slice Gy ((zM cz l).length) acz, .slice Gz ((zN cz l).length) acA, .slice GA ((zL cz l).length) acB]) Z Z nh Z AO Z Z Z λ Jd p_ nh=> ?_;have:=p_.size;have sJ:=Ext.mod yB p_ bu;refine va Z<|ai<|aj<|vm Z<|J (bne Z Z)<|ai<| ?_;refine e1 Z (λ Qj=> ?_) (λ Qj=> ?_)
   ·refine aj<|J (v:= .agg #[.int .i64 0, .int .i64 0, .slice none 0 0, .slice none 0 0, .slice none 0 0, .slice none 0 0, .slice none 0 0, .int .i64 0, .int .i64 0, .slice none 0 0]) (cK Z (by kernel_rfl))<|vm Z<| ?_;have ag:=ag.later (γ hD gV);have ag:=ag.mod x1 aO;have ag:=ag.later (γ jU (γ ek jV));have ag:=ag.mod ko aO;have ag:=ag.mod p_ aO;refine st (new:= [.int .i64 0, .int .i64 0, .slice none 0 0, .slice none 0 0, .slice none 0 0, .slice none 0 0, .slice none 0 0, .int .i64 0, .int .i64 0, .slice none 0 0]) Z Z ag Z rN Z Z Z λ ZH zA ag=> ?_;have:=zA.size;have vy:=Ext.mod sJ zA bu;refine va Z<|ai<|rt<|bT<|bb (.cell Z (ag.all CK rN) (.tmp Z .nil))<| ?_;exact ⟨h5 cz l,⟨none,none,none,none,none,0,0,0,0,0⟩,ah.zero,none,0, [], [],Z, .inr ⟨(by simpa using Qj),λ bd=>absurd bd.2.2 (by rw [← oi];simpa using Qj),Z,Z⟩,bq.zero _ _,κ.aD.nil _,iu.nil _ _,λ q I=>⟨λ h=>by simp [κ.ae] at h,λ h=>by simp [kX] at h⟩,λ q I=>by simp [κ.ae] at I,vy⟩
   ·have Fk:h5 (ot W L) l=0:=by rw [← oi];simpa using Qj
    refine bt<|aj<|J (av KD Z)<| ?_;have ab:=ab.later (γ jU (γ ek jV));have ab:=ab.mod ko aO;have ab:=ab.mod p_ aO;refine J (ao Z (ab.par [.int .i64 W.field.wide, .int .i64 W.field.high, .slice a.P W.field.aZ.length a.p, .slice a.B W.aW.length a.b, .slice a.S W.bk.length a.s, .slice a.M W.br.length a.m, .slice a.T W.ak.length a.t, .int .i64 W.next, .int .i64 W.now] du cf Z))<|ca KE Z Z ((MT a W _ _ ([]:List gZ) ([]) _ (bV.keep sJ) (κ.aJ.nil _) qI.nil).mono ?_);rintro e ZK ⟨aGT,dC,et,Z',aIP,aNf,rfl,axo,hl,abn,af1,ll⟩;refine ⟨_,Z, ?_⟩;have:=ll.size;have Gv:=γ sJ ll;have DE:=λ q I=>(hl.lt q I).2;have azo:=λ q I=>(hl.lt q I).1;have aQj:=λ q I=>(abn.lt q I).2;have aMZ:=λ q I=>(abn.lt q I).1;have aI7:∀ q∈κ.ae Z',q∈bq.bX dC→False:=af1;have aJn:∀ q∈bq.bX dC,q∈κ.ae Z'→False:=λ q τ aa=>af1 q aa τ;refine vm Z<|J (ex Z Z)<|J (ex Z Z)<|J (ex Z Z)<|al Z pQ Z Z λ SF aIy gu aMK Ob=> ?_;have:=gu.size;have B1:=γ Gv gu;have aPc:=Ob.lt;refine st Z Z Ob Z cf Z Z Z λ ZM wy Ob=> ?_;have:=wy.size;have Gx:=Ext.mod B1 wy bu;refine va Z<|va Z<|ai<|aj<|J (ao Z (Ob.all du cf))<|J (v:= .agg #[.int .i64 et.field.wide, .int .i64 et.field.high, .slice dC.P et.field.aZ.length dC.p, .slice dC.B et.aW.length dC.b, .slice dC.S et.bk.length dC.s, .slice dC.M et.br.length dC.m, .slice dC.T et.ak.length dC.t, .int .i64 et.next, .int .i64 et.now, .slice none 0 0]) (cK Z (by kernel_rfl))<|al Z U0 Z Z λ aEI OW DK aLU N4=> ?_;have:=DK.size;have ZT:=γ Gx DK;have aOe:=N4.lt;refine st (new:= [.int .i64 et.field.wide, .int .i64 et.field.high, .slice dC.P et.field.aZ.length dC.p, .slice dC.B et.aW.length dC.b, .slice dC.S et.bk.length dC.s, .slice dC.M et.br.length dC.m, .slice dC.T et.ak.length dC.t, .int .i64 et.next, .int .i64 et.now, .slice none 0 0]) Z Z N4 Z rN Z Z Z λ F6 mS N4=> ?_;have:=mS.size;have NG:=Ext.mod ZT mS bu;refine ai<|aA<|aj<|J (av uF Z)<| ?_;have ab:=ab.later (γ ll gu);have ab:=ab.mod wy aO;have ab:=ab.later DK;have ab:=ab.mod mS aO;refine J (ao Z (ab.one za Z))<|J (cA underlying29 Z)<|vm Z<|ai<|bM<| ?_;have hl:=hl.later gu;have hl:=hl.mod wy (bL DE);have hl:=hl.later DK;have hl:=hl.mod mS (bL DE);have ag:=ag.later (γ hD gV);have ag:=ag.mod x1 aO;have ag:=ag.later (γ jU (γ ek jV));have ag:=ag.mod ko aO;have ag:=ag.mod p_ aO;have ag:=ag.later (γ ll gu);have ag:=ag.mod wy aO;have ag:=ag.later DK;have ag:=ag.mod mS aO;have jr:=jr.later (γ ek jV);have jr:=jr.mod ko (bL I0);have jr:=jr.mod p_ (bL I0);have jr:=jr.later (γ ll gu);have jr:=jr.mod wy (bL I0);have jr:=jr.later DK;have jr:=jr.mod mS (bL I0);have js:=js.later (γ ek jV);have js:=js.mod ko (bL DB);have js:=js.mod p_ (bL DB);have js:=js.later (γ ll gu);have js:=js.mod wy (bL DB);have js:=js.later DK;have js:=js.mod mS (bL DB);have jt:=jt.later (γ ek jV);have jt:=jt.mod ko (bL DC);have jt:=jt.mod p_ (bL DC);have jt:=jt.later (γ ll gu);have jt:=jt.mod wy (bL DC);have jt:=jt.later DK;have jt:=jt.mod mS (bL DC);refine e8 (λ cm cl aU=>∃ k:Nat,∃ gx:List gZ,∃ cW:Option Addr,∃ hM:Nat,cl= [(1, .slice po l.length uz),(4, .pointer (some ⟨cw,0,none⟩)),(5, .int .i64 0),(15, .pointer (some ⟨OW,0,none⟩)),(57, .slice A T.length c),(58, .int .i64 (T.length:Int)),(59, .int .i64 (k:Int))]∧cm=T.length - k∧Ext w aU∧aR aU cw [.int .i64 0, .int .i64 0, .slice none 0 0, .slice none 0 0, .slice none 0 0, .slice none 0 0, .slice none 0 0, .int .i64 0, .int .i64 0, .slice none 0 0] 31 (0,0)∧bP.aD 3 8 aU BK.heap.size (κ.ae Gy) Gy acz (zM cz l)∧bP.aD 3 8 aU BK.heap.size (κ.ae Gz) Gz acA (zN cz l)∧zG.aD 4 1 aU BK.heap.size (κ.ae GA) GA acB (zL cz l)∧bq aU Jd.heap.size dC et∧aR aU OW [.int .i64 et.field.wide, .int .i64 et.field.high, .slice dC.P et.field.aZ.length dC.p, .slice dC.B et.aW.length dC.b, .slice dC.S et.bk.length dC.s, .slice dC.M et.br.length dC.m, .slice dC.T et.ak.length dC.t, .int .i64 et.next, .int .i64 et.now, .slice cW gx.length hM] 31 (0,0)∧ov.aD 44 24 aU F6.heap.size (κ.ae cW) cW hM gx∧iu aU F6.heap.size gx (L.take k)∧(k≤T.length)∧(gx.length=k)∧(F6.heap.size≤aU.heap.size)∧(∀ q∈kX gx,q∈κ.ae cW→False)∧(∀ q∈κ.ae cW,q=cw→False)∧(∀ q∈κ.ae cW,q=OW→False)∧(∀ q∈κ.ae cW,q∈bq.bX dC→False)∧(∀ q∈κ.ae cW,q∈κ.ae Gy→False)∧(∀ q∈κ.ae cW,q∈κ.ae Gz→False)∧(∀ q∈κ.ae cW,q∈κ.ae GA→False)) _ _ ⟨0, [],none,0,Z,Z,NG,ag,jr,js,jt,hl,N4,(κ.aD.nil _),(iu.nil _ _),by omega,rfl,aRN _,λ q τ aa=>by simp [kX] at τ,(λ q I Φ=>by (simp [κ.ae] at I)),(λ q I Φ=>by (simp [κ.ae] at I)),(λ q I Φ=>by (simp [κ.ae] at I)),(λ q I Φ=>by (simp [κ.ae] at I)),(λ q I Φ=>by (simp [κ.ae] at I)),(λ q I Φ=>by (simp [κ.ae] at I))⟩ (.cons Z (.cons Z (.cons Z (.cons Z (.cons Z (.cons Z (.cons (bZ Z (by first | omega | rfl | (simp<;>omega))) .nil))))))) ?_;rintro aM3 aGZ Sw ⟨k,gx,cW,hM,rfl,rfl,tV,ag,jr,js,jt,hl,aN,c7,cL,ar,K4,Xt,xo,ED,CD,EE,ac7,Kp,ac8⟩;have:=tV.size;have aBO:=ag.lt;have zP:=λ q I=>(jr.lt q I).2;have BE:=λ q I=>(js.lt q I).2;have Dx:=λ q I=>(jt.lt q I).2;have u6:=λ q I=>(hl.lt q I).2;have aOm:=aN.lt;have Sb:=λ q I=>(c7.lt q I).2;have Hw:∀ q∈κ.ae cW,F6.heap.size≤q:=λ q I=>(c7.lt q I).1;have aeV:∀ q∈κ.ae cW,w.heap.size≤q:=λ q I=>by have:=Hw q I;omega
    have aHU:∀ q∈κ.ae cW,q=OW→False:=λ q I Φ=>by have:=Hw q I;omega
    have oy:∀ q∈kX gx,q<Sw.heap.size:=λ q I=>(cL.lt q I).2;have uQ:∀ q∈kX gx,F6.heap.size≤q:=λ q I=>(cL.lt q I).1;refine aj<|J (blt Z Z)<|ai<|aA<| ?_;refine eg Z (λ avc=> ?_) (λ avc=> ?_)
    ·obtain ⟨en,dt,hy,fK,s7,hx⟩:=kK.at_ (k:=k) (by omega);refine bt<|aA<|bM<|aj<|J (b' k underlying29 AP Z Z ((b8.keep tV).bR (ba k)) Z (by omega))<|J (v:= .slice en hy.length dt) (ao Z (κ.aJ.gi Qq ((b8.keep tV).cu (ba k)) fK Z n9))<|va Z<|ai<| ?_;refine rd [(1,0),(3,2),(4,2),(5,3),(7,3)] [0,1,2,3,4,5,6,7] (by kernel_rfl) (by kernel_rfl) ?_;refine au Z (λ _=>av uF Z)<|bH Z (λ _ x=>ao Z ((aN.later x).one za Z))<|au Z (λ _=>aM Z)<|gm Z Z Z λ al2 nb Q hK=>ca Hl Z Z ((G_ _ _ hy _ (hx.keep (γ tV nb))).mono ?_);rintro e aQI ⟨NV,O8,rfl,ui,aKC,lK⟩;refine ⟨_,Z,hK _ _ ⟨γ nb lK, ?_⟩⟩;have:=nb.size;have NI:=γ tV nb;have:=lK.size;have aFQ:=γ NI lK;have alA:=λ q I=>(ui.lt q I).2;have XW:=λ q I=>(ui.lt q I).1;refine gm Z Z Z λ aEN wO Q hK=>cX (e:= 44) (cs:= [.slice NV ((hy).length) O8]) Z (λ _=>by kernel_rfl) Z λ al4 aH4 wP aL4 aav=>hK _ _ ⟨γ wO wP, ?_⟩;have:=wO.size;have S0:=γ aFQ wO;have:=wP.size;have NK:=γ S0 wP;have aOv:=aav.lt;have c7:=c7.later (γ nb (γ lK (γ wO wP)));refine eP Z Z Z λ aQO tP Q hK=>ap abZ κ.di (c7.later tP) ((aR.gB (R:=ov) (by_:=24) (q:=(⟨NV,(hy).length,O8⟩:gZ)) aav ⟨Z,trivial⟩ (by decide)).keep tP) Z Z (by simp only [aRG,aRM];omega) (by simp only [aRG,aRM];omega) (by have:=tP.size;omega) Z λ al6 aad acE xZ Cj AZ aNw=>hK _ _ ?_;have:=tP.size;have aFV:=γ NK tP;have:=xZ.size;have NL:=Ext.mod aFV xZ (λ q I=>aR5 (by omega) ((c7.later tP).lt q I).1);have aPY:=λ q I=>(Cj.lt q I).2;have:=xZ.size;refine au Z (λ _=>av uF Z)<| ?_;have aN:=aN.later (γ nb (γ lK (γ wO (γ wP tP))));have aN:=aN.mod xZ (λ I=>CD _ I rfl);refine eP Z Z Z λ aER sB Q hK=>st (new:= [.int .i64 et.field.wide, .int .i64 et.field.high, .slice dC.P et.field.aZ.length dC.p, .slice dC.B et.aW.length dC.b, .slice dC.S et.bk.length dC.s, .slice dC.M et.br.length dC.m, .slice dC.T et.ak.length dC.t, .int .i64 et.next, .int .i64 et.now, .slice aad ((gx++ [(⟨NV,(hy).length,O8⟩:gZ)]).length) acE]) Z Z (aN.later sB) Z U1 Z Z Z λ aQU zx aN=>hK _ _ ?_;have:=sB.size;have Z1:=γ NL sB;have:=zx.size;have aF0:=Ext.mod Z1 zx bu;refine fn λ aQW yp=> ?_;have:=yp.size;have aF2:=γ aF0 yp;refine b0<|aV<|rg<|J (bad Z Z (bE (by omega)))<|vm Z<|nl<| ?_;have ag:=ag.later (γ nb (γ lK (γ wO (γ wP tP))));have ag:=ag.mod xZ (λ I=>ED _ I rfl);have ag:=ag.later sB;have ag:=ag.mod zx aO;have ag:=ag.later yp;have jr:=jr.later (γ nb (γ lK (γ wO (γ wP tP))));have jr:=jr.mod xZ (λ q I h=>by exfalso;(exact ac7 q h I));have jr:=jr.later sB;have jr:=jr.mod zx (λ q I h=>by have Φ:=aRz.1 h;exfalso;(have:=zP q I;have:=I0 q I;omega));have jr:=jr.later yp;have js:=js.later (γ nb (γ lK (γ wO (γ wP tP))));have js:=js.mod xZ (λ q I h=>by exfalso;(exact Kp q h I));have js:=js.later sB;have js:=js.mod zx (λ q I h=>by have Φ:=aRz.1 h;exfalso;(have:=BE q I;have:=DB q I;omega));have js:=js.later yp;have jt:=jt.later (γ nb (γ lK (γ wO (γ wP tP))));have jt:=jt.mod xZ (λ q I h=>by exfalso;(exact ac8 q h I));have jt:=jt.later sB;have jt:=jt.mod zx (λ q I h=>by have Φ:=aRz.1 h;exfalso;(have:=Dx q I;have:=DC q I;omega));have jt:=jt.later yp;have hl:=hl.later (γ nb (γ lK (γ wO (γ wP tP))));have hl:=hl.mod xZ (λ q I h=>by exfalso;(exact EE q h I));have hl:=hl.later sB;have hl:=hl.mod zx (λ q I h=>by have Φ:=aRz.1 h;exfalso;(have:=u6 q I;have:=DE q I;omega));have hl:=hl.later yp;have aN:=aN.later yp;have Cj:=Cj.later sB;have Cj:=Cj.mod zx (λ q I h=>by have Φ:=aRz.1 h;exfalso;(exact aRO (AZ q I) (λ L'=>by (exact CD q L' Φ)) (λ L'=>by omega)));have Cj:=Cj.later yp;have cL:=cL.later (γ nb (γ lK (γ wO (γ wP tP))));have cL:=cL.mod xZ (λ q I h=>by exfalso;(exact xo q I h));have cL:=cL.later sB;have cL:=cL.mod zx (λ q I h=>by have Φ:=aRz.1 h;exfalso;have:=uQ q I;omega);have cL:=cL.later yp;have ui:=ui.later (γ wO (γ wP tP));have ui:=ui.mod xZ (λ q I h=>by exfalso;(have:=XW q I;(have:=Sb q h;omega)));have ui:=ui.later sB;have ui:=ui.mod zx (bA XW);have ui:=ui.later yp;exact c6 _ _ ⟨k+1,gx++ [(⟨NV,(hy).length,O8⟩:gZ)],aad,acE,Z,Z,aF2,ag,jr,js,jt,hl,aN,Cj,(by rw [BC s7];exact cL.snoc (ui.down (by omega))),by omega,by rw [aRH,K4];rfl,by omega,λ q τ aa=>(M8 τ).elim (λ τ=>by exfalso;(exact aRO (AZ q aa) (λ ahI=>by (exact xo q τ ahI)) (λ ahI=>by (have:=oy q τ;omega)))) (λ τ=>by exfalso;(exact aRO (AZ q aa) (λ ahJ=>by (have:=XW q τ;(have:=Sb q ahJ;omega))) (λ ahJ=>by (have:=alA q τ;omega)))),(λ q I Φ=>by (exact aRO (AZ q I) (λ ahK=>by (exact ED q ahK Φ)) (λ ahK=>by omega))),(λ q I Φ=>by (exact aRO (AZ q I) (λ ahL=>by (exact CD q ahL Φ)) (λ ahL=>by omega))),(λ q I Φ=>by (exact aRO (AZ q I) (λ ahM=>by (exact EE q ahM Φ)) (λ ahM=>by (have:=u6 q Φ;have:=DE q Φ;omega)))),(λ q I Φ=>by (exact aRO (AZ q I) (λ ahN=>by (exact ac7 q ahN Φ)) (λ ahN=>by (have:=zP q Φ;have:=I0 q Φ;omega)))),(λ q I Φ=>by (exact aRO (AZ q I) (λ ahO=>by (exact Kp q ahO Φ)) (λ ahO=>by (have:=BE q Φ;have:=DB q Φ;omega)))),(λ q I Φ=>by (exact aRO (AZ q I) (λ ahP=>by (exact ac8 q ahP Φ)) (λ ahP=>by (have:=Dx q Φ;have:=DC q Φ;omega))))⟩ (by omega) (.cons Z (.cons Z (.cons Z (.cons Z (.cons Z (.cons Z (.cons (bZ Z (by first | omega | rfl | (simp<;>omega))) .nil)))))))
    ·have k8:k=L.length:=by rw [← kK.1];omega
     refine dH<|dG<|ef<|dF<|aV<|aA<| ?_;refine rd [(1,0),(3,2),(4,2),(5,3),(7,3)] [0,1,2,3,4,5,6,7] (by kernel_rfl) (by kernel_rfl) ?_;refine au Z (λ _=>av uF Z)<|bH Z (λ _ x=>ao Z ((aN.later x).one za Z))<|au Z (λ _=>aM Z)<|gm Z Z Z λ aQ1 BU Q hK=>ca Hl Z Z ((G_ _ _ l _ (az.keep (γ tV BU))).mono ?_);rintro e aQ5 ⟨NW,O9,rfl,rB,aKD,DQ⟩;refine ⟨_,Z,hK _ _ ⟨γ BU DQ, ?_⟩⟩;have:=BU.size;have aF6:=γ tV BU;have:=DQ.size;have aGa:=γ aF6 DQ;have Dz:=λ q I=>(rB.lt q I).2;have Mp:=λ q I=>(rB.lt q I).1;refine gm Z Z Z λ aET rf Q hK=>cX (e:= 44) (cs:= [.slice NW ((l).length) O9]) Z (λ _=>by kernel_rfl) Z λ aEU aIc BV aMc aaB=>hK _ _ ⟨γ rf BV, ?_⟩;have:=rf.size;have Z2:=γ aGa rf;have:=BV.size;have NN:=γ Z2 BV;have aOC:=aaB.lt;have c7:=c7.later (γ BU (γ DQ (γ rf BV)));refine eP Z Z Z λ aQ8 yq Q hK=>ap abZ κ.di (c7.later yq) ((aR.gB (R:=ov) (by_:=24) (q:=(⟨NW,(l).length,O9⟩:gZ)) aaB ⟨Z,trivial⟩ (by decide)).keep yq) Z Z (by simp only [aRG,aRM];omega) (by simp only [aRG,aRM];omega) (by have:=yq.size;omega) Z λ aQ9 Tc Ut Df yV KP aNE=>hK _ _ ?_;have:=yq.size;have aGc:=γ NN yq;have:=Df.size;have aGd:=Ext.mod aGc Df (λ q I=>aR5 (by omega) ((c7.later yq).lt q I).1);have aP4:=λ q I=>(yV.lt q I).2;have:=Df.size;refine au Z (λ _=>av uF Z)<| ?_;have aN:=aN.later (γ BU (γ DQ (γ rf (γ BV yq))));have aN:=aN.mod Df (λ I=>CD _ I rfl);refine eP Z Z Z λ aRd l9 Q hK=>st (new:= [.int .i64 et.field.wide, .int .i64 et.field.high, .slice dC.P et.field.aZ.length dC.p, .slice dC.B et.aW.length dC.b, .slice dC.S et.bk.length dC.s, .slice dC.M et.br.length dC.m, .slice dC.T et.ak.length dC.t, .int .i64 et.next, .int .i64 et.now, .slice Tc ((gx++ [(⟨NW,(l).length,O9⟩:gZ)]).length) Ut]) Z Z (aN.later l9) Z U1 Z Z Z λ aRe FE aN=>hK _ _ ?_;have:=l9.size;have aGh:=γ aGd l9;have:=FE.size;have aGi:=Ext.mod aGh FE bu;refine fn λ aRg DR=> ?_;have:=DR.size;have aGk:=γ aGi DR;refine aV<|aj<| ?_;have aN:=aN.later DR;refine J (ao Z (aN.all CK rN))<| ?_;have ag:=ag.later (γ BU (γ DQ (γ rf (γ BV yq))));have ag:=ag.mod Df (λ I=>ED _ I rfl);have ag:=ag.later l9;have ag:=ag.mod FE aO;have ag:=ag.later DR;refine st (new:= [.int .i64 et.field.wide, .int .i64 et.field.high, .slice dC.P et.field.aZ.length dC.p, .slice dC.B et.aW.length dC.b, .slice dC.S et.bk.length dC.s, .slice dC.M et.br.length dC.m, .slice dC.T et.ak.length dC.t, .int .i64 et.next, .int .i64 et.now, .slice Tc ((gx++ [(⟨NW,(l).length,O9⟩:gZ)]).length) Ut]) Z Z ag Z rN Z Z Z λ aRh Ip ag=> ?_;have:=Ip.size;have aGl:=Ext.mod aGk Ip bu;refine va Z<|ai<|rt<|bb (.cell Z (ag.all CK rN) (.tmp Z .nil))<| ?_;have yV:=yV.later l9;have yV:=yV.mod FE (λ q I h=>by have Φ:=aRz.1 h;exfalso;(exact aRO (KP q I) (λ ah9=>by (exact CD q ah9 Φ)) (λ ah9=>by omega)));have yV:=yV.later DR;have yV:=yV.mod Ip (λ q I h=>by have Φ:=aRz.1 h;exfalso;(exact aRO (KP q I) (λ aia=>by (exact ED q aia Φ)) (λ aia=>by omega)));have rB:=rB.later (γ rf (γ BV yq));have rB:=rB.mod Df (λ q I h=>by exfalso;(have:=Mp q I;(have:=Sb q h;omega)));have rB:=rB.later l9;have rB:=rB.mod FE (bA Mp);have rB:=rB.later DR;have rB:=rB.mod Ip (bA Mp);have cL:=cL.later (γ BU (γ DQ (γ rf (γ BV yq))));have cL:=cL.mod Df (λ q I h=>by exfalso;(exact xo q I h));have cL:=cL.later l9;have cL:=cL.mod FE (λ q I h=>by have Φ:=aRz.1 h;exfalso;have:=uQ q I;omega);have cL:=cL.later DR;have cL:=cL.mod Ip (λ q I h=>by have Φ:=aRz.1 h;exfalso;have:=uQ q I;omega);have hl:=hl.later (γ BU (γ DQ (γ rf (γ BV yq))));have hl:=hl.mod Df (λ q I h=>by exfalso;(exact EE q h I));have hl:=hl.later l9;have hl:=hl.mod FE (λ q I h=>by have Φ:=aRz.1 h;exfalso;(have:=u6 q I;have:=DE q I;omega));have hl:=hl.later DR;have hl:=hl.mod Ip (bA azo);subst k8;rw [aSi] at cL;obtain ⟨_,hv,_⟩:=axo.zero (by simp) l3 rfl;have hv:et=W:=hv;exact ⟨0,dC,_,Tc,Ut,_,L++ [l],Z, .inl ⟨Z,⟨o_,l3,nM⟩,bw,Fk,hv,Z⟩,hl.down (by omega),yV.down (by omega),(cL.snoc (rB.down (by omega))).down (by omega),λ q I=>⟨λ h=>by exfalso;(exact aRO (KP q h) (λ Mb=>by (exact EE q Mb I)) (λ Mb=>by (have:=u6 q I;have:=DE q I;omega))),λ h=>(M8 h).elim (λ h=>by exfalso;(have:=uQ q h;(have:=u6 q I;have:=DE q I;omega))) (λ h=>by exfalso;(have:=Mp q h;(have:=u6 q I;have:=DE q I;omega)))⟩,λ q I h=>(M8 h).elim (λ h=>by exfalso;(exact aRO (KP q I) (λ Mc=>by (exact xo q h Mc)) (λ Mc=>by (have:=oy q h;omega)))) (λ h=>by exfalso;(exact aRO (KP q I) (λ Md=>by (have:=Mp q h;(have:=Sb q Md;omega))) (λ Md=>by (have:=Dz q h;omega)))),aGl⟩
end
section
theorem Ya (z:Array Value) (n:Nat):(madeCells z n).toList=(List.range n).map λ i=>z[i % z.size]! :=by
 unfold madeCells;rw [Array.toList_map,Array.toList_range]
theorem ajd (z:Array Value) (aH:0<z.size):∀ c:Nat,(List.replicate c z.toList).flatten=(madeCells z (c * z.size)).toList
 | 0=>by simp [Ya]
 | c+1=>by
  rw [List.replicate_succ',aTx,ajd z aH c,Ya,Ya,aTh,List.range_add,aR3,aUl];congr 1;rw [aSu,List.flatten_nil,aR7];refine List.ext_getElem (by simp) λ i τ aa=> ?_;have EU:i<z.size:=by simpa using τ
  rw [aUB,List.getElem_range,Array.getElem_toList];show z[i]=z[(c * z.size+i) % z.size]!;rw [aSM,aT1,aSW EU,aV1 z i EU]
section
variable {P:Program} {n:Nat} {E cP:List (Nat×Value)} {a:Act} {w w' w0 aP:World} {Q:Exit→Act→World→Prop} {ops:Array Oper}
variable {d:Nat} {ty:TypeId} {pos:String} {af:Array Edge} {g:Option (Nat×Bool)} {x y z:Operand} {t:TypeId} {rest:List Oper}
theorem azB {α:Type} {R:κ α} {e by_ B c:Nat} {zv:Value} {q:α} (ck:R.Plain) (aG:P.underlying t=some (.slice e)) (aq:(P.info? e).map (λ i=>(i.zero,i.size,i.bytes))=some (some zv,R.size,by_)) (τ:zv.cells.size=R.size) (aa:0<R.size) (aw:∀ (j:Nat) u,zv.cells[j]? =some u→R.raw j u) (I:∀ w,R.has w zv.cells.toList q)
  (hx:ev E x=some (.int .i64 (c:Int))) (aL:ev E y=some (.int .i64 (c:Int))) (hd:Nat.blt d n=true) (Φ:c * by_≤140737488355328) (hc:c≤9223372036854775807) (aX:B≤w.heap.size)
  (h:∀ aP b,Ext w aP→w.heap.size≤b→R.aD e by_ aP B (κ.ae (some ⟨b,0,none⟩)) (some ⟨b,0,none⟩) c (List.replicate c q)→cE P n ops Q rest ((d, .slice (some ⟨b,0,none⟩) c c)::E) aP):cE P n ops Q (⟨some d, .makeSlice t x y,ty,pos,af,none⟩::rest) E w:=by
 refine Yb (m:=c) (ess:=List.replicate c zv.cells.toList) ck aG aq τ aa aw hx aL hd (aRN _) Φ hc aX (by simp) (λ w=> ?_) ?_ h
 ·clear h Φ hc hx aL;induction c with
  | zero=>trivial
  | succ c bD=>exact ⟨I w,bD⟩
 ·rw [ajd _ (by rw [τ];exact aa),τ,aR1];rw [aTy,aVb];exact aRN _
end
end
end Go.Proofs.YtlikikpgmmkjbaaGreat
