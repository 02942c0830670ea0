import Derived.Test.YtlikikpgmmkjbaaGreatGolFD
set_option linter.unusedVariables false
set_option linter.unusedSimpArgs false
set_option maxRecDepth 100000
set_option maxHeartbeats 4000000
open Go.RowKit
namespace Go.Proofs.YtlikikpgmmkjbaaGreat
open Tryz
abbrev aWf:=@List.length_finRange
section
open Go.Proofs.YtlikikpgmmkjbaaGreat.fc
def oN (W:ah) (L:List (List aF)):Prop:=L.length≤200∧W.bo=0∧kr W L=0
def aGA (W:ah) (L:List (List aF)) (n e:Int) (V:ah):Prop :=
 (e=0∧oN W L∧0≤n∧n≤(L.length:Int)∧V=ot W (L.take n.toNat))∨(e≠0∧¬(oN W L∧0≤n∧n≤(L.length:Int))∧V=ah.zero)
theorem Er.R2 {W:ah} {L:List (List aF)} {e:Int} {V:ah} {ms:List (BitVec 64)} (h:Er W L e V ms):e=0↔oN W L :=
 ⟨λ aH=>by obtain ⟨τ,aa,aw,_,_⟩:=h.ok aH;exact ⟨τ,aa,aw⟩,λ ⟨τ,aa,aw⟩=>(h.zero τ aa aw).1⟩
theorem oN.take {W:ah} {L:List (List aF)} (h:oN W L) (k:Nat):oN W (L.take k):=
 ⟨by have:=h.1;rw [aRE];omega,h.2.1,aS6 λ aH=>RQ aH h.2.2⟩
theorem aqs (a:ah.b5) (W:ah) (A:Option Addr) (c:Nat) (T:List gZ) (L:List (List aF)) (w:World) (bV:ah.Has w a W) (b8:ov.aJ 24 w A c T) (kK:qI w T L):
  Calls prog 46 #[.agg #[.int .i64 W.field.wide, .int .i64 W.field.high, .slice a.P W.field.aZ.length a.p, .slice a.B W.aW.length a.b, .slice a.S W.bk.length a.s, .slice a.M W.br.length a.m, .slice a.T W.ak.length a.t, .int .i64 W.next, .int .i64 W.now, .slice A T.length c]] w (λ e w'=>∃ e':Int,e= .returned (.int .i64 e')∧(e'=0↔oN W L)∧Ext w w'):=by
 have A_:=b8.ez;refine ch (n:=16) func46 Z Z Z ?_;refine aj<|cB Z Z Z Z λ cv bJ a7 ee ab=> ?_;have:=a7.size;have bg:=γ (Ext.bF w) a7;have ei:=ab.lt;refine va Z<|ai<|aj<|J (av KD Z)<|J (ao Z (ab.par [.int .i64 W.field.wide, .int .i64 W.field.high, .slice a.P W.field.aZ.length a.p, .slice a.B W.aW.length a.b, .slice a.S W.bk.length a.s, .slice a.M W.br.length a.m, .slice a.T W.ak.length a.t, .int .i64 W.next, .int .i64 W.now] du cf Z))<|J (av uF Z)<|J (ao Z (ab.one za Z))<|ca KE Z Z ((MT a W _ _ T L _ (bV.keep bg) (b8.keep bg) (kK.keep bg)).mono ?_);rintro e zU ⟨JG,OP,aHN,GC,eo,aNe,rfl,Xc,aa0,abm,af0,kY⟩;refine ⟨_,Z, ?_⟩;have:=kY.size;have iU:=γ bg kY;have I3:=λ q I=>(aa0.lt q I).2;have azj:=λ q I=>(aa0.lt q I).1;have aDW:=λ q I=>(abm.lt q I).2;have azk:=λ q I=>(abm.lt q I).1;have aI6:∀ q∈κ.ae GC,q∈bq.bX OP→False:=af0;have aJm:∀ q∈bq.bX OP,q∈κ.ae GC→False:=λ q τ aa=>af0 q aa τ;refine vm Z<|J (ex Z Z)<|J (ex Z Z)<|J (ex Z Z)<|al Z pQ Z Z λ u' aH9 l8 ayQ Ti=> ?_;have:=l8.size;have jW:=γ iU l8;have akd:=Ti.lt;refine st Z Z Ti Z cf Z Z Z λ yk lD Ti=> ?_;have:=lD.size;have ke:=Ext.mod jW lD bu;refine va Z<|va Z<|ai<|aj<|vm Z<|va Z<|ai<|rt<|bb (.tmp Z .nil)<| ?_;exact ⟨JG,Z,Xc.R2,ke⟩
end
section
theorem ahc (eu:FuncId) (cs:List Value) (p:aF→Bool) (A:Option Addr) (c:Nat) (l:List aF) (w:World) (az:aF.rep.aJ 48 w A c l) (lV:Enters prog eu) (dM:∀ x∈l,∀ w',Ext w w'→Calls prog eu (([.agg #[.int .i64 x.by_, .int .i64 x.kind, .int .i64 x.aQ, .int .i64 x.spot.x, .int .i64 x.spot.y, .int .i64 x.what]]:List Value)++cs).toArray w' λ e ku=>e= .returned (.bool (p x))∧Ext w' ku):
  Calls prog 114 #[.slice A l.length c, .func (.func eu) #[] cs.toArray] w (λ e w'=>e= .returned (.int .i64 (fT p l))∧Ext w w'):=by
 have oc:=az.ez;refine ch (n:=19) func114 Z Z Z ?_;refine aj<|va Z<|ai<|aA<|aj<|vm Z<|J (cA underlying44 Z)<|vm Z<|ai<|bM<| ?_;refine e8 (λ cm cl aU=>∃ k:Nat,cl= [(0, .slice A l.length c),(1, .func (.func eu) #[] cs.toArray),(7, .int .i64 (l.length:Int)),(8, .int .i64 (k:Int))]∧cm=l.length - k∧Ext w aU∧(k≤l.length)∧(∀ i,i<k→p (l.getD i default)=false)) _ _ ⟨0,Z,Z,(Ext.bF w),by omega,λ i aq=>by omega⟩ (.cons Z (.cons Z (.cons Z (.cons (bZ Z (by first | omega | rfl | (simp<;>omega))) .nil)))) ?_;rintro MB JH cv ⟨k,rfl,rfl,bg,ar,aK⟩;have:=bg.size;refine aj<|J (blt Z Z)<|ai<|aA<| ?_;refine eg Z (λ lX=> ?_) (λ lX=> ?_)
 ·refine bt<|aA<|bM<|aj<|vm Z<|va Z<|ai<|aj<|vm Z<|vm Z<|vm Z<|J (b' k underlying44 dN Z Z ((az.keep bg).bR (ba k)) Z (by omega))<|J (ao Z (κ.aJ.ho CX ((az.keep bg).cu (ba k)) (dv (l:=l) (u:=default) (by omega)) hN dN))<|Km lV Z Z Z ((dM (l.getD k default) (ih (by omega)) _ bg).mono ?_);rintro e I' ⟨rfl,yr⟩;refine ⟨_,Z, ?_⟩;have:=yr.size;have mz:=γ bg yr;refine ai<| ?_;refine dJ Z (λ lY=> ?_) (λ lY=> ?_)
  ·refine aj<|vm Z<|va Z<|ai<|rt<|e_<|bT<|nR<|e_<|bT<|bb (.tmp Z .nil)<| ?_;exact ⟨by have e:=Q1 (p:=p) (l:=l) (d:=default) (k:=k) (by omega) lY aK;rw [e];rfl,mz⟩
  ·refine e9<|b0<|aV<|rg<|J (bad Z Z (bE (by omega)))<|vm Z<|nl<| ?_;exact c6 _ _ ⟨k+1,Z,Z,mz,by omega,wk aK lY⟩ (by omega) (.cons Z (.cons Z (.cons Z (.cons (bZ Z (by first | omega | rfl | (simp<;>omega))) .nil))))
 ·refine dH<|dG<|ef<|dF<|aV<|aj<|va Z<|ai<|rt<|bb (.tmp Z .nil)<| ?_;exact ⟨by have e:=Q0 (p:=p) (l:=l) (d:=default) (λ i aq=>aK i (by omega));rw [e];rfl,bg⟩
theorem ars (w0:World) (eu:FuncId) (cs:List Value) (p:aF→Bool) (A:Option Addr) (c:Nat) (l:List aF) (w:World) (hQ:Ext w0 w) (qP:aF.rep.aD 51 48 w w0.heap.size (κ.ae A) A c l) (lV:Enters prog eu) (dM:∀ x∈l,∀ w',Ext w0 w'→Calls prog eu (([.agg #[.int .i64 x.by_, .int .i64 x.kind, .int .i64 x.aQ, .int .i64 x.spot.x, .int .i64 x.spot.y, .int .i64 x.what]]:List Value)++cs).toArray w' λ e ku=>e= .returned (.bool (p x))∧Ext w' ku):
  Calls prog 77 #[.slice A l.length c, .func (.func eu) #[] cs.toArray] w (λ e w'=>e= .returned (.slice A (l.filter λ x=> !p x).length c)∧aF.rep.aD 51 48 w' w0.heap.size (κ.ae A) A c (l.filter λ x=> !p x)∧Mod (κ.ae A) w w'):=by
 have r_:=qP.has;have oc:=r_.ez;have aww:=r_.1;have IY:=λ q I=>(qP.lt q I).2;have Q6:=λ q I=>(qP.lt q I).1;have aLE:∀ q∈κ.ae A,w0.heap.size≤q:=Q6;have axR:=hQ.size;refine ch (n:=42) func77 Z Z Z ?_;refine aj<|va Z<|ai<|aj<|vm Z<|vm Z<|ca aea Z Z ((ahc eu cs p _ _ l _ qP.has lV (λ x hx w' h=>dM x hx w' (γ (Ext.mod hQ (Mod.bF (κ.ae A) w) Q6) h))).mono ?_);rintro e cv ⟨rfl,eA⟩;refine ⟨_,Z, ?_⟩;have:=eA.size;have bg:=(Mod.bF (κ.ae A) w).trans (Mod.bC eA);refine va Z<|ai<|aA<|aj<|vm Z<|J (beq Z Z)<|ai<| ?_;refine i' Z (λ qR=> ?_) (λ qR=> ?_)
 ·refine aj<|vm Z<|va Z<|ai<|rt<|bT<|bb (.tmp Z .nil)<| ?_;have qP:=qP.later eA;have a_:=ax9 (by simpa using qR);exact ⟨by rw [a_];rfl,by rw [a_];exact qP,bg⟩
 ·obtain ⟨sf,oY,e0,A'⟩:=ax7 qR;refine bt<|aA<|aj<|vm Z<|J (bad Z Z (bE (by omega)))<|va Z<|ai<|bM<| ?_;have qP:=qP.later eA;refine e8 (λ cm cl aU=>∃ L:List aF,∃ i:Nat,∃ j:Nat,cl= [(0, .slice A l.length c),(1, .func (.func eu) #[] cs.toArray),(4, .slice none 0 0),(5, .int .i64 (i:Int)),(6, .int .i64 (j:Int))]∧cm=l.length - j∧Mod (κ.ae A) w aU∧aF.rep.aD 51 48 aU w0.heap.size (κ.ae A) A c (L)∧(L.length=l.length)∧(i<j)∧(j≤l.length)∧(L.take i=(l.take j).filter λ x=> !p x)∧(L.drop j=l.drop j)) _ _ ⟨l,sf,sf+1,Z,Z,bg,qP,Z,by omega,by omega,A',rfl⟩ (.cons Z (.cons Z (.cons Z (.cons (bZ Z (by first | omega | rfl | (simp<;>omega))) (.cons (bZ Z (by first | omega | rfl | (simp<;>omega))) .nil))))) ?_;rintro azD anu al9 ⟨L,i,j,rfl,rfl,yy,dg,kK,aq,ay,H2,Xm⟩;have:=yy.size;have I3:=λ q I=>(dg.lt q I).2;refine aA<|aj<|vm Z<|vm Z<|J (cA underlying44 Z)<|J (blt Z Z)<|ai<| ?_;refine eg Z (λ pT=> ?_) (λ pT=> ?_)
  ·refine bt<|aA<|bM<|aj<|vm Z<|vm Z<|J (b' j underlying44 dN Z Z (dg.has.bR (ba j)) Z (by omega))<|J (ao Z (κ.aJ.ho CX (dg.has.cu (ba j)) (aDx (d:=default) (by omega) (by omega) Xm) hN dN))<|al Z KA Z Z λ tK xh c' H' eV=> ?_;have:=c'.size;have jj:=yy.trans (Mod.bC c');have MO:=eV.lt;refine st (new:= [.int .i64 ((l.getD j default).by_), .int .i64 ((l.getD j default).kind), .int .i64 ((l.getD j default).aQ), .int .i64 ((l.getD j default).spot.x), .int .i64 ((l.getD j default).spot.y), .int .i64 ((l.getD j default).what)]) Z Z eV Z dN Z Z Z λ vd nH eV=> ?_;have:=nH.size;have ik:=jj.md nH (λ q I=> .inr (by have:=aRz.1 I;omega));refine ai<|aj<|vm Z<|J (ao Z (eV.all hN dN))<|Km lV Z Z Z ((dM (l.getD j default) (ih (by omega)) _ (Ext.mod hQ ik Q6)).mono ?_);rintro e na ⟨rfl,dV⟩;refine ⟨_,Z, ?_⟩;have:=dV.size;have e4:=ik.trans (Mod.bC dV);refine J (dZ Z)<|ai<| ?_;refine dJ Z (λ oW=> ?_) (λ oW=> ?_)
   ·refine aj<|vm Z<|vm Z<| ?_;have eV:=eV.later dV;refine J (ao Z (eV.all hN dN))<| ?_;have dg:=dg.later c';have dg:=dg.mod nH (bL I3);have dg:=dg.later dV;refine J (b' i underlying44 dN Z Z (dg.has.bR (ba i)) Z (by omega))<|IQ (q':=l.getD j default) (i:=i) (es:= [.int .i64 ((l.getD j default).by_), .int .i64 ((l.getD j default).kind), .int .i64 ((l.getD j default).aQ), .int .i64 ((l.getD j default).spot.x), .int .i64 ((l.getD j default).spot.y), .int .i64 ((l.getD j default).what)]) dg κ.di (by omega) Z Z Z Z (λ _=>⟨Z,(aF.mj r_ _ (ih (by omega)))⟩) dN λ BI hj sT=> ?_;have:=hj.size;have qu:=e4.md hj (λ q I=> .inl I);refine ai<|rg<|vm Z<|J (bad Z Z (bE (by omega)))<|va Z<|nl<|b0<|aV<|rg<|vm Z<|J (bad Z Z (bE (by omega)))<|va Z<|nl<| ?_;exact c6 _ _ ⟨(L).set i (l.getD j default),i+1,j+1,Z,Z,qu,sT,by rw [aRK];exact kK,by omega,by omega,aru kK (by omega) (by omega) H2 oW,arv (by omega) Xm⟩ (by omega) (.cons Z (.cons Z (.cons Z (.cons (bZ Z (by first | omega | rfl | (simp<;>omega))) (.cons (bZ Z (by first | omega | rfl | (simp<;>omega))) .nil)))))
   ·refine e9<|b0<|aV<|rg<|vm Z<|J (bad Z Z (bE (by omega)))<|va Z<|nl<| ?_;have dg:=dg.later c';have dg:=dg.mod nH (bL I3);have dg:=dg.later dV;exact c6 _ _ ⟨L,i,j+1,Z,Z,e4,dg,kK,by omega,by omega,art (by omega) H2 oW,adV Xm⟩ (by omega) (.cons Z (.cons Z (.cons Z (.cons Z (.cons (bZ Z (by first | omega | rfl | (simp<;>omega))) .nil)))))
  ·refine dH<|dG<|ef<|dF<|aV<|aj<|vm Z<|vm Z<|J (YY i underlying44 dN Z Z Z (by omega))<|uz (k:=i) (q:=l.length - i) (z:=aF.zero) (m:=6) underlying44 aF.info Z (by decide) Z (by decide) aF.h8 (show aF.rep.aD _ _ _ _ _ _ _ L from dg) κ.di (by omega) (by omega) (by omega) (qP.block (by omega)) Z λ tN gq GV=> ?_;have:=gq.size;have iG:=yy.md gq (λ q I=> .inl I);refine ai<|aj<|vm Z<|vm Z<|J (RT i i underlying44 dN Z Z Z (by omega) Z)<|va Z<|ai<|rt<|bb (.tmp Z .nil)<| ?_;obtain rfl:j=l.length:=by omega
   rw [aSi] at H2;have awF:(l.filter λ x=> !p x).length=i:=by rw [← H2,aRE];omega
   exact ⟨by rw [awF];rfl,by rw [← H2];exact GV,iG⟩
end
section
section
variable {P:Program} {n:Nat} {ops:Array Oper} {Q:Exit→Act→World→Prop} {E:List (Nat×Value)} {w:World} {v:Value} {ty:TypeId} {pos:String} {af:Array Edge} {x y z:Operand} {t:TypeId} {g:Option (Nat×Bool)} {rest:List Oper} {d:Option Nat}
theorem sy {d:Nat} {op:Op} {j:Nat} {q b c b1:Bool} {cR:Oper} {jJ:Nat} (ay:ops[j]? =some cR) (nx:cR.dst=some jJ) (Φ:look E jJ=some (ia b1 (.bool b))) (hc:(b1 && (b == q))=c)
  (hr:c=true→cS P E ⟨some d,op,ty,pos,af,some (j,q)⟩ w v w) (hd:Nat.blt d n=true) (h:cE P n ops Q rest ((d,ia c v)::E) w):cE P n ops Q (⟨some d,op,ty,pos,af,some (j,q)⟩::rest) E w :=
 SJ (c:=c) (λ a ha=>by
  have τ:=ha.g _ _ Φ;subst hc;cases b1 with
  | true=>exact DH (o:=⟨some d,op,ty,pos,af,some (j,q)⟩) rfl ay nx (b:=b) Φ ha
  | false =>
   simp only [ia,aSq,aS0] at τ;simp [Region.wanted,yielded,ay,nx,τ,undef])
  (λ hc a ha=>by unfold Oper.wp;rw [hr hc n a ha];subst hc;exact h _ (ha.put hd v)) (λ hc a ha=>by subst hc;exact h _ (ha.put hd undef))
theorem aA2 {b c k:Bool} (ar:k=true) (hx:ev E x=some (.bool b)) (aL:ev E y=some (.bool true)) (bs:ev E z=some (ia (k && (b == false)) (.bool c))):cS P E ⟨d, .pick x y z,ty,pos,af,g⟩ w (.bool (b || c)) w:=by
 subst ar;exact fv hx aL Z bs
theorem ajQ {b c k:Bool} (ar:k=true) (hx:ev E x=some (.bool b)) (bs:ev E z=some (.bool false)) (aL:ev E y=some (ia (k && (b == true)) (.bool c))):cS P E ⟨d, .pick x y z,ty,pos,af,g⟩ w (.bool (b && c)) w:=by
 subst ar;exact e3 hx bs Z aL
end
end
section
open Go.Proofs.YtlikikpgmmkjbaaGreat.fc
structure bz where
 a:Option Addr
 n:Nat
 c:Nat
 late:Int
 gone:Bool
instance:Inhabited bz:=⟨⟨none,0,0,0,false⟩⟩
def bz.ks (v:bz):gZ:=⟨v.a,v.n,v.c⟩
def bz.raw (j:Nat) (u:Value):Prop:=match j with
 | 0=>∃ a n c,u= .slice a n c
 | 1=>∃ n:Int,u= .int .i64 n
 | 2=>∃ b:Bool,u= .bool b
 | _=>True
def bz.cells (v:bz):List Value:= [.slice v.a v.n v.c, .int .i64 v.late, .bool v.gone]
def bz.rep:κ bz:=κ.flat 3 bz.cells (λ v=>fO v.late) bz.raw (λ _=>rfl) (by intro a u hu;simp [bz.cells] at hu;rcases hu with rfl | rfl | rfl<;>rfl) (by
 intro a j u hu
 match j,hu with
 | 0,hu=>exact ⟨_,_,_,(aRA hu).symm⟩
 | 1,hu=>exact ⟨_,(aRA hu).symm⟩
 | 2,hu=>exact ⟨_,(aRA hu).symm⟩
 | j+3,hu=>exact trivial)
theorem nw {w:World} {cs:List Value} {a:bz} (h:bz.rep.has w cs a):cs=a.cells:=aTI (show cs=a.cells∧fO a.late from h)
def bz.zero:Value:= .agg #[.slice none 0 0, .int .i64 0, .bool false]
theorem bz.h8:∀ (j:Nat) u,bz.zero.cells[j]? =some u→bz.rep.raw j u:=by
 intro j u hu;have hu:(#[(.slice none 0 0:Value),(.int .i64 0:Value),(.bool false:Value)]:Array Value)[j]? =some u:=hu
 match j,hu with
 | 0,hu=>exact ⟨_,_,_,(aRA hu).symm⟩
 | 1,hu=>exact ⟨_,(aRA hu).symm⟩
 | 2,hu=>exact ⟨_,(aRA hu).symm⟩
 | j+3,hu=>simp at hu
theorem bz.info:(prog.info? 90).map (λ i=>(i.zero,i.size,i.bytes))=some (some bz.zero,3,40):=by kernel_rfl
theorem bz.mj {by_:Nat} {w:World} {A:Option Addr} {c:Nat} {l:List bz} (h:bz.rep.aJ by_ w A c l):∀ a∈l,fO a.late:=κ.aJ.y0 (R:=bz.rep) (Q:=λ a=>fO a.late) (fun {w cs a} (h:bz.rep.has w cs a)=>(show cs=a.cells∧fO a.late from h).2) h
structure b6 where
 waits:List aF
 late:Int
 gone:Bool
 deriving DecidableEq
def pJ (w:World) (T:List bz) (S:List b6):Prop:=qI w (T.map bz.ks) (S.map b6.waits)∧T.map (λ v=>(v.late,v.gone))=S.map (λ s=>(s.late,s.gone))
section
variable {w w':World} {T j3:List bz} {S oM:List b6} {k:Nat}
theorem pJ.len (h:pJ w T S):T.length=S.length:=by have:=h.1.1;simpa using this
theorem pJ.keep (h:pJ w T S) (x:Ext w w'):pJ w' T S:=⟨h.1.keep x,h.2⟩
theorem pJ.at_ (h:pJ w T S) (ar:k<T.length):∃ A c s,T[k]? =some ⟨A,s.waits.length,c,s.late,s.gone⟩∧S[k]? =some s∧aF.rep.aJ 48 w A c s.waits:=by
 have gS:k<S.length:=by rw [← h.len];exact ar
 obtain ⟨A,c,l,τ,aa,aw⟩:=h.1.at_ (k:=k) (by simpa using ar);rw [aRU,aRD ar] at τ;rw [aRU,aRD gS] at aa;have a1:=aSI (λ l=>l[k]?) h.2;simp only [aRU,aRD ar,aRD gS,aS5,aUb,aVc] at a1;have τ:=aRA τ;have aa:=aRA aa;refine ⟨A,c,S[k], ?_,aRD gS,by rw [aa];exact aw⟩;rw [aRD ar,aa];generalize T[k]=t at τ a1;obtain ⟨a,n,b4,aMM,g⟩:=t;simp only [bz.ks,gZ.mk.injEq] at τ;obtain ⟨rfl,rfl,rfl⟩:=τ;rw [← a1.1,← a1.2]
end
def b6.wH (p:Int) (s:b6):Bool:= !(decide (s.late<0) || decide (1000000<s.late) || (s.gone && (s.late != 0 || decide (0<(s.waits.length:Int))))) && !s.waits.any λ o=>o.by_ != p || o.bo != 0
def sV (S:List b6):Prop:=1≤S.length∧S.length≤8∧∀ (i:Nat) (s:b6),S[i]? =some s→s.waits.length≤50∧s.wH i=true
theorem aCQ {S:List b6} {k:Nat} {bh:b6} (aK:∀ (i:Nat) (s:b6),i<k→S[i]? =some s→s.wH i=true) (hS:S[k]? =some bh) (hr:bh.wH k=true) {i:Nat} {s:b6} (aq:i<k+1) (hs:S[i]? =some s):s.wH i=true:=by
 rcases aSA i k with h | h
 ·exact aK i s h hs
 ·obtain rfl:i=k:=by omega
  rw [hS] at hs;obtain rfl:=aRA hs;exact hr
theorem aCN {w:World} {T:List bz} {S:List b6} (hS:pJ w T S) (h:(T.any λ t=>decide (50<(t.n:Int)))=true):¬ sV S:=λ aH=>by
 obtain ⟨t,aG,Φ⟩:=aSX.1 h;obtain ⟨i,aq,rfl⟩:=aSw.1 aG;obtain ⟨A,c,s,τ,aa,_⟩:=hS.at_ aq;rw [aRD aq] at τ;rw [aRA τ] at Φ;have:=(aH.2.2 i s aa).1;simp at Φ;omega
theorem aCP {w:World} {T:List bz} {S:List b6} (hS:pJ w T S) (h:(T.any λ t=>decide (50<(t.n:Int)))=false):∀ (i:Nat) (s:b6),S[i]? =some s→s.waits.length≤50:=λ i s hs=>by
 have aq:i<T.length:=by rw [hS.len];exact (aRC.1 hs).1
 obtain ⟨A,c,s',τ,aa,_⟩:=hS.at_ aq;rw [hs] at aa;obtain rfl:=aRA aa;rw [aRD aq] at τ;have:=aUw.1 h T[i] (aSO aq);rw [aRA τ] at this;simp at this;omega
theorem avz (eu:FuncId) (cs:List Value) (p:aF→Bool) (A:Option Addr) (c:Nat) (l:List aF) (w:World) (az:aF.rep.aJ 48 w A c l) (lV:Enters prog eu) (dM:∀ x∈l,∀ w',Ext w w'→Calls prog eu (([.agg #[.int .i64 x.by_, .int .i64 x.kind, .int .i64 x.aQ, .int .i64 x.spot.x, .int .i64 x.spot.y, .int .i64 x.what]]:List Value)++cs).toArray w' λ e ku=>e= .returned (.bool (p x))∧Ext w' ku):
  Calls prog 172 #[.slice A l.length c, .func (.func eu) #[] cs.toArray] w (λ e w'=>e= .returned (.bool (l.any p))∧Ext w w'):=by
 refine ch (n:=9) func172 Z Z Z ?_;refine aj<|va Z<|ai<|aj<|vm Z<|vm Z<|ca aea Z Z ((ahc eu cs p _ _ l _ (az.keep (Ext.bF w)) lV (λ x hx w' h=>dM x hx w' (γ (Ext.bF w) h))).mono ?_);rintro e cv ⟨rfl,eA⟩;refine ⟨_,Z, ?_⟩;have:=eA.size;have bg:=γ (Ext.bF w) eA;refine J (j4 Z Z)<|va Z<|ai<|rt<|bb (.tmp Z .nil)<| ?_;exact ⟨by rw [LV];rfl,bg⟩
theorem ax5 (eu:FuncId) (cs:List Value) (p:bz→Bool) (A:Option Addr) (c:Nat) (l:List bz) (w:World) (az:bz.rep.aJ 40 w A c l) (lV:Enters prog eu) (dM:∀ x∈l,∀ w',Ext w w'→Calls prog eu (([.agg #[.slice x.a x.n x.c, .int .i64 x.late, .bool x.gone]]:List Value)++cs).toArray w' λ e ku=>e= .returned (.bool (p x))∧Ext w' ku):
  Calls prog 171 #[.slice A l.length c, .func (.func eu) #[] cs.toArray] w (λ e w'=>e= .returned (.int .i64 (fT p l))∧Ext w w'):=by
 have oc:=az.ez;refine ch (n:=19) func171 Z Z Z ?_;refine aj<|va Z<|ai<|aA<|aj<|vm Z<|J (cA underlying80 Z)<|vm Z<|ai<|bM<| ?_;refine e8 (λ cm cl aU=>∃ k:Nat,cl= [(0, .slice A l.length c),(1, .func (.func eu) #[] cs.toArray),(7, .int .i64 (l.length:Int)),(8, .int .i64 (k:Int))]∧cm=l.length - k∧Ext w aU∧(k≤l.length)∧(∀ i,i<k→p (l.getD i default)=false)) _ _ ⟨0,Z,Z,(Ext.bF w),by omega,λ i aq=>by omega⟩ (.cons Z (.cons Z (.cons Z (.cons (bZ Z (by first | omega | rfl | (simp<;>omega))) .nil)))) ?_;rintro MB JH cv ⟨k,rfl,rfl,bg,ar,aK⟩;have:=bg.size;refine aj<|J (blt Z Z)<|ai<|aA<| ?_;refine eg Z (λ lX=> ?_) (λ lX=> ?_)
 ·refine bt<|aA<|bM<|aj<|vm Z<|va Z<|ai<|aj<|vm Z<|vm Z<|vm Z<|J (b' k underlying80 jL Z Z ((az.keep bg).bR (ba k)) Z (by omega))<|J (ao Z (κ.aJ.ho nw ((az.keep bg).cu (ba k)) (dv (l:=l) (u:=default) (by omega)) AQ jL))<|Km lV Z Z Z ((dM (l.getD k default) (ih (by omega)) _ bg).mono ?_);rintro e I' ⟨rfl,yr⟩;refine ⟨_,Z, ?_⟩;have:=yr.size;have mz:=γ bg yr;refine ai<| ?_;refine dJ Z (λ lY=> ?_) (λ lY=> ?_)
  ·refine aj<|vm Z<|va Z<|ai<|rt<|e_<|bT<|nR<|e_<|bT<|bb (.tmp Z .nil)<| ?_;exact ⟨by have e:=Q1 (p:=p) (l:=l) (d:=default) (k:=k) (by omega) lY aK;rw [e];rfl,mz⟩
  ·refine e9<|b0<|aV<|rg<|J (bad Z Z (bE (by omega)))<|vm Z<|nl<| ?_;exact c6 _ _ ⟨k+1,Z,Z,mz,by omega,wk aK lY⟩ (by omega) (.cons Z (.cons Z (.cons Z (.cons (bZ Z (by first | omega | rfl | (simp<;>omega))) .nil))))
 ·refine dH<|dG<|ef<|dF<|aV<|aj<|va Z<|ai<|rt<|bb (.tmp Z .nil)<| ?_;exact ⟨by have e:=Q0 (p:=p) (l:=l) (d:=default) (λ i aq=>aK i (by omega));rw [e];rfl,bg⟩
theorem avA (eu:FuncId) (cs:List Value) (p:bz→Bool) (A:Option Addr) (c:Nat) (l:List bz) (w:World) (az:bz.rep.aJ 40 w A c l) (lV:Enters prog eu) (dM:∀ x∈l,∀ w',Ext w w'→Calls prog eu (([.agg #[.slice x.a x.n x.c, .int .i64 x.late, .bool x.gone]]:List Value)++cs).toArray w' λ e ku=>e= .returned (.bool (p x))∧Ext w' ku):
  Calls prog 141 #[.slice A l.length c, .func (.func eu) #[] cs.toArray] w (λ e w'=>e= .returned (.bool (l.any p))∧Ext w w'):=by
 refine ch (n:=9) func141 Z Z Z ?_;refine aj<|va Z<|ai<|aj<|vm Z<|vm Z<|ca asD Z Z ((ax5 eu cs p _ _ l _ (az.keep (Ext.bF w)) lV (λ x hx w' h=>dM x hx w' (γ (Ext.bF w) h))).mono ?_);rintro e cv ⟨rfl,eA⟩;refine ⟨_,Z, ?_⟩;have:=eA.size;have bg:=γ (Ext.bF w) eA;refine J (j4 Z Z)<|va Z<|ai<|rt<|bb (.tmp Z .nil)<| ?_;exact ⟨by rw [LV];rfl,bg⟩
theorem aDi (o:aF) (p:Int) (b:Nat) (w:World) (aN:aR w b [.int .i64 p] 3 (0,0)):
  Calls prog 173 #[.agg #[.int .i64 o.by_, .int .i64 o.kind, .int .i64 o.aQ, .int .i64 o.spot.x, .int .i64 o.spot.y, .int .i64 o.what], .pointer (some ⟨b,0,none⟩)] w (λ e w'=>e= .returned (.bool (o.by_ != p || o.bo != 0))∧Ext w w'):=by
 have tE:=aN.lt;refine ch (n:=13) func173 Z Z Z ?_;refine aj<|cB Z Z Z Z λ cv bJ a7 ee ab=> ?_;have:=a7.size;have bg:=γ (Ext.bF w) a7;have ei:=ab.lt;refine va Z<|ai<|aj<|J (av s3 Z)<|J (ao Z (ab.one bc Z))<| ?_;have aN:=aN.later a7;refine J (ao Z (aN.one bc Z))<|J (bne Z Z)<|vm Z<|bp Z Z Z Z (λ hc=>ao Z (ab.all hN dN)) Z<|zT Z Z Z Z US (λ hc=>h1 (gt hc Z) Z) (λ hc=>Ym o _) Z λ eK cG=> ?_;have:=cG.size;have bQ:=γ bg cG;refine bp Z Z Z Z (λ hc=>bne (gt hc Z) Z) Z<|J (fv Z Z Z Z)<|va Z<|ai<|rt<|bb (.tmp Z .nil)<| ?_;exact ⟨Z,bQ⟩
theorem aDj (A:Option Addr) (c:Nat) (s:b6) (p:Int) (w:World) (az:aF.rep.aJ 48 w A c s.waits):
  Calls prog 143 #[.agg #[.slice A s.waits.length c, .int .i64 s.late, .bool s.gone], .int .i64 p] w (λ e w'=>e= .returned (.bool (s.wH p))∧Ext w w'):=by
 refine ch (n:=33) func143 Z Z Z ?_;refine aj<|cB Z Z Z Z λ cv bJ a7 ee ab=> ?_;have:=a7.size;have bg:=γ (Ext.bF w) a7;have ei:=ab.lt;refine cB Z Z Z Z λ eK cw bl ie ag=> ?_;have:=bl.size;have bQ:=γ bg bl;have h3:=ag.lt;refine va Z<|ai<|aA<|aj<|J (av Hj Z)<| ?_;have ab:=ab.later bl;refine J (ao Z (ab.one bc Z))<|J (blt Z Z)<|vm Z<|bp Z Z Z Z (λ hc=>av Hj Z) Z<|bp Z Z Z Z (λ hc=>ao (gt hc Z) (ab.one bc Z)) Z<|bp Z Z Z Z (λ hc=>iw (gt hc Z) Z) Z<|J (fv Z Z Z Z)<|vm Z<|bp Z Z Z Z (λ hc=>av Hk Z) Z<|bp Z Z Z Z (λ hc=>ao (gt hc Z) (ab.one EL Z)) Z<|bp Z Z Z Z (λ hc=>aM (gt hc Z)) Z<|sy Z Z Z Z (λ hc=>av Hj Z) Z<|sy Z Z Z Z (λ hc=>ao (gt hc Z) (ab.one bc Z)) Z<|sy Z Z Z Z (λ hc=>bne (gt hc Z) Z) Z<|sy Z Z Z Z (λ hc=>aM (gt hc Z)) Z<|sy Z Z Z Z (λ hc=>av qL Z) Z<|sy Z Z Z Z (λ hc=>ao (gt hc Z) (ab.one n9 Z)) Z<|sy Z Z Z Z (λ hc=>cA underlying44 (gt hc Z)) Z<|sy Z Z Z Z (λ hc=>iw (gt hc Z) Z) Z<|sy Z Z Z Z (λ hc=>aA2 hc (gt hc Z) Z Z) Z<|bp Z Z Z Z (λ hc=>ajQ hc (gt hc Z) Z Z) Z<|J (fv Z Z Z Z)<|ai<| ?_;refine dJ Z (λ ix=> ?_) (λ ix=> ?_)
 ·refine aj<|va Z<|ai<|rt<|bT<|bb (.tmp Z .nil)<| ?_;exact ⟨by unfold b6.wH;rw [ix];rfl,bQ⟩
 ·refine bt<|aj<|J (av qL Z)<|J (ao Z (ab.one n9 Z))<|J (Iu Z Z)<|ca asF Z Z ((avz 173 [.pointer (some ⟨cw,0,none⟩)] (λ o=>o.by_ != p || o.bo != 0) _ _ s.waits _ (az.keep bQ) asE (λ x hx w' h=>aDi x p cw w' (ag.later h))).mono ?_);rintro e u' ⟨rfl,b9⟩;refine ⟨_,Z, ?_⟩;have:=b9.size;have jW:=γ bQ b9;refine J (dZ Z)<|va Z<|ai<|rt<|bb (.tmp Z .nil)<| ?_;exact ⟨by unfold b6.wH;rw [ix];rfl,jW⟩
theorem aCK (t:bz) (w:World):
  Calls prog 142 #[.agg #[.slice t.a t.n t.c, .int .i64 t.late, .bool t.gone]] w (λ e w'=>e= .returned (.bool (decide (50<(t.n:Int))))∧Ext w w'):=by
 refine ch (n:=7) func142 Z Z Z ?_;refine aj<|cB Z Z Z Z λ cv bJ a7 ee ab=> ?_;have:=a7.size;have bg:=γ (Ext.bF w) a7;have ei:=ab.lt;refine va Z<|ai<|aj<|J (av qL Z)<|J (ao Z (ab.one n9 Z))<|J (cA underlying44 Z)<|J (iw Z Z)<|va Z<|ai<|rt<|bb (.tmp Z .nil)<| ?_;exact ⟨Z,bg⟩
theorem RV (A:Option Addr) (c:Nat) (T:List bz) (S:List b6) (w:World) (b8:bz.rep.aJ 40 w A c T) (hS:pJ w T S):
  Calls prog 102 #[.slice A T.length c] w (λ e w'=>∃ e':Int,e= .returned (.int .i64 e')∧(e'=0↔sV S)∧Ext w w'):=by
 have A_:=b8.ez;refine ch (n:=27) func102 Z Z Z ?_;refine aj<|va Z<|ai<|aA<|aj<|vm Z<|J (cA underlying80 Z)<|J (blt Z Z)<|vm Z<|bp Z Z Z Z (λ hc=>aM Z) Z<|bp Z Z Z Z (λ hc=>cA underlying80 (gt hc Z)) Z<|bp Z Z Z Z (λ hc=>iw (gt hc Z) Z) Z<|J (fv Z Z Z Z)<|ai<| ?_;refine dJ Z (λ mo=> ?_) (λ mo=> ?_)
 ·simp only [cC] at mo;refine aj<|va Z<|ai<|rt<|bT<|bb (.tmp Z .nil)<| ?_;exact ⟨1,Z,⟨λ bd=>absurd bd (by decide),λ bd=>absurd bd (by rintro ⟨τ,aa,_⟩;have:=hS.len;omega)⟩,(Ext.bF w)⟩
 ·simp only [cC] at mo;refine bt<|aA<|aj<|vm Z<|ca asH Z Z ((avA 142 [] (λ t=>decide (50<(t.n:Int))) _ _ T _ (b8.keep (Ext.bF w)) asG (λ x hx w' h=>aCK x w')).mono ?_);rintro e lg ⟨rfl,a7⟩;refine ⟨_,Z, ?_⟩;have:=a7.size;have eB:=γ (Ext.bF w) a7;refine ai<| ?_;refine dJ Z (λ lX=> ?_) (λ lX=> ?_)
  ·refine aj<|va Z<|ai<|rt<|bT<|bb (.tmp Z .nil)<| ?_;exact ⟨2,Z,⟨λ bd=>absurd bd (by decide),λ bd=>absurd bd (λ bd=>aCN hS lX bd)⟩,eB⟩
  ·have axy:=aCP hS lX;refine bt<|aA<|aj<|vm Z<|J (cA underlying80 Z)<|vm Z<|ai<|bM<| ?_;refine e8 (λ cm cl aU=>∃ k:Nat,cl= [(15, .slice A T.length c),(16, .int .i64 (T.length:Int)),(17, .int .i64 (k:Int))]∧cm=T.length - k∧Ext w aU∧(k≤T.length)∧(∀ (i:Nat) (s:b6),i<k→S[i]? =some s→s.wH i=true)) _ _ ⟨0,Z,Z,eB,by omega,λ i s aq=>by omega⟩ (.cons Z (.cons Z (.cons (bZ Z (by first | omega | rfl | (simp<;>omega))) .nil))) ?_;rintro X' aHm I' ⟨k,rfl,rfl,mz,ar,aK⟩;have:=mz.size;refine aj<|J (blt Z Z)<|ai<|aA<| ?_;refine eg Z (λ pT=> ?_) (λ pT=> ?_)
   ·obtain ⟨en,dt,bh,fK,jy,hx⟩:=hS.at_ (k:=k) (by omega);refine bt<|aA<|bM<|aj<|vm Z<|J (b' k underlying80 jL Z Z ((b8.keep mz).bR (ba k)) Z (by omega))<|J (ao Z (κ.aJ.ho nw ((b8.keep mz).cu (ba k)) fK AQ jL))<|al Z KF Z Z λ tK xh c' H' eV=> ?_;have:=c'.size;have jj:=γ mz c';have MO:=eV.lt;refine va Z<|st (new:= [.slice ((⟨en,bh.waits.length,dt,bh.late,bh.gone⟩:bz).a) ((⟨en,bh.waits.length,dt,bh.late,bh.gone⟩:bz).n) ((⟨en,bh.waits.length,dt,bh.late,bh.gone⟩:bz).c), .int .i64 ((⟨en,bh.waits.length,dt,bh.late,bh.gone⟩:bz).late), .bool ((⟨en,bh.waits.length,dt,bh.late,bh.gone⟩:bz).gone)]) Z Z eV Z jL Z Z Z λ vd nH eV=> ?_;have:=nH.size;have ik:=Ext.mod jj nH bu;refine ai<|aj<|J (ao Z (eV.all AQ jL))<|vm Z<|ca asI Z Z ((aDj en dt bh (k:Int) _ (hx.keep ik)).mono ?_);rintro e na ⟨rfl,dV⟩;refine ⟨_,Z, ?_⟩;have:=dV.size;have e4:=γ ik dV;refine J (dZ Z)<|ai<| ?_;refine dJ Z (λ oW=> ?_) (λ oW=> ?_)
    ·refine aj<|va Z<|ai<|rt<|e_<|bT<|nR<|e_<|bT<|bb (.tmp Z .nil)<| ?_;exact ⟨4,Z,⟨λ bd=>absurd bd (by decide),λ bd=>absurd bd (λ bd=>by have uJ:=(bd.2.2 k bh jy).2;rw [uJ] at oW;cases oW)⟩,e4⟩
    ·have axt:bh.wH k=true:=by simpa using oW
     refine e9<|b0<|aV<|rg<|J (bad Z Z (bE (by omega)))<|vm Z<|nl<| ?_;exact c6 _ _ ⟨k+1,Z,Z,e4,by omega,λ i s aq hs=>aCQ aK jy axt aq hs⟩ (by omega) (.cons Z (.cons Z (.cons (bZ Z (by first | omega | rfl | (simp<;>omega))) .nil)))
   ·refine dH<|dG<|ef<|dF<|aV<|aj<|va Z<|ai<|rt<|bb (.tmp Z .nil)<| ?_;exact ⟨0,Z,⟨λ _=>⟨by have:=hS.len;have Ws:=mo;omega,by have:=hS.len;have Ws:=mo;omega,λ i s hs=>⟨axy i s hs,aK i s (by have:=(aRC.1 hs).1;have:=hS.len;omega) hs⟩⟩,λ _=>Z⟩,mz⟩
end
section
theorem Vj {w:World}:∀ {ess:List (List Value)} {l:List Int},c9 (λ es a=>bP.has w es a) ess l→ess.flatten=l.map (Value.int .i64)
 | [], [],_=>rfl
 | es::ess,a::l,h=>by
  obtain ⟨τ,aa⟩:=h;rw [aSu,gN τ,Vj aa];rfl
 | [],_::_,h=>h.elim
 | _::_, [],h=>h.elim
theorem T2 {w:World}:∀ {l:List Int},(∀ a∈l,fO a)→c9 (λ es a=>bP.has w es a) (l.map λ a=> [Value.int .i64 a]) l
 | [],_=>trivial
 | a::l,h=>⟨⟨rfl,h a aRZ⟩,T2 λ b Φ=>h b (aRQ _ Φ)⟩
end
end Go.Proofs.YtlikikpgmmkjbaaGreat
namespace Go.Proofs.YtlikikpgmmkjbaaGreat.kC
open Tryz
open Go.Proofs.YtlikikpgmmkjbaaGreat.fc
def step (n:BitVec 32):BitVec 32:=n >>> 1 ^^^ (3988292384#32 &&& -(n &&& 1#32))
def steps:Nat→BitVec 32→BitVec 32
 | 0,n=>n
 | k+1,n=>steps k (step n)
def take (n:BitVec 32) (b:UInt8):BitVec 32:=steps 8 (n ^^^ b.toBitVec.setWidth 32)
def fold (n:BitVec 32) (l:List UInt8):BitVec 32:=l.foldl take n
def more (n:BitVec 32) (l:List UInt8):BitVec 32:= ~~~(fold (~~~n) l)
def of (l:List UInt8):BitVec 32:=more 0#32 l

theorem at7 (n:BitVec 32) (l m:List UInt8):fold n (l++m)=fold (fold n l) m:=by
 unfold fold;rw [aTd]
theorem at8 (n:BitVec 32) (l:List UInt8) (b:UInt8):fold n (l++ [b])=take (fold n l) b:=by
 rw [at7];rfl

theorem Zd (m:BitVec 32):bits BinOp.xor IntKind.u32 (U m / 2) (bits BinOp.and IntKind.u32 3988292384 (-bits BinOp.and IntKind.u32 (U m) 1 % 4294967296))=U (step m):=by
 refine PS (O2 _ _ _) (O1 _ _ _) ?_;have τ:=ajF (n:=32) (U m) 1 (TZ m) (by have:=aoN m;omega);rw [Yq,ajB,aAD,aAG,ajB,wB];rw [show (U m / 2:Int)=U m / 2 ^ 1 by rfl,τ,wB];rfl
theorem ayf (x y:Int) (aH:0≤y) (τ:y<256):bits BinOp.xor IntKind.u32 x y=U (BitVec.ofInt 32 x ^^^ (BitVec.ofInt 8 y).setWidth 32):=by
 refine PS (O2 _ _ _) (O1 _ _ _) ?_;rw [Yq];obtain ⟨m,rfl⟩:=aTA aH;congr 1;rw [aSD,aSD];apply aWd;simp only [aTl,BitVec.toNat_setWidth];omega
end Go.Proofs.YtlikikpgmmkjbaaGreat.kC
namespace Go.Proofs.YtlikikpgmmkjbaaGreat
open Tryz
end Go.Proofs.YtlikikpgmmkjbaaGreat
namespace Go.Proofs.YtlikikpgmmkjbaaGreat.kC
open Tryz
open Go.RowKit Go.Proofs.YtlikikpgmmkjbaaGreat.fc

theorem akw {a b:Int} (h:a=b):Ending.returned (.int .u32 a)= .returned (.int .u32 b):=by rw [h]

theorem aDA (m:BitVec 32) (x y:Int) (aH:0≤x) (τ:x≤4294967295) (aa:0≤y) (aw:y≤255) (hm:m=BitVec.ofInt 32 x ^^^ (BitVec.ofInt 8 y).setWidth 32) (w:World):
  Calls prog 215 #[.int .u32 x, .int .u8 y] w fun e w'=>e= .returned (.int .u32 (U (steps 8 m)))∧w=w':=by
 have mg:=aRF (ayf x y aa (by omega));rw [← hm] at mg;clear hm;go_enter func215,ntmps215;go_wp2
 go_loop [0,9] (fun x i=>∃ (k:Nat) (q:BitVec 32),k≤8∧i= .int .i64 k∧x= .int .u32 (U q)∧Hid (steps (8 - k) q=steps 8 m)) (fun _ i=>8 - (intOf i).toNat)
 case atStart=>exact ⟨0,m,by omega,rfl,by rw [mg.out],rfl⟩
 case round =>
  obtain ⟨k,q,ar,rfl,rfl,I⟩:=hrel;by_cases bw:k<8
  ·go_wp2
   go_round
   case rel =>
    refine ⟨k+1,step q,by omega,by go_num,by rw [Zd], ?_⟩;have h:=I.out;rw [show 8 - k=(8 - (k+1))+1 by omega] at h;exact h
   case measure=>simp [intOf];omega
  ·have agh:k=8:=by omega
   have h:=I.out;rw [agh] at h;clear I agh;have bW:=aRF h;clear h;go_wp2
   go_ret;exact ⟨akw (by rw [← bW.out];rfl),Z⟩
theorem aDz (n:BitVec 32) (b:UInt8) (x y:Int) (hx:x=U n) (aL:y=(b.toNat:Int)) (w:World):
  Calls prog 215 #[.int .u32 x, .int .u8 y] w fun e w'=>e= .returned (.int .u32 (U (take n b)))∧w=w':=by
 subst hx aL;have Φ:=b.toNat_lt;refine aDA _ _ _ (TZ _) (aoM _) (by omega) (by omega) ?_ w;rw [wB];congr 2;rw [aSD];exact (aT7 8 b.toBitVec).trans (aT6 _) |>.symm

theorem ajq (x:Int):bits BinOp.xor IntKind.u32 IntKind.u32.max x=U (~~~(BitVec.ofInt 32 x)):=by
 refine PS (O2 _ _ _) (O1 _ _ _) ?_;rw [Yq];exact BitVec.allOnes_xor

theorem aDE (s:ByteArray) (k:Nat) (h:k<s.size):s.data.toList.take (k+1)=s.data.toList.take k++ [s[k]]:=by
 rw [aR2 (by simpa using h)];rfl
theorem Yj (x:Int) (s:ByteArray) (aH:0≤x) (τ:x≤4294967295) (hs:s.size≤9223372036854775807) (w:World):
  Calls prog 189 #[.int .u32 x, .string s] w fun e w'=>e= .returned (.int .u32 (U (more (BitVec.ofInt 32 x) s.data.toList)))∧w=w':=by
 obtain ⟨n,k4⟩:∃ n,Hid (n=BitVec.ofInt 32 x):=⟨_,rfl⟩;have fe:=aRF (ajq x);rw [← k4.out] at fe;rw [← k4.out];clear aH τ;go_enter func189,ntmps189;go_wp2
 go_loop [0,10] (fun x i=>∃ k:Nat,k≤s.size∧i= .int .i64 k∧x= .int .u32 (U (fold (~~~n) (s.data.toList.take k)))) (fun _ i=>s.size - (intOf i).toNat)
 case atStart=>exact ⟨0,aSo _,rfl,by rw [fe.out];rfl⟩
 case round =>
  obtain ⟨k,ar,rfl,rfl⟩:=hrel;by_cases bw:k<s.size
  ·go_wp2_with (go_at_call 215;refine (aDz _ s[k] _ _ rfl rfl _).mono ?_;rintro e w' ⟨rfl,rfl⟩)
   go_round
   case rel =>
    refine ⟨k+1,by omega,by go_num, ?_⟩;rw [aDE s k bw,at8]
   case measure=>simp [intOf];omega
  ·go_wp2
   go_ret;have awp:k=s.size:=by omega
   exact ⟨akw (by rw [ajq,wB,awp,aR1 (by simp)];rfl),Z⟩
theorem Yo (s:ByteArray) (hs:s.size≤9223372036854775807) (w:World):
  Calls prog 154 #[.string s] w fun e w'=>e= .returned (.int .u32 (U (of s.data.toList)))∧w=w':=by
 go_enter func154,ntmps154;go_wp2_with (go_at_call 189;refine (Yj _ s (by decide) (by decide) hs _).mono ?_;rintro e w' ⟨rfl,rfl⟩)
 go_ret;exact ⟨Z,Z⟩

end Go.Proofs.YtlikikpgmmkjbaaGreat.kC
namespace Go.Proofs.YtlikikpgmmkjbaaGreat
open Tryz
end Go.Proofs.YtlikikpgmmkjbaaGreat
namespace Go.Proofs.YtlikikpgmmkjbaaGreat.kC
open Tryz
open Go.RowKit Go.Proofs.YtlikikpgmmkjbaaGreat.fc
def Bh (n:BitVec 32):List UInt8:= [UInt8.ofNat n.toNat,UInt8.ofNat (n.toNat / 256),UInt8.ofNat (n.toNat / 65536),UInt8.ofNat (n.toNat / 16777216)]
def wJ (s:ByteArray):ByteArray:=s++⟨(Bh (of s.data.toList)).toArray⟩
theorem akJ (s:ByteArray):(wJ s).data.toList=s.data.toList++Bh (of s.data.toList):=by
 unfold wJ;rw [ByteArray.data_append,aVa]
theorem RY (s:ByteArray):(wJ s).size=s.size+4:=by
 have h:=aSI List.length (akJ s);rw [aRH] at h;simp only [aTy] at h;exact h

theorem aqH (n:BitVec 32) (u:World):(convert 76 9 (.slice (some ⟨u.heap.size,0,none⟩) 4 4)).run prog (u.alloc (.cells #[.int .u8 (U n % 256), .int .u8 (U n / 256 % 256), .int .u8 (U n / 65536 % 256), .int .u8 (U n / 16777216 % 256)] 5))=
  .ok (.string ⟨(Bh n).toArray⟩) (u.alloc (.cells #[.int .u8 (U n % 256), .int .u8 (U n / 256 % 256), .int .u8 (U n / 65536 % 256), .int .u8 (U n / 16777216 % 256)] 5)):=by
 refine aWl (P:=prog) _ 76 9 5 ⟨u.heap.size,0,none⟩ 4 (Bh n) underlying76 underlying5 underlying9 ?_;intro j ay;rw [ab2];have awn:j<4:=ay;have Qf:U n=(n.toNat:Int):=rfl;rw [Qf]
 match j,awn with
 | 0,_=>simp [Bh,aTP]
 | 1,_=>simp [Bh,aTP]
 | 2,_=>simp [Bh,aTP]
 | 3,_=>simp [Bh,aTP]

theorem Y1 (s:ByteArray) (hs:s.size≤9223372036854775800) (w:World):
  Calls prog 115 #[.string s] w fun e w'=>e= .returned (.string (wJ s))∧Below w.heap.size w w':=by
 have hcv:=aqH (of s.data.toList);have az:(Bh (of s.data.toList)).length≤4:=aRN _;go_enter func115,ntmps115;go_wp2_with (go_at_call 154;refine (Yo _ (by omega) _).mono ?_;rintro e w' ⟨rfl,rfl⟩)
 go_ret;exact ⟨Z,(aR8 _ _).alloc (aRN _) _⟩
def l4 (s:ByteArray):ByteArray×Int :=
 if s.size<4 then (⟨#[]⟩,3) else if wJ (s.extract 0 (s.size - 4))=s then (s.extract 0 (s.size - 4),0) else (⟨#[]⟩,5)

theorem YS {a b:ByteArray×Int} (h:b=a):Ending.returned (.tuple #[.string a.1, .int .i64 a.2])= .returned (.tuple #[.string b.1, .int .i64 b.2]):=by rw [h]

theorem aAK (s:ByteArray) (hs:s.size≤9223372036854775800) (w:World):
  Calls prog 84 #[.string s] w fun e w'=>e= .returned (.tuple #[.string (l4 s).1, .int .i64 (l4 s).2])∧Below w.heap.size w w':=by
 by_cases a1:s.size<4
 ·have bW:=aRF (show l4 s=(⟨#[]⟩,3) by unfold l4;rw [aRP a1]);go_enter func84,ntmps84;go_wp2_with fail
  go_ret2
  exact ⟨YS bW.out,aR8 _ _⟩
 ·have hm:((s.size:Int) - 4)=((s.size - 4:Nat):Int):=by omega
  have bs:(s.extract 0 (s.size - 4)).size≤9223372036854775800:=by rw [ByteArray.size_extract];omega
  obtain ⟨m,k4⟩:∃ m,Hid (m=s.size - 4):=⟨_,rfl⟩;rw [← k4.out] at hm bs;have awQ:m+4≤s.size:=by have:=k4.out;omega
  have aKA:s.size≤m+4:=by have:=k4.out;omega
  by_cases bK:wJ (s.extract 0 m)=s
  ·have bW:=aRF (show l4 s=(s.extract 0 m,0) by unfold l4;rw [← k4.out,aRL a1,aRP bK]);have auO:=acx bK;have ry:=aRF bK;clear bK;go_enter func84,ntmps84;go_wp2_with (go_at_call 115;refine (Y1 _ bs _).mono ?_;rintro e aP ⟨rfl,Φ⟩)
   go_ret2
   exact ⟨YS bW.out,by assumption⟩
  ·have bW:=aRF (show l4 s=(⟨#[]⟩,5) by unfold l4;rw [← k4.out,aRL a1,aRL bK]);have auO:=acw bK;clear bK;go_enter func84,ntmps84;go_wp2_with (go_at_call 115;refine (Y1 _ bs _).mono ?_;rintro e aP ⟨rfl,Φ⟩)
   go_ret2
   exact ⟨YS bW.out,by assumption⟩

theorem aAL (s:ByteArray):l4 (wJ s)=(s,0):=by
 have τ:(wJ s).extract 0 ((wJ s).size - 4)=s:=by
  apply Um;rw [aUN,akJ,RY,aUc];have e:s.size+4 - 4 - 0=s.data.toList.length:=by simp
  rw [e,aU0]
 have aa:=RY s;unfold l4;rw [aRL (by omega),τ,aRP rfl]
theorem ajM (s:ByteArray):(l4 s).2=0∧wJ (l4 s).1=s∨((l4 s).2=3∨(l4 s).2=5)∧(l4 s).1=⟨#[]⟩:=by
 unfold l4;split
 ·exact .inr ⟨.inl Z,Z⟩
 ·split
  ·rename_i h;exact .inl ⟨Z,h⟩
  ·exact .inr ⟨.inr Z,Z⟩
end Go.Proofs.YtlikikpgmmkjbaaGreat.kC
namespace Go.Proofs.YtlikikpgmmkjbaaGreat
open Tryz
section
theorem aqz (A:Option Addr) (len c n:Nat) (w:World) (hn:1≤n):
  Calls prog 86 #[.slice A len c, .int .i64 (n:Int)] w (λ e w'=>∃ fz gR,e= .returned (.func (.func 121) #[] #[.pointer (some ⟨fz,0,none⟩), .pointer (some ⟨gR,0,none⟩)])∧aR w' fz [.slice A len c] 22 (0,0)∧aR w' gR [.int .i64 (n:Int)] 3 (0,0)∧w.heap.size≤fz∧fz<gR∧Ext w w'):=by
 refine ch (n:=9) func86 Z Z Z ?_;refine aj<|cB Z Z Z Z λ cv bJ a7 ee ab=> ?_;have:=a7.size;have bg:=γ (Ext.bF w) a7;have ei:=ab.lt;refine cB Z Z Z Z λ eK cw bl ie ag=> ?_;have:=bl.size;have bQ:=γ bg bl;have h3:=ag.lt;refine va Z<|ai<|aA<|aj<|J (ao Z (ag.one bc Z))<|J (blt Z Z)<|ai<| ?_;have ix:(decide ((n:Int)<1))=false:=by rw [aSg];omega
 refine hL (by rw [← ix];rfl)<|bt<|aj<|J (Iu Z Z)<|va Z<|ai<|rt<|bb (.tmp Z .nil)<| ?_;have ab:=ab.later bl;exact ⟨bJ,cw,Z,ab,ag,by omega,by omega,bQ⟩
theorem aqB (q n len c fz gR:Nat) (A:Option Addr) (w0:World) (hn:1≤n) (hlen:len=q * n) (aww:len≤c) (r0:c≤9223372036854775807) (m:Nat) (aak:aR w0 fz [.slice A len c] 22 (0,0)) (aal:aR w0 gR [.int .i64 (n:Int)] 3 (0,0)):
  SeqStopsK (j6 none) m prog 121 #[.pointer (some ⟨fz,0,none⟩), .pointer (some ⟨gR,0,none⟩)] (λ k:Fin q=>#[.slice (eF A (k.1 * n+n) (k.1 * n) 1) n n]) (Au fz gR) (λ xs=>xs=List.finRange q) (λ _=>True) q w0:=by
 intro l jq aHs W Φ avw aJY au5 Qy;have wW:=aak.Q5 (Φ.block fz aak.lt);have yG:=aal.Q5 (Φ.block gR aal.lt);have zj:Ee W.heap.size jq [] W:=⟨avw,Qy⟩;refine Rd.aqg (n:=31) func121 Z Z Z ?_;refine Rd.aA<|Rd.rg<|va Z<|nl<|Rd.aV<|Rd.bM<| ?_;refine Rd.e8 (λ cm cl aU=>∃ k:Nat,cl= [(0, .func (.yield l) #[] #[]),(1, .pointer (some ⟨fz,0,none⟩)),(2, .pointer (some ⟨gR,0,none⟩)),(4, .int .i64 (((k * n:Nat):Int)))]∧cm=q - k∧True∧aR aU fz [.slice A len c] 22 (0,0)∧aR aU gR [.int .i64 (n:Int)] 3 (0,0)∧Ee W.heap.size jq ((List.finRange q).take k) aU∧(k≤q)) _ _ ⟨0,Z,Z,trivial,wW,yG,(zj:Ee W.heap.size jq [] _),by omega⟩ (.cons Z (.cons Z (.cons Z (.cons (bZ Z (by first | omega | rfl | (simp<;>omega))) .nil)))) ?_;rintro MB JH cv ⟨k,rfl,rfl,bg,wW,yG,zj,ar⟩;have aOK:=wW.lt;have aOS:=yG.lt;have hc:=k;refine Rd.aA<|Rd.aA<|Rd.rg<|vm Z<|J (ao Z (wW.one gL Z))<|J (cA underlying22 Z)<|J (blt Z Z)<|nl<|Rd.aV<| ?_;refine Rd.eg Z (λ pV=> ?_) (λ pV=> ?_)
 ·have zn:k<q:=Nat.lt_of_mul_lt_mul_right (a:=n) (by omega);have WY:k * n+n≤q * n:=by rw [← aTh];exact aSm _ zn
  refine Rd.e9<|Rd.aV<|Rd.aA<|Rd.bM<|Rd.aA<| ?_;refine Rd.rd [(0,0),(1,0)] [0,1,2,3,4,5,6] (by kernel_rfl) (by kernel_rfl) ?_;refine bH Z (λ _ x=>ao Z ((yG.later x).one bc Z))<|bH Z (λ _ x=>ao Z ((wW.later x).one gL Z))<|au Z (λ _=>aM Z)<|au Z (λ _=>aCJ (k * n) underlying22 dK Z Z Z (by omega))<|au Z (λ _=>cA underlying22 Z)<|au Z (λ _=>nL Z Z)<|au Z (λ _=>fg Z)<|fn λ Nu tT=> ?_;have:=tT.size;refine Rd.aV<|Rd.aA<|oL.rg<|oL.iA (aM Z) Z<| ?_;have wW:=wW.later tT;refine oL.iA (ao Z (wW.one gL Z)) Z<|oL.iA (aM Z) Z<|oL.iA (aM Z) Z<|oL.iA (aM Z) Z<|oL.iA (bad Z Z (bE (by omega))) Z<|oL.iA (aM Z) Z<|oL.iA (aM Z) Z<|oL.iA (bad Z Z (bE (by omega))) Z<|oL.iA (aCI (k * n) (k * n+n) n underlying22 dK Z Z Z Z Z (by omega) (by omega) (by omega) (by omega) (by omega)) Z<| ?_;have yG:=yG.later tT;have zj:=zj.later tT;refine oL.aFu Z Z Z (aFv (au5 _ (⟨k,zn⟩:Fin q) _ zj.at_ (by rw [aRE,aWf];omega)) ?_);rintro e amt k9;obtain ⟨uu,rfl,τ,aa⟩:=aFw k9;refine ⟨_,Z, ?_⟩
  replace τ:uu=true→Ee W.heap.size jq ((List.finRange q).take k++ [⟨k,zn⟩]) amt∧Au fz gR _ amt:=λ h=>⟨⟨zj.T1,(τ h).1⟩,(τ h).2⟩
  refine oL.iA (dZ Z) Z<|oL.nl<|Rd.aV<| ?_;refine Rd.dJ Z (λ pT=> ?_) (λ pT=> ?_)
  ·refine Rd.rt<|e_<|Rd.bT<|nR<|e_<|bb .nil<| ?_;exact ⟨⟨_,Z⟩, .inr ⟨_,trivial,aa (by simpa using pT)⟩⟩
  ·obtain ⟨auU,gS⟩:=τ (by simpa using pT);have wW:=wW.Q5 gS.1;have yG:=yG.Q5 gS.2;refine Rd.e9<|Rd.b0<|Rd.aV<|Rd.rg<|vm Z<|J (ao Z (yG.one bc Z))<|J (bad Z Z (bE (by omega)))<|va Z<|nl<| ?_;exact Rd.c6 _ _ ⟨k+1,Z,Z,trivial,wW,yG,(by rw [← atP zn];exact auU),by omega⟩ (by omega) (.cons Z (.cons Z (.cons Z (.cons (bZ Z (by rw [aTh];omega)) .nil))))
 ·have zn:k=q:=Nat.le_antisymm ar (Nat.le_of_mul_le_mul_right (c:=n) (by omega) hn);refine Rd.dH<|Rd.dG<|ef<|Rd.dF<|Rd.ne<|bb .nil<| ?_;exact ⟨⟨_,Z⟩, .inl ⟨_,Z,by have:=zj.at_;rwa [zn,aR1 (by rw [aWf];omega)] at this⟩⟩
end
section
def aPf:κ UInt8:=κ.flat 1 (λ b=> [.int .u8 (b.toNat:Int)]) (λ _=>True) (λ _ u=>∃ n:Int,u= .int .u8 n) (λ _=>rfl) (by intro a u hu;simp at hu;subst hu;rfl) (by
 intro a j u hu;cases j with
 | zero=>simp at hu;exact ⟨_,hu.symm⟩
 | succ j=>simp at hu)
def G6 (l:List UInt8):ByteArray:=⟨l.toArray⟩
section
variable {P:Program} {n:Nat} {E cP:List (Nat×Value)} {w:World} {d:Option Nat} {ty:TypeId} {pos:String} {af:Array Edge} {g:Option (Nat×Bool)} {x y z u:Operand} {t t2:TypeId}
end
end
section
def aC0 (p:Int):UInt8:=([46,35,116,111]:List UInt8).getD p.toNat 0
def aCw (f:aE) (k j:Nat):List UInt8:=(((f.aZ.drop (k * f.wide.toNat)).take (k * f.wide.toNat+f.wide.toNat - k * f.wide.toNat)).take j).map aC0
def txt (f:aE) (pre:List (Fin f.high.toNat)):List UInt8:=pre.flatMap λ k=>aCw f k.1 f.wide.toNat++ [10]
theorem aqA (A:Option Addr) (len c:Nat) (i:Int) (w:World) (aq:1≤i):Calls prog 86 #[.slice A len c, .int .i64 i] w (λ e w'=>∃ fz gR,e= .returned (.func (.func 121) #[] #[.pointer (some ⟨fz,0,none⟩), .pointer (some ⟨gR,0,none⟩)])∧aR w' fz [.slice A len c] 22 (0,0)∧aR w' gR [.int .i64 (i.toNat:Int)] 3 (0,0)∧w.heap.size≤fz∧fz<gR∧Ext w w'):=by
 have e:i=(i.toNat:Int):=by omega
 have:=aqz A len c i.toNat w (by omega);rw [← e] at this;rw [← e];exact this
def aJr (f:aE):ByteArray:=if f.bo≠0 then G6 [] else G6 (txt f (List.finRange f.high.toNat))
end
section
theorem aoq:eC prog bP 22 3 8:=eC.kT (z:= .int .i64 0) (k:=1) underlying22 C8 rfl rfl (by decide) (λ j u h=>IL j u h)
theorem aop:eC prog aF.rep 44 51 48:=eC.kT (z:=aF.zero) (k:=6) underlying44 aF.info rfl rfl (by decide) aF.h8
def nums (l:List aF):List Int:=l.flatMap λ o=> [o.by_,o.kind,o.aQ,o.spot.x,o.spot.y,o.what]
theorem Rv:∀ l:List aF,(nums l).length=6 * l.length
 | []=>rfl
 | o::l=>by unfold nums;rw [aTe,aRH,aRG];have:=Rv l;unfold nums at this;rw [this];simp;omega
theorem aAq {l:List aF} {k:Nat} (h:k<l.length):nums (l.take (k+1))=nums (l.take k)++ [(l.getD k default).by_,(l.getD k default).kind,(l.getD k default).aQ,(l.getD k default).spot.x,(l.getD k default).spot.y,(l.getD k default).what]:=by
 unfold nums;rw [wK (d:=default) h,aSZ];simp
def iQ (l:List aF):ByteArray:=if hC l≠0 then G6 [] else kC.wJ (Pack.strOf (Pack.q9 (nums l)))
theorem amo {l:List aF} (h:¬ hC l=0):iQ l=G6 []:=by unfold iQ;rw [aRP h]
theorem SP {l:List aF} (h:hC l=0):iQ l=kC.wJ (Pack.strOf (Pack.q9 (nums l))):=by unfold iQ;rw [aRL (by simpa using h)]
theorem Pack.aj9 (l:List Int):(Pack.q9 l).length≤10+10 * l.length:=by
 unfold Pack.q9;rw [aRH];have:=(Pack.BB l.length).1;have:=Pack.XA l;omega
theorem aCl {w:World} {A:Option Addr} {c:Nat} {l:List Int} (h:bP.aJ 8 w A c l):Rd w 1 A l.length (vN l):=by
 obtain ⟨s1,s2,MV,akD,ess,MW,FX⟩:=h;rw [Vj MW] at FX;exact FX
theorem axY {w:World} {A:Option Addr} {c:Nat} {l:List Int} (h:bP.aJ 8 w A c l):sR l:=λ x hx=>bI.1 (IN h x hx)
theorem aBJ (l:List Int) (A:Option Addr) (c:Nat) (w:World) (hn:l.length≤1000) (h:bP.aJ 8 w A c l):Calls prog 92 #[.slice A l.length c] w λ e w'=>e= .returned (.tuple #[.string (Pack.strOf (Pack.q9 l)), .int .i64 0])∧Ext w w' :=
 Pack.aj8 A l.length c l rfl hn (axY h) w (aCl h)
theorem ae9 {s:List UInt8} {out:List Int} {j:Int} (h:Pack.Ag s out j):out.length≤1000:=by
 obtain ⟨_,τ,aa⟩:=h;by_cases e:j=0
 ·exact (τ e).2
 ·rw [(aa e).1];exact aSo _
theorem aAZ {w:World} {B n c:Nat} {A:Option Addr} {l:List Int} (h:Own w B 3 1 Oj (.slice A n c) l.length (vN l)) (az:l.length≤1000) (P9:sR l):n=l.length∧bP.aD 3 8 w B (κ.ae A) A c l:=by
 have hn:n=l.length:=by
  rcases h.2 with ⟨τ,aa⟩ | ⟨g,cap,cur,hv,_⟩
  ·injection τ with _ e _;rw [e,aa]
  ·injection hv
 subst hn;refine ⟨Z,κ.aD.By (ess:=l.map λ a=> [Value.int .i64 a]) akt (T2 λ a ha=>bI.2 (P9 a ha)) (by omega) ?_⟩;have ny:(l.map λ a=> [Value.int .i64 a]).flatten=l.map (Value.int .i64):=Vj (w:=w) (T2 λ a ha=>bI.2 (P9 a ha));rw [ny];exact h
theorem auA (s:ByteArray) (hs:s.size≤9223372036854775807) (w:World):Calls prog 85 #[.string s] w (λ e w'=>∃ out k A c,Pack.Ag s.data.toList out k∧e= .returned (.tuple #[.slice A out.length c, .int .i64 k])∧bP.aD 3 8 w' w.heap.size (κ.ae A) A c out∧Ext w w'):=by
 refine (Pack.auz s hs w).mono λ e w' he=> ?_;obtain ⟨out,k,A,n,c,τ,aa,aw,a1⟩:=he;obtain ⟨rfl,bK⟩:=aAZ aw (ae9 τ) τ.1;exact ⟨out,k,A,c,τ,aa,bK,a1⟩
theorem aAM {s:ByteArray} (h:s.size≤140737488351232):(kC.l4 s).1.size≤9223372036854775807:=by
 rcases kC.ajM s with ⟨_,aa⟩ | ⟨_,aa⟩
 ·have:=aSI ByteArray.size aa;rw [kC.RY] at this;omega
 ·rw [aa];decide
def fu (l:List Int) (k:Nat):List Int:=(l.drop (k * 6)).take (k * 6+6 - k * 6)
theorem acT {l:List Int} {k:Nat} (h:k * 6+6≤l.length):(fu l k).length=6:=by unfold fu;rw [aRE,aRV];omega
theorem aqC {l:List Int} (h:∀ a∈l,fO a) (k i:Nat):fO ((fu l k).getD i 0):=by
 by_cases aq:i<(fu l k).length
 ·exact h _ (aU1 (aTa (ih (d:=0) aq)))
 ·rw [aRB,aSR (by omega)];exact bI.2 (by decide)
def x7 (n:List Int):aF:=⟨n.getD 0 0,n.getD 1 0,n.getD 2 0,⟨n.getD 3 0,n.getD 4 0⟩,n.getD 5 0⟩
def IB (out:List Int) (q:Nat):List aF:=(List.finRange q).map λ k=>x7 (fu out k.1)
def FR (out:List Int):List aF:=IB out (out.length / 6)
theorem IA {out:List Int} {q:Nat} (h:out.length=q * 6):FR out=IB out q:=by unfold FR;rw [show out.length / 6=q by omega]
def Cn (s:ByteArray) (m:List aF) (k:Int):Prop :=
 ((kC.l4 s).2≠0∧m= []∧k=(kC.l4 s).2)∨((kC.l4 s).2=0∧∃ out j,Pack.Ag (kC.l4 s).1.data.toList out j∧((j≠0∧m= []∧k=j)∨(j=0∧out.length % 6≠0∧m= []∧k=4)∨
  (j=0∧out.length % 6=0∧((hC (FR out)≠0∧m= []∧k=hC (FR out))∨(hC (FR out)=0∧m=FR out∧k=0)))))
theorem aA1 (A:Option Addr) (c:Nat) (l:List aF) (w:World) (az:aF.rep.aJ 48 w A c l):
  Calls prog 79 #[.slice A l.length c] w (λ e w'=>e= .returned (.tuple #[.string (iQ l), .int .i64 (hC l)])∧Ext w w'):=by
 have oc:=az.ez;refine ch (n:=49) func79 Z Z Z ?_;refine aj<|va Z<|va Z<|ai<|aA<|aj<|vm Z<|ca UX Z Z ((Yl _ _ l _ (az.keep (Ext.bF w))).mono ?_);rintro e cv ⟨rfl,eA⟩;refine ⟨_,Z, ?_⟩;have:=eA.size;have bg:=γ (Ext.bF w) eA;refine va Z<|ai<|aj<|vm Z<|J (bne Z Z)<|ai<| ?_;refine e1 Z (λ qR=> ?_) (λ qR=> ?_)
 ·refine aj<|vm Z<|va Z<|va Z<|ai<|rt<|bT<|bb (.tmp Z (.tmp Z .nil))<| ?_;exact ⟨by rw [amo qR];rfl,bg⟩
 ·obtain ⟨awv,_⟩:=FQ (by simpa using qR);refine bt<|aj<|va Z<|ai<|aA<|aj<|vm Z<|J (cA underlying44 Z)<|vm Z<|ai<|bM<| ?_;refine e8 (λ cm cl aU=>∃ k:Nat,∃ N3:Option Addr,∃ UA:Nat,cl= [(2, .string (G6 [])),(3, .int .i64 0),(5, .slice N3 ((nums (l.take k)).length) UA),(15, .slice A l.length c),(16, .int .i64 (l.length:Int)),(17, .int .i64 (k:Int))]∧cm=l.length - k∧Ext w aU∧bP.aD 3 8 aU w.heap.size (κ.ae N3) N3 UA (nums (l.take k))∧(k≤l.length)) _ _ ⟨0,none,0,Z,Z,bg,(κ.aD.nil _),by omega⟩ (.cons Z (.cons Z (.cons Z (.cons Z (.cons Z (.cons (bZ Z (by first | omega | rfl | (simp<;>omega))) .nil)))))) ?_;rintro azD anu al9 ⟨k,N3,UA,rfl,rfl,yy,yR,ar⟩;have:=yy.size;have I3:=λ q I=>(yR.lt q I).2;have agD:=Rv (l.take k);have LO:(l.take k).length=k:=by rw [aRE];omega
  refine aj<|J (blt Z Z)<|ai<|aA<| ?_;refine eg Z (λ pT=> ?_) (λ pT=> ?_)
  ·have Ba:=aF.mj az _ (ih (d:=default) (show k<l.length by omega));refine bt<|aA<|bM<|aj<|J (b' k underlying44 dN Z Z ((az.keep yy).bR (ba k)) Z (by omega))<|J (ao Z (κ.aJ.ho CX ((az.keep yy).cu (ba k)) (dv (l:=l) (u:=default) (by omega)) hN dN))<|al Z KA Z Z λ tK xh c' H' eV=> ?_;have:=c'.size;have jj:=γ yy c';have MO:=eV.lt;refine st (new:= [.int .i64 ((l.getD k default).by_), .int .i64 ((l.getD k default).kind), .int .i64 ((l.getD k default).aQ), .int .i64 ((l.getD k default).spot.x), .int .i64 ((l.getD k default).spot.y), .int .i64 ((l.getD k default).what)]) Z Z eV Z dN Z Z Z λ vd nH eV=> ?_;have:=nH.size;have ik:=Ext.mod jj nH bu;refine ai<|rg<|vm Z<|J (av s3 Z)<|J (ao Z (eV.one bc Z))<|J (av pP Z)<|J (ao Z (eV.one bc Z))<|J (av CH Z)<|J (ao Z (eV.one bc Z))<|J (av CI Z)<|J (av iL Z)<|J (ao Z (eV.one bc Z))<|J (av CI Z)<|J (av iM Z)<|J (ao Z (eV.one bc Z))<|J (av CJ Z)<|J (ao Z (eV.one bc Z))<|cX (e:= 3) (cs:= [.int .i64 ((l.getD k default).by_), .int .i64 ((l.getD k default).kind), .int .i64 ((l.getD k default).aQ), .int .i64 ((l.getD k default).spot.x), .int .i64 ((l.getD k default).spot.y), .int .i64 ((l.getD k default).what)]) Z (λ _=>by kernel_rfl) Z λ na G4 dW XN pq=> ?_;have:=dW.size;have e4:=γ ik dW;have MP:=pq.lt;have yR:=yR.later c';have yR:=yR.mod nH (bL I3);have yR:=yR.later dW;refine ap aoq κ.di yR (aR.Lc (R:=bP) (by_:=8) (k:= [(l.getD k default).by_,(l.getD k default).kind,(l.getD k default).aQ,(l.getD k default).spot.x,(l.getD k default).spot.y,(l.getD k default).what]) pq [[.int .i64 ((l.getD k default).by_)], [.int .i64 ((l.getD k default).kind)], [.int .i64 ((l.getD k default).aQ)], [.int .i64 ((l.getD k default).spot.x)], [.int .i64 ((l.getD k default).spot.y)], [.int .i64 ((l.getD k default).what)]] Z (⟨⟨Z,(Ba.1)⟩,⟨⟨Z,(Ba.2.1)⟩,⟨⟨Z,(Ba.2.2.1)⟩,⟨⟨Z,(Ba.2.2.2.1)⟩,⟨⟨Z,(Ba.2.2.2.2.1)⟩,⟨⟨Z,(Ba.2.2.2.2.2)⟩,trivial⟩⟩⟩⟩⟩⟩) (by simp) (by simp)) Z Z (by simp only [aRG,aRM];omega) (by simp only [aRG,aRM];omega) e4.size Z λ tM am1 ap3 gq GV aJL aNG=> ?_;have:=gq.size;have hX:=Ext.mod e4 gq (λ q I=>(yR.lt q I).1);have DA:=λ q I=>(GV.lt q I).2;have:=gq.size;refine va Z<|nl<|b0<|aV<|rg<|J (bad Z Z (bE (by omega)))<|vm Z<|nl<| ?_;have a_:nums (l.take (k+1))=nums (l.take k)++ [(l.getD k default).by_,(l.getD k default).kind,(l.getD k default).aQ,(l.getD k default).spot.x,(l.getD k default).spot.y,(l.getD k default).what]:=aAq (by omega);exact c6 _ _ ⟨k+1,am1,ap3,Z,Z,hX,(by rw [a_];exact GV),by omega⟩ (by omega) (.cons Z (.cons Z (.cons (by rw [a_];rfl) (.cons Z (.cons Z (.cons (bZ Z (by first | omega | rfl | (simp<;>omega))) .nil))))))
  ·refine dH<|dG<|ef<|dF<|aV<|aj<|vm Z<|ca ad8 Z Z ((aBJ (nums (l.take k)) _ _ _ (by omega) yR.has).mono ?_);rintro e wN ⟨rfl,eS⟩;refine ⟨_,Z, ?_⟩;have:=eS.size;have mb:=γ yy eS;refine vm Z<|J (ex Z Z)<|J (ex Z Z)<|va Z<|va Z<|ai<|aA<|aj<|vm Z<|J (bne Z Z)<|ai<|hL Z<|bt<|aj<|vm Z<|ca asK Z Z ((kC.Y1 _ (by rw [Pack.IU];have:=Pack.aj9 (nums (l.take k));omega) _).mono ?_);rintro e Nk ⟨rfl,zW⟩;refine ⟨_,Z, ?_⟩;have:=zW.size;have yx:=γ mb zW;refine va Z<|va Z<|ai<|rt<|bb (.tmp Z (.tmp Z .nil))<| ?_;have k8:k=l.length:=by omega
   subst k8;exact ⟨by rw [SP (by simpa using qR),show hC l=0 by simpa using qR,aSi];rfl,yx⟩
theorem aAU (s:ByteArray) (w:World) (hs:s.size≤140737488351232):
  Calls prog 55 #[.string s] w (λ e w'=>∃ m k A c,Cn s m k∧e= .returned (.tuple #[.slice A m.length c, .int .i64 k])∧aF.rep.aD 51 48 w' w.heap.size (κ.ae A) A c m∧Ext w w'):=by
 refine Rd.ch (m:=5) (n:=61) func55 Z Z Z ?_;refine Rd.aA<|Rd.rg<|va Z<|va Z<|nl<|Rd.aV<|Rd.aA<|Rd.rg<|vm Z<|ca asL Z Z ((kC.aAK s (by omega) _).mono ?_);rintro e cv ⟨rfl,eA⟩;refine ⟨_,Z, ?_⟩;have:=eA.size;have bg:=γ (Ext.bF w) eA;refine vm Z<|J (ex Z Z)<|J (ex Z Z)<|va Z<|va Z<|nl<|Rd.aV<|Rd.aA<|Rd.aA<|Rd.rg<|vm Z<|J (bne Z Z)<|nl<|Rd.aV<| ?_;refine Rd.e1 Z (λ qR=> ?_) (λ qR=> ?_)
 ·refine Rd.aA<|Rd.rg<|vm Z<|va Z<|va Z<|nl<|Rd.aV<|Rd.rt<|Rd.bT<|Rd.bb (.tmp Z (.tmp Z .nil))<| ?_;exact ⟨[],_,none,0, .inl ⟨by simpa using qR,rfl,rfl⟩,Z,κ.aD.nil _,bg⟩
 ·refine Rd.e9<|Rd.aV<|Rd.aA<|Rd.rg<|vm Z<|ca asM Z Z ((auA ((kC.l4 s).1) (aAM (by omega)) _).mono ?_);rintro e eK ⟨out,j,N0,acC,KV,rfl,dh,cG⟩;refine ⟨_,Z, ?_⟩;have:=cG.size;have bQ:=γ bg cG;have Sg:=λ q I=>(dh.lt q I).2;have X2:=λ q I=>(dh.lt q I).1;have awb:=ae9 KV;refine vm Z<|J (ex Z Z)<|J (ex Z Z)<|va Z<|va Z<|nl<|Rd.aV<|Rd.aA<|Rd.aA<|Rd.rg<|vm Z<|J (bne Z Z)<|nl<|Rd.aV<| ?_;refine Rd.e1 Z (λ kL=> ?_) (λ kL=> ?_)
  ·refine Rd.aA<|Rd.rg<|vm Z<|va Z<|va Z<|nl<|Rd.aV<|Rd.rt<|Rd.bT<|Rd.bb (.tmp Z (.tmp Z .nil))<| ?_;exact ⟨[],_,none,0, .inr ⟨by simpa using qR,out,j,KV, .inl ⟨by simpa using kL,rfl,rfl⟩⟩,Z,κ.aD.nil _,bQ⟩
  ·have aKe:out.length≤1000:=awb;refine Rd.e9<|Rd.aV<|Rd.aA<|Rd.aA<|Rd.rg<|vm Z<|J (cA underlying22 Z)<|J (apA Z Z (by omega) (by omega))<|J (bne Z Z)<|nl<|Rd.aV<| ?_;refine Rd.e1 Z (λ qQ=> ?_) (λ qQ=> ?_)
   ·refine Rd.aA<|Rd.rg<|va Z<|va Z<|nl<|Rd.aV<|Rd.rt<|Rd.bT<|Rd.bb (.tmp Z (.tmp Z .nil))<| ?_;exact ⟨[],_,none,0, .inr ⟨by simpa using qR,out,j,KV, .inr (.inl ⟨by simpa using kL,by omega,rfl,rfl⟩)⟩,Z,κ.aD.nil _,bQ⟩
   ·obtain ⟨q,LF⟩:∃ q,out.length=q * 6:=⟨out.length / 6,by omega⟩;refine Rd.e9<|Rd.aV<|Rd.aA<|Rd.rg<|al Z asN Z Z λ zU OX qp ayP N6=> ?_;have:=qp.size;have iU:=γ bQ qp;have aBS:=N6.lt;refine nl<|Rd.aV<|Rd.aA<|Rd.aA<|Rd.rg<|vm Z<|ca asO Z Z ((aqA _ _ _ 6 _ (by omega)).mono ?_);rintro e yj ⟨fz,gR,rfl,aaQ,aaR,jN,Fs,hD⟩;refine ⟨_,Z, ?_⟩;have:=hD.size;have kB:=γ iU hD;have mY:=aaQ.lt;have ya:=aaR.lt;refine nl<|Rd.aV<|Rd.bM<| ?_;have N6:=N6.later hD;have dh:=dh.later (γ qp hD);refine Rd.bF (enc:=(λ k:Fin q=> .slice (eF N0 (k.1 * 6+6) (k.1 * 6) 1) 6 6)) Z asP (aqB q 6 out.length acC fz gR N0 _ (by omega) LF dh.has.1 dh.has.2.1 _ aaQ aaR) (by omega) (by omega) (Ext.bF _) (by decide) Z Z (λ pre W=>∃ j0:Option Addr,∃ co:Nat,aR W OX [.slice j0 (((pre.map λ k=>x7 (fu out k.1))).length) co] 44 (0,0)∧aF.rep.aD 51 48 W yj.heap.size (κ.ae j0) j0 co ((pre.map λ k=>x7 (fu out k.1)))∧bP.aD 3 8 W cv.heap.size (κ.ae N0) N0 acC (out)∧Mod [OX] yj W) (by rintro aPi aHO aHP aHH ⟨j0,co,ng,ff,dh,aFC⟩ Rf HG;exact ⟨j0,co,ng.mod Rf (λ I=>(HG _ I).2 _ _ _ ng),ff.mod Rf (λ q I hs=>by obtain ⟨_,_,_,hc⟩:=ff.Pg q I;exact (HG q hs).2 _ _ _ hc),dh.mod Rf (λ q I hs=>by obtain ⟨_,_,_,hc⟩:=dh.Pg q I;exact (HG q hs).2 _ _ _ hc),aFC.md Rf (λ q I=> .inr (HG q I).1)⟩) ⟨none,0,N6,κ.aD.nil _,dh,Mod.bF _ _⟩ ?_ ?_
    ·intro aLQ pre d' alV V0 awC;obtain ⟨j0,co,ng,ff,dh,ZS⟩:=V0;have zo:∀ q∈ [OX],w.heap.size≤q:=λ q I=>by rw [aRz.1 I];omega
     have xC:yM yj.heap.size alV alV:=yM.bF _ _;have:=ZS.size;have ake:=ng.lt;have Zp:=λ q I=>(ff.lt q I).2;have Mr:=λ q I=>(ff.lt q I).1;have iz:=λ q I=>(dh.lt q I).2;have nF:=λ q I=>(dh.lt q I).1;have hx:=d'.2;have LQ:d'.1 * 6+6≤q * 6:=by omega
     have H2:pre.length<q:=awC;have rZ:=acT (l:=out) (k:=d'.1) (by omega);have HZ:=λ i=>aqC (IN dh.has) d'.1 i;have nB:((pre.map λ k=>x7 (fu out k.1))).length=pre.length:=aSz _;refine Rd.bM<| ?_;refine Rd.rd [(0,0),(3,0),(6,0),(9,0),(12,0),(15,0),(19,0),(21,2),(22,3),(23,3)] [0,1,2,3,4,5,6,7,8,9,10,11,12,13,14,15,16,17,18,19,20,21,22,23] (by kernel_rfl) (by kernel_rfl) ?_;refine bH Z (λ _ x=>ao Z ((ng.later x).one n9 Z))<|au Z (λ _=>aM Z)<|au Z (λ _=>b' 0 underlying22 dK Z Z ((dh.has.chunk (d'.1 * 6) (d'.1 * 6+6) (by omega) (by omega)).bR (ba 0 (by first | (rw [aRE,aRV];omega) | omega))) Z (by omega))<|bH Z (λ _ x=>ao Z (κ.aJ.gi gN (((dh.later x).has.chunk (d'.1 * 6) (d'.1 * 6+6) (by omega) (by omega)).cu (ba 0 (by first | (rw [aRE,aRV];omega) | omega))) (dv (l:=fu out d'.1) (u:=0) (by first | (rw [aRE,aRV];omega) | omega)) Z bc))<|au Z (λ _=>aM Z)<|au Z (λ _=>b' 1 underlying22 dK Z Z ((dh.has.chunk (d'.1 * 6) (d'.1 * 6+6) (by omega) (by omega)).bR (ba 1 (by first | (rw [aRE,aRV];omega) | omega))) Z (by omega))<|bH Z (λ _ x=>ao Z (κ.aJ.gi gN (((dh.later x).has.chunk (d'.1 * 6) (d'.1 * 6+6) (by omega) (by omega)).cu (ba 1 (by first | (rw [aRE,aRV];omega) | omega))) (dv (l:=fu out d'.1) (u:=0) (by first | (rw [aRE,aRV];omega) | omega)) Z bc))<|au Z (λ _=>aM Z)<|au Z (λ _=>b' 2 underlying22 dK Z Z ((dh.has.chunk (d'.1 * 6) (d'.1 * 6+6) (by omega) (by omega)).bR (ba 2 (by first | (rw [aRE,aRV];omega) | omega))) Z (by omega))<|bH Z (λ _ x=>ao Z (κ.aJ.gi gN (((dh.later x).has.chunk (d'.1 * 6) (d'.1 * 6+6) (by omega) (by omega)).cu (ba 2 (by first | (rw [aRE,aRV];omega) | omega))) (dv (l:=fu out d'.1) (u:=0) (by first | (rw [aRE,aRV];omega) | omega)) Z bc))<|au Z (λ _=>aM Z)<|au Z (λ _=>b' 3 underlying22 dK Z Z ((dh.has.chunk (d'.1 * 6) (d'.1 * 6+6) (by omega) (by omega)).bR (ba 3 (by first | (rw [aRE,aRV];omega) | omega))) Z (by omega))<|bH Z (λ _ x=>ao Z (κ.aJ.gi gN (((dh.later x).has.chunk (d'.1 * 6) (d'.1 * 6+6) (by omega) (by omega)).cu (ba 3 (by first | (rw [aRE,aRV];omega) | omega))) (dv (l:=fu out d'.1) (u:=0) (by first | (rw [aRE,aRV];omega) | omega)) Z bc))<|au Z (λ _=>aM Z)<|au Z (λ _=>b' 4 underlying22 dK Z Z ((dh.has.chunk (d'.1 * 6) (d'.1 * 6+6) (by omega) (by omega)).bR (ba 4 (by first | (rw [aRE,aRV];omega) | omega))) Z (by omega))<|bH Z (λ _ x=>ao Z (κ.aJ.gi gN (((dh.later x).has.chunk (d'.1 * 6) (d'.1 * 6+6) (by omega) (by omega)).cu (ba 4 (by first | (rw [aRE,aRV];omega) | omega))) (dv (l:=fu out d'.1) (u:=0) (by first | (rw [aRE,aRV];omega) | omega)) Z bc))<|rS (v:= .agg #[.int .i64 ((fu out d'.1).getD 3 0), .int .i64 ((fu out d'.1).getD 4 0)]) Z Z (λ _=>cK Z (by kernel_rfl)) Z<|au Z (λ _=>aM Z)<|au Z (λ _=>b' 5 underlying22 dK Z Z ((dh.has.chunk (d'.1 * 6) (d'.1 * 6+6) (by omega) (by omega)).bR (ba 5 (by first | (rw [aRE,aRV];omega) | omega))) Z (by omega))<|bH Z (λ _ x=>ao Z (κ.aJ.gi gN (((dh.later x).has.chunk (d'.1 * 6) (d'.1 * 6+6) (by omega) (by omega)).cu (ba 5 (by first | (rw [aRE,aRV];omega) | omega))) (dv (l:=fu out d'.1) (u:=0) (by first | (rw [aRE,aRV];omega) | omega)) Z bc))<|rS (v:= .agg #[.int .i64 ((fu out d'.1).getD 0 0), .int .i64 ((fu out d'.1).getD 1 0), .int .i64 ((fu out d'.1).getD 2 0), .int .i64 ((fu out d'.1).getD 3 0), .int .i64 ((fu out d'.1).getD 4 0), .int .i64 ((fu out d'.1).getD 5 0)]) Z Z (λ _=>cK Z (by kernel_rfl)) Z<|gm Z Z Z λ tM fb Q hK=>cX (e:= 51) (cs:= [.int .i64 ((fu out d'.1).getD 0 0), .int .i64 ((fu out d'.1).getD 1 0), .int .i64 ((fu out d'.1).getD 2 0), .int .i64 ((fu out d'.1).getD 3 0), .int .i64 ((fu out d'.1).getD 4 0), .int .i64 ((fu out d'.1).getD 5 0)]) Z (λ _=>by kernel_rfl) Z λ tN apb hT ayS JA=>hK _ _ ⟨γ fb hT, ?_⟩;have:=fb.size;have hX:=ZS.trans (Mod.bC fb);have:=hT.size;have iG:=hX.trans (Mod.bC hT);have YE:=JA.lt;have ff:=ff.later (γ fb hT);have aA6:=ff;refine eP Z Z Z λ wN eS Q hK=>ap aop κ.di (ff.later eS) ((aR.gB (R:=aF.rep) (by_:=48) (q:=(⟨(fu out d'.1).getD 0 0,(fu out d'.1).getD 1 0,(fu out d'.1).getD 2 0,⟨(fu out d'.1).getD 3 0,(fu out d'.1).getD 4 0⟩,(fu out d'.1).getD 5 0⟩:aF)) JA ⟨Z,⟨HZ 0,HZ 1,HZ 2,HZ 3,HZ 4,HZ 5⟩⟩ (by decide)).keep eS) Z Z (by simp only [aRG,aRM];omega) (by simp only [aRG,aRM];omega) (by have:=eS.size;omega) Z λ Nk aag acH jP um aut aNJ=>hK _ _ ?_;have:=eS.size;have mb:=iG.trans (Mod.bC eS);have:=jP.size;have yx:=mb.md jP (λ q I=> .inr ((λ q I=>aR5 (by omega) ((ff.later eS).lt q I).1) q I));have DC:=λ q I=>(um.lt q I).2;have:=jP.size;have ng:=ng.later (γ fb (γ hT eS));have nu:∀ q∈κ.ae j0,q=OX→False:=λ q I Φ=>by (have:=Mr q I;omega)
     have ng:=ng.mod jP (λ I=>nu _ I rfl);have aA7:=ng;refine eP Z Z Z λ Nq jU Q hK=>st (new:= [.slice aag (((pre.map λ k=>x7 (fu out k.1))++ [(⟨(fu out d'.1).getD 0 0,(fu out d'.1).getD 1 0,(fu out d'.1).getD 2 0,⟨(fu out d'.1).getD 3 0,(fu out d'.1).getD 4 0⟩,(fu out d'.1).getD 5 0⟩:aF)]).length) acH]) Z Z (ng.later jU) Z AP Z Z Z λ qk la ng=>hK _ _ ?_;have:=jU.size;have yz:=yx.trans (Mod.bC jU);have:=la.size;have hH:=yz.md la (λ q I=> .inl I);refine fn λ Ja nV=> ?_;have:=nV.size;have sI:=hH.trans (Mod.bC nV);refine Rd.b0<| ?_;have xC:=xC.later (γ fb (γ hT eS));have xC:=xC.mod jP (λ q I=>(aA6.later eS).Pg q I);have xC:=xC.later jU;have xC:=xC.mod la (λ q I=>by rw [aRz.1 I];exact ⟨_,_,_,(aA7.later jU)⟩);have xC:=xC.later nV;have ng:=ng.later nV;have um:=um.later jU;have um:=um.mod la (λ q I h=>by have Φ:=aRz.1 h;exfalso;(exact aRO (aut q I) (λ Mf=>by (exact nu q Mf Φ)) (λ Mf=>by omega)));have um:=um.later nV;have dh:=dh.later (γ fb (γ hT eS));have dh:=dh.mod jP (λ q I h=>by exfalso;(have:=Mr q h;(have:=iz q I;have:=Sg q I;omega)));have dh:=dh.later jU;have dh:=dh.mod la (λ q I h=>by have Φ:=aRz.1 h;exfalso;(have:=iz q I;have:=Sg q I;omega));have dh:=dh.later nV;exact λ _ _=>⟨xC,Mod.ayx ZS sI ⟨by omega,by omega⟩ aO aO,⟨aag,acH,(by rw [aR3];exact ng),(by rw [aR3];exact um),dh,sI⟩⟩
    ·intro D aFt aQu aJT HG V0 zi;obtain ⟨j0,co,ng,ff,dh,amz⟩:=V0;have V9:aFt=List.finRange q:=HG;subst V9;have:=amz.size;have aFA:=Ext.mod kB amz (λ q I=>by rw [aRz.1 I];omega);refine gJ.b0<|gJ.aV<|gJ.aA<|gJ.aA<|gJ.rg<|gJ.iA (ao Z (ng.one n9 Z)) Z<|gJ.ca UX Z Z ((Yl _ _ (IB out q) _ ff.has).mono ?_);rintro e aRt ⟨rfl,oB⟩;refine ⟨_,Z, ?_⟩;have:=oB.size;have amI:=γ aFA oB;refine gJ.iA (fg Z) Z<|gJ.nl<|gJ.aV<|gJ.aA<|gJ.rg<|gJ.iA (aM Z) Z<|gJ.iA (bne Z Z) Z<|gJ.nl<|gJ.aV<| ?_;refine gJ.e1 Z (λ La=> ?_) (λ La=> ?_)
     ·refine gJ.aA<|gJ.rg<|gJ.iA (aM Z) Z<|gJ.iA (fg Z) Z<|gJ.iA (fg Z) Z<|gJ.nl<|gJ.aV<|gJ.rt<|gJ.bT<| ?_;have zi:=zi.later oB;refine gJ.bb zi (.tmp Z (.tmp Z .nil))<| ?_;exact ⟨[],_,none,0, .inr ⟨by simpa using qR,out,j,KV, .inr (.inr ⟨by simpa using kL,by omega, .inl ⟨by rw [IA LF];simpa using La,rfl,by rw [IA LF]⟩⟩)⟩,Z,κ.aD.nil _,Ext.mod amI zi.un (λ q I=>by rw [aRz.1 I];omega)⟩
     ·refine gJ.e9<|gJ.aV<|gJ.aA<|gJ.rg<| ?_;have ng:=ng.later oB;refine gJ.iA (ao Z (ng.one n9 Z)) Z<|gJ.iA (fg Z) Z<|gJ.iA (fg Z) Z<|gJ.nl<|gJ.aV<|gJ.rt<| ?_;have zi:=zi.later oB;refine gJ.bb zi (.tmp Z (.tmp Z .nil))<| ?_;have ff:=ff.later oB;exact ⟨_,_,j0,co, .inr ⟨by simpa using qR,out,j,KV, .inr (.inr ⟨by simpa using kL,by omega, .inr ⟨by rw [IA LF];simpa using La,(IA LF).symm,rfl⟩⟩)⟩,rfl,(ff.down (by omega)).mod zi.un (λ lH τ aa=>by have aw:=aRz.1 aa;subst aw;obtain ⟨_,_,_,hc⟩:=ff.Pg _ τ;rw [show _=_ from zi] at hc;exact nomatch hc),Ext.mod amI zi.un (λ q I=>by rw [aRz.1 I];omega)⟩
end
end Go.Proofs.YtlikikpgmmkjbaaGreat
