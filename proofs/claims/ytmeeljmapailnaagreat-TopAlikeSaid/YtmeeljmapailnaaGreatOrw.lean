import Derived.Test.YtmeeljmapailnaaGreatGolF
set_option linter.unusedVariables false
set_option linter.unusedSimpArgs false
set_option maxRecDepth 100000
set_option maxHeartbeats 4000000
open Go.RowKit
namespace Go.Proofs.YtmeeljmapailnaaGreat
open Tryz
abbrev aYv:=@List.length_finRange
section
def At (D:Nat) (w w':World):Prop:=w.heap.size≤w'.heap.size∧(D≤w.heap.size→Below D w w')
theorem At.bg (D:Nat) (w:World):At D w w:=⟨aTK _,λ _=>aUb _ w⟩
theorem At.nL {D:Nat} {a b c:World} (h:At D a b) (k:At D b c):At D a c:=⟨aUc h.1 k.1,λ hd=>Below.trans (h.2 hd) (k.2 (aUc hd h.1))⟩
section
variable {D:Nat} {P:Program} {ops:Array Oper} {Q:Exit→Act→World→Prop} {aT:Nat→Nat}
def aco (D:Nat) (P:Program) (ops:Array Oper) (w0:World) (o:Oper) (v:Value) (a:Act):Prop :=
  (Region.wanted o (yielded ops a.tmps)=true∧∀ w,At D w0 w→zU P w v ((execOp a.eval o).run P w))∨
  (Region.wanted o (yielded ops a.tmps)=false∧v=undef)
def aFR (D:Nat) (P:Program) (ops:Array Oper) (Q:Exit→Act→World→Prop) (aT:Nat→Nat) (i:Nat) (K:Act→World→Prop) (a:Act) (w0:World):Prop :=
  ∃ o,ops[i]? =some o∧
    ((aT i≤1∧∃ v,aco D P ops w0 o v a∧K (a.put o.dst v) w0)∨
     (1<aT i∧∀ w,Ext w0 w→wpOp P ops Q i (λ a' w'=>(aT i=2→At D w0 w')∧K a' w') a w))
def aqJ (D:Nat) (P:Program) (ops:Array Oper) (Q:Exit→Act→World→Prop) (aT:Nat→Nat):Nat→Array Bool→Act→World→Prop
  | 0,l,a,w0=>Region.ready .any ops l= []∧∀ w,Ext w0 w→Q .normal a w
  | f+1,l,a,w0=>(Region.ready .any ops l= []→∀ w,Ext w0 w→Q .normal a w)∧∀ i∈Region.ready .any ops l,aFR D P ops Q aT i (aqJ D P ops Q aT f (l.setIfInBounds i true)) a w0
def JH (D:Nat) (P:Program) (ops:Array Oper) (Q:Exit→Act→World→Prop) (aT:Nat→Nat):List Nat→Act→World→Prop
  | [],a,w0=>∀ w,Ext w0 w→Q .normal a w
  | i::r,a,w0=>∃ o,ops[i]? =some o∧
      ((aT i=0∧∃ v,aco D P ops w0 o v a∧JH D P ops Q aT r (a.put o.dst v) w0)∨
       (aT i=1∧∃ v,Yields P ops o v a∧JH D P ops Q aT r (a.put o.dst v) w0)∨
       (1<aT i∧∀ w,Ext w0 w→wpOp P ops Q i (λ a' w'=>(aT i=2→At D w0 w')∧JH D P ops Q aT r a' w') a w))
end
section
variable {D:Nat} {P:Program} {n:Nat} {E cO:List (Nat×Value)} {a:Act} {w w' w0 aS:World} {Q:Exit→Act→World→Prop} {ops:Array Oper} {v:Value} {aT:Nat→Nat}
variable {d:Option Nat} {ty:TypeId} {pos:String} {af:Array Edge} {g:Option (Nat×Bool)} {x y z:Operand} {t:TypeId} {rest:List Oper} {bV:List Nat} {i:Nat}
def aKb (D:Nat) (P:Program) (n:Nat) (ops:Array Oper) (Q:Exit→Act→World→Prop) (aT:Nat→Nat) (bV:List Nat) (E:List (Nat×Value)) (w0:World):Prop:=∀ a,eD n E a→JH D P ops (hz (Q .normal)) aT bV a w0
end
end
section
section
variable {D:Nat} {P:Program} {n:Nat} {E:List (Nat×Value)} {w:World} {Q:Exit→Act→World→Prop} {ops:Array Oper} {aT:Nat→Nat}
def Tn (D:Nat) (P:Program) (ops:Array Oper) (Q:Exit→Act→World→Prop) (aT:Nat→Nat):CJ→Act→World→Prop
 | .last i bV=>JH D P ops (hz (Q .normal)) aT (i::bV)
 | .two i bV t1 t2=>JH D P ops (hz (λ a w=>Tn D P ops Q aT t1 a w∧Tn D P ops Q aT t2 a w)) aT (i::bV)
def aJh (D:Nat) (P:Program) (ops:Array Oper) (Q:Exit→Act→World→Prop) (aT:Nat→Nat) (t1 t2:CJ):Exit→Act→World→Prop:=hz (λ a w=>Tn D P ops Q aT t1 a w∧Tn D P ops Q aT t2 a w)
end
end
section
open Go.Proofs.YtmeeljmapailnaaGreat.ey
def u' (W:ak) (L:List (List aN)):Prop:=L.length≤200∧W.bn=0∧kZ W L=0
def aJf (W:ak) (L:List (List aN)) (n e:Int) (V:ak):Prop :=
 (e=0∧u' W L∧0≤n∧n≤(L.length:Int)∧V=oo W (L.take n.toNat))∨(e≠0∧¬(u' W L∧0≤n∧n≤(L.length:Int))∧V=ak.zero)
theorem EO.SD {W:ak} {L:List (List aN)} {e:Int} {V:ak} {ms:List (BitVec 64)} (h:EO W L e V ms):e=0↔u' W L :=
 ⟨λ aK=>by obtain ⟨τ,ae,aw,_,_⟩:=h.ok aK;exact ⟨τ,ae,aw⟩,λ ⟨τ,ae,aw⟩=>(h.zero τ ae aw).1⟩
theorem asi (a:ak.b_) (W:ak) (A:Option Addr) (c:Nat) (T:List hh) (L:List (List aN)) (w:World) (b4:ak.Has w a W) (cr:m2.aG 24 w A c T) (du:ng w T L):
  Calls prog 45 #[.agg #[J W.field.wide,J W.field.high, .slice a.P W.field.a8.length a.p, .slice a.B W.a7.length a.b, .slice a.S W.bp.length a.s, .slice a.M W.bM.length a.m, .slice a.T W.aq.length a.t,J W.next,J W.now, .slice A T.length c]] w (λ e w'=>∃ e':Int,e= .returned (J e')∧(e'=0↔u' W L)∧Ext w w'):=by
 refine b' (n:=16) func45 Z Z Z ?_;refine ah<|ck Z Z Z Z λ cK bR bq dU ai=> ?_;have ba:=ab (Ext.bg w) bq;have ib:=ai.lt;refine va Z<|ag<|ah<|Φ (av Fa Z)<|Φ (ao Z (ai.par [J W.field.wide,J W.field.high, .slice a.P W.field.a8.length a.p, .slice a.B W.a7.length a.b, .slice a.S W.bp.length a.s, .slice a.M W.bM.length a.m, .slice a.T W.aq.length a.t,J W.next,J W.now] dA cm Z))<|Φ (av tY Z)<|Φ (ao Z (ai.one zi Z))<|ca K1 Z Z ((Nk a W _ _ T L _ (b4.keep ba) (cr.keep ba) (du.keep ba)).mono ?_);rintro e Af ⟨J5,acx,aKP,aJc,eR,aP3,rfl,X',aKg,pD,aNa,l2⟩;refine ⟨_,Z, ?_⟩;have:=l2.size;have iL:=ab ba l2;refine vm Z<|Φ (ex Z Z)<|Φ (ex Z Z)<|Φ (ex Z Z)<|al Z pN Z Z λ wk aLb ph aAK abz=> ?_;have km:=ab iL ph;refine st Z Z abz Z cm Z Z Z λ wo nD abz=> ?_;have kF:=Ext.mod km nD bC;refine va Z<|va Z<|ag<|ah<|vm Z<|va Z<|ag<|rt<|aV (.tmp Z .nil)<| ?_;exact ⟨J5,Z,X'.SD,kF⟩
end
section
theorem az0 (dJ:FuncId) (cs:List Value) (p:aN→Bool) (A:Option Addr) (c:Nat) (l:List aN) (w:World) (aC:aN.rep.aG 48 w A c l) (jV:Enters prog dJ) (fr:∀ x∈l,∀ w',Ext w w'→Calls prog dJ (([.agg #[J x.by_,J x.kind,J x.aW,J x.spot.x,J x.spot.y,J x.what]]:List Value)++cs).toArray w' λ e jM=>e= .returned (.bool (p x))∧Ext w' jM):
  Calls prog 180 #[.slice A l.length c, .func (.func dJ) #[] cs.toArray] w (λ e w'=>e= .returned (J (fP p l))∧Ext w w'):=by
 have rS:=aC.eZ;refine b' (n:=19) func180 Z Z Z ?_;refine ah<|va Z<|ag<|ay<|ah<|vm Z<|Φ (cl underlying48 Z)<|vm Z<|ag<|bu<| ?_;refine dx (λ bZ bS aL=>∃ k:Nat,bS= [(0, .slice A l.length c),(1, .func (.func dJ) #[] cs.toArray),(7,J (l.length:Int)),(8,J (k:Int))]∧bZ=l.length - k∧Ext w aL∧(k≤l.length)∧(∀ i,i<k→p (l.getD i default)=false)) _ _ ⟨0,Z,Z,(Ext.bg w),by omega,λ i ar=>by omega⟩ (.cons Z (.cons Z (.cons Z (.cons (bH Z) .nil)))) ?_;rintro DL G5 cK ⟨k,rfl,rfl,ba,au,aM⟩;refine ah<|Φ (blt Z Z)<|ag<|ay<| ?_;refine df Z (λ lg=> ?_) (λ lg=> ?_)
 ·refine bl<|ay<|bu<|ah<|vm Z<|va Z<|ag<|ah<|vm Z<|vm Z<|vm Z<|Φ (bT k underlying48 fl Z Z ((aC.keep ba).bs (aO k)) Z (by omega))<|Φ (ao Z (aa.aG.er Fz ((aC.keep ba).cg (aO k)) (cA (l:=l) (u:=default) (by omega)) jc fl))<|C2 jV Z Z Z ((fr (l.getD k default) (gP (by omega)) _ ba).mono ?_);rintro e GB ⟨rfl,Ce⟩;refine ⟨_,Z, ?_⟩;have lv:=ab ba Ce;refine ag<| ?_;refine dn Z (λ kt=> ?_) (λ kt=> ?_)
  ·refine ah<|vm Z<|va Z<|ag<|rt<|dV<|bP<|kB<|dV<|bP<|aV (.tmp Z .nil)<| ?_;exact ⟨by have e:=Ml (p:=p) (l:=l) (d:=default) (k:=k) (by omega) kt aM;rw [e];rfl,lv⟩
  ·refine ei<|bU<|aP<|rg<|Φ (bad Z Z (bf (by omega)))<|vm Z<|nl<| ?_;exact cD _ _ ⟨k+1,Z,Z,lv,by omega,o4 aM kt⟩ (by omega) (.cons Z (.cons Z (.cons Z (.cons (bH Z) .nil))))
 ·refine cV<|cU<|c'<|cT<|aP<|ah<|va Z<|ag<|rt<|aV (.tmp Z .nil)<| ?_;exact ⟨by have e:=Mk (p:=p) (l:=l) (d:=default) (λ i ar=>aM i (by omega));rw [e];rfl,ba⟩
end
section
section
variable {P:Program} {n:Nat} {ops:Array Oper} {Q:Exit→Act→World→Prop} {E:List (Nat×Value)} {w:World} {v:Value} {ty:TypeId} {pos:String} {af:Array Edge} {x y z:Operand} {t:TypeId} {g:Option (Nat×Bool)} {rest:List Oper} {d:Option Nat}
theorem sg {d:Nat} {op:Op} {j:Nat} {q b c bo:Bool} {dc:Oper} {ik:Nat} (aA:ops[j]? =some dc) (mb:dc.dst=some ik) (γ:look E ik=some (fO bo (.bool b))) (hc:(bo && (b == q))=c)
  (hr:c=true→cQ P E ⟨some d,op,ty,pos,af,some (j,q)⟩ w v w) (hd:Nat.blt d n=true) (h:cy P n ops Q rest ((d,fO c v)::E) w):cy P n ops Q (⟨some d,op,ty,pos,af,some (j,q)⟩::rest) E w :=
 Tl (c:=c) (λ a ha=>by
  have τ:=ha.g _ _ γ;subst hc;cases bo with
  | true=>exact B9 (o:=⟨some d,op,ty,pos,af,some (j,q)⟩) rfl aA mb (b:=b) γ ha
  | false =>
   simp only [fO,aUm,aU5] at τ;simp [Region.wanted,yielded,aA,mb,τ,undef])
  (λ hc a ha=>by unfold Oper.wp;rw [hr hc n a ha];subst hc;exact h _ (ha.put hd v)) (λ hc a ha=>by subst hc;exact h _ (ha.put hd undef))
theorem aC0 {b c k:Bool} (au:k=true) (hx:ev E x=some (.bool b)) (aF:ev E y=some (.bool true)) (bG:ev E z=some (fO (k && (b == false)) (.bool c))):cQ P E ⟨d, .pick x y z,ty,pos,af,g⟩ w (.bool (b || c)) w:=by
 subst au;exact fC hx aF Z bG
theorem akx {b c k:Bool} (au:k=true) (hx:ev E x=some (.bool b)) (bG:ev E z=some (.bool false)) (aF:ev E y=some (fO (k && (b == true)) (.bool c))):cQ P E ⟨d, .pick x y z,ty,pos,af,g⟩ w (.bool (b && c)) w:=by
 subst au;exact dv hx bG Z aF
end
end
section
open Go.Proofs.YtmeeljmapailnaaGreat.ey
structure bD where
 a:Option Addr
 n:Nat
 c:Nat
 late:Int
 gone:Bool
instance:Inhabited bD:=⟨⟨none,0,0,0,false⟩⟩
def bD.kA (v:bD):hh:=⟨v.a,v.n,v.c⟩
def bD.raw (j:Nat) (u:Value):Prop:=match j with
 | 0=>∃ a n c,u= .slice a n c
 | 1=>∃ n:Int,u= .int .i64 n
 | 2=>∃ b:Bool,u= .bool b
 | _=>True
def bD.cells (v:bD):List Value:= [.slice v.a v.n v.c,J v.late, .bool v.gone]
def bD.rep:aa bD:=aa.flat 3 bD.cells (λ v=>e_ v.late) bD.raw (λ _=>rfl) (by intro a u hu;simp [bD.cells] at hu;rcases hu with rfl | rfl | rfl<;>rfl) (by
 intro a j u hu
 match j,hu with
 | 0,hu=>exact ⟨_,_,_,(aTA hu).symm⟩
 | 1,hu=>exact ⟨_,(aTA hu).symm⟩
 | 2,hu=>exact ⟨_,(aTA hu).symm⟩
 | j+3,hu=>exact trivial)
theorem mQ {w:World} {cs:List Value} {a:bD} (h:bD.rep.has w cs a):cs=a.cells:=aVP (show cs=a.cells∧e_ a.late from h)
def bD.zero:Value:= .agg #[.slice none 0 0,J 0, .bool false]
theorem bD.ix:∀ (j:Nat) u,bD.zero.cells[j]? =some u→bD.rep.raw j u:=by
 intro j u hu;have hu:(#[(.slice none 0 0:Value),(J 0:Value),(.bool false:Value)]:Array Value)[j]? =some u:=hu
 match j,hu with
 | 0,hu=>exact ⟨_,_,_,(aTA hu).symm⟩
 | 1,hu=>exact ⟨_,(aTA hu).symm⟩
 | 2,hu=>exact ⟨_,(aTA hu).symm⟩
 | j+3,hu=>simp at hu
theorem bD.info:(prog.info? 163).map (λ i=>(i.zero,i.size,i.bytes))=some (some bD.zero,3,40):=by kernel_rfl
theorem bD.k_ {by_:Nat} {w:World} {A:Option Addr} {c:Nat} {l:List bD} (h:bD.rep.aG by_ w A c l):∀ a∈l,e_ a.late:=aa.aG.y7 (R:=bD.rep) (Q:=λ a=>e_ a.late) (fun {w cs a} (h:bD.rep.has w cs a)=>(show cs=a.cells∧e_ a.late from h).2) h
structure cj where
 waits:List aN
 late:Int
 gone:Bool
 deriving DecidableEq
def mI (w:World) (T:List bD) (S:List cj):Prop:=ng w (T.map bD.kA) (S.map cj.waits)∧T.map (λ v=>(v.late,v.gone))=S.map (λ s=>(s.late,s.gone))
section
variable {w w':World} {T j9:List bD} {S oM:List cj} {k:Nat}
theorem mI.len (h:mI w T S):T.length=S.length:=by have:=h.1.1;simpa using this
theorem mI.keep (h:mI w T S) (x:Ext w w'):mI w' T S:=⟨h.1.keep x,h.2⟩
theorem mI.at_ (h:mI w T S) (au:k<T.length):∃ A c s,T[k]? =some ⟨A,s.waits.length,c,s.late,s.gone⟩∧S[k]? =some s∧aN.rep.aG 48 w A c s.waits:=by
 have ff:k<S.length:=by rw [← h.len];exact au
 obtain ⟨A,c,l,τ,ae,aw⟩:=h.1.at_ (k:=k) (by simpa using au);rw [aTY,aTF au] at τ;rw [aTY,aTF ff] at ae;have aU:=aUF (λ l=>l[k]?) h.2;simp only [aTY,aTF au,aTF ff,aU6,aWg,aXf] at aU;have τ:=aTA τ;have ae:=aTA ae;refine ⟨A,c,S[k], ?_,aTF ff,by rw [ae];exact aw⟩;rw [aTF au,ae];generalize T[k]=t at τ aU;obtain ⟨a,n,bX,aPO,g⟩:=t;simp only [bD.kA,hh.mk.injEq] at τ;obtain ⟨rfl,rfl,rfl⟩:=τ;rw [← aU.1,← aU.2]
end
def cj.qY (p:Int) (s:cj):Bool:= !(decide (s.late<0) || decide (1000000<s.late) || (s.gone && (s.late != 0 || decide (0<(s.waits.length:Int))))) && !s.waits.any λ o=>o.by_ != p || o.bn != 0
def u_ (S:List cj):Prop:=1≤S.length∧S.length≤8∧∀ (i:Nat) (s:cj),S[i]? =some s→s.waits.length≤50∧s.qY i=true
theorem aFa {S:List cj} {k:Nat} {bk:cj} (aM:∀ (i:Nat) (s:cj),i<k→S[i]? =some s→s.qY i=true) (hS:S[k]? =some bk) (hr:bk.qY k=true) {i:Nat} {s:cj} (ar:i<k+1) (hs:S[i]? =some s):s.qY i=true:=by
 rcases aUt i k with h | h
 ·exact aM i s h hs
 ·obtain rfl:i=k:=by omega
  rw [hS] at hs;obtain rfl:=aTA hs;exact hr
theorem aE7 {w:World} {T:List bD} {S:List cj} (hS:mI w T S) (h:(T.any λ t=>decide (50<(t.n:Int)))=true):¬ u_ S:=λ aK=>by
 obtain ⟨t,aJ,γ⟩:=aU1.1 h;obtain ⟨i,ar,rfl⟩:=aUB.1 aJ;obtain ⟨A,c,s,τ,ae,_⟩:=hS.at_ ar;rw [aTF ar] at τ;rw [aTA τ] at γ;have:=(aK.2.2 i s ae).1;simp at γ;omega
theorem aE9 {w:World} {T:List bD} {S:List cj} (hS:mI w T S) (h:(T.any λ t=>decide (50<(t.n:Int)))=false):∀ (i:Nat) (s:cj),S[i]? =some s→s.waits.length≤50:=λ i s hs=>by
 have ar:i<T.length:=by rw [hS.len];exact (aTC.1 hs).1
 obtain ⟨A,c,s',τ,ae,_⟩:=hS.at_ ar;rw [hs] at ae;obtain rfl:=aTA ae;rw [aTF ar] at τ;have:=aXv.1 h T[i] (aUV ar);rw [aTA τ] at this;simp at this;omega
theorem axp (dJ:FuncId) (cs:List Value) (p:aN→Bool) (A:Option Addr) (c:Nat) (l:List aN) (w:World) (aC:aN.rep.aG 48 w A c l) (jV:Enters prog dJ) (fr:∀ x∈l,∀ w',Ext w w'→Calls prog dJ (([.agg #[J x.by_,J x.kind,J x.aW,J x.spot.x,J x.spot.y,J x.what]]:List Value)++cs).toArray w' λ e jM=>e= .returned (.bool (p x))∧Ext w' jM):
  Calls prog 160 #[.slice A l.length c, .func (.func dJ) #[] cs.toArray] w (λ e w'=>e= .returned (.bool (l.any p))∧Ext w w'):=by
 refine b' (n:=9) func160 Z Z Z ?_;refine ah<|va Z<|ag<|ah<|vm Z<|vm Z<|ca aue Z Z ((az0 dJ cs p _ _ l _ (aC.keep (Ext.bg w)) jV (λ x hx w' h=>fr x hx w' (ab (Ext.bg w) h))).mono ?_);rintro e cK ⟨rfl,fw⟩;refine ⟨_,Z, ?_⟩;have ba:=ab (Ext.bg w) fw;refine Φ (j_ Z Z)<|va Z<|ag<|rt<|aV (.tmp Z .nil)<| ?_;exact ⟨by rw [Mi];rfl,ba⟩
theorem az1 (dJ:FuncId) (cs:List Value) (p:bD→Bool) (A:Option Addr) (c:Nat) (l:List bD) (w:World) (aC:bD.rep.aG 40 w A c l) (jV:Enters prog dJ) (fr:∀ x∈l,∀ w',Ext w w'→Calls prog dJ (([.agg #[.slice x.a x.n x.c,J x.late, .bool x.gone]]:List Value)++cs).toArray w' λ e jM=>e= .returned (.bool (p x))∧Ext w' jM):
  Calls prog 159 #[.slice A l.length c, .func (.func dJ) #[] cs.toArray] w (λ e w'=>e= .returned (J (fP p l))∧Ext w w'):=by
 have rS:=aC.eZ;refine b' (n:=19) func159 Z Z Z ?_;refine ah<|va Z<|ag<|ay<|ah<|vm Z<|Φ (cl underlying34 Z)<|vm Z<|ag<|bu<| ?_;refine dx (λ bZ bS aL=>∃ k:Nat,bS= [(0, .slice A l.length c),(1, .func (.func dJ) #[] cs.toArray),(7,J (l.length:Int)),(8,J (k:Int))]∧bZ=l.length - k∧Ext w aL∧(k≤l.length)∧(∀ i,i<k→p (l.getD i default)=false)) _ _ ⟨0,Z,Z,(Ext.bg w),by omega,λ i ar=>by omega⟩ (.cons Z (.cons Z (.cons Z (.cons (bH Z) .nil)))) ?_;rintro DL G5 cK ⟨k,rfl,rfl,ba,au,aM⟩;refine ah<|Φ (blt Z Z)<|ag<|ay<| ?_;refine df Z (λ lg=> ?_) (λ lg=> ?_)
 ·refine bl<|ay<|bu<|ah<|vm Z<|va Z<|ag<|ah<|vm Z<|vm Z<|vm Z<|Φ (bT k underlying34 iB Z Z ((aC.keep ba).bs (aO k)) Z (by omega))<|Φ (ao Z (aa.aG.er mQ ((aC.keep ba).cg (aO k)) (cA (l:=l) (u:=default) (by omega)) vu iB))<|C2 jV Z Z Z ((fr (l.getD k default) (gP (by omega)) _ ba).mono ?_);rintro e GB ⟨rfl,Ce⟩;refine ⟨_,Z, ?_⟩;have lv:=ab ba Ce;refine ag<| ?_;refine dn Z (λ kt=> ?_) (λ kt=> ?_)
  ·refine ah<|vm Z<|va Z<|ag<|rt<|dV<|bP<|kB<|dV<|bP<|aV (.tmp Z .nil)<| ?_;exact ⟨by have e:=Ml (p:=p) (l:=l) (d:=default) (k:=k) (by omega) kt aM;rw [e];rfl,lv⟩
  ·refine ei<|bU<|aP<|rg<|Φ (bad Z Z (bf (by omega)))<|vm Z<|nl<| ?_;exact cD _ _ ⟨k+1,Z,Z,lv,by omega,o4 aM kt⟩ (by omega) (.cons Z (.cons Z (.cons Z (.cons (bH Z) .nil))))
 ·refine cV<|cU<|c'<|cT<|aP<|ah<|va Z<|ag<|rt<|aV (.tmp Z .nil)<| ?_;exact ⟨by have e:=Mk (p:=p) (l:=l) (d:=default) (λ i ar=>aM i (by omega));rw [e];rfl,ba⟩
theorem axq (dJ:FuncId) (cs:List Value) (p:bD→Bool) (A:Option Addr) (c:Nat) (l:List bD) (w:World) (aC:bD.rep.aG 40 w A c l) (jV:Enters prog dJ) (fr:∀ x∈l,∀ w',Ext w w'→Calls prog dJ (([.agg #[.slice x.a x.n x.c,J x.late, .bool x.gone]]:List Value)++cs).toArray w' λ e jM=>e= .returned (.bool (p x))∧Ext w' jM):
  Calls prog 126 #[.slice A l.length c, .func (.func dJ) #[] cs.toArray] w (λ e w'=>e= .returned (.bool (l.any p))∧Ext w w'):=by
 refine b' (n:=9) func126 Z Z Z ?_;refine ah<|va Z<|ag<|ah<|vm Z<|vm Z<|ca auf Z Z ((az1 dJ cs p _ _ l _ (aC.keep (Ext.bg w)) jV (λ x hx w' h=>fr x hx w' (ab (Ext.bg w) h))).mono ?_);rintro e cK ⟨rfl,fw⟩;refine ⟨_,Z, ?_⟩;have ba:=ab (Ext.bg w) fw;refine Φ (j_ Z Z)<|va Z<|ag<|rt<|aV (.tmp Z .nil)<| ?_;exact ⟨by rw [Mi];rfl,ba⟩
theorem aFE (o:aN) (p:Int) (b:Nat) (w:World) (aZ:aR w b [J p] 3 (0,0)):
  Calls prog 161 #[.agg #[J o.by_,J o.kind,J o.aW,J o.spot.x,J o.spot.y,J o.what], .pointer (some ⟨b,0,none⟩)] w (λ e w'=>e= .returned (.bool (o.by_ != p || o.bn != 0))∧Ext w w'):=by
 refine b' (n:=13) func161 Z Z Z ?_;refine ah<|ck Z Z Z Z λ cK bR bq dU ai=> ?_;have ba:=ab (Ext.bg w) bq;refine va Z<|ag<|ah<|Φ (av rB Z)<|Φ (ao Z (ai.one a6 Z))<| ?_;have aZ:=aZ.later bq;refine Φ (ao Z (aZ.one a6 Z))<|Φ (bne Z Z)<|vm Z<|bh Z (λ hc=>ao Z (ai.all jc fl))<|nM Z VN (λ hc=>ez (gt hc Z) Z) (λ hc=>Za o _) λ ea cZ=> ?_;have bE:=ab ba cZ;refine bh Z (λ hc=>bne (gt hc Z) Z)<|Φ (fC Z Z Z Z)<|va Z<|ag<|rt<|aV (.tmp Z .nil)<| ?_;exact ⟨Z,bE⟩
theorem aFF (A:Option Addr) (c:Nat) (s:cj) (p:Int) (w:World) (aC:aN.rep.aG 48 w A c s.waits):
  Calls prog 128 #[.agg #[.slice A s.waits.length c,J s.late, .bool s.gone],J p] w (λ e w'=>e= .returned (.bool (s.qY p))∧Ext w w'):=by
 refine b' (n:=33) func128 Z Z Z ?_;refine ah<|ck Z Z Z Z λ cK bR bq dU ai=> ?_;have ba:=ab (Ext.bg w) bq;refine ck Z Z Z Z λ ea cC br gO ax=> ?_;have bE:=ab ba br;refine va Z<|ag<|ay<|ah<|Φ (av C' Z)<| ?_;have ai:=ai.later br;refine Φ (ao Z (ai.one a6 Z))<|Φ (blt Z Z)<|vm Z<|bh Z (λ hc=>av C' Z)<|bh Z (λ hc=>ao (gt hc Z) (ai.one a6 Z))<|bh Z (λ hc=>hM (gt hc Z) Z)<|Φ (fC Z Z Z Z)<|vm Z<|bh Z (λ hc=>av Fb Z)<|bh Z (λ hc=>ao (gt hc Z) (ai.one Da Z))<|ams Z (λ hc=>(gt hc Z))<|sg Z Z Z Z (λ hc=>av C' Z) Z<|sg Z Z Z Z (λ hc=>ao (gt hc Z) (ai.one a6 Z)) Z<|sg Z Z Z Z (λ hc=>bne (gt hc Z) Z) Z<|sg Z Z Z Z (λ hc=>hy (gt hc Z)) Z<|sg Z Z Z Z (λ hc=>av pL Z) Z<|sg Z Z Z Z (λ hc=>ao (gt hc Z) (ai.one mM Z)) Z<|sg Z Z Z Z (λ hc=>cl underlying48 (gt hc Z)) Z<|sg Z Z Z Z (λ hc=>hM (gt hc Z) Z) Z<|sg Z Z Z Z (λ hc=>aC0 hc (gt hc Z) Z Z) Z<|bh Z (λ hc=>akx hc (gt hc Z) Z Z)<|Φ (fC Z Z Z Z)<|ag<| ?_;refine dn Z (λ iT=> ?_) (λ iT=> ?_)
 ·refine ah<|va Z<|ag<|rt<|bP<|aV (.tmp Z .nil)<| ?_;exact ⟨by unfold cj.qY;rw [iT];rfl,bE⟩
 ·refine bl<|ah<|Φ (av pL Z)<|Φ (ao Z (ai.one mM Z))<|Φ (M1 Z Z)<|ca auh Z Z ((axp 161 [.pointer (some ⟨cC,0,none⟩)] (λ o=>o.by_ != p || o.bn != 0) _ _ s.waits _ (aC.keep bE) aug (λ x hx w' h=>aFE x p cC w' (ax.later h))).mono ?_);rintro e wk ⟨rfl,cI⟩;refine ⟨_,Z, ?_⟩;have km:=ab bE cI;refine Φ (ek Z)<|va Z<|ag<|rt<|aV (.tmp Z .nil)<| ?_;exact ⟨by unfold cj.qY;rw [iT];rfl,km⟩
theorem aE2 (t:bD) (w:World):
  Calls prog 127 #[.agg #[.slice t.a t.n t.c,J t.late, .bool t.gone]] w (λ e w'=>e= .returned (.bool (decide (50<(t.n:Int))))∧Ext w w'):=by
 refine b' (n:=7) func127 Z Z Z ?_;refine ah<|ck Z Z Z Z λ cK bR bq dU ai=> ?_;have ba:=ab (Ext.bg w) bq;refine va Z<|ag<|ah<|Φ (av pL Z)<|Φ (ao Z (ai.one mM Z))<|Φ (cl underlying48 Z)<|Φ (hM Z Z)<|va Z<|ag<|rt<|aV (.tmp Z .nil)<| ?_;exact ⟨Z,ba⟩
theorem St (A:Option Addr) (c:Nat) (T:List bD) (S:List cj) (w:World) (cr:bD.rep.aG 40 w A c T) (hS:mI w T S):
  Calls prog 92 #[.slice A T.length c] w (λ e w'=>∃ e':Int,e= .returned (J e')∧(e'=0↔u_ S)∧Ext w w'):=by
 have Ir:=cr.eZ;refine b' (n:=27) func92 Z Z Z ?_;refine ah<|va Z<|ag<|ay<|ah<|vm Z<|Φ (cl underlying34 Z)<|Φ (blt Z Z)<|vm Z<|eN Z Z<|bh Z (λ hc=>cl underlying34 (gt hc Z))<|bh Z (λ hc=>hM (gt hc Z) Z)<|Φ (fC Z Z Z Z)<|ag<| ?_;refine dn Z (λ gA=> ?_) (λ gA=> ?_)
 ·simp only [ch] at gA;refine ah<|va Z<|ag<|rt<|bP<|aV (.tmp Z .nil)<| ?_;exact ⟨1,Z,⟨λ bc=>absurd bc (by decide),λ bc=>absurd bc (by rintro ⟨τ,ae,_⟩;have:=hS.len;omega)⟩,(Ext.bg w)⟩
 ·simp only [ch] at gA;refine bl<|ay<|ah<|vm Z<|ca auk Z Z ((axq 127 [] (λ t=>decide (50<(t.n:Int))) _ _ T _ (cr.keep (Ext.bg w)) auj (λ x hx w' h=>aE2 x w')).mono ?_);rintro e iH ⟨rfl,bq⟩;refine ⟨_,Z, ?_⟩;have b9:=ab (Ext.bg w) bq;refine ag<| ?_;refine dn Z (λ lg=> ?_) (λ lg=> ?_)
  ·refine ah<|va Z<|ag<|rt<|bP<|aV (.tmp Z .nil)<| ?_;exact ⟨2,Z,⟨λ bc=>absurd bc (by decide),λ bc=>absurd bc (λ bc=>aE7 hS lg bc)⟩,b9⟩
  ·have azt:=aE9 hS lg;refine bl<|ay<|ah<|vm Z<|Φ (cl underlying34 Z)<|vm Z<|ag<|bu<| ?_;refine dx (λ bZ bS aL=>∃ k:Nat,bS= [(15, .slice A T.length c),(16,J (T.length:Int)),(17,J (k:Int))]∧bZ=T.length - k∧Ext w aL∧(k≤T.length)∧(∀ (i:Nat) (s:cj),i<k→S[i]? =some s→s.qY i=true)) _ _ ⟨0,Z,Z,b9,by omega,λ i s ar=>by omega⟩ (.cons Z (.cons Z (.cons (bH Z) .nil))) ?_;rintro ajT aJ7 GB ⟨k,rfl,rfl,lv,au,aM⟩;have:=lv.size;refine ah<|Φ (blt Z Z)<|ag<|ay<| ?_;refine df Z (λ eL=> ?_) (λ eL=> ?_)
   ·obtain ⟨eF,dC,bk,gw,jG,hx⟩:=hS.at_ (k:=k) (by omega);refine bl<|ay<|bu<|ah<|vm Z<|Φ (bT k underlying34 iB Z Z ((cr.keep lv).bs (aO k)) Z (by omega))<|Φ (ao Z (aa.aG.er mQ ((cr.keep lv).cg (aO k)) gw vu iB))<|al Z HM Z Z λ td wW eo IH g_=> ?_;have jA:=ab lv eo;refine va Z<|st (new:= [.slice ((⟨eF,bk.waits.length,dC,bk.late,bk.gone⟩:bD).a) ((⟨eF,bk.waits.length,dC,bk.late,bk.gone⟩:bD).n) ((⟨eF,bk.waits.length,dC,bk.late,bk.gone⟩:bD).c),J ((⟨eF,bk.waits.length,dC,bk.late,bk.gone⟩:bD).late), .bool ((⟨eF,bk.waits.length,dC,bk.late,bk.gone⟩:bD).gone)]) Z Z g_ Z iB Z Z Z λ ow o6 g_=> ?_;have fD:=Ext.mod jA o6 bC;refine ag<|ah<|Φ (ao Z (g_.all vu iB))<|vm Z<|ca aul Z Z ((aFF eF dC bk (k:Int) _ (hx.keep fD)).mono ?_);rintro e nN ⟨rfl,fo⟩;refine ⟨_,Z, ?_⟩;have fp:=ab fD fo;refine Φ (ek Z)<|ag<| ?_;refine dn Z (λ oV=> ?_) (λ oV=> ?_)
    ·refine ah<|va Z<|ag<|rt<|dV<|bP<|kB<|dV<|bP<|aV (.tmp Z .nil)<| ?_;exact ⟨4,Z,⟨λ bc=>absurd bc (by decide),λ bc=>absurd bc (λ bc=>by have vB:=(bc.2.2 k bk jG).2;rw [vB] at oV;cases oV)⟩,fp⟩
    ·have azo:bk.qY k=true:=by simpa using oV
     refine ei<|bU<|aP<|rg<|Φ (bad Z Z (bf (by omega)))<|vm Z<|nl<| ?_;exact cD _ _ ⟨k+1,Z,Z,fp,by omega,λ i s ar hs=>aFa aM jG azo ar hs⟩ (by omega) (.cons Z (.cons Z (.cons (bH Z) .nil)))
   ·refine cV<|cU<|c'<|cT<|aP<|ah<|va Z<|ag<|rt<|aV (.tmp Z .nil)<| ?_;exact ⟨0,Z,⟨λ _=>⟨by have:=hS.len;have Xu:=gA;omega,by have:=hS.len;have Xu:=gA;omega,λ i s hs=>⟨azt i s hs,aM i s (by have:=(aTC.1 hs).1;have:=hS.len;omega) hs⟩⟩,λ _=>Z⟩,lv⟩
end
section
theorem Wj {w:World}:∀ {ess:List (List Value)} {l:List Int},dm (λ es a=>bW.has w es a) ess l→ess.flatten=l.map (Value.int .i64)
 | [], [],_=>rfl
 | es::ess,a::l,h=>by
  obtain ⟨τ,ae⟩:=h;rw [aUw,gI τ,Wj ae];rfl
 | [],_::_,h=>h.elim
 | _::_, [],h=>h.elim
theorem UY {w:World}:∀ {l:List Int},(∀ a∈l,e_ a)→dm (λ es a=>bW.has w es a) (l.map λ a=> [Value.int .i64 a]) l
 | [],_=>trivial
 | a::l,h=>⟨⟨rfl,h a aT1⟩,UY λ b γ=>h b (aTS _ γ)⟩
end
end Go.Proofs.YtmeeljmapailnaaGreat
namespace Go.Proofs.YtmeeljmapailnaaGreat.kI
open Tryz
open Go.Proofs.YtmeeljmapailnaaGreat.ey
def step (n:BitVec 32):BitVec 32:=n >>> 1 ^^^ (3988292384#32 &&& -(n &&& 1#32))
def steps:Nat→BitVec 32→BitVec 32
 | 0,n=>n
 | k+1,n=>steps k (step n)
def take (n:BitVec 32) (b:UInt8):BitVec 32:=steps 8 (n ^^^ b.toBitVec.setWidth 32)
def fold (n:BitVec 32) (l:List UInt8):BitVec 32:=l.foldl take n
def more (n:BitVec 32) (l:List UInt8):BitVec 32:= ~~~(fold (~~~n) l)
def of (l:List UInt8):BitVec 32:=more 0#32 l

theorem avW (n:BitVec 32) (l m:List UInt8):fold n (l++m)=fold (fold n l) m:=by
 unfold fold;rw [aUR]
theorem avX (n:BitVec 32) (l:List UInt8) (b:UInt8):fold n (l++ [b])=take (fold n l) b:=by
 rw [avW];rfl

theorem aae (m:BitVec 32):bits BinOp.xor IntKind.u32 (U m / 2) (bits BinOp.and IntKind.u32 3988292384 (-bits BinOp.and IntKind.u32 (U m) 1 % 4294967296))=U (step m):=by
 refine Qj (Pz _ _ _) (Py _ _ _) ?_;have τ:=akm (n:=32) (U m) 1 (UT m) (by have:=aqt m;omega);rw [Ze,aki,aCD,aCG,aki,vX];rw [show (U m / 2:Int)=U m / 2 ^ 1 by rfl,τ,vX];rfl
theorem aAb (x y:Int) (aK:0≤y) (τ:y<256):bits BinOp.xor IntKind.u32 x y=U (BitVec.ofInt 32 x ^^^ (BitVec.ofInt 8 y).setWidth 32):=by
 refine Qj (Pz _ _ _) (Py _ _ _) ?_;rw [Ze];obtain ⟨m,rfl⟩:=aVE aK;congr 1;rw [aUE,aUE];apply aYs;simp only [aVn,BitVec.toNat_setWidth];omega
end Go.Proofs.YtmeeljmapailnaaGreat.kI
namespace Go.Proofs.YtmeeljmapailnaaGreat
open Tryz
end Go.Proofs.YtmeeljmapailnaaGreat
namespace Go.Proofs.YtmeeljmapailnaaGreat.kI
open Tryz
open Go.RowKit Go.Proofs.YtmeeljmapailnaaGreat.ey

theorem ak9 {a b:Int} (h:a=b):Ending.returned (.int .u32 a)= .returned (.int .u32 b):=by rw [h]

theorem aF5 (m:BitVec 32) (x y:Int) (aK:0≤x) (τ:x≤4294967295) (ae:0≤y) (aw:y≤255) (hm:m=BitVec.ofInt 32 x ^^^ (BitVec.ofInt 8 y).setWidth 32) (w:World):
  Calls prog 188 #[.int .u32 x, .int .u8 y] w fun e w'=>e= .returned (.int .u32 (U (steps 8 m)))∧w=w':=by
 have l5:=aTG (aAb x y ae (by omega));rw [← hm] at l5;clear hm;go_enter func188,ntmps188;go_wp2
 go_loop [0,9] (fun x i=>∃ (k:Nat) (q:BitVec 32),k≤8∧i= .int .i64 k∧x= .int .u32 (U q)∧Hid (steps (8 - k) q=steps 8 m)) (fun _ i=>8 - (intOf i).toNat)
 case atStart=>exact ⟨0,m,by omega,rfl,by rw [l5.out],rfl⟩
 case round =>
  obtain ⟨k,q,au,rfl,rfl,I⟩:=hrel;by_cases bA:k<8
  ·go_wp2
   go_round
   case rel =>
    refine ⟨k+1,step q,by omega,by go_num,by rw [aae], ?_⟩;have h:=I.out;rw [show 8 - k=(8 - (k+1))+1 by omega] at h;exact h
   case measure=>simp [intOf];omega
  ·have agO:k=8:=by omega
   have h:=I.out;rw [agO] at h;clear I agO;have cB:=aTG h;clear h;go_wp2
   go_ret;exact ⟨ak9 (by rw [← cB.out];rfl),Z⟩
theorem aF4 (n:BitVec 32) (b:UInt8) (x y:Int) (hx:x=U n) (aF:y=(b.toNat:Int)) (w:World):
  Calls prog 188 #[.int .u32 x, .int .u8 y] w fun e w'=>e= .returned (.int .u32 (U (take n b)))∧w=w':=by
 subst hx aF;have γ:=b.toNat_lt;refine aF5 _ _ _ (UT _) (aqs _) (by omega) (by omega) ?_ w;rw [vX];congr 2;rw [aUE];exact (aWc 8 b.toBitVec).trans (aWb _) |>.symm

theorem aj9 (x:Int):bits BinOp.xor IntKind.u32 IntKind.u32.max x=U (~~~(BitVec.ofInt 32 x)):=by
 refine Qj (Pz _ _ _) (Py _ _ _) ?_;rw [Ze];exact BitVec.allOnes_xor

theorem aF9 (s:ByteArray) (k:Nat) (h:k<s.size):s.data.toList.take (k+1)=s.data.toList.take k++ [s[k]]:=by
 rw [aT5 (by simpa using h)];rfl
theorem Y8 (x:Int) (s:ByteArray) (aK:0≤x) (τ:x≤4294967295) (hs:s.size≤9223372036854775807) (w:World):
  Calls prog 178 #[.int .u32 x, .string s] w fun e w'=>e= .returned (.int .u32 (U (more (BitVec.ofInt 32 x) s.data.toList)))∧w=w':=by
 obtain ⟨n,k8⟩:∃ n,Hid (n=BitVec.ofInt 32 x):=⟨_,rfl⟩;have eJ:=aTG (aj9 x);rw [← k8.out] at eJ;rw [← k8.out];clear aK τ;go_enter func178,ntmps178;go_wp2
 go_loop [0,10] (fun x i=>∃ k:Nat,k≤s.size∧i= .int .i64 k∧x= .int .u32 (U (fold (~~~n) (s.data.toList.take k)))) (fun _ i=>s.size - (intOf i).toNat)
 case atStart=>exact ⟨0,aUv _,rfl,by rw [eJ.out];rfl⟩
 case round =>
  obtain ⟨k,au,rfl,rfl⟩:=hrel;by_cases bA:k<s.size
  ·go_wp2_with (go_at_call 188;refine (aF4 _ s[k] _ _ rfl rfl _).mono ?_;rintro e w' ⟨rfl,rfl⟩)
   go_round
   case rel =>
    refine ⟨k+1,by omega,by go_num, ?_⟩;rw [aF9 s k bA,avX]
   case measure=>simp [intOf];omega
  ·go_wp2
   go_ret;have LO:k=s.size:=by omega
   exact ⟨ak9 (by rw [aj9,vX,LO,aT0 (by simp)];rfl),Z⟩
theorem Zc (s:ByteArray) (hs:s.size≤9223372036854775807) (w:World):
  Calls prog 152 #[.string s] w fun e w'=>e= .returned (.int .u32 (U (of s.data.toList)))∧w=w':=by
 go_enter func152,ntmps152;go_wp2_with (go_at_call 178;refine (Y8 _ s (by decide) (by decide) hs _).mono ?_;rintro e w' ⟨rfl,rfl⟩)
 go_ret;exact ⟨Z,Z⟩

end Go.Proofs.YtmeeljmapailnaaGreat.kI
namespace Go.Proofs.YtmeeljmapailnaaGreat
open Tryz
end Go.Proofs.YtmeeljmapailnaaGreat
namespace Go.Proofs.YtmeeljmapailnaaGreat.kI
open Tryz
open Go.RowKit Go.Proofs.YtmeeljmapailnaaGreat.ey
def Bz (n:BitVec 32):List UInt8:= [UInt8.ofNat n.toNat,UInt8.ofNat (n.toNat / 256),UInt8.ofNat (n.toNat / 65536),UInt8.ofNat (n.toNat / 16777216)]
def we (s:ByteArray):ByteArray:=s++⟨(Bz (of s.data.toList)).toArray⟩
theorem alo (s:ByteArray):(we s).data.toList=s.data.toList++Bz (of s.data.toList):=by
 unfold we;rw [ByteArray.data_append,aXd]
theorem Sv (s:ByteArray):(we s).size=s.size+4:=by
 have h:=aUF List.length (alo s);rw [aTE] at h;simp only [aVB] at h;exact h

theorem asw (n:BitVec 32) (u:World):(convert 263 9 (.slice (some ⟨u.heap.size,0,none⟩) 4 4)).run prog (u.alloc (.cells #[.int .u8 (U n % 256), .int .u8 (U n / 256 % 256), .int .u8 (U n / 65536 % 256), .int .u8 (U n / 16777216 % 256)] 5))=
  .ok (.string ⟨(Bz n).toArray⟩) (u.alloc (.cells #[.int .u8 (U n % 256), .int .u8 (U n / 256 % 256), .int .u8 (U n / 65536 % 256), .int .u8 (U n / 16777216 % 256)] 5)):=by
 refine aYB (P:=prog) _ 263 9 5 ⟨u.heap.size,0,none⟩ 4 (Bz n) underlying263 underlying5 underlying9 ?_;intro j aA;rw [acy];have ayi:j<4:=aA;have QO:U n=(n.toNat:Int):=rfl;rw [QO]
 match j,ayi with
 | 0,_=>simp [Bz,aVU]
 | 1,_=>simp [Bz,aVU]
 | 2,_=>simp [Bz,aVU]
 | 3,_=>simp [Bz,aVU]

theorem Z0 (s:ByteArray) (hs:s.size≤9223372036854775800) (w:World):
  Calls prog 119 #[.string s] w fun e w'=>e= .returned (.string (we s))∧Below w.heap.size w w':=by
 have hcv:=asw (of s.data.toList);have aC:(Bz (of s.data.toList)).length≤4:=aTK _;go_enter func119,ntmps119;go_wp2_with (go_at_call 152;refine (Zc _ (by omega) _).mono ?_;rintro e w' ⟨rfl,rfl⟩)
 go_ret;exact ⟨Z,(aUb _ _).alloc (aTK _) _⟩
def lW (s:ByteArray):ByteArray×Int :=
 if s.size<4 then (⟨#[]⟩,3) else if we (s.extract 0 (s.size - 4))=s then (s.extract 0 (s.size - 4),0) else (⟨#[]⟩,5)

theorem ZJ {a b:ByteArray×Int} (h:b=a):Ending.returned (.tuple #[.string a.1, .int .i64 a.2])= .returned (.tuple #[.string b.1, .int .i64 b.2]):=by rw [h]

theorem aCJ (s:ByteArray) (hs:s.size≤9223372036854775800) (w:World):
  Calls prog 83 #[.string s] w fun e w'=>e= .returned (.tuple #[.string (lW s).1, .int .i64 (lW s).2])∧Below w.heap.size w w':=by
 by_cases aU:s.size<4
 ·have cB:=aTG (show lW s=(⟨#[]⟩,3) by unfold lW;rw [aTO aU]);go_enter func83,ntmps83;go_wp2_with fail
  go_ret2
  exact ⟨ZJ cB.out,aUb _ _⟩
 ·have hm:((s.size:Int) - 4)=((s.size - 4:Nat):Int):=by omega
  have bG:(s.extract 0 (s.size - 4)).size≤9223372036854775800:=by rw [ByteArray.size_extract];omega
  obtain ⟨m,k8⟩:∃ m,Hid (m=s.size - 4):=⟨_,rfl⟩;rw [← k8.out] at hm bG;have ayK:m+4≤s.size:=by have:=k8.out;omega
  have aNA:s.size≤m+4:=by have:=k8.out;omega
  by_cases bz:we (s.extract 0 m)=s
  ·have cB:=aTG (show lW s=(s.extract 0 m,0) by unfold lW;rw [← k8.out,aTL aU,aTO bz]);have awA:=ac2 bz;have uR:=aTG bz;clear bz;go_enter func83,ntmps83;go_wp2_with (go_at_call 119;refine (Z0 _ bG _).mono ?_;rintro e aS ⟨rfl,γ⟩)
   go_ret2
   exact ⟨ZJ cB.out,by assumption⟩
  ·have cB:=aTG (show lW s=(⟨#[]⟩,5) by unfold lW;rw [← k8.out,aTL aU,aTL bz]);have awA:=ac1 bz;clear bz;go_enter func83,ntmps83;go_wp2_with (go_at_call 119;refine (Z0 _ bG _).mono ?_;rintro e aS ⟨rfl,γ⟩)
   go_ret2
   exact ⟨ZJ cB.out,by assumption⟩

theorem aCK (s:ByteArray):lW (we s)=(s,0):=by
 have τ:(we s).extract 0 ((we s).size - 4)=s:=by
  apply Vh;rw [aWT,alo,Sv,aWh];have e:s.size+4 - 4 - 0=s.data.toList.length:=by simp
  rw [e,aVC]
 have ae:=Sv s;unfold lW;rw [aTL (by omega),τ,aTO rfl]
theorem akt (s:ByteArray):(lW s).2=0∧we (lW s).1=s∨((lW s).2=3∨(lW s).2=5)∧(lW s).1=⟨#[]⟩:=by
 unfold lW;split
 ·exact .inr ⟨.inl Z,Z⟩
 ·split
  ·rename_i h;exact .inl ⟨Z,h⟩
  ·exact .inr ⟨.inr Z,Z⟩
end Go.Proofs.YtmeeljmapailnaaGreat.kI
namespace Go.Proofs.YtmeeljmapailnaaGreat
open Tryz
section
theorem asp (A:Option Addr) (len c n:Nat) (w:World) (hn:1≤n):
  Calls prog 85 #[.slice A len c,J (n:Int)] w (λ e w'=>∃ dH gy,e= .returned (.func (.func 122) #[] #[.pointer (some ⟨dH,0,none⟩), .pointer (some ⟨gy,0,none⟩)])∧aR w' dH [.slice A len c] 22 (0,0)∧aR w' gy [J (n:Int)] 3 (0,0)∧w.heap.size≤dH∧dH<gy∧Ext w w'):=by
 refine b' (n:=9) func85 Z Z Z ?_;refine ah<|ck Z Z Z Z λ cK bR bq dU ai=> ?_;have ba:=ab (Ext.bg w) bq;have ib:=ai.lt;refine ck Z Z Z Z λ ea cC br gO ax=> ?_;have bE:=ab ba br;refine va Z<|ag<|ay<|ah<|Φ (ao Z (ax.one a6 Z))<|Φ (blt Z Z)<|ag<| ?_;have iT:(decide ((n:Int)<1))=false:=by rw [aUj];omega
 refine hj (by rw [← iT];rfl)<|bl<|ah<|Φ (M1 Z Z)<|va Z<|ag<|rt<|aV (.tmp Z .nil)<| ?_;have ai:=ai.later br;exact ⟨bR,cC,Z,ai,ax,by omega,by omega,bE⟩
theorem asr (q n len c dH gy:Nat) (A:Option Addr) (w0:World) (hn:1≤n) (hlen:len=q * n) (ayt:len≤c) (rO:c≤9223372036854775807) (m:Nat) (abj:aR w0 dH [.slice A len c] 22 (0,0)) (abk:aR w0 gy [J (n:Int)] 3 (0,0)):
  SeqStopsK (kc none) m prog 122 #[.pointer (some ⟨dH,0,none⟩), .pointer (some ⟨gy,0,none⟩)] (λ k:Fin q=>#[.slice (eB A (k.1 * n+n) (k.1 * n) 1) n n]) (AN dH gy) (λ xs=>xs=List.finRange q) (λ _=>True) q w0:=by
 intro l j8 aKj W γ xt aM3 awT ayg;have yP:=abj.RA (γ.block dH abj.lt);have Ar:=abk.RA (γ.block gy abk.lt);have sR:EI W.heap.size j8 [] W:=⟨xt,ayg⟩;refine Rd.ar4 (n:=31) func122 Z Z Z ?_;refine Rd.ay<|Rd.rg<|va Z<|nl<|Rd.aP<|Rd.bu<| ?_;refine Rd.dx (λ bZ bS aL=>∃ k:Nat,bS= [(0, .func (.yield l) #[] #[]),(1, .pointer (some ⟨dH,0,none⟩)),(2, .pointer (some ⟨gy,0,none⟩)),(4,J (((k * n:Nat):Int)))]∧bZ=q - k∧True∧aR aL dH [.slice A len c] 22 (0,0)∧aR aL gy [J (n:Int)] 3 (0,0)∧EI W.heap.size j8 ((List.finRange q).take k) aL∧(k≤q)) _ _ ⟨0,Z,Z,trivial,yP,Ar,(sR:EI W.heap.size j8 [] _),by omega⟩ (.cons Z (.cons Z (.cons Z (.cons (bH Z) .nil)))) ?_;rintro DL G5 cK ⟨k,rfl,rfl,ba,yP,Ar,sR,au⟩;refine Rd.ay<|Rd.ay<|Rd.rg<|vm Z<|Φ (ao Z (yP.one fV Z))<|Φ (cl underlying22 Z)<|Φ (blt Z Z)<|nl<|Rd.aP<| ?_;refine Rd.df Z (λ jr=> ?_) (λ jr=> ?_)
 ·have zD:k<q:=Nat.lt_of_mul_lt_mul_right (a:=n) (by omega);have XW:k * n+n≤q * n:=by rw [← aVj];exact aUk _ zD
  refine Rd.ei<|Rd.aP<|Rd.ay<|Rd.bu<|Rd.ay<| ?_;refine Rd.rd [(0,0),(1,0)] [0,1,2,3,4,5,6] (by kernel_rfl) (by kernel_rfl) ?_;refine bx Z (λ _ x=>ao Z ((Ar.later x).one a6 Z))<|bx Z (λ _ x=>ao Z ((yP.later x).one fV Z))<|a1 Z Z<|aB Z (λ _=>aEO (k * n) underlying22 dI Z Z Z (by omega))<|aB Z (λ _=>cl underlying22 Z)<|aB Z (λ _=>mY Z Z)<|aB Z (λ _=>fG Z)<|fn λ wq mq=> ?_;refine Rd.aP<|Rd.ay<|oL.rg<|oL.iV (hy Z) Z<| ?_;have yP:=yP.later mq;refine oL.iV (ao Z (yP.one fV Z)) Z<|oL.iV (hy Z) Z<|oL.iV (hy Z) Z<|oL.iV (hy Z) Z<|oL.iV (bad Z Z (bf (by omega))) Z<|oL.iV (hy Z) Z<|oL.iV (hy Z) Z<|oL.iV (bad Z Z (bf (by omega))) Z<|oL.iV (aEN (k * n) (k * n+n) n underlying22 dI Z Z Z Z Z (by omega) (by omega) (by omega) (by omega) (by omega)) Z<| ?_;have Ar:=Ar.later mq;have sR:=sR.later mq;refine oL.aH7 Z Z Z (aH8 (awT _ (⟨k,zD⟩:Fin q) _ sR.at_ (by rw [aTD,aYv];omega)) ?_);rintro e am9 lh;obtain ⟨tT,rfl,τ,ae⟩:=aH9 lh;refine ⟨_,Z, ?_⟩
  replace τ:tT=true→EI W.heap.size j8 ((List.finRange q).take k++ [⟨k,zD⟩]) am9∧AN dH gy _ am9:=λ h=>⟨⟨sR.UW,(τ h).1⟩,(τ h).2⟩
  refine oL.iV (ek Z) Z<|oL.nl<|Rd.aP<| ?_;refine Rd.dn Z (λ eL=> ?_) (λ eL=> ?_)
  ·refine Rd.rt<|dV<|Rd.bP<|kB<|dV<|aV .nil<| ?_;exact ⟨⟨_,Z⟩, .inr ⟨_,trivial,ae (by simpa using eL)⟩⟩
  ·obtain ⟨awH,ff⟩:=τ (by simpa using eL);have yP:=yP.RA ff.1;have Ar:=Ar.RA ff.2;refine Rd.ei<|Rd.bU<|Rd.aP<|Rd.rg<|vm Z<|Φ (ao Z (Ar.one a6 Z))<|Φ (bad Z Z (bf (by omega)))<|va Z<|nl<| ?_;exact Rd.cD _ _ ⟨k+1,Z,Z,trivial,yP,Ar,(by rw [← avH zD];exact awH),by omega⟩ (by omega) (.cons Z (.cons Z (.cons Z (.cons (FR Z (by rw [aVj];omega)) .nil))))
 ·have zD:k=q:=Nat.le_antisymm au (Nat.le_of_mul_le_mul_right (c:=n) (by omega) hn);refine Rd.cV<|Rd.cU<|c'<|Rd.cT<|Rd.ne<|aV .nil<| ?_;exact ⟨⟨_,Z⟩, .inl ⟨_,Z,by have:=sR.at_;rwa [zD,aT0 (by rw [aYv];omega)] at this⟩⟩
end
section
def aR3:aa UInt8:=aa.flat 1 (λ b=> [.int .u8 (b.toNat:Int)]) (λ _=>True) (λ _ u=>∃ n:Int,u= .int .u8 n) (λ _=>rfl) (by intro a u hu;simp at hu;subst hu;rfl) (by
 intro a j u hu;cases j with
 | zero=>simp at hu;exact ⟨_,hu.symm⟩
 | succ j=>simp at hu)
def Hu (l:List UInt8):ByteArray:=⟨l.toArray⟩
section
variable {P:Program} {n:Nat} {E cO:List (Nat×Value)} {w:World} {d:Option Nat} {ty:TypeId} {pos:String} {af:Array Edge} {g:Option (Nat×Bool)} {x y z u:Operand} {t t2:TypeId}
theorem alX (p q:ByteArray):(p == q)=decide (p=q):=by
 rw [aVO,aUa];constructor
 ·intro h;obtain ⟨a⟩:=p;obtain ⟨b⟩:=q;have:a=b:=by simpa using (show (a == b)=true from h)
  rw [this]
 ·rintro rfl;obtain ⟨a⟩:=p;show (a == a)=true;simp
theorem aq9 {p q:ByteArray} (aJ:P.underlying t=some .string) (hx:ev E x=some (.string p)) (aF:ev E y=some (.string q)):cQ P E ⟨d, .binOp .neq t x y t2,ty,pos,af,g⟩ w (.bool (!decide (p=q))) w:=λ n a ha=>by
 have:(eqGuard .neq t x y (.string p) (.string q)).run P w= .ok () w:=by cases x<;>cases y<;>rfl
 have ae:(binOp .neq t (.string p) (.string q)).run P w= .ok (.bool (!decide (p=q))) w:=by
  simp only [binOp,Op.stringOp,aTV];simp [bne,alX];rw [← beq_toListBytes,alX]
 simp only [execOp,ha.ev hx,ha.ev aF,aTQ,this,ae,aTJ,aTV]
end
end
section
def aFl (p:Int):UInt8:=([46,35,116,111]:List UInt8).getD p.toNat 0
def aEz (f:aI) (k j:Nat):List UInt8:=(((f.a8.drop (k * f.wide.toNat)).take (k * f.wide.toNat+f.wide.toNat - k * f.wide.toNat)).take j).map aFl
def txt (f:aI) (pre:List (Fin f.high.toNat)):List UInt8:=pre.flatMap λ k=>aEz f k.1 f.wide.toNat++ [10]
theorem asq (A:Option Addr) (len c:Nat) (i:Int) (w:World) (ar:1≤i):Calls prog 85 #[.slice A len c, .int .i64 i] w (λ e w'=>∃ dH gy,e= .returned (.func (.func 122) #[] #[.pointer (some ⟨dH,0,none⟩), .pointer (some ⟨gy,0,none⟩)])∧aR w' dH [.slice A len c] 22 (0,0)∧aR w' gy [.int .i64 (i.toNat:Int)] 3 (0,0)∧w.heap.size≤dH∧dH<gy∧Ext w w'):=by
 have e:i=(i.toNat:Int):=by omega
 have:=asp A len c i.toNat w (by omega);rw [← e] at this;rw [← e];exact this
def aMy (f:aI):ByteArray:=if f.bn≠0 then Hu [] else Hu (txt f (List.finRange f.high.toNat))
end
section
theorem ap3:fi prog bW 22 3 8:=fi.lH (z:=J 0) (k:=1) underlying22 DD rfl rfl (by decide) (λ j u h=>Jb j u h)
theorem ap2:fi prog aN.rep 48 69 48:=fi.lH (z:=aN.zero) (k:=6) underlying48 aN.info rfl rfl (by decide) aN.ix
def nums (l:List aN):List Int:=l.flatMap λ o=> [o.by_,o.kind,o.aW,o.spot.x,o.spot.y,o.what]
theorem R6:∀ l:List aN,(nums l).length=6 * l.length
 | []=>rfl
 | o::l=>by unfold nums;rw [aVf,aTE,aTI];have:=R6 l;unfold nums at this;rw [this];simp;omega
theorem aCr {l:List aN} {k:Nat} (h:k<l.length):nums (l.take (k+1))=nums (l.take k)++ [(l.getD k default).by_,(l.getD k default).kind,(l.getD k default).aW,(l.getD k default).spot.x,(l.getD k default).spot.y,(l.getD k default).what]:=by
 unfold nums;rw [wg (d:=default) h,aU4];simp
def jO (l:List aN):ByteArray:=if iG l≠0 then Hu [] else kI.we (Pack.strOf (Pack.qX (nums l)))
theorem am4 {l:List aN} (h:¬ iG l=0):jO l=Hu []:=by unfold jO;rw [aTO h]
theorem Tp {l:List aN} (h:iG l=0):jO l=kI.we (Pack.strOf (Pack.qX (nums l))):=by unfold jO;rw [aTL (by simpa using h)]
theorem Pack.akR (l:List Int):(Pack.qX l).length≤10+10 * l.length:=by
 unfold Pack.qX;rw [aTE];have:=(Pack.BU l.length).1;have:=Pack.Yv l;omega
theorem aEh {w:World} {A:Option Addr} {c:Nat} {l:List Int} (h:bW.aG 8 w A c l):Rd w 1 A l.length (vk l):=by
 obtain ⟨s1,s2,s8,ZU,ess,Je,Gj⟩:=h;rw [Wj Je] at Gj;exact Gj
theorem azS {w:World} {A:Option Addr} {c:Nat} {l:List Int} (h:bW.aG 8 w A c l):sF l:=λ x hx=>bY.1 (Jd h x hx)
theorem aDK (l:List Int) (A:Option Addr) (c:Nat) (w:World) (hn:l.length≤1000) (h:bW.aG 8 w A c l):Calls prog 123 #[.slice A l.length c] w λ e w'=>e= .returned (.tuple #[.string (Pack.strOf (Pack.qX l)),J 0])∧Ext w w' :=
 Pack.akQ A l.length c l rfl hn (azS h) w (aEh h)
theorem afD {s:List UInt8} {out:List Int} {j:Int} (h:Pack.Ax s out j):out.length≤1000:=by
 obtain ⟨_,τ,ae⟩:=h;by_cases e:j=0
 ·exact (τ e).2
 ·rw [(ae e).1];exact aUv _
theorem aCW {w:World} {B n c:Nat} {A:Option Addr} {l:List Int} (h:Own w B 3 1 OE (.slice A n c) l.length (vk l)) (aC:l.length≤1000) (QC:sF l):n=l.length∧bW.aH 3 8 w B (aa.aj A) A c l:=by
 have hn:n=l.length:=by
  rcases h.2 with ⟨τ,ae⟩ | ⟨g,cap,cur,hv,_⟩
  ·injection τ with _ e _;rw [e,ae]
  ·injection hv
 subst hn;refine ⟨Z,aa.aH.zS (ess:=l.map λ a=> [Value.int .i64 a]) ak6 (UY λ a ha=>bY.2 (QC a ha)) (by omega) ?_⟩;have qO:(l.map λ a=> [Value.int .i64 a]).flatten=l.map (Value.int .i64):=Wj (w:=w) (UY λ a ha=>bY.2 (QC a ha));rw [qO];exact h
theorem awl (s:ByteArray) (hs:s.size≤9223372036854775807) (w:World):Calls prog 84 #[.string s] w (λ e w'=>∃ out k A c,Pack.Ax s.data.toList out k∧e= .returned (.tuple #[.slice A out.length c,J k])∧bW.aH 3 8 w' w.heap.size (aa.aj A) A c out∧Ext w w'):=by
 refine (Pack.awk s hs w).mono λ e w' he=> ?_;obtain ⟨out,k,A,n,c,τ,ae,aw,aU⟩:=he;obtain ⟨rfl,bz⟩:=aCW aw (afD τ) τ.1;exact ⟨out,k,A,c,τ,ae,bz,aU⟩
theorem aCL {s:ByteArray} (h:s.size≤140737488351232):(kI.lW s).1.size≤9223372036854775807:=by
 rcases kI.akt s with ⟨_,ae⟩ | ⟨_,ae⟩
 ·have:=aUF ByteArray.size ae;rw [kI.Sv] at this;omega
 ·rw [ae];decide
def fz (l:List Int) (k:Nat):List Int:=(l.drop (k * 6)).take (k * 6+6 - k * 6)
theorem adr {l:List Int} {k:Nat} (h:k * 6+6≤l.length):(fz l k).length=6:=by unfold fz;rw [aTD,aTW];omega
theorem ass {l:List Int} (h:∀ a∈l,e_ a) (k i:Nat):e_ ((fz l k).getD i 0):=by
 by_cases ar:i<(fz l k).length
 ·exact h _ (aW3 (aVX (gP (d:=0) ar)))
 ·rw [aTB,aUH (by omega)];exact bY.2 (by decide)
def xY (n:List Int):aN:=⟨n.getD 0 0,n.getD 1 0,n.getD 2 0,⟨n.getD 3 0,n.getD 4 0⟩,n.getD 5 0⟩
def I4 (out:List Int) (q:Nat):List aN:=(List.finRange q).map λ k=>xY (fz out k.1)
def Gd (out:List Int):List aN:=I4 out (out.length / 6)
theorem I3 {out:List Int} {q:Nat} (h:out.length=q * 6):Gd out=I4 out q:=by unfold Gd;rw [show out.length / 6=q by omega]
def CO (s:ByteArray) (m:List aN) (k:Int):Prop :=
 ((kI.lW s).2≠0∧m= []∧k=(kI.lW s).2)∨((kI.lW s).2=0∧∃ out j,Pack.Ax (kI.lW s).1.data.toList out j∧((j≠0∧m= []∧k=j)∨(j=0∧out.length % 6≠0∧m= []∧k=4)∨
  (j=0∧out.length % 6=0∧((iG (Gd out)≠0∧m= []∧k=iG (Gd out))∨(iG (Gd out)=0∧m=Gd out∧k=0)))))
theorem aCY (A:Option Addr) (c:Nat) (l:List aN) (w:World) (aC:aN.rep.aG 48 w A c l):
  Calls prog 98 #[.slice A l.length c] w (λ e w'=>e= .returned (.tuple #[.string (jO l),J (iG l)])∧Ext w w'):=by
 have rS:=aC.eZ;refine b' (n:=49) func98 Z Z Z ?_;refine ah<|va Z<|va Z<|ag<|ay<|ah<|vm Z<|ca VR Z Z ((Y' _ _ l _ (aC.keep (Ext.bg w))).mono ?_);rintro e cK ⟨rfl,fw⟩;refine ⟨_,Z, ?_⟩;have ba:=ab (Ext.bg w) fw;refine va Z<|ag<|ah<|vm Z<|Φ (bne Z Z)<|ag<| ?_;refine ee Z (λ qM=> ?_) (λ qM=> ?_)
 ·refine ah<|vm Z<|va Z<|va Z<|ag<|rt<|bP<|aV (.tmp Z (.tmp Z .nil))<| ?_;exact ⟨by rw [am4 qM];rfl,ba⟩
 ·obtain ⟨ayq,_⟩:=Na (by simpa using qM);refine bl<|ah<|va Z<|ag<|ay<|ah<|vm Z<|Φ (cl underlying48 Z)<|vm Z<|ag<|bu<| ?_;refine dx (λ bZ bS aL=>∃ k:Nat,∃ Oo:Option Addr,∃ Vt:Nat,bS= [(2, .string (Hu [])),(3,J 0),(5, .slice Oo ((nums (l.take k)).length) Vt),(15, .slice A l.length c),(16,J (l.length:Int)),(17,J (k:Int))]∧bZ=l.length - k∧Ext w aL∧bW.aH 3 8 aL w.heap.size (aa.aj Oo) Oo Vt (nums (l.take k))∧(k≤l.length)) _ _ ⟨0,none,0,Z,Z,ba,(aa.aH.nil _),by omega⟩ (.cons Z (.cons Z (.cons Z (.cons Z (.cons Z (.cons (bH Z) .nil)))))) ?_;rintro aBE aon amL ⟨k,Oo,Vt,rfl,rfl,yy,Hg,au⟩;have:=yy.size;have SZ:=b7 Hg.lt;have ag8:=R6 (l.take k);have Mc:(l.take k).length=k:=by rw [aTD];omega
  refine ah<|Φ (blt Z Z)<|ag<|ay<| ?_;refine df Z (λ eL=> ?_) (λ eL=> ?_)
  ·have Bs:=aN.k_ aC _ (gP (d:=default) (show k<l.length by omega));refine bl<|ay<|bu<|ah<|Φ (bT k underlying48 fl Z Z ((aC.keep yy).bs (aO k)) Z (by omega))<|Φ (ao Z (aa.aG.er Fz ((aC.keep yy).cg (aO k)) (cA (l:=l) (u:=default) (by omega)) jc fl))<|al Z P5 Z Z λ td wW eo IH g_=> ?_;have jA:=ab yy eo;refine st (new:= [J ((l.getD k default).by_),J ((l.getD k default).kind),J ((l.getD k default).aW),J ((l.getD k default).spot.x),J ((l.getD k default).spot.y),J ((l.getD k default).what)]) Z Z g_ Z fl Z Z Z λ ow o6 g_=> ?_;have fD:=Ext.mod jA o6 bC;refine ag<|rg<|vm Z<|Φ (av rB Z)<|Φ (ao Z (g_.one a6 Z))<|Φ (av pK Z)<|Φ (ao Z (g_.one a6 Z))<|Φ (av C8 Z)<|Φ (ao Z (g_.one a6 Z))<|Φ (av C9 Z)<|Φ (av jb Z)<|Φ (ao Z (g_.one a6 Z))<|Φ (av C9 Z)<|Φ (av jd Z)<|Φ (ao Z (g_.one a6 Z))<|Φ (av C_ Z)<|Φ (ao Z (g_.one a6 Z))<|cu (e:= 3) (cs:= [J ((l.getD k default).by_),J ((l.getD k default).kind),J ((l.getD k default).aW),J ((l.getD k default).spot.x),J ((l.getD k default).spot.y),J ((l.getD k default).what)]) Z (λ _=>by kernel_rfl) Z λ nN Ht eO YF sA=> ?_;have fp:=ab fD eO;have Hg:=((Hg.later eo).mod o6 (b0 SZ)).later eO;refine ap ap3 aa.dj Hg (aR.LC (R:=bW) (by_:=8) (k:= [(l.getD k default).by_,(l.getD k default).kind,(l.getD k default).aW,(l.getD k default).spot.x,(l.getD k default).spot.y,(l.getD k default).what]) sA [[J ((l.getD k default).by_)], [J ((l.getD k default).kind)], [J ((l.getD k default).aW)], [J ((l.getD k default).spot.x)], [J ((l.getD k default).spot.y)], [J ((l.getD k default).what)]] Z (⟨⟨Z,(Bs.1)⟩,⟨⟨Z,(Bs.2.1)⟩,⟨⟨Z,(Bs.2.2.1)⟩,⟨⟨Z,(Bs.2.2.2.1)⟩,⟨⟨Z,(Bs.2.2.2.2.1)⟩,⟨⟨Z,(Bs.2.2.2.2.2)⟩,trivial⟩⟩⟩⟩⟩⟩) (by simp) (by simp)) Z Z (by simp only [aTI,aTN];omega) (by simp only [aTI,aTN];omega) fp.size Z λ sj anP arR h_ Kv aMN aQt=> ?_;have hU:=Ext.mod fp h_ (λ q I=>(Hg.lt q I).1);refine va Z<|nl<|bU<|aP<|rg<|Φ (bad Z Z (bf (by omega)))<|vm Z<|nl<| ?_;have aY:nums (l.take (k+1))=nums (l.take k)++ [(l.getD k default).by_,(l.getD k default).kind,(l.getD k default).aW,(l.getD k default).spot.x,(l.getD k default).spot.y,(l.getD k default).what]:=aCr (by omega);exact cD _ _ ⟨k+1,anP,arR,Z,Z,hU,(by rw [aY];exact Kv),by omega⟩ (by omega) (.cons Z (.cons Z (.cons (by rw [aY];rfl) (.cons Z (.cons Z (.cons (bH Z) .nil))))))
  ·refine cV<|cU<|c'<|cT<|aP<|ah<|vm Z<|ca aeG Z Z ((aDK (nums (l.take k)) _ _ _ (by omega) Hg.has).mono ?_);rintro e tj ⟨rfl,fy⟩;refine ⟨_,Z, ?_⟩;have kn:=ab yy fy;refine vm Z<|Φ (ex Z Z)<|Φ (ex Z Z)<|va Z<|va Z<|ag<|ay<|ah<|vm Z<|Φ (bne Z Z)<|ag<|hj Z<|bl<|ah<|vm Z<|ca aum Z Z ((kI.Z0 _ (by rw [Pack.Jl];have:=Pack.akR (nums (l.take k));omega) _).mono ?_);rintro e Gy ⟨rfl,sr⟩;refine ⟨_,Z, ?_⟩;have uF:=ab kn sr;refine va Z<|va Z<|ag<|rt<|aV (.tmp Z (.tmp Z .nil))<| ?_;have lO:k=l.length:=by omega
   subst lO;exact ⟨by rw [Tp (by simpa using qM),show iG l=0 by simpa using qM,aUo];rfl,uF⟩
theorem aCR (s:ByteArray) (w:World) (hs:s.size≤140737488351232):
  Calls prog 44 #[.string s] w (λ e w'=>∃ m k A c,CO s m k∧e= .returned (.tuple #[.slice A m.length c,J k])∧aN.rep.aH 69 48 w' w.heap.size (aa.aj A) A c m∧Ext w w'):=by
 refine Rd.b' (m:=5) (n:=61) func44 Z Z Z ?_;refine Rd.ay<|Rd.rg<|va Z<|va Z<|nl<|Rd.aP<|Rd.ay<|Rd.rg<|vm Z<|ca aun Z Z ((kI.aCJ s (by omega) _).mono ?_);rintro e cK ⟨rfl,fw⟩;refine ⟨_,Z, ?_⟩;have:=fw.size;have ba:=ab (Ext.bg w) fw;refine vm Z<|Φ (ex Z Z)<|Φ (ex Z Z)<|va Z<|va Z<|nl<|Rd.aP<|Rd.ay<|Rd.ay<|Rd.rg<|vm Z<|Φ (bne Z Z)<|nl<|Rd.aP<| ?_;refine Rd.ee Z (λ qM=> ?_) (λ qM=> ?_)
 ·refine Rd.ay<|Rd.rg<|vm Z<|va Z<|va Z<|nl<|Rd.aP<|Rd.rt<|Rd.bP<|Rd.aV (.tmp Z (.tmp Z .nil))<| ?_;exact ⟨[],_,none,0, .inl ⟨by simpa using qM,rfl,rfl⟩,Z,aa.aH.nil _,ba⟩
 ·refine Rd.ei<|Rd.aP<|Rd.ay<|Rd.rg<|vm Z<|ca auo Z Z ((awl ((kI.lW s).1) (aCL (by omega)) _).mono ?_);rintro e ea ⟨out,j,Om,ac9,Lg,rfl,gT,cZ⟩;refine ⟨_,Z, ?_⟩;have:=cZ.size;have bE:=ab ba cZ;have SU:=b7 gT.lt;have ax5:=afD Lg;refine vm Z<|Φ (ex Z Z)<|Φ (ex Z Z)<|va Z<|va Z<|nl<|Rd.aP<|Rd.ay<|Rd.ay<|Rd.rg<|vm Z<|Φ (bne Z Z)<|nl<|Rd.aP<| ?_;refine Rd.ee Z (λ kf=> ?_) (λ kf=> ?_)
  ·refine Rd.ay<|Rd.rg<|vm Z<|va Z<|va Z<|nl<|Rd.aP<|Rd.rt<|Rd.bP<|Rd.aV (.tmp Z (.tmp Z .nil))<| ?_;exact ⟨[],_,none,0, .inr ⟨by simpa using qM,out,j,Lg, .inl ⟨by simpa using kf,rfl,rfl⟩⟩,Z,aa.aH.nil _,bE⟩
  ·have aNd:out.length≤1000:=ax5;refine Rd.ei<|Rd.aP<|Rd.ay<|Rd.ay<|Rd.rg<|vm Z<|Φ (cl underlying22 Z)<|Φ (ard Z Z (by omega) (by omega))<|Φ (bne Z Z)<|nl<|Rd.aP<| ?_;refine Rd.ee Z (λ qL=> ?_) (λ qL=> ?_)
   ·refine Rd.ay<|Rd.rg<|va Z<|va Z<|nl<|Rd.aP<|Rd.rt<|Rd.bP<|Rd.aV (.tmp Z (.tmp Z .nil))<| ?_;exact ⟨[],_,none,0, .inr ⟨by simpa using qM,out,j,Lg, .inr (.inl ⟨by simpa using kf,by omega,rfl,rfl⟩)⟩,Z,aa.aH.nil _,bE⟩
   ·obtain ⟨q,L4⟩:∃ q,out.length=q * 6:=⟨out.length / 6,by omega⟩;refine Rd.ei<|Rd.aP<|Rd.ay<|Rd.rg<|al Z aup Z Z λ Af U7 qm aAJ Ot=> ?_;have iL:=ab bE qm;have aRk:=Ot.lt;refine nl<|Rd.aP<|Rd.ay<|Rd.ay<|Rd.rg<|vm Z<|ca auq Z Z ((asq _ _ _ 6 _ (by omega)).mono ?_);rintro e yj ⟨dH,gy,rfl,abL,abM,iE,xI,iu⟩;refine ⟨_,Z, ?_⟩;have:=iu.size;have l3:=ab iL iu;have ia:=abL.lt;have sb:=abM.lt;refine nl<|Rd.aP<|Rd.bu<| ?_;have Ot:=Ot.later iu;have gT:=gT.later (ab qm iu);refine Rd.bg (enc:=(λ k:Fin q=> .slice (eB Om (k.1 * 6+6) (k.1 * 6) 1) 6 6)) Z aur (asr q 6 out.length ac9 dH gy Om _ (by omega) L4 gT.has.1 gT.has.2.1 _ abL abM) (by omega) (by omega) (Ext.bg _) (by decide) Z Z (λ pre W=>∃ j6:Option Addr,∃ co:Nat,aR W U7 [.slice j6 (((pre.map λ k=>xY (fz out k.1))).length) co] 48 (0,0)∧aN.rep.aH 69 48 W yj.heap.size (aa.aj j6) j6 co ((pre.map λ k=>xY (fz out k.1)))∧bW.aH 3 8 W cK.heap.size (aa.aj Om) Om ac9 (out)∧Mod [U7] yj W) (by rintro aR6 aKQ aKR aKJ ⟨j6,co,nU,ih,gT,aIg⟩ RM H9;exact ⟨j6,co,nU.mod RM (λ I=>(H9 _ I).2 _ _ _ nU),ih.mod RM (λ q I hs=>by obtain ⟨_,_,_,hc⟩:=ih.PL q I;exact (H9 q hs).2 _ _ _ hc),gT.mod RM (λ q I hs=>by obtain ⟨_,_,_,hc⟩:=gT.PL q I;exact (H9 q hs).2 _ _ _ hc),aIg.md RM (λ q I=> .inr (H9 q I).1)⟩) ⟨none,0,Ot,aa.aH.nil _,gT,Mod.bg _ _⟩ ?_ ?_
    ·intro aOQ pre ew amA W3 aNu;obtain ⟨j6,co,nU,ih,gT,aaR⟩:=W3;have W4:yZ yj.heap.size amA amA:=yZ.bg _ _;have:=aaR.size;have RK:=dM ih.lt;have qi:=b7 gT.lt;have hx:=ew.2;have rN:=adr (l:=out) (k:=ew.1) (by omega);have Iu:=λ i=>ass (Jd gT.has) ew.1 i;have n_:((pre.map λ k=>xY (fz out k.1))).length=pre.length:=aUz _;refine Rd.bu<| ?_;refine Rd.rd [(0,0),(3,0),(6,0),(9,0),(12,0),(15,0),(19,0),(21,2),(22,3),(23,3)] [0,1,2,3,4,5,6,7,8,9,10,11,12,13,14,15,16,17,18,19,20,21,22,23] (by kernel_rfl) (by kernel_rfl) ?_;refine bx Z (λ _ x=>ao Z ((nU.later x).one mM Z))<|a1 Z Z<|aB Z (λ _=>bT 0 underlying22 dI Z Z ((gT.has.chunk (ew.1 * 6) (ew.1 * 6+6) (by omega) (by omega)).bs (aO 0 (by first | (rw [aTD,aTW];omega) | omega))) Z (by omega))<|bx Z (λ _ x=>ao Z (aa.aG.eM gI (((gT.later x).has.chunk (ew.1 * 6) (ew.1 * 6+6) (by omega) (by omega)).cg (aO 0 (by first | (rw [aTD,aTW];omega) | omega))) (cA (l:=fz out ew.1) (u:=0) (by first | (rw [aTD,aTW];omega) | omega)) Z a6))<|a1 Z Z<|aB Z (λ _=>bT 1 underlying22 dI Z Z ((gT.has.chunk (ew.1 * 6) (ew.1 * 6+6) (by omega) (by omega)).bs (aO 1 (by first | (rw [aTD,aTW];omega) | omega))) Z (by omega))<|bx Z (λ _ x=>ao Z (aa.aG.eM gI (((gT.later x).has.chunk (ew.1 * 6) (ew.1 * 6+6) (by omega) (by omega)).cg (aO 1 (by first | (rw [aTD,aTW];omega) | omega))) (cA (l:=fz out ew.1) (u:=0) (by first | (rw [aTD,aTW];omega) | omega)) Z a6))<|a1 Z Z<|aB Z (λ _=>bT 2 underlying22 dI Z Z ((gT.has.chunk (ew.1 * 6) (ew.1 * 6+6) (by omega) (by omega)).bs (aO 2 (by first | (rw [aTD,aTW];omega) | omega))) Z (by omega))<|bx Z (λ _ x=>ao Z (aa.aG.eM gI (((gT.later x).has.chunk (ew.1 * 6) (ew.1 * 6+6) (by omega) (by omega)).cg (aO 2 (by first | (rw [aTD,aTW];omega) | omega))) (cA (l:=fz out ew.1) (u:=0) (by first | (rw [aTD,aTW];omega) | omega)) Z a6))<|a1 Z Z<|aB Z (λ _=>bT 3 underlying22 dI Z Z ((gT.has.chunk (ew.1 * 6) (ew.1 * 6+6) (by omega) (by omega)).bs (aO 3 (by first | (rw [aTD,aTW];omega) | omega))) Z (by omega))<|bx Z (λ _ x=>ao Z (aa.aG.eM gI (((gT.later x).has.chunk (ew.1 * 6) (ew.1 * 6+6) (by omega) (by omega)).cg (aO 3 (by first | (rw [aTD,aTW];omega) | omega))) (cA (l:=fz out ew.1) (u:=0) (by first | (rw [aTD,aTW];omega) | omega)) Z a6))<|a1 Z Z<|aB Z (λ _=>bT 4 underlying22 dI Z Z ((gT.has.chunk (ew.1 * 6) (ew.1 * 6+6) (by omega) (by omega)).bs (aO 4 (by first | (rw [aTD,aTW];omega) | omega))) Z (by omega))<|bx Z (λ _ x=>ao Z (aa.aG.eM gI (((gT.later x).has.chunk (ew.1 * 6) (ew.1 * 6+6) (by omega) (by omega)).cg (aO 4 (by first | (rw [aTD,aTW];omega) | omega))) (cA (l:=fz out ew.1) (u:=0) (by first | (rw [aTD,aTW];omega) | omega)) Z a6))<|qJ (v:= .agg #[J ((fz out ew.1).getD 3 0),J ((fz out ew.1).getD 4 0)]) Z Z (λ _=>cY Z (by kernel_rfl)) Z<|a1 Z Z<|aB Z (λ _=>bT 5 underlying22 dI Z Z ((gT.has.chunk (ew.1 * 6) (ew.1 * 6+6) (by omega) (by omega)).bs (aO 5 (by first | (rw [aTD,aTW];omega) | omega))) Z (by omega))<|bx Z (λ _ x=>ao Z (aa.aG.eM gI (((gT.later x).has.chunk (ew.1 * 6) (ew.1 * 6+6) (by omega) (by omega)).cg (aO 5 (by first | (rw [aTD,aTW];omega) | omega))) (cA (l:=fz out ew.1) (u:=0) (by first | (rw [aTD,aTW];omega) | omega)) Z a6))<|qJ (v:= .agg #[J ((fz out ew.1).getD 0 0),J ((fz out ew.1).getD 1 0),J ((fz out ew.1).getD 2 0),J ((fz out ew.1).getD 3 0),J ((fz out ew.1).getD 4 0),J ((fz out ew.1).getD 5 0)]) Z Z (λ _=>cY Z (by kernel_rfl)) Z<|gz Z Z Z λ sj fx Q hK=>cu (e:= 69) (cs:= [J ((fz out ew.1).getD 0 0),J ((fz out ew.1).getD 1 0),J ((fz out ew.1).getD 2 0),J ((fz out ew.1).getD 3 0),J ((fz out ew.1).getD 4 0),J ((fz out ew.1).getD 5 0)]) Z (λ _=>by kernel_rfl) Z λ th aqQ jl aAM JY=>hK _ _ ⟨ab fx jl, ?_⟩;have:=fx.size;have hU:=aaR.trans (Mod.bt fx);have iY:=hU.trans (Mod.bt jl);have aDX:=JY.lt;have ih:=ih.later (ab fx jl);have aC5:=ih;refine eg Z Z Z λ tj fy Q hK=>ap ap2 aa.dj (ih.later fy) ((aR.gY (R:=aN.rep) (by_:=48) (q:=(⟨(fz out ew.1).getD 0 0,(fz out ew.1).getD 1 0,(fz out ew.1).getD 2 0,⟨(fz out ew.1).getD 3 0,(fz out ew.1).getD 4 0⟩,(fz out ew.1).getD 5 0⟩:aN)) JY ⟨Z,⟨Iu 0,Iu 1,Iu 2,Iu 3,Iu 4,Iu 5⟩⟩ (by decide)).keep fy) Z Z (by simp only [aTI,aTN];omega) (by simp only [aTI,aTN];omega) (by have:=fy.size;omega) Z λ Gy abg adf kT CN awe aQw=>hK _ _ ?_;have:=fy.size;have kn:=iY.trans (Mod.bt fy);have uF:=kn.md kT (λ q I=> .inr ((λ q I=>aUc (by omega) ((ih.later fy).lt q I).1) q I));have nU:=nU.later (ab fx (ab jl fy));have nn:∀ q∈aa.aj j6,q=U7→False:=λ q I γ=>by (have:=RK q I;omega)
     have nU:=nU.mod kT (λ I=>nn _ I rfl);have aC6:=nU;refine eg Z Z Z λ Jz k2 Q hK=>st (new:= [.slice abg (((pre.map λ k=>xY (fz out k.1))++ [(⟨(fz out ew.1).getD 0 0,(fz out ew.1).getD 1 0,(fz out ew.1).getD 2 0,⟨(fz out ew.1).getD 3 0,(fz out ew.1).getD 4 0⟩,(fz out ew.1).getD 5 0⟩:aN)]).length) adf]) Z Z (nU.later k2) Z zh Z Z Z λ q4 lU nU=>hK _ _ ?_;have uI:=uF.trans (Mod.bt k2);have iw:=uI.md lU (λ q I=> .inl I);refine fn λ JC pn=> ?_;have sy:=iw.trans (Mod.bt pn);refine Rd.bU<| ?_;have W4:=((((W4.later (ab fx (ab jl fy))).mod kT (λ q I=>(aC5.later fy).PL q I)).later k2).mod lU (λ q I=>by rw [aTz.1 I];exact ⟨_,_,_,(aC6.later k2)⟩)).later pn;have nU:=nU.later pn;have CN:=((CN.later k2).mod lU (λ q I h=>by have γ:=aTz.1 h;exfalso;(exact aTT (awe q I) (λ MG=>by (exact nn q MG γ)) (λ MG=>by omega)))).later pn;have gT:=((((gT.later (ab fx (ab jl fy))).mod kT (λ q I h=>by exfalso;(have:=RK q h;(have:=qi q I;have:=SU q I;omega)))).later k2).mod lU (λ q I h=>by have γ:=aTz.1 h;exfalso;(have:=qi q I;have:=SU q I;omega))).later pn;exact λ _ _=>⟨W4,Mod.aAs aaR sy ⟨by omega,by omega⟩ aQ aQ,⟨abg,adf,(by rw [aT8];exact nU),(by rw [aT8];exact CN),gT,sy⟩⟩
    ·intro D aH6 aSr aMZ H9 W3 zr;obtain ⟨j6,co,nU,ih,gT,aId⟩:=W3;have H7:aH6=List.finRange q:=H9;subst H7;have aIe:=Ext.mod l3 aId (λ q I=>by rw [aTz.1 I];omega);refine gU.bU<|gU.aP<|gU.ay<|gU.ay<|gU.rg<|gU.iV (ao Z (nU.one mM Z)) Z<|gU.ca VR Z Z ((Y' _ _ (I4 out q) _ ih.has).mono ?_);rintro e aHy ⟨rfl,qs⟩;refine ⟨_,Z, ?_⟩;have TF:=ab aIe qs;refine gU.iV (fG Z) Z<|gU.nl<|gU.aP<|gU.ay<|gU.rg<|gU.iV (hy Z) Z<|gU.iV (bne Z Z) Z<|gU.nl<|gU.aP<| ?_;refine gU.ee Z (λ Ly=> ?_) (λ Ly=> ?_)
     ·refine gU.ay<|gU.rg<|gU.iV (hy Z) Z<|gU.iV (fG Z) Z<|gU.iV (fG Z) Z<|gU.nl<|gU.aP<|gU.rt<|gU.bP<| ?_;have zr:=zr.later qs;refine gU.aV zr (.tmp Z (.tmp Z .nil))<| ?_;exact ⟨[],_,none,0, .inr ⟨by simpa using qM,out,j,Lg, .inr (.inr ⟨by simpa using kf,by omega, .inl ⟨by rw [I3 L4];simpa using Ly,rfl,by rw [I3 L4]⟩⟩)⟩,Z,aa.aH.nil _,Ext.mod TF zr.un (λ q I=>by rw [aTz.1 I];omega)⟩
     ·refine gU.ei<|gU.aP<|gU.ay<|gU.rg<| ?_;have nU:=nU.later qs;refine gU.iV (ao Z (nU.one mM Z)) Z<|gU.iV (fG Z) Z<|gU.iV (fG Z) Z<|gU.nl<|gU.aP<|gU.rt<| ?_;have zr:=zr.later qs;refine gU.aV zr (.tmp Z (.tmp Z .nil))<| ?_;have ih:=ih.later qs;exact ⟨_,_,j6,co, .inr ⟨by simpa using qM,out,j,Lg, .inr (.inr ⟨by simpa using kf,by omega, .inr ⟨by rw [I3 L4];simpa using Ly,(I3 L4).symm,rfl⟩⟩)⟩,rfl,(ih.down (by omega)).mod zr.un (λ gR τ ae=>by have aw:=aTz.1 ae;subst aw;obtain ⟨_,_,_,hc⟩:=ih.PL _ τ;rw [show _=_ from zr] at hc;exact nomatch hc),Ext.mod TF zr.un (λ q I=>by rw [aTz.1 I];omega)⟩
end
end Go.Proofs.YtmeeljmapailnaaGreat
