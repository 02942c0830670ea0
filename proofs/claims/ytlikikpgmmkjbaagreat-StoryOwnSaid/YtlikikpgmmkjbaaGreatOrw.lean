import Derived.Test.YtlikikpgmmkjbaaGreatTmk
set_option linter.unusedVariables false
set_option linter.unusedSimpArgs false
set_option maxRecDepth 100000
set_option maxHeartbeats 4000000
namespace Go.Proofs.YtlikikpgmmkjbaaGreat
open Tryz
section
open Go.RowKit
theorem agi:ff prog iU 38 41 8:=ff.lB (z:= .int .u64 0) (k:=1) underlying38 ZI rfl rfl (by decide) (λ j u h=>ack j u h)
open Go.Proofs.YtlikikpgmmkjbaaGreat.hO
theorem HO (a:ae.b6) (W:ae) (A:Option Addr) (c:Nat) (T:List dB) (L:List (List aI)) (w:World) (bs:ae.Has w a W) (bQ:iu.aH 24 w A c T) (eG:fJ w T L):
  Calls prog 47 #[.agg ((ae.cells a W).toArray), .slice A T.length c] w (λ e w'=>∃ e' a' V bH bW ms,e= .returned (.tuple #[.agg (ae.cells a' V).toArray, .slice bH (ms:List (BitVec 64)).length bW, .int .i64 e'])∧yr W L e' V ms∧bf w' w.heap.size a' V∧iU.aF 41 8 w' w.heap.size (κ.af bH) bH bW ms∧(∀ q,q∈κ.af bH→q∈bf.b4 a'→False)∧Ext w w'):=by
 refine cv (n:=64) func47 Z Z Z ?_;refine aj<|cI Z Z Z Z λ dw bC bg eY ab=> ?_;have:=bg.size;have br:=τ (Ext.bM w) bg;have eZ:=ab.lt;refine al Z l8 Z Z λ eB c_ bj iF ai=> ?_;have:=bj.size;have bS:=τ br bj;have iJ:=ai.lt;refine va Z<|va Z<|ah<|aD<|aj<|vm Z<|J (cW underlying29 Z)<|J (jC Z Z)<|ah<| ?_;refine ef Z (λ kD=> ?_) (λ kD=> ?_)
 ·refine aj<|J (v:= .agg #[.int .i64 0, .int .i64 0, .slice none 0 0, .slice none 0 0, .slice none 0 0, .slice none 0 0, .slice none 0 0, .int .i64 0, .int .i64 0]) (cO Z (by kernel_rfl))<|st (new:= [.int .i64 0, .int .i64 0, .slice none 0 0, .slice none 0 0, .slice none 0 0, .slice none 0 0, .slice none 0 0, .int .i64 0, .int .i64 0]) Z Z ai Z b2 Z Z Z λ xT sq ai=> ?_;have:=sq.size;have j6:=Ext.mod bS sq (bR (by omega));have:=sq.size;refine va Z<|va Z<|ah<|rt<|cf<|bp (.cell Z (ai.all dr b2) (.tmp Z (.tmp Z .nil)))<| ?_;exact ⟨2,⟨none,none,none,none,none,0,0,0,0,0⟩,ae.zero,none,0, [],Z, .inr ⟨by decide, .inl (by rw [← eG.1];omega),rfl,rfl⟩,bf.zero _ _,κ.aF.nil _,λ q I=>by simp [κ.af] at I,j6⟩
 ·have alz:L.length≤200:=by rw [← eG.1];omega
  refine bx<|aj<| ?_;have ab:=ab.later bj;refine J (ak Z (ab.all dr b2))<|ca Xc Z Z ((ac7 ([]:List cR) _ _ a W _ (bs.keep bS) (κ.aH.nil _)).mono ?_);rintro e sD ⟨a20,Tx,ayG,rfl,ye,UH,YI,dM⟩;refine ⟨_,Z, ?_⟩;have:=dM.size;have iM:=τ bS dM;have aul:=λ q I=>(ye.lt q I).2;have QZ:=λ q I=>(ye.lt q I).1;have Sv:=λ q I=>(UH.lt q I).2;have Q0:=λ q I=>(UH.lt q I).1;have ayZ:∀ q∈κ.af Tx,q∈bf.b4 a20→False:=YI;have ay9:∀ q∈bf.b4 a20,q∈κ.af Tx→False:=λ q γ aa=>YI q aa γ;refine vm Z<|J (ex Z Z)<|J (ex Z Z)<|J (ex Z Z)<| ?_;have ab:=ab.later dM;refine st Z Z ab Z b2 Z Z Z λ Cb mY ab=> ?_;have:=mY.size;have qA:=Ext.mod iM mY (bR (by omega));have:=mY.size;refine va Z<|va Z<|ah<|aD<|aj<|vm Z<|J (bne Z Z)<|ah<| ?_;refine hg Z (λ xe=> ?_) (λ xe=> ?_)
  ·have xg:W.bh≠0:=λ cA=>xe (N1 cA (by simp));refine aj<|J (v:= .agg #[.int .i64 0, .int .i64 0, .slice none 0 0, .slice none 0 0, .slice none 0 0, .slice none 0 0, .slice none 0 0, .int .i64 0, .int .i64 0]) (cO Z (by kernel_rfl))<|vm Z<| ?_;have ai:=ai.later dM;have ai:=ai.mod mY (bb (by omega));refine st (new:= [.int .i64 0, .int .i64 0, .slice none 0 0, .slice none 0 0, .slice none 0 0, .slice none 0 0, .slice none 0 0, .int .i64 0, .int .i64 0]) Z Z ai Z b2 Z Z Z λ SF zw ai=> ?_;have:=zw.size;have x5:=Ext.mod qA zw (bR (by omega));have:=zw.size;refine va Z<|va Z<|ah<|rt<|cf<|bp (.cell Z (ai.all dr b2) (.tmp Z (.tmp Z .nil)))<| ?_;exact ⟨kA W ([]:List cR),⟨none,none,none,none,none,0,0,0,0,0⟩,ae.zero,none,0, [],Z, .inr ⟨xe, .inr (.inl xg),Z,Z⟩,bf.zero _ _,κ.aF.nil _,λ q I=>by simp [κ.af] at I,x5⟩
  ·have q7:W.bh=0:=(Jv (by first | exact xe | simpa using xe)).1;have xo:=Sk q7;refine bx<|aj<|J (ak Z (ab.all dr b2))<| ?_;have ye:=ye.mod mY (b9 QZ (by omega));refine ca Xe Z Z ((abn a20 (fx W ([]:List cR)) _ ye.has).mono ?_);rintro e Cc ⟨rfl,gU⟩;refine ⟨_,Z, ?_⟩;have:=gU.size;have nv:=τ qA gU;refine vm Z<|J (ex Z Z)<|J (ex Z Z)<|va Z<|va Z<|ah<|aj<|vm Z<|cH (e:= 41) (cs:= [.int .u64 (U (py (fx W ([]:List cR))))]) Z (λ _=>by kernel_rfl) Z λ adO NV Ii aBP T'=> ?_;have:=Ii.size;have Is:=τ nv Ii;have aEh:=T'.lt;refine va Z<|ah<|aD<|aj<|vm Z<|J (cW underlying29 Z)<|vm Z<|ah<|bP<| ?_;have Fp:=aK.ru (R:=iU) (by_:=8) (B:=w.heap.size) (k:= [py (fx W ([]:List cR))]) T' [[.int .u64 (U (py (fx W ([]:List cR))))]] rfl (⟨⟨rfl,trivial⟩,trivial⟩) (by simp) (by simp) (by decide) (by omega);have tD:∀ q∈κ.af (some ⟨NV,0,none⟩),q=NV:=λ q I=>List.mem_singleton.1 I;have ab:=ab.later (τ gU Ii);have ye:=ye.later (τ gU Ii);have ai:=ai.later dM;have ai:=ai.mod mY (bb (by omega));have ai:=ai.later (τ gU Ii);refine fe (λ ck ch aS=>∃ k:Nat,∃ pV:List (BitVec 64),∃ dg:Option Addr,∃ ib:Nat,∃ yy:ae.b6,∃ rW:ae,ch= [(2, .pointer (some ⟨bC,0,none⟩)),(4, .pointer (some ⟨c_,0,none⟩)),(11, .slice dg pV.length ib),(35, .slice A T.length c),(36, .int .i64 (T.length:Int)),(37, .int .i64 (k:Int))]∧ck=T.length - k∧Ext w aS∧aK aS c_ [.int .i64 0, .int .i64 0, .slice none 0 0, .slice none 0 0, .slice none 0 0, .slice none 0 0, .slice none 0 0, .int .i64 0, .int .i64 0] 28 (0,0)∧iU.aF 41 8 aS w.heap.size (κ.af dg) dg ib pV∧aK aS bC (ae.cells yy rW) 28 (0,0)∧bf aS w.heap.size yy rW∧(k≤T.length)∧(km W (L.take k)=0)∧(rW=ng W (L.take k))∧(pV=uD W (L.take k))∧(∀ q∈bf.b4 yy,q=bC→False)∧(∀ q∈bf.b4 yy,q=c_→False)∧(∀ q∈κ.af dg,q=c_→False)∧(∀ q∈κ.af dg,q=bC→False)∧(∀ q∈κ.af dg,q∈bf.b4 yy→False)) _ _ ⟨0, [py (fx W ([]:List cR))],some ⟨NV,0,none⟩,1,a20,fx W ([]:List cR),Z,Z,Is,ai,Fp,ab,(ye.down (by omega)),by omega,rfl,xo.1,(by rw [xo.1];rfl),(λ q I Φ=>by exfalso;(have:=QZ q I;omega)),(λ q I Φ=>by exfalso;(have:=QZ q I;omega)),(λ q I Φ=>by (have:=tD q I;omega)),(λ q I Φ=>by (have:=tD q I;omega)),(λ q I Φ=>by (have:=tD q I;(have:=aul q Φ;omega)))⟩ (.cons Z (.cons Z (.cons Z (.cons Z (.cons Z (.cons (bX Z (by first | omega | rfl | (simp<;>omega))) .nil)))))) ?_;rintro aCC axh EH ⟨k,pV,dg,ib,yy,rW,rfl,rfl,nw,ai,cJ,d_,qM,av,r_,Dx,xb,ahV,ahW,r4,yI,A3⟩;have:=nw.size;have asa:=ai.lt;have xR:=λ q I=>(cJ.lt q I).2;have Ej:=d_.lt;have Ey:=λ q I=>(qM.lt q I).2;have alw:pV.length≤k+1:=by rw [xb,acz,List.length_take];omega
   refine aj<|J (blt Z Z)<|ah<|aD<| ?_;refine ef Z (λ Gh=> ?_) (λ Gh=> ?_)
   ·obtain ⟨jO,fS,fh,o9,p6,hx⟩:=eG.at_ (k:=k) (by omega);refine bx<|aD<|bP<|aj<|J (bY k underlying29 p2 Z Z ((bQ.keep nw).bA (a8 k (by omega))) Z (by omega))<|J (v:= .slice jO fh.length fS) (ak Z (κ.aH.e9 y0 ((bQ.keep nw).cL (a8 k (by omega))) o9 Z tA))<|va Z<|ah<|aD<|aj<|J (ak Z (d_.all dr b2))<|vm Z<|ca Xf Z Z ((Mc yy rW _ _ fh _ qM.has (hx.keep nw)).mono ?_);rintro e avk ⟨a59,Tz,ayK,TA,ayL,TB,ayM,rfl,u1,UN,UO,UP,P5,Cq⟩;refine ⟨_,Z, ?_⟩;have:=Cq.size;have Tp:=τ nw Cq;have zU:=λ q I=>(u1.lt q I).2;have DY:=λ q I=>(u1.lt q I).1;have EA:=λ q I=>(UN.lt q I).2;have aCq:=λ q I=>(UN.lt q I).1;have HZ:=λ q I=>(UO.lt q I).2;have aCr:=λ q I=>(UO.lt q I).1;have aut:=λ q I=>(UP.lt q I).2;have aCs:=λ q I=>(UP.lt q I).1;have ail:∀ q∈κ.af Tz,q∈bf.b4 a59→False:=λ q I=>P5 q (.inl I);have azg:∀ q∈bf.b4 a59,q∈κ.af Tz→False:=λ q γ aa=>ail q aa γ;have aim:∀ q∈κ.af TA,q∈bf.b4 a59→False:=λ q I=>P5 q (.inr (.inl I));have azh:∀ q∈bf.b4 a59,q∈κ.af TA→False:=λ q γ aa=>aim q aa γ;have ain:∀ q∈κ.af TB,q∈bf.b4 a59→False:=λ q I=>P5 q (.inr (.inr I));have azi:∀ q∈bf.b4 a59,q∈κ.af TB→False:=λ q γ aa=>ain q aa γ;refine vm Z<|J (ex Z Z)<|J (ex Z Z)<|J (ex Z Z)<| ?_;have d_:=d_.later Cq;refine st Z Z d_ Z b2 Z Z Z λ avl po d_=> ?_;have:=po.size;have ML:=Ext.mod Tp po (bR (by omega));have:=po.size;refine va Z<|ah<|aj<|vm Z<|J (bne Z Z)<|ah<| ?_;refine hg Z (λ Bh=> ?_) (λ Bh=> ?_)
    ·refine aj<|J (v:= .agg #[.int .i64 0, .int .i64 0, .slice none 0 0, .slice none 0 0, .slice none 0 0, .slice none 0 0, .slice none 0 0, .int .i64 0, .int .i64 0]) (cO Z (by kernel_rfl))<|vm Z<| ?_;have ai:=ai.later Cq;have ai:=ai.mod po (bb (by omega));refine st (new:= [.int .i64 0, .int .i64 0, .slice none 0 0, .slice none 0 0, .slice none 0 0, .slice none 0 0, .slice none 0 0, .int .i64 0, .int .i64 0]) Z Z ai Z b2 Z Z Z λ SN ly ai=> ?_;have:=ly.size;have x8:=Ext.mod ML ly (bR (by omega));have:=ly.size;refine va Z<|va Z<|ah<|rt<|cf<|gF<|cf<|sA<|gF<|cf<|bp (.cell Z (ai.all dr b2) (.tmp Z (.tmp Z .nil)))<| ?_;exact ⟨gQ rW fh,⟨none,none,none,none,none,0,0,0,0,0⟩,ae.zero,none,0, [],Z, .inr ⟨Bh, .inr (.inr (acC (k:=k+1) (by rw [R3 r_ p6,← Dx];exact Bh))),Z,Z⟩,bf.zero _ _,κ.aF.nil _,λ q I=>by simp [κ.af] at I,x8⟩
    ·have als:km W (L.take (k+1))=0:=by rw [R3 r_ p6,← Dx];first | exact Bh | simpa using Bh
     refine bx<|aj<|J (ak Z (d_.all dr b2))<| ?_;have u1:=u1.mod po (b9 DY (by omega));refine ca Xe Z Z ((abn a59 (mq rW fh) _ u1.has).mono ?_);rintro e EJ ⟨rfl,gH⟩;refine ⟨_,Z, ?_⟩;have:=gH.size;have rP:=τ ML gH;refine vm Z<|J (ex Z Z)<|J (ex Z Z)<|va Z<|ah<|rg<|vm Z<|vm Z<|cH (e:= 41) (cs:= [.int .u64 (U (py (mq rW fh)))]) Z (λ _=>by kernel_rfl) Z λ Cd tj jL ao9 fz=> ?_;have:=jL.size;have lR:=τ rP jL;have ash:=fz.lt;have cJ:=cJ.later Cq;have cJ:=cJ.mod po (λ q I h=>by have Φ:=List.mem_singleton.1 h;exfalso;(exact yI q I Φ));have cJ:=cJ.later (τ gH jL);refine ap agi κ.dV cJ (aK.gv (R:=iU) (by_:=8) (q:=(py (mq rW fh))) fz ⟨Z,trivial⟩ (by decide)) Z Z (by simp only [List.length_cons,List.length_nil];omega) (by simp only [List.length_cons,List.length_nil];omega) (by omega) Z λ H' aeT ahr BR Va Pe aDm=> ?_;have:=BR.size;have qE:=Ext.mod lR BR (λ q I=>Nat.le_trans (by omega) (cJ.lt q I).1);have auy:=λ q I=>(Va.lt q I).2;have:=BR.size;refine va Z<|nl<|cg<|a6<|rg<|J (bad Z Z (bF (by omega)))<|vm Z<|nl<| ?_;have ai:=ai.later Cq;have ai:=ai.mod po (bb (by omega));have ai:=ai.later (τ gH jL);have ai:=ai.mod BR (λ I=>r4 _ I rfl);have d_:=d_.later (τ gH jL);have d_:=d_.mod BR (λ I=>yI _ I rfl);have qM:=qM.later Cq;have qM:=qM.mod po (λ q I h=>by have Φ:=List.mem_singleton.1 h;exfalso;(exact ahV q I Φ));have qM:=qM.later (τ gH jL);have qM:=qM.mod BR (λ q I h=>by exfalso;(exact A3 q h I));have u1:=u1.later (τ gH jL);have u1:=u1.mod BR (λ q I h=>by exfalso;(have:=DY q I;(have:=xR q h;omega)));exact du _ _ ⟨k+1,pV++ [(py (mq rW fh))],aeT,ahr,a59,mq rW fh,Z,Z,qE,ai,Va,d_,(u1.down (by omega)),by omega,als,by rw [zO p6,asJ,Dx];rfl,by rw [xb,zO p6,acA,Dx],(λ q I Φ=>by exfalso;(have:=DY q I;omega)),(λ q I Φ=>by exfalso;(have:=DY q I;omega)),(λ q I Φ=>by (exact Or.elim (Pe q I) (λ G9=>by (exact r4 q G9 Φ)) (λ G9=>by omega))),(λ q I Φ=>by (exact Or.elim (Pe q I) (λ G_=>by (exact yI q G_ Φ)) (λ G_=>by omega))),(λ q I Φ=>by (exact Or.elim (Pe q I) (λ zj=>by (have:=DY q Φ;(have:=xR q zj;omega))) (λ zj=>by (have:=zU q Φ;omega))))⟩ (by omega) (.cons Z (.cons Z (.cons Z (.cons Z (.cons Z (.cons (bX Z (by first | omega | rfl | (simp<;>omega))) .nil))))))
   ·have o6:k=L.length:=by rw [← eG.1];omega
    refine dG<|dF<|eb<|dE<|a6<|aj<|J (ak Z (d_.all dr b2))<|vm Z<|st Z Z ai Z b2 Z Z Z λ aFH Ht ai=> ?_;have:=Ht.size;have avX:=Ext.mod nw Ht (bR (by omega));have:=Ht.size;refine va Z<|va Z<|ah<|rt<|bp (.cell Z (ai.all dr b2) (.tmp Z (.tmp Z .nil)))<| ?_;have cJ:=cJ.mod Ht (λ q I h=>by have Φ:=List.mem_singleton.1 h;exfalso;(exact r4 q I Φ));have qM:=qM.mod Ht (λ q I h=>by have Φ:=List.mem_singleton.1 h;exfalso;(exact ahW q I Φ));rw [o6,List.take_length] at r_ Dx xb;exact ⟨0,yy,rW,dg,ib,pV,Z, .inl ⟨Z,alz,q7,r_,Dx,xb⟩,qM.down (by omega),cJ,λ q I hf=>by exfalso;(exact A3 q I hf),avX⟩
end
section
open Go.RowKit
inductive yk where
 | last (i:Nat) (bN:List Nat)
 | two (i:Nat) (bN:List Nat) (t1 t2:yk)
def yk.hd:yk→Nat
 | .last i _=>i
 | .two i _ _ _=>i
section
variable {P:Program} {n:Nat} {E:List (Nat×Value)} {w:World} {Q:Exit→Act→World→Prop} {ops:Array Oper} {aR:Nat→Nat}
def My (P:Program) (ops:Array Oper) (Q:Exit→Act→World→Prop) (aR:Nat→Nat):yk→Act→World→Prop
 | .last i bN=>rC P ops (fX (Q .normal)) aR (i::bN)
 | .two i bN t1 t2=>rC P ops (fX (λ a w=>My P ops Q aR t1 a w∧My P ops Q aR t2 a w)) aR (i::bN)
def adh (ops:Array Oper) (aR:Nat→Nat):yk→Array Bool→Nat→Bool
 | .last i bN,l,m=>Nat.blt 1 (aR i) && iP ops aR bN (l.setIfInBounds i true) && Nat.beq (bN.length+1) m
 | .two i bN t1 t2,l,m=>Nat.blt 1 (aR i) && A_ ops aR bN (l.setIfInBounds i true) && (Region.ready .any ops (vT bN (l.setIfInBounds i true))== [t1.hd,t2.hd]) && Nat.ble (bN.length+2) m && adh ops aR t1 (vT bN (l.setIfInBounds i true)) (m - 1 - bN.length) && adh ops aR t2 (vT bN (l.setIfInBounds i true)) (m - 1 - bN.length)
def awJ (P:Program) (ops:Array Oper) (Q:Exit→Act→World→Prop) (aR:Nat→Nat) (t1 t2:yk):Exit→Act→World→Prop:=fX (λ a w=>My P ops Q aR t1 a w∧My P ops Q aR t2 a w)
end
end
section
open Go.RowKit
def Ar (D:Nat) (w w':World):Prop:=w.heap.size≤w'.heap.size∧(D≤w.heap.size→Below D w w')
theorem Ar.iK {D:Nat} {a b c:World} (h:Ar D a b) (k:Ar D b c):Ar D a c:=⟨Nat.le_trans h.1 k.1,λ hd=>Below.trans (h.2 hd) (k.2 (Nat.le_trans hd h.1))⟩
section
variable {D:Nat} {P:Program} {ops:Array Oper} {Q:Exit→Act→World→Prop} {aR:Nat→Nat}
def Vc (D:Nat) (P:Program) (ops:Array Oper) (w0:World) (o:Oper) (v:Value) (a:Act):Prop :=
  (Region.wanted o (yielded ops a.tmps)=true∧∀ w,Ar D w0 w→vN P w v ((execOp a.eval o).run P w))∨
  (Region.wanted o (yielded ops a.tmps)=false∧v=undef)
def ats (D:Nat) (P:Program) (ops:Array Oper) (Q:Exit→Act→World→Prop) (aR:Nat→Nat) (i:Nat) (K:Act→World→Prop) (a:Act) (w0:World):Prop :=
  ∃ o,ops[i]? =some o∧
    ((aR i≤1∧∃ v,Vc D P ops w0 o v a∧K (a.put o.dst v) w0)∨
     (1<aR i∧∀ w,Ext w0 w→wpOp P ops Q i (λ a' w'=>(aR i=2→Ar D w0 w')∧K a' w') a w))
def agC (D:Nat) (P:Program) (ops:Array Oper) (Q:Exit→Act→World→Prop) (aR:Nat→Nat):Nat→Array Bool→Act→World→Prop
  | 0,l,a,w0=>Region.ready .any ops l= []∧∀ w,Ext w0 w→Q .normal a w
  | f+1,l,a,w0=>(Region.ready .any ops l= []→∀ w,Ext w0 w→Q .normal a w)∧∀ i∈Region.ready .any ops l,ats D P ops Q aR i (agC D P ops Q aR f (l.setIfInBounds i true)) a w0
def EK (D:Nat) (P:Program) (ops:Array Oper) (Q:Exit→Act→World→Prop) (aR:Nat→Nat):List Nat→Act→World→Prop
  | [],a,w0=>∀ w,Ext w0 w→Q .normal a w
  | i::r,a,w0=>∃ o,ops[i]? =some o∧
      ((aR i=0∧∃ v,Vc D P ops w0 o v a∧EK D P ops Q aR r (a.put o.dst v) w0)∨
       (aR i=1∧∃ v,Yields P ops o v a∧EK D P ops Q aR r (a.put o.dst v) w0)∨
       (1<aR i∧∀ w,Ext w0 w→wpOp P ops Q i (λ a' w'=>(aR i=2→Ar D w0 w')∧EK D P ops Q aR r a' w') a w))
end
section
variable {D:Nat} {P:Program} {n:Nat} {E cE:List (Nat×Value)} {a:Act} {w w' w0 aM:World} {Q:Exit→Act→World→Prop} {ops:Array Oper} {v:Value} {aR:Nat→Nat}
variable {d:Option Nat} {ty:TypeId} {pos:String} {bn:Array Edge} {g:Option (Nat×Bool)} {x y z:Operand} {t:TypeId} {rest:List Oper} {bN:List Nat} {i:Nat}
def axs (D:Nat) (P:Program) (n:Nat) (ops:Array Oper) (Q:Exit→Act→World→Prop) (aR:Nat→Nat) (bN:List Nat) (E:List (Nat×Value)) (w0:World):Prop:=∀ a,dH n E a→EK D P ops (fX (Q .normal)) aR bN a w0
end
end
section
open Go.RowKit
section
variable {D:Nat} {P:Program} {n:Nat} {E:List (Nat×Value)} {w:World} {Q:Exit→Act→World→Prop} {ops:Array Oper} {aR:Nat→Nat}
def Mz (D:Nat) (P:Program) (ops:Array Oper) (Q:Exit→Act→World→Prop) (aR:Nat→Nat):yk→Act→World→Prop
 | .last i bN=>EK D P ops (fX (Q .normal)) aR (i::bN)
 | .two i bN t1 t2=>EK D P ops (fX (λ a w=>Mz D P ops Q aR t1 a w∧Mz D P ops Q aR t2 a w)) aR (i::bN)
def awK (D:Nat) (P:Program) (ops:Array Oper) (Q:Exit→Act→World→Prop) (aR:Nat→Nat) (t1 t2:yk):Exit→Act→World→Prop:=fX (λ a w=>Mz D P ops Q aR t1 a w∧Mz D P ops Q aR t2 a w)
end
end
section
open Go.RowKit
open Go.Proofs.YtlikikpgmmkjbaaGreat.hO
def ja (W:ae) (L:List (List aI)):Prop:=L.length≤200∧W.bh=0∧km W L=0
def MO (W:ae) (L:List (List aI)) (n e:Int) (V:ae):Prop :=
 (e=0∧ja W L∧0≤n∧n≤(L.length:Int)∧V=ng W (L.take n.toNat))∨(e≠0∧¬(ja W L∧0≤n∧n≤(L.length:Int))∧V=ae.zero)
theorem yr.ac0 {W:ae} {L:List (List aI)} {e:Int} {V:ae} {ms:List (BitVec 64)} (h:yr W L e V ms):e=0↔ja W L :=
 ⟨λ aE=>by obtain ⟨γ,aa,au,_,_⟩:=h.ok aE;exact ⟨γ,aa,au⟩,λ ⟨γ,aa,au⟩=>(h.zero γ aa au).1⟩
theorem ja.take {W:ae} {L:List (List aI)} (h:ja W L) (k:Nat):ja W (L.take k):=
 ⟨by have:=h.1;rw [List.length_take];omega,h.2.1,Classical.byContradiction λ aE=>acC aE h.2.2⟩
theorem ja.at_ {W:ae} {L:List (List aI)} {n e:Int} {V:ae} {ms:List (BitVec 64)} (h:ja W L) (hr:yr W (L.take n.toNat) e V ms) (aE:0≤n) (γ:n≤(L.length:Int)):e=0∧ja W L∧0≤n∧n≤(L.length:Int)∧V=ng W (L.take n.toNat):=by
 have aa:=h.take n.toNat;have au:=hr.zero aa.1 aa.2.1 aa.2.2;exact ⟨au.1,h,aE,γ,au.2.1⟩
theorem fJ.take {w:World} {T:List dB} {L:List (List aI)} (h:fJ w T L) (k:Nat):fJ w (T.take k) (L.take k):=
 ⟨by rw [List.length_take,List.length_take,h.1],λ i v ao=>by
  rw [List.getElem?_take] at ao;split at ao
  ·next γ =>
   obtain ⟨l,aa,au,a1⟩:=h.2 i v ao;exact ⟨l,by rw [List.getElem?_take,if_pos γ];exact aa,au,a1⟩
  ·exact absurd ao (by simp)⟩
theorem Ob (a:ae.b6) (W:ae) (A:Option Addr) (c:Nat) (T:List dB) (L:List (List aI)) (w:World) (bs:ae.Has w a W) (bQ:iu.aH 24 w A c T) (eG:fJ w T L):
  Calls prog 46 #[.agg #[.int .i64 W.field.wide, .int .i64 W.field.high, .slice a.P W.field.aP.length a.p, .slice a.B W.aY.length a.b, .slice a.S W.a_.length a.s, .slice a.M W.bm.length a.m, .slice a.T W.ag.length a.t, .int .i64 W.next, .int .i64 W.now, .slice A T.length c]] w (λ e w'=>∃ e':Int,e= .returned (.int .i64 e')∧(e'=0↔ja W L)∧Ext w w'):=by
 have Bu:=bQ.ez;refine cv (n:=16) func46 Z Z Z ?_;refine aj<|cI Z Z Z Z λ dw bC bg eY ab=> ?_;have:=bg.size;have br:=τ (Ext.bM w) bg;have eZ:=ab.lt;refine va Z<|ah<|aj<|J (aw w2 Z)<|J (ak Z (ab.par [.int .i64 W.field.wide, .int .i64 W.field.high, .slice a.P W.field.aP.length a.p, .slice a.B W.aY.length a.b, .slice a.S W.a_.length a.s, .slice a.M W.bm.length a.m, .slice a.T W.ag.length a.t, .int .i64 W.next, .int .i64 W.now] dr b2 Z))<|J (aw kC Z)<|J (ak Z (ab.one l7 Z))<|ca FW Z Z ((HO a W _ _ T L _ (bs.keep br) (bQ.keep br) (eG.keep br)).mono ?_);rintro e Ca ⟨Au,Vh,axE,TD,dS,aCK,rfl,anH,Ur,UL,YO,lN⟩;refine ⟨_,Z, ?_⟩;have:=lN.size;have pN:=τ br lN;have ady:=λ q I=>(Ur.lt q I).2;have aCf:=λ q I=>(Ur.lt q I).1;have xO:=λ q I=>(UL.lt q I).2;have apt:=λ q I=>(UL.lt q I).1;have ay4:∀ q∈κ.af TD,q∈bf.b4 Vh→False:=YO;have azk:∀ q∈bf.b4 Vh,q∈κ.af TD→False:=λ q γ aa=>YO q aa γ;refine vm Z<|J (ex Z Z)<|J (ex Z Z)<|J (ex Z Z)<|al Z l8 Z Z λ xT ax1 h_ ao2 MY=> ?_;have:=h_.size;have j6:=τ pN h_;have ab8:=MY.lt;refine st Z Z MY Z b2 Z Z Z λ H5 oz MY=> ?_;have:=oz.size;have n_:=Ext.mod j6 oz (bR (by omega));have:=oz.size;refine va Z<|va Z<|ah<|aj<|vm Z<|va Z<|ah<|rt<|bp (.tmp Z .nil)<| ?_;exact ⟨Au,Z,anH.ac0,n_⟩
theorem Vr (a:ae.b6) (W:ae) (A:Option Addr) (c:Nat) (T:List dB) (L:List (List aI)) (n:Int) (w:World) (bs:ae.Has w a W) (bQ:iu.aH 24 w A c T) (eG:fJ w T L):
  Calls prog 13 #[.agg #[.int .i64 W.field.wide, .int .i64 W.field.high, .slice a.P W.field.aP.length a.p, .slice a.B W.aY.length a.b, .slice a.S W.a_.length a.s, .slice a.M W.bm.length a.m, .slice a.T W.ag.length a.t, .int .i64 W.next, .int .i64 W.now, .slice A T.length c], .int .i64 n] w (λ e w'=>∃ e' a' V,e= .returned (.tuple #[.agg (ae.cells a' V).toArray, .int .i64 e'])∧MO W L n e' V∧bf w' w.heap.size a' V∧Ext w w'):=by
 have Bu:=bQ.ez;refine cv (n:=39) func13 Z Z Z ?_;refine aj<|cI Z Z Z Z λ dw bC bg eY ab=> ?_;have:=bg.size;have br:=τ (Ext.bM w) bg;have eZ:=ab.lt;refine al Z l8 Z Z λ eB c_ bj iF ai=> ?_;have:=bj.size;have bS:=τ br bj;have iJ:=ai.lt;refine va Z<|ah<|aD<|aj<| ?_;have ab:=ab.later bj;refine J (ak Z (ab.all q1 lj))<|ca Ox Z Z ((Ob a W _ _ T L _ (bs.keep bS) (bQ.keep bS) (eG.keep bS)).mono ?_);rintro e xT ⟨E',rfl,Yz,b0⟩;refine ⟨_,Z, ?_⟩;have:=b0.size;have j6:=τ bS b0;refine va Z<|ah<|aj<|vm Z<|J (bne Z Z)<|ah<| ?_;refine hg Z (λ q5=> ?_) (λ q5=> ?_)
 ·refine aj<|J (v:= .agg #[.int .i64 0, .int .i64 0, .slice none 0 0, .slice none 0 0, .slice none 0 0, .slice none 0 0, .slice none 0 0, .int .i64 0, .int .i64 0]) (cO Z (by kernel_rfl))<|vm Z<| ?_;have ai:=ai.later b0;refine st (new:= [.int .i64 0, .int .i64 0, .slice none 0 0, .slice none 0 0, .slice none 0 0, .slice none 0 0, .slice none 0 0, .int .i64 0, .int .i64 0]) Z Z ai Z b2 Z Z Z λ xU zt ai=> ?_;have:=zt.size;have np:=Ext.mod j6 zt (bR (by omega));have:=zt.size;refine va Z<|ah<|rt<|cf<|bp (.cell Z (ai.all dr b2) (.tmp Z .nil))<| ?_;exact ⟨E',⟨none,none,none,none,none,0,0,0,0,0⟩,ae.zero,Z, .inr ⟨(by simpa using q5),λ cA=>(show ¬ E'=0 by simpa using q5) (Yz.2 cA.1),Z⟩,bf.zero _ _,np⟩
 ·have cV:ja W L:=Yz.1 (by simpa using q5);have DL:=eG.1;refine bx<|aD<|aj<|vm Z<|J (blt Z Z)<|vm Z<|bB Z Z Z Z (λ hc=>aJ Z) Z<|bB Z Z Z Z (λ hc=>aw kC Z) Z<| ?_;have ab:=ab.later b0;refine bB Z Z Z Z (λ hc=>ak (gt hc Z) (ab.one l7 Z)) Z<|bB Z Z Z Z (λ hc=>cW underlying29 (gt hc Z)) Z<|bB Z Z Z Z (λ hc=>jC (gt hc Z) (gt hc Z)) Z<|J (gy Z Z Z Z)<|ah<| ?_;refine fk Z (λ xd=> ?_) (λ xd=> ?_)
  ·simp only [cB] at xd;refine aj<|J (v:= .agg #[.int .i64 0, .int .i64 0, .slice none 0 0, .slice none 0 0, .slice none 0 0, .slice none 0 0, .slice none 0 0, .int .i64 0, .int .i64 0]) (cO Z (by kernel_rfl))<| ?_;have ai:=ai.later b0;refine st (new:= [.int .i64 0, .int .i64 0, .slice none 0 0, .slice none 0 0, .slice none 0 0, .slice none 0 0, .slice none 0 0, .int .i64 0, .int .i64 0]) Z Z ai Z b2 Z Z Z λ sD rk ai=> ?_;have:=rk.size;have iM:=Ext.mod j6 rk (bR (by omega));have:=rk.size;refine va Z<|ah<|rt<|cf<|bp (.cell Z (ai.all dr b2) (.tmp Z .nil))<| ?_;exact ⟨1,⟨none,none,none,none,none,0,0,0,0,0⟩,ae.zero,Z, .inr ⟨(by decide),λ cA=>by have DL:=eG.1;have:=cA.2;have Gm:=xd;omega,rfl⟩,bf.zero _ _,iM⟩
  ·simp only [cB] at xd;have K0:0≤n∧n≤(T.length:Int):=by have Gm:=xd;omega
   refine bx<|aD<| ?_;refine asp [(1,0),(3,0),(6,2),(11,2),(12,3)] [0,1,2,3,4,5] 6 [7,8,9,10,11,12,13,14] 11 [6,7,8,9,10,12,13,14] (by kernel_rfl) (by kernel_rfl) ?_;refine aq Z (λ _=>aw w2 Z)<|bD Z (λ _ x=>ak Z ((ab.later x).par [.int .i64 W.field.wide, .int .i64 W.field.high, .slice a.P W.field.aP.length a.p, .slice a.B W.aY.length a.b, .slice a.S W.a_.length a.s, .slice a.M W.bm.length a.m, .slice a.T W.ag.length a.t, .int .i64 W.next, .int .i64 W.now] dr b2 Z))<|aq Z (λ _=>aw kC Z)<|bD Z (λ _ x=>ak Z ((ab.later x).one l7 Z))<|aq Z (λ _=>aJ Z)<|aq Z (λ _=>LZ ((n).toNat) (T.take ((n).toNat)).length underlying29 p2 Z Z (by omega) (by have:=bQ.1;omega) (by rw [List.length_take];omega))<|fn λ wb ho=> ?_;have:=ho.size;have iN:=τ j6 ho;refine akA ?_ ?_
   ·refine gu Z Z Z λ we kI Q hK=>ca FW Z Z ((HO a W _ _ (T.take ((n).toNat)) (L.take ((n).toNat)) _ (bs.keep (τ iN kI)) ((bQ.keep (τ iN kI)).pre ((n).toNat)) ((eG.take ((n).toNat)).keep (τ iN kI))).mono ?_);rintro e uJ ⟨ae9,NG,agr,Ty,ayH,aCI,rfl,anD,s3,UJ,YJ,dQ⟩;refine ⟨_,Z,hK _ _ ⟨τ kI dQ, ?_⟩⟩;have:=kI.size;have mB:=τ iN kI;have:=dQ.size;have k7:=τ mB dQ;have adv:=λ q I=>(s3.lt q I).2;have apx:=λ q I=>(s3.lt q I).1;have n4:=λ q I=>(UJ.lt q I).2;have oy:=λ q I=>(UJ.lt q I).1;have ay0:∀ q∈κ.af Ty,q∈bf.b4 NG→False:=YJ;have aza:∀ q∈bf.b4 NG,q∈κ.af Ty→False:=λ q γ aa=>YJ q aa γ;refine aq Z (λ _=>aJ Z)<|aq Z (λ _=>ex Z Z)<|aq Z (λ _=>ex Z Z)<|aq Z (λ _=>ex Z Z)<|gu Z Z Z λ xX fY Q hK=>al Z l8 Z Z λ EG pX wg ao8 wy=>hK _ _ ⟨τ fY wg, ?_⟩;have:=fY.size;have jM:=τ k7 fY;have:=wg.size;have rK:=τ jM wg;have acb:=wy.lt;refine fc Z Z Z λ SI jJ Q hK=>st Z Z (wy.later jJ) Z b2 Z Z Z λ SJ qd wy=>hK _ _ ?_;have:=jJ.size;have Cv:=τ rK jJ;have:=qd.size;have Ak:=Ext.mod Cv qd (bR (by omega));have:=qd.size;refine aq Z (λ _=>eV Z)<|aq Z (λ _=>eV Z)<|fn λ SK jK=> ?_;have:=jK.size;have Cy:=τ Ak jK;refine a6<|aj<| ?_;have wy:=wy.later jK;refine J (ak Z (wy.all dr b2))<|vm Z<| ?_;have ai:=ai.later (τ b0 (τ ho (τ kI (τ dQ (τ fY (τ wg jJ))))));have ai:=ai.mod qd (bb (by omega));have ai:=ai.later jK;refine st Z Z ai Z b2 Z Z Z λ Ms Hy ai=> ?_;have:=Hy.size;have rM:=Ext.mod Cy Hy (bR (by omega));have:=Hy.size;refine va Z<|ah<|rt<|bp (.cell Z (ai.all dr b2) (.tmp Z .nil))<| ?_;have s3:=s3.later (τ fY (τ wg jJ));have s3:=s3.mod qd (cj adv (by omega));have s3:=s3.later jK;have s3:=s3.mod Hy (b9 apx (by omega));exact ⟨ae9,NG,agr,Z, .inl (cV.at_ anD K0.1 (by omega)),s3.down (by omega),rM⟩
   ·refine gu Z Z Z λ avj j5 Q hK=>al Z l8 Z Z λ SM ayl uP aB0 ya=>hK _ _ ⟨τ j5 uP, ?_⟩;have:=j5.size;have MK:=τ iN j5;have:=uP.size;have wk:=τ MK uP;have asf:=ya.lt;refine gu Z Z Z λ Mu df Q hK=>ca FW Z Z ((HO a W _ _ (T.take ((n).toNat)) (L.take ((n).toNat)) _ (bs.keep (τ wk df)) ((bQ.keep (τ wk df)).pre ((n).toNat)) ((eG.take ((n).toNat)).keep (τ wk df))).mono ?_);rintro e avm ⟨afa,NJ,ags,TC,ayN,aCJ,rfl,anG,s5,UK,YN,jL⟩;refine ⟨_,Z,hK _ _ ⟨τ df jL, ?_⟩⟩;have:=df.size;have qD:=τ wk df;have:=jL.size;have Tq:=τ qD jL;have adx:=λ q I=>(s5.lt q I).2;have aa9:=λ q I=>(s5.lt q I).1;have auv:=λ q I=>(UK.lt q I).2;have aCu:=λ q I=>(UK.lt q I).1;have ay3:∀ q∈κ.af TC,q∈bf.b4 NJ→False:=YN;have azj:∀ q∈bf.b4 NJ,q∈κ.af TC→False:=λ q γ aa=>YN q aa γ;refine aq Z (λ _=>aJ Z)<|aq Z (λ _=>ex Z Z)<|aq Z (λ _=>ex Z Z)<|aq Z (λ _=>ex Z Z)<| ?_;have ya:=ya.later (τ df jL);refine fc Z Z Z λ Mw k6 Q hK=>st Z Z (ya.later k6) Z b2 Z Z Z λ H' jF ya=>hK _ _ ?_;have:=k6.size;have x9:=τ Tq k6;have:=jF.size;have qE:=Ext.mod x9 jF (bR (by omega));have:=jF.size;refine aq Z (λ _=>eV Z)<|aq Z (λ _=>eV Z)<|fn λ SR qy=> ?_;have:=qy.size;have CA:=τ qE qy;refine a6<|aj<| ?_;have ya:=ya.later qy;refine J (ak Z (ya.all dr b2))<|vm Z<| ?_;have ai:=ai.later (τ b0 (τ ho (τ j5 (τ uP (τ df (τ jL k6))))));have ai:=ai.mod jF (bb (by omega));have ai:=ai.later qy;refine st Z Z ai Z b2 Z Z Z λ ad0 qe ai=> ?_;have:=qe.size;have Iz:=Ext.mod CA qe (bR (by omega));have:=qe.size;refine va Z<|ah<|rt<|bp (.cell Z (ai.all dr b2) (.tmp Z .nil))<| ?_;have s5:=s5.later k6;have s5:=s5.mod jF (b9 aa9 (by omega));have s5:=s5.later qy;have s5:=s5.mod qe (b9 aa9 (by omega));exact ⟨afa,NJ,ags,Z, .inl (cV.at_ anG K0.1 (by omega)),s5.down (by omega),Iz⟩
end
section
open Go.RowKit
theorem OS {w:World}:∀ {ess:List (List Value)} {l:List Int},cD (λ es a=>bz.has w es a) ess l→ess.flatten=l.map (Value.int .i64)
 | [], [],_=>rfl
 | es::ess,a::l,h=>by
  obtain ⟨γ,aa⟩:=h;rw [List.flatten_cons,fo γ,OS aa];rfl
 | [],_::_,h=>h.elim
 | _::_, [],h=>h.elim
theorem NM {w:World}:∀ {l:List Int},(∀ a∈l,fE a)→cD (λ es a=>bz.has w es a) (l.map λ a=> [Value.int .i64 a]) l
 | [],_=>trivial
 | a::l,h=>⟨⟨rfl,h a List.mem_cons_self⟩,NM λ b Φ=>h b (List.mem_cons_of_mem _ Φ)⟩
end
end Go.Proofs.YtlikikpgmmkjbaaGreat
namespace Go.Proofs.YtlikikpgmmkjbaaGreat.k_
open Tryz
open Go.Proofs.YtlikikpgmmkjbaaGreat.hO
def step (n:BitVec 32):BitVec 32:=n >>> 1 ^^^ (3988292384#32 &&& -(n &&& 1#32))
def steps:Nat→BitVec 32→BitVec 32
 | 0,n=>n
 | k+1,n=>steps k (step n)
def take (n:BitVec 32) (b:UInt8):BitVec 32:=steps 8 (n ^^^ b.toBitVec.setWidth 32)
def fold (n:BitVec 32) (l:List UInt8):BitVec 32:=l.foldl take n
def more (n:BitVec 32) (l:List UInt8):BitVec 32:= ~~~(fold (~~~n) l)
def of (l:List UInt8):BitVec 32:=more 0#32 l

theorem akK (n:BitVec 32) (l m:List UInt8):fold n (l++m)=fold (fold n l) m:=by
 unfold fold;rw [List.foldl_append]
theorem akL (n:BitVec 32) (l:List UInt8) (b:UInt8):fold n (l++ [b])=take (fold n l) b:=by
 rw [akK];rfl

theorem Si (m:BitVec 32):bits BinOp.xor IntKind.u32 (U m / 2) (bits BinOp.and IntKind.u32 3988292384 (-bits BinOp.and IntKind.u32 (U m) 1 % 4294967296))=U (step m):=by
 refine ON (N0 _ _ _) (NZ _ _ _) ?_;have γ:=Rt (n:=32) (U m) 1 (Jf m) (by have:=agm m;omega);rw [Rv,abD,aqG,aqI,abD,qg];rw [show (U m / 2:Int)=U m / 2 ^ 1 by rfl,γ,qg];rfl
theorem aov (x y:Int) (aE:0≤y) (γ:y<256):bits BinOp.xor IntKind.u32 x y=U (BitVec.ofInt 32 x ^^^ (BitVec.ofInt 8 y).setWidth 32):=by
 refine ON (N0 _ _ _) (NZ _ _ _) ?_;rw [Rv];obtain ⟨m,rfl⟩:=Int.eq_ofNat_of_zero_le aE;congr 1;rw [BitVec.ofInt_natCast,BitVec.ofInt_natCast];apply BitVec.eq_of_toNat_eq;simp only [BitVec.toNat_ofNat,BitVec.toNat_setWidth];omega
end Go.Proofs.YtlikikpgmmkjbaaGreat.k_
namespace Go.Proofs.YtlikikpgmmkjbaaGreat
open Tryz
end Go.Proofs.YtlikikpgmmkjbaaGreat
set_option linter.unusedVariables false
set_option linter.unusedSimpArgs false
namespace Go.Proofs.YtlikikpgmmkjbaaGreat.k_
open Tryz
open Go.RowKit Go.Proofs.YtlikikpgmmkjbaaGreat.hO

theorem acw {a b:Int} (h:a=b):Ending.returned (.int .u32 a)= .returned (.int .u32 b):=by rw [h]

theorem atE (m:BitVec 32) (x y:Int) (aE:0≤x) (γ:x≤4294967295) (aa:0≤y) (au:y≤255) (hm:m=BitVec.ofInt 32 x ^^^ (BitVec.ofInt 8 y).setWidth 32) (w:World):
  Calls prog 215 #[.int .u32 x, .int .u8 y] w fun e w'=>e= .returned (.int .u32 (U (steps 8 m)))∧w=w':=by
 have kx:=Lib.hid (aov x y aa (by omega));rw [← hm] at kx;clear hm;go_enter func215,ntmps215;go_wp2
 go_loop [0,9] (fun x i=>∃ (k:Nat) (q:BitVec 32),k≤8∧i= .int .i64 k∧x= .int .u32 (U q)∧Hid (steps (8 - k) q=steps 8 m)) (fun _ i=>8 - (intOf i).toNat)
 case atStart=>exact ⟨0,m,by omega,rfl,by rw [kx.out],rfl⟩
 case round =>
  obtain ⟨k,q,av,rfl,rfl,I⟩:=hrel;by_cases bl:k<8
  ·go_wp2
   go_round
   case rel =>
    refine ⟨k+1,step q,by omega,by go_num,by rw [Si], ?_⟩;have h:=I.out;rw [show 8 - k=(8 - (k+1))+1 by omega] at h;exact h
   case measure=>simp [intOf];omega
  ·have Y6:k=8:=by omega
   have h:=I.out;rw [Y6] at h;clear I Y6;have bI:=Lib.hid h;clear h;go_wp2
   go_ret;exact ⟨acw (by rw [← bI.out];rfl),Z⟩
theorem atD (n:BitVec 32) (b:UInt8) (x y:Int) (hx:x=U n) (aG:y=(b.toNat:Int)) (w:World):
  Calls prog 215 #[.int .u32 x, .int .u8 y] w fun e w'=>e= .returned (.int .u32 (U (take n b)))∧w=w':=by
 subst hx aG;have Φ:=b.toNat_lt;refine atE _ _ _ (Jf _) (agl _) (by omega) (by omega) ?_ w;rw [qg];congr 2;rw [BitVec.ofInt_natCast];exact (BitVec.ofNat_toNat 8 b.toBitVec).trans (BitVec.setWidth_eq _) |>.symm

theorem abx (x:Int):bits BinOp.xor IntKind.u32 IntKind.u32.max x=U (~~~(BitVec.ofInt 32 x)):=by
 refine ON (N0 _ _ _) (NZ _ _ _) ?_;rw [Rv];exact BitVec.allOnes_xor

theorem atI (s:ByteArray) (k:Nat) (h:k<s.size):s.data.toList.take (k+1)=s.data.toList.take k++ [s[k]]:=by
 rw [List.take_succ_eq_append_getElem (by simpa using h)];rfl
theorem Rn (x:Int) (s:ByteArray) (aE:0≤x) (γ:x≤4294967295) (hs:s.size≤9223372036854775807) (w:World):
  Calls prog 189 #[.int .u32 x, .string s] w fun e w'=>e= .returned (.int .u32 (U (more (BitVec.ofInt 32 x) s.data.toList)))∧w=w':=by
 obtain ⟨n,jy⟩:∃ n,Hid (n=BitVec.ofInt 32 x):=⟨_,rfl⟩;have e4:=Lib.hid (abx x);rw [← jy.out] at e4;rw [← jy.out];clear aE γ;go_enter func189,ntmps189;go_wp2
 go_loop [0,10] (fun x i=>∃ k:Nat,k≤s.size∧i= .int .i64 k∧x= .int .u32 (U (fold (~~~n) (s.data.toList.take k)))) (fun _ i=>s.size - (intOf i).toNat)
 case atStart=>exact ⟨0,Nat.zero_le _,rfl,by rw [e4.out];rfl⟩
 case round =>
  obtain ⟨k,av,rfl,rfl⟩:=hrel;by_cases bl:k<s.size
  ·go_wp2_with (go_at_call 215;refine (atD _ s[k] _ _ rfl rfl _).mono ?_;rintro e w' ⟨rfl,rfl⟩)
   go_round
   case rel =>
    refine ⟨k+1,by omega,by go_num, ?_⟩;rw [atI s k bl,akL]
   case measure=>simp [intOf];omega
  ·go_wp2
   go_ret;have amS:k=s.size:=by omega
   exact ⟨acw (by rw [abx,qg,amS,List.take_of_length_le (by simp)];rfl),Z⟩
theorem Rr (s:ByteArray) (hs:s.size≤9223372036854775807) (w:World):
  Calls prog 154 #[.string s] w fun e w'=>e= .returned (.int .u32 (U (of s.data.toList)))∧w=w':=by
 go_enter func154,ntmps154;go_wp2_with (go_at_call 189;refine (Rn _ s (by decide) (by decide) hs _).mono ?_;rintro e w' ⟨rfl,rfl⟩)
 go_ret;exact ⟨Z,Z⟩

end Go.Proofs.YtlikikpgmmkjbaaGreat.k_
namespace Go.Proofs.YtlikikpgmmkjbaaGreat
open Tryz
end Go.Proofs.YtlikikpgmmkjbaaGreat
set_option linter.unusedVariables false
set_option linter.unusedSimpArgs false
namespace Go.Proofs.YtlikikpgmmkjbaaGreat.k_
open Tryz
open Go.RowKit Go.Proofs.YtlikikpgmmkjbaaGreat.hO
def xv (n:BitVec 32):List UInt8:= [UInt8.ofNat n.toNat,UInt8.ofNat (n.toNat / 256),UInt8.ofNat (n.toNat / 65536),UInt8.ofNat (n.toNat / 16777216)]
def sz (s:ByteArray):ByteArray:=s++⟨(xv (of s.data.toList)).toArray⟩
theorem acF (s:ByteArray):(sz s).data.toList=s.data.toList++xv (of s.data.toList):=by
 unfold sz;rw [ByteArray.data_append,Array.toList_append]
theorem L1 (s:ByteArray):(sz s).size=s.size+4:=by
 have h:=congrArg List.length (acF s);rw [List.length_append] at h;simp only [Array.length_toList] at h;exact h

theorem ahS (n:BitVec 32) (u:World):(convert 76 9 (.slice (some ⟨u.heap.size,0,none⟩) 4 4)).run prog (u.alloc (.cells #[.int .u8 (U n % 256), .int .u8 (U n / 256 % 256), .int .u8 (U n / 65536 % 256), .int .u8 (U n / 16777216 % 256)] 5))=
  .ok (.string ⟨(xv n).toArray⟩) (u.alloc (.cells #[.int .u8 (U n % 256), .int .u8 (U n / 256 % 256), .int .u8 (U n / 65536 % 256), .int .u8 (U n / 16777216 % 256)] 5)):=by
 refine run_convert_bytes_back (P:=prog) _ 76 9 5 ⟨u.heap.size,0,none⟩ 4 (xv n) underlying76 underlying5 underlying9 ?_;intro j ay;rw [Vi];have amQ:j<4:=ay;have KA:U n=(n.toNat:Int):=rfl;rw [KA]
 match j,amQ with
 | 0,_=>simp [xv,World.cell?_alloc_new]
 | 1,_=>simp [xv,World.cell?_alloc_new]
 | 2,_=>simp [xv,World.cell?_alloc_new]
 | 3,_=>simp [xv,World.cell?_alloc_new]

theorem R7 (s:ByteArray) (hs:s.size≤9223372036854775800) (w:World):
  Calls prog 115 #[.string s] w fun e w'=>e= .returned (.string (sz s))∧Below w.heap.size w w':=by
 have hcv:=ahS (of s.data.toList);have az:(xv (of s.data.toList)).length≤4:=Nat.le_refl _;go_enter func115,ntmps115;go_wp2_with (go_at_call 154;refine (Rr _ (by omega) _).mono ?_;rintro e w' ⟨rfl,rfl⟩)
 go_ret;exact ⟨Z,(Below.refl _ _).alloc (Nat.le_refl _) _⟩
def kl (s:ByteArray):ByteArray×Int :=
 if s.size<4 then (⟨#[]⟩,3) else if sz (s.extract 0 (s.size - 4))=s then (s.extract 0 (s.size - 4),0) else (⟨#[]⟩,5)

theorem RV {a b:ByteArray×Int} (h:b=a):Ending.returned (.tuple #[.string a.1, .int .i64 a.2])= .returned (.tuple #[.string b.1, .int .i64 b.2]):=by rw [h]

theorem aqM (s:ByteArray) (hs:s.size≤9223372036854775800) (w:World):
  Calls prog 84 #[.string s] w fun e w'=>e= .returned (.tuple #[.string (kl s).1, .int .i64 (kl s).2])∧Below w.heap.size w w':=by
 by_cases a1:s.size<4
 ·have bI:=Lib.hid (show kl s=(⟨#[]⟩,3) by unfold kl;rw [if_pos a1]);go_enter func84,ntmps84;go_wp2_with fail
  go_ret2
  exact ⟨RV bI.out,Below.refl _ _⟩
 ·have hm:((s.size:Int) - 4)=((s.size - 4:Nat):Int):=by omega
  have bw:(s.extract 0 (s.size - 4)).size≤9223372036854775800:=by rw [ByteArray.size_extract];omega
  obtain ⟨m,jy⟩:∃ m,Hid (m=s.size - 4):=⟨_,rfl⟩;rw [← jy.out] at hm bw;have ane:m+4≤s.size:=by have:=jy.out;omega
  have aAe:s.size≤m+4:=by have:=jy.out;omega
  by_cases bO:sz (s.extract 0 m)=s
  ·have bI:=Lib.hid (show kl s=(s.extract 0 m,0) by unfold kl;rw [← jy.out,if_neg a1,if_pos bO]);have alq:=VN bO;have yb:=Lib.hid bO;clear bO;go_enter func84,ntmps84;go_wp2_with (go_at_call 115;refine (R7 _ bw _).mono ?_;rintro e aM ⟨rfl,Φ⟩)
   go_ret2
   exact ⟨RV bI.out,by assumption⟩
  ·have bI:=Lib.hid (show kl s=(⟨#[]⟩,5) by unfold kl;rw [← jy.out,if_neg a1,if_neg bO]);have alq:=VM bO;clear bO;go_enter func84,ntmps84;go_wp2_with (go_at_call 115;refine (R7 _ bw _).mono ?_;rintro e aM ⟨rfl,Φ⟩)
   go_ret2
   exact ⟨RV bI.out,by assumption⟩

theorem aqO (s:ByteArray):kl (sz s)=(s,0):=by
 have γ:(sz s).extract 0 ((sz s).size - 4)=s:=by
  apply N4;rw [Lib.extract_data,acF,L1,List.drop_zero];have e:s.size+4 - 4 - 0=s.data.toList.length:=by simp
  rw [e,List.take_left]
 have aa:=L1 s;unfold kl;rw [if_neg (by omega),γ,if_pos rfl]
theorem aqN (s:ByteArray):(kl s).2=0∧sz (kl s).1=s∨((kl s).2=3∨(kl s).2=5)∧(kl s).1=⟨#[]⟩:=by
 unfold kl;split
 ·exact .inr ⟨.inl Z,Z⟩
 ·split
  ·rename_i h;exact .inl ⟨Z,h⟩
  ·exact .inr ⟨.inr Z,Z⟩
end Go.Proofs.YtlikikpgmmkjbaaGreat.k_
namespace Go.Proofs.YtlikikpgmmkjbaaGreat
open Tryz
section
open Go.RowKit
theorem ahL (A:Option Addr) (len c n:Nat) (w:World) (hn:1≤n):
  Calls prog 86 #[.slice A len c, .int .i64 (n:Int)] w (λ e w'=>∃ eF fK,e= .returned (.func (.func 121) #[] #[.pointer (some ⟨eF,0,none⟩), .pointer (some ⟨fK,0,none⟩)])∧aK w' eF [.slice A len c] 22 (0,0)∧aK w' fK [.int .i64 (n:Int)] 3 (0,0)∧w.heap.size≤eF∧eF<fK∧Ext w w'):=by
 refine cv (n:=9) func86 Z Z Z ?_;refine aj<|cI Z Z Z Z λ dw bC bg eY ab=> ?_;have:=bg.size;have br:=τ (Ext.bM w) bg;have eZ:=ab.lt;refine cI Z Z Z Z λ eB c_ bj iF ai=> ?_;have:=bj.size;have bS:=τ br bj;have iJ:=ai.lt;refine va Z<|ah<|aD<|aj<|J (ak Z (ai.one aZ Z))<|J (blt Z Z)<|ah<| ?_;have kD:(decide ((n:Int)<1))=false:=by rw [decide_eq_false_iff_not];omega
 refine gq (by rw [← kD];rfl)<|bx<|aj<|J (Rk Z Z)<|va Z<|ah<|rt<|bp (.tmp Z .nil)<| ?_;have ab:=ab.later bj;exact ⟨bC,c_,Z,ab,ai,by omega,by omega,bS⟩
theorem ahN (q n len c eF fK:Nat) (A:Option Addr) (w0:World) (hn:1≤n) (hlen:len=q * n) (az5:len≤c) (pb:c≤9223372036854775807) (m:Nat) (TQ:aK w0 eF [.slice A len c] 22 (0,0)) (TR:aK w0 fK [.int .i64 (n:Int)] 3 (0,0)):
  SeqStopsK (iC none) m prog 121 #[.pointer (some ⟨eF,0,none⟩), .pointer (some ⟨fK,0,none⟩)] (λ k:Fin q=>#[.slice (e1 A (k.1 * n+n) (k.1 * n) 1) n n]) (wQ eF fK) (λ xs=>xs=List.finRange q) (λ _=>True) q w0:=by
 intro l hU axx W Φ al4 azQ alC amO;have sT:=TQ.Lg (Φ.block eF TQ.lt);have uX:=TR.Lg (Φ.block fK TR.lt);have vy:AH W.heap.size hU [] W:=⟨al4,amO⟩;refine Rd.aht (n:=31) func121 Z Z Z ?_;refine Rd.aD<|Rd.rg<|va Z<|nl<|Rd.a6<|Rd.bP<| ?_;refine Rd.fe (λ ck ch aS=>∃ k:Nat,ch= [(0, .func (.yield l) #[] #[]),(1, .pointer (some ⟨eF,0,none⟩)),(2, .pointer (some ⟨fK,0,none⟩)),(4, .int .i64 (((k * n:Nat):Int)))]∧ck=q - k∧True∧aK aS eF [.slice A len c] 22 (0,0)∧aK aS fK [.int .i64 (n:Int)] 3 (0,0)∧AH W.heap.size hU ((List.finRange q).take k) aS∧(k≤q)) _ _ ⟨0,Z,Z,trivial,sT,uX,(vy:AH W.heap.size hU [] _),by omega⟩ (.cons Z (.cons Z (.cons Z (.cons (bX Z (by first | omega | rfl | (simp<;>omega))) .nil)))) ?_;rintro Q9 M0 dw ⟨k,rfl,rfl,br,sT,uX,vy,av⟩;have aEd:=sT.lt;have aEl:=uX.lt;have hc:=k;refine Rd.aD<|Rd.aD<|Rd.rg<|vm Z<|J (ak Z (sT.one fl Z))<|J (cW underlying22 Z)<|J (blt Z Z)<|nl<|Rd.a6<| ?_;refine Rd.ef Z (λ l9=> ?_) (λ l9=> ?_)
 ·have DK:k<q:=Nat.lt_of_mul_lt_mul_right (a:=n) (by omega);have Qj:k * n+n≤q * n:=by rw [← Nat.succ_mul];exact Nat.mul_le_mul_right _ DK
  refine Rd.hk<|Rd.a6<|Rd.aD<|Rd.bP<|Rd.aD<| ?_;refine Rd.rd [(0,0),(1,0)] [0,1,2,3,4,5,6] (by kernel_rfl) (by kernel_rfl) ?_;refine bD Z (λ _ x=>ak Z ((uX.later x).one aZ Z))<|bD Z (λ _ x=>ak Z ((sT.later x).one fl Z))<|aq Z (λ _=>aJ Z)<|aq Z (λ _=>asT (k * n) underlying22 cz Z Z Z (by omega))<|aq Z (λ _=>cW underlying22 Z)<|aq Z (λ _=>nb Z Z)<|aq Z (λ _=>eV Z)<|fn λ xY iZ=> ?_;have:=iZ.size;refine Rd.a6<|Rd.aD<|mH.rg<|mH.gR (aJ Z) Z<| ?_;have sT:=sT.later iZ;refine mH.gR (ak Z (sT.one fl Z)) Z<|mH.gR (aJ Z) Z<|mH.gR (aJ Z) Z<|mH.gR (aJ Z) Z<|mH.gR (bad Z Z (bF (by omega))) Z<|mH.gR (aJ Z) Z<|mH.gR (aJ Z) Z<|mH.gR (bad Z Z (bF (by omega))) Z<|mH.gR (asS (k * n) (k * n+n) n underlying22 cz Z Z Z Z Z (by omega) (by omega) (by omega) (by omega) (by omega)) Z<| ?_;have uX:=uX.later iZ;have vy:=vy.later iZ;refine mH.avO Z Z Z (avP (alC _ (⟨k,DK⟩:Fin q) _ vy.at_ (by rw [List.length_take,List.length_finRange];omega)) ?_);rintro e aee jD;obtain ⟨qU,rfl,γ,aa⟩:=avQ jD;refine ⟨_,Z, ?_⟩
  replace γ:qU=true→AH W.heap.size hU ((List.finRange q).take k++ [⟨k,DK⟩]) aee∧wQ eF fK _ aee:=λ h=>⟨⟨vy.NL,(γ h).1⟩,(γ h).2⟩
  refine mH.gR (eo Z) Z<|mH.nl<|Rd.a6<| ?_;refine Rd.fk Z (λ ig=> ?_) (λ ig=> ?_)
  ·refine Rd.rt<|gF<|Rd.cf<|sA<|gF<|bp .nil<| ?_;exact ⟨⟨_,Z⟩, .inr ⟨_,trivial,aa (by simpa using ig)⟩⟩
  ·obtain ⟨alu,gP⟩:=γ (by simpa using ig);have sT:=sT.Lg gP.1;have uX:=uX.Lg gP.2;refine Rd.hk<|Rd.cg<|Rd.a6<|Rd.rg<|vm Z<|J (ak Z (uX.one aZ Z))<|J (bad Z Z (bF (by omega)))<|va Z<|nl<| ?_;exact Rd.du _ _ ⟨k+1,Z,Z,trivial,sT,uX,(by rw [← aku DK];exact alu),by omega⟩ (by omega) (.cons Z (.cons Z (.cons Z (.cons (bX Z (by rw [Nat.succ_mul];omega)) .nil))))
 ·have DK:k=q:=Nat.le_antisymm av (Nat.le_of_mul_le_mul_right (c:=n) (by omega) hn);refine Rd.dG<|Rd.dF<|eb<|Rd.dE<|Rd.ne<|bp .nil<| ?_;exact ⟨⟨_,Z⟩, .inl ⟨_,Z,by have:=vy.at_;rwa [DK,List.take_of_length_le (by rw [List.length_finRange];omega)] at this⟩⟩
end
section
open Go.RowKit
def aEE:κ UInt8:=κ.flat 1 (λ b=> [.int .u8 (b.toNat:Int)]) (λ _=>True) (λ _ u=>∃ n:Int,u= .int .u8 n) (λ _=>rfl) (by intro a u hu;simp at hu;subst hu;rfl) (by
 intro a j u hu;cases j with
 | zero=>simp at hu;exact ⟨_,hu.symm⟩
 | succ j=>simp at hu)
def C5 (l:List UInt8):ByteArray:=⟨l.toArray⟩
section
variable {P:Program} {n:Nat} {E cE:List (Nat×Value)} {w:World} {d:Option Nat} {ty:TypeId} {pos:String} {bn:Array Edge} {g:Option (Nat×Bool)} {x y z u:Operand} {t t2:TypeId}
end
end
section
open Go.RowKit
def as4 (p:Int):UInt8:=([46,35,116,111]:List UInt8).getD p.toNat 0
def asG (f:aC) (k j:Nat):List UInt8:=(((f.aP.drop (k * f.wide.toNat)).take (k * f.wide.toNat+f.wide.toNat - k * f.wide.toNat)).take j).map as4
def txt (f:aC) (pre:List (Fin f.high.toNat)):List UInt8:=pre.flatMap λ k=>asG f k.1 f.wide.toNat++ [10]
theorem ahM (A:Option Addr) (len c:Nat) (i:Int) (w:World) (ao:1≤i):Calls prog 86 #[.slice A len c, .int .i64 i] w (λ e w'=>∃ eF fK,e= .returned (.func (.func 121) #[] #[.pointer (some ⟨eF,0,none⟩), .pointer (some ⟨fK,0,none⟩)])∧aK w' eF [.slice A len c] 22 (0,0)∧aK w' fK [.int .i64 (i.toNat:Int)] 3 (0,0)∧w.heap.size≤eF∧eF<fK∧Ext w w'):=by
 have e:i=(i.toNat:Int):=by omega
 have:=ahL A len c i.toNat w (by omega);rw [← e] at this;rw [← e];exact this
def azo (f:aC):ByteArray:=if f.bh≠0 then C5 [] else C5 (txt f (List.finRange f.high.toNat))
end
section
open Go.RowKit
theorem afV:ff prog bz 22 3 8:=ff.lB (z:= .int .i64 0) (k:=1) underlying22 zi rfl rfl (by decide) (λ j u h=>El j u h)
theorem afU:ff prog aI.rep 44 51 48:=ff.lB (z:=aI.zero) (k:=6) underlying44 aI.info rfl rfl (by decide) aI.lS
def nums (l:List aI):List Int:=l.flatMap λ o=> [o.by_,o.kind,o.aL,o.spot.x,o.spot.y,o.what]
theorem LH:∀ l:List aI,(nums l).length=6 * l.length
 | []=>rfl
 | o::l=>by unfold nums;rw [List.flatMap_cons,List.length_append,List.length_cons];have:=LH l;unfold nums at this;rw [this];simp;omega
theorem aqw {l:List aI} {k:Nat} (h:k<l.length):nums (l.take (k+1))=nums (l.take k)++ [(l.getD k default).by_,(l.getD k default).kind,(l.getD k default).aL,(l.getD k default).spot.x,(l.getD k default).spot.y,(l.getD k default).what]:=by
 unfold nums;rw [zP (d:=default) h,List.flatMap_append];simp
def gS (l:List aI):ByteArray:=if iT l≠0 then C5 [] else k_.sz (Pack.strOf (Pack.oB (nums l)))
theorem aea {l:List aI} (h:¬ iT l=0):gS l=C5 []:=by unfold gS;rw [if_pos h]
theorem SY {l:List aI} (h:iT l=0):gS l=k_.sz (Pack.strOf (Pack.oB (nums l))):=by unfold gS;rw [if_neg (by simpa using h)]
theorem Pack.ab4 (l:List Int):(Pack.oB l).length≤10+10 * l.length:=by
 unfold Pack.oB;rw [List.length_append];have:=(Pack.xI l.length).1;have:=Pack.QK l;omega
theorem ass {w:World} {A:Option Addr} {c:Nat} {l:List Int} (h:bz.aH 8 w A c l):Rd w 1 A l.length (rY l):=by
 obtain ⟨s1,s2,LX,LY,ess,B3,xM⟩:=h;rw [OS B3] at xM;exact xM
theorem aof {w:World} {A:Option Addr} {c:Nat} {l:List Int} (h:bz.aH 8 w A c l):pU l:=λ x hx=>bt.1 (En h x hx)
theorem arM (l:List Int) (A:Option Addr) (c:Nat) (w:World) (hn:l.length≤1000) (h:bz.aH 8 w A c l):Calls prog 92 #[.slice A l.length c] w λ e w'=>e= .returned (.tuple #[.string (Pack.strOf (Pack.oB l)), .int .i64 0])∧Ext w w' :=
 Pack.ab3 A l.length c l rfl hn (aof h) w (ass h)
theorem X2 {s:List UInt8} {out:List Int} {j:Int} (h:Pack.wC s out j):out.length≤1000:=by
 obtain ⟨_,γ,aa⟩:=h;by_cases e:j=0
 ·exact (γ e).2
 ·rw [(aa e).1];exact Nat.zero_le _
theorem aq2 {w:World} {B n c:Nat} {A:Option Addr} {l:List Int} (h:Own w B 3 1 IV (.slice A n c) l.length (rY l)) (az:l.length≤1000) (Kr:pU l):n=l.length∧bz.aF 3 8 w B (κ.af A) A c l:=by
 have hn:n=l.length:=by
  rcases h.2 with ⟨γ,aa⟩ | ⟨g,cap,cur,hv,_⟩
  ·injection γ with _ e _;rw [e,aa]
  ·injection hv
 subst hn;refine ⟨Z,κ.aF.xF (ess:=l.map λ a=> [Value.int .i64 a]) acu (NM λ a ha=>bt.2 (Kr a ha)) (by omega) ?_⟩;have oo:(l.map λ a=> [Value.int .i64 a]).flatten=l.map (Value.int .i64):=OS (w:=w) (NM λ a ha=>bt.2 (Kr a ha));rw [oo];exact h
theorem alc (s:ByteArray) (hs:s.size≤9223372036854775807) (w:World):Calls prog 85 #[.string s] w (λ e w'=>∃ out k A c,Pack.wC s.data.toList out k∧e= .returned (.tuple #[.slice A out.length c, .int .i64 k])∧bz.aF 3 8 w' w.heap.size (κ.af A) A c out∧Ext w w'):=by
 refine (Pack.alb s hs w).mono λ e w' he=> ?_;obtain ⟨out,k,A,n,c,γ,aa,au,a1⟩:=he;obtain ⟨rfl,bO⟩:=aq2 au (X2 γ) γ.1;exact ⟨out,k,A,c,γ,aa,bO,a1⟩
theorem aqP {s:ByteArray} (h:s.size≤140737488351232):(k_.kl s).1.size≤9223372036854775807:=by
 rcases k_.aqN s with ⟨_,aa⟩ | ⟨_,aa⟩
 ·have:=congrArg ByteArray.size aa;rw [k_.L1] at this;omega
 ·rw [aa];decide
def ew (l:List Int) (k:Nat):List Int:=(l.drop (k * 6)).take (k * 6+6 - k * 6)
theorem V8 {l:List Int} {k:Nat} (h:k * 6+6≤l.length):(ew l k).length=6:=by unfold ew;rw [List.length_take,List.length_drop];omega
theorem ahO {l:List Int} (h:∀ a∈l,fE a) (k i:Nat):fE ((ew l k).getD i 0):=by
 by_cases ao:i<(ew l k).length
 ·exact h _ (List.mem_of_mem_drop (List.mem_of_mem_take (lz (d:=0) ao)))
 ·rw [List.getD_eq_getElem?_getD,List.getElem?_eq_none (by omega)];exact bt.2 (by decide)
def uy (n:List Int):aI:=⟨n.getD 0 0,n.getD 1 0,n.getD 2 0,⟨n.getD 3 0,n.getD 4 0⟩,n.getD 5 0⟩
def Ec (out:List Int) (q:Nat):List aI:=(List.finRange q).map λ k=>uy (ew out k.1)
def BX (out:List Int):List aI:=Ec out (out.length / 6)
theorem HJ {out:List Int} {q:Nat} (h:out.length=q * 6):BX out=Ec out q:=by unfold BX;rw [show out.length / 6=q by omega]
def Nz (s:ByteArray) (m:List aI) (k:Int):Prop :=
 ((k_.kl s).2≠0∧m= []∧k=(k_.kl s).2)∨((k_.kl s).2=0∧∃ out j,Pack.wC (k_.kl s).1.data.toList out j∧((j≠0∧m= []∧k=j)∨(j=0∧out.length % 6≠0∧m= []∧k=4)∨
  (j=0∧out.length % 6=0∧((iT (BX out)≠0∧m= []∧k=iT (BX out))∨(iT (BX out)=0∧m=BX out∧k=0)))))
theorem aq5 (A:Option Addr) (c:Nat) (l:List aI) (w:World) (az:aI.rep.aH 48 w A c l):
  Calls prog 79 #[.slice A l.length c] w (λ e w'=>e= .returned (.tuple #[.string (gS l), .int .i64 (iT l)])∧Ext w w'):=by
 have ot:=az.ez;refine cv (n:=49) func79 Z Z Z ?_;refine aj<|va Z<|va Z<|ah<|aD<|aj<|vm Z<|ca Ov Z Z ((Rq _ _ l _ (az.keep (Ext.bM w))).mono ?_);rintro e dw ⟨rfl,gG⟩;refine ⟨_,Z, ?_⟩;have:=gG.size;have br:=τ (Ext.bM w) gG;refine va Z<|ah<|aj<|vm Z<|J (bne Z Z)<|ah<| ?_;refine hg Z (λ mP=> ?_) (λ mP=> ?_)
 ·refine aj<|vm Z<|va Z<|va Z<|ah<|rt<|cf<|bp (.tmp Z (.tmp Z .nil))<| ?_;exact ⟨by rw [aea mP];rfl,br⟩
 ·obtain ⟨amX,_⟩:=HI (by simpa using mP);refine bx<|aj<|va Z<|ah<|aD<|aj<|vm Z<|J (cW underlying44 Z)<|vm Z<|ah<|bP<| ?_;refine fe (λ ck ch aS=>∃ k:Nat,∃ IF:Option Addr,∃ Of:Nat,ch= [(2, .string (C5 [])),(3, .int .i64 0),(5, .slice IF ((nums (l.take k)).length) Of),(15, .slice A l.length c),(16, .int .i64 (l.length:Int)),(17, .int .i64 (k:Int))]∧ck=l.length - k∧Ext w aS∧bz.aF 3 8 aS w.heap.size (κ.af IF) IF Of (nums (l.take k))∧(k≤l.length)) _ _ ⟨0,none,0,Z,Z,br,(κ.aF.nil _),by omega⟩ (.cons Z (.cons Z (.cons Z (.cons Z (.cons Z (.cons (bX Z (by first | omega | rfl | (simp<;>omega))) .nil)))))) ?_;rintro aCD axp avg ⟨k,IF,Of,rfl,rfl,Cu,u6,av⟩;have:=Cu.size;have ady:=λ q I=>(u6.lt q I).2;have aAp:=LH (l.take k);have G0:(l.take k).length=k:=by rw [List.length_take];omega
  refine aj<|J (blt Z Z)<|ah<|aD<| ?_;refine ef Z (λ ig=> ?_) (λ ig=> ?_)
  ·have xn:=aI.AU az _ (lz (d:=default) (show k<l.length by omega));refine bx<|aD<|bP<|aj<|J (bY k underlying44 e6 Z Z ((az.keep Cu).bA (a8 k (by omega))) Z (by omega))<|J (ak Z (κ.aH.ic Gr ((az.keep Cu).cL (a8 k (by omega))) (dO (l:=l) (u:=default) (by omega)) je e6))<|al Z JY Z Z λ B_ FH eC aaY oN=> ?_;have:=eC.size;have pM:=τ Cu eC;have ab7:=oN.lt;refine st (new:= [.int .i64 ((l.getD k default).by_), .int .i64 ((l.getD k default).kind), .int .i64 ((l.getD k default).aL), .int .i64 ((l.getD k default).spot.x), .int .i64 ((l.getD k default).spot.y), .int .i64 ((l.getD k default).what)]) Z Z oN Z e6 Z Z Z λ zV Hw oN=> ?_;have:=Hw.size;have lQ:=Ext.mod pM Hw (bR (by omega));have:=Hw.size;refine ah<|rg<|vm Z<|J (aw w1 Z)<|J (ak Z (oN.one aZ Z))<|J (aw nG Z)<|J (ak Z (oN.one aZ Z))<|J (aw yL Z)<|J (ak Z (oN.one aZ Z))<|J (aw yM Z)<|J (aw gJ Z)<|J (ak Z (oN.one aZ Z))<|J (aw yM Z)<|J (aw hh Z)<|J (ak Z (oN.one aZ Z))<|J (aw yN Z)<|J (ak Z (oN.one aZ Z))<|cH (e:= 3) (cs:= [.int .i64 ((l.getD k default).by_), .int .i64 ((l.getD k default).kind), .int .i64 ((l.getD k default).aL), .int .i64 ((l.getD k default).spot.x), .int .i64 ((l.getD k default).spot.y), .int .i64 ((l.getD k default).what)]) Z (λ _=>by kernel_rfl) Z λ oD C3 fP QW nx=> ?_;have:=fP.size;have fG:=τ lQ fP;have LR:=nx.lt;have u6:=u6.later eC;have u6:=u6.mod Hw (cj ady (by omega));have u6:=u6.later fP;refine ap afV κ.dV u6 (aK.yX (R:=bz) (by_:=8) (k:= [(l.getD k default).by_,(l.getD k default).kind,(l.getD k default).aL,(l.getD k default).spot.x,(l.getD k default).spot.y,(l.getD k default).what]) nx [[.int .i64 ((l.getD k default).by_)], [.int .i64 ((l.getD k default).kind)], [.int .i64 ((l.getD k default).aL)], [.int .i64 ((l.getD k default).spot.x)], [.int .i64 ((l.getD k default).spot.y)], [.int .i64 ((l.getD k default).what)]] Z (⟨⟨Z,(xn.1)⟩,⟨⟨Z,(xn.2.1)⟩,⟨⟨Z,(xn.2.2.1)⟩,⟨⟨Z,(xn.2.2.2.1)⟩,⟨⟨Z,(xn.2.2.2.2.1)⟩,⟨⟨Z,(xn.2.2.2.2.2)⟩,trivial⟩⟩⟩⟩⟩⟩) (by simp) (by simp)) Z Z (by simp only [List.length_cons,List.length_nil];omega) (by simp only [List.length_cons,List.length_nil];omega) fG.size Z λ wb aeO ahi h7 I8 azD aC9=> ?_;have:=h7.size;have iN:=Ext.mod fG h7 (λ q I=>(u6.lt q I).1);have n4:=λ q I=>(I8.lt q I).2;have:=h7.size;refine va Z<|nl<|cg<|a6<|rg<|J (bad Z Z (bF (by omega)))<|vm Z<|nl<| ?_;have aU:nums (l.take (k+1))=nums (l.take k)++ [(l.getD k default).by_,(l.getD k default).kind,(l.getD k default).aL,(l.getD k default).spot.x,(l.getD k default).spot.y,(l.getD k default).what]:=aqw (by omega);exact du _ _ ⟨k+1,aeO,ahi,Z,Z,iN,(by rw [aU];exact I8),by omega⟩ (by omega) (.cons Z (.cons Z (.cons (by rw [aU];rfl) (.cons Z (.cons Z (.cons (bX Z (by first | omega | rfl | (simp<;>omega))) .nil))))))
  ·refine dG<|dF<|eb<|dE<|a6<|aj<|vm Z<|ca Xd Z Z ((arM (nums (l.take k)) _ _ _ (by omega) u6.has).mono ?_);rintro e uJ ⟨rfl,dQ⟩;refine ⟨_,Z, ?_⟩;have:=dQ.size;have k7:=τ Cu dQ;refine vm Z<|J (ex Z Z)<|J (ex Z Z)<|va Z<|va Z<|ah<|aD<|aj<|vm Z<|J (bne Z Z)<|ah<|gq Z<|bx<|aj<|vm Z<|ca ajq Z Z ((k_.R7 _ (by rw [Pack.Es];have:=Pack.ab4 (nums (l.take k));omega) _).mono ?_);rintro e Mr ⟨rfl,aej⟩;refine ⟨_,Z, ?_⟩;have:=aej.size;have uS:=τ k7 aej;refine va Z<|va Z<|ah<|rt<|bp (.tmp Z (.tmp Z .nil))<| ?_;have o6:k=l.length:=by omega
   subst o6;exact ⟨by rw [SY (by simpa using mP),show iT l=0 by simpa using mP,List.take_length];rfl,uS⟩
theorem aqW (s:ByteArray) (w:World) (hs:s.size≤140737488351232):
  Calls prog 55 #[.string s] w (λ e w'=>∃ m k A c,Nz s m k∧e= .returned (.tuple #[.slice A m.length c, .int .i64 k])∧aI.rep.aF 51 48 w' w.heap.size (κ.af A) A c m∧Ext w w'):=by
 refine Rd.cv (m:=5) (n:=61) func55 Z Z Z ?_;refine Rd.aD<|Rd.rg<|va Z<|va Z<|nl<|Rd.a6<|Rd.aD<|Rd.rg<|vm Z<|ca ajr Z Z ((k_.aqM s (by omega) _).mono ?_);rintro e dw ⟨rfl,gG⟩;refine ⟨_,Z, ?_⟩;have:=gG.size;have br:=τ (Ext.bM w) gG;refine vm Z<|J (ex Z Z)<|J (ex Z Z)<|va Z<|va Z<|nl<|Rd.a6<|Rd.aD<|Rd.aD<|Rd.rg<|vm Z<|J (bne Z Z)<|nl<|Rd.a6<| ?_;refine Rd.hg Z (λ mP=> ?_) (λ mP=> ?_)
 ·refine Rd.aD<|Rd.rg<|vm Z<|va Z<|va Z<|nl<|Rd.a6<|Rd.rt<|Rd.cf<|Rd.bp (.tmp Z (.tmp Z .nil))<| ?_;exact ⟨[],_,none,0, .inl ⟨by simpa using mP,rfl,rfl⟩,Z,κ.aF.nil _,br⟩
 ·refine Rd.hk<|Rd.a6<|Rd.aD<|Rd.rg<|vm Z<|ca ajs Z Z ((alc ((k_.kl s).1) (aqP (by omega)) _).mono ?_);rintro e eB ⟨out,j,IC,VS,Gc,rfl,cN,dn⟩;refine ⟨_,Z, ?_⟩;have:=dn.size;have bS:=τ br dn;have Sw:=λ q I=>(cN.lt q I).2;have apy:=λ q I=>(cN.lt q I).1;have amC:=X2 Gc;refine vm Z<|J (ex Z Z)<|J (ex Z Z)<|va Z<|va Z<|nl<|Rd.a6<|Rd.aD<|Rd.aD<|Rd.rg<|vm Z<|J (bne Z Z)<|nl<|Rd.a6<| ?_;refine Rd.hg Z (λ jh=> ?_) (λ jh=> ?_)
  ·refine Rd.aD<|Rd.rg<|vm Z<|va Z<|va Z<|nl<|Rd.a6<|Rd.rt<|Rd.cf<|Rd.bp (.tmp Z (.tmp Z .nil))<| ?_;exact ⟨[],_,none,0, .inr ⟨by simpa using mP,out,j,Gc, .inl ⟨by simpa using jh,rfl,rfl⟩⟩,Z,κ.aF.nil _,bS⟩
  ·have azV:out.length≤1000:=amC;refine Rd.hk<|Rd.a6<|Rd.aD<|Rd.aD<|Rd.rg<|vm Z<|J (cW underlying22 Z)<|J (agY Z Z (by omega) (by omega))<|J (bne Z Z)<|nl<|Rd.a6<| ?_;refine Rd.hg Z (λ kV=> ?_) (λ kV=> ?_)
   ·refine Rd.aD<|Rd.rg<|va Z<|va Z<|nl<|Rd.a6<|Rd.rt<|Rd.cf<|Rd.bp (.tmp Z (.tmp Z .nil))<| ?_;exact ⟨[],_,none,0, .inr ⟨by simpa using mP,out,j,Gc, .inr (.inl ⟨by simpa using jh,by omega,rfl,rfl⟩)⟩,Z,κ.aF.nil _,bS⟩
   ·obtain ⟨q,GN⟩:∃ q,out.length=q * 6:=⟨out.length / 6,by omega⟩;refine Rd.hk<|Rd.a6<|Rd.aD<|Rd.rg<|al Z ajt Z Z λ Ca Jl n7 ao1 II=> ?_;have:=n7.size;have pN:=τ bS n7;have arY:=II.lt;refine nl<|Rd.a6<|Rd.aD<|Rd.aD<|Rd.rg<|vm Z<|ca aju Z Z ((ahM _ _ _ 6 _ (by omega)).mono ?_);rintro e xU ⟨eF,fK,rfl,CL,Uk,ij,aaW,js⟩;refine ⟨_,Z, ?_⟩;have:=js.size;have np:=τ pN js;have nd:=CL.lt;have xJ:=Uk.lt;refine nl<|Rd.a6<|Rd.bP<| ?_;have II:=II.later js;have cN:=cN.later (τ n7 js);refine Rd.bM (enc:=(λ k:Fin q=> .slice (e1 IC (k.1 * 6+6) (k.1 * 6) 1) 6 6)) Z ajv (ahN q 6 out.length VS eF fK IC _ (by omega) GN cN.has.1 cN.has.2.1 _ CL Uk) (by omega) (by omega) (Ext.bM _) (by decide) Z Z (λ pre W=>∃ j9:Option Addr,∃ co:Nat,aK W Jl [.slice j9 (((pre.map λ k=>uy (ew out k.1))).length) co] 44 (0,0)∧aI.rep.aF 51 48 W xU.heap.size (κ.af j9) j9 co ((pre.map λ k=>uy (ew out k.1)))∧bz.aF 3 8 W dw.heap.size (κ.af IC) IC VS (out)∧Mod [Jl] xU W) (by rintro uE axF axG axD ⟨j9,co,k8,ei,cN,avW⟩ Lm Dw;exact ⟨j9,co,k8.mod Lm (λ I=>(Dw _ I).2 _ _ _ k8),ei.mod Lm (λ q I hs=>by obtain ⟨_,_,_,hc⟩:=ei.JG q I;exact (Dw q hs).2 _ _ _ hc),cN.mod Lm (λ q I hs=>by obtain ⟨_,_,_,hc⟩:=cN.JG q I;exact (Dw q hs).2 _ _ _ hc),avW.md Lm (λ q I=> .inr (Dw q I).1)⟩) ⟨none,0,II,κ.aF.nil _,cN,Mod.bM _ _⟩ ?_ ?_
    ·intro aBi pre dx adD Ps KT;obtain ⟨j9,co,k8,ei,cN,S2⟩:=Ps;have vB:∀ q∈ [Jl],w.heap.size≤q:=λ q I=>by rw [List.mem_singleton.1 I];omega
     have tH:u3 xU.heap.size adD adD:=u3.bM _ _;have:=S2.size;have arZ:=k8.lt;have Mg:=λ q I=>(ei.lt q I).2;have Hq:=λ q I=>(ei.lt q I).1;have Ex:=λ q I=>(cN.lt q I).2;have Ll:=λ q I=>(cN.lt q I).1;have hx:=dx.2;have G2:dx.1 * 6+6≤q * 6:=by omega
     have aAu:pre.length<q:=KT;have om:=V8 (l:=out) (k:=dx.1) (by omega);have DM:=λ i=>ahO (En cN.has) dx.1 i;have q9:((pre.map λ k=>uy (ew out k.1))).length=pre.length:=List.length_map _;refine Rd.bP<| ?_;refine Rd.rd [(0,0),(3,0),(6,0),(9,0),(12,0),(15,0),(19,0),(21,2),(22,3),(23,3)] [0,1,2,3,4,5,6,7,8,9,10,11,12,13,14,15,16,17,18,19,20,21,22,23] (by kernel_rfl) (by kernel_rfl) ?_;refine bD Z (λ _ x=>ak Z ((k8.later x).one tA Z))<|aq Z (λ _=>aJ Z)<|aq Z (λ _=>bY 0 underlying22 cz Z Z ((cN.has.chunk (dx.1 * 6) (dx.1 * 6+6) (by omega) (by omega)).bA (a8 0 (by first | (rw [List.length_take,List.length_drop];omega) | omega))) Z (by omega))<|bD Z (λ _ x=>ak Z (κ.aH.e9 fo (((cN.later x).has.chunk (dx.1 * 6) (dx.1 * 6+6) (by omega) (by omega)).cL (a8 0 (by first | (rw [List.length_take,List.length_drop];omega) | omega))) (dO (l:=ew out dx.1) (u:=0) (by first | (rw [List.length_take,List.length_drop];omega) | omega)) Z aZ))<|aq Z (λ _=>aJ Z)<|aq Z (λ _=>bY 1 underlying22 cz Z Z ((cN.has.chunk (dx.1 * 6) (dx.1 * 6+6) (by omega) (by omega)).bA (a8 1 (by first | (rw [List.length_take,List.length_drop];omega) | omega))) Z (by omega))<|bD Z (λ _ x=>ak Z (κ.aH.e9 fo (((cN.later x).has.chunk (dx.1 * 6) (dx.1 * 6+6) (by omega) (by omega)).cL (a8 1 (by first | (rw [List.length_take,List.length_drop];omega) | omega))) (dO (l:=ew out dx.1) (u:=0) (by first | (rw [List.length_take,List.length_drop];omega) | omega)) Z aZ))<|aq Z (λ _=>aJ Z)<|aq Z (λ _=>bY 2 underlying22 cz Z Z ((cN.has.chunk (dx.1 * 6) (dx.1 * 6+6) (by omega) (by omega)).bA (a8 2 (by first | (rw [List.length_take,List.length_drop];omega) | omega))) Z (by omega))<|bD Z (λ _ x=>ak Z (κ.aH.e9 fo (((cN.later x).has.chunk (dx.1 * 6) (dx.1 * 6+6) (by omega) (by omega)).cL (a8 2 (by first | (rw [List.length_take,List.length_drop];omega) | omega))) (dO (l:=ew out dx.1) (u:=0) (by first | (rw [List.length_take,List.length_drop];omega) | omega)) Z aZ))<|aq Z (λ _=>aJ Z)<|aq Z (λ _=>bY 3 underlying22 cz Z Z ((cN.has.chunk (dx.1 * 6) (dx.1 * 6+6) (by omega) (by omega)).bA (a8 3 (by first | (rw [List.length_take,List.length_drop];omega) | omega))) Z (by omega))<|bD Z (λ _ x=>ak Z (κ.aH.e9 fo (((cN.later x).has.chunk (dx.1 * 6) (dx.1 * 6+6) (by omega) (by omega)).cL (a8 3 (by first | (rw [List.length_take,List.length_drop];omega) | omega))) (dO (l:=ew out dx.1) (u:=0) (by first | (rw [List.length_take,List.length_drop];omega) | omega)) Z aZ))<|aq Z (λ _=>aJ Z)<|aq Z (λ _=>bY 4 underlying22 cz Z Z ((cN.has.chunk (dx.1 * 6) (dx.1 * 6+6) (by omega) (by omega)).bA (a8 4 (by first | (rw [List.length_take,List.length_drop];omega) | omega))) Z (by omega))<|bD Z (λ _ x=>ak Z (κ.aH.e9 fo (((cN.later x).has.chunk (dx.1 * 6) (dx.1 * 6+6) (by omega) (by omega)).cL (a8 4 (by first | (rw [List.length_take,List.length_drop];omega) | omega))) (dO (l:=ew out dx.1) (u:=0) (by first | (rw [List.length_take,List.length_drop];omega) | omega)) Z aZ))<|r7 (v:= .agg #[.int .i64 ((ew out dx.1).getD 3 0), .int .i64 ((ew out dx.1).getD 4 0)]) Z Z (λ _=>cO Z (by kernel_rfl)) Z<|aq Z (λ _=>aJ Z)<|aq Z (λ _=>bY 5 underlying22 cz Z Z ((cN.has.chunk (dx.1 * 6) (dx.1 * 6+6) (by omega) (by omega)).bA (a8 5 (by first | (rw [List.length_take,List.length_drop];omega) | omega))) Z (by omega))<|bD Z (λ _ x=>ak Z (κ.aH.e9 fo (((cN.later x).has.chunk (dx.1 * 6) (dx.1 * 6+6) (by omega) (by omega)).cL (a8 5 (by first | (rw [List.length_take,List.length_drop];omega) | omega))) (dO (l:=ew out dx.1) (u:=0) (by first | (rw [List.length_take,List.length_drop];omega) | omega)) Z aZ))<|r7 (v:= .agg #[.int .i64 ((ew out dx.1).getD 0 0), .int .i64 ((ew out dx.1).getD 1 0), .int .i64 ((ew out dx.1).getD 2 0), .int .i64 ((ew out dx.1).getD 3 0), .int .i64 ((ew out dx.1).getD 4 0), .int .i64 ((ew out dx.1).getD 5 0)]) Z Z (λ _=>cO Z (by kernel_rfl)) Z<|gu Z Z Z λ wb ho Q hK=>cH (e:= 51) (cs:= [.int .i64 ((ew out dx.1).getD 0 0), .int .i64 ((ew out dx.1).getD 1 0), .int .i64 ((ew out dx.1).getD 2 0), .int .i64 ((ew out dx.1).getD 3 0), .int .i64 ((ew out dx.1).getD 4 0), .int .i64 ((ew out dx.1).getD 5 0)]) Z (λ _=>by kernel_rfl) Z λ zX ax8 kI aBJ T9=>hK _ _ ⟨τ ho kI, ?_⟩;have:=ho.size;have iN:=S2.trans (Mod.bG ho);have:=kI.size;have nu:=iN.trans (Mod.bG kI);have aca:=T9.lt;have ei:=ei.later (τ ho kI);have ara:=ei;refine fc Z Z Z λ uJ dQ Q hK=>ap afU κ.dV (ei.later dQ) ((aK.gv (R:=aI.rep) (by_:=48) (q:=(⟨(ew out dx.1).getD 0 0,(ew out dx.1).getD 1 0,(ew out dx.1).getD 2 0,⟨(ew out dx.1).getD 3 0,(ew out dx.1).getD 4 0⟩,(ew out dx.1).getD 5 0⟩:aI)) T9 ⟨Z,⟨DM 0,DM 1,DM 2,DM 3,DM 4,DM 5⟩⟩ (by decide)).keep dQ) Z Z (by simp only [List.length_cons,List.length_nil];omega) (by simp only [List.length_cons,List.length_nil];omega) (by have:=dQ.size;omega) Z λ Mr TL VX qc qR ak6 aDb=>hK _ _ ?_;have:=dQ.size;have k7:=nu.trans (Mod.bG dQ);have:=qc.size;have uS:=k7.md qc (λ q I=> .inr ((λ q I=>Nat.le_trans (by omega) ((ei.later dQ).lt q I).1) q I));have B8:=λ q I=>(qR.lt q I).2;have:=qc.size;have k8:=k8.later (τ ho (τ kI dQ));have lg:∀ q∈κ.af j9,q=Jl→False:=λ q I Φ=>by (have:=Hq q I;omega)
     have k8:=k8.mod qc (λ I=>lg _ I rfl);have arb:=k8;refine fc Z Z Z λ SI jJ Q hK=>st (new:= [.slice TL (((pre.map λ k=>uy (ew out k.1))++ [(⟨(ew out dx.1).getD 0 0,(ew out dx.1).getD 1 0,(ew out dx.1).getD 2 0,⟨(ew out dx.1).getD 3 0,(ew out dx.1).getD 4 0⟩,(ew out dx.1).getD 5 0⟩:aI)]).length) VX]) Z Z (k8.later jJ) Z p2 Z Z Z λ sF mZ k8=>hK _ _ ?_;have:=jJ.size;have Cv:=uS.trans (Mod.bG jJ);have:=mZ.size;have jN:=Cv.md mZ (λ q I=> .inl I);have:=mZ.size;refine fn λ H7 iY=> ?_;have:=iY.size;have rL:=jN.trans (Mod.bG iY);refine Rd.cg<| ?_;have tH:=tH.later (τ ho (τ kI dQ));have tH:=tH.mod qc (λ q I=>(ara.later dQ).JG q I);have tH:=tH.later jJ;have tH:=tH.mod mZ (λ q I=>by rw [List.mem_singleton.1 I];exact ⟨_,_,_,(arb.later jJ)⟩);have tH:=tH.later iY;have k8:=k8.later iY;have qR:=qR.later jJ;have qR:=qR.mod mZ (λ q I h=>by have Φ:=List.mem_singleton.1 h;exfalso;(exact Or.elim (ak6 q I) (λ Hk=>by (exact lg q Hk Φ)) (λ Hk=>by omega)));have qR:=qR.later iY;have cN:=cN.later (τ ho (τ kI dQ));have cN:=cN.mod qc (λ q I h=>by exfalso;(have:=Hq q h;(have:=Ex q I;have:=Sw q I;omega)));have cN:=cN.later jJ;have cN:=cN.mod mZ (λ q I h=>by have Φ:=List.mem_singleton.1 h;exfalso;(have:=Ex q I;have:=Sw q I;omega));have cN:=cN.later iY;exact λ _ _=>⟨tH,Mod.aoN S2 rL ⟨by omega,by omega⟩ (bb (by omega)) (bb (by omega)),⟨TL,VX,(by rw [List.map_append];exact k8),(by rw [List.map_append];exact qR),cN,rL⟩⟩
    ·intro D avN aFG azL Dw Ps vx;obtain ⟨j9,co,k8,ei,cN,aen⟩:=Ps;have Pz:avN=List.finRange q:=Dw;subst Pz;have:=aen.size;have avU:=Ext.mod np aen (λ q I=>by rw [List.mem_singleton.1 I];omega);refine fA.cg<|fA.a6<|fA.aD<|fA.aD<|fA.rg<|fA.gR (ak Z (k8.one tA Z)) Z<|fA.ca Ov Z Z ((Rq _ _ (Ec out q) _ ei.has).mono ?_);rintro e avj ⟨rfl,j5⟩;refine ⟨_,Z, ?_⟩;have:=j5.size;have MK:=τ avU j5;refine fA.gR (eV Z) Z<|fA.nl<|fA.a6<|fA.aD<|fA.rg<|fA.gR (aJ Z) Z<|fA.gR (bne Z Z) Z<|fA.nl<|fA.a6<| ?_;refine fA.hg Z (λ PR=> ?_) (λ PR=> ?_)
     ·refine fA.aD<|fA.rg<|fA.gR (aJ Z) Z<|fA.gR (eV Z) Z<|fA.gR (eV Z) Z<|fA.nl<|fA.a6<|fA.rt<|fA.cf<| ?_;have vx:=vx.later j5;refine fA.bp vx (.tmp Z (.tmp Z .nil))<| ?_;exact ⟨[],_,none,0, .inr ⟨by simpa using mP,out,j,Gc, .inr (.inr ⟨by simpa using jh,by omega, .inl ⟨by rw [HJ GN];simpa using PR,rfl,by rw [HJ GN]⟩⟩)⟩,Z,κ.aF.nil _,Ext.mod MK vx.un (λ q I=>by rw [List.mem_singleton.1 I];omega)⟩
     ·refine fA.hk<|fA.a6<|fA.aD<|fA.rg<| ?_;have k8:=k8.later j5;refine fA.gR (ak Z (k8.one tA Z)) Z<|fA.gR (eV Z) Z<|fA.gR (eV Z) Z<|fA.nl<|fA.a6<|fA.rt<| ?_;have vx:=vx.later j5;refine fA.bp vx (.tmp Z (.tmp Z .nil))<| ?_;have ei:=ei.later j5;exact ⟨_,_,j9,co, .inr ⟨by simpa using mP,out,j,Gc, .inr (.inr ⟨by simpa using jh,by omega, .inr ⟨by rw [HJ GN];simpa using PR,(HJ GN).symm,rfl⟩⟩)⟩,rfl,(ei.down (by omega)).mod vx.un (λ j1 γ aa=>by have au:=List.mem_singleton.1 aa;subst au;obtain ⟨_,_,_,hc⟩:=ei.JG _ γ;rw [show _=_ from vx] at hc;exact nomatch hc),Ext.mod MK vx.un (λ q I=>by rw [List.mem_singleton.1 I];omega)⟩
end
end Go.Proofs.YtlikikpgmmkjbaaGreat
