import Derived.Test.YtmeeljmapailnaaGreatOdr
set_option linter.unusedVariables false
set_option linter.unusedSimpArgs false
set_option maxRecDepth 100000
set_option maxHeartbeats 4000000
open Go.RowKit
namespace Go.Proofs.YtmeeljmapailnaaGreat
open Tryz
abbrev aU4:=@List.flatMap_append
abbrev aVf:=@List.flatMap_cons
abbrev aVZ:=@List.flatMap_nil
abbrev aYh:=@Option.map_eq_none_iff
section
theorem ap1:G6 prog aN.cells 69 :=by
 intro a b w;obtain ⟨a0,cF,a2,⟨a3,a4⟩,a5⟩:=a;obtain ⟨Hr,hL,dH,⟨gy,y9⟩,Hs⟩:=b;simp only [aN.cells,aN.mk.injEq,az.mk.injEq];constructor
 ·go_simp
  repeat' split
  all_goals simp_all
 ·go_simp
  repeat' split
  all_goals simp_all
theorem ap0:(prog).eqGuardType (prog).depth 69 =false:=by kernel_rfl
theorem Fz {w:World} {cs:List Value} {a:aN} (h:aN.rep.has w cs a):cs=a.cells:=aVP (show cs=a.cells∧a.ok from h)
def aN.bare (o:aN):aN:=⟨o.by_,o.kind,if o.kind=5 then 0 else o.aW,if o.kind≠2∧o.kind≠3 then ⟨0,0⟩ else o.spot,if o.kind≠1∧o.kind≠5 then 0 else o.what⟩
def aN.I5 (o:aN):Bool:= !c9 o.by_ 0 7 || !c9 o.kind 1 5 || !c9 o.aW 0 1000000 || !c9 o.spot.x (-1000) 1000 || !c9 o.spot.y (-1000) 1000 || !c9 o.what 0 1000000
def aN.bn (o:aN):Int:=if o.I5=true then 1 else if (!decide (o.bare=o))=true then 4 else 0
theorem aN.adm {o:aN} (h:o.I5=true):o.bn=1:=by unfold aN.bn;rw [aTO h]
theorem aN.asm {o:aN} (h:o.I5=false) (ae:(!decide (o.bare=o))=true):o.bn=4:=by unfold aN.bn;rw [aTL (by rw [h];decide),aTO ae]
theorem aN.asn {o:aN} (h:o.I5=false) (ae:(!decide (o.bare=o))=false):o.bn=0:=by unfold aN.bn;rw [aTL (by rw [h];decide),aTL (by rw [ae];decide)]
def iG (l:List aN):Int:=if 100<l.length then 2 else match l.find? (λ o=>o.bn != 0) with | some o=>o.bn | none=>0
theorem aCP {l:List aN} (h:100<l.length):iG l=2:=by unfold iG;rw [aTO h]
theorem aCQ {l:List aN} (h:l.length≤100) (aM:∀ i,i<l.length→(l.getD i default).bn=0):iG l=0:=by
 unfold iG;rw [aTL (by omega)];have:l.find? (λ o=>o.bn != 0)=none:=aU7.2 λ x hx=>by
  obtain ⟨i,ar,rfl⟩:=aUB.1 hx;have:=aM i ar;rw [mO ar] at this;simp [this]
 rw [this]
theorem aCO {l:List aN} {k:Nat} (h:l.length≤100) (au:k<l.length) (aM:∀ i,i<k→(l.getD i default).bn=0) (γ:¬ (l.getD k default).bn=0):iG l=(l.getD k default).bn:=by
 unfold iG;rw [aTL (by omega)];have:l.find? (λ o=>o.bn != 0)=some (l.getD k default):=by
  rw [aWk];refine ⟨by simpa using γ,k,au,(mO au).symm,λ j aA=> ?_⟩;have:=aM j aA;rw [mO (by omega)] at this;simp [this]
 rw [this]
theorem I6 (n lo ar:Int) (w:World):
  Calls prog 130 #[J n,J lo,J ar] w (λ e w'=>e= .returned (.bool (c9 n lo ar))∧Ext w w'):=by
 refine b' (n:=15) func130 Z Z Z ?_;refine ah<|va Z<|ag<|ah<|vm Z<|vm Z<|Φ (j_ Z Z)<|vm Z<|eN Z Z<|eN Z Z<|bh Z (λ hc=>ble (gt hc Z) (gt hc Z))<|Φ (dv Z Z Z Z)<|va Z<|ag<|rt<|aV (.tmp Z .nil)<| ?_;exact ⟨Z,(Ext.bg w)⟩
theorem aCt (o:aN) (w:World):
  Calls prog 131 #[.agg #[J o.by_,J o.kind,J o.aW,J o.spot.x,J o.spot.y,J o.what]] w (λ e w'=>e= .returned (.agg (aN.bare o).cells.toArray)∧Ext w w'):=by
 refine b' (n:=27) func131 Z Z Z ?_;refine ah<|ck Z Z Z Z λ cK bR bq dU ai=> ?_;have ba:=ab (Ext.bg w) bq;have ib:=ai.lt;refine al Z P5 Z Z λ ea cC br gO ax=> ?_;have bE:=ab ba br;refine ag<|ay<|ah<|Φ (av pK Z)<| ?_;have ai:=ai.later br;refine Φ (ao Z (ai.one a6 Z))<|Φ (beq Z Z)<|ag<| ?_;refine jo Z (λ iT=> ?_) (λ iT=> ?_)
 ·refine rg<|Φ (av C8 Z)<|fb Z Z ai Z dI Z Z λ wk ur ai=> ?_;have km:=Ext.mod bE ur bC;refine ag<|ay<|ah<|Φ (av pK Z)<|Φ (ao Z (ai.one a6 Z))<|Φ (bne Z Z)<|vm Z<|bh Z (λ hc=>av pK Z)<|bh Z (λ hc=>ao (gt hc Z) (ai.one a6 Z))<|bh Z (λ hc=>bne (gt hc Z) Z)<|Φ (dv Z Z Z Z)<|ag<| ?_;refine dn Z (λ Bn=> ?_) (λ Bn=> ?_)
  ·simp only [ch] at Bn;refine rg<|Φ (v:= .agg #[J 0,J 0]) (cY Z (by kernel_rfl))<|Φ (av C9 Z)<|st (new:= [J o.by_,J o.kind,J 0,J 0,J 0,J o.what]) Z Z ai Z b2 Z Z Z λ wm p8 ai=> ?_;have jB:=Ext.mod km p8 bC;refine ag<|ay<|ah<|Φ (av pK Z)<|Φ (ao Z (ai.one a6 Z))<|Φ (bne Z Z)<|vm Z<|bh Z (λ hc=>av pK Z)<|bh Z (λ hc=>ao (gt hc Z) (ai.one a6 Z))<|bh Z (λ hc=>bne (gt hc Z) Z)<|Φ (dv Z Z Z Z)<|ag<| ?_;refine dn Z (λ oV=> ?_) (λ oV=> ?_)
   ·simp only [ch] at oV;refine rg<|Φ (av C_ Z)<|fb Z Z ai Z dI Z Z λ Ag jh ai=> ?_;have oB:=Ext.mod jB jh bC;refine ag<|ah<|Φ (ao Z (ai.all jc fl))<| ?_;have ax:=((ax.mod ur aQ).mod p8 aQ).mod jh aQ;refine st (new:= [J o.by_,J o.kind,J 0,J 0,J 0,J 0]) Z Z ax Z fl Z Z Z λ B7 vT ax=> ?_;have pq:=Ext.mod oB vT bC;refine ag<|rt<|aV (.cell Z (ax.all jc fl) .nil)<| ?_;exact ⟨by rw [show aN.bare o=(⟨o.by_,o.kind,0,⟨0,0⟩,0⟩:aN) from by unfold aN.bare;congr 1<;>(first | rfl | (split<;>first | rfl | omega))];rfl,pq⟩
   ·simp only [ch] at oV;refine bl<|ah<|Φ (ao Z (ai.all jc fl))<| ?_;have ax:=(ax.mod ur aQ).mod p8 aQ;refine st (new:= [J o.by_,J o.kind,J 0,J 0,J 0,J o.what]) Z Z ax Z fl Z Z Z λ Eb mW ax=> ?_;have pw:=Ext.mod jB mW bC;refine ag<|rt<|aV (.cell Z (ax.all jc fl) .nil)<| ?_;exact ⟨by rw [show aN.bare o=(⟨o.by_,o.kind,0,⟨0,0⟩,o.what⟩:aN) from by unfold aN.bare;congr 1<;>(first | rfl | (split<;>first | rfl | omega))];rfl,pw⟩
  ·simp only [ch] at Bn;refine bl<|ay<|ah<|Φ (av pK Z)<|Φ (ao Z (ai.one a6 Z))<|Φ (bne Z Z)<|vm Z<|bh Z (λ hc=>av pK Z)<|bh Z (λ hc=>ao (gt hc Z) (ai.one a6 Z))<|bh Z (λ hc=>bne (gt hc Z) Z)<|Φ (dv Z Z Z Z)<|ag<| ?_;refine dn Z (λ pR=> ?_) (λ pR=> ?_)
   ·simp only [ch] at pR;refine rg<|Φ (av C_ Z)<|fb Z Z ai Z dI Z Z λ tj lS ai=> ?_;have kn:=Ext.mod km lS bC;refine ag<|ah<|Φ (ao Z (ai.all jc fl))<| ?_;have ax:=(ax.mod ur aQ).mod lS aQ;refine st (new:= [J o.by_,J o.kind,J 0,J o.spot.x,J o.spot.y,J 0]) Z Z ax Z fl Z Z Z λ yl o9 ax=> ?_;have ko:=Ext.mod kn o9 bC;refine ag<|rt<|aV (.cell Z (ax.all jc fl) .nil)<| ?_;exact ⟨by rw [show aN.bare o=(⟨o.by_,o.kind,0,⟨o.spot.x,o.spot.y⟩,0⟩:aN) from by unfold aN.bare;congr 1<;>(first | rfl | (split<;>first | rfl | omega))];rfl,ko⟩
   ·simp only [ch] at pR;refine bl<|ah<|Φ (ao Z (ai.all jc fl))<| ?_;have ax:=ax.mod ur aQ;refine st (new:= [J o.by_,J o.kind,J 0,J o.spot.x,J o.spot.y,J o.what]) Z Z ax Z fl Z Z Z λ Ec lT ax=> ?_;have px:=Ext.mod km lT bC;refine ag<|rt<|aV (.cell Z (ax.all jc fl) .nil)<| ?_;exact ⟨by rw [show aN.bare o=(⟨o.by_,o.kind,0,⟨o.spot.x,o.spot.y⟩,o.what⟩:aN) from by unfold aN.bare;congr 1<;>(first | rfl | (split<;>first | rfl | omega))];rfl,px⟩
 ·refine bl<|ay<|ah<|Φ (av pK Z)<|Φ (ao Z (ai.one a6 Z))<|Φ (bne Z Z)<|vm Z<|bh Z (λ hc=>av pK Z)<|bh Z (λ hc=>ao (gt hc Z) (ai.one a6 Z))<|bh Z (λ hc=>bne (gt hc Z) Z)<|Φ (dv Z Z Z Z)<|ag<| ?_;refine dn Z (λ rJ=> ?_) (λ rJ=> ?_)
  ·simp only [ch] at rJ;refine rg<|Φ (v:= .agg #[J 0,J 0]) (cY Z (by kernel_rfl))<|Φ (av C9 Z)<|st (new:= [J o.by_,J o.kind,J o.aW,J 0,J 0,J o.what]) Z Z ai Z b2 Z Z Z λ GA hQ ai=> ?_;have py:=Ext.mod bE hQ bC;refine ag<|ay<|ah<|Φ (av pK Z)<|Φ (ao Z (ai.one a6 Z))<|Φ (bne Z Z)<|vm Z<|bh Z (λ hc=>av pK Z)<|bh Z (λ hc=>ao (gt hc Z) (ai.one a6 Z))<|bh Z (λ hc=>bne (gt hc Z) Z)<|Φ (dv Z Z Z Z)<|ag<| ?_;refine dn Z (λ Lu=> ?_) (λ Lu=> ?_)
   ·simp only [ch] at Lu;refine rg<|Φ (av C_ Z)<|fb Z Z ai Z dI Z Z λ q4 lU ai=> ?_;have iw:=Ext.mod py lU bC;refine ag<|ah<|Φ (ao Z (ai.all jc fl))<| ?_;have ax:=(ax.mod hQ aQ).mod lU aQ;refine st (new:= [J o.by_,J o.kind,J o.aW,J 0,J 0,J 0]) Z Z ax Z fl Z Z Z λ JB F7 ax=> ?_;have q8:=Ext.mod iw F7 bC;refine ag<|rt<|aV (.cell Z (ax.all jc fl) .nil)<| ?_;exact ⟨by rw [show aN.bare o=(⟨o.by_,o.kind,o.aW,⟨0,0⟩,0⟩:aN) from by unfold aN.bare;congr 1<;>(first | rfl | (split<;>first | rfl | omega))];rfl,q8⟩
   ·simp only [ch] at Lu;refine bl<|ah<|Φ (ao Z (ai.all jc fl))<| ?_;have ax:=ax.mod hQ aQ;refine st (new:= [J o.by_,J o.kind,J o.aW,J 0,J 0,J o.what]) Z Z ax Z fl Z Z Z λ JD DN ax=> ?_;have q_:=Ext.mod py DN bC;refine ag<|rt<|aV (.cell Z (ax.all jc fl) .nil)<| ?_;exact ⟨by rw [show aN.bare o=(⟨o.by_,o.kind,o.aW,⟨0,0⟩,o.what⟩:aN) from by unfold aN.bare;congr 1<;>(first | rfl | (split<;>first | rfl | omega))];rfl,q_⟩
  ·simp only [ch] at rJ;refine bl<|ay<|ah<|Φ (av pK Z)<|Φ (ao Z (ai.one a6 Z))<|Φ (bne Z Z)<|vm Z<|bh Z (λ hc=>av pK Z)<|bh Z (λ hc=>ao (gt hc Z) (ai.one a6 Z))<|bh Z (λ hc=>bne (gt hc Z) Z)<|Φ (dv Z Z Z Z)<|ag<| ?_;refine dn Z (λ Lx=> ?_) (λ Lx=> ?_)
   ·simp only [ch] at Lx;refine rg<|Φ (av C_ Z)<|fb Z Z ai Z dI Z Z λ NN kV ai=> ?_;have yB:=Ext.mod bE kV bC;refine ag<|ah<|Φ (ao Z (ai.all jc fl))<| ?_;have ax:=ax.mod kV aQ;refine st (new:= [J o.by_,J o.kind,J o.aW,J o.spot.x,J o.spot.y,J 0]) Z Z ax Z fl Z Z Z λ JE s4 ax=> ?_;have tD:=Ext.mod yB s4 bC;refine ag<|rt<|aV (.cell Z (ax.all jc fl) .nil)<| ?_;exact ⟨by rw [show aN.bare o=(⟨o.by_,o.kind,o.aW,⟨o.spot.x,o.spot.y⟩,0⟩:aN) from by unfold aN.bare;congr 1<;>(first | rfl | (split<;>first | rfl | omega))];rfl,tD⟩
   ·simp only [ch] at Lx;refine bl<|ah<|Φ (ao Z (ai.all jc fl))<|st (new:= [J o.by_,J o.kind,J o.aW,J o.spot.x,J o.spot.y,J o.what]) Z Z ax Z fl Z Z Z λ amP aBF ax=> ?_;have Oh:=Ext.mod bE aBF bC;refine ag<|rt<|aV (.cell Z (ax.all jc fl) .nil)<| ?_;exact ⟨by rw [show aN.bare o=(⟨o.by_,o.kind,o.aW,⟨o.spot.x,o.spot.y⟩,o.what⟩:aN) from by unfold aN.bare;congr 1<;>(first | rfl | (split<;>first | rfl | omega))];rfl,Oh⟩
theorem Za (o:aN) (w:World):
  Calls prog 94 #[.agg #[J o.by_,J o.kind,J o.aW,J o.spot.x,J o.spot.y,J o.what]] w (λ e w'=>e= .returned (J o.bn)∧Ext w w'):=by
 refine b' (n:=43) func94 Z Z Z ?_;refine ah<|ck Z Z Z Z λ cK bR bq dU ai=> ?_;have ba:=ab (Ext.bg w) bq;refine va Z<|ag<|ay<|ah<|Φ (av rB Z)<|Φ (ao Z (ai.one a6 Z))<|ca HK Z Z ((I6 o.by_ 0 7 _).mono ?_);rintro e ea ⟨rfl,cZ⟩;refine ⟨_,Z, ?_⟩;have bE:=ab ba cZ;refine Φ (ek Z)<|vm Z<|bh Z (λ hc=>av pK Z)<| ?_;have ai:=ai.later cZ;refine bh Z (λ hc=>ao (gt hc Z) (ai.one a6 Z))<|nM Z HK (λ hc=>ez (gt hc Z) (ez Z (ez Z Z))) (λ hc=>I6 o.kind 1 5 _) λ td ox=> ?_;have jA:=ab bE ox;refine bh Z (λ hc=>ek (gt hc Z))<|Φ (fC Z Z Z Z)<|vm Z<|bh Z (λ hc=>av C8 Z)<| ?_;have ai:=ai.later ox;refine bh Z (λ hc=>ao (gt hc Z) (ai.one a6 Z))<|nM Z HK (λ hc=>ez (gt hc Z) (ez Z (ez Z Z))) (λ hc=>I6 o.aW 0 1000000 _) λ B5 qm=> ?_;have m_:=ab jA qm;refine bh Z (λ hc=>ek (gt hc Z))<|Φ (fC Z Z Z Z)<|vm Z<|bh Z (λ hc=>av C9 Z)<|bh Z (λ hc=>av jb (gt hc Z))<| ?_;have ai:=ai.later qm;refine bh Z (λ hc=>ao (gt hc Z) (ai.one a6 Z))<|nM Z HK (λ hc=>ez (gt hc Z) (ez Z (ez Z Z))) (λ hc=>I6 o.spot.x (-1000) 1000 _) λ Gw ph=> ?_;have na:=ab m_ ph;refine bh Z (λ hc=>ek (gt hc Z))<|Φ (fC Z Z Z Z)<|vm Z<|bh Z (λ hc=>av C9 Z)<|bh Z (λ hc=>av jd (gt hc Z))<| ?_;have ai:=ai.later ph;refine bh Z (λ hc=>ao (gt hc Z) (ai.one a6 Z))<|nM Z HK (λ hc=>ez (gt hc Z) (ez Z (ez Z Z))) (λ hc=>I6 o.spot.y (-1000) 1000 _) λ yj iu=> ?_;have l3:=ab na iu;refine bh Z (λ hc=>ek (gt hc Z))<|Φ (fC Z Z Z Z)<|vm Z<|bh Z (λ hc=>av C_ Z)<| ?_;have ai:=ai.later iu;refine bh Z (λ hc=>ao (gt hc Z) (ai.one a6 Z))<|nM Z HK (λ hc=>ez (gt hc Z) (ez Z (ez Z Z))) (λ hc=>I6 o.what 0 1000000 _) λ wo eO=> ?_;have kF:=ab l3 eO;refine bh Z (λ hc=>ek (gt hc Z))<|Φ (fC Z Z Z Z)<|ag<| ?_;refine dn Z (λ rI=> ?_) (λ rI=> ?_)
 ·refine ah<|va Z<|ag<|rt<|bP<|aV (.tmp Z .nil)<| ?_;exact ⟨by rw [aN.adm rI];rfl,kF⟩
 ·refine bl<|ay<|ay<| ?_;refine cR [(0,0),(1,0),(2,0)] [0,1,2,3] ?_;have ai:=ai.later eO;refine bx Z (λ _ x=>ao Z ((ai.later x).all jc fl))<|pO Z Z at0 Z (λ _ x=>aCt o _) Z<|bx Z (λ _ x=>ao Z ((ai.later x).all jc fl))<|aB Z (λ _=>KI ap1 ap0 (p:=aN.bare o) (q:=o) Z Z)<|fn λ Jw nO=> ?_;have tC:=ab kF nO;refine aP<| ?_;refine dn Z (λ Lr=> ?_) (λ Lr=> ?_)
  ·refine ah<|va Z<|ag<|rt<|bP<|aV (.tmp Z .nil)<| ?_;exact ⟨by rw [aN.asm rI Lr];rfl,tC⟩
  ·refine bl<|ah<|va Z<|ag<|rt<|aV (.tmp Z .nil)<| ?_;exact ⟨by rw [aN.asn rI Lr];rfl,tC⟩
theorem Y' (A:Option Addr) (c:Nat) (l:List aN) (w:World) (aC:aN.rep.aG 48 w A c l):
  Calls prog 56 #[.slice A l.length c] w (λ e w'=>e= .returned (J (iG l))∧Ext w w'):=by
 have rS:=aC.eZ;refine b' (n:=21) func56 Z Z Z ?_;refine ah<|va Z<|ag<|ay<|ah<|vm Z<|Φ (cl underlying48 Z)<|Φ (hM Z Z)<|ag<| ?_;refine df Z (λ gA=> ?_) (λ gA=> ?_)
 ·refine ah<|va Z<|ag<|rt<|bP<|aV (.tmp Z .nil)<| ?_;exact ⟨by rw [aCP (by omega)];rfl,(Ext.bg w)⟩
 ·refine bl<|ay<|ah<|vm Z<|Φ (cl underlying48 Z)<|vm Z<|ag<|bu<| ?_;refine dx (λ bZ bS aL=>∃ k:Nat,bS= [(9, .slice A l.length c),(10,J (l.length:Int)),(11,J (k:Int))]∧bZ=l.length - k∧Ext w aL∧(k≤l.length)∧(∀ i,i<k→(l.getD i default).bn=0)) _ _ ⟨0,Z,Z,(Ext.bg w),by omega,λ i ar=>by omega⟩ (.cons Z (.cons Z (.cons (bH Z) .nil))) ?_;rintro r3 rf iH ⟨k,rfl,rfl,b9,au,aM⟩;have:=b9.size;refine ah<|Φ (blt Z Z)<|ag<|ay<| ?_;refine df Z (λ jr=> ?_) (λ jr=> ?_)
  ·refine bl<|ay<|bu<|ah<|Φ (bT k underlying48 fl Z Z ((aC.keep b9).bs (aO k)) Z (by omega))<|Φ (ao Z (aa.aG.er Fz ((aC.keep b9).cg (aO k)) (cA (l:=l) (u:=default) (by omega)) jc fl))<|al Z P5 Z Z λ wq KH cZ ajn lx=> ?_;have iZ:=ab b9 cZ;refine st (new:= [J ((l.getD k default).by_),J ((l.getD k default).kind),J ((l.getD k default).aW),J ((l.getD k default).spot.x),J ((l.getD k default).spot.y),J ((l.getD k default).what)]) Z Z lx Z fl Z Z Z λ B5 uq lx=> ?_;have m_:=Ext.mod iZ uq bC;refine ag<|ah<|Φ (ao Z (lx.all jc fl))<|ca VN Z Z ((Za (l.getD k default) _).mono ?_);rintro e ow ⟨rfl,gD⟩;refine ⟨_,Z, ?_⟩;have fD:=ab m_ gD;refine va Z<|ag<|ah<|vm Z<|Φ (bne Z Z)<|ag<| ?_;refine ee Z (λ vE=> ?_) (λ vE=> ?_)
   ·refine ah<|vm Z<|va Z<|ag<|rt<|dV<|bP<|kB<|dV<|bP<|aV (.tmp Z .nil)<| ?_;exact ⟨by rw [aCO (by omega) (show k<l.length by omega) aM (by simpa using vE)];rfl,fD⟩
   ·refine ei<|bU<|aP<|rg<|Φ (bad Z Z (bf (by omega)))<|vm Z<|nl<| ?_;exact cD _ _ ⟨k+1,Z,Z,fD,by omega,o4 aM (by simpa using vE)⟩ (by omega) (.cons Z (.cons Z (.cons (bH Z) .nil)))
  ·refine cV<|cU<|c'<|cT<|aP<|ah<|va Z<|ag<|rt<|aV (.tmp Z .nil)<| ?_;exact ⟨by rw [aCQ (by omega) (λ i ar=>aM i (by omega))];rfl,b9⟩
end
section
theorem aqk:fi prog dF.rep 101 201 16:=fi.lH (z:=dF.zero) (k:=2) underlying101 dF.info rfl rfl (by decide) dF.ix
theorem aql:fi prog dG.rep 102 203 24:=fi.lH (z:=dG.zero) (k:=3) underlying102 dG.info rfl rfl (by decide) dG.ix
theorem UP:fi prog cG.rep 103 153 40:=fi.lH (z:=cG.zero) (k:=5) underlying103 cG.info rfl rfl (by decide) cG.ix
def nG (o:aN):List dF:=if o.kind=1 then [⟨o.aW,o.what⟩] else []
def nI (o:aN):List dG:=if o.kind=2 then [⟨o.aW,⟨o.spot.x,o.spot.y⟩⟩] else []
def nH (o:aN):List cG:=if o.kind=3 then [⟨1,o.aW,⟨o.spot.x,o.spot.y⟩,0⟩] else if o.kind=4 then [⟨2,o.aW,⟨0,0⟩,0⟩] else if o.kind=5 then [⟨3,o.by_,⟨0,0⟩,o.what⟩] else []
theorem acz (o:aN) (w0:World) (tT:Nat) (A B C:Option Addr) (a b c:Nat) (Gf:List dF) (Ng:List dG) (Nf:List cG) (w:World) (jg:Ext w0 w) (eA:o.ok) (hS:aR w tT [.slice A Gf.length a, .slice B Ng.length b, .slice C Nf.length c] 143 (0,0)) (hA:dF.rep.aH 201 16 w w0.heap.size (aa.aj A) A a Gf) (bj:dG.rep.aH 203 24 w w0.heap.size (aa.aj B) B b Ng) (fr:cG.rep.aH 153 40 w w0.heap.size (aa.aj C) C c Nf) (vr:∀ q∈aa.aj A,q=tT→False) (vt:∀ q∈aa.aj B,q=tT→False) (sL:∀ q∈aa.aj C,q=tT→False) (C4:∀ q∈aa.aj B,q∈aa.aj A→False) (zb:∀ q∈aa.aj C,q∈aa.aj A→False) (zc:∀ q∈aa.aj C,q∈aa.aj B→False) (qa:Gf.length≤100) (qb:Ng.length≤100) (oe:Nf.length≤100):
  Calls prog 57 #[.pointer (some ⟨tT,0,none⟩), .agg #[J o.by_,J o.kind,J o.aW,J o.spot.x,J o.spot.y,J o.what]] w (λ e w'=>∃ bL a' rb pG Ey bX,e= .returned (.tuple #[])∧aR w' tT [.slice bL (Gf++nG o).length a', .slice rb (Ng++nI o).length pG, .slice Ey (Nf++nH o).length bX] 143 (0,0)∧dF.rep.aH 201 16 w' w0.heap.size (aa.aj bL) bL a' (Gf++nG o)∧dG.rep.aH 203 24 w' w0.heap.size (aa.aj rb) rb pG (Ng++nI o)∧cG.rep.aH 153 40 w' w0.heap.size (aa.aj Ey) Ey bX (Nf++nH o)∧(∀ q∈aa.aj bL,q=tT→False)∧(∀ q∈aa.aj rb,q=tT→False)∧(∀ q∈aa.aj Ey,q=tT→False)∧(∀ q∈aa.aj rb,q∈aa.aj bL→False)∧(∀ q∈aa.aj Ey,q∈aa.aj bL→False)∧(∀ q∈aa.aj Ey,q∈aa.aj rb→False)∧(∀ q∈aa.aj bL,q∈aa.aj A∨w.heap.size≤q)∧(∀ q∈aa.aj rb,q∈aa.aj B∨w.heap.size≤q)∧(∀ q∈aa.aj Ey,q∈aa.aj C∨w.heap.size≤q)∧Mod (tT::(aa.aj A++(aa.aj B++aa.aj C))) w w'):=by
 have aOq:=jg.size;have kX:=hS.lt;have SJ:=b7 hA.lt;have SK:=b7 bj.lt;have amh:=b7 fr.lt;refine b' (n:=84) func57 Z Z Z ?_;refine ah<|ck Z Z Z Z λ cK bR bq dU ai=> ?_;have ba:=(Mod.bg (tT::(aa.aj A++(aa.aj B++aa.aj C))) w).trans (Mod.bt bq);have ib:=ai.lt;refine ag<|ah<|Φ (av pK Z)<|Φ (ao Z (ai.one a6 Z))<|ag<|bu<|ah<|Φ (beq Z Z)<|va Z<|ag<| ?_;refine jo Z (λ oW=> ?_) (λ oW=> ?_)
 ·refine cR [(4,0),(6,0),(8,0),(10,2),(11,3),(14,3)] [0,1,2,3,4,5,6,7,8,9,10,11,12,13,14] ?_;refine a1 Z Z<|a1 Z Z<|aB Z (λ _=>cf Z)<|aB Z (λ _=>av VO Z)<| ?_;have hS:=hS.later bq;refine bx Z (λ _ x=>ao Z ((hS.later x).one aeB Z))<|aB Z (λ _=>av C8 Z)<|bx Z (λ _ x=>ao Z ((ai.later x).one a6 Z))<|aB Z (λ _=>av C_ Z)<|bx Z (λ _ x=>ao Z ((ai.later x).one a6 Z))<|qJ (v:= .agg #[J o.aW,J o.what]) Z Z (λ _=>cY Z (by kernel_rfl)) Z<|gz Z Z Z λ tk br Q hK=>cu (e:= 201) (cs:= [J o.aW,J o.what]) Z (λ _=>by kernel_rfl) Z λ td wW eo IH g_=>hK _ _ ⟨ab br eo, ?_⟩;have:=br.size;have jC:=ba.trans (Mod.bt br);have jA:=jC.trans (Mod.bt eo);have akU:=g_.lt;have hA:=hA.later (ab bq (ab br eo));refine eg Z Z Z λ B6 pj Q hK=>ap aqk aa.dj (hA.later pj) ((aR.gY (R:=dF.rep) (by_:=16) (q:=(⟨o.aW,o.what⟩:dF)) g_ ⟨Z,(by obtain ⟨Ga,pa,lV,nF,og,qd⟩:=eA;exact ⟨lV,qd⟩)⟩ (by decide)).keep pj) Z Z (by simp only [aTI,aTN];omega) (by simp only [aTI,aTN];omega) (by have:=pj.size;omega) Z λ wm G2 ade nD EN HY aCe=>hK _ _ ?_;have:=pj.size;have oA:=jA.trans (Mod.bt pj);have jB:=oA.md nD (λ q I=> .inl (aTS _ (aTP.2 (.inl I))));refine aB Z (λ _=>cf Z)<|aB Z (λ _=>av VO Z)<| ?_;have hS:=(hS.later (ab br (ab eo pj))).mod nD (λ I=>vr _ I rfl);refine eg Z Z Z λ yk jl Q hK=>fb Z Z (hS.later jl) Z at1 Z Z λ Eb mW hS=>hK _ _ ?_;have lu:=jB.trans (Mod.bt jl);have pw:=lu.md mW (λ q I=> .inl (by rw [aTz.1 I];exact aT1));refine fn λ tj fy=> ?_;have kn:=pw.trans (Mod.bt fy);refine bU<|ne<|aV .nil<| ?_;have hS:=hS.later fy;have EN:=((EN.later jl).mod mW (λ q I h=>by have γ:=aTz.1 h;exfalso;(exact aTT (HY q I) (λ aiS=>by (exact vr q aiS γ)) (λ aiS=>by omega)))).later fy;have bj:=((((bj.later (ab bq (ab br (ab eo pj)))).mod nD (λ q I h=>C4 q I h)).later jl).mod mW (λ q I h=>by have γ:=aTz.1 h;exfalso;(exact vt q I γ))).later fy;have fr:=((((fr.later (ab bq (ab br (ab eo pj)))).mod nD (λ q I h=>zb q I h)).later jl).mod mW (λ q I h=>by have γ:=aTz.1 h;exfalso;(exact sL q I γ))).later fy;have aY:nG o= [(⟨o.aW,o.what⟩:dF)]:=by unfold nG;simp [*]
  have bb:nI o= []:=by unfold nI;simp [*]
  have cP:nH o= []:=by unfold nH;simp [*]
  rw [aY,bb,cP];simp only [aT6];exact ⟨G2,ade,B,b,C,c,Z,hS,EN,bj,fr,(λ q I γ=>by (exact aTT (HY q I) (λ aiT=>by (exact vr q aiT γ)) (λ aiT=>by omega))),(λ q I γ=>by (exact vt q I γ)),(λ q I γ=>by (exact sL q I γ)),(λ q I γ=>by (exact aTT (HY q γ) (λ aiU=>by (exact C4 q I aiU)) (λ aiU=>by (have:=SK q I;omega)))),(λ q I γ=>by (exact aTT (HY q γ) (λ Ry=>by (exact zb q I Ry)) (λ Ry=>by (have:=amh q I;omega)))),(λ q I γ=>by (exact zc q I γ)),(λ q I=>(HY q I).imp id λ h=>by omega),(λ q I=> .inl I),(λ q I=> .inl I),kn⟩
 ·refine ah<|Φ (beq Z Z)<|va Z<|ag<| ?_;refine jo Z (λ Lt=> ?_) (λ Lt=> ?_)
  ·refine cR [(4,0),(6,0),(8,0),(10,2),(11,3),(14,3)] [0,1,2,3,4,5,6,7,8,9,10,11,12,13,14] ?_;refine a1 Z Z<|a1 Z Z<|aB Z (λ _=>cf Z)<|aB Z (λ _=>av VP Z)<| ?_;have hS:=hS.later bq;refine bx Z (λ _ x=>ao Z ((hS.later x).one aeD Z))<|aB Z (λ _=>av C8 Z)<|bx Z (λ _ x=>ao Z ((ai.later x).one a6 Z))<|aB Z (λ _=>av C9 Z)<|bx Z (λ _ x=>ao Z ((ai.later x).par [J o.spot.x,J o.spot.y] cv b2 Z))<|qJ (v:= .agg #[J o.aW,J o.spot.x,J o.spot.y]) Z Z (λ _=>cY Z (by kernel_rfl)) Z<|gz Z Z Z λ Ec iI Q hK=>cu (e:= 203) (cs:= [J o.aW,J o.spot.x,J o.spot.y]) Z (λ _=>by kernel_rfl) Z λ S' A0 fL ajs uP=>hK _ _ ⟨ab iI fL, ?_⟩;have:=iI.size;have px:=ba.trans (Mod.bt iI);have Ci:=px.trans (Mod.bt fL);have Nd:=uP.lt;have bj:=bj.later (ab bq (ab iI fL));refine eg Z Z Z λ q4 eP Q hK=>ap aql aa.dj (bj.later eP) ((aR.gY (R:=dG.rep) (by_:=24) (q:=(⟨o.aW,⟨o.spot.x,o.spot.y⟩⟩:dG)) uP ⟨Z,(by obtain ⟨Ga,pa,lV,nF,og,qd⟩:=eA;exact ⟨lV,nF,og⟩)⟩ (by decide)).keep eP) Z Z (by simp only [aTI,aTN];omega) (by simp only [aTI,aTN];omega) (by have:=eP.size;omega) Z λ amN anS arT F7 UJ Lc aQz=>hK _ _ ?_;have:=eP.size;have iw:=Ci.trans (Mod.bt eP);have Of:=iw.md F7 (λ q I=> .inl (aTS _ (aTP.2 (.inr (aTP.2 (.inl I))))));refine aB Z (λ _=>cf Z)<|aB Z (λ _=>av VP Z)<| ?_;have hS:=(hS.later (ab iI (ab fL eP))).mod F7 (λ I=>vt _ I rfl);refine eg Z Z Z λ NN tz Q hK=>fb Z Z (hS.later tz) Z at2 Z Z λ NP vU hS=>hK _ _ ?_;have yB:=Of.trans (Mod.bt tz);have yC:=yB.md vU (λ q I=> .inl (by rw [aTz.1 I];exact aT1));refine fn λ Te ec=> ?_;have tE:=yC.trans (Mod.bt ec);refine bU<|ne<|aV .nil<| ?_;have hS:=hS.later ec;have hA:=((((hA.later (ab bq (ab iI (ab fL eP)))).mod F7 (λ q I h=>C4 q h I)).later tz).mod vU (λ q I h=>by have γ:=aTz.1 h;exfalso;(exact vr q I γ))).later ec;have UJ:=((UJ.later tz).mod vU (λ q I h=>by have γ:=aTz.1 h;exfalso;(exact aTT (Lc q I) (λ MH=>by (exact vt q MH γ)) (λ MH=>by omega)))).later ec;have fr:=((((fr.later (ab bq (ab iI (ab fL eP)))).mod F7 (λ q I h=>zc q I h)).later tz).mod vU (λ q I h=>by have γ:=aTz.1 h;exfalso;(exact sL q I γ))).later ec;have aY:nG o= []:=by unfold nG;simp [*]
   have bb:nI o= [(⟨o.aW,⟨o.spot.x,o.spot.y⟩⟩:dG)]:=by unfold nI;simp [*]
   have cP:nH o= []:=by unfold nH;simp [*]
   rw [aY,bb,cP];simp only [aT6];exact ⟨A,a,anS,arT,C,c,Z,hS,hA,UJ,fr,(λ q I γ=>by (exact vr q I γ)),(λ q I γ=>by (exact aTT (Lc q I) (λ ai5=>by (exact vt q ai5 γ)) (λ ai5=>by omega))),(λ q I γ=>by (exact sL q I γ)),(λ q I γ=>by (exact aTT (Lc q I) (λ DH=>by (exact C4 q DH γ)) (λ DH=>by (have:=SJ q γ;omega)))),(λ q I γ=>by (exact zb q I γ)),(λ q I γ=>by (exact aTT (Lc q γ) (λ MI=>by (exact zc q I MI)) (λ MI=>by (have:=amh q I;omega)))),(λ q I=> .inl I),(λ q I=>(Lc q I).imp id λ h=>by omega),(λ q I=> .inl I),tE⟩
  ·refine ah<|Φ (beq Z Z)<|va Z<|ag<| ?_;refine jo Z (λ ue=> ?_) (λ ue=> ?_)
   ·refine cR [(4,0),(6,0),(8,0),(10,2),(11,3),(14,3)] [0,1,2,3,4,5,6,7,8,9,10,11,12,13,14] ?_;refine a1 Z Z<|a1 Z Z<|aB Z (λ _=>cf Z)<|aB Z (λ _=>av E' Z)<| ?_;have hS:=hS.later bq;refine bx Z (λ _ x=>ao Z ((hS.later x).one P6 Z))<|aB Z (λ _=>av C8 Z)<|bx Z (λ _ x=>ao Z ((ai.later x).one a6 Z))<|aB Z (λ _=>av C9 Z)<|bx Z (λ _ x=>ao Z ((ai.later x).par [J o.spot.x,J o.spot.y] cv b2 Z))<|qJ (v:= .agg #[J 1,J o.aW,J o.spot.x,J o.spot.y,J 0]) Z Z (λ _=>cY Z (by kernel_rfl)) Z<|gz Z Z Z λ Tg hE Q hK=>cu (e:= 153) (cs:= [J 1,J o.aW,J o.spot.x,J o.spot.y,J 0]) Z (λ _=>by kernel_rfl) Z λ JF aLD tA aPJ Ow=>hK _ _ ⟨ab hE tA, ?_⟩;have:=hE.size;have Am:=ba.trans (Mod.bt hE);have k4:=Am.trans (Mod.bt tA);have aRZ:=Ow.lt;have fr:=fr.later (ab bq (ab hE tA));refine eg Z Z Z λ Tj En Q hK=>ap UP aa.dj (fr.later En) ((aR.gY (R:=cG.rep) (by_:=40) (q:=(⟨1,o.aW,⟨o.spot.x,o.spot.y⟩,0⟩:cG)) Ow ⟨Z,(by obtain ⟨Ga,pa,lV,nF,og,qd⟩:=eA;exact ⟨bY.2 (by (try dsimp only);omega),lV,nF,og,bY.2 (by (try dsimp only);omega)⟩)⟩ (by decide)).keep En) Z Z (by simp only [aTI,aTN];omega) (by simp only [aTI,aTN];omega) (by have:=En.size;omega) Z λ amU an1 ar3 rZ Uw K9 aP9=>hK _ _ ?_;have:=En.size;have An:=k4.trans (Mod.bt En);have Ol:=An.md rZ (λ q I=> .inl (aTS _ (aTP.2 (.inr (aTP.2 (.inr I))))));refine aB Z (λ _=>cf Z)<|aB Z (λ _=>av E' Z)<| ?_;have hS:=(hS.later (ab hE (ab tA En))).mod rZ (λ I=>sL _ I rfl);refine eg Z Z Z λ aHj k1 Q hK=>fb Z Z (hS.later k1) Z VQ Z Z λ aHk vP hS=>hK _ _ ?_;have aaT:=Ol.trans (Mod.bt k1);have aaU:=aaT.md vP (λ q I=> .inl (by rw [aTz.1 I];exact aT1));refine fn λ aaB yn=> ?_;have GU:=aaU.trans (Mod.bt yn);refine bU<|ne<|aV .nil<| ?_;have hS:=hS.later yn;have hA:=((((hA.later (ab bq (ab hE (ab tA En)))).mod rZ (λ q I h=>zb q h I)).later k1).mod vP (λ q I h=>by have γ:=aTz.1 h;exfalso;(exact vr q I γ))).later yn;have bj:=((((bj.later (ab bq (ab hE (ab tA En)))).mod rZ (λ q I h=>zc q h I)).later k1).mod vP (λ q I h=>by have γ:=aTz.1 h;exfalso;(exact vt q I γ))).later yn;have Uw:=((Uw.later k1).mod vP (λ q I h=>by have γ:=aTz.1 h;exfalso;(exact aTT (K9 q I) (λ DF=>by (exact sL q DF γ)) (λ DF=>by omega)))).later yn;have aY:nG o= []:=by unfold nG;simp [*]
    have bb:nI o= []:=by unfold nI;simp [*]
    have cP:nH o= [(⟨1,o.aW,⟨o.spot.x,o.spot.y⟩,0⟩:cG)]:=by unfold nH;simp [*]
    rw [aY,bb,cP];simp only [aT6];exact ⟨A,a,B,b,an1,ar3,Z,hS,hA,bj,Uw,(λ q I γ=>by (exact vr q I γ)),(λ q I γ=>by (exact vt q I γ)),(λ q I γ=>by (exact aTT (K9 q I) (λ Mt=>by (exact sL q Mt γ)) (λ Mt=>by omega))),(λ q I γ=>by (exact C4 q I γ)),(λ q I γ=>by (exact aTT (K9 q I) (λ Mu=>by (exact zb q Mu γ)) (λ Mu=>by (have:=SJ q γ;omega)))),(λ q I γ=>by (exact aTT (K9 q I) (λ Mv=>by (exact zc q Mv γ)) (λ Mv=>by (have:=SK q γ;omega)))),(λ q I=> .inl I),(λ q I=> .inl I),(λ q I=>(K9 q I).imp id λ h=>by omega),GU⟩
   ·refine ah<|Φ (beq Z Z)<|va Z<|ag<| ?_;refine jo Z (λ awY=> ?_) (λ awY=> ?_)
    ·refine cR [(4,0),(6,0),(8,2),(9,3),(12,3)] [0,1,2,3,4,5,6,7,8,9,10,11,12] ?_;refine a1 Z Z<|a1 Z Z<|aB Z (λ _=>cf Z)<|aB Z (λ _=>av E' Z)<| ?_;have hS:=hS.later bq;refine bx Z (λ _ x=>ao Z ((hS.later x).one P6 Z))<|aB Z (λ _=>av C8 Z)<|bx Z (λ _ x=>ao Z ((ai.later x).one a6 Z))<|qJ (v:= .agg #[J 2,J o.aW,J 0,J 0,J 0]) Z Z (λ _=>cY Z (by kernel_rfl)) Z<|gz Z Z Z λ aHm GJ Q hK=>cu (e:= 153) (cs:= [J 2,J o.aW,J 0,J 0,J 0]) Z (λ _=>by kernel_rfl) Z λ aSB aK2 JK aO0 abq=>hK _ _ ⟨ab GJ JK, ?_⟩;have:=GJ.size;have aaW:=ba.trans (Mod.bt GJ);have aIp:=aaW.trans (Mod.bt JK);have aQ9:=abq.lt;have fr:=fr.later (ab bq (ab GJ JK));refine eg Z Z Z λ amF Ei Q hK=>ap UP aa.dj (fr.later Ei) ((aR.gY (R:=cG.rep) (by_:=40) (q:=(⟨2,o.aW,⟨0,0⟩,0⟩:cG)) abq ⟨Z,(by obtain ⟨Ga,pa,lV,nF,og,qd⟩:=eA;exact ⟨bY.2 (by (try dsimp only);omega),lV,bY.2 (by (try dsimp only);omega),bY.2 (by (try dsimp only);omega),bY.2 (by (try dsimp only);omega)⟩)⟩ (by decide)).keep Ei) Z Z (by simp only [aTI,aTN];omega) (by simp only [aTI,aTN];omega) (by have:=Ei.size;omega) Z λ amG anF arI RN Uz K' aQg=>hK _ _ ?_;have:=Ei.size;have Oa:=aIp.trans (Mod.bt Ei);have Cg:=Oa.md RN (λ q I=> .inl (aTS _ (aTP.2 (.inr (aTP.2 (.inr I))))));refine aB Z (λ _=>cf Z)<|aB Z (λ _=>av E' Z)<| ?_;have hS:=(hS.later (ab GJ (ab JK Ei))).mod RN (λ I=>sL _ I rfl);refine eg Z Z Z λ aSK N0 Q hK=>fb Z Z (hS.later N0) Z VQ Z Z λ amI DK hS=>hK _ _ ?_;have aIx:=Cg.trans (Mod.bt N0);have JO:=aIx.md DK (λ q I=> .inl (by rw [aTz.1 I];exact aT1));refine fn λ aSN tu=> ?_;have aIA:=JO.trans (Mod.bt tu);refine bU<|ne<|aV .nil<| ?_;have hS:=hS.later tu;have hA:=((((hA.later (ab bq (ab GJ (ab JK Ei)))).mod RN (λ q I h=>zb q h I)).later N0).mod DK (λ q I h=>by have γ:=aTz.1 h;exfalso;(exact vr q I γ))).later tu;have bj:=((((bj.later (ab bq (ab GJ (ab JK Ei)))).mod RN (λ q I h=>zc q h I)).later N0).mod DK (λ q I h=>by have γ:=aTz.1 h;exfalso;(exact vt q I γ))).later tu;have Uz:=((Uz.later N0).mod DK (λ q I h=>by have γ:=aTz.1 h;exfalso;(exact aTT (K' q I) (λ DG=>by (exact sL q DG γ)) (λ DG=>by omega)))).later tu;have aY:nG o= []:=by unfold nG;simp [*]
     have bb:nI o= []:=by unfold nI;simp [*]
     have cP:nH o= [(⟨2,o.aW,⟨0,0⟩,0⟩:cG)]:=by unfold nH;simp [*]
     rw [aY,bb,cP];simp only [aT6];exact ⟨A,a,B,b,anF,arI,Z,hS,hA,bj,Uz,(λ q I γ=>by (exact vr q I γ)),(λ q I γ=>by (exact vt q I γ)),(λ q I γ=>by (exact aTT (K' q I) (λ My=>by (exact sL q My γ)) (λ My=>by omega))),(λ q I γ=>by (exact C4 q I γ)),(λ q I γ=>by (exact aTT (K' q I) (λ Mz=>by (exact zb q Mz γ)) (λ Mz=>by (have:=SJ q γ;omega)))),(λ q I γ=>by (exact aTT (K' q I) (λ MA=>by (exact zc q MA γ)) (λ MA=>by (have:=SK q γ;omega)))),(λ q I=> .inl I),(λ q I=> .inl I),(λ q I=>(K' q I).imp id λ h=>by omega),aIA⟩
    ·refine ah<|Φ (beq Z Z)<|va Z<|ag<| ?_;refine jo Z (λ aw5=> ?_) (λ aw5=> ?_)
     ·refine cR [(4,0),(6,0),(8,0),(10,2),(11,3),(14,3)] [0,1,2,3,4,5,6,7,8,9,10,11,12,13,14] ?_;refine a1 Z Z<|a1 Z Z<|aB Z (λ _=>cf Z)<|aB Z (λ _=>av E' Z)<| ?_;have hS:=hS.later bq;refine bx Z (λ _ x=>ao Z ((hS.later x).one P6 Z))<|aB Z (λ _=>av rB Z)<|bx Z (λ _ x=>ao Z ((ai.later x).one a6 Z))<|aB Z (λ _=>av C_ Z)<|bx Z (λ _ x=>ao Z ((ai.later x).one a6 Z))<|qJ (v:= .agg #[J 3,J o.by_,J 0,J 0,J o.what]) Z Z (λ _=>cY Z (by kernel_rfl)) Z<|gz Z Z Z λ S8 GN Q hK=>cu (e:= 153) (cs:= [J 3,J o.by_,J 0,J 0,J o.what]) Z (λ _=>by kernel_rfl) Z λ aHs aLa JL aO9 abx=>hK _ _ ⟨ab GN JL, ?_⟩;have:=GN.size;have aa0:=ba.trans (Mod.bt GN);have aa1:=aa0.trans (Mod.bt JL);have aRh:=abx.lt;have fr:=fr.later (ab bq (ab GN JL));refine eg Z Z Z λ aSV Ej Q hK=>ap UP aa.dj (fr.later Ej) ((aR.gY (R:=cG.rep) (by_:=40) (q:=(⟨3,o.by_,⟨0,0⟩,o.what⟩:cG)) abx ⟨Z,(by obtain ⟨Ga,pa,lV,nF,og,qd⟩:=eA;exact ⟨bY.2 (by (try dsimp only);omega),Ga,bY.2 (by (try dsimp only);omega),bY.2 (by (try dsimp only);omega),qd⟩)⟩ (by decide)).keep Ej) Z Z (by simp only [aTI,aTN];omega) (by simp only [aTI,aTN];omega) (by have:=Ej.size;omega) Z λ aSW anM arO RS UB La aQo=>hK _ _ ?_;have:=Ej.size;have aIH:=aa1.trans (Mod.bt Ej);have aII:=aIH.md RS (λ q I=> .inl (aTS _ (aTP.2 (.inr (aTP.2 (.inr I))))));refine aB Z (λ _=>cf Z)<|aB Z (λ _=>av E' Z)<| ?_;have hS:=(hS.later (ab GN (ab JL Ej))).mod RS (λ I=>sL _ I rfl);refine eg Z Z Z λ aS1 N2 Q hK=>fb Z Z (hS.later N2) Z VQ Z Z λ aS2 RT hS=>hK _ _ ?_;have aIM:=aII.trans (Mod.bt N2);have aIN:=aIM.md RT (λ q I=> .inl (by rw [aTz.1 I];exact aT1));refine fn λ aHu sq=> ?_;have aa2:=aIN.trans (Mod.bt sq);refine bU<|ne<|aV .nil<| ?_;have hS:=hS.later sq;have hA:=((((hA.later (ab bq (ab GN (ab JL Ej)))).mod RS (λ q I h=>zb q h I)).later N2).mod RT (λ q I h=>by have γ:=aTz.1 h;exfalso;(exact vr q I γ))).later sq;have bj:=((((bj.later (ab bq (ab GN (ab JL Ej)))).mod RS (λ q I h=>zc q h I)).later N2).mod RT (λ q I h=>by have γ:=aTz.1 h;exfalso;(exact vt q I γ))).later sq;have UB:=((UB.later N2).mod RT (λ q I h=>by have γ:=aTz.1 h;exfalso;(exact aTT (La q I) (λ aio=>by (exact sL q aio γ)) (λ aio=>by omega)))).later sq;have aY:nG o= []:=by unfold nG;simp [*]
      have bb:nI o= []:=by unfold nI;simp [*]
      have cP:nH o= [(⟨3,o.by_,⟨0,0⟩,o.what⟩:cG)]:=by unfold nH;simp [*]
      rw [aY,bb,cP];simp only [aT6];exact ⟨A,a,B,b,anM,arO,Z,hS,hA,bj,UB,(λ q I γ=>by (exact vr q I γ)),(λ q I γ=>by (exact vt q I γ)),(λ q I γ=>by (exact aTT (La q I) (λ aip=>by (exact sL q aip γ)) (λ aip=>by omega))),(λ q I γ=>by (exact C4 q I γ)),(λ q I γ=>by (exact aTT (La q I) (λ MC=>by (exact zb q MC γ)) (λ MC=>by (have:=SJ q γ;omega)))),(λ q I γ=>by (exact aTT (La q I) (λ aiq=>by (exact zc q aiq γ)) (λ aiq=>by (have:=SK q γ;omega)))),(λ q I=> .inl I),(λ q I=> .inl I),(λ q I=>(La q I).imp id λ h=>by omega),aa2⟩
     ·refine ei<|bU<|ne<|aV .nil<| ?_;have hS:=hS.later bq;have hA:=hA.later bq;have bj:=bj.later bq;have fr:=fr.later bq;have aY:nG o= []:=by unfold nG;simp [*]
      have bb:nI o= []:=by unfold nI;simp [*]
      have cP:nH o= []:=by unfold nH;simp [*]
      rw [aY,bb,cP];simp only [aT6];exact ⟨A,a,B,b,C,c,Z,hS,hA,bj,fr,(λ q I γ=>by (exact vr q I γ)),(λ q I γ=>by (exact vt q I γ)),(λ q I γ=>by (exact sL q I γ)),(λ q I γ=>by (exact C4 q I γ)),(λ q I γ=>by (exact zb q I γ)),(λ q I γ=>by (exact zc q I γ)),(λ q I=> .inl I),(λ q I=> .inl I),(λ q I=> .inl I),ba⟩
end
section
theorem Na {l:List aN} (h:iG l=0):l.length≤100∧∀ o∈l,o.bn=0:=by
 unfold iG at h;split at h
 ·cases h
 ·refine ⟨by omega,λ o cc=> ?_⟩;split at h
  ·rename_i x hx
   have:=aWS hx;rw [h] at this;exact nomatch this
  ·rename_i hx
   have:=aU7.1 hx o cc;simpa using this
end
section
def xZ (W:ak) (k:Nat):List (Int×Int):=(W.aq.take k).map λ t=>(t.id,t.owner)
theorem aCT {W:ak} {k:Nat} (h:k<W.aq.length):xZ W (k+1)=xZ W k++ [((W.aq.getD k default).id,(W.aq.getD k default).owner)]:=by
 unfold xZ;rw [wg (d:=default) h,aT8];rfl
theorem aCV {W:ak} (bQ:Good W) {k:Nat} (h:k<W.aq.length):c6 (xZ W k) (W.aq.getD k default).id=none:=by
 unfold c6 xZ;rw [List.find?_map,aYh,aYh,aU7];intro x hx;obtain ⟨i,ar,e⟩:=aUB.1 hx;rw [aTD] at ar;rw [aYV] at e;have:=(aUn.1 bQ.I') i k (by omega) h (by omega);rw [← e,mO h];have τ:=this.1;simp only [Function.comp_apply,aUC];omega
def may (W:ak) (o:aN):Bool:=if o.kind=5 then decide (o.by_<(W.a7.length:Int)) && (o.by_ == o.by_) else (c6 (xZ W W.aq.length) o.aW).isSome && ((c6 (xZ W W.aq.length) o.aW).getD 0 == o.by_)
def fT (W:ak) (l:List aN) (k:Nat):List dF:=(l.take k).flatMap λ o=>if may W o=true then nG o else []
theorem Z' {W:ak} {l:List aN} {k:Nat} (h:k<l.length) (hm:may W (l.getD k default)=true):fT W l (k+1)=fT W l k++nG (l.getD k default):=by
 unfold fT;rw [wg (d:=default) h,aU4,aVf,aVZ,aT6,aTO hm]
theorem Z_ {W:ak} {l:List aN} {k:Nat} (h:k<l.length) (hm:may W (l.getD k default)=false):fT W l (k+1)=fT W l k:=by
 unfold fT;rw [wg (d:=default) h,aU4,aVf,aVZ,aT6,aTL (by rw [hm];decide),aT6]
theorem alL (W:ak) (l:List aN):∀ k,(fT W l k).length≤k
 | 0=>by simp [fT]
 | k+1=>by
  have bK:=alL W l k;by_cases h:k<l.length
  ·cases hm:may W (l.getD k default) with
   | true=>rw [Z' h hm,aTE];have:(nG (l.getD k default)).length≤1:=(by unfold nG;(repeat' split)<;>simp);omega
   | false=>rw [Z_ h hm];omega
  ·have:fT W l (k+1)=fT W l k:=by unfold fT;rw [aT0 (by omega),aT0 (by omega)]
   rw [this];omega
def gl (W:ak) (l:List aN) (k:Nat):List dG:=(l.take k).flatMap λ o=>if may W o=true then nI o else []
theorem aad {W:ak} {l:List aN} {k:Nat} (h:k<l.length) (hm:may W (l.getD k default)=true):gl W l (k+1)=gl W l k++nI (l.getD k default):=by
 unfold gl;rw [wg (d:=default) h,aU4,aVf,aVZ,aT6,aTO hm]
theorem aac {W:ak} {l:List aN} {k:Nat} (h:k<l.length) (hm:may W (l.getD k default)=false):gl W l (k+1)=gl W l k:=by
 unfold gl;rw [wg (d:=default) h,aU4,aVf,aVZ,aT6,aTL (by rw [hm];decide),aT6]
theorem alN (W:ak) (l:List aN):∀ k,(gl W l k).length≤k
 | 0=>by simp [gl]
 | k+1=>by
  have bK:=alN W l k;by_cases h:k<l.length
  ·cases hm:may W (l.getD k default) with
   | true=>rw [aad h hm,aTE];have:(nI (l.getD k default)).length≤1:=(by unfold nI;(repeat' split)<;>simp);omega
   | false=>rw [aac h hm];omega
  ·have:gl W l (k+1)=gl W l k:=by unfold gl;rw [aT0 (by omega),aT0 (by omega)]
   rw [this];omega
def gC (W:ak) (l:List aN) (k:Nat):List cG:=(l.take k).flatMap λ o=>if may W o=true then nH o else []
theorem aab {W:ak} {l:List aN} {k:Nat} (h:k<l.length) (hm:may W (l.getD k default)=true):gC W l (k+1)=gC W l k++nH (l.getD k default):=by
 unfold gC;rw [wg (d:=default) h,aU4,aVf,aVZ,aT6,aTO hm]
theorem aaa {W:ak} {l:List aN} {k:Nat} (h:k<l.length) (hm:may W (l.getD k default)=false):gC W l (k+1)=gC W l k:=by
 unfold gC;rw [wg (d:=default) h,aU4,aVf,aVZ,aT6,aTL (by rw [hm];decide),aT6]
theorem alM (W:ak) (l:List aN):∀ k,(gC W l k).length≤k
 | 0=>by simp [gC]
 | k+1=>by
  have bK:=alM W l k;by_cases h:k<l.length
  ·cases hm:may W (l.getD k default) with
   | true=>rw [aab h hm,aTE];have:(nH (l.getD k default)).length≤1:=(by unfold nH;(repeat' split)<;>simp);omega
   | false=>rw [aaa h hm];omega
  ·have:gC W l (k+1)=gC W l k:=by unfold gC;rw [aT0 (by omega),aT0 (by omega)]
   rw [this];omega
theorem alO (W:ak) (l:List aN) (k:Nat):(fT W l k).length≤k∧(gl W l k).length≤k∧(gC W l k).length≤k:=⟨alL W l k,alN W l k,alM W l k⟩
theorem alP (A:Option Addr) (c:Nat) (l:List aN) (rq:ak.b_) (W:ak) (w:World) (aC:aN.rep.aG 48 w A c l) (b4:ak.Has w rq W):
  Calls prog 30 #[.slice A l.length c, .agg ((ak.cells rq W).toArray)] w (λ e w'=>∃ b1 bo cw c1 dg c2,((iG l≠0∧e= .returned (.tuple #[.slice none 0 0, .slice none 0 0, .slice none 0 0,J (iG l)]))∨(iG l=0∧W.bn≠0∧e= .returned (.tuple #[.slice none 0 0, .slice none 0 0, .slice none 0 0,J W.bn]))∨(iG l=0∧W.bn=0∧e= .returned (.tuple #[.slice b1 (fT W l l.length).length bo, .slice cw (gl W l l.length).length c1, .slice dg (gC W l l.length).length c2,J 0])∧dF.rep.aH 201 16 w' w.heap.size (aa.aj b1) b1 bo (fT W l l.length)∧dG.rep.aH 203 24 w' w.heap.size (aa.aj cw) cw c1 (gl W l l.length)∧cG.rep.aH 153 40 w' w.heap.size (aa.aj dg) dg c2 (gC W l l.length)))∧Ext w w'):=by
 have rS:=aC.eZ;refine b' (n:=82) func30 Z Z Z ?_;refine ah<|ck Z Z Z Z λ cK bR bq dU ai=> ?_;have ba:=ab (Ext.bg w) bq;have ib:=ai.lt;refine va Z<|va Z<|va Z<|va Z<|ag<|ay<|ah<|vm Z<|ca VR Z Z ((Y' _ _ l _ (aC.keep ba)).mono ?_);rintro e ea ⟨rfl,cZ⟩;refine ⟨_,Z, ?_⟩;have:=cZ.size;have bE:=ab ba cZ;refine va Z<|ag<|ah<|vm Z<|Φ (bne Z Z)<|ag<| ?_;refine ee Z (λ kf=> ?_) (λ kf=> ?_)
 ·refine ah<|vm Z<|va Z<|va Z<|va Z<|va Z<|ag<|rt<|bP<|aV (.tmp Z (.tmp Z (.tmp Z (.tmp Z .nil))))<| ?_;exact ⟨none,0,none,0,none,0, .inl ⟨kf,Z⟩,bE⟩
 ·obtain ⟨ayq,_⟩:=Na (by simpa using kf);refine bl<|ay<|ah<| ?_;have ai:=ai.later cZ;refine Φ (ao Z (ai.all dA cm))<|ca HN Z Z ((CY rq W _ (b4.keep bE)).mono ?_);rintro e B4 ⟨rfl,eo⟩;refine ⟨_,Z, ?_⟩;have:=eo.size;have nS:=ab bE eo;refine va Z<|ag<|ah<|vm Z<|Φ (bne Z Z)<|ag<| ?_;refine ee Z (λ iT=> ?_) (λ iT=> ?_)
  ·refine ah<|vm Z<|va Z<|va Z<|va Z<|va Z<|ag<|rt<|bP<|aV (.tmp Z (.tmp Z (.tmp Z (.tmp Z .nil))))<| ?_;exact ⟨none,0,none,0,none,0, .inr (.inl ⟨by simpa using kf,iT,rfl⟩),nS⟩
  ·have bQ:=Good.BQ (by simpa using iT);have FI:=bQ.ek;refine bl<|ah<|zR Z λ wk sf ph aAK apc=> ?_;have km:=ab nS ph;refine va Z<|ag<|ay<|ah<|Φ (av ka Z)<| ?_;have ai:=ai.later (ab eo ph);refine Φ (ao Z (ai.one lN Z))<|Φ (cl underlying26 Z)<|vm Z<|ag<|bu<| ?_;refine dx (λ bZ bS aL=>∃ k:Nat,bS= [(0, .slice A l.length c),(3, .pointer (some ⟨bR,0,none⟩)),(4, .slice none 0 0),(5, .slice none 0 0),(6, .slice none 0 0),(7,J 0),(10, .map (some sf)),(30, .slice rq.T W.aq.length rq.t),(31,J (W.aq.length:Int)),(32,J (k:Int))]∧bZ=W.aq.length - k∧Ext w aL∧aR aL bR (ak.cells rq W) 28 (0,0)∧pB aL sf (xZ W k)∧(k≤W.aq.length)) _ _ ⟨0,Z,Z,km,ai,apc,by omega⟩ (.cons Z (.cons Z (.cons Z (.cons Z (.cons Z (.cons Z (.cons Z (.cons Z (.cons Z (.cons (bH Z) .nil)))))))))) ?_;rintro nD aJS wo ⟨k,rfl,rfl,kF,ai,gF,au⟩;have aDU:=ai.lt;have Sh:=gF.lt;refine ah<|Φ (blt Z Z)<|ag<|ay<| ?_;refine df Z (λ Xi=> ?_) (λ Xi=> ?_)
   ·refine bl<|ay<|bu<|ah<|Φ (bT k underlying26 kr Z Z ((b4.T.keep kF).bs (aO k)) Z (by omega))<|Φ (ao Z (aa.aG.er jI ((b4.T.keep kF).cg (aO k)) (cA (l:=W.aq) (u:=default) (by omega)) zm kr))<|al Z K5 Z Z λ B7 acJ dO ajq yS=> ?_;have pq:=ab kF dO;refine st (new:= [J ((W.aq.getD k default).id),J ((W.aq.getD k default).owner),J ((W.aq.getD k default).kind),J ((W.aq.getD k default).spot.x),J ((W.aq.getD k default).spot.y),J ((W.aq.getD k default).dk),J ((W.aq.getD k default).load)]) Z Z yS Z kr Z Z Z λ sk zM yS=> ?_;have jQ:=Ext.mod pq zM bC;refine ag<|rg<|vm Z<|Φ (av HO Z)<|Φ (ao Z (yS.one a6 Z))<|Φ (av Fe Z)<|Φ (ao Z (yS.one a6 Z))<| ?_;have gF:=(gF.later dO).mod zM aQ;refine mu underlying141 underlying3 gF (aCV bQ (by omega)) Z Z Z λ S9 p_ gF=> ?_;have Ch:=Ext.mod jQ p_ bC;refine nl<|bU<|aP<|rg<|Φ (bad Z Z (bf (by omega)))<|vm Z<|nl<| ?_;have aY:xZ W (k+1)=xZ W k++ [((W.aq.getD k default).id,(W.aq.getD k default).owner)]:=aCT (by omega);have ai:=((ai.later dO).mod zM aQ).mod p_ aQ;exact cD _ _ ⟨k+1,Z,Z,Ch,ai,(by rw [aY];exact gF),by omega⟩ (by omega) (.cons Z (.cons Z (.cons Z (.cons Z (.cons Z (.cons Z (.cons Z (.cons Z (.cons Z (.cons (bH Z) .nil))))))))))
   ·refine cV<|cU<|c'<|cT<|aP<|ah<|al Z at3 Z Z λ Gz tS q6 aPp an7=> ?_;have q7:=ab kF q6;refine ag<|ay<|ah<|vm Z<|Φ (cl underlying48 Z)<|vm Z<|ag<|bu<| ?_;have lO:k=W.aq.length:=by omega
    subst lO;have ai:=ai.later q6;have gF:=gF.later q6;refine dx (λ bZ bS aL=>∃ j:Nat,∃ b1:Option Addr,∃ bo:Nat,∃ cw:Option Addr,∃ c1:Nat,∃ dg:Option Addr,∃ c2:Nat,bS= [(3, .pointer (some ⟨bR,0,none⟩)),(4, .slice none 0 0),(5, .slice none 0 0),(6, .slice none 0 0),(7,J 0),(10, .map (some sf)),(13, .pointer (some ⟨tS,0,none⟩)),(42, .slice A l.length c),(43,J (l.length:Int)),(44,J (j:Int))]∧bZ=l.length - j∧Ext w aL∧aR aL bR (ak.cells rq W) 28 (0,0)∧pB aL sf (xZ W W.aq.length)∧aR aL tS [.slice b1 ((fT W l j).length) bo, .slice cw ((gl W l j).length) c1, .slice dg ((gC W l j).length) c2] 143 (0,0)∧dF.rep.aH 201 16 aL w.heap.size (aa.aj b1) b1 bo (fT W l j)∧dG.rep.aH 203 24 aL w.heap.size (aa.aj cw) cw c1 (gl W l j)∧cG.rep.aH 153 40 aL w.heap.size (aa.aj dg) dg c2 (gC W l j)∧(j≤l.length)∧(∀ q∈aa.aj b1,q=bR→False)∧(∀ q∈aa.aj b1,q=sf→False)∧(∀ q∈aa.aj b1,q=tS→False)∧(∀ q∈aa.aj cw,q=bR→False)∧(∀ q∈aa.aj cw,q=sf→False)∧(∀ q∈aa.aj cw,q=tS→False)∧(∀ q∈aa.aj cw,q∈aa.aj b1→False)∧(∀ q∈aa.aj dg,q=bR→False)∧(∀ q∈aa.aj dg,q=sf→False)∧(∀ q∈aa.aj dg,q=tS→False)∧(∀ q∈aa.aj dg,q∈aa.aj b1→False)∧(∀ q∈aa.aj dg,q∈aa.aj cw→False)) _ _ ⟨0,none,0,none,0,none,0,Z,Z,q7,ai,gF,an7,(aa.aH.nil _),(aa.aH.nil _),(aa.aH.nil _),by omega,(λ q I γ=>by (simp [aa.aj] at I)),(λ q I γ=>by (simp [aa.aj] at I)),(λ q I γ=>by (simp [aa.aj] at I)),(λ q I γ=>by (simp [aa.aj] at I)),(λ q I γ=>by (simp [aa.aj] at I)),(λ q I γ=>by (simp [aa.aj] at I)),(λ q I γ=>by (simp [aa.aj] at I)),(λ q I γ=>by (simp [aa.aj] at I)),(λ q I γ=>by (simp [aa.aj] at I)),(λ q I γ=>by (simp [aa.aj] at I)),(λ q I γ=>by (simp [aa.aj] at I)),(λ q I γ=>by (simp [aa.aj] at I))⟩ (.cons Z (.cons Z (.cons Z (.cons Z (.cons Z (.cons Z (.cons Z (.cons Z (.cons Z (.cons (bH Z) .nil)))))))))) ?_;rintro uw aJ5 NM ⟨j,b1,bo,cw,c1,dg,c2,rfl,rfl,q9,ai,gF,bN,oH,oI,oJ,aA,HH,HI,A9,xe,nn,rz,tX,nY,nZ,C7,A_,PV⟩;have akV:=ai.lt;have Zt:=gF.lt;have akW:=bN.lt;have SW:=b7 oH.lt;have yi:=b7 oI.lt;have SX:=b7 oJ.lt;have uj:=alO W l j;refine ah<|Φ (blt Z Z)<|ag<|ay<| ?_;refine df Z (λ Xo=> ?_) (λ Xo=> ?_)
    ·have Bs:=aN.k_ aC _ (gP (d:=default) (show j<l.length by omega));refine bl<|ay<|bu<|ah<|Φ (bT j underlying48 fl Z Z ((aC.keep q9).bs (aO j)) Z (by omega))<|Φ (ao Z (aa.aG.er Fz ((aC.keep q9).cg (aO j)) (cA (l:=l) (u:=default) (by omega)) jc fl))<|al Z P5 Z Z λ GD acN hD ajv k6=> ?_;have yE:=ab q9 hD;have aD2:=k6.lt;refine st (new:= [J ((l.getD j default).by_),J ((l.getD j default).kind),J ((l.getD j default).aW),J ((l.getD j default).spot.x),J ((l.getD j default).spot.y),J ((l.getD j default).what)]) Z Z k6 Z fl Z Z Z λ amQ gZ k6=> ?_;have:=gZ.size;have Er:=Ext.mod yE gZ bC;refine ag<|ah<|vm Z<|Φ (av C8 Z)<|Φ (ao Z (k6.one a6 Z))<| ?_;have gF:=(gF.later hD).mod gZ aQ;refine Φ (lk underlying141 underlying3 Qg gF Z Z)<|vm Z<|Φ (ex Z Z)<|Φ (ex Z Z)<|va Z<|va Z<|ag<|ay<|ah<|Φ (av pK Z)<|Φ (ao Z (k6.one a6 Z))<|Φ (beq Z Z)<|ag<| ?_;refine jo Z (λ zy=> ?_) (λ zy=> ?_)
     ·refine cR [(1,0),(3,0),(5,0)] [0,1,2,3,4,5,6,7,8,9] ?_;refine aB Z (λ _=>av rB Z)<|bx Z (λ _ x=>ao Z ((k6.later x).one a6 Z))<|aB Z (λ _=>av rB Z)<|bx Z (λ _ x=>ao Z ((k6.later x).one a6 Z))<|aB Z (λ _=>av rD Z)<| ?_;have ai:=(ai.later hD).mod gZ aQ;refine bx Z (λ _ x=>ao Z ((ai.later x).one vx Z))<|aB Z (λ _=>cl underlying25 Z)<|aB Z (λ _=>blt Z Z)<|aB Z (λ _=>fG Z)<|aB Z (λ _=>fG Z)<|fn λ JF ep=> ?_;have:=ep.size;have k4:=ab Er ep;refine aP<|ah<|vm Z<|vm Z<|eN Z Z<|bh Z (λ hc=>av rB Z)<| ?_;have k6:=k6.later ep;refine bh Z (λ hc=>ao (gt hc Z) (k6.one a6 Z))<|bh Z (λ hc=>beq (gt hc Z) (gt hc Z))<|Φ (dv Z Z Z Z)<|ag<| ?_;refine dn Z (λ xr=> ?_) (λ xr=> ?_)
      ·have rU:may W (l.getD j default)=true:=by unfold may;rw [aTO zy];rw [← xr]
       refine rg<|Φ (ao Z (k6.all jc fl))<| ?_;have bN:=((bN.later hD).mod gZ aQ).later ep;have oH:=((oH.later hD).mod gZ (b0 SW)).later ep;have oI:=((oI.later hD).mod gZ (b0 yi)).later ep;have oJ:=((oJ.later hD).mod gZ (b0 SX)).later ep;have awx:∀ q∈(tS::(aa.aj b1++(aa.aj cw++aa.aj dg))),w.heap.size≤q:=by
        intro q I;simp only [aTZ,aTP] at I;rcases I with I | I | I | I
        ·omega
        ·exact (oH.lt q I).1
        ·exact (oI.lt q I).1
        ·exact (oJ.lt q I).1
       refine ca aeE Z Z ((acz (l.getD j default) w tS _ _ _ _ _ _ _ _ _ _ k4 Bs bN oH oI oJ (λ q I γ=>by (exact A9 q I γ)) (λ q I γ=>by (exact rz q I γ)) (λ q I γ=>by (exact C7 q I γ)) (λ q I γ=>by (exact tX q I γ)) (λ q I γ=>by (exact A_ q I γ)) (λ q I γ=>by (exact PV q I γ)) (by omega) (by omega) (by omega)).mono ?_);rintro e Ti ⟨anX,arY,anY,arZ,anZ,ar0,rfl,Ow,apS,apT,apU,atA,atB,atC,atq,atr,ats,afx,afy,afz,vV⟩;refine ⟨_,Z, ?_⟩;have Cm:=Ext.mod k4 vV awx;refine nl<|bU<|aP<|rg<|Φ (bad Z Z (bf (by omega)))<|vm Z<|nl<| ?_;have bb:fT W l (j+1)=fT W l j++nG (l.getD j default):=Z' (by omega) rU;have cP:gl W l (j+1)=gl W l j++nI (l.getD j default):=aad (by omega) rU;have jq:gC W l (j+1)=gC W l j++nH (l.getD j default):=aab (by omega) rU;have ai:=ai.later ep;have aCo:bR∉(tS::(aa.aj b1++(aa.aj cw++aa.aj dg))):=by
        intro I;simp only [aTZ,aTP] at I;rcases I with I | I | I | I
        ·omega
        ·exact (λ q (τ:q∈aa.aj b1) (ae:q=bR)=>show False by (exact HH q τ ae)) _ I Z
        ·exact (λ q (τ:q∈aa.aj cw) (ae:q=bR)=>show False by (exact xe q τ ae)) _ I Z
        ·exact (λ q (τ:q∈aa.aj dg) (ae:q=bR)=>show False by (exact nY q τ ae)) _ I Z
       have ai:=ai.mod vV aCo;have gF:=gF.later ep;have aCp:sf∉(tS::(aa.aj b1++(aa.aj cw++aa.aj dg))):=by
        intro I;simp only [aTZ,aTP] at I;rcases I with I | I | I | I
        ·omega
        ·exact (λ q (τ:q∈aa.aj b1) (ae:q=sf)=>show False by (exact HI q τ ae)) _ I Z
        ·exact (λ q (τ:q∈aa.aj cw) (ae:q=sf)=>show False by (exact nn q τ ae)) _ I Z
        ·exact (λ q (τ:q∈aa.aj dg) (ae:q=sf)=>show False by (exact nZ q τ ae)) _ I Z
       have gF:=gF.mod vV aCp;exact cD _ _ ⟨j+1,anX,arY,anY,arZ,anZ,ar0,Z,Z,Cm,ai,gF,(by rw [bb,cP,jq];exact Ow),(by rw [bb];exact apS),(by rw [cP];exact apT),(by rw [jq];exact apU),by omega,(λ q I γ=>by (exact aTT (afx q I) (λ Mo=>by (exact HH q Mo γ)) (λ Mo=>by omega))),(λ q I γ=>by (exact aTT (afx q I) (λ Mp=>by (exact HI q Mp γ)) (λ Mp=>by omega))),(λ q I γ=>by (exact atA q I γ)),(λ q I γ=>by (exact aTT (afy q I) (λ DE=>by (exact xe q DE γ)) (λ DE=>by omega))),(λ q I γ=>by (exact aTT (afy q I) (λ Mq=>by (exact nn q Mq γ)) (λ Mq=>by omega))),(λ q I γ=>by (exact atB q I γ)),(λ q I γ=>by (exact atq q I γ)),(λ q I γ=>by (exact aTT (afz q I) (λ Mr=>by (exact nY q Mr γ)) (λ Mr=>by omega))),(λ q I γ=>by (exact aTT (afz q I) (λ Ms=>by (exact nZ q Ms γ)) (λ Ms=>by omega))),(λ q I γ=>by (exact atC q I γ)),(λ q I γ=>by (exact atr q I γ)),(λ q I γ=>by (exact ats q I γ))⟩ (by omega) (.cons Z (.cons Z (.cons Z (.cons Z (.cons Z (.cons Z (.cons Z (.cons Z (.cons Z (.cons (bH Z) .nil))))))))))
      ·have rU:may W (l.getD j default)=false:=by unfold may;rw [aTO zy];rw [← xr]
       refine ei<|bU<|aP<|rg<|Φ (bad Z Z (bf (by omega)))<|vm Z<|nl<| ?_;have bb:fT W l (j+1)=fT W l j:=Z_ (by omega) rU;have cP:gl W l (j+1)=gl W l j:=aac (by omega) rU;have jq:gC W l (j+1)=gC W l j:=aaa (by omega) rU;have ai:=ai.later ep;have gF:=gF.later ep;have bN:=((bN.later hD).mod gZ aQ).later ep;have oH:=((oH.later hD).mod gZ (b0 SW)).later ep;have oI:=((oI.later hD).mod gZ (b0 yi)).later ep;have oJ:=((oJ.later hD).mod gZ (b0 SX)).later ep;exact cD _ _ ⟨j+1,b1,bo,cw,c1,dg,c2,Z,Z,k4,ai,gF,(by rw [bb,cP,jq];exact bN),(by rw [bb];exact oH),(by rw [cP];exact oI),(by rw [jq];exact oJ),by omega,(λ q I γ=>by (exact HH q I γ)),(λ q I γ=>by (exact HI q I γ)),(λ q I γ=>by (exact A9 q I γ)),(λ q I γ=>by (exact xe q I γ)),(λ q I γ=>by (exact nn q I γ)),(λ q I γ=>by (exact rz q I γ)),(λ q I γ=>by (exact tX q I γ)),(λ q I γ=>by (exact nY q I γ)),(λ q I γ=>by (exact nZ q I γ)),(λ q I γ=>by (exact C7 q I γ)),(λ q I γ=>by (exact A_ q I γ)),(λ q I γ=>by (exact PV q I γ))⟩ (by omega) (.cons Z (.cons Z (.cons Z (.cons Z (.cons Z (.cons Z (.cons Z (.cons Z (.cons Z (.cons (bH Z) .nil))))))))))
     ·refine bl<|ah<|vm Z<|vm Z<|eN Z Z<|bh Z (λ hc=>av rB Z)<|bh Z (λ hc=>ao (gt hc Z) (k6.one a6 Z))<|bh Z (λ hc=>beq (gt hc Z) (gt hc Z))<|Φ (dv Z Z Z Z)<|ag<| ?_;refine dn Z (λ Fo=> ?_) (λ Fo=> ?_)
      ·have rU:may W (l.getD j default)=true:=by unfold may;rw [aTL zy];rw [← Fo]
       refine rg<|Φ (ao Z (k6.all jc fl))<| ?_;have bN:=(bN.later hD).mod gZ aQ;have oH:=(oH.later hD).mod gZ (b0 SW);have oI:=(oI.later hD).mod gZ (b0 yi);have oJ:=(oJ.later hD).mod gZ (b0 SX);have aww:∀ q∈(tS::(aa.aj b1++(aa.aj cw++aa.aj dg))),w.heap.size≤q:=by
        intro q I;simp only [aTZ,aTP] at I;rcases I with I | I | I | I
        ·omega
        ·exact (oH.lt q I).1
        ·exact (oI.lt q I).1
        ·exact (oJ.lt q I).1
       refine ca aeE Z Z ((acz (l.getD j default) w tS _ _ _ _ _ _ _ _ _ _ Er Bs bN oH oI oJ (λ q I γ=>by (exact A9 q I γ)) (λ q I γ=>by (exact rz q I γ)) (λ q I γ=>by (exact C7 q I γ)) (λ q I γ=>by (exact tX q I γ)) (λ q I γ=>by (exact A_ q I γ)) (λ q I γ=>by (exact PV q I γ)) (by omega) (by omega) (by omega)).mono ?_);rintro e Gv ⟨anx,arB,anz,arC,anA,arD,rfl,an3,apw,apx,apy,atx,aty,atz,atn,ato,atp,afq,afr,afs,xM⟩;refine ⟨_,Z, ?_⟩;have N9:=Ext.mod Er xM aww;refine nl<|bU<|aP<|rg<|Φ (bad Z Z (bf (by omega)))<|vm Z<|nl<| ?_;have bb:fT W l (j+1)=fT W l j++nG (l.getD j default):=Z' (by omega) rU;have cP:gl W l (j+1)=gl W l j++nI (l.getD j default):=aad (by omega) rU;have jq:gC W l (j+1)=gC W l j++nH (l.getD j default):=aab (by omega) rU;have ai:=(ai.later hD).mod gZ aQ;have aCm:bR∉(tS::(aa.aj b1++(aa.aj cw++aa.aj dg))):=by
        intro I;simp only [aTZ,aTP] at I;rcases I with I | I | I | I
        ·omega
        ·exact (λ q (τ:q∈aa.aj b1) (ae:q=bR)=>show False by (exact HH q τ ae)) _ I Z
        ·exact (λ q (τ:q∈aa.aj cw) (ae:q=bR)=>show False by (exact xe q τ ae)) _ I Z
        ·exact (λ q (τ:q∈aa.aj dg) (ae:q=bR)=>show False by (exact nY q τ ae)) _ I Z
       have ai:=ai.mod xM aCm;have aCn:sf∉(tS::(aa.aj b1++(aa.aj cw++aa.aj dg))):=by
        intro I;simp only [aTZ,aTP] at I;rcases I with I | I | I | I
        ·omega
        ·exact (λ q (τ:q∈aa.aj b1) (ae:q=sf)=>show False by (exact HI q τ ae)) _ I Z
        ·exact (λ q (τ:q∈aa.aj cw) (ae:q=sf)=>show False by (exact nn q τ ae)) _ I Z
        ·exact (λ q (τ:q∈aa.aj dg) (ae:q=sf)=>show False by (exact nZ q τ ae)) _ I Z
       have gF:=gF.mod xM aCn;exact cD _ _ ⟨j+1,anx,arB,anz,arC,anA,arD,Z,Z,N9,ai,gF,(by rw [bb,cP,jq];exact an3),(by rw [bb];exact apw),(by rw [cP];exact apx),(by rw [jq];exact apy),by omega,(λ q I γ=>by (exact aTT (afq q I) (λ ahW=>by (exact HH q ahW γ)) (λ ahW=>by omega))),(λ q I γ=>by (exact aTT (afq q I) (λ ahX=>by (exact HI q ahX γ)) (λ ahX=>by omega))),(λ q I γ=>by (exact atx q I γ)),(λ q I γ=>by (exact aTT (afr q I) (λ DF=>by (exact xe q DF γ)) (λ DF=>by omega))),(λ q I γ=>by (exact aTT (afr q I) (λ Mt=>by (exact nn q Mt γ)) (λ Mt=>by omega))),(λ q I γ=>by (exact aty q I γ)),(λ q I γ=>by (exact atn q I γ)),(λ q I γ=>by (exact aTT (afs q I) (λ Mu=>by (exact nY q Mu γ)) (λ Mu=>by omega))),(λ q I γ=>by (exact aTT (afs q I) (λ Mv=>by (exact nZ q Mv γ)) (λ Mv=>by omega))),(λ q I γ=>by (exact atz q I γ)),(λ q I γ=>by (exact ato q I γ)),(λ q I γ=>by (exact atp q I γ))⟩ (by omega) (.cons Z (.cons Z (.cons Z (.cons Z (.cons Z (.cons Z (.cons Z (.cons Z (.cons Z (.cons (bH Z) .nil))))))))))
      ·have rU:may W (l.getD j default)=false:=by unfold may;rw [aTL zy];rw [← Fo]
       refine ei<|bU<|aP<|rg<|Φ (bad Z Z (bf (by omega)))<|vm Z<|nl<| ?_;have bb:fT W l (j+1)=fT W l j:=Z_ (by omega) rU;have cP:gl W l (j+1)=gl W l j:=aac (by omega) rU;have jq:gC W l (j+1)=gC W l j:=aaa (by omega) rU;have ai:=(ai.later hD).mod gZ aQ;have bN:=(bN.later hD).mod gZ aQ;have oH:=(oH.later hD).mod gZ (b0 SW);have oI:=(oI.later hD).mod gZ (b0 yi);have oJ:=(oJ.later hD).mod gZ (b0 SX);exact cD _ _ ⟨j+1,b1,bo,cw,c1,dg,c2,Z,Z,Er,ai,gF,(by rw [bb,cP,jq];exact bN),(by rw [bb];exact oH),(by rw [cP];exact oI),(by rw [jq];exact oJ),by omega,(λ q I γ=>by (exact HH q I γ)),(λ q I γ=>by (exact HI q I γ)),(λ q I γ=>by (exact A9 q I γ)),(λ q I γ=>by (exact xe q I γ)),(λ q I γ=>by (exact nn q I γ)),(λ q I γ=>by (exact rz q I γ)),(λ q I γ=>by (exact tX q I γ)),(λ q I γ=>by (exact nY q I γ)),(λ q I γ=>by (exact nZ q I γ)),(λ q I γ=>by (exact C7 q I γ)),(λ q I γ=>by (exact A_ q I γ)),(λ q I γ=>by (exact PV q I γ))⟩ (by omega) (.cons Z (.cons Z (.cons Z (.cons Z (.cons Z (.cons Z (.cons Z (.cons Z (.cons Z (.cons (bH Z) .nil))))))))))
    ·refine cV<|cU<|c'<|cT<|aP<|ay<| ?_;refine cR [(1,0),(3,0),(5,0)] [0,1,2,3,4,5,6,7,8,9] ?_;refine aB Z (λ _=>av VO Z)<|bx Z (λ _ x=>ao Z ((bN.later x).one aeB Z))<|aB Z (λ _=>av VP Z)<|bx Z (λ _ x=>ao Z ((bN.later x).one aeD Z))<|aB Z (λ _=>av E' Z)<|bx Z (λ _ x=>ao Z ((bN.later x).one P6 Z))<|aB Z (λ _=>fG Z)<|aB Z (λ _=>fG Z)<|aB Z (λ _=>fG Z)<|aB Z (λ _=>fG Z)<|fn λ aSA Tv=> ?_;have aIo:=ab q9 Tv;refine aP<|rt<|aV (.tmp Z (.tmp Z (.tmp Z (.tmp Z .nil))))<| ?_;have oH:=oH.later Tv;have oI:=oI.later Tv;have oJ:=oJ.later Tv;have avs:j=l.length:=by omega
     subst avs;exact ⟨b1,bo,cw,c1,dg,c2, .inr (.inr ⟨by simpa using kf,by simpa using iT,rfl,oH,oI,oJ⟩),aIo⟩
end
section
def ot (W:ak) (l:List aN):Int:=if iG l≠0 then iG l else W.bn
theorem SA {W:ak} {l:List aN} (h:ot W l=0):iG l=0∧W.bn=0:=by
 unfold ot at h;split at h
 ·rename_i τ;exact absurd h τ
 ·rename_i τ;exact ⟨by simpa using τ,h⟩
theorem aFz {W:ak} {l:List aN} (h:ot W l=0):l.length≤100:=(Na (SA h).1).1
theorem aFA (A:Option Addr) (c:Nat) (l:List aN) (rq:ak.b_) (W:ak) (w:World) (aC:aN.rep.aG 48 w A c l) (b4:ak.Has w rq W) (h:ot W l≠0):Calls prog 30 #[.slice A l.length c, .agg (ak.cells rq W).toArray] w (λ e w'=>e= .returned (.tuple #[.slice none 0 0, .slice none 0 0, .slice none 0 0, .int .i64 (ot W l)])∧Ext w w'):=by
 refine (alP A c l rq W w aC b4).mono λ e w' he=> ?_;obtain ⟨b1,bo,cw,c1,dg,c2,(⟨τ,ae⟩ | ⟨τ,ae,aw⟩ | ⟨τ,ae,_⟩),hx⟩:=he
 ·exact ⟨by rw [ae];unfold ot;rw [aTO τ],hx⟩
 ·exact ⟨by rw [aw];unfold ot;rw [aTL (by simpa using τ)],hx⟩
 ·exact absurd (by unfold ot;rw [aTL (by simpa using τ)];exact ae) h
theorem alQ (A:Option Addr) (c:Nat) (l:List aN) (rq:ak.b_) (W:ak) (w:World) (aC:aN.rep.aG 48 w A c l) (b4:ak.Has w rq W) (h:ot W l=0):Calls prog 30 #[.slice A l.length c, .agg (ak.cells rq W).toArray] w (λ e w'=>∃ b1 bo cw c1 dg c2,e= .returned (.tuple #[.slice b1 (fT W l l.length).length bo, .slice cw (gl W l l.length).length c1, .slice dg (gC W l l.length).length c2, .int .i64 0])∧dF.rep.aH 201 16 w' w.heap.size (aa.aj b1) b1 bo (fT W l l.length)∧dG.rep.aH 203 24 w' w.heap.size (aa.aj cw) cw c1 (gl W l l.length)∧cG.rep.aH 153 40 w' w.heap.size (aa.aj dg) dg c2 (gC W l l.length)∧Ext w w'):=by
 obtain ⟨cF,a2⟩:=SA h;refine (alP A c l rq W w aC b4).mono λ e w' he=> ?_;obtain ⟨b1,bo,cw,c1,dg,c2,(⟨τ,ae⟩ | ⟨τ,ae,aw⟩ | ⟨τ,ae,aw,aU,bz,cb⟩),hx⟩:=he
 ·exact absurd cF τ
 ·exact absurd a2 ae
 ·exact ⟨b1,bo,cw,c1,dg,c2,aw,aU,bz,cb,hx⟩
end
section
section
variable {F:List Nat} {P:Program} {ops:Array Oper} {Q:Exit→Act→World→Prop} {aT:Nat→Nat}
def uZ (F:List Nat) (P:Program) (ops:Array Oper) (w0:World) (o:Oper) (v:Value) (a:Act):Prop :=
  (Region.wanted o (yielded ops a.tmps)=true∧∀ w,Mod F w0 w→zU P w v ((execOp a.eval o).run P w))∨
  (Region.wanted o (yielded ops a.tmps)=false∧v=undef)
theorem uZ.of_same {w0:World} {o:Oper} {v:Value} {a a':Act} (h:uZ F P ops w0 o v a) (he:execOp a'.eval o=execOp a.eval o) (hw:Region.wanted o (yielded ops a'.tmps)=Region.wanted o (yielded ops a.tmps)):uZ F P ops w0 o v a':=by
  unfold uZ at *;rw [he,hw];exact h
theorem uZ.on {w0 aS:World} {o:Oper} {v:Value} {a:Act} (h:uZ F P ops w0 o v a) (hx:Mod F w0 aS):uZ F P ops aS o v a :=
  h.imp (λ ⟨τ,ae⟩=>⟨τ,λ w hw=>ae w (hx.trans hw)⟩) id
theorem Yields.aD4 {w0:World} {o:Oper} {v:Value} {a:Act} (h:Yields P ops o v a):uZ F P ops w0 o v a :=
  h.imp (λ ⟨τ,ae⟩=>⟨τ,λ w _=>by rw [ae w];exact ⟨rfl,rfl⟩⟩) id
def aFT (F:List Nat) (P:Program) (ops:Array Oper) (Q:Exit→Act→World→Prop) (aT:Nat→Nat) (i:Nat) (K:Act→World→Prop) (a:Act) (w0:World):Prop :=
  ∃ o,ops[i]? =some o∧
    ((aT i≤1∧∃ v,uZ F P ops w0 o v a∧K (a.put o.dst v) w0)∨
     (1<aT i∧∀ w,Ext w0 w→wpOp P ops Q i (λ a' w'=>(aT i=2→Mod F w0 w')∧K a' w') a w))
def KC (F:List Nat) (P:Program) (ops:Array Oper) (Q:Exit→Act→World→Prop) (aT:Nat→Nat):Nat→Array Bool→Act→World→Prop
  | 0,l,a,w0=>Region.ready .any ops l= []∧∀ w,Ext w0 w→Q .normal a w
  | f+1,l,a,w0=>(Region.ready .any ops l= []→∀ w,Ext w0 w→Q .normal a w)∧∀ i∈Region.ready .any ops l,aFT F P ops Q aT i (KC F P ops Q aT f (l.setIfInBounds i true)) a w0
theorem Hq:∀ (f:Nat) (l:Array Bool) (a:Act) (w0:World),KC F P ops Q aT f l a w0→∀ w,Ext w0 w→wpAny P .any ops Q f l a w
  | 0,_,_,_,h,w,hw=>⟨h.1,h.2 w hw⟩
  | f+1,l,a,w0,h,w,hw=>⟨λ aK=>h.1 aK w hw,λ i ar=>by
      obtain ⟨o,cc,ae⟩:=h.2 i ar;rcases ae with ⟨_,v,I,au⟩ | ⟨_,ae⟩
      · unfold wpOp
        simp only [cc];rcases I with ⟨nz,I⟩ | ⟨nz,rfl⟩
        · rw [aTO nz]
          refine .inl ?_;have I:=I w (Mod.bt hw);unfold Oper.wp;generalize (execOp a.eval o).run P w=r at *
          cases r with
          | ok n w' =>
            cases n<;>simp only [zU] at I<;>simp only [Oper.upon]
            case value u=>obtain ⟨rfl,rfl⟩:=I;exact Hq f _ _ _ au _ hw
            case skip=>obtain ⟨rfl,rfl⟩:=I;exact Hq f _ _ _ au _ hw
            case enter f' args=>obtain ⟨rfl,hc⟩:=I;exact hc.mono λ e jM ⟨he,hx⟩=>by subst he;exact Hq f _ _ _ au _ (hw.nL hx)
          | halt x w'=>simp only [zU] at I
        · rw [aTL (by rw [nz];decide)]
          exact Hq f _ _ _ au _ hw
      · exact aV7 (λ a' w' aw=>Hq f _ _ _ aw.2 _ (Ext.bg w')) (ae w hw)⟩
theorem afe {i:Nat} {dN:Oper} {v:Value} (ar:ops[i]? =some dN) (au:aT i≤1) (ny:∀ (j:Nat) (o:Oper) cs b,ops[j]? =some o→o.op≠ .select cs b)
    (iC:∀ c a w,¬ Q (.panic c) a w) (aE:World→Act→Prop) (mv:∀ w0 a,aE w0 a→uZ F P ops w0 dN v a)
    (z2:∀ w0 a a',aE w0 a→execOp a'.eval dN=execOp a.eval dN→Region.wanted dN (yielded ops a'.tmps)=Region.wanted dN (yielded ops a.tmps)→aE w0 a')
    (z3:∀ w0 aS a,Mod F w0 aS→aE w0 a→aE aS a) (R:Nat→Bool) (xH:Array Bool)
    (hR:∀ j dc,ops[j]? =some dc→j≠i→(∀ e∈dc.after,Region.binds .any e=true→R e.on=true)→R j=true)
    (bj:(∀ w0 aS a,aE w0 a→aE aS a)∨∀ j,R j=true→3≤aT j→xH.getD j true=true):
    ∀ (f:Nat) (l:Array Bool) (a:Act) (w0:World),(∀ j,l.getD j false=true→R j=true)→(∀ j,xH.getD j true=true→l.getD j true=true)→
      (∀ j dc,ops[j]? =some dc→j≠i→l.getD j true=false→(∀ e∈dc.after,Region.binds .any e=true→e.on≠i)→dN.apart ops dc=true)→
      i∈Region.ready .any ops l→aE w0 a→KC F P ops Q aT f (l.setIfInBounds i true) (a.put dN.dst v) w0→KC F P ops Q aT (f+1) l a w0:=by
  intro f;induction f with
  | zero =>
    intro l a w0 _ _ _ hr bG H;refine ⟨λ h=>(by rw [h] at hr;cases hr),λ j aA=> ?_⟩;by_cases hO:j=i
    · subst hO;exact ⟨dN,ar, .inl ⟨au,v,mv _ _ bG,H⟩⟩
    · have:=aWf aA hO
      rw [H.1] at this;cases this
  | succ f bK =>
    intro l a w0 Dq vH Dk hr bG H;refine ⟨λ h=>(by rw [h] at hr;cases hr),λ j aA=> ?_⟩;by_cases hO:j=i
    · subst hO;exact ⟨dN,ar, .inl ⟨au,v,mv _ _ bG,H⟩⟩
    · obtain ⟨dc,kP,τ⟩:=H.2 j (aWf aA hO)
      obtain ⟨xA,gQ,Dw,dD⟩:=aXi.1 aA;obtain rfl:gQ=dc:=by rw [kP] at Dw;exact (aTA Dw).symm
      have LZ:∀ e∈gQ.after,Region.binds .any e=true→e.on≠i:=λ e he γ heq=>by
        have τ:=dD e he γ;have aK:=(aXi.1 hr).1;rw [heq] at τ;rcases aUt i l.size with c7 | c7
        · simp [c7] at aK τ;rw [aK] at τ;cases τ
        · simp [aUD c7] at τ
      have LB:=Dk j gQ kP hO xA LZ;obtain ⟨cF,a2,a3⟩:=aX5 LB;have Ma:∀ cs b,dN.op≠ .select cs b:=λ cs b=>ny i dN cs b ar;have xE:∀ cs b,gQ.op≠ .select cs b:=λ cs b=>ny j gQ cs b kP;have keep:∀ aS a u,aE aS a→aE aS (a.put gQ.dst u):=λ aS a u bG=>z2 _ _ _ bG (aWm dN Ma a gQ.dst u a3) (aWy dN a gQ.dst u a3);have De:R j=true:=hR j gQ kP hO λ e he γ=>Dq _ (dD e he γ);have Dr:∀ k,(l.setIfInBounds j true).getD k false=true→R k=true:=λ k au=>by
        by_cases hb:j=k
        · rw [← hb];exact De
        · rw [aV1 false hb] at au;exact Dq k au
      have Dp:∀ k,xH.getD k true=true→(l.setIfInBounds j true).getD k true=true:=λ k au=>by
        by_cases hb:j=k
        · subst hb
          rcases aUt j l.size with c7 | c7
          · simp [c7]
          · simp [aUD c7]
        · rw [aV1 true hb];exact vH k au
      have Dl:∀ k ok,ops[k]? =some ok→k≠i→(l.setIfInBounds j true).getD k true=false→
          (∀ e∈ok.after,Region.binds .any e=true→e.on≠i)→dN.apart ops ok=true:=λ k ok au pY DA kx=>by
        refine Dk k ok au pY ?_ kx;by_cases hb:j=k
        · subst hb;exact xA
        · rw [aV1 true hb] at DA;exact DA
      have Dz:=aWf hr (aWp hO);rcases τ with ⟨xB,u,I,hK⟩ | ⟨xB,τ⟩
      · refine ⟨gQ,kP, .inl ⟨xB,u,I.of_same (aWm gQ xE a dN.dst v cF).symm (aWy gQ a dN.dst v cF).symm, ?_⟩⟩
        refine bK _ _ _ Dr Dp Dl Dz (keep _ _ _ bG) ?_;rw [aVd _ _ hO,← aVR a v u a2];exact hK
      · refine ⟨gQ,kP, .inr ⟨xB,λ w hw=> ?_⟩⟩
        refine aV7 (λ a' w' aw=>⟨aw.2.1, ?_⟩) (aaM (aE:=aE w0) kP cF a2 xE iC (keep w0) (λ a d bG=>z2 _ _ _ bG Z Z) bG (τ w hw));have Mf:aE w' a':=by
          rcases aUt (aT j) 3 with bA | n9
          · exact z3 _ _ _ (aw.2.1 (by omega)) aw.1
          · rcases bj with bj | bj
            · exact bj _ _ _ aw.1
            · have:=vH j (bj j De n9);rw [xA] at this;cases this
        refine bK _ _ _ Dr Dp Dl Dz Mf ?_;rw [aVd _ _ hO];exact aw.2.2
def JJ (F:List Nat) (P:Program) (ops:Array Oper) (Q:Exit→Act→World→Prop) (aT:Nat→Nat):List Nat→Act→World→Prop
  | [],a,w0=>∀ w,Ext w0 w→Q .normal a w
  | i::r,a,w0=>∃ o,ops[i]? =some o∧
      ((aT i=0∧∃ v,uZ F P ops w0 o v a∧JJ F P ops Q aT r (a.put o.dst v) w0)∨
       (aT i=1∧∃ v,Yields P ops o v a∧JJ F P ops Q aT r (a.put o.dst v) w0)∨
       (1<aT i∧∀ w,Ext w0 w→wpOp P ops Q i (λ a' w'=>(aT i=2→Mod F w0 w')∧JJ F P ops Q aT r a' w') a w))
theorem Pr (hs:Region.noSelect ops=true) (iC:∀ c a w,¬ Q (.panic c) a w):∀ (r:List Nat) (l:Array Bool) (a:Act) (w0:World),l.size=ops.size→kd ops aT r l=true→JJ F P ops Q aT r a w0→KC F P ops Q aT r.length l a w0
  | [],l,a,w0,_,bj,h=>⟨by simpa [kd] using bj,h⟩
  | i::r,l,a,w0,aC,bj,h=>by
    obtain ⟨o,cc,h⟩:=h;have ny:=aWn hs;rcases h with ⟨au,v,I,hK⟩ | ⟨au,v,I,hK⟩ | ⟨au,h⟩
    · simp only [kd,au,aTM] at bj
      obtain ⟨⟨⟨hf,hr⟩,γ⟩,bj⟩:=bj;obtain ⟨R,r1,r2,se⟩:=Px aC γ;exact afe cc (by omega) ny iC (λ w0 a=>uZ F P ops w0 o v a) (λ _ _ h=>h) (λ _ _ _ h he hw=>h.of_same he hw) (λ _ _ _ hx h=>h.on hx) R l r1 (.inr se) _ _ _ _ r2 (λ _ h=>h) (aVp cc hf) (by simpa using hr) I
        (Pr hs iC r _ _ _ (by simpa using aC) bj hK)
    · simp only [kd,au,aTM] at bj
      obtain ⟨⟨hf,hr⟩,bj⟩:=bj;exact afe cc (by omega) ny iC (λ _ a=>Yields P ops o v a) (λ _ _ h=>Yields.aD4 h) (λ _ _ _ h he hw=>h.of_same he hw) (λ _ _ _ _ h=>h) (λ _=>true) l (λ _ _ _ _ _=>Z) (.inl λ _ _ _ h=>h) _ _ _ _ (λ _ _=>Z) (λ _ h=>h) (aVp cc hf) (by simpa using hr) I
        (Pr hs iC r _ _ _ (by simpa using aC) bj hK)
    · obtain ⟨k,ff⟩:∃ k,aT i=k+2:=⟨aT i - 2,by omega⟩
      simp only [kd,ff,aTM,aUC] at bj;obtain ⟨hr,bj⟩:=bj;refine ⟨λ aK=>(by rw [hr] at aK;cases aK),λ j aA=> ?_⟩;rw [hr] at aA;obtain rfl:j=i:=by simpa using aA
      exact ⟨o,cc, .inr ⟨au,λ w hw=>aV7 (λ a' w' aw=>⟨aw.1,Pr hs iC r _ _ _ (by simpa using aC) bj aw.2⟩) (h w hw)⟩⟩
theorem aEl {id:Nat} {a:Act} {w:World} (bV:List Nat) (hm:P.follows .mixedOrders=true) (bj:(Region.noSelect ops && (bV.length == ops.size) && kd ops aT bV (Array.replicate ops.size false))=true)
    (h:JJ F P ops (hz (Q .normal)) aT bV a w):(Code.region id ops true).wp P Q a w:=by
  simp only [aTM,aUC] at bj;obtain ⟨⟨hs,aC⟩,bj⟩:=bj;refine aYA (aXq hm (Q:=hz (Q .normal)) ?_) (λ e a w I=>by cases e<;>first | exact I | exact I.elim);have:=Pr (P:=P) hs (Q:=hz (Q .normal)) (λ _ _ _ h=>h) bV (Array.replicate ops.size false) a w (by simp) bj h;rw [aC] at this;exact Hq _ _ _ _ this _ (aUb _ w).drew
end
section
variable {F:List Nat} {P:Program} {n:Nat} {E cO:List (Nat×Value)} {a:Act} {w w' w0 aS:World} {Q:Exit→Act→World→Prop} {ops:Array Oper} {v:Value} {aT:Nat→Nat}
variable {d:Option Nat} {ty:TypeId} {pos:String} {af:Array Edge} {g:Option (Nat×Bool)} {x y z:Operand} {t:TypeId} {rest:List Oper} {bV:List Nat} {i:Nat}
def yW (F:List Nat) (P:Program) (n:Nat) (ops:Array Oper) (Q:Exit→Act→World→Prop) (aT:Nat→Nat) (bV:List Nat) (E:List (Nat×Value)) (w0:World):Prop:=∀ a,eD n E a→JJ F P ops (hz (Q .normal)) aT bV a w0
theorem Sn {id:Nat} (F:List Nat) (ll:List (Nat×Nat)) (bV:List Nat) (hm:P.follows .mixedOrders=true) (bj:(Region.noSelect ops && (bV.length == ops.size) && kd ops (nA ll) bV (Array.replicate ops.size false))=true)
    (h:yW F P n ops Q (nA ll) bV E w):W P n (.region id ops true) Q E w:=λ a ha=>aEl bV hm bj (h a ha)
theorem Qq (h:∀ w,Ext w0 w→N n Q E w):yW F P n ops Q aT [] E w0:=λ a ha w hw=>h w hw a ha
theorem zo {d:Nat} {op:Op} (ar:ops[i]? =some ⟨some d,op,ty,pos,af,none⟩) (au:aT i=0) (hr:∀ w,Mod F w0 w→cQ P E ⟨some d,op,ty,pos,af,none⟩ w v w) (hd:Nat.blt d n=true)
    (h:yW F P n ops Q aT bV ((d,v)::E) w0):yW F P n ops Q aT (i::bV) E w0:=λ a ha =>
  ⟨_,ar, .inl ⟨au,v, .inl ⟨Aj rfl,λ w hw=>by rw [hr w hw n a ha];exact ⟨rfl,rfl⟩⟩,h _ (ha.put hd v)⟩⟩
theorem jF {d:Nat} {op:Op} (ar:ops[i]? =some ⟨some d,op,ty,pos,af,none⟩) (au:aT i=1) (hr:∀ w,cQ P E ⟨some d,op,ty,pos,af,none⟩ w v w) (hd:Nat.blt d n=true)
    (h:yW F P n ops Q aT bV ((d,v)::E) w0):yW F P n ops Q aT (i::bV) E w0:=λ a ha =>
  ⟨_,ar, .inr (.inl ⟨au,v, .inl ⟨Aj rfl,λ w=>hr w n a ha⟩,h _ (ha.put hd v)⟩)⟩
theorem Fj {o:Oper} (aM:o.guard=none) (ar:ops[i]? =some o) (au:aT i=2) (h:∀ w,Ext w0 w→ET P n ops o E w λ cO w'=>Mod F w0 w'∧yW F P n ops Q aT bV cO w'):yW F P n ops Q aT (i::bV) E w0:=λ a ha =>
  ⟨_,ar, .inr (.inr ⟨by omega,λ w hw=>Jk aM ar (h w hw) (λ cO w' a' au rK=>⟨λ _=>au.1,au.2 a' rK⟩) ha⟩)⟩
theorem Wn {o:Oper} (aM:o.guard=none) (ar:ops[i]? =some o) (au:aT i=3) (h:∀ w,Ext w0 w→ET P n ops o E w λ cO w'=>yW F P n ops Q aT bV cO w'):yW F P n ops Q aT (i::bV) E w0:=λ a ha =>
  ⟨_,ar, .inr (.inr ⟨by omega,λ w hw=>Jk aM ar (h w hw) (λ cO w' a' au rK=>⟨λ ae=>by omega,au a' rK⟩) ha⟩)⟩
end
end
end Go.Proofs.YtmeeljmapailnaaGreat
