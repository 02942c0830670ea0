import Derived.Test.YtmeeljmapailnaaGreatGooQ
set_option linter.unusedVariables false
set_option linter.unusedSimpArgs false
set_option maxRecDepth 100000
set_option maxHeartbeats 4000000
open Go.RowKit
namespace Go.Proofs.YtmeeljmapailnaaGreat
open Tryz
abbrev aUn:=@List.pairwise_iff_getElem
abbrev aVO:=@Bool.eq_iff_iff
abbrev aWh:=@List.drop_zero
abbrev aWN:=@List.getElem_cons_zero
abbrev aWO:=@List.getElem_cons_succ
abbrev aYR:=@Nat.lt_trichotomy
section
def wt (t:bd):Int:=t.load+ak.kW t.kind
def ak.total (W:ak):Int:=W.bM.sum+W.bp.sum+(W.aq.map wt).sum
def ak.aTr (W:ak):Int:=if W.bn=0 then W.total else 0
end
section
theorem aor:G6 prog az.cells 55 :=by
 intro a b w;obtain ⟨a0,cF⟩:=a;obtain ⟨Hr,hL⟩:=b;simp only [az.cells,az.mk.injEq];constructor
 ·go_simp
  repeat' split
  all_goals simp_all
 ·go_simp
  repeat' split
  all_goals simp_all
theorem aop:(prog).eqGuardType (prog).depth 55 =false:=by kernel_rfl
theorem aos:G6 prog bd.cells 57 :=by
 intro a b w;obtain ⟨a0,cF,a2,⟨a3,a4⟩,a5,Hn⟩:=a;obtain ⟨Hr,hL,dH,⟨gy,y9⟩,Hs,acI⟩:=b;simp only [bd.cells,bd.mk.injEq,az.mk.injEq];constructor
 ·go_simp
  repeat' split
  all_goals simp_all
 ·go_simp
  repeat' split
  all_goals simp_all
theorem aoq:(prog).eqGuardType (prog).depth 57 =false:=by kernel_rfl
theorem HQ {α:Type} {l m:List α} {k:Nat} (τ:l.length=m.length) (au:l.length≤k) (h:∀ j,j<k→l[j]? =m[j]?):l=m:=by
 apply aUS;intro j;by_cases aA:j<k
 ·exact h j aA
 ·rw [aUH (by omega),aUH (by omega)]
theorem IX {α:Type} [DecidableEq α] {a b:α} (h:(!decide (a=b))=true):¬ a=b:=by simpa using h
theorem HR {α:Type} [DecidableEq α] {a b:α} (h:(!decide (a=b))=false):a=b:=by simpa using h
theorem avx (A B:Option Addr) (c d hL dH:Nat) (l m:List az) (w:World) (τ:az.rep.aG hL w A c l) (ae:az.rep.aG dH w B d m):
  Calls prog 47 #[.slice A l.length c, .slice B m.length d] w (λ e w'=>e= .returned (.bool (decide (l=m)))∧Ext w w'):=by
 have hle:=τ.eZ;refine b' (n:=26) func47 Z Z Z ?_;refine ah<|va Z<|ag<|ay<|ah<|vm Z<|Φ (cl underlying25 Z)<|vm Z<|Φ (cl underlying25 Z)<|Φ (bne Z Z)<|ag<| ?_;refine ee Z (λ gA=> ?_) (λ gA=> ?_)
 ·refine ah<|va Z<|ag<|rt<|bP<|aV (.tmp Z .nil)<| ?_;rw [aT4 (λ e=>gA (by rw [e]))];exact ⟨Z,(Ext.bg w)⟩
 ·refine bl<|ay<|ah<|vm Z<|Φ (cl underlying25 Z)<|vm Z<|ag<|bu<| ?_;refine dx (λ bZ bS aL=>∃ k:Nat,bS= [(0, .slice A l.length c),(1, .slice B m.length d),(12,J (l.length:Int)),(13,J (k:Int))]∧bZ=l.length - k∧Ext w aL∧(k≤l.length)∧(∀ j,j<k→l[j]? =m[j]?)) _ _ ⟨0,Z,Z,(Ext.bg w),by omega,λ j aA=>absurd aA (by omega)⟩ (.cons Z (.cons Z (.cons Z (.cons (bH Z) .nil)))) ?_;rintro r3 rf iH ⟨k,rfl,rfl,b9,au,ff⟩;have hle:=τ.eZ;refine ah<|Φ (blt Z Z)<|ag<|ay<| ?_;refine df Z (λ jr=> ?_) (λ jr=> ?_)
  ·obtain ⟨d_,fB⟩:=gH (l:=l) (i:=k) (by omega);obtain ⟨nR,lj⟩:=gH (l:=m) (i:=k) (by omega);refine bl<|ay<|bu<|ah<|vm Z<|va Z<|ag<|ay<| ?_;refine cR [(3,0),(7,0)] [0,1,2,3,4,5,6,7,8] ?_;refine a1 Z Z<|a1 Z Z<|aB Z (λ _=>bT k underlying25 b2 Z Z ((τ.keep b9).bs (aO k)) Z (by omega))<|bx Z (λ _ x=>ao Z (aa.aG.er xv (by rw [← (τ.keep (ab b9 x)).bs (aO k)];exact (τ.keep (ab b9 x))) fB cv b2))<|a1 Z Z<|a1 Z Z<|aB Z (λ _=>bT k underlying25 b2 Z Z ((ae.keep b9).bs (aO k)) Z (by omega))<|bx Z (λ _ x=>ao Z (aa.aG.er xv (by rw [← (ae.keep (ab b9 x)).bs (aO k)];exact (ae.keep (ab b9 x))) lj cv b2))<|aB Z (λ _=>KI aor aop (p:=d_) (q:=nR) Z Z)<|fn λ wq mq=> ?_;have iZ:=ab b9 mq;refine aP<| ?_;refine dn Z (λ eL=> ?_) (λ eL=> ?_)
   ·refine ah<|va Z<|ag<|rt<|dV<|bP<|kB<|dV<|bP<|aV (.tmp Z .nil)<| ?_;rw [aT4 (λ e=>by rw [e,lj] at fB;injection fB with fB;exact absurd fB.symm (by first | exact IX eL | exact eL))];exact ⟨Z,iZ⟩
   ·refine ei<|bU<|aP<|rg<|Φ (bad Z Z (bf (by omega)))<|vm Z<|nl<| ?_;exact cD _ _ ⟨k+1,Z,Z,iZ,by omega,o4 ff (by rw [fB,lj,(by first | exact HR eL | exact eL:d_=nR)])⟩ (by omega) (.cons Z (.cons Z (.cons Z (.cons (bH Z) .nil))))
  ·refine cV<|cU<|c'<|cT<|aP<|ah<|va Z<|ag<|rt<|aV (.tmp Z .nil)<| ?_;rw [aT3 (HQ (by omega) (by omega) ff)];exact ⟨Z,b9⟩
theorem avA (A B:Option Addr) (c d hL dH:Nat) (l m:List bd) (w:World) (τ:bd.rep.aG hL w A c l) (ae:bd.rep.aG dH w B d m):
  Calls prog 49 #[.slice A l.length c, .slice B m.length d] w (λ e w'=>e= .returned (.bool (decide (l=m)))∧Ext w w'):=by
 have hle:=τ.eZ;refine b' (n:=26) func49 Z Z Z ?_;refine ah<|va Z<|ag<|ay<|ah<|vm Z<|Φ (cl underlying26 Z)<|vm Z<|Φ (cl underlying26 Z)<|Φ (bne Z Z)<|ag<| ?_;refine ee Z (λ gA=> ?_) (λ gA=> ?_)
 ·refine ah<|va Z<|ag<|rt<|bP<|aV (.tmp Z .nil)<| ?_;rw [aT4 (λ e=>gA (by rw [e]))];exact ⟨Z,(Ext.bg w)⟩
 ·refine bl<|ay<|ah<|vm Z<|Φ (cl underlying26 Z)<|vm Z<|ag<|bu<| ?_;refine dx (λ bZ bS aL=>∃ k:Nat,bS= [(0, .slice A l.length c),(1, .slice B m.length d),(12,J (l.length:Int)),(13,J (k:Int))]∧bZ=l.length - k∧Ext w aL∧(k≤l.length)∧(∀ j,j<k→l[j]? =m[j]?)) _ _ ⟨0,Z,Z,(Ext.bg w),by omega,λ j aA=>absurd aA (by omega)⟩ (.cons Z (.cons Z (.cons Z (.cons (bH Z) .nil)))) ?_;rintro r3 rf iH ⟨k,rfl,rfl,b9,au,ff⟩;have hle:=τ.eZ;refine ah<|Φ (blt Z Z)<|ag<|ay<| ?_;refine df Z (λ jr=> ?_) (λ jr=> ?_)
  ·obtain ⟨d_,fB⟩:=gH (l:=l) (i:=k) (by omega);obtain ⟨nR,lj⟩:=gH (l:=m) (i:=k) (by omega);refine bl<|ay<|bu<|ah<|vm Z<|va Z<|ag<|ay<| ?_;refine cR [(3,0),(7,0)] [0,1,2,3,4,5,6,7,8] ?_;refine a1 Z Z<|a1 Z Z<|aB Z (λ _=>bT k underlying26 kr Z Z ((τ.keep b9).bs (aO k)) Z (by omega))<|bx Z (λ _ x=>ao Z (aa.aG.er jI (by rw [← (τ.keep (ab b9 x)).bs (aO k)];exact (τ.keep (ab b9 x))) fB zm kr))<|a1 Z Z<|a1 Z Z<|aB Z (λ _=>bT k underlying26 kr Z Z ((ae.keep b9).bs (aO k)) Z (by omega))<|bx Z (λ _ x=>ao Z (aa.aG.er jI (by rw [← (ae.keep (ab b9 x)).bs (aO k)];exact (ae.keep (ab b9 x))) lj zm kr))<|aB Z (λ _=>KI aos aoq (p:=d_) (q:=nR) Z Z)<|fn λ wq mq=> ?_;have iZ:=ab b9 mq;refine aP<| ?_;refine dn Z (λ eL=> ?_) (λ eL=> ?_)
   ·refine ah<|va Z<|ag<|rt<|dV<|bP<|kB<|dV<|bP<|aV (.tmp Z .nil)<| ?_;rw [aT4 (λ e=>by rw [e,lj] at fB;injection fB with fB;exact absurd fB.symm (by first | exact IX eL | exact eL))];exact ⟨Z,iZ⟩
   ·refine ei<|bU<|aP<|rg<|Φ (bad Z Z (bf (by omega)))<|vm Z<|nl<| ?_;exact cD _ _ ⟨k+1,Z,Z,iZ,by omega,o4 ff (by rw [fB,lj,(by first | exact HR eL | exact eL:d_=nR)])⟩ (by omega) (.cons Z (.cons Z (.cons Z (.cons (bH Z) .nil))))
  ·refine cV<|cU<|c'<|cT<|aP<|ah<|va Z<|ag<|rt<|aV (.tmp Z .nil)<| ?_;rw [aT3 (HQ (by omega) (by omega) ff)];exact ⟨Z,b9⟩
theorem Wh (A B:Option Addr) (c d hL dH:Nat) (l m:List Int) (w:World) (τ:bW.aG hL w A c l) (ae:bW.aG dH w B d m):
  Calls prog 48 #[.slice A l.length c, .slice B m.length d] w (λ e w'=>e= .returned (.bool (decide (l=m)))∧Ext w w'):=by
 have hle:=τ.eZ;refine b' (n:=26) func48 Z Z Z ?_;refine ah<|va Z<|ag<|ay<|ah<|vm Z<|Φ (cl underlying22 Z)<|vm Z<|Φ (cl underlying22 Z)<|Φ (bne Z Z)<|ag<| ?_;refine ee Z (λ gA=> ?_) (λ gA=> ?_)
 ·refine ah<|va Z<|ag<|rt<|bP<|aV (.tmp Z .nil)<| ?_;rw [aT4 (λ e=>gA (by rw [e]))];exact ⟨Z,(Ext.bg w)⟩
 ·refine bl<|ay<|ah<|vm Z<|Φ (cl underlying22 Z)<|vm Z<|ag<|bu<| ?_;refine dx (λ bZ bS aL=>∃ k:Nat,bS= [(0, .slice A l.length c),(1, .slice B m.length d),(12,J (l.length:Int)),(13,J (k:Int))]∧bZ=l.length - k∧Ext w aL∧(k≤l.length)∧(∀ j,j<k→l[j]? =m[j]?)) _ _ ⟨0,Z,Z,(Ext.bg w),by omega,λ j aA=>absurd aA (by omega)⟩ (.cons Z (.cons Z (.cons Z (.cons (bH Z) .nil)))) ?_;rintro r3 rf iH ⟨k,rfl,rfl,b9,au,ff⟩;have hle:=τ.eZ;refine ah<|Φ (blt Z Z)<|ag<|ay<| ?_;refine df Z (λ jr=> ?_) (λ jr=> ?_)
  ·obtain ⟨d_,fB⟩:=gH (l:=l) (i:=k) (by omega);obtain ⟨nR,lj⟩:=gH (l:=m) (i:=k) (by omega);refine bl<|ay<|bu<|ah<|vm Z<|va Z<|ag<|ay<| ?_;refine cR [(3,0),(7,0)] [0,1,2,3,4,5,6,7,8] ?_;refine a1 Z Z<|a1 Z Z<|aB Z (λ _=>bT k underlying22 dI Z Z ((τ.keep b9).bs (aO k)) Z (by omega))<|bx Z (λ _ x=>ao Z (aa.aG.eM gI (by rw [← (τ.keep (ab b9 x)).bs (aO k)];exact (τ.keep (ab b9 x))) fB Z a6))<|a1 Z Z<|a1 Z Z<|aB Z (λ _=>bT k underlying22 dI Z Z ((ae.keep b9).bs (aO k)) Z (by omega))<|bx Z (λ _ x=>ao Z (aa.aG.eM gI (by rw [← (ae.keep (ab b9 x)).bs (aO k)];exact (ae.keep (ab b9 x))) lj Z a6))<|aB Z (λ _=>bne Z Z)<|fn λ wq mq=> ?_;have iZ:=ab b9 mq;refine aP<| ?_;refine ee Z (λ eL=> ?_) (λ eL=> ?_)
   ·refine ah<|va Z<|ag<|rt<|dV<|bP<|kB<|dV<|bP<|aV (.tmp Z .nil)<| ?_;rw [aT4 (λ e=>by rw [e,lj] at fB;injection fB with fB;exact absurd fB.symm (by first | exact IX eL | exact eL))];exact ⟨Z,iZ⟩
   ·refine ei<|bU<|aP<|rg<|Φ (bad Z Z (bf (by omega)))<|vm Z<|nl<| ?_;exact cD _ _ ⟨k+1,Z,Z,iZ,by omega,o4 ff (by rw [fB,lj,(by first | exact HR eL | exact eL:d_=nR)])⟩ (by omega) (.cons Z (.cons Z (.cons Z (.cons (bH Z) .nil))))
  ·refine cV<|cU<|c'<|cT<|aP<|ah<|va Z<|ag<|rt<|aV (.tmp Z .nil)<| ?_;rw [aT3 (HQ (by omega) (by omega) ff)];exact ⟨Z,b9⟩
end
section
theorem aEZ {W V:ak}:((((((decide (W.field=V.field) && decide (W.a7=V.a7)) && decide (W.bp=V.bp)) && decide (W.bM=V.bM)) && decide (W.aq=V.aq)) && (W.next == V.next)) && (W.now == V.now))=decide (W=V):=by
 obtain ⟨f,b,s,m,t,n,o⟩:=W;obtain ⟨f',pG,s',m',t',hT,I0⟩:=V;rw [aVO];simp [and_assoc]
theorem aEX {f g:aI}:(((f.wide == g.wide) && (f.high == g.high)) && decide (f.a8=g.a8))=decide (f=g):=by
 obtain ⟨a,b,c⟩:=f;obtain ⟨a',pG,bX⟩:=g;rw [aVO];simp [and_assoc]
def k0:ak:=⟨⟨3,1, [0,0,3]⟩, [⟨0,0⟩], [20], [0,0,9], [⟨1,0,1,⟨1,0⟩,10,0⟩],2,0⟩
def aFu:List cG:= [(⟨1,1,⟨2,0⟩,0⟩:cG),(⟨3,0,⟨0,0⟩,2⟩:cG)]
def aR8:ak:=k0.lM aFu
theorem aEP (f g:aI) (A B:Option Addr) (c d:Nat) (w:World) (τ:bW.aG 8 w A c f.a8) (ae:bW.aG 8 w B d g.a8):
  Calls prog 46 #[.agg #[J f.wide,J f.high, .slice A f.a8.length c], .agg #[J g.wide,J g.high, .slice B g.a8.length d]] w (λ e w'=>e= .returned (.bool (decide (f=g)))∧Ext w w'):=by
 refine b' (n:=24) func46 Z Z Z ?_;refine ah<|ck Z Z Z Z λ cK bR bq dU ai=> ?_;have ba:=ab (Ext.bg w) bq;refine ck Z Z Z Z λ ea cC br gO ax=> ?_;have bE:=ab ba br;refine va Z<|ag<|ah<|Φ (av K3 Z)<| ?_;have ai:=ai.later br;refine Φ (ao Z (ai.one a6 Z))<|Φ (av K3 Z)<|Φ (ao Z (ax.one a6 Z))<|Φ (beq Z Z)<|vm Z<|bh Z (λ hc=>av VL Z)<|bh Z (λ hc=>ao (gt hc Z) (ai.one a6 Z))<|bh Z (λ hc=>av VL Z)<|bh Z (λ hc=>ao (gt hc Z) (ax.one a6 Z))<|bh Z (λ hc=>beq (gt hc Z) (gt hc Z))<|Φ (dv Z Z Z Z)<|vm Z<|bh Z (λ hc=>av xj Z)<|bh Z (λ hc=>ao (gt hc Z) (ai.one fV Z))<|bh Z (λ hc=>av xj Z)<|bh Z (λ hc=>ao (gt hc Z) (ax.one fV Z))<|nM Z VM (λ hc=>ez (gt hc Z) (ez (gt hc Z) Z)) (λ hc=>Wh _ _ _ _ _ _ f.a8 g.a8 _ (τ.keep bE) (ae.keep bE)) λ gJ eI=> ?_;have cJ:=ab bE eI;refine Φ (dv Z Z Z Z)<|va Z<|ag<|rt<|aV (.tmp Z .nil)<| ?_;exact ⟨by rw [← aEX];rfl,cJ⟩
theorem aEW  (w:World) (a:ak.b_) (W:ak) (b:ak.b_) (V:ak) (b4:ak.Has w a W) (nu:ak.Has w b V):
  Calls prog 24 #[.agg ((ak.cells a W).toArray), .agg ((ak.cells b V).toArray)] w (λ e w'=>e= .returned (.bool (decide (W=V)))∧Ext w w'):=by
 refine b' (n:=52) func24 Z Z Z ?_;refine ah<|ck Z Z Z Z λ cK bR bq dU ai=> ?_;have ba:=ab (Ext.bg w) bq;refine ck Z Z Z Z λ ea cC br gO ax=> ?_;have bE:=ab ba br;refine va Z<|ag<|ah<|Φ (av qI Z)<| ?_;have ai:=ai.later br;refine Φ (ao Z (ai.par [J W.field.wide,J W.field.high, .slice a.P W.field.a8.length a.p] la ld Z))<|Φ (av qI Z)<|Φ (ao Z (ax.par [J V.field.wide,J V.field.high, .slice b.P V.field.a8.length b.p] la ld Z))<|ca atX Z Z ((aEP W.field V.field _ _ _ _ _ (b4.P.keep bE) (nu.P.keep bE)).mono ?_);rintro e gJ ⟨rfl,eI⟩;refine ⟨_,Z, ?_⟩;have cJ:=ab bE eI;refine vm Z<|bh Z (λ hc=>av rD Z)<| ?_;have ai:=ai.later eI;refine bh Z (λ hc=>ao (gt hc Z) (ai.one vx Z))<|bh Z (λ hc=>av rD Z)<| ?_;have ax:=ax.later eI;refine bh Z (λ hc=>ao (gt hc Z) (ax.one vx Z))<|nM Z atY (λ hc=>ez (gt hc Z) (ez (gt hc Z) Z)) (λ hc=>avx _ _ _ _ _ _ W.a7 V.a7 _ (b4.B.keep cJ) (nu.B.keep cJ)) λ ow gD=> ?_;have fD:=ab cJ gD;refine Φ (dv Z Z Z Z)<|vm Z<|bh Z (λ hc=>av t_ Z)<| ?_;have ai:=ai.later gD;refine bh Z (λ hc=>ao (gt hc Z) (ai.one fV Z))<|bh Z (λ hc=>av t_ Z)<| ?_;have ax:=ax.later gD;refine bh Z (λ hc=>ao (gt hc Z) (ax.one fV Z))<|nM Z VM (λ hc=>ez (gt hc Z) (ez (gt hc Z) Z)) (λ hc=>Wh _ _ _ _ _ _ W.bp V.bp _ (b4.S.keep fD) (nu.S.keep fD)) λ wm jk=> ?_;have jB:=ab fD jk;refine Φ (dv Z Z Z Z)<|vm Z<|bh Z (λ hc=>av zn Z)<| ?_;have ai:=ai.later jk;refine bh Z (λ hc=>ao (gt hc Z) (ai.one fV Z))<|bh Z (λ hc=>av zn Z)<| ?_;have ax:=ax.later jk;refine bh Z (λ hc=>ao (gt hc Z) (ax.one fV Z))<|nM Z VM (λ hc=>ez (gt hc Z) (ez (gt hc Z) Z)) (λ hc=>Wh _ _ _ _ _ _ W.bM V.bM _ (b4.M.keep jB) (nu.M.keep jB)) λ q2 gS=> ?_;have iM:=ab jB gS;refine Φ (dv Z Z Z Z)<|vm Z<|bh Z (λ hc=>av ka Z)<| ?_;have ai:=ai.later gS;refine bh Z (λ hc=>ao (gt hc Z) (ai.one lN Z))<|bh Z (λ hc=>av ka Z)<| ?_;have ax:=ax.later gS;refine bh Z (λ hc=>ao (gt hc Z) (ax.one lN Z))<|nM Z atZ (λ hc=>ez (gt hc Z) (ez (gt hc Z) Z)) (λ hc=>avA _ _ _ _ _ _ W.aq V.aq _ (b4.T.keep iM) (nu.T.keep iM)) λ Jw nO=> ?_;have tC:=ab iM nO;refine Φ (dv Z Z Z Z)<|vm Z<|bh Z (λ hc=>av E8 Z)<| ?_;have ai:=ai.later nO;refine bh Z (λ hc=>ao (gt hc Z) (ai.one a6 Z))<|bh Z (λ hc=>av E8 Z)<| ?_;have ax:=ax.later nO;refine bh Z (λ hc=>ao (gt hc Z) (ax.one a6 Z))<|bh Z (λ hc=>beq (gt hc Z) (gt hc Z))<|Φ (dv Z Z Z Z)<|vm Z<|bh Z (λ hc=>av E_ Z)<|bh Z (λ hc=>ao (gt hc Z) (ai.one a6 Z))<|bh Z (λ hc=>av E_ Z)<|bh Z (λ hc=>ao (gt hc Z) (ax.one a6 Z))<|bh Z (λ hc=>beq (gt hc Z) (gt hc Z))<|Φ (dv Z Z Z Z)<|va Z<|ag<|rt<|aV (.tmp Z .nil)<| ?_;exact ⟨by rw [← aEZ];rfl,tC⟩
end
section
theorem aCl:∀ (n:Nat) (l:List Nat),l.Nodup→(∀ x∈l,x<n)→l.length≤n:=by
 intro n;induction n with
 | zero =>
  intro l _ h;cases l with
  | nil=>exact aTK _
  | cons x r=>exact absurd (h x aT1) (by omega)
 | succ n bK =>
  intro l hn h;by_cases hm:n∈l
  ·have τ:=bK (l.erase n) (hn.erase _) (λ x hx=>by
    have:=h x (List.mem_of_mem_erase hx);have eY:x≠n:=λ e=>by subst e;exact (List.Nodup.not_mem_erase hn) hx
    omega)
   rw [List.length_erase_of_mem hm] at τ;omega
  ·have:=bK l hn (λ x hx=>by
    have:=h x hx;have eY:x≠n:=λ e=>hm (by rw [← e];exact hx)
    omega)
   omega
section
variable {f:aI} {a b c x y:az} {d D:Int} {a_:List Int} {aD:az→Int}
theorem ase (hf:f.bn=0) {l:List az} (hn:l.Nodup) (ar:∀ x∈l,f.fu x=true):l.length≤f.a8.length:=by
 have τ:(l.map f.at_).Nodup:=by
  have:∀ l:List az,l.Nodup→(∀ x∈l,f.fu x=true)→(l.map f.at_).Nodup:=by
   intro l;induction l with
   | nil=>intro _ _;exact aXV
   | cons x r bK =>
    intro hn ar;rw [aWR] at hn;rw [aUs,aWR];refine ⟨λ hm=> ?_,bK hn.2 λ y aF=>ar y (aTS _ aF)⟩;obtain ⟨y,aF,e⟩:=aUh.1 hm;have:=aI.acG hf (ar y (aTS _ aF)) (ar x aT1) e;subst this;exact hn.1 aF
  exact this l hn ar
 have:=aCl f.a8.length _ τ (λ i hm=>by
  obtain ⟨y,aF,rfl⟩:=aUh.1 hm;exact (aI.y8 hf (ar y aF)).1)
 rwa [aUz] at this
abbrev mH (f:aI) (a:az):az→Int→Prop:=qA.oK f.c_ f.gN (λ s=>s=a)
abbrev sB (f:aI) (a:az):az→Int→Prop:=qA.tL f.c_ f.gN (λ s=>s=a)
theorem mH.r9 (r:mH f a x d):0≤d:=qA.oK.r9 (aI.Zh f) r
theorem mH.ground (ha:f.ground a=true) (r:mH f a x d):f.ground x=true:=by
 induction r with
 | start hs=>rw [hs];exact ha
 | step _ aF _=>exact (aI.M0.1 aF).2
theorem mH.nL (r:mH f a x d) {e:Int} (q:mH f x y e):mH f a y (d+e):=by
 induction q with
 | start hs=>rw [hs,Int.add_zero];exact r
 | step _ aF bK=>rw [← Int.add_assoc];exact .step bK aF
theorem sB.pred (h:sB f a x d):(x=a∧d=0)∨∃ p e,sB f a p e∧x∈f.c_ p∧d=e+f.gN x:=by
 obtain ⟨r,hm⟩:=h;cases r with
 | start hs=>exact .inl ⟨hs,rfl⟩
 | @step p _ e hp aF =>
  obtain ⟨e',he⟩:=qA.oK.ahS (aI.Zh f) hp;have τ:=he.2 _ hp;have ae:=hm _ (.step he.1 aF);have:e=e':=by omega
  subst this;exact .inr ⟨p,e,he,aF,Z⟩
theorem sB.chain (hf:f.bn=0) (ha:f.ground a=true):∀ (n:Nat) (x:az) (d:Int),sB f a x d→d.toNat=n→∃ l:List az,l.Nodup∧(∀ y∈l,f.fu y=true∧∃ e,sB f a y e∧e≤d)∧d+3≤3 * (l.length:Int):=by
 intro n;induction n using Nat.strongRecOn with
 | ind n bK =>
  intro x d h hn;have hx:=aI.ke (mH.ground ha h.1);rcases h.pred with ⟨τ,ae⟩ | ⟨p,e,τ,ae,aw⟩
  ·refine ⟨[x],by simp,λ y aF=> ?_,by rw [ae];simp⟩;rw [aTz.1 aF];exact ⟨hx,d,h,aVa _⟩
  ·have au:=f.p3 (c:=x);have he:=mH.r9 τ.1;obtain ⟨l,cz,iE,xI⟩:=bK e.toNat (by omega) p e τ rfl;refine ⟨x::l,aWR.2 ⟨λ hm=> ?_,cz⟩,λ y aF=> ?_,by rw [aTI];omega⟩
   ·obtain ⟨_,e',aU,bz⟩:=iE x hm;have:=aU.uniq h;omega
   ·rcases aTZ.1 aF with rfl | aF
    ·exact ⟨hx,d,h,aVa _⟩
    ·obtain ⟨aU,e',bz,cb⟩:=iE y aF;exact ⟨aU,e',bz,by omega⟩
theorem sB.cY (hf:f.bn=0) (ha:f.ground a=true) (h:sB f a x d):d+3≤3 * (f.a8.length:Int):=by
 obtain ⟨l,cz,iE,xI⟩:=h.chain hf ha _ x d rfl;have:=ase hf cz λ y aF=>(iE y aF).1;omega
def cellAt (f:aI) (i:Nat):az:=⟨(i:Int) % f.wide,(i:Int) / f.wide⟩
theorem ar6 (hf:f.bn=0) (hc:f.fu c=true):cellAt f (f.at_ c)=c:=by
 obtain ⟨_,_,a2,a3,a4,a5⟩:=aI.idx hf hc;have h:=(aI.y8 hf hc).2;unfold cellAt;rw [h];have aY:(c.y * f.wide+c.x) % f.wide=c.x:=by rw [aXy,aWr,aXx a2 a3]
 have bb:(c.y * f.wide+c.x) / f.wide=c.y:=by rw [aXy,Int.add_mul_ediv_right _ _ (by omega),Int.ediv_eq_zero_of_lt a2 a3,Int.zero_add]
 rw [aY,bb]
theorem av3 (hf:f.bn=0) {g:az→Int} (aM:∀ c,f.fu c=false→g c= -1):f.aD ((List.range f.a8.length).map λ i=>g (cellAt f i)) c=g c:=by
 cases hc:f.fu c with
 | false=>rw [aI.WC hc,aM c hc]
 | true =>
  rw [aI.HX hc,aTB,aTY,aXb (aI.y8 hf hc).1];show g (cellAt f (f.at_ c))=g c;rw [ar6 hf hc]
theorem akz (hf:f.bn=0) (ha:f.ground a=true) (b:az):∃ a_,pE f a b a_:=by
 let Q:az→Int→Prop:=λ c d=>sB f a c d∧∀ D,sB f a b D→d+aI.kb b c≤D
 let g:az→Int:=λ c=>@dite _ (∃ d,Q c d) (Classical.propDecidable _) (λ h=>h.choose) λ _=> -1
 have QB:∀ c d,Q c d→g c=d:=λ c d h=>by
  have hex:∃ d,Q c d:=⟨d,h⟩;show @dite _ (∃ d,Q c d) (Classical.propDecidable _) (λ h=>h.choose) (λ _=> -1)=d;rw [dif_pos hex];exact hex.choose_spec.1.uniq h.1
 have gn:∀ c,(¬ ∃ d,Q c d)→g c= -1:=λ c h=>by
  show @dite _ (∃ d,Q c d) (Classical.propDecidable _) (λ h=>h.choose) (λ _=> -1)= -1;rw [dif_neg h]
 have zp:∀ c,0≤g c→Q c (g c):=λ c h=>by
  by_cases hex:∃ d,Q c d
  ·obtain ⟨d,hd⟩:=hex;rw [QB c d hd];exact hd
  ·rw [gn c hex] at h;omega
 have go:∀ c,f.fu c=false→g c= -1:=λ c hc=>gn c λ ⟨d,hd⟩=>by
  have:=aI.ke (mH.ground ha hd.1.1);rw [hc] at this;cases this
 have mR:∀ c,f.aD ((List.range f.a8.length).map λ i=>g (cellAt f i)) c=g c:=λ c=>av3 hf go;refine ⟨(List.range f.a8.length).map λ i=>g (cellAt f i),by rw [aUz,aYU],⟨λ c h=> ?_,λ c h=> ?_,λ c d hd hle=> ?_,λ c h=> ?_⟩,λ c=> ?_,λ c h=> ?_⟩
 ·rw [mR c] at h ⊢;by_cases hex:∃ d,Q c d
  ·obtain ⟨d,hd⟩:=hex;rw [QB c d hd] at h;have:=mH.r9 hd.1.1;omega
  ·exact gn c hex
 ·rw [mR c] at h ⊢;exact zp c h
 ·rw [mR c];exact QB c d ⟨hd,hle⟩
 ·rw [mR c] at h ⊢;have I:=zp c h;rcases I.1.pred with τ | ⟨p,e,τ,ae,aw⟩
  ·exact .inl τ
  ·right;have he:=aI.Wl b (aI.M0.1 ae).1;have au:=f.p3 (c:=c);have hp:g p=e:=QB p e ⟨τ,λ D vD=>by have:=I.2 D vD;omega⟩;exact ⟨p,by rw [mR p,hp];exact mH.r9 τ.1,ae,by rw [mR p,hp];exact aw⟩
 ·rw [mR c];by_cases h:0≤g c
  ·have:=(zp c h).1.cY hf ha;omega
  ·omega
 ·rw [mR c] at h;exact mH.ground ha (zp c h).1.1
theorem WB (hf:f.bn=0) (ha:f.ground a=true):qA.Spec f.c_ f.gN (aI.kb b) (λ s=>s=a) b (c0 f a b):=by
 obtain ⟨a_,h⟩:=akz hf ha b;rw [← h.Qt];exact h.spec
theorem K8 (hf:f.bn=0) (ha:f.ground a=true) (h:0≤c0 f a b c):sB f a c (c0 f a b c):=((WB hf ha).oP c h).1
theorem afn (hf:f.bn=0) (ha:f.ground a=true) (h:sB f a b d):c0 f a b b=d:=(WB hf ha).end_ (aI.Wk b) h
theorem av2 (hf:f.bn=0) (ha:f.ground a=true) (h:mH f a b d):0≤c0 f a b b∧c0 f a b b≤d:=by
 obtain ⟨e,he⟩:=qA.oK.ahS (aI.Zh f) h;rw [afn hf ha he];exact ⟨mH.r9 he.1,he.2 _ h⟩
theorem Qu (hf:f.bn=0) (ha:f.ground a=true) (h:0≤c0 f a b b):oE f a (c0 f a b):=by
 obtain ⟨a_,hp⟩:=akz hf ha b;exact oE.Gb hp h
theorem aHz (h:oE f a aD):∀ (n:Nat) (c:az),0≤aD c→(aD c).toNat=n→∀ x∈fU f aD a c,0≤aD x∧aD x≤aD c∧f.ground x=true:=by
 intro n;induction n using Nat.strongRecOn with
 | ind n bK =>
  intro c hc hn x hx;by_cases e:c=a
  ·subst e;rw [B_ h] at hx;rw [aTz.1 hx];exact ⟨hc,aVa _,h.gr _ hc⟩
  ·obtain ⟨eH,fa,mh,v_⟩:=h.prev hc e;have au:=f.p3 (c:=c);rw [B' h hc e] at hx;rcases aTZ.1 hx with rfl | hx
   ·exact ⟨hc,aVa _,h.gr _ hc⟩
   ·obtain ⟨gR,ia,sb⟩:=bK _ (by omega) _ mh rfl x hx;exact ⟨gR,by omega,sb⟩
theorem Ws (he:hk f a b=0):f.bn=0∧f.ground a=true∧f.ground b=true∧0≤c0 f a b b∧oS f a b=c0 f a b b∧gv f a b=(fU f (c0 f a b) a b).reverse:=by
 rcases Wr f a b with ⟨τ,ae⟩ | ⟨τ,ae,aw⟩ | ⟨τ,ae,aw,aU⟩ | ⟨τ,ae,aw,aU | aU⟩
 ·rw [ae] at he;exact absurd he τ
 ·rw [aw] at he;exact absurd he ae
 ·rw [aU] at he;cases he
 ·rw [aU.2] at he;cases he
 ·refine ⟨τ,ae,aw,aU.1, ?_, ?_⟩
  ·unfold oS;rw [aTO he]
  ·unfold gv;rw [aTO he]
end
end
section
def aP1:List bd:= [⟨1,0,1,⟨2,0⟩,10,0⟩]
def aP0:List dG:= [⟨1,⟨2,0⟩⟩]
end
section
def Et (s t:bd):Prop:=s.id<t.id∧s.spot≠t.spot
theorem WQ {α:Type} [Inhabited α] {l:List α} {i:Nat} {t:α} (h:l[i]? =some t):l.getD i default=t:=by rw [aTB,h];rfl
theorem Good.azW {W:ak} (bQ:Good W) {i j:Nat} {s t:bd} (hl:i<j) (hs:W.aq[i]? =some s) (aJ:W.aq[j]? =some t):s.id<t.id:=by
 induction j generalizing t with
 | zero=>omega
 | succ j bK =>
  have aA:=(aTC.1 aJ).1;obtain ⟨u,hu⟩:=gH (l:=W.aq) (i:=j) (by omega);have τ:=(bQ.ids (j+1) t aJ).1;have ae:W.jW (j+1)=u.id:=by
   unfold ak.jW;rw [aTL (by omega),aXl,WQ hu]
  rcases aWE.1 hl with h | rfl
  ·have:=bK h hu;omega
  ·rw [hs] at hu;injection hu with hu;subst hu;omega
theorem Good.I' {W:ak} (bQ:Good W):W.aq.Pairwise Et:=by
 rw [aUn];intro i j ar aA hl;have hs:=aTF ar;have aJ:=aTF aA;refine ⟨bQ.azW hl hs aJ,λ e=> ?_⟩;have τ:=bQ.jx j _ aJ;rw [← e] at τ;have:(W.jx j).contains (W.aq[i]).spot=true:=by
  rw [aW0];unfold ak.jx;exact aUh.2 ⟨_,aVt.2 ⟨i,by rw [aUf,aTO hl,hs]⟩,Z⟩
 rw [this] at τ;exact nomatch τ
theorem Good.each {W:ak} (bQ:Good W) {t:bd} (aJ:t∈W.aq):0<t.id∧t.id<W.next∧Pn W.field W.a7.length t:=by
 obtain ⟨i,ar⟩:=aVt.1 aJ;have τ:=bQ.ids i t ar;exact ⟨by omega,τ.2.1,bQ.aq i t ar⟩
theorem Good.akl {W V:ak} (bQ:Good W) (hf:V.field=W.field) (γ:V.a7=W.a7) (hs:V.bp=W.bp) (hm:V.bM=W.bM) (hn:V.next=W.next) (cc:0≤V.now∧V.now≤1000000) (aC:V.aq.length≤100) (cq:V.aq.Pairwise Et)
  (dD:∀ t∈V.aq,0<t.id∧t.id<V.next∧Pn V.field V.a7.length t):Good V where
 field:=by rw [hf];exact bQ.field
 lI:=by rw [γ];exact bQ.lI
 ek:=aC
 sl:=by rw [hs,γ];exact bQ.sl
 a7:=by rw [γ,hf];exact bQ.a7
 bp:=by rw [hs];exact bQ.bp
 DR:=by rw [hm,hf];exact bQ.DR
 bM:=by rw [hm,hf];exact bQ.bM
 aq:=λ i t aJ=>(dD t (aUg aJ)).2.2
 ids:=λ i t aJ=>by
  have τ:=dD t (aUg aJ);unfold ak.jW;split
  ·exact ⟨τ.1,τ.2.1,aVa _⟩
  ·rename_i aK
   have ar:=(aTC.1 aJ).1;obtain ⟨u,hu⟩:=gH (l:=V.aq) (i:=i - 1) (by omega);rw [WQ hu];have ae:=dD u (aUg hu);have aw:=(aUn.1 cq) (i - 1) i (by omega) ar (by omega);have aY:V.aq[i - 1]'(by omega)=u:=(aTC.1 hu).2;have bb:V.aq[i]=t:=(aTC.1 aJ).2;rw [aY,bb] at aw;exact ⟨aw.1,τ.2.1,by omega⟩
 jx:=λ i t aJ=>by
  rw [aYW];intro hc;rw [aW0] at hc;unfold ak.jx at hc;obtain ⟨s,ft,gM⟩:=aUh.1 hc;obtain ⟨j,aA⟩:=aVt.1 ft;rw [aUf] at aA;split at aA
  ·rename_i hO
   have ar:=(aTC.1 aJ).1;have aw:=(aUn.1 cq) j i (by omega) ar hO;have aY:V.aq[j]'(by omega)=s:=(aTC.1 aA).2;have bb:V.aq[i]=t:=(aTC.1 aJ).2;rw [aY,bb] at aw;exact aw.2 gM
  ·exact nomatch aA
 next:=by rw [hn];exact bQ.next
 now:=cc
end
section
def al7 (l:List bd) (x:Int):Option bd:=l.find? λ t=>t.id == x
def aSm (l:List bd) (x:Int):Value:= .tuple #[.agg ((al7 l x).getD default).cells.toArray, .bool (al7 l x).isSome]
def Nv (l:List Int):Bool:=(List.range (l.length - 1)).all λ i=> !decide (l.getD (i+1) 0<l.getD i 0)
theorem aFy {l:List Int} (h:∀ i,i+1<l.length→¬ l.getD (i+1) 0<l.getD i 0):Nv l=true:=by
 unfold Nv;rw [aUp];intro i ar;have:=h i (by have:=aUi.1 ar;omega);simpa using this
def aR4 {α:Type} (l:List α) (k:Nat):List α:=l.mapIdx λ i x=>if i<k∨l.length - k≤i then (l[l.length - 1 - i]?).getD x else x
end
section
def Bu (W:ak) (l:List dF):List bd:=(List.range W.aq.length).map (xF W.aq (fW W l))
structure Kz (W:ak) (l:List dF):Prop where
 ks:Good W
 b4:j1 W l= {W with aq:=(Bu W l).filter λ t=>decide (0<t.dk)}
 bQ:ye W l=((Bu W l).filter λ t=> !decide (0<t.dk)).map bd.id
 axo:∀ k,0≤(fW W l).getD k 0
 aC:(fW W l).length=W.aq.length
theorem al0 {W:ak} {l:List dF} (h:l_ W l=0):Kz W l :=
 ⟨Good.BQ (PC h).1,(aaf h rfl).1,(aaf h rfl).2,λ k=>((Xs h).2 k).1,(Xs h).1⟩
theorem Rr (W:ak) (l:List dF):(Bu W l).length=W.aq.length:=by simp [Bu]
theorem Rq {W:ak} {l:List dF} {k:Nat} {t:bd} (h:W.aq[k]? =some t):(Bu W l)[k]? =some {t with dk:=t.dk - (fW W l).getD k 0}:=by
 have au:=(aTC.1 h).1;unfold Bu;rw [aTY,aXb au,aU6];unfold xF;rw [WQ h]
theorem azC {W:ak} {l:List dF} {x:bd} (h:x∈Bu W l):∃ (k:Nat) (t:bd),W.aq[k]? =some t∧x= {t with dk:=t.dk - (fW W l).getD k 0}:=by
 obtain ⟨k,au⟩:=aVt.1 h;have bA:=(aTC.1 au).1;rw [Rr] at bA;obtain ⟨t,aJ⟩:=gH bA;rw [Rq aJ] at au;injection au with au
 exact ⟨k,t,aJ,au.symm⟩
theorem Kz.I' {W:ak} {l:List dF} (h:Kz W l):(Bu W l).Pairwise Et:=by
 rw [aUn];intro i j ar aA hl;rw [Rr] at ar aA;obtain ⟨s,hs⟩:=gH ar;obtain ⟨t,aJ⟩:=gH aA;have aY:=(aTC.1 (Rq (l:=l) hs)).2;have bb:=(aTC.1 (Rq (l:=l) aJ)).2;rw [aY,bb];have:=(aUn.1 h.ks.I') i j ar aA hl;rw [(aTC.1 hs).2,(aTC.1 aJ).2] at this;exact this
theorem Kz.right {W:ak} {l:List dF} (h:Kz W l):Good (j1 W l):=by
 rw [h.b4];refine Good.akl h.ks Z Z Z Z Z h.ks.now ?_ (h.I'.filter _) λ t aJ=> ?_
 ·exact aUc (aVS _ _) (by rw [Rr];exact h.ks.ek)
 ·obtain ⟨aJ,hp⟩:=aVi.1 aJ;obtain ⟨k,s,hs,rfl⟩:=azC aJ;have τ:=h.ks.each (aUg hs);have ae:=h.axo k;have aw:=aUK hp;refine ⟨τ.1,τ.2.1,⟨τ.2.2.kind,τ.2.2.owner,τ.2.2.ground, ?_,τ.2.2.load⟩⟩;have aU:=τ.2.2.dk;show 1≤s.dk - _∧s.dk - _≤ak.kS s.kind;have bz:0<s.dk - (fW W l).getD k 0:=aw;omega
theorem aFx {l:List Int} (h:l.Pairwise (· < ·)):Nv l=true:=by
 refine aFy λ i ar=> ?_;have:=(aUn.1 h) i (i+1) (by omega) ar (by omega);rw [aTB,aTB,aTF ar,aTF (by omega:i<l.length)];show ¬ l[i+1]<l[i];omega
end
section
section
variable {f:aI} {a b c x y:az} {d D:Int}
theorem aDu (hf:f.bn=0) (ha:f.ground a=true) (sV:0≤c0 f a b c) (agm:0≤c0 f a x c):lJ f (c0 f a b) c=lJ f (c0 f a x) c:=by
 have key:∀ t n,n∈eh c→0≤c0 f a t c→((f.ground n && decide (0≤c0 f a t n) && decide (c0 f a t n+f.gN c=c0 f a t c))=true↔∃ e,sB f a n e∧sB f a c (e+f.gN c)):=by
  intro t n hn aJ;have hs:=WB (b:=t) hf ha;have agA:=K8 hf ha aJ;constructor
  ·intro h;simp only [aTM,aUa] at h;exact ⟨_,K8 hf ha h.1.2,by rw [h.2];exact agA⟩
  ·rintro ⟨e,τ,ae⟩;have he:=agA.uniq ae;have Rg:c0 f a t n=e:=hs.known n e τ λ D vD=>by
    have:=(hs.oP c aJ).2 D vD;have aw:=aI.Wl t (aI.Z7 hn);have au:=f.p3 (c:=c);omega
   rw [Rg,mH.ground ha τ.1,aT3 (mH.r9 τ.1),aT3 he.symm];rfl
 unfold lJ;congr 1;apply find_congr;intro n hn;rw [aVO,key b n hn sV,key x n hn agm]
where
 find_congr {p q:az→Bool}:∀ {l:List az},(∀ n∈l,p n=q n)→l.find? p=l.find? q
  | [],_=>rfl
  | n::l,h=>by
   rw [List.find?_cons,List.find?_cons,h n aT1,find_congr λ m hm=>h m (aTS _ hm)]
theorem aHA (hf:f.bn=0) (ha:f.ground a=true) (γ:0≤c0 f a b b) (hx:0≤c0 f a x x):∀ (n:Nat) (c:az),0≤c0 f a b c→0≤c0 f a x c→(c0 f a b c).toNat=n→fU f (c0 f a b) a c=fU f (c0 f a x) a c:=by
 have T9:=Qu hf ha γ;have T_:=Qu hf ha hx;intro n;induction n using Nat.strongRecOn with
 | ind n bK =>
  intro c τ ae hn;by_cases e:c=a
  ·subst e;rw [B_ T9,B_ T_]
  ·have hp:=aDu (b:=b) (x:=x) hf ha τ ae;obtain ⟨eH,fa,mh,v_⟩:=T9.prev τ e;obtain ⟨gR,ia,sb,Sf⟩:=T_.prev ae e;have au:=f.p3 (c:=c);rw [B' T9 τ e,B' T_ ae e,← hp];congr 1;exact bK _ (by omega) _ mh (by rw [hp];exact sb) Z
theorem aHB {aD:az→Int} (h:oE f a aD):∀ (n:Nat) (c:az),0≤aD c→(aD c).toNat=n→∀ i,(ar:i<(fU f aD a c).length)→(fU f aD a c).drop i=fU f aD a ((fU f aD a c)[i])∧mH f ((fU f aD a c)[i]) c (aD c - aD ((fU f aD a c)[i])):=by
 intro n;induction n using Nat.strongRecOn with
 | ind n bK =>
  intro c hc hn i ar;by_cases e:c=a
  ·subst e;rw [B_ h] at ar;have:i=0:=by simpa using ar
   subst this;simp only [B_ h,aWh,aWN];exact ⟨by first | trivial | rfl,by rw [aXw];exact .start rfl⟩
  ·have hY:=B' h hc e;obtain ⟨eH,fa,mh,v_⟩:=h.prev hc e;have au:=f.p3 (c:=c);cases i with
   | zero =>
    have e0:(fU f aD a c)[0]=c:=by simp only [hY,aWN]
    rw [e0,aWh,aXw];exact ⟨Z, .start Z⟩
   | succ i =>
    have xy:i<(fU f aD a (lJ f aD c)).length:=by rw [hY] at ar;simpa using ar
    obtain ⟨d',eu⟩:=bK _ (by omega) _ mh rfl i xy;have aY:(fU f aD a c)[i+1]=(fU f aD a (lJ f aD c))[i]:=by simp only [hY,aWO]
    rw [aY];refine ⟨by rw [← d',hY,aYG], ?_⟩;have r:mH f _ c (aD (lJ f aD c) - aD ((fU f aD a (lJ f aD c))[i])+f.gN c):= .step eu (aI.M0.2 ⟨aI.Z7 eH,h.gr c hc⟩);rw [show aD c - aD ((fU f aD a (lJ f aD c))[i])=aD (lJ f aD c) - aD ((fU f aD a (lJ f aD c))[i])+f.gN c by omega];exact r
theorem aHE (he:hk f a b=0) {n:Nat} (hn:n<(gv f a b).length) {x:az} (hx:(gv f a b).getD n default=x):hk f a x=0∧hk f x b=0∧gv f a x=(gv f a b).take (n+1)∧oS f a x+oS f x b=oS f a b:=by
 obtain ⟨hf,ha,γ,aK,au,hp⟩:=Ws he;have F:=Qu hf ha aK;have aC:(gv f a b).length=(fU f (c0 f a b) a b).length:=by rw [hp,aV4]
 have ar:(fU f (c0 f a b) a b).length - 1 - n<(fU f (c0 f a b) a b).length:=by omega
 obtain ⟨s1,s2⟩:=aHB F _ b aK rfl _ ar;have ex:(fU f (c0 f a b) a b)[(fU f (c0 f a b) a b).length - 1 - n]=x:=by
  rw [mO hn] at hx;rw [← hx];simp only [hp,aYw]
 rw [ex] at s1 s2;have Rv:x∈fU f (c0 f a b) a b:=by rw [← ex];exact aUV ar
 obtain ⟨d_,eU,jj⟩:=aHz F _ b aK rfl x Rv;have agB:=K8 hf ha d_;have aY:=afn hf ha agB;have jg:0≤c0 f a x x:=by rw [aY];exact d_
 have ug:=Wt hf ha jj jg;have r2:=av2 hf jj s2;have IB:=Wt hf jj γ r2.1;refine ⟨ug,IB, ?_, ?_⟩
 ·have Rl:gv f a x=(fU f (c0 f a x) a x).reverse:=by unfold gv;rw [aTO ug]
  rw [Rl,← aHA hf ha aK jg _ x d_ jg rfl,← s1,hp,List.reverse_drop,aC.symm.trans aC];congr 1;have:(fU f (c0 f a b) a b).reverse.length=(fU f (c0 f a b) a b).length:=aV4;omega
 ·have d':oS f a x=c0 f a x x:=by unfold oS;rw [aTO ug]
  have eu:oS f x b=c0 f x b b:=by unfold oS;rw [aTO IB]
  rw [d',eu,au,aY];have aw:=(K8 hf ha aK).2 _ (mH.nL agB.1 (K8 hf jj r2.1).1);omega
end
end
section
theorem alU {f:aI} {l:List dG} {T:List bd} {k:Nat} {c:az} (h:qZ f l T k=some c):
  0≤eX l (T.getD k default).id∧hk f (T.getD k default).spot (l.getD (eX l (T.getD k default).id).toNat default).bm=0∧2≤(gv f (T.getD k default).spot (l.getD (eX l (T.getD k default).id).toNat default).bm).length∧
  c=(gv f (T.getD k default).spot (l.getD (eX l (T.getD k default).id).toNat default).bm).getD 1 default∧jv T c≤0:=by
 unfold qZ at h;split at h
 ·exact nomatch h
 ·split at h
  ·exact nomatch h
  ·split at h
   ·exact nomatch h
   ·split at h
    ·exact nomatch h
    ·rename_i τ ae aw aU
     injection h with h
     subst h;exact ⟨by omega,by simpa using ae,by omega,rfl,by omega⟩
theorem amV {f:aI} {a:az} {aD:az→Int} (h:oE f a aD) {c:az} (hc:0≤aD c):∃ r,fU f aD a c=c::r∧(r= []↔c=a):=by
 by_cases e:c=a
 ·subst e;exact ⟨[],B_ h,by simp⟩
 ·obtain ⟨eH,fa,mh,v_⟩:=h.prev hc e;refine ⟨_,B' h hc e,⟨λ hr=> ?_,λ h=>absurd h e⟩⟩;by_cases bb:lJ f aD c=a
  ·rw [bb,B_ h] at hr;exact nomatch hr
  ·rw [B' h mh bb] at hr;exact nomatch hr
theorem amW {f:aI} {a b x:az} (he:hk f a b=0) (hn:2≤(gv f a b).length) (hx:(gv f a b).getD 1 default=x):
  hk f a x=0∧hk f x b=0∧oS f a x+oS f x b=oS f a b∧a∈eh x∧f.ground x=true∧x≠a∧gv f a x= [a,x]:=by
 obtain ⟨τ,ae,aw,aU⟩:=aHE he (n:=1) (by omega) hx;obtain ⟨hf,ha,γ,aK,au,hp⟩:=Ws he;obtain ⟨_,_,awz,jg,_,Rl⟩:=Ws τ;have OD:=Qu hf ha jg;have aC:(gv f a x).length=2:=by rw [aw,aTD];omega
 rw [Rl,aV4] at aC;have Yq:x≠a:=by
  intro e;obtain ⟨r,aY,bb⟩:=amV OD jg;rw [aY,bb.2 e] at aC;simp at aC
 have hY:=B' OD jg Yq;obtain ⟨eH,fa,mh,v_⟩:=OD.prev jg Yq;obtain ⟨r,aY,bb⟩:=amV OD mh;rw [hY,aY] at aC;have hr:r= []:=aT7 (by simpa using aC);have ahp:=bb.1 hr;refine ⟨τ,ae,aU,by rw [← ahp];exact eH,awz,Yq, ?_⟩;rw [Rl,hY,aY,hr,ahp];rfl
theorem aFj {T:List bd} {k:Nat} {c:az} (cq:T.Pairwise Et) (au:k<T.length) (hc:jv T c≤0):(T.set k ((T.getD k default).bm c)).Pairwise Et:=by
 have kx:∀ t∈T,t.spot≠c:=λ t aJ e=>by have:=aCu.2 ⟨t,aJ,e⟩;omega
 have agE:T.getD k default=T[k]:=by rw [aTB,aTF au];rfl
 rw [aUn] at cq ⊢;intro i j ar aA hl;rw [aTH] at ar aA;have h:=cq i j ar aA hl;rw [List.getElem_set,List.getElem_set];split<;>split
 ·omega
 ·rename_i aY bb
  subst aY;exact ⟨by have atD:=aUF bd.id agE;have vC:=h.1;show (T.getD k default).id<_;omega,λ e=>kx _ (aUV aA) e.symm⟩
 ·rename_i aY bb
  subst bb;exact ⟨by have atD:=aUF bd.id agE;have vC:=h.1;show _<(T.getD k default).id;omega,kx _ (aUV ar)⟩
 ·exact h
theorem alS {f:aI} {l:List dG} {T:List bd} {Q:bd→Prop} (iC:∀ t c,Q t→f.ground c=true→Q (t.bm c)) (cq:T.Pairwise Et) (cr:∀ t∈T,Q t):∀ k,k≤T.length→(j0 f l T k).1.Pairwise Et∧∀ t∈(j0 f l T k).1,Q t
 | 0,_=>⟨cq,cr⟩
 | k+1,au=>by
  obtain ⟨ahO,Ys⟩:=alS (l:=l) iC cq cr k (by omega);have aC:=(SF (f:=f) (l:=l) (T:=T) k).1;cases hs:qZ f l (j0 f l T k).1 k with
  | none=>rw [Gp rfl hs];exact ⟨ahO,Ys⟩
  | some c =>
   rw [Nx rfl hs];obtain ⟨d1,d2,d3,d4,d5⟩:=alU hs;obtain ⟨_,_,_,_,g,_⟩:=amW d2 d3 d4.symm;refine ⟨aFj ahO (by omega) d5,λ t aJ=> ?_⟩;rcases aVu aJ with aJ | rfl
   ·exact Ys t aJ
   ·exact iC _ _ (Ys _ (gP (by omega))) g
noncomputable def F_ (f:aI) (l:List dG) (T:List bd) (i:Nat):Option az:=qZ f l (j0 f l T i).1 i
theorem aGh {T:List bd} {k:Nat} {t:bd} (h:k<T.length):(T.set k t).getD k default=t:=by rw [aTB,aT2 h];rfl
theorem aGg {T:List bd} {k i:Nat} {t:bd} (h:k≠i):(T.set k t).getD i default=T.getD i default:=by rw [aTB,aT9 h,aTB]
theorem SE {f:aI} {l:List dG} {T:List bd}:∀ k,k≤T.length→∀ i,i<T.length→(j0 f l T k).1.getD i default=if i<k then (match F_ f l T i with | some c=>(T.getD i default).bm c | none=>T.getD i default) else T.getD i default
 | 0,_,i,ar=>by rw [aTL (by omega)];rfl
 | k+1,au,i,ar=>by
  have bK:=SE (f:=f) (l:=l) (T:=T) k (by omega);have aC:=(SF (f:=f) (l:=l) (T:=T) k).1;have pZ:=bK k (by omega);rw [aTL (by omega)] at pZ;cases hs:F_ f l T k with
  | none =>
   rw [Gp rfl hs,bK i ar];by_cases e:i=k
   ·subst e;rw [aTL (by omega),aTO (by omega),hs]
   ·by_cases bb:i<k
    ·rw [aTO bb,aTO (by omega)]
    ·rw [aTL bb,aTL (by omega)]
  | some c =>
   rw [Nx rfl hs];by_cases e:i=k
   ·subst e;rw [aGh (by omega),aTO (by omega),hs,pZ]
   ·rw [aGg (λ h=>e h.symm),bK i ar];by_cases bb:i<k
    ·rw [aTO bb,aTO (by omega)]
    ·rw [aTL bb,aTL (by omega)]
theorem alR {f:aI} {l:List dG} {T:List bd}:∀ k,k≤T.length→(j0 f l T k).2=((List.range k).filter λ i=>(F_ f l T i).isSome).map λ i=>(T.getD i default).id
 | 0,_=>rfl
 | k+1,au=>by
  have bK:=alR (f:=f) (l:=l) (T:=T) k (by omega);have pZ:=SE (f:=f) (l:=l) (T:=T) k (by omega) k (by omega);rw [aTL (by omega)] at pZ;rw [aVg,aUL,aT8,aUP];cases hs:F_ f l T k with
  | none=>rw [Gp rfl hs,bK];simp
  | some c=>rw [Nx rfl hs,bK,pZ];simp
theorem aBM {W:ak} {l:List dG} (h:r6 W l=0):W.bn=0∧kh W l=(W.lY l).1∧qV W l=(W.lY l).2:=by
 have hc:W.bn=0:=by
  apply aVw;intro hn;rw [(ajW (l:=l) hn).1] at h;exact hn h
 by_cases aC:(l.length:Int)≤200
 ·have:=RV (l:=l) hc aC;exact ⟨hc,this.2⟩
 ·rw [(ajX (l:=l) hc (by omega)).1] at h;exact nomatch h
theorem aBL {W:ak} {l:List dG} (h:r6 W l=0):
  Good (kh W l)∧(kh W l).aq.length=W.aq.length∧Nv (qV W l)=true∧kh W l= {W with aq:=(kh W l).aq}∧
  ∀ k,k<W.aq.length→((qV W l).any (λ y=>(W.aq.getD k default).id == y)=false∧(kh W l).aq.getD k default=W.aq.getD k default)∨
   ∃ c:az,(qV W l).any (λ y=>(W.aq.getD k default).id == y)=true∧(kh W l).aq.getD k default=(W.aq.getD k default).bm c∧0≤eX l (W.aq.getD k default).id∧
    hk W.field (W.aq.getD k default).spot (l.getD (eX l (W.aq.getD k default).id).toNat default).bm=0∧hk W.field c (l.getD (eX l (W.aq.getD k default).id).toNat default).bm=0∧hk W.field (W.aq.getD k default).spot c=0∧
    oS W.field (W.aq.getD k default).spot (l.getD (eX l (W.aq.getD k default).id).toNat default).bm=oS W.field c (l.getD (eX l (W.aq.getD k default).id).toNat default).bm+oS W.field (W.aq.getD k default).spot c∧
    (W.aq.getD k default).spot∈eh c:=by
 obtain ⟨hc,avq,avp⟩:=aBM h;have bQ:=Good.BQ hc;rw [avq,avp];have dD:=alS (f:=W.field) (l:=l) (T:=W.aq) (Q:=λ t=>0<t.id∧t.id<W.next∧Pn W.field W.a7.length t)
  (λ t c I aM=>⟨I.1,I.2.1,⟨I.2.2.kind,I.2.2.owner,aM,I.2.2.dk,I.2.2.load⟩⟩) bQ.I' (λ t aJ=>bQ.each aJ) W.aq.length (aTK _)
 have hlen:=alW W l;have n2:=alR (f:=W.field) (l:=l) (T:=W.aq) W.aq.length (aTK _);have Iw:=bQ.I';refine ⟨Good.akl bQ Z Z Z Z Z bQ.now (by rw [hlen];exact bQ.ek) dD.1 dD.2,hlen, ?_,Z,λ k au=> ?_⟩
 ·show Nv (j0 W.field l W.aq W.aq.length).2=true;rw [n2];refine aFx ?_;rw [List.pairwise_map];have hr:((List.range W.aq.length).filter λ i=>(F_ W.field l W.aq i).isSome).Pairwise (· < ·):=List.Pairwise.filter _ List.pairwise_lt_range;refine List.Pairwise.imp_of_mem (fun {i j} ar aA hl=> ?_) hr;have ar:=aUi.1 (aVi.1 ar).1;have aA:=aUi.1 (aVi.1 aA).1;rw [mO ar,mO aA];exact ((aUn.1 Iw) i j ar aA hl).1
 ·have fA:=SE (f:=W.field) (l:=l) (T:=W.aq) W.aq.length (aTK _) k au;rw [aTO au] at fA;have pZ:=SE (f:=W.field) (l:=l) (T:=W.aq) k (by omega) k au;rw [aTL (by omega)] at pZ;have pS:((W.lY l).2).any (λ y=>(W.aq.getD k default).id == y)=(F_ W.field l W.aq k).isSome:=by
   show (j0 W.field l W.aq W.aq.length).2.any _=_;rw [n2,aVO,aU1];constructor
   ·rintro ⟨y,aF,e⟩;obtain ⟨i,ar,rfl⟩:=aUh.1 aF;obtain ⟨xz,FD⟩:=aVi.1 ar;have xz:=aUi.1 xz;have e:(W.aq.getD k default).id=(W.aq.getD i default).id:=by simpa using e
    have:i=k:=by
     rw [mO au,mO xz] at e;rcases aYR i k with q | q | q
     ·have:=((aUn.1 Iw) i k xz au q).1;omega
     ·exact q
     ·have:=((aUn.1 Iw) k i au xz q).1;omega
    rw [← this];exact FD
   ·intro hs;exact ⟨_,aUh.2 ⟨k,aVi.2 ⟨aUi.2 au,hs⟩,Z⟩,by simp⟩
  cases hs:F_ W.field l W.aq k with
  | none =>
   rw [hs] at fA pS;exact .inl ⟨pS,fA⟩
  | some c =>
   rw [hs] at fA pS;obtain ⟨d1,d2,d3,d4,d5⟩:=alU hs;rw [pZ] at d1 d2 d3 d4;obtain ⟨f1,f2,f3,f4,f5,f6,f7⟩:=amW d2 d3 d4.symm;exact .inr ⟨c,pS,fA,d1,d2,f2,f1,by omega,f4⟩
end
section
structure aN where
 by_:Int
 kind:Int
 aW:Int
 spot:az
 what:Int
 deriving DecidableEq,Inhabited
namespace aN
def cells (a:aN):List Value:= [.int .i64 (a.by_), .int .i64 (a.kind), .int .i64 (a.aW), .int .i64 (a.spot.x), .int .i64 (a.spot.y), .int .i64 (a.what)]
def ok (a:aN):Prop:=(Lit.int .i64 a.by_).wf=true∧(Lit.int .i64 a.kind).wf=true∧(Lit.int .i64 a.aW).wf=true∧(Lit.int .i64 a.spot.x).wf=true∧(Lit.int .i64 a.spot.y).wf=true∧(Lit.int .i64 a.what).wf=true
def raw (j:Nat) (u:Value):Prop:=match j with
 | 0=>∃ n:Int,u= .int .i64 n
 | 1=>∃ n:Int,u= .int .i64 n
 | 2=>∃ n:Int,u= .int .i64 n
 | 3=>∃ n:Int,u= .int .i64 n
 | 4=>∃ n:Int,u= .int .i64 n
 | 5=>∃ n:Int,u= .int .i64 n
 | _=>True
theorem ru (a:aN):∀ (j:Nat) u,a.cells[j]? =some u→raw j u:=by
 intro j u hu
 match j,hu with
 | 0,hu=>exact ⟨_,(aTA hu).symm⟩
 | 1,hu=>exact ⟨_,(aTA hu).symm⟩
 | 2,hu=>exact ⟨_,(aTA hu).symm⟩
 | 3,hu=>exact ⟨_,(aTA hu).symm⟩
 | 4,hu=>exact ⟨_,(aTA hu).symm⟩
 | 5,hu=>exact ⟨_,(aTA hu).symm⟩
 | j+6,hu=>exact trivial
theorem rr (a:aN):∀ u∈a.cells,u.oneCell'=true:=by
 intro u hu;unfold cells at hu;simp only [aTZ,aU8,aVV] at hu;rcases hu with rfl | rfl | rfl | rfl | rfl | rfl<;>rfl
def rep:aa aN:=aa.flat 6 cells ok raw (λ _=>rfl) rr ru
theorem plain:rep.Plain:=aa.n1
def zero:Value:= .agg #[.int .i64 0, .int .i64 0, .int .i64 0, .int .i64 0, .int .i64 0, .int .i64 0]
theorem ix:∀ (j:Nat) u,zero.cells[j]? =some u→rep.raw j u:=by
 intro j u hu;have hu:(#[(.int .i64 0:Value),(.int .i64 0:Value),(.int .i64 0:Value),(.int .i64 0:Value),(.int .i64 0:Value),(.int .i64 0:Value)]:Array Value)[j]? =some u:=hu
 match j,hu with
 | 0,hu=>exact ⟨_,(aTA hu).symm⟩
 | 1,hu=>exact ⟨_,(aTA hu).symm⟩
 | 2,hu=>exact ⟨_,(aTA hu).symm⟩
 | 3,hu=>exact ⟨_,(aTA hu).symm⟩
 | 4,hu=>exact ⟨_,(aTA hu).symm⟩
 | 5,hu=>exact ⟨_,(aTA hu).symm⟩
 | j+6,hu=>cases hu
theorem info:(prog.info? 69).map (λ i=>(i.zero,i.size,i.bytes))=some (some zero,6,48):=by kernel_rfl
theorem k_ {by_:Nat} {w:World} {A:Option Addr} {c:Nat} {l:List aN} (h:rep.aG by_ w A c l):∀ a∈l,a.ok:=aa.aG.y7 (R:=rep) (Q:=ok) (fun {w cs a} (h:rep.has w cs a)=>(show cs=a.cells∧a.ok from h).2) h
def sh:gK:=(.cons (.int .i64) (.cons (.int .i64) (.cons (.int .i64) (.cons (.cons (.int .i64) (.cons (.int .i64) .nil)) (.cons (.int .i64) .nil)))))
end aN
end
end Go.Proofs.YtmeeljmapailnaaGreat
