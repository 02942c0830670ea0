import Derived.Test.YtmeeljmapailnaaGreatPtr
set_option linter.unusedVariables false
set_option linter.unusedSimpArgs false
set_option maxRecDepth 100000
set_option maxHeartbeats 4000000
open Go.RowKit
namespace Go.Proofs.YtmeeljmapailnaaGreat
open Tryz
abbrev aVv:=@Go.Lib.run_eql_slice_nil
abbrev aVW:=@List.setIfInBounds_toArray
abbrev aV0:=@Go.info_parts
abbrev aXR:=@Go.wpQuiet_nil
section
theorem vn (A:Option Addr) (c:Nat) (l:List Int) (w:World) (h:bW.aG 8 w A c l):
  Calls prog 77 #[.slice A l.length c] w λ e w'=>∃ bL bX,e= .returned (.slice bL l.length bX)∧bW.aH 3 8 w' w.heap.size (aa.aj bL) bL bX l∧(bL=none↔A=none)∧Below w.heap.size w w':=by
 obtain ⟨i0,ar,oa,mf,o1⟩:=aV0 DD;have Nh:∀ (w:World) (a:Option Addr) (n c hT bX:Nat),(binOp .eql 22 (.slice a n c) (.slice none hT bX)).run prog w= .ok (.bool a.isNone) w:=λ w a n c hT bX=>aVv w _ _ a n c hT bX underlying22;cases A with
 | none =>
  obtain rfl:c=0:=h.2.2.2.1 rfl;obtain rfl:l= []:=aT7 (by have:=h.1;omega);go_enter func77,ntmps77;go_wp2_with fail
  go_ret;exact ⟨none,0,Z,aa.aH.nil _,by simp,aUb _ _⟩
 | some a =>
  have cN:Below w.heap.size w (w.alloc (.cells #[] 3)):=(aUb _ w).alloc (aTK _) _;obtain ⟨n,eJ⟩:∃ n,Hid (l.length=n):=⟨_,aTG rfl⟩;obtain ⟨τ,ae,aw,aU,ess,bz,cb⟩:=h.keep cN;have uR:=aTG bz;have mS:∀ u∈ess.flatten,u.oneCell'=true:=by
   intro u hu;obtain ⟨y,aF,hu⟩:=aUN.1 hu;obtain ⟨a,ha⟩:=bz.left y aF;exact bW.one ha u hu
  have n':∀ (j:Nat) u,ess.flatten[j]? =some u→bW.raw (j % bW.size) u:=λ j u hu=>Fg bz (by decide) hu;rw [eJ.out] at τ aw cb;have dr:=aTG cb;have i_:=aTG (Own.empty (e:= 3) (size:=bW.size) (G:=bW.raw) w (aTK w.heap.size));clear h aU bz cb;rw [eJ.out];go_enter func77,ntmps77;go_wp2_with (at_builtin;refine GG _ rfl _ _ 22 rfl w.heap.size 3 i0 (.int .i64 0) bW.size 8 underlying22 ar oa mf o1 rfl (by decide) bW.raw aIf _ _ _ rfl i_.out (some a) n c ess.flatten rfl dr.out mS n' ?qc4 ?qc5 ?qc6 ?_)
  case qc4=>unfold maxLen;omega
  case qc5=>omega
  case qc6=>simp
  intro v' aS eT iU lF fA;have c8:=cN.grown iU (by simp) (by intro k au;simp [Value.ownBlock] at au;omega);obtain ⟨cw,c1,rfl,hle,_,_,_,kv⟩:=eT.shape;have jU:cw≠none:=by
   intro h;subst h;exact lF (kv Z)
  have aX:Hid (bW.aH 3 8 aS w.heap.size (aa.aj cw) cw c1 l):=aTG (aa.aH.zS ak6 uR.out (by rw [eJ.out];exact aw) (by rw [eJ.out];simpa using eT));have rh:=aTG jU;clear iU lF fA eT jU kv mS n';go_wp2_with fail
  go_ret;exact ⟨cw,c1,Z,aX.out,⟨λ h=>absurd h rh.out,λ h=>by cases h⟩,c8⟩
theorem PN (A:Option Addr) (c:Nat) (l:List az) (w:World) (h:az.rep.aG 16 w A c l):
  Calls prog 88 #[.slice A l.length c] w λ e w'=>∃ bL bX,e= .returned (.slice bL l.length bX)∧az.rep.aH 55 16 w' w.heap.size (aa.aj bL) bL bX l∧(bL=none↔A=none)∧Below w.heap.size w w':=by
 obtain ⟨i0,ar,oa,mf,o1⟩:=aV0 az.info;have Nh:∀ (w:World) (a:Option Addr) (n c hT bX:Nat),(binOp .eql 25 (.slice a n c) (.slice none hT bX)).run prog w= .ok (.bool a.isNone) w:=λ w a n c hT bX=>aVv w _ _ a n c hT bX underlying25;cases A with
 | none =>
  obtain rfl:c=0:=h.2.2.2.1 rfl;obtain rfl:l= []:=aT7 (by have:=h.1;omega);go_enter func88,ntmps88;go_wp2_with fail
  go_ret;exact ⟨none,0,Z,aa.aH.nil _,by simp,aUb _ _⟩
 | some a =>
  have cN:Below w.heap.size w (w.alloc (.cells #[] 55)):=(aUb _ w).alloc (aTK _) _;obtain ⟨n,eJ⟩:∃ n,Hid (l.length=n):=⟨_,aTG rfl⟩;obtain ⟨τ,ae,aw,aU,ess,bz,cb⟩:=h.keep cN;have uR:=aTG bz;have mS:∀ u∈ess.flatten,u.oneCell'=true:=by
   intro u hu;obtain ⟨y,aF,hu⟩:=aUN.1 hu;obtain ⟨a,ha⟩:=bz.left y aF;exact az.rep.one ha u hu
  have n':∀ (j:Nat) u,ess.flatten[j]? =some u→az.rep.raw (j % az.rep.size) u:=λ j u hu=>Fg bz (by decide) hu;rw [eJ.out] at τ aw cb;have dr:=aTG cb;have i_:=aTG (Own.empty (e:= 55) (size:=az.rep.size) (G:=az.rep.raw) w (aTK w.heap.size));clear h aU bz cb;rw [eJ.out];go_enter func88,ntmps88;go_wp2_with (at_builtin;refine GG _ rfl _ _ 25 rfl w.heap.size 55 i0 az.zero az.rep.size 16 underlying25 ar oa mf o1 rfl (by decide) az.rep.raw az.ix _ _ _ rfl i_.out (some a) n c ess.flatten rfl dr.out mS n' ?qc4 ?qc5 ?qc6 ?_)
  case qc4=>unfold maxLen;omega
  case qc5=>omega
  case qc6=>simp
  intro v' aS eT iU lF fA;have c8:=cN.grown iU (by simp) (by intro k au;simp [Value.ownBlock] at au;omega);obtain ⟨cw,c1,rfl,hle,_,_,_,kv⟩:=eT.shape;have jU:cw≠none:=by
   intro h;subst h;exact lF (kv Z)
  have aX:Hid (az.rep.aH 55 16 aS w.heap.size (aa.aj cw) cw c1 l):=aTG (aa.aH.zS az.plain uR.out (by rw [eJ.out];exact aw) (by rw [eJ.out];simpa using eT));have rh:=aTG jU;clear iU lF fA eT jU kv mS n';go_wp2_with fail
  go_ret;exact ⟨cw,c1,Z,aX.out,⟨λ h=>absurd h rh.out,λ h=>by cases h⟩,c8⟩
theorem PO (A:Option Addr) (c:Nat) (l:List bd) (w:World) (h:bd.rep.aG 56 w A c l):
  Calls prog 89 #[.slice A l.length c] w λ e w'=>∃ bL bX,e= .returned (.slice bL l.length bX)∧bd.rep.aH 57 56 w' w.heap.size (aa.aj bL) bL bX l∧(bL=none↔A=none)∧Below w.heap.size w w':=by
 obtain ⟨i0,ar,oa,mf,o1⟩:=aV0 bd.info;have Nh:∀ (w:World) (a:Option Addr) (n c hT bX:Nat),(binOp .eql 26 (.slice a n c) (.slice none hT bX)).run prog w= .ok (.bool a.isNone) w:=λ w a n c hT bX=>aVv w _ _ a n c hT bX underlying26;cases A with
 | none =>
  obtain rfl:c=0:=h.2.2.2.1 rfl;obtain rfl:l= []:=aT7 (by have:=h.1;omega);go_enter func89,ntmps89;go_wp2_with fail
  go_ret;exact ⟨none,0,Z,aa.aH.nil _,by simp,aUb _ _⟩
 | some a =>
  have cN:Below w.heap.size w (w.alloc (.cells #[] 57)):=(aUb _ w).alloc (aTK _) _;obtain ⟨n,eJ⟩:∃ n,Hid (l.length=n):=⟨_,aTG rfl⟩;obtain ⟨τ,ae,aw,aU,ess,bz,cb⟩:=h.keep cN;have uR:=aTG bz;have mS:∀ u∈ess.flatten,u.oneCell'=true:=by
   intro u hu;obtain ⟨y,aF,hu⟩:=aUN.1 hu;obtain ⟨a,ha⟩:=bz.left y aF;exact bd.rep.one ha u hu
  have n':∀ (j:Nat) u,ess.flatten[j]? =some u→bd.rep.raw (j % bd.rep.size) u:=λ j u hu=>Fg bz (by decide) hu;rw [eJ.out] at τ aw cb;have dr:=aTG cb;have i_:=aTG (Own.empty (e:= 57) (size:=bd.rep.size) (G:=bd.rep.raw) w (aTK w.heap.size));clear h aU bz cb;rw [eJ.out];go_enter func89,ntmps89;go_wp2_with (at_builtin;refine GG _ rfl _ _ 26 rfl w.heap.size 57 i0 bd.zero bd.rep.size 56 underlying26 ar oa mf o1 rfl (by decide) bd.rep.raw bd.ix _ _ _ rfl i_.out (some a) n c ess.flatten rfl dr.out mS n' ?qc4 ?qc5 ?qc6 ?_)
  case qc4=>unfold maxLen;omega
  case qc5=>omega
  case qc6=>simp
  intro v' aS eT iU lF fA;have c8:=cN.grown iU (by simp) (by intro k au;simp [Value.ownBlock] at au;omega);obtain ⟨cw,c1,rfl,hle,_,_,_,kv⟩:=eT.shape;have jU:cw≠none:=by
   intro h;subst h;exact lF (kv Z)
  have aX:Hid (bd.rep.aH 57 56 aS w.heap.size (aa.aj cw) cw c1 l):=aTG (aa.aH.zS bd.plain uR.out (by rw [eJ.out];exact aw) (by rw [eJ.out];simpa using eT));have rh:=aTG jU;clear iU lF fA eT jU kv mS n';go_wp2_with fail
  go_ret;exact ⟨cw,c1,Z,aX.out,⟨λ h=>absurd h rh.out,λ h=>by cases h⟩,c8⟩
end
section
theorem aA7 {a b:az} (h: -1000≤a.x∧a.x≤1000∧ -1000≤a.y∧a.y≤1000) (ae: -1000≤b.x∧b.x≤1000∧ -1000≤b.y∧b.y≤1000):1≤(hP a b).length∧(hP a b).length≤2001∧(hP a b).length=(a_ a b).toNat+1:=by
 have aw:=jy (b.x - a.x);have aU:=jy (b.y - a.y);unfold hP;rw [Ge];unfold a_;omega
def aI.clear (f:aI) (c:az):Bool:= !(f.nj c == 1 || f.nj c == 2)
def wZ (f:aI) (a b:az):Bool:=decide ((hP a b).length<3) || (((hP a b).drop 1).take ((hP a b).length - 1 - 1)).all f.clear
theorem aqX {f:aI} {a b:az} (h:(hP a b).length<3):wZ f a b=true:=by unfold wZ;rw [aT3 h];rfl
theorem aqZ {f:aI} {a b:az} (h:∀ i,i<(((hP a b).drop 1).take ((hP a b).length - 1 - 1)).length→f.clear ((((hP a b).drop 1).take ((hP a b).length - 1 - 1)).getD i default)=true):wZ f a b=true:=by
 unfold wZ;rw [aUr];refine .inr (aUp.2 λ x hx=> ?_);obtain ⟨i,ar,rfl⟩:=List.getElem_of_mem hx;have:=h i ar
 rwa [aTB,aTF ar] at this
theorem aqY {f:aI} {a b:az} {k:Nat} (au:k<(((hP a b).drop 1).take ((hP a b).length - 1 - 1)).length) (h:f.clear ((((hP a b).drop 1).take ((hP a b).length - 1 - 1)).getD k default)=false):wZ f a b=false:=by
 unfold wZ;have aw:¬ (hP a b).length<3:=by rw [aTD,aTW] at au;omega
 rw [aT4 aw,aWG];rw [aWD];refine ⟨_,aUV au, ?_⟩;rw [aTB,aTF au] at h;simpa using h
theorem acF {f:aI} {c:az} (h:f.dY c=0):0≤c.x∧c.x<40∧0≤c.y∧c.y<40:=by
 have hc:f.bn=0:=by
  cases hd:decide (f.bn=0) with
  | true=>simpa using hd
  | false=>rw [(aI.U3 (by simpa using hd)).1] at h;exact h
 have ar:=U2 hc h;unfold aI.fu at ar;rw [aTM] at ar;have τ:=kR ar.1;have ae:=kR ar.2;unfold aI.bn at hc;split at hc
 ·rename_i hw
  rw [aTM] at hw;have aw:=kR hw.1;have aU:=kR hw.2;omega
 ·omega
def DY (f:aI) (a b:az):Int:=if f.dY a≠0 then f.dY a else f.dY b
def Nr (f:aI) (a b:az):Bool:=if DY f a b≠0 then false else wZ f a b || wZ f b a
def Gl (f:aI) (a b:az):Value:= .tuple #[.bool (Nr f a b),J (DY f a b)]
theorem aFc {f:aI} {a b:az} (h:¬ f.dY a=0):Gl f a b= .tuple #[.bool false,J (f.dY a)]:=by
 have e:DY f a b=f.dY a:=by unfold DY;rw [aTO h]
 unfold Gl Nr;rw [e,aTO h]
theorem aFd {f:aI} {a b:az} (aK:f.dY a=0) (h:¬ f.dY b=0):Gl f a b= .tuple #[.bool false,J (f.dY b)]:=by
 have e:DY f a b=f.dY b:=by unfold DY;rw [aTL (by simpa using aK)]
 unfold Gl Nr;rw [e,aTO h]
theorem aFe {f:aI} {a b:az} (aK:f.dY a=0) (h:f.dY b=0):Gl f a b= .tuple #[.bool (wZ f a b || wZ f b a),J 0]:=by
 have e:DY f a b=0:=by unfold DY;rw [aTL (by simpa using aK)];exact h
 unfold Gl Nr;rw [e,aTL (by simp)]
theorem acP (f:aI) (a b:az) (A:Option Addr) (c:Nat) (w:World) (cq:bW.aG 8 w A c f.a8) (h: -1000≤a.x∧a.x≤1000∧ -1000≤a.y∧a.y≤1000) (ae: -1000≤b.x∧b.x≤1000∧ -1000≤b.y∧b.y≤1000):
  Calls prog 167 #[.agg #[J f.wide,J f.high, .slice A f.a8.length c], .agg #[J a.x,J a.y], .agg #[J b.x,J b.y]] w (λ e w'=>e= .returned (.bool (wZ f a b))∧Ext w w'):=by
 refine b' (n:=45) func167 Z Z Z ?_;refine ah<|ck Z Z Z Z λ cK bR bq dU ai=> ?_;have ba:=ab (Ext.bg w) bq;refine ck Z Z Z Z λ ea cC br gO ax=> ?_;have bE:=ab ba br;refine ck Z Z Z Z λ gJ iA cI qQ bB=> ?_;have cJ:=ab bE cI;refine va Z<|ag<|ah<| ?_;have ax:=ax.later cI;refine Φ (ao Z (ax.all cv b2))<|Φ (ao Z (bB.all cv b2))<|ca ava Z Z ((asc a b _ (by omega) (by omega)).mono ?_);rintro e q3 ⟨G2,Vq,rfl,AP,cX⟩;refine ⟨_,Z, ?_⟩;have ie:=ab cJ cX;have aNo:=aA7 (a:=a) (b:=b) (by omega) (by omega);refine vm Z<|Φ (ex Z Z)<|Φ (ex Z Z)<|va Z<|va Z<|ag<|ay<|ah<|vm Z<|Φ (cl underlying25 Z)<|Φ (blt Z Z)<|ag<| ?_;refine df Z (λ axa=> ?_) (λ axa=> ?_)
 ·refine ah<|va Z<|ag<|rt<|bP<|aV (.tmp Z .nil)<| ?_;exact ⟨by rw [aqX (by omega)];rfl,ie⟩
 ·refine bl<|ay<|ah<|vm Z<|vm Z<|Φ (cl underlying25 Z)<|Φ (gh Z Z (bf (by omega)))<|Φ (ali 1 ((hP a b).length - 1) underlying25 b2 Z Z Z Z (by omega) (by omega) (by have:=AP.has.1;omega))<|Φ (cl underlying25 Z)<|vm Z<|ag<|bu<| ?_;have ai:=ai.later (ab br (ab cI cX));refine dx (λ bZ bS aL=>∃ k:Nat,bS= [(3, .pointer (some ⟨bR,0,none⟩)),(26, .slice (eB G2 Vq 1 2) ((hP a b).length - 1 - 1) (Vq - 1)),(27,J ((((hP a b).length - 1 - 1:Nat):Int))),(28,J (k:Int))]∧bZ=(hP a b).length - 1 - 1 - k∧Ext w aL∧aR aL bR [J f.wide,J f.high, .slice A f.a8.length c] 24 (0,0)∧az.rep.aH 55 16 aL gJ.heap.size (aa.aj G2) G2 Vq (hP a b)∧(k≤(hP a b).length - 1 - 1)∧(∀ i,i<k→f.clear ((((hP a b).drop 1).take ((hP a b).length - 1 - 1)).getD i default)=true)) _ _ ⟨0,Z,Z,ie,ai,AP,by omega,λ i ar=>by omega⟩ (.cons Z (.cons Z (.cons Z (.cons (bH Z) .nil)))) ?_;rintro xP aJU sj ⟨k,rfl,rfl,hU,ai,AP,au,aM⟩;have aRt:=ai.lt;have aGF:=b7 AP.lt;refine ah<|Φ (blt Z Z)<|ag<|ay<| ?_;refine df Z (λ zx=> ?_) (λ zx=> ?_)
  ·refine bl<|ay<|bu<|ah<|Φ (bT k underlying25 b2 Z Z ((AP.has.sub 1 ((hP a b).length - 1) (by omega) (by omega)).bs (aO k (by rw [aTD,aTW];omega))) Z (by omega))<|Φ (ao Z (aa.aG.er xv ((AP.has.sub 1 ((hP a b).length - 1) (by omega) (by omega)).cg (aO k (by rw [aTD,aTW];omega))) (cA (l:=((hP a b).drop 1).take ((hP a b).length - 1 - 1)) (u:=default) (by rw [aTD,aTW];omega)) cv b2))<|al Z xi Z Z λ NK KF fg ajr yT=> ?_;have uE:=ab hU fg;refine st (new:= [J (((((hP a b).drop 1).take ((hP a b).length - 1 - 1)).getD k default).x),J (((((hP a b).drop 1).take ((hP a b).length - 1 - 1)).getD k default).y)]) Z Z yT Z b2 Z Z Z λ yl o9 yT=> ?_;have ko:=Ext.mod uE o9 bC;refine ag<|ah<| ?_;have ai:=(ai.later fg).mod o9 aQ;refine Φ (ao Z (ai.all la ld))<|Φ (ao Z (yT.all cv b2))<|ca rC Z Z ((sP f (((((hP a b).drop 1).take ((hP a b).length - 1 - 1)).getD k default)) _ _ _ (cq.keep ko)).mono ?_);rintro e Ec ⟨rfl,iI⟩;refine ⟨_,Z, ?_⟩;have px:=ab ko iI;refine vm Z<|Φ (ex Z Z)<|Φ (ex Z Z)<|va Z<|va Z<|ag<|ah<|vm Z<|Φ (beq Z Z)<|vm Z<|eN Z Z<|bh Z (λ hc=>beq (gt hc Z) Z)<|Φ (fC Z Z Z Z)<|ag<| ?_;refine dn Z (λ Bo=> ?_) (λ Bo=> ?_)
   ·refine ah<|va Z<|ag<|rt<|dV<|bP<|kB<|dV<|bP<|aV (.tmp Z .nil)<| ?_;exact ⟨by rw [aqY (k:=k) (by rw [aTD,aTW];omega) (by unfold aI.clear;rw [Bo];rfl)];rfl,px⟩
   ·refine ei<|bU<|aP<|rg<|Φ (bad Z Z (bf (by omega)))<|vm Z<|nl<| ?_;have ai:=ai.later iI;have AP:=((AP.later fg).mod o9 (b0 aGF)).later iI;exact cD _ _ ⟨k+1,Z,Z,px,ai,AP,by omega,o4 aM (by unfold aI.clear;rw [Bo];rfl)⟩ (by omega) (.cons Z (.cons Z (.cons Z (.cons (bH Z) .nil))))
  ·refine cV<|cU<|c'<|cT<|aP<|ah<|va Z<|ag<|rt<|aV (.tmp Z .nil)<| ?_;exact ⟨by rw [aqZ λ i ar=>aM i (by rw [aTD,aTW] at ar;omega)];rfl,hU⟩
theorem aFb (f:aI) (a b:az) (A:Option Addr) (c:Nat) (w:World) (cq:bW.aG 8 w A c f.a8):
  Calls prog 135 #[.agg #[J f.wide,J f.high, .slice A f.a8.length c], .agg #[J a.x,J a.y], .agg #[J b.x,J b.y]] w (λ e w'=>e= .returned (Gl f a b)∧Ext w w'):=by
 refine b' (n:=38) func135 Z Z Z ?_;refine ah<|ck Z Z Z Z λ cK bR bq dU ai=> ?_;have ba:=ab (Ext.bg w) bq;have ib:=ai.lt;refine ck Z Z Z Z λ ea cC br gO ax=> ?_;have bE:=ab ba br;have mi:=ax.lt;refine ck Z Z Z Z λ gJ iA cI qQ bB=> ?_;have cJ:=ab bE cI;have ya:=bB.lt;refine va Z<|va Z<|ag<|ay<|ah<| ?_;have ax:=ax.later cI;refine Φ (ao Z (ax.all cv b2))<|Φ (ao Z (bB.all cv b2))<|Φ (v:= .agg #[J a.x,J a.y,J b.x,J b.y]) (cY Z (by kernel_rfl))<|vm Z<|ag<|bu<|IL 3<|lR<|ah<|Φ (blt Z Z)<|ag<|ay<|fH Z<|bl<|ay<|bu<|ah<|Φ (v:= .agg #[J a.x,J a.y]) (FP Z Z (by kernel_rfl))<|al Z xi Z Z λ nN Ht eO YF sA=> ?_;have fp:=ab cJ eO;have Sh:=sA.lt;refine st (new:= [J a.x,J a.y]) Z Z sA Z b2 Z Z Z λ sj xP sA=> ?_;have:=xP.size;have hU:=Ext.mod fp xP bC;refine ag<|ah<| ?_;have ai:=(ai.later (ab br (ab cI eO))).mod xP aQ;refine Φ (ao Z (ai.all la ld))<|Φ (ao Z (sA.all cv b2))<|ca rC Z Z ((sP f a _ _ _ (cq.keep hU)).mono ?_);rintro e Ea ⟨rfl,jP⟩;refine ⟨_,Z, ?_⟩;have:=jP.size;have sx:=ab hU jP;refine vm Z<|Φ (ex Z Z)<|Φ (ex Z Z)<|va Z<|va Z<|ag<|ah<|vm Z<|Φ (bne Z Z)<|ag<| ?_;refine ee Z (λ Ls=> ?_) (λ Ls=> ?_)
 ·refine ah<|vm Z<|va Z<|va Z<|ag<|rt<|dV<|bP<|kB<|dV<|bP<|aV (.tmp Z (.tmp Z .nil))<| ?_;exact ⟨by rw [aFc Ls];rfl,sx⟩
 ·have aNI:=acF Ls;refine ei<|bU<|aP<|rg<|Φ (pH (r:=1) Z Z (by decide) (by decide))<|vm Z<|nl<|qc<|lR<|ah<|Φ (blt Z Z)<|ag<|ay<|fH Z<|bl<|ay<|bu<|ah<|Φ (v:= .agg #[J b.x,J b.y]) (FP Z Z (by kernel_rfl))<|al Z xi Z Z λ sk aLk jm aPl TZ=> ?_;have jQ:=ab sx jm;refine st (new:= [J b.x,J b.y]) Z Z TZ Z b2 Z Z Z λ aaE kT TZ=> ?_;have uG:=Ext.mod jQ kT bC;refine ag<|ah<| ?_;have ai:=(ai.later (ab jP jm)).mod kT aQ;refine Φ (ao Z (ai.all la ld))<|Φ (ao Z (TZ.all cv b2))<|ca rC Z Z ((sP f b _ _ _ (cq.keep uG)).mono ?_);rintro e Ed ⟨rfl,iW⟩;refine ⟨_,Z, ?_⟩;have nb:=ab uG iW;refine vm Z<|Φ (ex Z Z)<|Φ (ex Z Z)<|va Z<|va Z<|ag<|ah<|vm Z<|Φ (bne Z Z)<|ag<| ?_;refine ee Z (λ rJ=> ?_) (λ rJ=> ?_)
  ·refine ah<|vm Z<|va Z<|va Z<|ag<|rt<|dV<|bP<|kB<|dV<|bP<|aV (.tmp Z (.tmp Z .nil))<| ?_;exact ⟨by rw [aFd ‹_› rJ];rfl,nb⟩
  ·have aNL:=acF rJ;refine ei<|bU<|aP<|rg<|Φ (pH (r:=2) Z Z (by decide) (by decide))<|vm Z<|nl<|qc<|lR<|ah<|Φ (blt Z Z)<|ag<|ay<|hj Z<|cV<|cU<|c'<|cT<|aP<|ah<| ?_;have ai:=ai.later iW;refine Φ (ao Z (ai.all la ld))<| ?_;have ax:=((((ax.later eO).mod xP aQ).later (ab jP jm)).mod kT aQ).later iW;refine Φ (ao Z (ax.all cv b2))<| ?_;have bB:=((((bB.later eO).mod xP aQ).later (ab jP jm)).mod kT aQ).later iW;refine Φ (ao Z (bB.all cv b2))<|ca ae4 Z Z ((acP f a b _ _ _ (cq.keep nb) (by omega) (by omega)).mono ?_);rintro e GA ⟨rfl,kD⟩;refine ⟨_,Z, ?_⟩;have py:=ab nb kD;refine vm Z<| ?_;have ai:=ai.later kD;refine bh Z (λ hc=>ao Z (ai.all la ld))<| ?_;have bB:=bB.later kD;refine bh Z (λ hc=>ao Z (bB.all cv b2))<| ?_;have ax:=ax.later kD;refine bh Z (λ hc=>ao Z (ax.all cv b2))<|nM Z ae4 (λ hc=>ez (gt hc Z) (ez (gt hc Z) (ez (gt hc Z) Z))) (λ hc=>acP f b a _ _ _ (cq.keep py) (by omega) (by omega)) λ aHx aHY=> ?_;have TE:=ab py aHY;refine Φ (fC Z Z Z Z)<|va Z<|va Z<|ag<|rt<|aV (.tmp Z (.tmp Z .nil))<| ?_;exact ⟨by rw [aFe ‹_› ‹_›];rfl,TE⟩
end
section
structure dF where
 aW:Int
 eC:Int
 deriving DecidableEq,Inhabited
namespace dF
def cells (a:dF):List Value:= [.int .i64 (a.aW), .int .i64 (a.eC)]
def ok (a:dF):Prop:=(Lit.int .i64 a.aW).wf=true∧(Lit.int .i64 a.eC).wf=true
def raw (j:Nat) (u:Value):Prop:=match j with
 | 0=>∃ n:Int,u= .int .i64 n
 | 1=>∃ n:Int,u= .int .i64 n
 | _=>True
theorem ru (a:dF):∀ (j:Nat) u,a.cells[j]? =some u→raw j u:=by
 intro j u hu
 match j,hu with
 | 0,hu=>exact ⟨_,(aTA hu).symm⟩
 | 1,hu=>exact ⟨_,(aTA hu).symm⟩
 | j+2,hu=>exact trivial
theorem rr (a:dF):∀ u∈a.cells,u.oneCell'=true:=by
 intro u hu;unfold cells at hu;simp only [aTZ,aU8,aVV] at hu;rcases hu with rfl | rfl<;>rfl
def rep:aa dF:=aa.flat 2 cells ok raw (fun _=>rfl) rr ru
def zero:Value:= .agg #[.int .i64 0, .int .i64 0]
theorem ix:∀ (j:Nat) u,zero.cells[j]? =some u→rep.raw j u:=by
 intro j u hu;have hu:(#[(.int .i64 0:Value),(.int .i64 0:Value)]:Array Value)[j]? =some u:=hu
 match j,hu with
 | 0,hu=>exact ⟨_,(aTA hu).symm⟩
 | 1,hu=>exact ⟨_,(aTA hu).symm⟩
 | j+2,hu=>cases hu
theorem info:(prog.info? 201).map (fun i=>(i.zero,i.size,i.bytes))=some (some zero,2,16):=by kernel_rfl
def sh:gK:=(.cons (.int .i64) (.cons (.int .i64) .nil))
end dF
theorem axC {w:World} {cs:List Value} {a:dF} (h:dF.rep.has w cs a):cs=a.cells:=aVP (show cs=a.cells∧a.ok from h)
end
section
theorem aDo (a:ak.b_) (W:ak) (w:World) (b4:ak.Has w a W) (aK:W.field.bn=0) (fq:W.a7.length≤8):
    Calls prog 65 #[.agg (ak.cells a W).toArray] w λ e w'=>e= .returned (.bool W.oj)∧Below w.heap.size w w':=by
  obtain ⟨fe,gq,gu,fF,fk,fv,fQ,gB,fX,fK⟩:=a;show Calls _ _ #[.agg #[.int .i64 W.field.wide, .int .i64 W.field.high, .slice fe W.field.a8.length fv, .slice gq W.a7.length fQ, .slice gu W.bp.length gB, .slice fF W.bM.length fX, .slice fk W.aq.length fK, .int .i64 W.next, .int .i64 W.now]] _ _;obtain ⟨lI,kq⟩:∃ n,Hid (W.a7.length=n):=⟨_,aTG rfl⟩;obtain ⟨ns,AG⟩:∃ n,Hid (W.bp.length=n):=⟨_,aTG rfl⟩;have fq:lI≤8:=by rw [← kq.out];exact fq
  have cN:=lA w (.cells (ak.cells ⟨fe,gq,gu,fF,fk,fv,fQ,gB,fX,fK⟩ W).toArray 28);have jD:=aTG (aR.new w (ak.cells ⟨fe,gq,gu,fF,fk,fv,fQ,gB,fX,fK⟩ W) 28 (0,0));have mA:=aTG (b4.keep cN);have wG:=aTG aK;obtain ⟨w0,jE⟩:∃ w0,Hid (w.alloc (.cells (ak.cells ⟨fe,gq,gu,fF,fk,fv,fQ,gB,fX,fK⟩ W).toArray 28)=w0):=⟨_,aTG rfl⟩;rw [jE.out] at cN mA;have jD:Hid (aR w0 w.heap.size (ak.cells ⟨fe,gq,gu,fF,fk,fv,fQ,gB,fX,fK⟩ W) 28 (0,0)):=by rw [← jE.out];exact jD
  have pA:Hid (w.alloc (.cells #[.int .i64 W.field.wide, .int .i64 W.field.high, .slice fe W.field.a8.length fv, .slice gq lI fQ, .slice gu ns gB, .slice fF W.bM.length fX, .slice fk W.aq.length fK, .int .i64 W.next, .int .i64 W.now] 28)=w0):=by rw [← jE.out,← kq.out,← AG.out];rfl
  obtain ⟨bo,c1,c2,c3,c4,c5,dQ,ed,eR⟩:=ak.tl jD.out;rw [kq.out] at c3;rw [AG.out] at c4;clear b4 aK;by_cases hlen:ns=lI
  · subst hlen
    have Cx:Hid (∀ j,j<0→W.xV j=true):=aTG λ j aA=>absurd aA (by omega);go_enter func65,ntmps65;rw [kq.out,AG.out];go_wp2_with fail
    rw [pA.out];go_loopw [3,4,15] (λ _ _ ht wr=>∃ k:Nat,k≤ns∧ht= .int .i64 (k:Int)∧Hid (∀ j,j<k→W.xV j=true)∧Below w0.heap.size w0 wr) (λ _ _ ht _=>ns - (intOf ht).toNat)
    case atStart=>exact ⟨0,aUv _,rfl,Cx,aUb _ _⟩
    case round =>
      clear Cx bo c1 c2 c3 c4 c5 dQ ed eR;obtain ⟨k,au,rfl,ig,γ⟩:=hrel;by_cases bA:k<ns
      · obtain ⟨p,hp⟩:=gH (l:=W.a7) (i:=k) (by rw [kq.out];exact bA)
        obtain ⟨st,hs⟩:=gH (l:=W.bp) (i:=k) (by rw [AG.out];exact bA);have QG:=mA.out.keep γ;have afI:=jD.out.later γ;have QF:az.rep.aG 16 wr gq fQ W.a7:=QG.B;have Lh:bW.aG 8 wr fe fv W.field.a8:=QG.P;have afQ:bW.aG 8 wr gu gB W.bp:=QG.S;have axD:(ns:Int)≤(fQ:Int):=by have:=QF.1;rw [kq.out] at this;omega
        obtain ⟨b,o,rfl,jJ⟩:=az.at_ QF (by rw [kq.out];omega);obtain ⟨Nb,eH⟩:=jJ k p hp;obtain ⟨cu,os,rfl,agu⟩:=Gg afQ (by rw [AG.out];omega);have s0:=agu k st hs;obtain ⟨bo,c1,c2,c3,c4,c5,dQ,ed,eR⟩:=ak.tl afI;rw [kq.out] at c3;rw [AG.out] at c4;have eA:W.xV k=(W.field.ground p && !(W.a7.take k).contains p && c9 st 0 1000000):=by
          unfold ak.xV;rw [aTB,hp,aTB,hs];rfl
        have c8:=lA wr (.cells #[.int .i64 p.x, .int .i64 p.y] 55);have QE:=aR.new wr p.cells 55 (0,0);obtain ⟨aS,Un⟩:∃ aS,Hid (wr.alloc (.cells #[.int .i64 p.x, .int .i64 p.y] 55)=aS):=⟨_,aTG rfl⟩;rw [Un.out] at c8;have QE:aR aS wr.heap.size p.cells 55 (0,0):=by rw [← Un.out];exact QE
        obtain ⟨r0,r1⟩:=az.gV QE;have k7:=aTG (λ (V:World) (h:Below aS.heap.size aS V)=>Le W.field p fe fv V ((Lh.keep c8).keep h) wG.out);have Az:=aTG (λ (V:World) (h:Below aS.heap.size aS V)=>axr p (some ⟨b,o,none⟩) fQ (W.a7.take k) V (((QF.NA k).keep c8).keep h));have js:(W.a7.take k).length=k:=by rw [aTD,kq.out];omega
        rw [js] at Az;have l5:=aTG (λ (V:World)=>Tk st 0 1000000 V);have k9:=aTG eA;have Dh:=γ.trans (c8.mono γ.size);have pY:(k:Int)<(ns:Int):=by omega
        have oX:(0:Int)≤(k:Int):=by omega
        have ayo:(k:Int)≤(fQ:Int):=by omega
        have XW:k≤fQ:=by omega
        clear QG afI jJ agu hp hs eA js QF Lh afQ;go_wp2_with fail
        rw [Un.out];have bo:=cell_later c8 bo;have c1:=cell_later c8 c1;have c2:=cell_later c8 c2;have c3:=cell_later c8 c3;have c4:=cell_later c8 c4;have s0:=cell_later c8 s0;have gb:=aTG (λ (l0:World) (h:Below aS.heap.size aS l0)=>(⟨trivial,cell_later h bo,cell_later h c1,cell_later h c2,cell_later h c3,cell_later h c4,cell_later h r0,cell_later h r1,cell_later h s0⟩:True∧l0.cell? ⟨w.heap.size,0,none⟩=some (.int .i64 W.field.wide)∧l0.cell? ⟨w.heap.size,1,none⟩=some (.int .i64 W.field.high)∧l0.cell? ⟨w.heap.size,2,none⟩=some (.slice fe W.field.a8.length fv)∧l0.cell? ⟨w.heap.size,3,none⟩=some (.slice (some ⟨b,o,none⟩) ns fQ)∧l0.cell? ⟨w.heap.size,4,none⟩=some (.slice (some ⟨cu,os,none⟩) ns gB)∧l0.cell? ⟨wr.heap.size,0,none⟩=some (.int .i64 p.x)∧l0.cell? ⟨wr.heap.size,1,none⟩=some (.int .i64 p.y)∧l0.cell? ⟨cu,os+k,none⟩=some (.int .i64 st)));clear Nb eH c5 dQ ed eR QE;cases τ:W.field.ground p with
        | false =>
          rw [τ] at k7;have cB:Hid (W.oj=false):=ak.Zp (k:=k) (by rw [kq.out];exact bA) (by rw [k9.out,τ];rfl);clear τ;refine To (by kernel_rfl) (by kernel_rfl) ?_;repeat (first
            | go_big_quiet_skip
            | (go_big_quiet_want
               first
               | (go_big_quiet_op;go_big_quiet_on)
               | (apply Exists.intro
                  refine ⟨λ GH I=> ?_, ?_⟩
                  · first
                    | (obtain ⟨_,Zu,Zv,Zw,Zx,Zy,Zz,ZA,ZB⟩:=gb.out GH I
                       apply Sl
                       · (go_simp;rfl)
                       · rfl)
                    | (apply Sk
                       · (go_simp;rfl)
                       · rfl
                       · first
                         | (with_reducible refine (k7.out _ I).mono ?_;rintro e cS ⟨rfl,bF⟩;exact ⟨rfl,nX I bF⟩)
                         | (with_reducible refine (Az.out _ I).mono ?_;rintro e cS ⟨rfl,bF⟩;exact ⟨rfl,nX I bF⟩)
                         | (with_reducible refine (l5.out _).mono ?_;rintro e cS ⟨rfl,rfl⟩;exact ⟨rfl,I⟩)
                       )
                  go_big_quiet_on
                  simp only [Act.put,aVW,aVJ,aVK])))
          refine aXR ?_;intro Ca bG;go_wp2_with fail
          go_ret;exact ⟨iq cB.out.symm,cN.trans ((Dh.trans (aYd bG Dh.size)).mono cN.size)⟩
        | true =>
          rw [τ] at k7;cases ae:(W.a7.take k).contains p with
          | true =>
            rw [ae] at Az;have cB:Hid (W.oj=false):=ak.Zp (k:=k) (by rw [kq.out];exact bA) (by rw [k9.out,τ,ae];rfl);clear τ ae;refine To (by kernel_rfl) (by kernel_rfl) ?_;repeat (first
              | go_big_quiet_skip
              | (go_big_quiet_want
                 first
                 | (go_big_quiet_op;go_big_quiet_on)
                 | (apply Exists.intro
                    refine ⟨λ GH I=> ?_, ?_⟩
                    · first
                      | (obtain ⟨_,Zu,Zv,Zw,Zx,Zy,Zz,ZA,ZB⟩:=gb.out GH I
                         apply Sl
                         · (go_simp;rfl)
                         · rfl)
                      | (apply Sk
                         · (go_simp;rfl)
                         · rfl
                         · first
                           | (with_reducible refine (k7.out _ I).mono ?_;rintro e cS ⟨rfl,bF⟩;exact ⟨rfl,nX I bF⟩)
                           | (with_reducible refine (Az.out _ I).mono ?_;rintro e cS ⟨rfl,bF⟩;exact ⟨rfl,nX I bF⟩)
                           | (with_reducible refine (l5.out _).mono ?_;rintro e cS ⟨rfl,rfl⟩;exact ⟨rfl,I⟩)
                         )
                    go_big_quiet_on
                    simp only [Act.put,aVW,aVJ,aVK])))
            refine aXR ?_;intro Ca bG;go_wp2_with fail
            go_ret;exact ⟨iq cB.out.symm,cN.trans ((Dh.trans (aYd bG Dh.size)).mono cN.size)⟩
          | false =>
            rw [ae] at Az;cases aw:c9 st 0 1000000 with
            | false =>
              rw [aw] at l5;have cB:Hid (W.oj=false):=ak.Zp (k:=k) (by rw [kq.out];exact bA) (by rw [k9.out,aw,aX0]);clear τ ae aw;refine To (by kernel_rfl) (by kernel_rfl) ?_;repeat (first
                | go_big_quiet_skip
                | (go_big_quiet_want
                   first
                   | (go_big_quiet_op;go_big_quiet_on)
                   | (apply Exists.intro
                      refine ⟨λ GH I=> ?_, ?_⟩
                      · first
                        | (obtain ⟨_,Zu,Zv,Zw,Zx,Zy,Zz,ZA,ZB⟩:=gb.out GH I
                           apply Sl
                           · (go_simp;rfl)
                           · rfl)
                        | (apply Sk
                           · (go_simp;rfl)
                           · rfl
                           · first
                             | (with_reducible refine (k7.out _ I).mono ?_;rintro e cS ⟨rfl,bF⟩;exact ⟨rfl,nX I bF⟩)
                             | (with_reducible refine (Az.out _ I).mono ?_;rintro e cS ⟨rfl,bF⟩;exact ⟨rfl,nX I bF⟩)
                             | (with_reducible refine (l5.out _).mono ?_;rintro e cS ⟨rfl,rfl⟩;exact ⟨rfl,I⟩)
                           )
                      go_big_quiet_on
                      simp only [Act.put,aVW,aVJ,aVK])))
              refine aXR ?_;intro Ca bG;go_wp2_with fail
              go_ret;exact ⟨iq cB.out.symm,cN.trans ((Dh.trans (aYd bG Dh.size)).mono cN.size)⟩
            | true =>
              rw [aw] at l5;have pz:Hid (∀ j,j<k+1→W.xV j=true):=by
                intro j aA;by_cases hb:j<k
                · exact ig.out j hb
                · obtain rfl:j=k:=by omega
                  rw [k9.out,τ,ae,aw];rfl
              clear τ ae aw;refine To (by kernel_rfl) (by kernel_rfl) ?_;repeat (first
                | go_big_quiet_skip
                | (go_big_quiet_want
                   first
                   | (go_big_quiet_op;go_big_quiet_on)
                   | (apply Exists.intro
                      refine ⟨λ GH I=> ?_, ?_⟩
                      · first
                        | (obtain ⟨_,Zu,Zv,Zw,Zx,Zy,Zz,ZA,ZB⟩:=gb.out GH I
                           apply Sl
                           · (go_simp;rfl)
                           · rfl)
                        | (apply Sk
                           · (go_simp;rfl)
                           · rfl
                           · first
                             | (with_reducible refine (k7.out _ I).mono ?_;rintro e cS ⟨rfl,bF⟩;exact ⟨rfl,nX I bF⟩)
                             | (with_reducible refine (Az.out _ I).mono ?_;rintro e cS ⟨rfl,bF⟩;exact ⟨rfl,nX I bF⟩)
                             | (with_reducible refine (l5.out _).mono ?_;rintro e cS ⟨rfl,rfl⟩;exact ⟨rfl,I⟩)
                           )
                      go_big_quiet_on
                      simp only [Act.put,aVW,aVJ,aVK])))
              refine aXR ?_;intro Ca bG;go_wp2_with fail
              go_roundw
              case rel=>exact ⟨k+1,by omega,by go_num,pz,Dh.trans (aYd bG Dh.size)⟩
              case measure=>simp [intOf];omega
      · have rk:Hid (W.oj=true):=ak.akG (by rw [AG.out,kq.out]) λ j aA=>ig.out j (by rw [kq.out] at aA;omega)
        clear ig;go_wp2_with fail
        go_ret;exact ⟨iq rk.out.symm,cN.trans (γ.mono cN.size)⟩
  · have rk:Hid (W.oj=false):=ak.aDp (by rw [AG.out,kq.out];exact hlen)
    have hd:((ns:Int) != (lI:Int))=true:=by simp;omega
    rw [rk.out];go_enter func65,ntmps65;rw [kq.out,AG.out];go_wp2_with fail
    go_ret;rw [pA.out];exact ⟨Z,cN⟩
end
section
theorem aB0 (a:ak.b_) (W:ak) (w:World) (b4:ak.Has w a W):
  Calls prog 66 #[.agg (ak.cells a W).toArray] w λ e w'=>e= .returned (.bool W.o')∧Below w.heap.size w w':=by
 obtain ⟨fe,gq,gu,fF,fk,fv,fQ,gB,fX,fK⟩:=a;show Calls _ _ #[.agg #[.int .i64 W.field.wide, .int .i64 W.field.high, .slice fe W.field.a8.length fv, .slice gq W.a7.length fQ, .slice gu W.bp.length gB, .slice fF W.bM.length fX, .slice fk W.aq.length fK, .int .i64 W.next, .int .i64 W.now]] _ _;have cN:=lA w (.cells (ak.cells ⟨fe,gq,gu,fF,fk,fv,fQ,gB,fX,fK⟩ W).toArray 28);have jD:=aTG (aR.new w (ak.cells ⟨fe,gq,gu,fF,fk,fv,fQ,gB,fX,fK⟩ W) 28 (0,0));have mA:=aTG (b4.keep cN);obtain ⟨w0,jE⟩:∃ w0,Hid (w.alloc (.cells (ak.cells ⟨fe,gq,gu,fF,fk,fv,fQ,gB,fX,fK⟩ W).toArray 28)=w0):=⟨_,aTG rfl⟩;rw [jE.out] at cN mA;have jD:Hid (aR w0 w.heap.size (ak.cells ⟨fe,gq,gu,fF,fk,fv,fQ,gB,fX,fK⟩ W) 28 (0,0)):=by rw [← jE.out];exact jD
 obtain ⟨nm,tG⟩:∃ n,Hid (W.bM.length=n):=⟨_,aTG rfl⟩;obtain ⟨M4,AF⟩:∃ n,Hid (W.field.a8.length=n):=⟨_,aTG rfl⟩;have hle:nm≤9223372036854775807:=by have:=b4.M.eZ;rw [tG.out] at this;exact this
 have pA:Hid (w.alloc (.cells #[.int .i64 W.field.wide, .int .i64 W.field.high, .slice fe M4 fv, .slice gq W.a7.length fQ, .slice gu W.bp.length gB, .slice fF nm fX, .slice fk W.aq.length fK, .int .i64 W.next, .int .i64 W.now] 28)=w0):=by rw [← jE.out,← tG.out,← AF.out];rfl
 obtain ⟨bo,c1,c2,c3,c4,c5,dQ,ed,eR⟩:=ak.tl jD.out;rw [AF.out] at c2;rw [tG.out] at c5;clear b4;by_cases hlen:nm=M4
 ·subst hlen;have Cx:Hid (∀ j,j<0→W.xW j=true):=aTG λ j aA=>absurd aA (by omega);go_enter func66,ntmps66;rw [AF.out,tG.out];go_wp2_with fail
  rw [pA.out];go_loopw [3,4,16] (λ _ _ ht wr=>∃ k:Nat,k≤nm∧ht= .int .i64 (k:Int)∧Hid (∀ j,j<k→W.xW j=true)∧Hid (wr=w0)) (λ _ _ ht _=>nm - (intOf ht).toNat)
  case atStart=>exact ⟨0,aUv _,rfl,Cx,rfl⟩
  case round =>
   clear Cx bo c1 c2 c3 c4 c5 dQ ed eR;obtain ⟨k,au,rfl,ig,Hb⟩:=hrel;obtain ⟨bo,c1,c2,c3,c4,c5,dQ,ed,eR⟩:=ak.tl (show aR wr w.heap.size (ak.cells ⟨fe,gq,gu,fF,fk,fv,fQ,gB,fX,fK⟩ W) 28 (0,0) by rw [Hb.out];exact jD.out);rw [AF.out] at c2;rw [tG.out] at c5;have ma:Below w.heap.size w wr:=by rw [Hb.out];exact cN
   by_cases bA:k<nm
   ·obtain ⟨p,hp⟩:=gH (l:=W.field.a8) (i:=k) (by rw [AF.out];exact bA);obtain ⟨m,hm⟩:=gH (l:=W.bM) (i:=k) (by rw [tG.out];exact bA);have Lh:bW.aG 8 wr fe fv W.field.a8:=by rw [Hb.out];exact mA.out.P
    have afP:bW.aG 8 wr fF fX W.bM:=by rw [Hb.out];exact mA.out.M
    obtain ⟨b,o,rfl,jJ⟩:=Gg Lh (by rw [AF.out];omega);have Nb:=jJ k p hp;obtain ⟨aLL,aQT,rfl,agt⟩:=Gg afP (by rw [tG.out];omega);have aPP:=agt k m hm;have eA:W.xW k=(c9 m 0 1000000 && (decide (m≤0) || p == 3)):=by
     unfold ak.xW;rw [aTB,hm,aTB,hp];rfl
    have l5:=aTG (λ (V:World)=>Tk m 0 1000000 V);have k9:=aTG eA;have pY:(k:Int)<(nm:Int):=by omega
    have oX:(0:Int)≤(k:Int):=by omega
    clear Lh afP jJ agt hp hm eA;cases τ:c9 m 0 1000000 with
    | false =>
     rw [τ] at l5;have cB:Hid (W.o'=false):=ak.aj4 (k:=k) (by rw [tG.out];exact bA) (by rw [k9.out,τ];rfl);clear τ;go_wp2_with fail
     refine (l5.out _).mono ?_;rintro e w' ⟨rfl,rfl⟩;go_wp2_with fail
     go_ret;exact ⟨iq cB.out.symm,ma⟩
    | true =>
     rw [τ] at l5;by_cases ae:m≤0
     ·have hd:decide (0<m)=false:=by simp;omega
      have pz:Hid (∀ j,j<k+1→W.xW j=true):=by
       intro j aA;by_cases hb:j<k
       ·exact ig.out j hb
       ·obtain rfl:j=k:=by omega
        rw [k9.out,τ,aT3 ae];rfl
      clear τ;go_wp2_with fail
      refine (l5.out _).mono ?_;rintro e w' ⟨rfl,rfl⟩;go_wp2_with fail
      go_roundw
      case rel=>exact ⟨k+1,by omega,by go_num,pz,Hb⟩
      case measure=>simp [intOf];omega
     ·have hd:decide (0<m)=true:=by simp;omega
      by_cases aw:p=3
      ·subst aw;have pz:Hid (∀ j,j<k+1→W.xW j=true):=by
        intro j aA;by_cases hb:j<k
        ·exact ig.out j hb
        ·obtain rfl:j=k:=by omega
         rw [k9.out,τ];simp
       clear τ ae;go_wp2_with fail
       refine (l5.out _).mono ?_;rintro e w' ⟨rfl,rfl⟩;go_wp2_with fail
       go_roundw
       case rel=>exact ⟨k+1,by omega,by go_num,pz,Hb⟩
       case measure=>simp [intOf];omega
      ·have cB:Hid (W.o'=false):=ak.aj4 (k:=k) (by rw [tG.out];exact bA) (by rw [k9.out,aT4 ae,beq_false_of_ne aw];simp);have Ii:(p == 3)=false:=by simpa using aw
       clear τ ae aw;go_wp2_with fail
       refine (l5.out _).mono ?_;rintro e w' ⟨rfl,rfl⟩;go_wp2_with fail
       go_ret;exact ⟨iq cB.out.symm,ma⟩
   ·have rk:Hid (W.o'=true):=ak.aj5 (by rw [tG.out,AF.out]) λ j aA=>ig.out j (by rw [tG.out] at aA;omega);clear ig;go_wp2_with fail
    go_ret;exact ⟨iq rk.out.symm,ma⟩
 ·have rk:Hid (W.o'=false):=ak.aB1 (by rw [tG.out,AF.out];exact hlen);have hd:((nm:Int) != (M4:Int))=true:=by simp;omega
  rw [rk.out];go_enter func66,ntmps66;rw [AF.out,tG.out];go_wp2_with fail
  go_ret;rw [pA.out];exact ⟨Z,cN⟩
end
end Go.Proofs.YtmeeljmapailnaaGreat
