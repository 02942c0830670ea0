import Derived.Test.YtmeeljmapailnaaGreatSms
set_option linter.unusedVariables false
set_option linter.unusedSimpArgs false
set_option maxRecDepth 100000
set_option maxHeartbeats 4000000
open Go.RowKit
namespace Go.Proofs.YtmeeljmapailnaaGreat
open Tryz
abbrev aXE:=@Nat.min_eq_right
section
open Go.Proofs.YtmeeljmapailnaaGreat.ey
inductive mG {α:Type} (κ:α→Int) (l:List α) (q n:Nat):Nat→Prop
 | zero:mG κ l q n 0
 | snoc {a:Nat}:mG κ l q n a→a+q≤n→dh κ (b6 l a (a+q))→mG κ l q n (a+q)
inductive kL {α:Type} (κ:α→Int) (l:List α) (q n:Nat):Nat→Prop
 | done {a:Nat}:n≤a→kL κ l q n a
 | step {a:Nat}:a<n→dh κ (b6 l a (min (a+q) n))→kL κ l q n (a+q)→kL κ l q n a
section
variable {α:Type} {κ:α→Int} {l m r:List α} {a b q n:Nat}
theorem mG.run (h:mG κ l q n a) (k:kL κ l q n a) (I:0<q):kL κ l q n 0:=by
 induction h with
 | zero=>exact k
 | snoc τ ae aw bK=>exact bK (.step (by omega) (by rw [aUJ ae];exact aw) k)
theorem mG.same (h:mG κ l q n a):∀ {m:List α},m.take a=l.take a→mG κ m q n a:=by
 induction h with
 | zero=>intro _ _;exact .zero
 | @snoc a τ ae aw bK =>
  intro m hm;have e:m.take a=l.take a:=by
   have:=aUF (List.take a) hm
   rwa [aWt,aWt,aUJ (by omega)] at this
  exact .snoc (bK e) ae (by rw [Z1 hm (aTK _)];exact aw)
theorem kL.same (h:kL κ l q n a) (hm:m.drop a=l.drop a):kL κ m q n a:=by
 induction h with
 | done h=>exact .done h
 | @step a τ ae aw bK =>
  refine .step τ (by rw [Jh hm (aTK _)];exact ae) (bK ?_);have:=aUF (List.drop q) hm
  rwa [aUZ,aUZ] at this
theorem mG.next (h:mG κ l q n a) (hr:hJ κ l a b m) (γ:b=a+q) (hn:b≤n) (aC:n=l.length):mG κ m q n b:=by
 subst γ;obtain ⟨τ,ae,aw⟩:=hr.parts (by omega) (by omega);exact .snoc (h.same τ) hn aw
theorem mG.last (h:mG κ l q n a) (hr:hJ κ l a n m) (ha:a≤n) (γ:n≤a+q) (aC:n=l.length) (I:0<q):kL κ m q n 0:=by
 obtain ⟨τ,ae,aw⟩:=hr.parts ha (by omega);refine (h.same τ).run ?_ I;rcases aUt a n with bA | n9
 ·exact .step bA (by rw [aXE γ];exact aw) (.done γ)
 ·exact .done n9
theorem kL.inv (h:kL κ l q n a) (ha:a<n):dh κ (b6 l a (min (a+q) n))∧kL κ l q n (a+q):=by
 cases h with
 | done h=>omega
 | step _ ae aw=>exact ⟨ae,aw⟩
theorem kL.two {c:Nat} (h:kL κ l q n a) (γ:b=a+q) (hc:c=b+q) (hn:c≤n) (I:0<q):dh κ (b6 l a b)∧dh κ (b6 l b c)∧kL κ l q n c:=by
 subst γ;subst hc;obtain ⟨τ,ae⟩:=h.inv (by omega);obtain ⟨aw,aU⟩:=ae.inv (by omega);rw [aUJ (by omega)] at τ aw;exact ⟨τ,aw,aU⟩
theorem kL.aGm (h:kL κ l q n a) (γ:b=a+q) (Di:b<n) (hn:n≤b+q) (I:0<q):dh κ (b6 l a b)∧dh κ (b6 l b n):=by
 subst γ;obtain ⟨τ,ae⟩:=h.inv (by omega);obtain ⟨aw,_⟩:=ae.inv (by omega);rw [aUJ (by omega)] at τ;rw [aXE (by omega)] at aw;exact ⟨τ,aw⟩
theorem kL.eM (h:kL κ l q n a) (hn:n≤a+q) (ha:a≤n) (aC:n=l.length):hJ κ l a n l:=by
 refine .bg ha (by omega) ?_;rcases aUt a n with bA | n9
 ·have:=(h.inv bA).1
  rwa [aXE hn] at this
 ·rw [Jg n9];exact List.Pairwise.nil
theorem kL.next (h:kL κ l q n b) (hr:hJ κ l a b m) (τ:a≤b) (ae:b≤l.length):kL κ m q n b:=h.same (hr.parts τ ae).2.1
theorem Nz (h:m.length=n) (hr:hJ κ m a b r) (τ:a≤b) (ae:b≤n):r.length=n:=by rw [hr.len τ (by omega),h]
end
theorem mG.ajw {α:Type} {κ:α→Int} {l m:List α} {a q q' n hT:Nat} (h:mG κ l q n a) (hr:hJ κ l a hT m) (hn:hT=n) (ha:a≤n) (γ:n≤a+q) (aC:n=l.length) (I:0<q∧q'=q):kL κ m q' n 0:=by
 obtain ⟨I,rfl⟩:=I;subst hn;exact h.last hr ha γ aC I
theorem aFI (b1 A:Option Addr) (bo c n aE:Nat) (dt eb l:List bI) (w:World) (aX:gp bI.rep 71 72 w aE b1 bo dt eb A c (l)) (hn:l.length=n):
  Calls prog 36 #[.slice A n c,J (n:Int), .func (.func 17) #[] #[]] w (λ e w'=>∃ m:List bI,e= .returned (.tuple #[])∧(gG fR l m∧m.length=n)∧gp bI.rep 71 72 w' aE b1 bo dt eb A c (m)∧Mod (aa.aj b1) w w'):=by
 have LP:=aX.has.eZ;have Q8:=aX.has.2.2.1;refine b' (n:=63) func36 Z Z Z ?_;refine ah<|va Z<|ag<|ah<|vm Z<|va Z<|va Z<|ag<|ay<|bu<| ?_;refine dx (λ bZ bS aL=>∃ dy:List bI,∃ a:Int,∃ b:Int,bS= [(0, .slice A n c),(1,J (n:Int)),(2, .func (.func 17) #[] #[]),(6,J 20),(7,J a),(8,J b)]∧bZ=((n:Int) - a).toNat∧Mod (aa.aj b1) w aL∧gp bI.rep 71 72 aL aE b1 bo dt eb A c (dy)∧(gG fR l dy)∧(dy.length=n)∧(mG fR dy 20 n a.toNat)∧(0≤a)∧(b=a+20)∧(a≤(n:Int))) _ _ ⟨l,0,20,Z,Z,(Mod.bg (aa.aj b1) w),aX,gG.bg l,hn,mG.zero,by omega,by omega,by omega⟩ (hB Z) ?_;rintro r3 rf iH ⟨dy,a,b,rfl,rfl,b9,oG,hS,Xb,cq,X6,X7,ay5⟩;have FF:=Xb;refine ay<|ah<|vm Z<|vm Z<|Φ (ble Z Z)<|ag<| ?_;refine CZ Z (λ ud=> ?_) (λ ud=> ?_)
 ·refine bl<|bu<|ah<|vm Z<|vm Z<|vm Z<|vm Z<|ca aeR Z Z ((ahR b1 A bo c n aE dt eb dy a b _ oG (by first | omega | (simp only [aTH];omega)) (by omega) (by omega) (by omega)).mono ?_);rintro e NJ ⟨p6,rfl,ZF,apm,F8⟩;refine ⟨_,Z, ?_⟩;have tB:=b9.md F8 (λ q I=> .inl I);refine ag<|ah<|vm Z<|va Z<|ag<|rg<|vm Z<|vm Z<|Φ (bad Z Z (bf (by omega)))<|va Z<|nl<|bU<| ?_;exact cD _ _ ⟨p6,b,b+20,Z,Z,tB,apm,hS.nL (ZF.Ny (by omega)),Nz Xb ZF (by omega) (by omega),cq.next ZF (by omega) (by omega) (by omega),by omega,by omega,by omega⟩ (by omega) (.cons Z (.cons Z (.cons Z (.cons Z (.cons (bH Z) (.cons (bH Z) .nil))))))
 ·refine cV<|cU<|c'<|cT<|aP<|ah<|vm Z<|vm Z<|vm Z<|vm Z<|ca aeR Z Z ((ahR b1 A bo c n aE dt eb dy a (n:Int) _ oG (by first | omega | (simp only [aTH];omega)) (by omega) (by omega) (by omega)).mono ?_);rintro e B5 ⟨vO,rfl,ZC,aph,DJ⟩;refine ⟨_,Z, ?_⟩;have m_:=b9.md DJ (λ q I=> .inl I);refine ag<|bu<| ?_;refine dx (λ bZ bS aL=>∃ FZ:List bI,∃ cu:Int,bS= [(0, .slice A n c),(1,J (n:Int)),(2, .func (.func 17) #[] #[]),(6,J cu)]∧bZ=((n:Int) - cu).toNat∧Mod (aa.aj b1) w aL∧gp bI.rep 71 72 aL aE b1 bo dt eb A c (FZ)∧(gG fR l FZ)∧(FZ.length=n)∧(kL fR FZ cu.toNat n 0)∧(20≤cu)) _ _ ⟨vO,20,Z,Z,m_,aph,hS.nL (ZC.Ny (by omega)),Nz Xb ZC (by omega) (by omega),cq.last ZC (by omega) (by omega) (by omega) (by omega),by omega⟩ (hB Z) ?_;rintro BG abP Gw ⟨FZ,cu,rfl,rfl,na,acg,H7,af5,awL,aNV⟩;refine ay<|ah<|vm Z<|vm Z<|Φ (blt Z Z)<|ag<| ?_;refine df Z (λ aw8=> ?_) (λ aw8=> ?_)
  ·refine bl<|bu<|ah<|vm Z<|Φ (w_ Z Z (bf (by omega)))<|va Z<|va Z<|ag<|ay<|bu<| ?_;refine dx (λ bZ bS aL=>∃ BF:List bI,∃ a:Int,∃ ck:Int,bS= [(0, .slice A n c),(1,J (n:Int)),(2, .func (.func 17) #[] #[]),(6,J cu),(7,J a),(8,J ck),(28,J cu),(29,J (n:Int)),(30, .bool (decide (cu<(n:Int)))),(31,J cu),(32,J (2 * cu))]∧bZ=((n:Int) - a).toNat∧Mod (aa.aj b1) w aL∧gp bI.rep 71 72 aL aE b1 bo dt eb A c (BF)∧(gG fR l BF)∧(BF.length=n)∧(mG fR BF (2 * cu).toNat n a.toNat)∧(kL fR BF cu.toNat n a.toNat)∧(0≤a)∧(ck=a+2 * cu)∧(a≤(n:Int))) _ _ ⟨FZ,0,2 * cu,Z,Z,na,acg,H7,af5,mG.zero,awL,by omega,by omega,by omega⟩ (.cons Z (.cons Z (.cons Z (.cons Z (.cons Z (.cons (bH Z) (hB Z))))))) ?_;rintro BI aJT q2 ⟨BF,a,ck,rfl,rfl,iM,Ur,Xa,QL,W8,Lm,aNW,aN0,aN3⟩;have aNw:=QL;refine ay<|ah<|vm Z<|vm Z<|Φ (ble Z Z)<|ag<| ?_;refine CZ Z (λ Xi=> ?_) (λ Xi=> ?_)
   ·obtain ⟨s1,s2,s8⟩:=Lm.two (b:=(a+cu).toNat) (c:=ck.toNat) (by omega) (by omega) (by omega) (by omega);refine bl<|bu<|ah<|vm Z<|vm Z<|vm Z<|vm Z<|Φ (bad Z Z (bf (by omega)))<|vm Z<|vm Z<|ca Qc Z Z ((al2 b1 A bo c n aE dt eb (n+1) BF a (a+cu) ck _ (by omega) Ur (by omega) (by omega) (by omega) (by omega) (by omega) (Jj s1 (by omega) (by omega)) (Jj s2 (by omega) (by omega))).mono ?_);rintro e yk ⟨aBq,rfl,Sm,apk,vT⟩;refine ⟨_,Z, ?_⟩;have lu:=iM.md vT (λ q I=> .inl I);refine ag<|ah<|vm Z<|va Z<|ag<|rg<|vm Z<|vm Z<|Φ (w_ Z Z (bf (by omega)))<|Φ (bad Z Z (bf (by omega)))<|va Z<|nl<|bU<| ?_;exact cD _ _ ⟨aBq,ck,ck+(2 * cu),Z,Z,lu,apk,Xa.nL (Sm.Ny (by omega)),Nz QL Sm (by omega) (by omega),W8.next Sm (by omega) (by omega) (by omega),s8.next Sm (by omega) (by omega),by omega,by omega,by omega⟩ (by omega) (.cons Z (.cons Z (.cons Z (.cons Z (.cons (bH Z) (.cons (bH Z) (hB Z)))))))
   ·refine cV<|cU<|c'<|cT<|aP<| ?_;refine SC (λ bS aL=>∃ zR:List bI,bS= [(0, .slice A n c),(1,J (n:Int)),(2, .func (.func 17) #[] #[]),(6,J cu),(7,J a),(8,J ck),(28,J cu),(29,J (n:Int)),(30, .bool (decide (cu<(n:Int)))),(31,J cu),(32,J (2 * cu)),(33,J ck),(34,J (n:Int)),(35, .bool (decide (ck≤(n:Int))))]∧Mod (aa.aj b1) w aL∧gp bI.rep 71 72 aL aE b1 bo dt eb A c (zR)∧(gG fR l zR)∧(zR.length=n)∧(kL fR zR (cu * 2).toNat n 0)) ?_ ?_
    ·refine ah<|vm Z<|vm Z<|Φ (bad Z Z (bf (by omega)))<|va Z<|ag<|ah<|vm Z<|vm Z<|Φ (blt Z Z)<|ag<| ?_;refine df Z (λ nv=> ?_) (λ nv=> ?_)
     ·obtain ⟨s1,s2⟩:=Lm.aGm (b:=(a+cu).toNat) (by omega) (by omega) (by omega) (by omega);refine rg<|vm Z<|vm Z<|vm Z<|vm Z<|vm Z<|ca Qc Z Z ((al2 b1 A bo c n aE dt eb (n+1) BF a (a+cu) (n:Int) _ (by omega) Ur (by omega) (by omega) (by omega) (by omega) (by omega) (Jj s1 (by omega) (by omega)) (Jj s2 (by omega) (by omega))).mono ?_);rintro e sk ⟨aBr,rfl,ZD,apl,xQ⟩;refine ⟨_,Z, ?_⟩;have jQ:=iM.md xQ (λ q I=> .inl I);refine nl<| ?_;exact DS _ ⟨aBr,Z,jQ,apl,Xa.nL (hJ.Ny ZD (by omega)),Nz QL ZD (by omega) (by omega),mG.ajw W8 ZD (by omega) (by omega) (by omega) (by omega) (by omega)⟩ (hB Z)
     ·refine ei<| ?_;exact DS _ ⟨BF,Z,iM,Ur,Xa.nL (hJ.Ny (Lm.eM (by omega) (by omega) (by omega)) (by omega)),Nz QL (Lm.eM (by omega) (by omega) (by omega)) (by omega) (by omega),mG.ajw W8 (Lm.eM (by omega) (by omega) (by omega)) (by omega) (by omega) (by omega) (by omega) (by omega)⟩ (hB Z)
    rintro aJW tj ⟨zR,rfl,kn,apq,awM,awN,QJ⟩;refine rg<|vm Z<|Φ (w_ Z Z (bf (by omega)))<|va Z<|nl<|bU<| ?_;exact cD _ _ ⟨zR,cu * 2,Z,Z,kn,apq,awM,awN,QJ,by omega⟩ (by omega) (.cons Z (.cons Z (.cons Z (.cons (bH Z) .nil))))
  ·refine cV<|cU<|c'<|cT<|ne<|aV .nil<| ?_;exact ⟨_,Z,⟨H7,af5⟩,acg,na⟩
theorem aFH (b1 A:Option Addr) (bo c n aE:Nat) (dt eb l:List bI) (w:World) (aX:gp bI.rep 71 72 w aE b1 bo dt eb A c (l)) (hn:l.length=n):
  Calls prog 16 #[.slice A n c, .func (.func 17) #[] #[]] w (λ e w'=>∃ m:List bI,e= .returned (.tuple #[])∧(gG fR l m∧m.length=n)∧gp bI.rep 71 72 w' aE b1 bo dt eb A c (m)∧Mod (aa.aj b1) w w'):=by
 refine b' (n:=9) func16 Z Z Z ?_;refine rg<|vm Z<|vm Z<|Φ (cl underlying29 Z)<|vm Z<|ca auP Z Z ((aFI b1 A bo c n aE dt eb l _ aX (by omega)).mono ?_);rintro e aaD ⟨dy,rfl,r1,fE,DL⟩;refine ⟨_,Z, ?_⟩;have GV:=(Mod.bg (aa.aj b1) w).md DL (λ q I=> .inl I);refine nl<|ne<|aV .nil<| ?_;exact ⟨_,Z,r1,fE,GV⟩
end
section
open Go.Proofs.YtmeeljmapailnaaGreat.ey
theorem adt (A:Option Addr) (c:Nat) (l:List bI) (w:World) (h:bI.rep.aG 72 w A c l):
  Calls prog 14 #[.slice A l.length c] w λ e w'=>∃ bL bX,e= .returned (.slice bL l.length bX)∧bI.rep.aH 71 72 w' w.heap.size (aa.aj bL) bL bX l∧(bL=none↔A=none)∧Below w.heap.size w w':=by
 obtain ⟨i0,ar,oa,mf,o1⟩:=aV0 bI.info;have Nh:∀ (w:World) (a:Option Addr) (n c hT bX:Nat),(binOp .eql 29 (.slice a n c) (.slice none hT bX)).run prog w= .ok (.bool a.isNone) w:=λ w a n c hT bX=>aVv w _ _ a n c hT bX underlying29;cases A with
 | none =>
  obtain rfl:c=0:=h.2.2.2.1 rfl;obtain rfl:l= []:=aT7 (by have:=h.1;omega);go_enter func14,ntmps14;go_wp2_with fail
  go_ret;exact ⟨none,0,Z,aa.aH.nil _,by simp,aUb _ _⟩
 | some a =>
  have cN:Below w.heap.size w (w.alloc (.cells #[] 71)):=(aUb _ w).alloc (aTK _) _;obtain ⟨n,eJ⟩:∃ n,Hid (l.length=n):=⟨_,aTG rfl⟩;obtain ⟨τ,ae,aw,aU,ess,bz,cb⟩:=h.keep cN;have uR:=aTG bz;have mS:∀ u∈ess.flatten,u.oneCell'=true:=by
   intro u hu;obtain ⟨y,aF,hu⟩:=aUN.1 hu;obtain ⟨a,ha⟩:=bz.left y aF;exact bI.rep.one ha u hu
  have n':∀ (j:Nat) u,ess.flatten[j]? =some u→bI.rep.raw (j % bI.rep.size) u:=λ j u hu=>Fg bz (by decide) hu;rw [eJ.out] at τ aw cb;have dr:=aTG cb;have i_:=aTG (Own.empty (e:= 71) (size:=bI.rep.size) (G:=bI.rep.raw) w (aTK w.heap.size));clear h aU bz cb;rw [eJ.out];go_enter func14,ntmps14;go_wp2_with (at_builtin;refine GG _ rfl _ _ 29 rfl w.heap.size 71 i0 bI.zero bI.rep.size 72 underlying29 ar oa mf o1 rfl (by decide) bI.rep.raw bI.ix _ _ _ rfl i_.out (some a) n c ess.flatten rfl dr.out mS n' ?qc4 ?qc5 ?qc6 ?_)
  case qc4=>unfold maxLen;omega
  case qc5=>omega
  case qc6=>simp
  intro v' aS eT iU lF fA;have c8:=cN.grown iU (by simp) (by intro k au;simp [Value.ownBlock] at au;omega);obtain ⟨cw,c1,rfl,hle,_,_,_,kv⟩:=eT.shape;have jU:cw≠none:=by
   intro h;subst h;exact lF (kv Z)
  have aX:Hid (bI.rep.aH 71 72 aS w.heap.size (aa.aj cw) cw c1 l):=aTG (aa.aH.zS bI.plain uR.out (by rw [eJ.out];exact aw) (by rw [eJ.out];simpa using eT));have rh:=aTG jU;clear iU lF fA eT jU kv mS n';go_wp2_with fail
  go_ret;exact ⟨cw,c1,Z,aX.out,⟨λ h=>absurd h rh.out,λ h=>by cases h⟩,c8⟩
theorem azX (dJ:FuncId) (cs:List Value) (p:bI→Bool) (A:Option Addr) (c:Nat) (l:List bI) (w:World) (aC:bI.rep.aG 72 w A c l) (jV:Enters prog dJ) (fr:∀ x∈l,∀ w',Ext w w'→Calls prog dJ (([.agg #[J x.kind,J x.o.by_,J x.o.kind,J x.o.aW,J x.o.spot.x,J x.o.spot.y,J x.o.what,J x.by_,J x.sat]]:List Value)++cs).toArray w' λ e jM=>e= .returned (.bool (p x))∧Ext w' jM):
  Calls prog 35 #[.slice A l.length c, .func (.func dJ) #[] cs.toArray] w (λ e w'=>e= .returned (J (fP p l))∧Ext w w'):=by
 have rS:=aC.eZ;refine b' (n:=19) func35 Z Z Z ?_;refine ah<|va Z<|ag<|ay<|ah<|vm Z<|Φ (cl underlying29 Z)<|vm Z<|ag<|bu<| ?_;refine dx (λ bZ bS aL=>∃ k:Nat,bS= [(0, .slice A l.length c),(1, .func (.func dJ) #[] cs.toArray),(7,J (l.length:Int)),(8,J (k:Int))]∧bZ=l.length - k∧Ext w aL∧(k≤l.length)∧(∀ i,i<k→p (l.getD i default)=false)) _ _ ⟨0,Z,Z,(Ext.bg w),by omega,λ i ar=>by omega⟩ (.cons Z (.cons Z (.cons Z (.cons (bH Z) .nil)))) ?_;rintro DL G5 cK ⟨k,rfl,rfl,ba,au,aM⟩;refine ah<|Φ (blt Z Z)<|ag<|ay<| ?_;refine df Z (λ lg=> ?_) (λ lg=> ?_)
 ·refine bl<|ay<|bu<|ah<|vm Z<|va Z<|ag<|ah<|vm Z<|vm Z<|vm Z<|Φ (bT k underlying29 dR Z Z ((aC.keep ba).bs (aO k)) Z (by omega))<|Φ (ao Z (aa.aG.er nw ((aC.keep ba).cg (aO k)) (cA (l:=l) (u:=default) (by omega)) l' dR))<|C2 jV Z Z Z ((fr (l.getD k default) (gP (by omega)) _ ba).mono ?_);rintro e GB ⟨rfl,Ce⟩;refine ⟨_,Z, ?_⟩;have lv:=ab ba Ce;refine ag<| ?_;refine dn Z (λ kt=> ?_) (λ kt=> ?_)
  ·refine ah<|vm Z<|va Z<|ag<|rt<|dV<|bP<|kB<|dV<|bP<|aV (.tmp Z .nil)<| ?_;exact ⟨by have e:=Ml (p:=p) (l:=l) (d:=default) (k:=k) (by omega) kt aM;rw [e];rfl,lv⟩
  ·refine ei<|bU<|aP<|rg<|Φ (bad Z Z (bf (by omega)))<|vm Z<|nl<| ?_;exact cD _ _ ⟨k+1,Z,Z,lv,by omega,o4 aM kt⟩ (by omega) (.cons Z (.cons Z (.cons Z (.cons (bH Z) .nil))))
 ·refine cV<|cU<|c'<|cT<|aP<|ah<|va Z<|ag<|rt<|aV (.tmp Z .nil)<| ?_;exact ⟨by have e:=Mk (p:=p) (l:=l) (d:=default) (λ i ar=>aM i (by omega));rw [e];rfl,ba⟩
theorem as2 (w0:World) (dJ:FuncId) (cs:List Value) (p:bI→Bool) (A:Option Addr) (c:Nat) (l:List bI) (w:World) (jg:Ext w0 w) (pP:bI.rep.aH 71 72 w w0.heap.size (aa.aj A) A c l) (jV:Enters prog dJ) (fr:∀ x∈l,∀ w',Ext w0 w'→Calls prog dJ (([.agg #[J x.kind,J x.o.by_,J x.o.kind,J x.o.aW,J x.o.spot.x,J x.o.spot.y,J x.o.what,J x.by_,J x.sat]]:List Value)++cs).toArray w' λ e jM=>e= .returned (.bool (p x))∧Ext w' jM):
  Calls prog 13 #[.slice A l.length c, .func (.func dJ) #[] cs.toArray] w (λ e w'=>e= .returned (.slice A (l.filter λ x=> !p x).length c)∧bI.rep.aH 71 72 w' w0.heap.size (aa.aj A) A c (l.filter λ x=> !p x)∧Mod (aa.aj A) w w'):=by
 have vH:=pP.has;have rS:=vH.eZ;have ayt:=vH.1;have ajh:=dM pP.lt;refine b' (n:=42) func13 Z Z Z ?_;refine ah<|va Z<|ag<|ah<|vm Z<|vm Z<|ca auQ Z Z ((azX dJ cs p _ _ l _ pP.has jV (λ x hx w' h=>fr x hx w' (ab (Ext.mod jg (Mod.bg (aa.aj A) w) ajh) h))).mono ?_);rintro e cK ⟨rfl,fw⟩;refine ⟨_,Z, ?_⟩;have ba:=(Mod.bg (aa.aj A) w).trans (Mod.bt fw);refine va Z<|ag<|ay<|ah<|vm Z<|Φ (beq Z Z)<|ag<| ?_;refine jo Z (λ qM=> ?_) (λ qM=> ?_)
 ·refine ah<|vm Z<|va Z<|ag<|rt<|bP<|aV (.tmp Z .nil)<| ?_;have pP:=pP.later fw;have aY:=az5 (by simpa using qM);exact ⟨by rw [aY];rfl,by rw [aY];exact pP,ba⟩
 ·obtain ⟨rW,oX,e0,Br⟩:=az3 qM;refine bl<|ay<|ah<|vm Z<|Φ (bad Z Z (bf (by omega)))<|va Z<|ag<|bu<| ?_;have pP:=pP.later fw;refine dx (λ bZ bS aL=>∃ L:List bI,∃ i:Nat,∃ j:Nat,bS= [(0, .slice A l.length c),(1, .func (.func dJ) #[] cs.toArray),(4, .slice none 0 0),(5,J (i:Int)),(6,J (j:Int))]∧bZ=l.length - j∧Mod (aa.aj A) w aL∧bI.rep.aH 71 72 aL w0.heap.size (aa.aj A) A c (L)∧(L.length=l.length)∧(i<j)∧(j≤l.length)∧(L.take i=(l.take j).filter λ x=> !p x)∧(L.drop j=l.drop j)) _ _ ⟨l,rW,rW+1,Z,Z,ba,pP,Z,by omega,by omega,Br,rfl⟩ (.cons Z (.cons Z (.cons Z (.cons (bH Z) (.cons (bH Z) .nil))))) ?_;rintro aBE aon amL ⟨L,i,j,rfl,rfl,yy,fE,du,ar,aA,L3,Yi⟩;have:=yy.size;have SZ:=b7 fE.lt;refine ay<|ah<|vm Z<|vm Z<|Φ (cl underlying29 Z)<|Φ (blt Z Z)<|ag<| ?_;refine df Z (λ eL=> ?_) (λ eL=> ?_)
  ·refine bl<|ay<|bu<|ah<|vm Z<|vm Z<|Φ (bT j underlying29 dR Z Z (fE.has.bs (aO j)) Z (by omega))<|Φ (ao Z (aa.aG.er nw (fE.has.cg (aO j)) (aFZ (d:=default) (by omega) (by omega) Yi) l' dR))<|al Z aeQ Z Z λ td wW eo IH g_=> ?_;have jA:=yy.trans (Mod.bt eo);refine st (new:= [J ((l.getD j default).kind),J ((l.getD j default).o.by_),J ((l.getD j default).o.kind),J ((l.getD j default).o.aW),J ((l.getD j default).o.spot.x),J ((l.getD j default).o.spot.y),J ((l.getD j default).o.what),J ((l.getD j default).by_),J ((l.getD j default).sat)]) Z Z g_ Z dR Z Z Z λ ow o6 g_=> ?_;have fD:=jA.md o6 (λ q I=> .inr (by have:=aTz.1 I;omega));refine ag<|ah<|vm Z<|Φ (ao Z (g_.all l' dR))<|C2 jV Z Z Z ((fr (l.getD j default) (gP (by omega)) _ (Ext.mod jg fD ajh)).mono ?_);rintro e nN ⟨rfl,fo⟩;refine ⟨_,Z, ?_⟩;have fp:=fD.trans (Mod.bt fo);refine Φ (ek Z)<|ag<| ?_;refine dn Z (λ oV=> ?_) (λ oV=> ?_)
   ·refine ah<|vm Z<|vm Z<| ?_;have g_:=g_.later fo;refine Φ (ao Z (g_.all l' dR))<| ?_;have fE:=((fE.later eo).mod o6 (b0 SZ)).later fo;refine Φ (bT i underlying29 dR Z Z (fE.has.bs (aO i)) Z (by omega))<|Gn (q':=l.getD j default) (i:=i) fE aa.dj (by omega) Z Z Z Z (λ _=>⟨Z,(bI.k_ vH _ (gP (by omega)))⟩) dR λ Ag jh sH=> ?_;have oB:=fp.md jh (λ q I=> .inl I);refine ag<|rg<|vm Z<|Φ (bad Z Z (bf (by omega)))<|va Z<|nl<|bU<|aP<|rg<|vm Z<|Φ (bad Z Z (bf (by omega)))<|va Z<|nl<| ?_;exact cD _ _ ⟨(L).set i (l.getD j default),i+1,j+1,Z,Z,oB,sH,by rw [aTH];exact du,by omega,by omega,as4 du (by omega) (by omega) L3 oV,as5 (by omega) Yi⟩ (by omega) (.cons Z (.cons Z (.cons Z (.cons (bH Z) (.cons (bH Z) .nil)))))
   ·refine ei<|bU<|aP<|rg<|vm Z<|Φ (bad Z Z (bf (by omega)))<|va Z<|nl<| ?_;have fE:=((fE.later eo).mod o6 (b0 SZ)).later fo;exact cD _ _ ⟨L,i,j+1,Z,Z,fp,fE,du,by omega,by omega,as3 (by omega) L3 oV,aeu Yi⟩ (by omega) (.cons Z (.cons Z (.cons Z (.cons Z (.cons (bH Z) .nil)))))
  ·refine cV<|cU<|c'<|cT<|aP<|ah<|vm Z<|vm Z<|Φ (ZX i underlying29 dR Z Z Z (by omega))<|vl (k:=i) (q:=l.length - i) (z:=bI.zero) (m:=9) underlying29 bI.info Z (by decide) Z (by decide) bI.ix (show bI.rep.aH _ _ _ _ _ _ _ L from fE) aa.dj (by omega) (by omega) (by omega) (pP.block (by omega)) Z λ th h_ Kv=> ?_;have iY:=yy.md h_ (λ q I=> .inl I);refine ag<|ah<|vm Z<|vm Z<|Φ (ZW i i underlying29 dR Z Z Z (by omega) Z)<|va Z<|ag<|rt<|aV (.tmp Z .nil)<| ?_;obtain rfl:j=l.length:=by omega
   rw [aUo] at L3;have ayA:(l.filter λ x=> !p x).length=i:=by rw [← L3,aTD];omega
   exact ⟨by rw [ayA];rfl,by rw [← L3];exact Kv,iY⟩
theorem as0 (o:bI) (w:World):
  Calls prog 15 #[.agg #[J o.kind,J o.o.by_,J o.o.kind,J o.o.aW,J o.o.spot.x,J o.o.spot.y,J o.o.what,J o.by_,J o.sat]] w (λ e w'=>e= .returned (.bool ((o.kind != 1) && (o.kind != 2)))∧Ext w w'):=by
 refine b' (n:=11) func15 Z Z Z ?_;refine ah<|ck Z Z Z Z λ cK bR bq dU ai=> ?_;have ba:=ab (Ext.bg w) bq;refine va Z<|ag<|ah<|Φ (av K4 Z)<|Φ (ao Z (ai.one a6 Z))<|Φ (bne Z Z)<|vm Z<|bh Z (λ hc=>av K4 Z)<|bh Z (λ hc=>ao (gt hc Z) (ai.one a6 Z))<|bh Z (λ hc=>bne (gt hc Z) Z)<|Φ (dv Z Z Z Z)<|va Z<|ag<|rt<|aV (.tmp Z .nil)<| ?_;exact ⟨Z,ba⟩
theorem as1 (w0:World) (A:Option Addr) (c:Nat) (l:List bI) (w:World) (jg:Ext w0 w) (pP:bI.rep.aH 71 72 w w0.heap.size (aa.aj A) A c l):
  Calls prog 13 #[.slice A l.length c, .func (.func 15) #[] #[]] w (λ e w'=>∃ m:List bI,m.length≤l.length∧e= .returned (.slice A m.length c)∧bI.rep.aH 71 72 w' w0.heap.size (aa.aj A) A c m∧Mod (aa.aj A) w w'):=
 (as2 w0 15 [] (λ o=>(o.kind != 1) && (o.kind != 2)) A c l w jg pP (b3 func15 (by kernel_rfl) (by kernel_rfl)) (λ x _ w' _=>as0 x w')).mono λ e w' h=>⟨_,aVS _ _,h⟩
end
section
open Go.Proofs.YtmeeljmapailnaaGreat.ey
theorem avt (dJ:FuncId) (cs:List Value) (A l4:Option Addr) (c d:Nat) (T ni:List hh) (L y1:List (List aN)) (w:World) (cr:m2.aG 24 w A c T) (du:ng w T L) (zt:m2.aG 24 w l4 d ni) (H4:ng w ni y1) (jV:Enters prog dJ) (fr:∀ (A B:Option Addr) (c d:Nat) (l m:List aN) w',aN.rep.aG 48 w' A c l→aN.rep.aG 48 w' B d m→Calls prog dJ (([.slice A l.length c, .slice B m.length d]:List Value)++cs).toArray w' λ e jM=>e= .returned (.bool (decide (l=m)))∧Ext w' jM):
  Calls prog 70 #[.slice A T.length c, .slice l4 ni.length d, .func (.func dJ) #[] cs.toArray] w (λ e w'=>e= .returned (.bool (decide (L=y1)))∧Ext w w'):=by
 have aNn:=zt.eZ;have ayr:=du.1;have aNl:=H4.1;refine b' (n:=32) func70 Z Z Z ?_;refine ah<|va Z<|ag<|ay<|ah<|vm Z<|Φ (cl underlying30 Z)<|vm Z<|Φ (cl underlying30 Z)<|Φ (bne Z Z)<|ag<| ?_;refine ee Z (λ gA=> ?_) (λ gA=> ?_)
 ·have eY:L≠y1:=λ bc=>by have:=du.1;have:=H4.1;have:=aUF List.length bc;omega
  refine ah<|va Z<|ag<|rt<|bP<|aV (.tmp Z .nil)<| ?_;exact ⟨by rw [aT4 eY];rfl,(Ext.bg w)⟩
 ·refine bl<|ay<|ah<|vm Z<|Φ (cl underlying30 Z)<|vm Z<|ag<|bu<| ?_;refine dx (λ bZ bS aL=>∃ k:Nat,bS= [(1, .slice l4 ni.length d),(2, .func (.func dJ) #[] cs.toArray),(15, .slice A T.length c),(16,J (T.length:Int)),(17,J (k:Int))]∧bZ=T.length - k∧Ext w aL∧(k≤T.length)∧(L.take k=y1.take k)) _ _ ⟨0,Z,Z,(Ext.bg w),by omega,rfl⟩ (.cons Z (.cons Z (.cons Z (.cons Z (.cons (bH Z) .nil))))) ?_;rintro r3 rf iH ⟨k,rfl,rfl,b9,au,aM⟩;refine ah<|Φ (blt Z Z)<|ag<|ay<| ?_;refine df Z (λ jr=> ?_) (λ jr=> ?_)
  ·obtain ⟨eF,dC,hZ,gw,sS,hx⟩:=du.at_ (k:=k) (by omega);obtain ⟨uO,oO,YV,H_,afV,aF⟩:=H4.at_ (k:=k) (by omega);refine bl<|ay<|bu<|ah<|vm Z<|Φ (bT k underlying30 zh Z Z ((cr.keep b9).bs (aO k)) Z (by omega))<|Φ (v:= .slice eF hZ.length dC) (ao Z (aa.aG.eM LH ((cr.keep b9).cg (aO k)) gw Z mM))<|va Z<|va Z<|ag<|ah<|vm Z<|vm Z<|Φ (bT k underlying30 zh Z Z ((zt.keep b9).bs (aO k)) Z (by omega))<|Φ (v:= .slice uO YV.length oO) (ao Z (aa.aG.eM LH ((zt.keep b9).cg (aO k)) H_ Z mM))<|va Z<|ag<|ah<| ?_;refine vm Z<|vm Z<|vm Z<|C2 jV Z Z Z ((fr _ _ _ _ hZ YV _ (hx.keep b9) (aF.keep b9)).mono ?_);rintro e wq ⟨rfl,mq⟩;refine ⟨_,Z, ?_⟩;have iZ:=ab b9 mq;refine Φ (ek Z)<|ag<| ?_;refine dn Z (λ eL=> ?_) (λ eL=> ?_)
   ·have eY:L≠y1:=λ bc=>by rw [bc,afV] at sS;exact absurd (aTA sS).symm (by simpa using eL)
    refine ah<|va Z<|ag<|rt<|dV<|bP<|kB<|dV<|bP<|aV (.tmp Z .nil)<| ?_;exact ⟨by rw [aT4 eY];rfl,iZ⟩
   ·have azN:hZ=YV:=by simpa using eL
    refine ei<|bU<|aP<|rg<|Φ (bad Z Z (bf (by omega)))<|vm Z<|nl<| ?_;exact cD _ _ ⟨k+1,Z,Z,iZ,by omega,by rw [z1 sS,z1 afV,aM,azN]⟩ (by omega) (.cons Z (.cons Z (.cons Z (.cons Z (.cons (bH Z) .nil)))))
  ·have axV:L=y1:=by have τ:=du.1;have ae:=H4.1;rwa [aT0 (by omega),aT0 (by omega)] at aM
   refine cV<|cU<|c'<|cT<|aP<|ah<|va Z<|ag<|rt<|aV (.tmp Z .nil)<| ?_;exact ⟨by rw [aT3 axV];rfl,b9⟩
end
section
open Go.Proofs.YtmeeljmapailnaaGreat.ey
theorem aEY (A l4:Option Addr) (c d:Nat) (l m:List aN) (w:World) (aC:aN.rep.aG 48 w A c l) (hm:aN.rep.aG 48 w l4 d m):
  Calls prog 71 #[.slice A l.length c, .slice l4 m.length d] w (λ e w'=>e= .returned (.bool (decide (l=m)))∧Ext w w'):=by
 refine b' (n:=8) func71 Z Z Z ?_;refine ah<|va Z<|ag<|ah<|vm Z<|vm Z<|ca aeS Z Z ((ae8 _ _ _ _ _ _ l m _ (aC.keep (Ext.bg w)) (hm.keep (Ext.bg w))).mono ?_);rintro e cK ⟨rfl,fw⟩;refine ⟨_,Z, ?_⟩;have ba:=ab (Ext.bg w) fw;refine va Z<|ag<|rt<|aV (.tmp Z .nil)<| ?_;exact ⟨Z,ba⟩
theorem aEU (a:ak.b_) (W:ak) (b:ak.b_) (X:ak) (A l4:Option Addr) (c d:Nat) (T ni:List hh) (L y1:List (List aN)) (w:World) (b4:ak.Has w a W) (zw:ak.Has w b X) (cr:m2.aG 24 w A c T) (du:ng w T L) (zt:m2.aG 24 w l4 d ni) (H4:ng w ni y1):
  Calls prog 37 #[.agg #[J W.field.wide,J W.field.high, .slice a.P W.field.a8.length a.p, .slice a.B W.a7.length a.b, .slice a.S W.bp.length a.s, .slice a.M W.bM.length a.m, .slice a.T W.aq.length a.t,J W.next,J W.now, .slice A T.length c], .agg #[J X.field.wide,J X.field.high, .slice b.P X.field.a8.length b.p, .slice b.B X.a7.length b.b, .slice b.S X.bp.length b.s, .slice b.M X.bM.length b.m, .slice b.T X.aq.length b.t,J X.next,J X.now, .slice l4 ni.length d]] w (λ e w'=>e= .returned (.bool (decide (W=X) && decide (L=y1)))∧Ext w w'):=by
 refine b' (n:=17) func37 Z Z Z ?_;refine ah<|ck Z Z Z Z λ cK bR bq dU ai=> ?_;have ba:=ab (Ext.bg w) bq;refine ck Z Z Z Z λ ea cC br gO ax=> ?_;have bE:=ab ba br;refine va Z<|ag<|ah<|Φ (av Fa Z)<| ?_;have ai:=ai.later br;refine Φ (ao Z (ai.par [J W.field.wide,J W.field.high, .slice a.P W.field.a8.length a.p, .slice a.B W.a7.length a.b, .slice a.S W.bp.length a.s, .slice a.M W.bM.length a.m, .slice a.T W.aq.length a.t,J W.next,J W.now] dA cm Z))<|Φ (av Fa Z)<|Φ (ao Z (ax.par [J X.field.wide,J X.field.high, .slice b.P X.field.a8.length b.p, .slice b.B X.a7.length b.b, .slice b.S X.bp.length b.s, .slice b.M X.bM.length b.m, .slice b.T X.aq.length b.t,J X.next,J X.now] dA cm Z))<|ca auR Z Z ((aEW _ a W b X (b4.keep bE) (zw.keep bE)).mono ?_);rintro e gJ ⟨rfl,eI⟩;refine ⟨_,Z, ?_⟩;have cJ:=ab bE eI;refine vm Z<|bh Z (λ hc=>av tY Z)<| ?_;have ai:=ai.later eI;refine bh Z (λ hc=>ao (gt hc Z) (ai.one zi Z))<|bh Z (λ hc=>av tY Z)<| ?_;have ax:=ax.later eI;refine bh Z (λ hc=>ao (gt hc Z) (ax.one zi Z))<|nM Z auU (λ hc=>ez (gt hc Z) (ez (gt hc Z) (ez Z Z))) (λ hc=>avt 71 [] _ _ _ _ T ni L y1 _ (cr.keep cJ) (du.keep cJ) (zt.keep cJ) (H4.keep cJ) auS (λ A B c d l m w' h c7=>aEY A B c d l m w' h c7)) λ ow gD=> ?_;have fD:=ab cJ gD;refine Φ (dv Z Z Z Z)<|va Z<|ag<|rt<|aV (.tmp Z .nil)<| ?_;exact ⟨Z,fD⟩
end
section
open Go.Proofs.YtmeeljmapailnaaGreat.ey
theorem avy (A B:Option Addr) (c d hL dH:Nat) (l m:List dW) (w:World) (τ:dW.rep.aG hL w A c l) (ae:dW.rep.aG dH w B d m):
  Calls prog 75 #[.slice A l.length c, .slice B m.length d] w (λ e w'=>e= .returned (.bool (decide (l=m)))∧Ext w w'):=by
 have hle:=τ.eZ;refine b' (n:=26) func75 Z Z Z ?_;refine ah<|va Z<|ag<|ay<|ah<|vm Z<|Φ (cl underlying36 Z)<|vm Z<|Φ (cl underlying36 Z)<|Φ (bne Z Z)<|ag<| ?_;refine ee Z (λ gA=> ?_) (λ gA=> ?_)
 ·refine ah<|va Z<|ag<|rt<|bP<|aV (.tmp Z .nil)<| ?_;rw [aT4 (λ e=>gA (by rw [e]))];exact ⟨Z,(Ext.bg w)⟩
 ·refine bl<|ay<|ah<|vm Z<|Φ (cl underlying36 Z)<|vm Z<|ag<|bu<| ?_;refine dx (λ bZ bS aL=>∃ k:Nat,bS= [(0, .slice A l.length c),(1, .slice B m.length d),(12,J (l.length:Int)),(13,J (k:Int))]∧bZ=l.length - k∧Ext w aL∧(k≤l.length)∧(∀ j,j<k→l[j]? =m[j]?)) _ _ ⟨0,Z,Z,(Ext.bg w),by omega,λ j aA=>absurd aA (by omega)⟩ (.cons Z (.cons Z (.cons Z (.cons (bH Z) .nil)))) ?_;rintro r3 rf iH ⟨k,rfl,rfl,b9,au,ff⟩;have hle:=τ.eZ;refine ah<|Φ (blt Z Z)<|ag<|ay<| ?_;refine df Z (λ jr=> ?_) (λ jr=> ?_)
  ·obtain ⟨d_,fB⟩:=gH (l:=l) (i:=k) (by omega);obtain ⟨nR,lj⟩:=gH (l:=m) (i:=k) (by omega);refine bl<|ay<|bu<|ah<|vm Z<|va Z<|ag<|ay<| ?_;refine cR [(3,0),(7,0)] [0,1,2,3,4,5,6,7,8] ?_;refine a1 Z Z<|a1 Z Z<|aB Z (λ _=>bT k underlying36 sM Z Z ((τ.keep b9).bs (aO k)) Z (by omega))<|bx Z (λ _ x=>ao Z (aa.aG.eM zB ((τ.keep (ab b9 x)).cg (aO k)) fB Z nr))<|a1 Z Z<|a1 Z Z<|aB Z (λ _=>bT k underlying36 sM Z Z ((ae.keep b9).bs (aO k)) Z (by omega))<|bx Z (λ _ x=>ao Z (aa.aG.eM zB ((ae.keep (ab b9 x)).cg (aO k)) lj Z nr))<|aB Z (λ _=>bne Z Z)<|fn λ wq mq=> ?_;have iZ:=ab b9 mq;refine aP<| ?_;refine ee Z (λ eL=> ?_) (λ eL=> ?_)
   ·refine ah<|va Z<|ag<|rt<|dV<|bP<|kB<|dV<|bP<|aV (.tmp Z .nil)<| ?_;rw [aT4 (λ e=>by rw [e,lj] at fB;injection fB with fB;exact absurd fB.symm (by first | exact IX eL | exact eL | exact λ e=>eL (by rw [e]) | exact Int.ofNat.inj eL))];exact ⟨Z,iZ⟩
   ·refine ei<|bU<|aP<|rg<|Φ (bad Z Z (bf (by omega)))<|vm Z<|nl<| ?_;exact cD _ _ ⟨k+1,Z,Z,iZ,by omega,o4 ff (by rw [fB,lj,(by first | exact HR eL | exact eL | exact λ e=>eL (by rw [e]) | exact Int.ofNat.inj eL:d_=nR)])⟩ (by omega) (.cons Z (.cons Z (.cons Z (.cons (bH Z) .nil))))
  ·refine cV<|cU<|c'<|cT<|aP<|ah<|va Z<|ag<|rt<|aV (.tmp Z .nil)<| ?_;rw [aT3 (HQ (by omega) (by omega) ff)];exact ⟨Z,b9⟩
end
section
open Go.Proofs.YtmeeljmapailnaaGreat.ey
theorem aES (A:Option Addr) (c:Nat) (l4:Option Addr) (d:Nat) (s:cj) (w:World) (hx:aN.rep.aG 48 w A c s.waits) (aF:aN.rep.aG 48 w l4 d s.waits):
  Calls prog 74 #[.agg #[.slice A s.waits.length c,J s.late, .bool s.gone], .agg #[.slice l4 s.waits.length d,J s.late, .bool s.gone]] w (λ e w'=>e= .returned (.bool true)∧Ext w w'):=by
 refine b' (n:=24) func74 Z Z Z ?_;refine ah<|ck Z Z Z Z λ cK bR bq dU ai=> ?_;have ba:=ab (Ext.bg w) bq;refine ck Z Z Z Z λ ea cC br gO ax=> ?_;have bE:=ab ba br;refine va Z<|ag<|ah<|Φ (av C' Z)<| ?_;have ai:=ai.later br;refine Φ (ao Z (ai.one a6 Z))<|Φ (av C' Z)<|Φ (ao Z (ax.one a6 Z))<|Φ (beq Z Z)<|vm Z<|bh Z (λ hc=>av Fb Z)<|bh Z (λ hc=>ao (gt hc Z) (ai.one Da Z))<|bh Z (λ hc=>av Fb Z)<|bh Z (λ hc=>ao (gt hc Z) (ax.one Da Z))<|bh Z (λ hc=>ara underlying4 (gt hc Z) (gt hc Z))<|Φ (dv Z Z Z Z)<|vm Z<|bh Z (λ hc=>av pL Z)<|bh Z (λ hc=>ao (gt hc Z) (ai.one mM Z))<|bh Z (λ hc=>av pL Z)<|bh Z (λ hc=>ao (gt hc Z) (ax.one mM Z))<|nM Z aeS (λ hc=>ez (gt hc Z) (ez (gt hc Z) Z)) (λ hc=>ae8 _ _ _ _ _ _ s.waits s.waits _ (hx.keep bE) (aF.keep bE)) λ gJ eI=> ?_;have cJ:=ab bE eI;refine Φ (dv Z Z Z Z)<|va Z<|ag<|rt<|aV (.tmp Z .nil)<| ?_;exact ⟨by simp [q0],cJ⟩
theorem avw (A l4:Option Addr) (c d:Nat) (T ni:List bD) (S:List cj) (w:World) (cr:bD.rep.aG 40 w A c T) (hS:mI w T S) (zt:bD.rep.aG 40 w l4 d ni) (QM:mI w ni S):
  Calls prog 73 #[.slice A T.length c, .slice l4 ni.length d, .func (.func 74) #[] #[]] w (λ e w'=>e= .returned (.bool true)∧Ext w w'):=by
 have Ir:=cr.eZ;have lD:=hS.len;have kO:=QM.len;refine b' (n:=32) func73 Z Z Z ?_;refine ah<|va Z<|ag<|ay<|ah<|vm Z<|Φ (cl underlying34 Z)<|vm Z<|Φ (cl underlying34 Z)<|Φ (bne Z Z)<|ag<| ?_;have gA:((T.length:Int) != (ni.length:Int))=false:=by simp;omega
 refine hj (by rw [← gA];rfl)<|bl<|ay<|ah<|vm Z<|Φ (cl underlying34 Z)<|vm Z<|ag<|bu<| ?_;refine dx (λ bZ bS aL=>∃ k:Nat,bS= [(1, .slice l4 ni.length d),(2, .func (.func 74) #[] #[]),(15, .slice A T.length c),(16,J (T.length:Int)),(17,J (k:Int))]∧bZ=T.length - k∧Ext w aL∧(k≤T.length)) _ _ ⟨0,Z,Z,(Ext.bg w),by omega⟩ (.cons Z (.cons Z (.cons Z (.cons Z (.cons (bH Z) .nil))))) ?_;rintro r3 rf iH ⟨k,rfl,rfl,b9,au⟩;have:=b9.size;refine ah<|Φ (blt Z Z)<|ag<|ay<| ?_;refine df Z (λ jr=> ?_) (λ jr=> ?_)
 ·obtain ⟨eF,dC,bk,gw,jG,hx⟩:=hS.at_ (k:=k) (by omega);obtain ⟨uO,oO,al1,H_,QN,aF⟩:=QM.at_ (k:=k) (by omega);obtain rfl:=aTA (jG.symm.trans QN);refine bl<|ay<|bu<|ah<|vm Z<|Φ (bT k underlying34 iB Z Z ((cr.keep b9).bs (aO k)) Z (by omega))<|Φ (ao Z (aa.aG.er mQ ((cr.keep b9).cg (aO k)) gw vu iB))<|al Z HM Z Z λ wq KH cZ ajn lx=> ?_;have iZ:=ab b9 cZ;have aQ7:=lx.lt;refine va Z<|st (new:= [.slice eF bk.waits.length dC,J bk.late, .bool bk.gone]) Z Z lx Z iB Z Z Z λ B5 uq lx=> ?_;have:=uq.size;have m_:=Ext.mod iZ uq bC;refine ag<|ah<|vm Z<|vm Z<|Φ (bT k underlying34 iB Z Z ((zt.keep m_).bs (aO k)) Z (by omega))<|Φ (ao Z (aa.aG.er mQ ((zt.keep m_).cg (aO k)) H_ vu iB))<|al Z HM Z Z λ ow aLd pj aPd TX=> ?_;have fD:=ab m_ pj;refine st (new:= [.slice uO bk.waits.length oO,J bk.late, .bool bk.gone]) Z Z TX Z iB Z Z Z λ q3 DM TX=> ?_;have ie:=Ext.mod fD DM bC;refine ag<|ah<|vm Z<| ?_;have lx:=(lx.later pj).mod DM aQ;refine Φ (ao Z (lx.all vu iB))<|Φ (ao Z (TX.all vu iB))<|C2 auV Z Z Z ((aES eF dC uO oO bk _ (hx.keep ie) (aF.keep ie)).mono ?_);rintro e sj ⟨rfl,fx⟩;refine ⟨_,Z, ?_⟩;have hU:=ab ie fx;refine Φ (ek Z)<|ag<|hj Z<|ei<|bU<|aP<|rg<|Φ (bad Z Z (bf (by omega)))<|vm Z<|nl<| ?_;exact cD _ _ ⟨k+1,Z,Z,hU,by omega⟩ (by omega) (.cons Z (.cons Z (.cons Z (.cons Z (.cons (bH Z) .nil)))))
 ·refine cV<|cU<|c'<|cT<|aP<|ah<|va Z<|ag<|rt<|aV (.tmp Z .nil)<| ?_;exact ⟨Z,b9⟩
theorem aET (A l4:Option Addr) (c d:Nat) (T ni:List bD) (S:List cj) (w:World) (cr:bD.rep.aG 40 w A c T) (hS:mI w T S) (zt:bD.rep.aG 40 w l4 d ni) (QM:mI w ni S):
  Calls prog 38 #[.slice A T.length c, .slice l4 ni.length d] w (λ e w'=>e= .returned (.bool true)∧Ext w w'):=by
 refine b' (n:=8) func38 Z Z Z ?_;refine ah<|va Z<|ag<|ah<|vm Z<|vm Z<|ca auW Z Z ((avw _ _ _ _ T ni S _ (cr.keep (Ext.bg w)) (hS.keep (Ext.bg w)) (zt.keep (Ext.bg w)) (QM.keep (Ext.bg w))).mono ?_);rintro e cK ⟨rfl,fw⟩;refine ⟨_,Z, ?_⟩;have ba:=ab (Ext.bg w) fw;refine va Z<|ag<|rt<|aV (.tmp Z .nil)<| ?_;exact ⟨Z,ba⟩
theorem aEV (A:Option Addr) (c:Nat) (l4:Option Addr) (d:Nat) (m:Nat) (V:List Nat) (w:World) (hx:dW.rep.aG 4 w A c V) (aF:dW.rep.aG 4 w l4 d V):
  Calls prog 39 #[.agg #[.int .u32 (m:Int), .slice A V.length c], .agg #[.int .u32 (m:Int), .slice l4 V.length d]] w (λ e w'=>e= .returned (.bool true)∧Ext w w'):=by
 refine b' (n:=17) func39 Z Z Z ?_;refine ah<|ck Z Z Z Z λ cK bR bq dU ai=> ?_;have ba:=ab (Ext.bg w) bq;refine ck Z Z Z Z λ ea cC br gO ax=> ?_;have bE:=ab ba br;refine va Z<|ag<|ah<|Φ (av sN Z)<| ?_;have ai:=ai.later br;refine Φ (ao Z (ai.one nr Z))<|Φ (av sN Z)<|Φ (ao Z (ax.one nr Z))<|Φ (beq Z Z)<|vm Z<|bh Z (λ hc=>av sO Z)<|bh Z (λ hc=>ao (gt hc Z) (ai.one vv Z))<|bh Z (λ hc=>av sO Z)<|bh Z (λ hc=>ao (gt hc Z) (ax.one vv Z))<|nM Z auX (λ hc=>ez (gt hc Z) (ez (gt hc Z) Z)) (λ hc=>avy _ _ _ _ _ _ V V _ (hx.keep bE) (aF.keep bE)) λ gJ eI=> ?_;have cJ:=ab bE eI;refine Φ (dv Z Z Z Z)<|va Z<|ag<|rt<|aV (.tmp Z .nil)<| ?_;exact ⟨by simp [q0],cJ⟩
theorem aER (bw ly:kp) (Hx:cx) (w:World) (hA:cx.Has w bw Hx) (bj:cx.Has w ly Hx):
  Calls prog 18 #[.agg ((cx.cells bw Hx).toArray), .agg ((cx.cells ly Hx).toArray)] w (λ e w'=>e= .returned (.bool true)∧Ext w w'):=by
 refine b' (n:=31) func18 Z Z Z ?_;refine ah<|ck Z Z Z Z λ cK bR bq dU ai=> ?_;have ba:=ab (Ext.bg w) bq;refine ck Z Z Z Z λ ea cC br gO ax=> ?_;have bE:=ab ba br;refine va Z<|ag<|ah<|Φ (av zk Z)<| ?_;have ai:=ai.later br;refine Φ (ao Z (ai.par [J Hx.W.field.wide,J Hx.W.field.high, .slice bw.a.P Hx.W.field.a8.length bw.a.p, .slice bw.a.B Hx.W.a7.length bw.a.b, .slice bw.a.S Hx.W.bp.length bw.a.s, .slice bw.a.M Hx.W.bM.length bw.a.m, .slice bw.a.T Hx.W.aq.length bw.a.t,J Hx.W.next,J Hx.W.now, .slice bw.A bw.T.length bw.c] zj pM Z))<|Φ (av zk Z)<|Φ (ao Z (ax.par [J Hx.W.field.wide,J Hx.W.field.high, .slice ly.a.P Hx.W.field.a8.length ly.a.p, .slice ly.a.B Hx.W.a7.length ly.a.b, .slice ly.a.S Hx.W.bp.length ly.a.s, .slice ly.a.M Hx.W.bM.length ly.a.m, .slice ly.a.T Hx.W.aq.length ly.a.t,J Hx.W.next,J Hx.W.now, .slice ly.A ly.T.length ly.c] zj pM Z))<|ca auY Z Z ((aEU bw.a Hx.W ly.a Hx.W _ _ _ _ bw.T ly.T Hx.L Hx.L _ (hA.W.keep bE) (bj.W.keep bE) (hA.T.keep bE) (hA.L.keep bE) (bj.T.keep bE) (bj.L.keep bE)).mono ?_);rintro e gJ ⟨rfl,eI⟩;refine ⟨_,Z, ?_⟩;have cJ:=ab bE eI;refine vm Z<|bh Z (λ hc=>av qH Z)<| ?_;have ai:=ai.later eI;refine bh Z (λ hc=>ao (gt hc Z) (ai.one vw Z))<|bh Z (λ hc=>av qH Z)<| ?_;have ax:=ax.later eI;refine bh Z (λ hc=>ao (gt hc Z) (ax.one vw Z))<|nM Z auZ (λ hc=>ez (gt hc Z) (ez (gt hc Z) Z)) (λ hc=>aET _ _ _ _ bw.U ly.U Hx.S _ (hA.U.keep cJ) (hA.S.keep cJ) (bj.U.keep cJ) (bj.S.keep cJ)) λ ow gD=> ?_;have fD:=ab cJ gD;refine Φ (dv Z Z Z Z)<|vm Z<|bh Z (λ hc=>av zl Z)<| ?_;have ai:=ai.later gD;refine bh Z (λ hc=>ao (gt hc Z) (ai.par [.int .u32 (Hx.fS:Int), .slice bw.C Hx.V.length bw.e] nt jR Z))<|bh Z (λ hc=>av zl Z)<| ?_;have ax:=ax.later gD;refine bh Z (λ hc=>ao (gt hc Z) (ax.par [.int .u32 (Hx.fS:Int), .slice ly.C Hx.V.length ly.e] nt jR Z))<|nM Z au0 (λ hc=>ez (gt hc Z) (ez (gt hc Z) Z)) (λ hc=>aEV _ _ _ _ Hx.fS Hx.V _ (hA.V.keep fD) (bj.V.keep fD)) λ wm jk=> ?_;have jB:=ab fD jk;refine Φ (dv Z Z Z Z)<|vm Z<|bh Z (λ hc=>av Qa Z)<| ?_;have ai:=ai.later jk;refine bh Z (λ hc=>ao (gt hc Z) (ai.one a6 Z))<|bh Z (λ hc=>av Qa Z)<| ?_;have ax:=ax.later jk;refine bh Z (λ hc=>ao (gt hc Z) (ax.one a6 Z))<|bh Z (λ hc=>beq (gt hc Z) (gt hc Z))<|Φ (dv Z Z Z Z)<|va Z<|ag<|rt<|aV (.tmp Z .nil)<| ?_;exact ⟨by simp [q0],jB⟩
end
section
structure Hc where
 aaL:Int
 Z2:List ByteArray
 base:Int
 next:Int
 way:List Int
 UX:List Int
 got:List ByteArray
 held:List Int
 deriving DecidableEq,Inhabited
namespace Hc
structure b_ where
 S:Option Addr
 W:Option Addr
 K:Option Addr
 G:Option Addr
 H:Option Addr
 s:Nat
 w:Nat
 k:Nat
 g:Nat
 h:Nat
def cells (a:b_) (L:Hc):List Value:= [.int .i64 L.aaL, .slice a.S L.Z2.length a.s, .int .i64 L.base, .int .i64 L.next, .slice a.W L.way.length a.w, .slice a.K L.UX.length a.k, .slice a.G L.got.length a.g, .slice a.H L.held.length a.h]
structure Has (w:World) (a:b_) (L:Hc):Prop where
 S:mj.aG 16 w a.S a.s L.Z2
 W:bW.aG 8 w a.W a.w L.way
 K:bW.aG 8 w a.K a.k L.UX
 G:mj.aG 16 w a.G a.g L.got
 H:bW.aG 8 w a.H a.h L.held
 nums:e_ L.aaL∧e_ L.base∧e_ L.next
def sh:gK:=(.cons (.int .i64) (.cons (.slice .str 16) (.cons (.int .i64) (.cons (.int .i64) (.cons (.slice (.int .i64) 8) (.cons (.slice (.int .i64) 8) (.cons (.slice .str 16) (.cons (.slice (.int .i64) 8) .nil))))))))
end Hc
structure aKk (w:World) (aE:Nat) (a:Hc.b_) (L:Hc):Prop where
 S:mj.aH 9 16 w aE (aa.aj a.S) a.S a.s L.Z2
 W:bW.aH 3 8 w aE (aa.aj a.W) a.W a.w L.way
 K:bW.aH 3 8 w aE (aa.aj a.K) a.K a.k L.UX
 G:mj.aH 9 16 w aE (aa.aj a.G) a.G a.g L.got
 H:bW.aH 3 8 w aE (aa.aj a.H) a.H a.h L.held
 aMi:∀ q∈aa.aj a.W,q∈aa.aj a.S→False
 aMg:∀ q∈aa.aj a.K,q∈aa.aj a.S→False
 aMh:∀ q∈aa.aj a.K,q∈aa.aj a.W→False
 aMa:∀ q∈aa.aj a.G,q∈aa.aj a.S→False
 aMb:∀ q∈aa.aj a.G,q∈aa.aj a.W→False
 aL9:∀ q∈aa.aj a.G,q∈aa.aj a.K→False
 aMe:∀ q∈aa.aj a.H,q∈aa.aj a.S→False
 aMf:∀ q∈aa.aj a.H,q∈aa.aj a.W→False
 aMd:∀ q∈aa.aj a.H,q∈aa.aj a.K→False
 aMc:∀ q∈aa.aj a.H,q∈aa.aj a.G→False
 nums:e_ L.aaL∧e_ L.base∧e_ L.next
def above (aE:Nat) (w:World):List Nat:=(List.range w.heap.size).filter λ q=>decide (aE≤q)
end
section
theorem avz (A B:Option Addr) (c d hL dH:Nat) (l m:List ByteArray) (w:World) (τ:mj.aG hL w A c l) (ae:mj.aG dH w B d m):
  Calls prog 19 #[.slice A l.length c, .slice B m.length d] w (λ e w'=>e= .returned (.bool (decide (l=m)))∧Ext w w'):=by
 have hle:=τ.eZ;refine b' (n:=26) func19 Z Z Z ?_;refine ah<|va Z<|ag<|ay<|ah<|vm Z<|Φ (cl underlying45 Z)<|vm Z<|Φ (cl underlying45 Z)<|Φ (bne Z Z)<|ag<| ?_;refine ee Z (λ gA=> ?_) (λ gA=> ?_)
 ·refine ah<|va Z<|ag<|rt<|bP<|aV (.tmp Z .nil)<| ?_;rw [aT4 (λ e=>gA (by rw [e]))];exact ⟨Z,(Ext.bg w)⟩
 ·refine bl<|ay<|ah<|vm Z<|Φ (cl underlying45 Z)<|vm Z<|ag<|bu<| ?_;refine dx (λ bZ bS aL=>∃ k:Nat,bS= [(0, .slice A l.length c),(1, .slice B m.length d),(12,J (l.length:Int)),(13,J (k:Int))]∧bZ=l.length - k∧Ext w aL∧(k≤l.length)∧(∀ j,j<k→l[j]? =m[j]?)) _ _ ⟨0,Z,Z,(Ext.bg w),by omega,λ j aA=>absurd aA (by omega)⟩ (.cons Z (.cons Z (.cons Z (.cons (bH Z) .nil)))) ?_;rintro r3 rf iH ⟨k,rfl,rfl,b9,au,ff⟩;have hle:=τ.eZ;refine ah<|Φ (blt Z Z)<|ag<|ay<| ?_;refine df Z (λ jr=> ?_) (λ jr=> ?_)
  ·obtain ⟨d_,fB⟩:=gH (l:=l) (i:=k) (by omega);obtain ⟨nR,lj⟩:=gH (l:=m) (i:=k) (by omega);refine bl<|ay<|bu<|ah<|vm Z<|va Z<|ag<|ay<| ?_;refine cR [(3,0),(7,0)] [0,1,2,3,4,5,6,7,8] ?_;refine a1 Z Z<|a1 Z Z<|aB Z (λ _=>bT k underlying45 V0 Z Z ((τ.keep b9).bs (aO k)) Z (by omega))<|bx Z (λ _ x=>ao Z (aa.aG.eM Xz ((τ.keep (ab b9 x)).cg (aO k)) fB Z V1))<|a1 Z Z<|a1 Z Z<|aB Z (λ _=>bT k underlying45 V0 Z Z ((ae.keep b9).bs (aO k)) Z (by omega))<|bx Z (λ _ x=>ao Z (aa.aG.eM Xz ((ae.keep (ab b9 x)).cg (aO k)) lj Z V1))<|aB Z (λ _=>aq9 underlying9 Z Z)<|fn λ wq mq=> ?_;have iZ:=ab b9 mq;refine aP<| ?_;refine dn Z (λ eL=> ?_) (λ eL=> ?_)
   ·refine ah<|va Z<|ag<|rt<|dV<|bP<|kB<|dV<|bP<|aV (.tmp Z .nil)<| ?_;rw [aT4 (λ e=>by rw [e,lj] at fB;injection fB with fB;exact absurd fB.symm (by first | exact IX eL | exact eL))];exact ⟨Z,iZ⟩
   ·refine ei<|bU<|aP<|rg<|Φ (bad Z Z (bf (by omega)))<|vm Z<|nl<| ?_;exact cD _ _ ⟨k+1,Z,Z,iZ,by omega,o4 ff (by rw [fB,lj,(by first | exact HR eL | exact eL:d_=nR)])⟩ (by omega) (.cons Z (.cons Z (.cons Z (.cons (bH Z) .nil))))
  ·refine cV<|cU<|c'<|cT<|aP<|ah<|va Z<|ag<|rt<|aV (.tmp Z .nil)<| ?_;rw [aT3 (HQ (by omega) (by omega) ff)];exact ⟨Z,b9⟩
end
section
open Go.Proofs.YtmeeljmapailnaaGreat.ey
theorem aEQ {bw ly:kp} {Hx OS:cx} {w:World} (e:OS=Hx) (hA:cx.Has w bw Hx) (bj:cx.Has w ly OS):Calls prog 18 #[.agg (cx.cells bw Hx).toArray, .agg (cx.cells ly OS).toArray] w (λ e w'=>e= .returned (.bool true)∧Ext w w'):=by
 subst e;exact aER bw ly OS w hA bj
theorem ay8 (aE:Nat) (bw:kp) (Hx:cx) (A:Option Addr) (c:Nat) (l:List bI) (w:World) (n:Nat) (hn:l.length=n) (xq:aE≤w.heap.size) (dr:eE w aE bw Hx) (aC:bI.rep.aG 72 w A c l):
  Calls prog 8 #[.agg (cx.cells bw Hx).toArray, .slice A n c] w (λ e w'=>∃ (c7:kp) (hg:cx) (b_:Option Addr) (vq:Nat) (t:List ByteArray),e= .returned (.tuple #[.agg (cx.cells c7 hg).toArray, .slice b_ t.length vq])∧(∃ q,oi Hx l=(hg,t,q))∧eE w' aE c7 hg∧(∀ q∈eE.cM c7,q∈eE.cM bw∨w.heap.size≤q)∧mj.aH 9 16 w' w.heap.size (aa.aj b_) b_ vq t∧Ext w w'):=by
 subst hn;exact ahq aE bw Hx A c l w xq dr aC
theorem gp.of {α:Type} {R:aa α} {e by_ B c:Nat} {w:World} {A:Option Addr} {m:List α} {f t:Nat} (h:R.aH e by_ w B (aa.aj A) A c m) (τ:f≤t) (ae:t≤m.length):gp R e by_ w B A c (m.take f) (m.drop t) (eB A c f R.size) (c - f) (b6 m f t):=by
 refine ⟨by rw [KO τ];exact h, ?_, ?_⟩<;>rw [aTD,aUJ (by omega)]
theorem avv {A B:Option Addr} {c d hL dH:Nat} {l m:List ByteArray} {w:World} (e:m=l) (τ:mj.aG hL w A c l) (ae:mj.aG dH w B d m):Calls prog 19 #[.slice A l.length c, .slice B m.length d] w (λ e w'=>e= .returned (.bool true)∧Ext w w'):=by
 subst e;exact (avz A B c d hL dH m m w τ ae).mono λ e w' h=>⟨by rw [h.1,aT3 rfl],h.2⟩
theorem aGd (a:ak.b_) (W:ak) (jY:Int) (A:Option Addr) (c:Nat) (l:List bI) (w:World) (b4:ak.Has w a W) (aC:bI.rep.aG 72 w A c l):
  Calls prog 4 #[.agg ((ak.cells a W).toArray),J jY, .slice A l.length c] w (λ e w'=>e= .returned (.bool true)∧Ext w w'):=by
 have rS:=aC.eZ;refine b' (n:=85) func4 Z Z Z ?_;refine ah<|ck Z Z Z Z λ cK bR bq dU ai=> ?_;have ba:=ab (Ext.bg w) bq;have ib:=ai.lt;refine va Z<|ag<|ah<|Φ (ao Z (ai.all dA cm))<|vm Z<|ca aeP Z Z ((ag6 a W jY _ (b4.keep ba)).mono ?_);rintro e tk ⟨J5,fq,m5,rfl,X',nV,br⟩;refine ⟨_,Z, ?_⟩;have:=br.size;have jC:=ab ba br;have SL:=b7 nV.lt;refine vm Z<|Φ (ex Z Z)<|Φ (ex Z Z)<|al Z xh Z Z λ B4 CV l2 aAH iN=> ?_;have:=l2.size;have nS:=ab jC l2;have akU:=iN.lt;refine st Z Z iN Z ef Z Z Z λ B6 o7 iN=> ?_;have:=o7.size;have oA:=Ext.mod nS o7 bC;refine va Z<|ag<|ay<|ah<|ca aeT Z Z ((ajB _).mono ?_);rintro e wo ⟨rfl,eO⟩;refine ⟨_,Z, ?_⟩;have:=eO.size;have kF:=ab oA eO;refine Φ (ek Z)<|vm Z<|lZ Z Z Z<|vm Z<|lZ Z Z Z<|Φ (bne Z Z)<|Φ (s6 Z Z)<|vm Z<|eN Z Z<|bh Z (λ hc=>cl underlying29 (gt hc Z))<|bh Z (λ hc=>hM (gt hc Z) Z)<|Φ (fC Z Z Z Z)<|ag<| ?_;refine dn Z (λ rI=> ?_) (λ rI=> ?_)
 ·simp only [ch] at rI;refine ah<|ca aeT Z Z ((ajB _).mono ?_);rintro e Jw ⟨rfl,nO⟩;refine ⟨_,Z, ?_⟩;have tC:=ab kF nO;refine va Z<|ag<|rt<|bP<|aV (.tmp Z .nil)<| ?_;exact ⟨Z,tC⟩
 ·simp only [ch] at rI;obtain ⟨_,kx,DB⟩:=X'.resolve_right λ bc=>bc.1 (by omega);refine bl<|ah<|vm Z<|ca aeU Z Z ((adt _ _ l _ (aC.keep kF)).mono ?_);rintro e Ea ⟨Cn,PF,rfl,OW,aNH,jP⟩;refine ⟨_,Z, ?_⟩;have:=jP.size;have sx:=ab kF jP;have aGE:=b7 OW.lt;have ajF:=dM OW.lt;refine ca au1 Z Z ((as1 wo _ _ _ _ (by first | exact Ext.bg _ | assumption) OW).mono ?_);rintro e sk ⟨cz,lD,rfl,uV,xQ⟩;refine ⟨_,Z, ?_⟩;have:=xQ.size;have jQ:=Ext.mod sx xQ (λ q I=>by have:=(OW.lt q I).1;omega);refine va Z<|ag<|ah<|vm Z<|ca aeU Z Z ((adt _ _ cz _ uV.has).mono ?_);rintro e Gy ⟨wB,Hv,rfl,acb,aNJ,sr⟩;refine ⟨_,Z, ?_⟩;have:=sr.size;have uF:=ab jQ sr;have YR:=dM acb.lt;refine va Z<|ag<|ay<|ah<|va Z<|ag<|bu<| ?_;have nV:=((((nV.later l2).mod o7 (b0 SL)).later (ab eO jP)).mod xQ (λ q I h=>by exfalso;(have:=ajF q h;(have:=SL q I;omega)))).later sr;have iN:=iN.later (ab eO jP);have A8:∀ q∈aa.aj Cn,q=CV→False:=λ q I γ=>by (have:=ajF q I;omega)
  have iN:=(iN.mod xQ (λ I=>A8 _ I rfl)).later sr;have uV:=uV.later sr;refine dx (λ bZ bS aL=>∃ dy:List bI,∃ aD:Nat,bS= [(2, .slice Cn cz.length PF),(6, .bool false),(7, .pointer (some ⟨CV,0,none⟩)),(9, .slice wB cz.length Hv),(10,J (aD:Int))]∧bZ=cz.length+1 - aD∧Ext w aL∧eE aL cK.heap.size fq m5∧aR aL CV (cx.cells fq m5) 40 (0,0)∧bI.rep.aH 71 72 aL wo.heap.size (aa.aj Cn) Cn PF (cz)∧bI.rep.aH 71 72 aL sk.heap.size (aa.aj wB) wB Hv (dy)∧(Aq cz dy aD)∧(aD≤cz.length+1)∧(Gy.heap.size≤aL.heap.size)∧(∀ q∈aa.aj wB,q=CV→False)∧(∀ q∈aa.aj wB,q∈eE.cM fq→False)∧(∀ q∈aa.aj wB,q∈aa.aj Cn→False)) _ _ ⟨cz,0,Z,Z,uF,nV,iN,uV,acb,Aq.start cz,by omega,aTK _,(λ q I γ=>by (have:=YR q I;omega)),(λ q I γ=>by (have:=YR q I;(have:=SL q γ;omega))),(λ q I γ=>by (have:=YR q I;(have:=aGE q γ;omega)))⟩ (.cons Z (.cons Z (.cons Z (.cons Z (.cons (bH Z) .nil))))) ?_;rintro aPX aJ1 Ed ⟨dy,aD,rfl,rfl,nb,nV,iN,uV,uX,hA,mR,Yp,tW,A7,ry⟩;have aRE:=iN.lt;have yg:=b7 uX.lt;have It:=hA.len;refine ay<|ah<|vm Z<|vm Z<|Φ (cl underlying29 Z)<|Φ (blt Z Z)<|ag<| ?_;refine df Z (λ Lu=> ?_) (λ Lu=> ?_)
  ·refine bl<|bu<|ah<|vm Z<|va Z<|ag<|ay<|bu<| ?_;refine dx (λ bZ bS aL=>∃ pd:Nat,bS= [(2, .slice Cn cz.length PF),(6, .bool false),(7, .pointer (some ⟨CV,0,none⟩)),(9, .slice wB cz.length Hv),(10,J (aD:Int)),(11,J (pd:Int)),(39,J (aD:Int)),(40, .slice wB cz.length Hv),(41,J (cz.length:Int)),(42, .bool (decide ((aD:Int)<(cz.length:Int)))),(43,J (aD:Int))]∧bZ=cz.length - pd∧Ext w aL∧eE aL cK.heap.size fq m5∧aR aL CV (cx.cells fq m5) 40 (0,0)∧bI.rep.aH 71 72 aL wo.heap.size (aa.aj Cn) Cn PF (cz)∧bI.rep.aH 71 72 aL sk.heap.size (aa.aj wB) wB Hv (dy)∧(aD≤pd∧pd≤cz.length)∧(∀ q,aD≤q→q<pd→(dy.getD q default).kind=1)∧(Ed.heap.size≤aL.heap.size)) _ _ ⟨aD,Z,Z,nb,nV,iN,uV,uX,by omega,λ q τ ae=>by omega,aTK _⟩ (hB Z) ?_;rintro lU aom q4 ⟨pd,rfl,rfl,iw,nV,iN,uV,uX,aOj,oY,aOn⟩;refine ay<|ah<|vm Z<|vm Z<|Φ (cl underlying29 Z)<|Φ (blt Z Z)<|vm Z<|eN Z Z<|eN Z Z<|bh Z (λ hc=>bT pd underlying29 dR (gt hc Z) (gt hc Z) (uX.has.bs (aO pd (by (try simp only [ch] at hc);omega))) Z (by (try simp only [ch] at hc);omega))<|bh Z (λ hc=>av K4 (gt hc Z))<|bh Z (λ hc=>ao (gt hc Z) (aa.aG.jT nw (uX.has.cg (aO pd (by (try simp only [ch] at hc);omega))) 0 (cA (l:=dy) (u:=default) (by (try simp only [ch] at hc);omega)) Z a6))<|bh Z (λ hc=>beq (gt hc Z) Z)<|Φ (dv Z Z Z Z)<|ag<| ?_;refine dn Z (λ QS=> ?_) (λ QS=> ?_)
   ·simp only [ch] at QS;refine bl<|bu<|rg<|vm Z<|Φ (bad Z Z (bf (by omega)))<|va Z<|nl<|bU<| ?_;exact cD _ _ ⟨pd+1,Z,Z,iw,nV,iN,uV,uX,by omega,λ q τ ae=>by rcases aUt q pd with h | h;exact oY q τ h;rw [show q=pd by omega];exact QS.2,by omega⟩ (by omega) (.cons Z (.cons Z (.cons Z (.cons Z (.cons Z (.cons (bH Z) (hB Z)))))))
   ·simp only [ch] at QS;refine cV<|cU<|c'<|cT<|aP<|ah<|vm Z<|vm Z<|vm Z<|Φ (ali aD pd underlying29 dR Z Z Z Z Z (by omega) (by have:=uX.has.1;omega))<|ca au2 Z Z ((aFH wB _ Hv _ (pd - aD) sk.heap.size (dy.take aD) (dy.drop pd) (b6 dy aD pd) _ (gp.of uX (by omega) (by omega)) (m1 (by omega))).mono ?_);rintro e aHy ⟨ao9,rfl,⟨aEC,aEq⟩,⟨aps,_,_⟩,DN⟩;refine ⟨_,Z, ?_⟩;have:=DN.size;have TF:=Ext.mod iw DN (λ q I=>by have:=(uX.lt q I).1;omega);refine ag<|rg<|vm Z<|Φ (bad Z Z (bf (by omega)))<|va Z<|nl<|bU<| ?_;have nV:=nV.mod DN (λ q I h=>A7 q h I);have iN:=iN.mod DN (λ I=>tW _ I rfl);have uV:=uV.mod DN (λ q I h=>ry q h I);exact cD _ _ ⟨dy.take aD++ao9++dy.drop pd,pd+1,Z,Z,TF,nV,iN,uV,aps,hA.next (by omega) (by omega) oY aEC aEq,by omega,by omega,(λ q I γ=>by (exact tW q I γ)),(λ q I γ=>by (exact A7 q I γ)),(λ q I γ=>by (exact ry q I γ))⟩ (by omega) (.cons Z (.cons Z (.cons Z (.cons Z (.cons (bH Z) .nil)))))
  ·have avr:cz.length≤aD:=by omega
   refine cV<|cU<|c'<|cT<|aP<|ah<|Φ (ao Z (iN.all hX ef))<|vm Z<|ca aeW Z Z ((ahq cK.heap.size fq m5 _ _ cz _ (by omega) nV uV.has).mono ?_);rintro e NP ⟨aMX,aTt,aJk,aL7,t69,rfl,⟨aDN,ay6⟩,OK,aNe,O0,Em⟩;refine ⟨_,Z, ?_⟩;have:=Em.size;have yC:=ab nb Em;have ami:=b7 OK.lt;have Js:=b7 O0.lt;refine vm Z<|Φ (ex Z Z)<|Φ (ex Z Z)<|al Z xh Z Z λ GD acN hD ajv k6=> ?_;have yE:=ab yC hD;have aD2:=k6.lt;refine st Z Z k6 Z ef Z Z Z λ amQ gZ k6=> ?_;have:=gZ.size;have Er:=Ext.mod yE gZ bC;refine va Z<|ag<|ah<| ?_;have iN:=(iN.later (ab Em hD)).mod gZ aQ;refine Φ (ao Z (iN.all hX ef))<|vm Z<| ?_;have uX:=(uX.later (ab Em hD)).mod gZ (b0 yg);have nV:=(nV.later (ab Em hD)).mod gZ (b0 SL);refine ca aeW Z Z ((ay8 cK.heap.size fq m5 _ _ dy _ _ It (by omega) nV uX.has).mono ?_);rintro e amS ⟨aMY,aTu,aJl,aL8,t86,rfl,⟨aDO,ay7⟩,OO,Q6,O1,sv⟩;refine ⟨_,Z, ?_⟩;have:=sv.size;have Oj:=ab Er sv;have aGo:=b7 OO.lt;have aGH:=b7 O1.lt;obtain ⟨aY,bb⟩:=hA.fin avr ⟨aDN,ay6⟩ ⟨aDO,ay7⟩;refine vm Z<|Φ (ex Z Z)<|Φ (ex Z Z)<|al Z xh Z Z λ NR aLF nQ aPM T2=> ?_;have yF:=ab Oj nQ;refine st Z Z T2 Z ef Z Z Z λ JG rZ T2=> ?_;have qw:=Ext.mod yF rZ bC;refine va Z<|ag<|ah<| ?_;have k6:=(k6.later (ab sv nQ)).mod rZ aQ;refine Φ (ao Z (k6.all hX ef))<|Φ (ao Z (T2.all hX ef))<| ?_;have OK:=(((OK.later hD).mod gZ (b0 ami)).later (ab sv nQ)).mod rZ (b0 ami);have OO:=(OO.later nQ).mod rZ (b0 aGo);refine ca au3 Z Z ((aEQ aY OK.has OO.has).mono ?_);rintro e aHi ⟨rfl,ym⟩;refine ⟨_,Z, ?_⟩;have aaS:=ab qw ym;refine vm Z<|lZ Z Z Z<|vm Z<|lZ Z Z Z<|vm Z<|lZ Z Z Z<| ?_;have O0:=((((O0.later hD).mod gZ (b0 Js)).later (ab sv nQ)).mod rZ (b0 Js)).later ym;have O1:=((O1.later nQ).mod rZ (b0 aGH)).later ym;refine ca au4 Z Z (((avv bb O0.has O1.has)).mono ?_);rintro e S6 ⟨rfl,Cc⟩;refine ⟨_,Z, ?_⟩;have Cf:=ab aaS Cc;refine Φ (qg Z Z)<|va Z<|ag<|rt<|aV (.tmp Z .nil)<| ?_;exact ⟨Z,Cf⟩
theorem aGc (bo:Array Value) (cF:Int) (a2:Option Addr) (RF PI:Nat) (w:World) (aK:(.cons (.cons (.int .i64) (.cons (.int .i64) (.cons (.slice (.int .i64) 8) .nil))) (.cons (.slice (.cons (.int .i64) (.cons (.int .i64) .nil)) 16) (.cons (.slice (.int .i64) 8) (.cons (.slice (.int .i64) 8) (.cons (.slice (.cons (.int .i64) (.cons (.int .i64) (.cons (.int .i64) (.cons (.cons (.int .i64) (.cons (.int .i64) .nil)) (.cons (.int .i64) (.cons (.int .i64) .nil)))))) 56) (.cons (.int .i64) (.cons (.int .i64) .nil)))))):gK).jn w bo.toList) (aS:(Lit.int .i64 cF).wf=true) (ae:(.slice (.cons (.int .i64) (.cons (.cons (.int .i64) (.cons (.int .i64) (.cons (.int .i64) (.cons (.cons (.int .i64) (.cons (.int .i64) .nil)) (.cons (.int .i64) .nil))))) (.cons (.int .i64) (.cons (.int .i64) .nil)))) 72:gK).jn w [.slice a2 RF PI]):
  Calls prog 4 #[.agg bo,J cF, .slice a2 RF PI] w λ e w'=>e= .returned (.bool true)∧Below w.heap.size w w':=by
 obtain ⟨a,W,e,b4⟩:=ak.opens w _ (show ak.sh.jn w bo.toList from aK);have hc:bo=(ak.cells a W).toArray:=by rw [← e]
 subst hc;obtain ⟨A,c,l,bb,aC⟩:=aa.I2 (R:=bI.rep) (by_:=72) bI.opens rfl (by decide) ae;simp only [aWa,Value.slice.injEq,and_true] at bb;obtain ⟨rfl,rfl,rfl⟩:=bb;exact aGd a W cF _ _ l w b4 aC
end
end Go.Proofs.YtmeeljmapailnaaGreat
