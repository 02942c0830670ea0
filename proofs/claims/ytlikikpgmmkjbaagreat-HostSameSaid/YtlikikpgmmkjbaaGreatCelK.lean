import Derived.Test.YtlikikpgmmkjbaaGreatGolR
set_option linter.unusedVariables false
set_option linter.unusedSimpArgs false
set_option maxRecDepth 100000
set_option maxHeartbeats 4000000
open Go.RowKit
namespace Go.Proofs.YtlikikpgmmkjbaaGreat
open Tryz
abbrev aR4:=@Or.elim
abbrev aSj:=@decide_eq_true_eq
abbrev aSr:=@List.length_replicate
abbrev aSC:=@decide_eq_false_iff_not
abbrev aSD:=@Bool.or_eq_false_iff
abbrev aTj:=@List.filter_cons
abbrev aTs:=@List.range_succ
abbrev aTu:=@Nat.le_of_eq
abbrev aTB:=@List.drop_eq_getElem_cons
abbrev aTE:=@List.mem_of_mem_take
abbrev aTM:=@List.set_cons_zero
abbrev aTN:=@List.set_cons_succ
abbrev aT9:=@Bool.not_true
abbrev aUb:=@List.mem_filter
abbrev aUw:=@decide_false
abbrev aUz:=@Int.add_mul_emod_self_right
abbrev aUC:=@List.mem_of_find?_eq_some
abbrev aUG:=@decide_true
abbrev aUL:=@List.map_take
abbrev aUN:=@Bool.false_or
abbrev aUX:=@List.find?_some
abbrev aVf:=@Bool.not_false
abbrev aVl:=@Bool.or_false
abbrev aVC:=@Int.sub_self
abbrev aVD:=@Int.emod_eq_of_lt
abbrev aVE:=@Int.add_comm
abbrev aVF:=@Bool.true_or
abbrev aVG:=@Bool.or_true
abbrev aV1:=@Int.tdiv_eq_ediv_of_nonneg
section
namespace τ
variable {α:Type} {R:τ α}
theorem aF.auo {E by_ B c:Nat} {A:Option Addr} {l:List α} {w:World} {ps:List (List Nat×List Value)} (hp:R.wH) (dF:c_ (λ x a=>R.own w B x.1 x.2 a) ps l):∀ y∈ps,y.1= []:=λ y aK=>by
 obtain ⟨b,Φ⟩:=dF.left y aK;exact hp.2 Φ
theorem aun {ps:List (List Nat×List Value)} (h:∀ y∈ps,y.1= []):(ps.map (·.1)).flatten= []:=by
 rw [aWe];intro x hx;obtain ⟨y,aK,rfl⟩:=aSz.1 hx;exact h y aK
theorem aF.cut {E by_ B c:Nat} {A:Option Addr} {l:List α} {w:World} (h:R.aF E by_ w B (ag A) A c l) (hp:R.wH) (k:Nat) (av:k≤l.length):R.aF E by_ w B (ag A) A c (l.take k):=by
 obtain ⟨Φ,ps,hf,hn,b7,dF⟩:=h;have aB:=Rp dF;have nA:ps.length=l.length:=dF.length;have κ:=aF.auo (E:=E) (by_:=by_) (c:=c) (A:=A) hp dF;have hlen:(l.take k).length=k:=by rw [aRU];omega
 have hm:=aSE by_ av;refine ⟨by rw [hlen];omega,ps.take k, ?_,hn, ?_,dF.IE k⟩
 ·rw [aun λ y aK=>κ y (aTE aK),aSu]
 ·rw [hlen,aUL,PN k aB];obtain ⟨j',LH⟩:=b7;have hle:k * R.size≤l.length * R.size:=aSE _ av;refine ⟨by rw [aRU,j'];omega, ?_⟩;rcases LH with ⟨LH,aLp⟩ | ⟨g,cap,cur,hv,bg,fS,CS,rP,hs,aE,bB⟩
  ·injection LH with bc bl cH
   subst bc cH;have:k=0:=by omega
   subst this;exact .inl ⟨Z,Z⟩
  ·injection hv with bc bl cH
   subst bc cH;exact .inr ⟨g,c,cur,Z,bg,fS,by omega,rP,hs,by rw [← aE,List.take_take,aTC hle],bB⟩
end τ
section
variable {P:Program} {n:Nat} {E cU:List (Nat×Value)} {a:Act} {w w' w0 aW:World} {Q:Exit→Act→World→Prop} {ops:Array Oper} {v:Value}
variable {d:Option Nat} {ty:TypeId} {pos:String} {af:Array Edge} {g:Option (Nat×Bool)} {x y z:Operand} {t:TypeId} {rest:List Oper}
theorem akV {A:Option Addr} {len cap e s:Nat} {k:IntKind} (lo:Nat) {i:Int} (aE:P.underlying t=some (.slice e)) (hs:eP P e s) (hx:ev E x=some (.slice A len cap)) (aK:ev E y=some (.int k i)) (ar:i=(lo:Int)) (κ:lo≤len):
  cY P E ⟨d, .slice t x (some y) none none,ty,pos,af,g⟩ w (.slice (e1 A cap lo s) (len - lo) (cap - lo)) w:=λ n a ha=>by
 subst ar;have lF:P.underlying t=some (.slice (P.elem t)):=by simp [Program.elem,aE]
 have mU:P.elem t=e:=by simp [Program.elem,aE]
 have aw:=run_slice_l (P:=P) (w:=w) t A len cap lF k (lo:Int) (by omega) (by omega);have a6:=aUn (P:=P) (w:=w) t (.slice A len cap) (some (.int k (lo:Int))) none none lF;rw [mU,hs w] at aw;simp only [execOp,ha.ev hx,ha.ev aK,Option.map,a6,aw,aR8,aRZ,aR9,sliced,aSJ,e1]
theorem ayg {k:IntKind} {i j:Int} (aG:0≤i) (κ:0<j) (hw:k.wrap (i / j)=i / j):Op.intDiv .quo k i j=pure (.int k (i / j)):=by
 unfold Op.intDiv;have e:i.tdiv j=i / j:=aV1 aG;rw [aR0 (by omega)];simp only [e,hw]
theorem ayh {k:IntKind} {i j:Int} (aG:0≤i) (κ:0<j):Op.intDiv .rem k i j=pure (.int k (i % j)):=by
 unfold Op.intDiv;have e:i.tmod j=i % j:=Int.tmod_eq_emod_of_nonneg aG;rw [aR0 (by omega)];simp only [e]
section
variable {k:IntKind} {i j:Int} {u:TypeId}
theorem apQ (hx:ev E x=some (.int k i)) (aK:ev E y=some (.int k j)) (aG:0≤i) (κ:0<j) (hw:k.wrap (i / j)=i / j):cY P E ⟨d, .binOp .quo t x y u,ty,pos,af,g⟩ w (.int k (i / j)) w:=o6 hx aK (binOp_quo t k i j) (by rw [ayg aG κ hw];rfl)
theorem apS (hx:ev E x=some (.int k i)) (aK:ev E y=some (.int k j)) (aG:0≤i) (κ:0<j):cY P E ⟨d, .binOp .rem t x y u,ty,pos,af,g⟩ w (.int k (i % j)) w:=o6 hx aK (binOp_rem t k i j) (by rw [ayh aG κ];rfl)
theorem aB8 {i j:Int} (aG:0≤i) (κ:0<j) (aa:i≤9223372036854775807):IntKind.i64.wrap (i / j)=i / j:=by
 have bc:0≤i / j:=Int.ediv_nonneg aG (by omega);have bl:i / j≤i:=Int.ediv_le_self _ aG;exact bH ⟨by omega,by omega⟩
end
end
end
section
section
variable {α:Type} {p:α→Bool} {l L:List α} {d:α} {i j k:Nat}
theorem jd (h:k<l.length):l.getD k d∈l:=by rw [aRQ,aRT h];exact aS0 h
theorem nu (h:k<l.length):l.getD k d=l[k]:=by rw [aRQ,aRT h];rfl
theorem QR (h:∀ i,i<l.length→p (l.getD i d)=false):gm p l= -1:=E' λ j ay=>by rw [← nu (d:=d) ay];exact h j ay
theorem QS (av:k<l.length) (κ:p (l.getD k d)=true) (h:∀ i,i<k→p (l.getD i d)=false):gm p l=(k:Int):=
 Fa av (by rw [← nu (d:=d) av];exact κ) λ j ay=>by rw [← nu (d:=d) (by omega:j<l.length)];exact h j ay
theorem Bc (h:k<l.length):l.take (k+1)=l.take k++ [l.getD k d]:=by rw [aSk h,nu h]
end
end
section
theorem Ok:eN prog ax.rep 25 49 16:=eN.k_ (z:=ax.zero) (k:=2) underlying25 ax.info rfl rfl (by decide) ax.iE
def gW (n:Int):Int:=if n<0 then -1 else if 0<n then 1 else 0
def cp (n:Int):Int:=if n<0 then -n else if 0<n then n else 0
theorem jg (n:Int):0≤cp n∧(-2000≤n∧n≤2000→cp n≤2000)∧(0≤n→cp n=n)∧(n<0→cp n= -n):=by unfold cp;split<;>(try split)<;>omega
theorem IB (n:Int): -1≤gW n∧gW n≤1:=by unfold gW;split<;>(try split)<;>omega
def a_ (a b:ax):Int:=max (cp (b.x - a.x)) (cp (b.y - a.y))
def vV (a b:ax):Int:=min (cp (b.x - a.x)) (cp (b.y - a.y))
def p2 (a b:ax) (s:Int×ax):Int×ax :=
  (if decide (a_ a b≤s.1+2 * vV a b) then s.1+2 * vV a b - 2 * a_ a b else s.1+2 * vV a b,
   ⟨if !decide (cp (b.x - a.x)<cp (b.y - a.y)) || decide (a_ a b≤s.1+2 * vV a b) then s.2.x+gW (b.x - a.x) else s.2.x,
    if decide (cp (b.x - a.x)<cp (b.y - a.y)) || decide (a_ a b≤s.1+2 * vV a b) then s.2.y+gW (b.y - a.y) else s.2.y⟩)
def cP (a b:ax):Nat→Int×ax
  | 0=>(0,a)
  | k+1=>p2 a b (cP a b k)
def s5 (a b:ax) (k:Nat):List ax:=(List.range (k+1)).map λ i=>(cP a b i).2
def hy (a b:ax):List ax:=s5 a b (a_ a b).toNat
theorem Ru (a b:ax) (k:Nat):s5 a b (k+1)=s5 a b k++ [(cP a b (k+1)).2]:=by unfold s5;rw [aTs,aSi];rfl
theorem FE (a b:ax) (k:Nat):(s5 a b k).length=k+1:=by simp [s5]
theorem atU (a b:ax):0≤vV a b∧vV a b≤a_ a b:=by
  have κ:=jg (b.x - a.x);have aa:=jg (b.y - a.y);unfold vV a_;omega
theorem ajn (a b:ax) (k:Nat): -a_ a b≤(cP a b k).1∧(cP a b k).1≤a_ a b:=by
  have hf:=atU a b;induction k with
  | zero=>show -a_ a b≤0∧0≤a_ a b;omega
  | succ k bF =>
    show -a_ a b≤(p2 a b (cP a b k)).1∧(p2 a b (cP a b k)).1≤a_ a b;unfold p2;simp only [aSj];split<;>omega
theorem ajo (a b:ax) (k:Nat):a.x - k≤(cP a b k).2.x∧(cP a b k).2.x≤a.x+k∧a.y - k≤(cP a b k).2.y∧(cP a b k).2.y≤a.y+k:=by
  have κ:=IB (b.x - a.x);have aa:=IB (b.y - a.y);induction k with
  | zero=>show a.x - _≤a.x∧a.x≤a.x+_∧a.y - _≤a.y∧a.y≤a.y+_;omega
  | succ k bF =>
    show a.x - _≤(p2 a b (cP a b k)).2.x∧(p2 a b (cP a b k)).2.x≤a.x+_∧a.y - _≤(p2 a b (cP a b k)).2.y∧(p2 a b (cP a b k)).2.y≤a.y+_;unfold p2;simp only;split<;>split<;>omega
theorem Rh (c:ax) (w:World) (h: -1000≤c.x∧c.x≤1000∧ -1000≤c.y∧c.y≤1000):
    Calls prog 193 #[.agg #[.int .i64 c.x, .int .i64 c.y]] w (λ e w'=>e= .returned (.bool true)∧Ext w w'):=by
  refine cd (n:=23) func193 Z Z Z ?_;refine aj<|cw Z Z Z Z λ cI bJ a7 dY ab=> ?_;have:=a7.size;have bk:=γ (Ext.bI w) a7;have ed:=ab.lt;refine va Z<|ai<|aj<|J (au iJ Z)<|J (ak Z (ab.one ba Z))<|J (au iJ Z)<|J (ak Z (ab.one ba Z))<|J (Yg Z (bH (by omega)))<|J (au iK Z)<|J (ak Z (ab.one ba Z))<|J (au iK Z)<|J (ak Z (ab.one ba Z))<|J (Yg Z (bH (by omega)))<|J (azE Z Z Z Z)<|J (ble Z Z)<|vm Z<|aT Z Z Z Z (λ hc=>au iJ Z) Z<|aT Z Z Z Z (λ hc=>ak (gt hc Z) (ab.one ba Z)) Z<|aT Z Z Z Z (λ hc=>au iK Z) Z<|aT Z Z Z Z (λ hc=>ak (gt hc Z) (ab.one ba Z)) Z<|aT Z Z Z Z (λ hc=>oc (gt hc Z) (gt hc Z)) Z<|aT Z Z Z Z (λ hc=>j3 (gt hc Z) Z) Z<| ?_;refine J (dH Z Z Z Z)<|va Z<|ai<|rt<|a8 (.tmp Z .nil)<| ?_;exact ⟨RF (by simp only [aRY,aSj];omega),bk⟩
theorem RR (n:Int) (w:World) (h: -2000≤n∧n≤2000):
    Calls prog 194 #[.int .i64 n] w (λ e w'=>e= .returned (.tuple #[.int .i64 (gW n), .int .i64 (cp n)])∧Ext w w'):=by
  refine cd (n:=13) func194 Z Z Z ?_;refine aj<|va Z<|va Z<|ai<|az<|bS<|aj<|vm Z<|J (blt Z Z)<|va Z<|ai<| ?_;refine en Z (λ j_=> ?_) (λ j_=> ?_)
  · refine aj<|vm rfl<|J (Yg rfl (bH (by omega)))<|va rfl<|va rfl<|ai<|rt<|eF<|bO<|a8 (.tmp rfl (.tmp rfl .nil))<| ?_
    exact ⟨by unfold gW cp;simp only [*,aTD,aTf];try rfl,(Ext.bI w)⟩
  · refine aj<|vm rfl<|J (h0 rfl rfl)<|va rfl<|ai<| ?_
    refine en Z (λ avj=> ?_) (λ avj=> ?_)
    · refine aj<|vm rfl<|va rfl<|va rfl<|ai<|rt<|eF<|bO<|a8 (.tmp rfl (.tmp rfl .nil))<| ?_
      exact ⟨by unfold gW cp;simp only [*,aTD,aTf];try rfl,(Ext.bI w)⟩
    · refine fo<|bY<|aV<|aj<|va rfl<|va rfl<|ai<|rt<|a8 (.tmp rfl (.tmp rfl .nil))<| ?_
      exact ⟨by unfold gW cp;simp only [*,aTD,aTf];try rfl,(Ext.bI w)⟩
theorem acq (a b:ax) (w:World) (h: -1000≤a.x∧a.x≤1000∧ -1000≤a.y∧a.y≤1000) (aa: -1000≤b.x∧b.x≤1000∧ -1000≤b.y∧b.y≤1000):
    Calls prog 161 #[.agg #[.int .i64 a.x, .int .i64 a.y], .agg #[.int .i64 b.x, .int .i64 b.y]] w (λ e w'=>e= .returned (.tuple #[.int .i64 (a_ a b), .int .i64 (cp (b.x - a.x)+cp (b.y - a.y)), .int .i64 0])∧Ext w w'):=by
  refine cd (n:=43) func161 Z Z Z ?_;refine aj<|cw Z Z Z Z λ cI bJ a7 dY ab=> ?_;have:=a7.size;have bk:=γ (Ext.bI w) a7;have ed:=ab.lt;refine cw Z Z Z Z λ er cu bj ht ae=> ?_;have:=bj.size;have bK:=γ bk bj;have hk:=ae.lt;refine va Z<|va Z<|va Z<|ai<|az<|aj<| ?_;have ab:=ab.later bj;refine J (ak Z (ab.all cg bT))<|ca PB Z Z ((Rh a _ (by omega)).mono ?_);rintro e hD ⟨rfl,fw⟩;refine ⟨_,Z, ?_⟩;have:=fw.size;have cZ:=γ bK fw;refine J (eg Z)<|vm Z<|nO Z Z Z<| ?_;have ae:=ae.later fw;refine J (ak Z (ae.all cg bT))<|nO Z Z Z<|ca PB Z Z ((Rh b _ (by omega)).mono ?_);rintro e uK ⟨rfl,hl⟩;refine ⟨_,Z, ?_⟩;have:=hl.size;have h8:=γ cZ hl;refine nO Z Z Z<|J (eg Z)<|J (s4 Z Z)<|ai<|hM Z<|bt<|aj<|J (au iJ Z)<| ?_;have ae:=ae.later hl;refine J (ak Z (ae.one ba Z))<|J (au iJ Z)<| ?_;have ab:=ab.later (γ fw hl);refine J (ak Z (ab.one ba Z))<|J (mi Z Z (bH (by have:=jg (b.x - a.x);have:=jg (b.y - a.y);omega)))<|ca PD Z Z ((RR (b.x - a.x) _ (by omega)).mono ?_);rintro e zz ⟨rfl,jh⟩;refine ⟨_,Z, ?_⟩;have:=jh.size;have kC:=γ h8 jh;refine vm Z<|J (ex Z Z)<|J (ex Z Z)<|va Z<|va Z<|ai<|aj<|J (au iK Z)<| ?_;have ae:=ae.later jh;refine J (ak Z (ae.one ba Z))<|J (au iK Z)<| ?_;have ab:=ab.later jh;refine J (ak Z (ab.one ba Z))<|J (mi Z Z (bH (by have:=jg (b.x - a.x);have:=jg (b.y - a.y);omega)))<|ca PD Z Z ((RR (b.y - a.y) _ (by omega)).mono ?_);rintro e td ⟨rfl,gg⟩;refine ⟨_,Z, ?_⟩;have:=gg.size;have kf:=γ kC gg;refine vm Z<|J (ex Z Z)<|J (ex Z Z)<|va Z<|va Z<|ai<|aj<|vm Z<|vm Z<|J (mx Z Z)<|vm Z<|vm Z<|J (bad Z Z (bH (by have:=jg (b.x - a.x);have:=jg (b.y - a.y);omega)))<|va Z<|va Z<|va Z<|ai<|rt<|a8 (.tmp Z (.tmp Z (.tmp Z .nil)))<| ?_;exact ⟨Z,kf⟩
theorem aqE (a b:ax) (w:World) (h: -1000≤a.x∧a.x≤1000∧ -1000≤a.y∧a.y≤1000) (aa: -1000≤b.x∧b.x≤1000∧ -1000≤b.y∧b.y≤1000):
    Calls prog 216 #[.agg #[.int .i64 a.x, .int .i64 a.y], .agg #[.int .i64 b.x, .int .i64 b.y]] w (λ e w'=>∃ A c,e= .returned (.tuple #[.slice A (hy a b).length c, .int .i64 0])∧ax.rep.aF 49 16 w' w.heap.size (τ.ag A) A c (hy a b)∧Ext w w'):=by
  refine cd (n:=93) func216 Z Z Z ?_;refine aj<|cw Z Z Z Z λ cI bJ a7 dY ab=> ?_;have:=a7.size;have bk:=γ (Ext.bI w) a7;have ed:=ab.lt;refine cw Z Z Z Z λ er cu bj ht ae=> ?_;have:=bj.size;have bK:=γ bk bj;have hk:=ae.lt;refine va Z<|va Z<|ai<|az<|aj<| ?_;have ab:=ab.later bj;refine J (ak Z (ab.all cg bT))<|ca PB Z Z ((Rh a _ (by omega)).mono ?_);rintro e hD ⟨rfl,fw⟩;refine ⟨_,Z, ?_⟩;have:=fw.size;have cZ:=γ bK fw;refine J (eg Z)<|vm Z<|nO Z Z Z<| ?_;have ae:=ae.later fw;refine J (ak Z (ae.all cg bT))<|nO Z Z Z<|ca PB Z Z ((Rh b _ (by omega)).mono ?_);rintro e uK ⟨rfl,hl⟩;refine ⟨_,Z, ?_⟩;have:=hl.size;have h8:=γ cZ hl;refine nO Z Z Z<|J (eg Z)<|J (s4 Z Z)<|ai<|hM Z<|bt<|aj<|J (au iJ Z)<| ?_;have ae:=ae.later hl;refine J (ak Z (ae.one ba Z))<|J (au iJ Z)<| ?_;have ab:=ab.later (γ fw hl);refine J (ak Z (ab.one ba Z))<|J (mi Z Z (bH (by omega)))<|ca PD Z Z ((RR (b.x - a.x) _ (by omega)).mono ?_);rintro e zz ⟨rfl,jh⟩;refine ⟨_,Z, ?_⟩;have:=jh.size;have kC:=γ h8 jh;refine vm Z<|J (ex Z Z)<|J (ex Z Z)<|va Z<|va Z<|ai<|aj<|J (au iK Z)<| ?_;have ae:=ae.later jh;refine J (ak Z (ae.one ba Z))<|J (au iK Z)<| ?_;have ab:=ab.later jh;refine J (ak Z (ab.one ba Z))<|J (mi Z Z (bH (by omega)))<|ca PD Z Z ((RR (b.y - a.y) _ (by omega)).mono ?_);rintro e td ⟨rfl,gg⟩;refine ⟨_,Z, ?_⟩;have:=gg.size;have kf:=γ kC gg;refine vm Z<|J (ex Z Z)<|J (ex Z Z)<|va Z<|va Z<|ai<|aj<|vm Z<|vm Z<|va Z<|va Z<|ai<|az<|aj<|vm Z<|vm Z<|J (h0 Z Z)<|ai<| ?_;refine en Z (λ CA=> ?_) (λ CA=> ?_)
  · have qF:=jg (b.x - a.x)
    have oS:=jg (b.y - a.y);have ib:a_ a b=cp (b.y - a.y):=by unfold a_;omega
    have Ln:vV a b=cp (b.x - a.x):=by unfold vV;omega
    have K9:decide (cp (b.x - a.x)<cp (b.y - a.y))=true:=by exact aSo CA
    refine rg<|vm Z<|vm Z<|va Z<|va Z<|ai<|aj<| ?_;have ab:=ab.later gg;refine J (ak Z (ab.all cg bT))<|cV (e:= 49) (cs:= [.int .i64 a.x, .int .i64 a.y]) Z (λ _=>by kernel_rfl) Z λ Bm T4 eB aMz aaO=> ?_;have:=eB.size;have lj:=γ kf eB;have aO4:=aaO.lt;refine va Z<|ai<|aj<|va Z<|ai<|az<|aj<|vm Z<|vm Z<|ai<|bS<| ?_;have ab:=ab.later eB;have azm:∀ q∈τ.ag (some ⟨T4,0,none⟩),T4≤q:=λ q I=>aTu (aRP.1 I).symm;refine fk (λ cn cl a1=>∃ k:Nat,∃ jZ:Option Addr,∃ co:Nat,cl= [(2, .pointer (some ⟨bJ,0,none⟩)),(4, .slice none 0 0),(5, .int .i64 0),(6, .int .i64 (gW (b.x - a.x))),(7, .int .i64 (cp (b.x - a.x))),(8, .int .i64 (gW (b.y - a.y))),(9, .int .i64 (cp (b.y - a.y))),(10, .int .i64 (cp (b.y - a.y))),(11, .int .i64 (cp (b.x - a.x))),(12, .slice jZ ((s5 a b k).length) co),(13, .int .i64 ((cP a b k).1)),(50, .int .i64 (cp (b.y - a.y))),(51, .int .i64 (k:Int))]∧cn=(cp (b.y - a.y)).toNat - k∧Ext w a1∧aP a1 bJ [.int .i64 ((cP a b k).2.x), .int .i64 ((cP a b k).2.y)] 49 (0,0)∧ax.rep.aF 49 16 a1 w.heap.size (τ.ag jZ) jZ co (s5 a b k)∧((k:Int)≤cp (b.y - a.y))∧(∀ q∈τ.ag jZ,q=bJ→False)) _ _ ⟨0,some ⟨T4,0,none⟩,1,Z,Z,lj,ab,(aP.vY (R:=ax.rep) (by_:=16) (B:=w.heap.size) (k:= [a]) aaO [[.int .i64 a.x, .int .i64 a.y]] Z ⟨⟨Z,bG.2 (by omega),bG.2 (by omega)⟩,trivial⟩ (by simp) (by simp) (by decide) (by omega)),(by have:=jg (b.y - a.y);have:=jg (b.x - a.x);omega),(λ q I Φ=>by (have:=azm q I;omega))⟩ (.cons Z (.cons Z (.cons Z (.cons Z (.cons Z (.cons Z (.cons Z (.cons Z (.cons Z (.cons Z (.cons (b2 Z (by first | omega | rfl | (simp<;>omega))) (.cons Z (.cons (b2 Z (by first | omega | rfl | (simp<;>omega))) .nil))))))))))))) ?_;rintro uw anH Bo ⟨k,jZ,co,rfl,rfl,kZ,fU,fc,av,Ai⟩;have:=kZ.size;have aBV:=fU.lt;have aQs:=λ q I=>(fc.lt q I).2;have Φ:=ajn a b k;have hp:=ajo a b k;have fh:=IB (b.x - a.x);have gD:=IB (b.y - a.y);have qF:=jg (b.x - a.x);have oS:=jg (b.y - a.y);have nA:=FE a b k;refine aj<|J (blt Z Z)<|ai<|az<| ?_;refine en Z (λ avm=> ?_) (λ avm=> ?_)
    · refine bt<|az<|bS<|aj<|vm rfl<|vm rfl<|J (Ce rfl rfl (bH (by omega)))<|J (bad rfl rfl (bH (by omega)))<|va rfl<|ai<|aj<|vm rfl<|vm rfl<|J (j3 rfl rfl)<|va rfl<|ai<|az<|aj<| ?_
      refine vm Z<|ai<| ?_;refine GU Z (λ KS=> ?_) (λ KS=> ?_)
      · rw [ib] at Φ
        have ES:decide (cp (b.y - a.y)≤((cP a b k).1)+(2 * (cp (b.x - a.x))))=true:=by exact aSo KS
        refine rg<|vm Z<|vm Z<|J (Ce Z Z (bH (by omega)))<|J (mi Z Z (bH (by omega)))<|va Z<|ai<|az<|aj<|vm Z<|vm Z<|J (j3 Z Z)<|vm Z<|aT Z Z Z Z (λ hc=>aH Z) Z<|J (eE Z Z Z Z)<|ai<| ?_;have Wd:((decide (cp (b.y - a.y)≤cp (b.x - a.x))) || (decide (cp (b.y - a.y)≤((cP a b k).1)+(2 * (cp (b.x - a.x))))))=true:=by simp only [aSF,aSj];omega
        refine fB (by rw [← Wd];rfl)<|rg<|J (au iJ Z)<|J (ak Z (fU.one ba Z))<|vm Z<|J (bad Z Z (bH (by omega)))<|J (au iJ Z)<|st (new:= [.int .i64 (((cP a b k).2.x)+(gW (b.x - a.x))), .int .i64 ((cP a b k).2.y)]) Z Z fU Z dr Z Z Z λ Sp kp fU=> ?_;have:=kp.size;have uV:=Ext.mod kZ kp bs;refine ai<|az<|aj<|vm Z<|vm Z<|J (h0 Z Z)<|vm Z<|aT Z Z Z Z (λ hc=>aH Z) Z<|J (eE Z Z Z Z)<|ai<| ?_;have AH:((decide (cp (b.x - a.x)<cp (b.y - a.y))) || (decide (cp (b.y - a.y)≤((cP a b k).1)+(2 * (cp (b.x - a.x))))))=true:=by simp only [aSF,aSj];omega
        refine fB (by rw [← AH];rfl)<|rg<|J (au iK Z)<|J (ak Z (fU.one ba Z))<|vm Z<|J (bad Z Z (bH (by omega)))<|J (au iK Z)<|st (new:= [.int .i64 (((cP a b k).2.x)+(gW (b.x - a.x))), .int .i64 (((cP a b k).2.y)+(gW (b.y - a.y)))]) Z Z fU Z dr Z Z Z λ Nf hB fU=> ?_;have:=hB.size;have tA:=Ext.mod uV hB bs;refine ai<|rg<|vm Z<|J (ak Z (fU.all cg bT))<|cV (e:= 49) (cs:= [.int .i64 (((cP a b k).2.x)+(gW (b.x - a.x))), .int .i64 (((cP a b k).2.y)+(gW (b.y - a.y)))]) Z (λ _=>by kernel_rfl) Z λ ZA aIA wu aMK aaS=> ?_;have:=wu.size;have DO:=γ tA wu;have aBZ:=aaS.lt;have fc:=fc.mod kp (λ q I h=>by have Φ:=aRP.1 h;exfalso;(exact Ai q I Φ));have fc:=fc.mod hB (λ q I h=>by have Φ:=aRP.1 h;exfalso;(exact Ai q I Φ));have fc:=fc.later wu;refine ap Ok τ.dt fc (aP.gC (R:=ax.rep) (by_:=16) (q:=(⟨((cP a b k).2.x)+(gW (b.x - a.x)),((cP a b k).2.y)+(gW (b.y - a.y))⟩:ax)) aaS ⟨Z,⟨bG.2 (by (try dsimp only);omega),bG.2 (by (try dsimp only);omega)⟩⟩ (by decide)) Z Z (by simp only [aRW,aR2];omega) (by simp only [aRW,aR2];omega) DO.size Z λ IX anh aqm nG abZ auu aN4=> ?_;have:=nG.size;have sr:=Ext.mod DO nG (λ q I=>(fc.lt q I).1);have Sd:=λ q I=>(abZ.lt q I).2;have:=nG.size;refine va Z<|nl<|bY<|aV<|rg<|J (bad Z Z (bH (by omega)))<|vm Z<|nl<| ?_;have bc:cP a b (k+1)=((((cP a b k).1)+(2 * (cp (b.x - a.x)))) - (2 * (cp (b.y - a.y))),⟨((cP a b k).2.x)+(gW (b.x - a.x)),((cP a b k).2.y)+(gW (b.y - a.y))⟩):=by
          show p2 a b (cP a b k)=_;unfold p2;simp only [ib,Ln,K9,ES,aTD,aTf,aVG,aVF,aVl,aUN,aSK,aUG,aUw,aT9,aVf]
        have bl:=Ru a b k;rw [bc] at bl;have cH:(s5 a b (k+1)).length=k+2:=FE a b (k+1);have fU:=fU.later wu;have fU:=fU.mod nG (λ I=>Ai _ I rfl);exact c' _ _ ⟨k+1,anh,aqm,Z,Z,sr,(by rw [bc];exact fU),(by rw [bl];exact abZ),by omega,(λ q I Φ=>by (exact aR4 (auu q I) (λ aiN=>by (exact Ai q aiN Φ)) (λ aiN=>by omega)))⟩ (by omega) (.cons Z (.cons Z (.cons Z (.cons Z (.cons Z (.cons Z (.cons Z (.cons Z (.cons Z (.cons (by rw [bl];rfl) (.cons (b2 Z (by rw [bc])) (.cons Z (.cons (b2 Z (by first | omega | rfl | (simp<;>omega))) .nil)))))))))))))
      · rw [ib] at Φ
        have ES:decide (cp (b.y - a.y)≤((cP a b k).1)+(2 * (cp (b.x - a.x))))=false:=by exact aSt KS
        refine bt<|az<|aj<|vm Z<|vm Z<|J (j3 Z Z)<|vm Z<|aT Z Z Z Z (λ hc=>aH Z) Z<|J (eE Z Z Z Z)<|ai<| ?_;have avt:((decide (cp (b.y - a.y)≤cp (b.x - a.x))) || (decide (cp (b.y - a.y)≤((cP a b k).1)+(2 * (cp (b.x - a.x))))))=false:=by simp only [aSD,aSC];omega
        refine hM (by rw [← avt];rfl)<|bt<|az<|aj<|vm Z<|vm Z<|J (h0 Z Z)<|vm Z<|aT Z Z Z Z (λ hc=>aH Z) Z<|J (eE Z Z Z Z)<|ai<| ?_;have Wi:((decide (cp (b.x - a.x)<cp (b.y - a.y))) || (decide (cp (b.y - a.y)≤((cP a b k).1)+(2 * (cp (b.x - a.x))))))=true:=by simp only [aSF,aSj];omega
        refine fB (by rw [← Wi];rfl)<|rg<|J (au iK Z)<|J (ak Z (fU.one ba Z))<|vm Z<|J (bad Z Z (bH (by omega)))<|J (au iK Z)<|st (new:= [.int .i64 ((cP a b k).2.x), .int .i64 (((cP a b k).2.y)+(gW (b.y - a.y)))]) Z Z fU Z dr Z Z Z λ I1 za fU=> ?_;have:=za.size;have BC:=Ext.mod kZ za bs;refine ai<|rg<|vm Z<|J (ak Z (fU.all cg bT))<|cV (e:= 49) (cs:= [.int .i64 ((cP a b k).2.x), .int .i64 (((cP a b k).2.y)+(gW (b.y - a.y)))]) Z (λ _=>by kernel_rfl) Z λ ZF aII hV aMU aaW=> ?_;have:=hV.size;have uZ:=γ BC hV;have aPq:=aaW.lt;have fc:=fc.mod za (λ q I h=>by have Φ:=aRP.1 h;exfalso;(exact Ai q I Φ));have fc:=fc.later hV;refine ap Ok τ.dt fc (aP.gC (R:=ax.rep) (by_:=16) (q:=(⟨(cP a b k).2.x,((cP a b k).2.y)+(gW (b.y - a.y))⟩:ax)) aaW ⟨Z,⟨bG.2 (by (try dsimp only);omega),bG.2 (by (try dsimp only);omega)⟩⟩ (by decide)) Z Z (by simp only [aRW,aR2];omega) (by simp only [aRW,aR2];omega) uZ.size Z λ Ss ank aqq sZ ab2 auw aN9=> ?_;have:=sZ.size;have zF:=Ext.mod uZ sZ (λ q I=>(fc.lt q I).1);have aQF:=λ q I=>(ab2.lt q I).2;have:=sZ.size;refine va Z<|nl<|bY<|aV<|rg<|J (bad Z Z (bH (by omega)))<|vm Z<|nl<| ?_;have bc:cP a b (k+1)=(((cP a b k).1)+(2 * (cp (b.x - a.x))),⟨(cP a b k).2.x,((cP a b k).2.y)+(gW (b.y - a.y))⟩):=by
          show p2 a b (cP a b k)=_;unfold p2;simp only [ib,Ln,K9,ES,aTD,aTf,aVG,aVF,aVl,aUN,aSK,aUG,aUw,aT9,aVf]
        have bl:=Ru a b k;rw [bc] at bl;have cH:(s5 a b (k+1)).length=k+2:=FE a b (k+1);have fU:=fU.later hV;have fU:=fU.mod sZ (λ I=>Ai _ I rfl);exact c' _ _ ⟨k+1,ank,aqq,Z,Z,zF,(by rw [bc];exact fU),(by rw [bl];exact ab2),by omega,(λ q I Φ=>by (exact aR4 (auw q I) (λ aiR=>by (exact Ai q aiR Φ)) (λ aiR=>by omega)))⟩ (by omega) (.cons Z (.cons Z (.cons Z (.cons Z (.cons Z (.cons Z (.cons Z (.cons Z (.cons Z (.cons (by rw [bl];rfl) (.cons (b2 Z (by rw [bc])) (.cons Z (.cons (b2 Z (by first | omega | rfl | (simp<;>omega))) .nil)))))))))))))
    · refine dK<|dJ<|ei<|dI<|aV<|aj<|vm rfl<|va rfl<|va rfl<|ai<|rt<|a8 (.tmp rfl (.tmp rfl .nil))<| ?_
      have pY:k=(a_ a b).toNat:=by omega
      subst pY;exact ⟨jZ,co,Z,fc,kZ⟩
  · have qF:=jg (b.x - a.x)
    have oS:=jg (b.y - a.y);have ib:a_ a b=cp (b.x - a.x):=by unfold a_;omega
    have Ln:vV a b=cp (b.y - a.y):=by unfold vV;omega
    have K9:decide (cp (b.x - a.x)<cp (b.y - a.y))=false:=by exact aSt CA
    refine bt<|aj<| ?_;have ab:=ab.later gg;refine J (ak Z (ab.all cg bT))<|cV (e:= 49) (cs:= [.int .i64 a.x, .int .i64 a.y]) Z (λ _=>by kernel_rfl) Z λ ams T9 l_ aL6 aax=> ?_;have:=l_.size;have NJ:=γ kf l_;have aks:=aax.lt;refine va Z<|ai<|aj<|va Z<|ai<|az<|aj<|vm Z<|vm Z<|ai<|bS<| ?_;have ab:=ab.later l_;have Q2:∀ q∈τ.ag (some ⟨T9,0,none⟩),T9≤q:=λ q I=>aTu (aRP.1 I).symm;refine fk (λ cn cl a1=>∃ k:Nat,∃ jZ:Option Addr,∃ co:Nat,cl= [(2, .pointer (some ⟨bJ,0,none⟩)),(4, .slice none 0 0),(5, .int .i64 0),(6, .int .i64 (gW (b.x - a.x))),(7, .int .i64 (cp (b.x - a.x))),(8, .int .i64 (gW (b.y - a.y))),(9, .int .i64 (cp (b.y - a.y))),(10, .int .i64 (cp (b.x - a.x))),(11, .int .i64 (cp (b.y - a.y))),(12, .slice jZ ((s5 a b k).length) co),(13, .int .i64 ((cP a b k).1)),(50, .int .i64 (cp (b.x - a.x))),(51, .int .i64 (k:Int))]∧cn=(cp (b.x - a.x)).toNat - k∧Ext w a1∧aP a1 bJ [.int .i64 ((cP a b k).2.x), .int .i64 ((cP a b k).2.y)] 49 (0,0)∧ax.rep.aF 49 16 a1 w.heap.size (τ.ag jZ) jZ co (s5 a b k)∧((k:Int)≤cp (b.x - a.x))∧(∀ q∈τ.ag jZ,q=bJ→False)) _ _ ⟨0,some ⟨T9,0,none⟩,1,Z,Z,NJ,ab,(aP.vY (R:=ax.rep) (by_:=16) (B:=w.heap.size) (k:= [a]) aax [[.int .i64 a.x, .int .i64 a.y]] Z ⟨⟨Z,bG.2 (by omega),bG.2 (by omega)⟩,trivial⟩ (by simp) (by simp) (by decide) (by omega)),(by have:=jg (b.y - a.y);have:=jg (b.x - a.x);omega),(λ q I Φ=>by (have:=Q2 q I;omega))⟩ (.cons Z (.cons Z (.cons Z (.cons Z (.cons Z (.cons Z (.cons Z (.cons Z (.cons Z (.cons Z (.cons (b2 Z (by first | omega | rfl | (simp<;>omega))) (.cons Z (.cons (b2 Z (by first | omega | rfl | (simp<;>omega))) .nil))))))))))))) ?_;rintro H0 aG3 Sl ⟨k,jZ,co,rfl,rfl,zC,fU,fc,av,Ew⟩;have:=zC.size;have aOz:=fU.lt;have aDR:=λ q I=>(fc.lt q I).2;have Φ:=ajn a b k;have hp:=ajo a b k;have fh:=IB (b.x - a.x);have gD:=IB (b.y - a.y);have qF:=jg (b.x - a.x);have oS:=jg (b.y - a.y);have nA:=FE a b k;refine aj<|J (blt Z Z)<|ai<|az<| ?_;refine en Z (λ au6=> ?_) (λ au6=> ?_)
    · refine bt<|az<|bS<|aj<|vm rfl<|vm rfl<|J (Ce rfl rfl (bH (by omega)))<|J (bad rfl rfl (bH (by omega)))<|va rfl<|ai<|aj<|vm rfl<|vm rfl<|J (j3 rfl rfl)<|va rfl<|ai<|az<|aj<| ?_
      refine vm Z<|ai<| ?_;refine GU Z (λ V9=> ?_) (λ V9=> ?_)
      · rw [ib] at Φ
        have ES:decide (cp (b.x - a.x)≤((cP a b k).1)+(2 * (cp (b.y - a.y))))=true:=by exact aSo V9
        refine rg<|vm Z<|vm Z<|J (Ce Z Z (bH (by omega)))<|J (mi Z Z (bH (by omega)))<|va Z<|ai<|az<|aj<|vm Z<|vm Z<|J (j3 Z Z)<|vm Z<|aT Z Z Z Z (λ hc=>aH Z) Z<|J (eE Z Z Z Z)<|ai<| ?_;have au7:((decide (cp (b.y - a.y)≤cp (b.x - a.x))) || (decide (cp (b.x - a.x)≤((cP a b k).1)+(2 * (cp (b.y - a.y))))))=true:=by simp only [aSF,aSj];omega
        refine fB (by rw [← au7];rfl)<|rg<|J (au iJ Z)<|J (ak Z (fU.one ba Z))<|vm Z<|J (bad Z Z (bH (by omega)))<|J (au iJ Z)<|st (new:= [.int .i64 (((cP a b k).2.x)+(gW (b.x - a.x))), .int .i64 ((cP a b k).2.y)]) Z Z fU Z dr Z Z Z λ Zx n' fU=> ?_;have:=n'.size;have Gc:=Ext.mod zC n' bs;refine ai<|az<|aj<|vm Z<|vm Z<|J (h0 Z Z)<|vm Z<|aT Z Z Z Z (λ hc=>aH Z) Z<|J (eE Z Z Z Z)<|ai<| ?_;have au8:((decide (cp (b.x - a.x)<cp (b.y - a.y))) || (decide (cp (b.x - a.x)≤((cP a b k).1)+(2 * (cp (b.y - a.y))))))=true:=by simp only [aSF,aSj];omega
        refine fB (by rw [← au8];rfl)<|rg<|J (au iK Z)<|J (ak Z (fU.one ba Z))<|vm Z<|J (bad Z Z (bH (by omega)))<|J (au iK Z)<|st (new:= [.int .i64 (((cP a b k).2.x)+(gW (b.x - a.x))), .int .i64 (((cP a b k).2.y)+(gW (b.y - a.y)))]) Z Z fU Z dr Z Z Z λ aEI X0 fU=> ?_;have:=X0.size;have ZX:=Ext.mod Gc X0 bs;refine ai<|rg<|vm Z<|J (ak Z (fU.all cg bT))<|cV (e:= 49) (cs:= [.int .i64 (((cP a b k).2.x)+(gW (b.x - a.x))), .int .i64 (((cP a b k).2.y)+(gW (b.y - a.y)))]) Z (λ _=>by kernel_rfl) Z λ aEK aIb SJ aMf aaC=> ?_;have:=SJ.size;have SP:=γ ZX SJ;have aOI:=aaC.lt;have fc:=fc.mod n' (λ q I h=>by have Φ:=aRP.1 h;exfalso;(exact Ew q I Φ));have fc:=fc.mod X0 (λ q I h=>by have Φ:=aRP.1 h;exfalso;(exact Ew q I Φ));have fc:=fc.later SJ;refine ap Ok τ.dt fc (aP.gC (R:=ax.rep) (by_:=16) (q:=(⟨((cP a b k).2.x)+(gW (b.x - a.x)),((cP a b k).2.y)+(gW (b.y - a.y))⟩:ax)) aaC ⟨Z,⟨bG.2 (by (try dsimp only);omega),bG.2 (by (try dsimp only);omega)⟩⟩ (by decide)) Z Z (by simp only [aRW,aR2];omega) (by simp only [aRW,aR2];omega) SP.size Z λ Zz am6 aqd y4 abP aur aNJ=> ?_;have:=y4.size;have Gd:=Ext.mod SP y4 (λ q I=>(fc.lt q I).1);have alS:=λ q I=>(abP.lt q I).2;have:=y4.size;refine va Z<|nl<|bY<|aV<|rg<|J (bad Z Z (bH (by omega)))<|vm Z<|nl<| ?_;have bc:cP a b (k+1)=((((cP a b k).1)+(2 * (cp (b.y - a.y)))) - (2 * (cp (b.x - a.x))),⟨((cP a b k).2.x)+(gW (b.x - a.x)),((cP a b k).2.y)+(gW (b.y - a.y))⟩):=by
          show p2 a b (cP a b k)=_;unfold p2;simp only [ib,Ln,K9,ES,aTD,aTf,aVG,aVF,aVl,aUN,aSK,aUG,aUw,aT9,aVf]
        have bl:=Ru a b k;rw [bc] at bl;have cH:(s5 a b (k+1)).length=k+2:=FE a b (k+1);have fU:=fU.later SJ;have fU:=fU.mod y4 (λ I=>Ew _ I rfl);exact c' _ _ ⟨k+1,am6,aqd,Z,Z,Gd,(by rw [bc];exact fU),(by rw [bl];exact abP),by omega,(λ q I Φ=>by (exact aR4 (aur q I) (λ ahR=>by (exact Ew q ahR Φ)) (λ ahR=>by omega)))⟩ (by omega) (.cons Z (.cons Z (.cons Z (.cons Z (.cons Z (.cons Z (.cons Z (.cons Z (.cons Z (.cons (by rw [bl];rfl) (.cons (b2 Z (by rw [bc])) (.cons Z (.cons (b2 Z (by first | omega | rfl | (simp<;>omega))) .nil)))))))))))))
      · rw [ib] at Φ
        have ES:decide (cp (b.x - a.x)≤((cP a b k).1)+(2 * (cp (b.y - a.y))))=false:=by exact aSt V9
        refine bt<|az<|aj<|vm Z<|vm Z<|J (j3 Z Z)<|vm Z<|aT Z Z Z Z (λ hc=>aH Z) Z<|J (eE Z Z Z Z)<|ai<| ?_;have ave:((decide (cp (b.y - a.y)≤cp (b.x - a.x))) || (decide (cp (b.x - a.x)≤((cP a b k).1)+(2 * (cp (b.y - a.y))))))=true:=by simp only [aSF,aSj];omega
        refine fB (by rw [← ave];rfl)<|rg<|J (au iJ Z)<|J (ak Z (fU.one ba Z))<|vm Z<|J (bad Z Z (bH (by omega)))<|J (au iJ Z)<|st (new:= [.int .i64 (((cP a b k).2.x)+(gW (b.x - a.x))), .int .i64 ((cP a b k).2.y)]) Z Z fU Z dr Z Z Z λ aEP y5 fU=> ?_;have:=y5.size;have Z1:=Ext.mod zC y5 bs;refine ai<|az<|aj<|vm Z<|vm Z<|J (h0 Z Z)<|vm Z<|aT Z Z Z Z (λ hc=>aH Z) Z<|J (eE Z Z Z Z)<|ai<| ?_;have avf:((decide (cp (b.x - a.x)<cp (b.y - a.y))) || (decide (cp (b.x - a.x)≤((cP a b k).1)+(2 * (cp (b.y - a.y))))))=false:=by simp only [aSD,aSC];omega
        refine hM (by rw [← avf];rfl)<|bt<|rg<|vm Z<|J (ak Z (fU.all cg bT))<|cV (e:= 49) (cs:= [.int .i64 (((cP a b k).2.x)+(gW (b.x - a.x))), .int .i64 ((cP a b k).2.y)]) Z (λ _=>by kernel_rfl) Z λ amj aIi ot aMm aaH=> ?_;have:=ot.size;have Jj:=γ Z1 ot;have aOR:=aaH.lt;have fc:=fc.mod y5 (λ q I h=>by have Φ:=aRP.1 h;exfalso;(exact Ew q I Φ));have fc:=fc.later ot;refine ap Ok τ.dt fc (aP.gC (R:=ax.rep) (by_:=16) (q:=(⟨((cP a b k).2.x)+(gW (b.x - a.x)),(cP a b k).2.y⟩:ax)) aaH ⟨Z,⟨bG.2 (by (try dsimp only);omega),bG.2 (by (try dsimp only);omega)⟩⟩ (by decide)) Z Z (by simp only [aRW,aR2];omega) (by simp only [aRW,aR2];omega) Jj.size Z λ aES am8 aqf Q_ abR aus aNO=> ?_;have:=Q_.size;have Z4:=Ext.mod Jj Q_ (λ q I=>(fc.lt q I).1);have aQg:=λ q I=>(abR.lt q I).2;have:=Q_.size;refine va Z<|nl<|bY<|aV<|rg<|J (bad Z Z (bH (by omega)))<|vm Z<|nl<| ?_;have bc:cP a b (k+1)=(((cP a b k).1)+(2 * (cp (b.y - a.y))),⟨((cP a b k).2.x)+(gW (b.x - a.x)),(cP a b k).2.y⟩):=by
          show p2 a b (cP a b k)=_;unfold p2;simp only [ib,Ln,K9,ES,aTD,aTf,aVG,aVF,aVl,aUN,aSK,aUG,aUw,aT9,aVf]
        have bl:=Ru a b k;rw [bc] at bl;have cH:(s5 a b (k+1)).length=k+2:=FE a b (k+1);have fU:=fU.later ot;have fU:=fU.mod Q_ (λ I=>Ew _ I rfl);exact c' _ _ ⟨k+1,am8,aqf,Z,Z,Z4,(by rw [bc];exact fU),(by rw [bl];exact abR),by omega,(λ q I Φ=>by (exact aR4 (aus q I) (λ ahX=>by (exact Ew q ahX Φ)) (λ ahX=>by omega)))⟩ (by omega) (.cons Z (.cons Z (.cons Z (.cons Z (.cons Z (.cons Z (.cons Z (.cons Z (.cons Z (.cons (by rw [bl];rfl) (.cons (b2 Z (by rw [bc])) (.cons Z (.cons (b2 Z (by first | omega | rfl | (simp<;>omega))) .nil)))))))))))))
    · refine dK<|dJ<|ei<|dI<|aV<|aj<|vm rfl<|va rfl<|va rfl<|ai<|rt<|a8 (.tmp rfl (.tmp rfl .nil))<| ?_
      have pY:k=(a_ a b).toNat:=by omega
      subst pY;exact ⟨jZ,co,Z,fc,zC⟩
end
section
def tT (p:Int):Int:=if p=0∨p=3 then 2 else if p=2 then 3 else 0
def vn (p:Int):Int:=if p=0∨p=3 then 0 else if p=2 then 0 else if p=1 then 9 else 1
def dV (c:ax):List ax:= [⟨c.x,c.y - 1⟩,⟨c.x - 1,c.y⟩,⟨c.x+1,c.y⟩,⟨c.x,c.y+1⟩]
namespace aD
section
variable {f:aD} {c d x y b:ax} {l a_:List Int} {v:Int}
def gF (f:aD) (c:ax):Int:=if f.place c=2 then 3 else 2
def cS (f:aD) (c:ax):List ax:=(dV c).filter f.ground
def at_ (f:aD) (c:ax):Nat:=(c.y * f.wide+c.x).toNat
def aA (f:aD) (a_:List Int) (c:ax):Int:=if f.fi c then a_.getD (f.at_ c) (-1) else -1
def kL (b c:ax):Int:=2 * (cp (b.x - c.x)+cp (b.y - c.y))
theorem Cx (h:f.ground c=true):f.place c≠1:=by unfold ground at h;rw [aRY] at h;simpa using h.2
theorem afq (h:f.fi c=true) (aa:f.place c≠1):f.ground c=true:=by unfold ground;rw [h];simpa using aa
theorem p1:2≤f.gF c∧f.gF c≤3:=by unfold gF;split<;>omega
theorem Mu:y∈f.cS x↔y∈dV x∧f.ground y=true:=by unfold cS;rw [aUb]
theorem X':y∈dV x↔(y=⟨x.x,x.y - 1⟩∨y=⟨x.x - 1,x.y⟩∨y=⟨x.x+1,x.y⟩∨y=⟨x.x,x.y+1⟩):=by unfold dV;simp
theorem Y6 (h:y∈dV x):x∈dV y:=by
 rw [X'] at h ⊢;obtain ⟨a,b⟩:=x;rcases h with rfl | rfl | rfl | rfl
 ·right;right;right;simp
 ·right;right;left;simp
 ·right;left;simp
 ·left;simp
theorem aCU (h:y∈dV x):y≠x:=by
 rw [X'] at h;obtain ⟨a,b⟩:=x;rcases h with rfl | rfl | rfl | rfl<;>simp<;>omega
theorem Vk (b:ax) (h:y∈dV x):kL b x≤2+kL b y:=by
 rw [X'] at h;obtain ⟨eL,e9⟩:=x;have e:∀ n:Int,cp n≤1+cp (n+1)∧cp n≤1+cp (n - 1):=λ n=>by
  have κ:=jg n;have aa:=jg (n+1);have aw:=jg (n - 1);rcases (show n<0∨0≤n by omega) with hn | hn
  ·have:=κ.2.2.2 hn;rcases (show n+1<0∨0≤n+1 by omega) with hm | hm
   ·have:=aa.2.2.2 hm;have:=aw.2.2.2 (by omega);omega
   ·have:=aa.2.2.1 hm;have:=aw.2.2.2 (by omega);omega
  ·have:=κ.2.2.1 hn;have:=aa.2.2.1 (by omega);rcases (show n - 1<0∨0≤n - 1 by omega) with hm | hm
   ·have:=aw.2.2.2 hm;omega
   ·have:=aw.2.2.1 hm;omega
 unfold kL;rcases h with rfl | rfl | rfl | rfl<;>dsimp only
 ·have:=(e (b.y - e9)).1;rw [show b.y - (e9 - 1)=b.y - e9+1 by omega];omega
 ·have:=(e (b.x - eL)).1;rw [show b.x - (eL - 1)=b.x - eL+1 by omega];omega
 ·have:=(e (b.x - eL)).2;rw [show b.x - (eL+1)=b.x - eL - 1 by omega];omega
 ·have:=(e (b.y - e9)).2;rw [show b.y - (e9+1)=b.y - e9 - 1 by omega];omega
theorem aeU (b c:ax):0≤kL b c:=by have:=jg (b.x - c.x);have:=jg (b.y - c.y);unfold kL;omega
theorem Vj (b:ax):kL b b=0:=by unfold kL;rw [aVC,aVC];rfl
theorem Ro (f:aD) (b:ax):qq.iY f.cS f.gF (kL b):=⟨λ x y _=>by have:=f.p1 (c:=y);omega,aeU b,λ x y aK=>by
 have:=Vk b (Mu.1 aK).1;have:=f.p1 (c:=y);omega⟩
theorem Yp (f:aD):qq.iY f.cS f.gF (λ _=>0):=⟨λ x y _=>by have:=f.p1 (c:=y);omega,λ _=>aTh 0,λ x y aK=>by have:=f.p1 (c:=y);omega⟩
theorem acu (hf:f.bp=0) (hc:f.fi c=true) (hd:f.fi d=true) (h:f.at_ c=f.at_ d):c=d:=by
 obtain ⟨a0,cf,a2,a3,a4,a5⟩:=idx hf hc;obtain ⟨J8,kH,eZ,gT,Ad,J9⟩:=idx hf hd;unfold at_ at h;have e:c.y * f.wide+c.x=d.y * f.wide+d.x:=by omega
 have bc:(c.y * f.wide+c.x) % f.wide=c.x:=by rw [aVE,aUz,aVD a2 a3]
 have bl:(d.y * f.wide+d.x) % f.wide=d.x:=by rw [aVE,aUz,aVD eZ gT]
 have ex:c.x=d.x:=by rw [← bc,← bl,e]
 have PK:c.y * f.wide=d.y * f.wide:=by omega
 have PK:c.y=d.y:=Int.eq_of_mul_eq_mul_right (by omega) PK;cases c;cases d;simp at ex PK;rw [ex,PK]
theorem yy (hf:f.bp=0) (hc:f.fi c=true):f.at_ c<f.aS.length∧((f.at_ c:Nat):Int)=c.y * f.wide+c.x:=by
 obtain ⟨a0,cf,_⟩:=idx hf hc;unfold at_;omega
theorem Hi (hc:f.fi c=true):f.aA a_ c=a_.getD (f.at_ c) (-1):=by unfold aA;rw [aR5 hc]
theorem Vz (hc:f.fi c=false):f.aA a_ c= -1:=by unfold aA;rw [aR0 (by rw [hc];decide)]
theorem PT (hf:f.bp=0) (aB:a_.length=f.aS.length) (hc:f.fi c=true):f.aA (a_.set (f.at_ c) v) c=v:=by
 rw [Hi hc,aRQ,aSg (by rw [aB];exact (yy hf hc).1)];rfl
theorem PU (hf:f.bp=0) (hc:f.fi c=true) (ff:d≠c):f.aA (a_.set (f.at_ c) v) d=f.aA a_ d:=by
 cases hd:f.fi d with
 | false=>rw [Vz hd,Vz hd]
 | true=>rw [Hi hd,Hi hd,aRQ,aRQ,aSl (λ e=>ff (acu hf hd hc e.symm))]
end
end aD
def und:List Int→Nat
 | []=>0
 | x::r=>(if x<0 then 1 else 0)+und r
theorem al2:∀ l:List Int,und l≤l.length
 | []=>aR3 _
 | x::r=>by have:=al2 r;rw [und,aRW];split<;>omega
theorem al3 {v:Int} (hv:0≤v):∀ (l:List Int) (i:Nat),i<l.length→l.getD i (-1)<0→und (l.set i v)+1=und l
 | [],i,h,_=>by simp at h
 | x::r,0,_,h=>by
  have h:x<0:=h;rw [aTM,und,und,aR0 (by omega),aR5 h];omega
 | x::r,i+1,h,aa=>by
  have:=al3 hv r i (by simpa using h) (by simpa using aa);rw [aTN,und,und];omega
theorem Zr {n:Nat}:und (List.replicate n (-1))=n:=by
 induction n with
 | zero=>rfl
 | succ n bF=>rw [aWw,und,bF];simp;omega
structure iH {β:Type} [Inhabited β] (gA:β→ax) (au jc:β→Int) (f:aD) (h:ax→Int) (src:ax→Prop) (a_:List Int) (l:List β) (dc:ax) (rest:List ax):Prop where
 len:a_.length=f.aS.length
 inv:qq.Inv f.cS f.gF h src (f.aA a_) (l.map λ n=>(gA n,au n)) dc rest
 hp:ct.Heap jc l.length l
 all:∀ n∈l,jc n=au n+h (gA n)∧f.ground (gA n)=true
 cE:∀ c,f.aA a_ c+3 * (und a_:Int)≤3 * (f.aS.length:Int)
 gr:∀ c,0≤f.aA a_ c→f.ground c=true
section
variable {β:Type} [Inhabited β] {gA:β→ax} {au jc:β→Int} {f:aD} {h:ax→Int} {src:ax→Prop} {a_:List Int} {l:List β} {dc y:ax} {rest:List ax} {n:β} {j:Nat}
theorem iH.aeV (s:iH gA au jc f h src a_ l dc rest) (o:qq.iY f.cS f.gF h) (hn:n∈l):0≤au n∧au n+3 * (und a_:Int)≤3 * (f.aS.length:Int)+3:=by
 have hm:(gA n,au n)∈l.map λ n=>(gA n,au n):=aSz.2 ⟨n,hn,rfl⟩;have hr:=s.inv.akG hm;refine ⟨hr.qQ o, ?_⟩;have hu:=al2 a_;have:=s.len;rcases s.inv.q _ hm with ⟨_,aa⟩ | ⟨p,κ,aa,aw⟩
 ·have aa:au n=0:=aa;omega
 ·have aw:au n=f.aA a_ p+f.gF (gA n):=aw;have:=s.cE p;have:=f.p1 (c:=gA n);omega
theorem iH.aj9 (aG:0<l.length):(l.map λ n=>(gA n,au n)).Perm ((gA (l.getD 0 default),au (l.getD 0 default))::(ct.oh jc l).map λ n=>(gA n,au n)):=
 ((ct.aki (key:=jc) aG).symm.map _)
theorem iH.least (s:iH gA au jc f h src a_ l dc rest) (aG:0<l.length):∀ e∈l.map λ n=>(gA n,au n),au (l.getD 0 default)+h (gA (l.getD 0 default))≤e.2+h e.1:=by
 intro e he;obtain ⟨n,hn,rfl⟩:=aSz.1 he;have κ:=s.hp.least n hn;rw [(s.all n hn).1,(s.all _ (jd aG)).1] at κ;exact κ
theorem iH.sub (aG:0<l.length) (hn:n∈ct.oh jc l):n∈l:=(ct.aki (key:=jc) aG).subset (aR7 _ hn)
theorem iH.aCW (s:iH gA au jc f h src a_ l dc []) (aG:0<l.length) (hd:0≤f.aA a_ (gA (l.getD 0 default))):iH gA au jc f h src a_ (ct.oh jc l) dc [] :=
 ⟨s.len,s.inv.aBm (iH.aj9 aG) hd,ct.akh s.hp aG,λ n hn=>s.all n (iH.sub aG hn),s.cE,s.gr⟩
theorem iH.new (s:iH gA au jc f h src a_ l dc []) (hf:f.bp=0) (o:qq.iY f.cS f.gF h) (aG:0<l.length) (hd:f.aA a_ (gA (l.getD 0 default))<0):
  iH gA au jc f h src (a_.set (f.at_ (gA (l.getD 0 default))) (au (l.getD 0 default))) (ct.oh jc l) (gA (l.getD 0 default)) (f.cS (gA (l.getD 0 default)))∧und (a_.set (f.at_ (gA (l.getD 0 default))) (au (l.getD 0 default)))+1=und a_:=by
 have aO:=(s.all _ (jd aG (d:=default))).2;have ar:=aD.j8 aO;have Φ:=s.aeV o (jd aG (d:=default));have hu:und (a_.set (f.at_ (gA (l.getD 0 default))) (au (l.getD 0 default)))+1=und a_:=al3 Φ.1 a_ _ (by rw [s.len];exact (aD.yy hf ar).1) (by rw [aD.Hi ar] at hd;exact hd);refine ⟨⟨by rw [aR1];exact s.len,(s.inv.aBl o (iH.aj9 aG) hd (s.least aG) (aD.PT hf s.len ar) (λ z bE=>aD.PU hf ar bE)).1,ct.akh s.hp aG,λ n hn=>s.all n (iH.sub aG hn),λ c=> ?_,λ c hc=> ?_⟩,hu⟩
 ·by_cases e:c=gA (l.getD 0 default)
  ·rw [e,aD.PT hf s.len ar];omega
  ·rw [aD.PU hf ar e];have:=s.cE c;omega
 ·by_cases e:c=gA (l.getD 0 default)
  ·rw [e];exact aO
  ·rw [aD.PU hf ar e] at hc;exact s.gr c hc
theorem iH.push (s:iH gA au jc f h src a_ l dc (y::rest)) (o:qq.iY f.cS f.gF h) (aO:f.ground y=true) (κ:gA n=y) (aa:au n=f.aA a_ dc+f.gF y) (aw:jc n=au n+h y):iH gA au jc f h src a_ (ct.push jc l n) dc rest:=by
 refine ⟨s.len,s.inv.push o ?_,ct.aBC s.hp,λ m hm=> ?_,s.cE,s.gr⟩
 ·have:=(ct.akn (key:=jc) (l:=l) (x:=n)).map λ n=>(gA n,au n);rw [aSH,κ,aa] at this;exact this
 ·rcases aSc.1 ((ct.akn (key:=jc)).subset hm) with rfl | hm
  ·rw [κ];exact ⟨aw,aO⟩
  ·exact s.all m hm
theorem iH.pass (s:iH gA au jc f h src a_ l dc (y::rest)) (aK:0≤f.aA a_ y):iH gA au jc f h src a_ l dc rest:=⟨s.len,s.inv.skip aK,s.hp,s.all,s.cE,s.gr⟩
theorem Y5 {f:aD} {x:ax} {j:Nat} (ay:j<4):((dV x).drop j).filter f.ground=if f.ground ((dV x).getD j default) then (dV x).getD j default::((dV x).drop (j+1)).filter f.ground else ((dV x).drop (j+1)).filter f.ground:=by
 have aB:(dV x).length=4:=rfl;rw [aTB (by omega),aTj,nu (by omega)]
theorem iH.azt (s:iH gA au jc f h src a_ l dc (((dV dc).drop j).filter f.ground)) (ay:j<4) (aO:f.ground ((dV dc).getD j default)=false):iH gA au jc f h src a_ l dc (((dV dc).drop (j+1)).filter f.ground):=by
 rw [Y5 ay,aR0 (by rw [aO];decide)] at s;exact s
theorem iH.azr (s:iH gA au jc f h src a_ l dc (((dV dc).drop j).filter f.ground)) (ay:j<4) (aK:0≤f.aA a_ ((dV dc).getD j default)) (aO:f.ground ((dV dc).getD j default)=true):iH gA au jc f h src a_ l dc (((dV dc).drop (j+1)).filter f.ground):=by
 rw [Y5 ay,aR5 aO] at s;exact s.pass aK
theorem iH.azs (s:iH gA au jc f h src a_ l dc (((dV dc).drop j).filter f.ground)) (o:qq.iY f.cS f.gF h) (ay:j<4) (aO:f.ground ((dV dc).getD j default)=true) (κ:gA n=(dV dc).getD j default) (aa:au n=f.aA a_ dc+f.gF ((dV dc).getD j default)) (aw:jc n=au n+h ((dV dc).getD j default)):
  iH gA au jc f h src a_ (ct.push jc l n) dc (((dV dc).drop (j+1)).filter f.ground):=by
 rw [Y5 ay,aR5 aO] at s;exact s.push o aO κ aa aw
end
end
section
structure cb where
 cell:ax
 a_:Int
 all:Int
 deriving DecidableEq,Inhabited
namespace cb
def cells (a:cb):List Value:= [.int .i64 (a.cell.x), .int .i64 (a.cell.y), .int .i64 (a.a_), .int .i64 (a.all)]
def ok (a:cb):Prop:=(Lit.int .i64 a.cell.x).wf=true∧(Lit.int .i64 a.cell.y).wf=true∧(Lit.int .i64 a.a_).wf=true∧(Lit.int .i64 a.all).wf=true
def raw (j:Nat) (u:Value):Prop:=match j with
 | 0=>∃ n:Int,u= .int .i64 n
 | 1=>∃ n:Int,u= .int .i64 n
 | 2=>∃ n:Int,u= .int .i64 n
 | 3=>∃ n:Int,u= .int .i64 n
 | _=>True
theorem rr (a:cb):∀ (j:Nat) u,a.cells[j]? =some u→raw j u:=by
 intro j u hu
 match j,hu with
 | 0,hu=>exact ⟨_,(aRR hu).symm⟩
 | 1,hu=>exact ⟨_,(aRR hu).symm⟩
 | 2,hu=>exact ⟨_,(aRR hu).symm⟩
 | 3,hu=>exact ⟨_,(aRR hu).symm⟩
 | j+4,hu=>exact trivial
theorem rq (a:cb):∀ u∈a.cells,u.oneCell'=true:=by
 intro u hu;unfold cells at hu;simp only [aSc,aTg,aTX] at hu;rcases hu with rfl | rfl | rfl | rfl<;>rfl
def rep:τ cb:=τ.flat 4 cells ok raw (λ _=>rfl) rq rr
def zero:Value:= .agg #[.int .i64 0, .int .i64 0, .int .i64 0, .int .i64 0]
theorem iE:∀ (j:Nat) u,zero.cells[j]? =some u→rep.raw j u:=by
 intro j u hu;have hu:(#[(.int .i64 0:Value),(.int .i64 0:Value),(.int .i64 0:Value),(.int .i64 0:Value)]:Array Value)[j]? =some u:=hu
 match j,hu with
 | 0,hu=>exact ⟨_,(aRR hu).symm⟩
 | 1,hu=>exact ⟨_,(aRR hu).symm⟩
 | 2,hu=>exact ⟨_,(aRR hu).symm⟩
 | 3,hu=>exact ⟨_,(aRR hu).symm⟩
 | j+4,hu=>cases hu
theorem info:(prog.info? 313).map (λ i=>(i.zero,i.size,i.bytes))=some (some zero,4,32):=by kernel_rfl
def sh:gM:=(.cons (.cons (.int .i64) (.cons (.int .i64) .nil)) (.cons (.int .i64) (.cons (.int .i64) .nil)))
end cb
end
section
abbrev sB (f:aD) (a b:ax) (a_:List Int) (l:List cb) (dc:ax) (rest:List ax):Prop:=iH cb.cell cb.a_ cb.all f (aD.kL b) (λ c=>c=a) a_ l dc rest
def w1 (f:aD) (b:ax) (a_:List Int):Prop:=0≤f.aA a_ b→∀ x,0≤f.aA a_ x→f.aA a_ x+aD.kL b x≤f.aA a_ b
structure pD (f:aD) (a b:ax) (a_:List Int):Prop where
 len:a_.length=f.aS.length
 spec:qq.Spec f.cS f.gF (aD.kL b) (λ c=>c=a) b (f.aA a_)
 cE:∀ c,f.aA a_ c≤3 * (f.aS.length:Int)
 gr:∀ c,0≤f.aA a_ c→f.ground c=true
section
variable {f:aD} {a b dc:ax} {a_:List Int} {l:List cb} {bW:cb} {rest:List ax}
theorem aEp (s:sB f a b a_ l dc []) (hf:f.bp=0) (aG:0<l.length) (hx:l.getD 0 default=bW) (hd:f.aA a_ bW.cell<0) (hv:w1 f b a_) (hc:f.aA a_ b<0∨bW.all≤f.aA a_ b):w1 f b (a_.set (f.at_ bW.cell) bW.a_):=by
 have hm:bW∈l:=by rw [← hx];exact jd aG
 obtain ⟨ha,aO⟩:=s.all bW hm;have ar:=aD.j8 aO;have κ:=aD.PT (v:=bW.a_) hf s.len ar;have aa:∀ z,z≠bW.cell→f.aA (a_.set (f.at_ bW.cell) bW.a_) z=f.aA a_ z:=λ z bE=>aD.PU hf ar bE;have agO:=λ z bE=>s.inv.mono z bE (bW.cell,bW.a_) (aSz.2 ⟨bW,hm,rfl⟩);dsimp only at agO;intro Φ z bE;by_cases e:b=bW.cell
 ·have atN:f.aA (a_.set (f.at_ bW.cell) bW.a_) b=bW.a_:=by rw [e];exact κ
  rw [atN];have e0:aD.kL b bW.cell=0:=by rw [← e];exact aD.Vj b
  by_cases Ks:z=bW.cell
  ·rw [Ks,κ];omega
  ·rw [aa z Ks] at bE ⊢;have:=agO z bE;omega
 ·rw [aa b e] at Φ ⊢;by_cases Ks:z=bW.cell
  ·rw [Ks,κ];omega
  ·rw [aa z Ks] at bE ⊢;exact hv Φ z bE
theorem aj8 (s:sB f a b a_ l dc []) (hv:w1 f b a_) (he:(0≤f.aA a_ b∧∀ e∈l.map λ n=>(n.cell,n.a_),f.aA a_ b<e.2+aD.kL b e.1)∨(l.map λ n=>(n.cell,n.a_))= []):pD f a b a_ :=
 ⟨s.len,s.inv.ends (aD.Ro f b) (aD.Vj b) hv he,λ c=>by have:=s.cE c;omega,s.gr⟩
theorem aA8 (s:sB f a b a_ l dc []) (hv:w1 f b a_) (h:l.length=0):pD f a b a_:=aj8 s hv (.inr (by rw [aSq h];rfl))
theorem aA7 (s:sB f a b a_ l dc []) (hv:w1 f b a_) (aG:0<l.length) (Φ:0≤f.aA a_ b) (h:f.aA a_ b<(l.getD 0 default).all):pD f a b a_ :=
 aj8 s hv (.inl ⟨Φ,λ e he=>by
  have κ:=s.least aG e he;rw [← (s.all _ (jd aG)).1] at κ;omega⟩)
theorem sB.node (s:sB f a b a_ l dc rest) (hf:f.bp=0) (Φ:f.fi b=true) (hn:bW∈l):0≤bW.cell.x∧bW.cell.x<f.wide∧0≤bW.cell.y∧bW.cell.y<f.high∧0≤bW.a_∧bW.a_≤4803∧0≤bW.all∧bW.all≤5000∧bW.ok:=by
 obtain ⟨ha,aO⟩:=s.all bW hn;obtain ⟨_,_,i1,i2,i3,i4⟩:=aD.idx hf (aD.j8 aO);obtain ⟨_,_,aLw,Xw,aLx,aLy⟩:=aD.idx hf Φ;obtain ⟨g1,g2,g3,g4,g5,g6⟩:=aD.jN hf;obtain ⟨κ,aa⟩:=s.aeV (aD.Ro f b) hn;have aB:=aD.dU hf;have he:0≤aD.kL b bW.cell∧aD.kL b bW.cell≤160:=by
  refine ⟨aD.aeU _ _, ?_⟩;unfold aD.kL;have cf:=jg (b.x - bW.cell.x);have a2:=jg (b.y - bW.cell.y);rcases (show b.x - bW.cell.x<0∨0≤b.x - bW.cell.x by omega) with h | h
  ·have:=cf.2.2.2 h;rcases (show b.y - bW.cell.y<0∨0≤b.y - bW.cell.y by omega) with c6 | c6
   ·have:=a2.2.2.2 c6;omega
   ·have:=a2.2.2.1 c6;omega
  ·have:=cf.2.2.1 h;rcases (show b.y - bW.cell.y<0∨0≤b.y - bW.cell.y by omega) with c6 | c6
   ·have:=a2.2.2.2 c6;omega
   ·have:=a2.2.2.1 c6;omega
 refine ⟨i1,i2,i3,i4,κ,by omega,by omega,by omega,bG.2 (by omega),bG.2 (by omega),bG.2 (by omega),bG.2 (by omega)⟩
theorem Ax (hf:f.bp=0) (aB:a_.length=f.aS.length) {c:ax} (hc:f.fi c=true):a_[(c.y * f.wide+c.x).toNat]? =some (f.aA a_ c):=by
 rw [aD.Hi hc];exact dn (u:= -1) (show f.at_ c<a_.length by rw [aB];exact (aD.yy hf hc).1)
theorem eb (hf:f.bp=0) (aB:a_.length=f.aS.length) {c:ax} (hc:f.fi c=true):(c.y * f.wide+c.x).toNat<a_.length∧0≤c.y * f.wide+c.x∧c.y * f.wide+c.x≤1600:=by
 have κ:=aD.yy hf hc;obtain ⟨a0,cf,_⟩:=aD.idx hf hc;have:=aD.dU hf;unfold aD.at_ at κ;omega
theorem acv (p q:Bool):p=false∨(p=true∧q=true)∨(p=true∧q=false):=by cases p<;>cases q<;>simp
end
end
section
section
variable {f:aD} {a b c:ax} {a_ PL:List Int} {aA:ax→Int}
noncomputable def cM (f:aD) (a b:ax):ax→Int :=
 @dite _ (∃ a_,pD f a b a_) (Classical.propDecidable _) (λ h=>f.aA h.choose) λ _=>λ _=> -1
theorem pD.PR (h:pD f a b a_):f.aA a_=cM f a b:=by
 have hex:∃ a_,pD f a b a_:=⟨a_,h⟩;unfold cM;rw [dif_pos hex]
 funext x
 exact h.spec.uniq hex.choose_spec.spec x
theorem pD.get (h:pD f a b a_) (hf:f.bp=0) {c:ax} (hc:f.fi c=true):a_[(c.y * f.wide+c.x).toNat]? =some (cM f a b c):=by rw [← h.PR];exact Ax hf h.len hc
theorem aBD {β:Type} [Inhabited β] {key:β→Int} {x:β}:ct.push key [] x= [x]:=by
 unfold ct.push ct.qc;rw [aR0 (by simp)];rfl
theorem PS {n:Nat}:f.aA (List.replicate n (-1)) c= -1:=by
 unfold aD.aA;split
 ·rw [aRQ,aSY];split<;>rfl
 ·rfl
theorem sB.start (hf:f.bp=0) (ha:f.ground a=true) (dc:ax):sB f a b (List.replicate f.aS.length (-1)) (ct.push cb.all [] ⟨a,0,0+aD.kL b a⟩) dc []:=by
 rw [aBD];refine ⟨aSr,qq.Inv.start (λ x=>PS) (λ e he=> ?_) (λ s hs=> ?_),λ i aG κ=>by simp at κ;omega,λ n hn=> ?_,λ c=> ?_,λ c hc=>by rw [PS] at hc;omega⟩
 ·rw [aSH,aTF,aRP] at he;subst he;exact ⟨Z,Z⟩
 ·subst hs;exact aSe
 ·rw [aRP.1 hn];exact ⟨Z,ha⟩
 ·rw [PS,Zr];omega
theorem w1.start:w1 f b (List.replicate f.aS.length (-1)):=λ h=>by rw [PS] at h;omega
def lD (f:aD) (aA:ax→Int) (c:ax):ax:=((dV c).find? λ n=>f.ground n && decide (0≤aA n) && decide (aA n+f.gF c=aA c)).getD c
def w5 (f:aD) (aA:ax→Int) (a:ax):Nat→ax→List ax
 | 0,c=> [c]
 | n+1,c=>if c=a then [c] else c::w5 f aA a n (lD f aA c)
structure oD (f:aD) (a:ax) (aA:ax→Int):Prop where
 zero:aA a=0
 pos:∀ c,0≤aA c→c≠a→∃ p,0≤aA p∧c∈f.cS p∧aA c=aA p+f.gF c
 gr:∀ c,0≤aA c→f.ground c=true
theorem oD.prev (h:oD f a aA) (hc:0≤aA c) (ff:c≠a):lD f aA c∈dV c∧f.ground (lD f aA c)=true∧0≤aA (lD f aA c)∧aA (lD f aA c)+f.gF c=aA c:=by
 obtain ⟨p,κ,aa,aw⟩:=h.pos c hc ff;have hp:p∈dV c:=aD.Y6 (aD.Mu.1 aa).1;have QD:(f.ground p && decide (0≤aA p) && decide (aA p+f.gF c=aA c))=true:=by
  rw [h.gr p κ,aSo κ,aSo aw.symm];rfl
 unfold lD;cases hf:(dV c).find? λ n=>f.ground n && decide (0≤aA n) && decide (aA n+f.gF c=aA c) with
 | none=>exact absurd QD (aTe.1 hf p hp)
 | some q =>
  have I:=aUX hf;simp only [aRY,aSj] at I;exact ⟨aUC hf,I.1.1,I.1.2,I.2⟩
theorem oD.fuel (h:oD f a aA):∀ (n:Nat) (c:ax),0≤aA c→(aA c).toNat≤n→w5 f aA a n c=w5 f aA a (aA c).toNat c:=by
 intro n;induction n using Nat.strongRecOn with
 | ind n bF =>
  intro c hc hn;by_cases ff:c=a
  ·subst ff;have:(aA c).toNat=0:=by rw [h.zero];rfl
   rw [this];cases n with
   | zero=>rfl
   | succ n=>unfold w5;rw [aR5 rfl]
  ·obtain ⟨eR,fl,mn,xO⟩:=h.prev hc ff;have av:=f.p1 (c:=c);obtain ⟨m,hm⟩:∃ m,(aA c).toNat=m+1:=⟨(aA c).toNat - 1,by omega⟩;obtain ⟨jJ,awP⟩:∃ jJ,n=jJ+1:=⟨n - 1,by omega⟩;subst awP;rw [hm,w5,w5,aR0 ff,aR0 ff,bF jJ (by omega) _ mn (by omega),bF m (by omega) _ mn (by omega)]
def fO (f:aD) (aA:ax→Int) (a c:ax):List ax:=w5 f aA a (aA c).toNat c
theorem Br (h:oD f a aA):fO f aA a a= [a]:=by unfold fO;rw [h.zero];rfl
theorem Bs (h:oD f a aA) (hc:0≤aA c) (ff:c≠a):fO f aA a c=c::fO f aA a (lD f aA c):=by
 obtain ⟨eR,fl,mn,xO⟩:=h.prev hc ff;have av:=f.p1 (c:=c);unfold fO;obtain ⟨m,hm⟩:∃ m,(aA c).toNat=m+1:=⟨(aA c).toNat - 1,by omega⟩;rw [hm,w5,aR0 ff,h.fuel m _ mn (by omega)]
theorem oD.of (h:pD f a b a_) (Φ:0≤f.aA a_ b):oD f a (f.aA a_):=by
 have bE:0≤f.aA a_ a→f.aA a_ a=0:=λ aG=>by
  have:=(h.spec.oK a aG).1.2 0 (.start rfl);omega
 have key:∀ n:Nat,∀ c,0≤f.aA a_ c→(f.aA a_ c).toNat=n→0≤f.aA a_ a:=by
  intro n;induction n using Nat.strongRecOn with
  | ind n bF =>
   intro c hc hn;rcases h.spec.pred c hc with ⟨κ,_⟩ | ⟨p,κ,aa,aw⟩
   ·subst κ;exact hc
   ·have:=f.p1 (c:=c);exact bF (f.aA a_ p).toNat (by omega) p κ Z
 have ha:=key _ b Φ rfl;refine ⟨bE ha,λ c hc ff=> ?_,h.gr⟩;rcases h.spec.pred c hc with ⟨κ,_⟩ | κ
 ·exact absurd κ ff
 ·exact κ
theorem oD.FB (h:pD f a b a_) (Φ:0≤cM f a b b):oD f a (cM f a b):=by rw [← h.PR] at Φ ⊢;exact oD.of h Φ
theorem pD.apI (h:pD f a b a_) (c:ax):cM f a b c≤3 * (f.aS.length:Int):=by rw [← h.PR];exact h.cE c
noncomputable def gZ (f:aD) (a b:ax):Int:=if f.dD a≠0 then f.dD a else if f.dD b≠0 then f.dD b else if f.place a=1∨f.place b=1 then 9 else if cM f a b b<0 then 6 else 0
noncomputable def oO (f:aD) (a b:ax):Int:=if gZ f a b=0 then cM f a b b else 0
noncomputable def fR (f:aD) (a b:ax):List ax:=if gZ f a b=0 then (fO f (cM f a b) a b).reverse else []
theorem atY (h:f.dD a≠0):gZ f a b=f.dD a:=by unfold gZ;rw [aR5 h]
theorem atZ (h:f.dD a=0) (aa:f.dD b≠0):gZ f a b=f.dD b:=by unfold gZ;rw [aR0 (by rw [h];simp),aR5 aa]
theorem OI (h:f.dD a=0):f.bp=0∧f.fi a=true:=by
 have hc:f.bp=0:=by
  by_cases hc:f.bp=0
  ·exact hc
  ·rw [(aD.TZ hc).1] at h;exact h
 exact ⟨hc,apn hc h⟩
where
 apn {f:aD} {c:ax} (h:f.bp=0) (he:f.dD c=0):f.fi c=true:=by
  cases ar:f.fi c with
  | true=>rfl
  | false=>rw [(aD.J7 h ar).1] at he;omega
theorem at1 (h:f.dD a=0) (aa:f.dD b=0) (aw:f.place a=1∨f.place b=1):gZ f a b=9:=by unfold gZ;rw [aR0 (by rw [h];simp),aR0 (by rw [aa];simp),aR5 aw]
theorem at0 (hf:f.bp=0) (ha:f.ground a=true) (Φ:f.ground b=true) (h:cM f a b b<0):gZ f a b=6:=by
 unfold gZ;rw [aR0 (by rw [(aD.mG hf (aD.j8 ha)).1];simp),aR0 (by rw [(aD.mG hf (aD.j8 Φ)).1];simp),aR0 (by rintro (κ | κ);exact aD.Cx ha κ;exact aD.Cx Φ κ),aR5 h]
theorem Vq (hf:f.bp=0) (ha:f.ground a=true) (Φ:f.ground b=true) (h:0≤cM f a b b):gZ f a b=0:=by
 unfold gZ;rw [aR0 (by rw [(aD.mG hf (aD.j8 ha)).1];simp),aR0 (by rw [(aD.mG hf (aD.j8 Φ)).1];simp),aR0 (by rintro (κ | κ);exact aD.Cx ha κ;exact aD.Cx Φ κ),aR0 (by omega)]
theorem Vo (f:aD) (a b:ax):(f.dD a≠0∧gZ f a b=f.dD a)∨(f.dD a=0∧f.dD b≠0∧gZ f a b=f.dD b)∨(f.dD a=0∧f.dD b=0∧(f.place a=1∨f.place b=1)∧gZ f a b=9)∨(f.bp=0∧f.ground a=true∧f.ground b=true∧((cM f a b b<0∧gZ f a b=6)∨(0≤cM f a b b∧gZ f a b=0))):=by
 by_cases κ:f.dD a=0
 ·by_cases aa:f.dD b=0
  ·obtain ⟨hc,LL⟩:=OI κ;obtain ⟨_,Xq⟩:=OI aa;by_cases aw:f.place a=1∨f.place b=1
   ·exact .inr (.inr (.inl ⟨κ,aa,aw,at1 κ aa aw⟩))
   ·have ga:=aD.afq LL (λ h=>aw (.inl h));have vA:=aD.afq Xq (λ h=>aw (.inr h));refine .inr (.inr (.inr ⟨hc,ga,vA, ?_⟩));by_cases a6:cM f a b b<0
    ·exact .inl ⟨a6,at0 hc ga vA a6⟩
    ·exact .inr ⟨by omega,Vq hc ga vA (by omega)⟩
  ·exact .inr (.inl ⟨κ,aa,atZ κ aa⟩)
 ·exact .inl ⟨κ,atY κ⟩
end
end
section
structure dj where
 id:Int
 bo:ax
 deriving DecidableEq,Inhabited
namespace dj
def cells (a:dj):List Value:= [.int .i64 (a.id), .int .i64 (a.bo.x), .int .i64 (a.bo.y)]
def ok (a:dj):Prop:=(Lit.int .i64 a.id).wf=true∧(Lit.int .i64 a.bo.x).wf=true∧(Lit.int .i64 a.bo.y).wf=true
def raw (j:Nat) (u:Value):Prop:=match j with
 | 0=>∃ n:Int,u= .int .i64 n
 | 1=>∃ n:Int,u= .int .i64 n
 | 2=>∃ n:Int,u= .int .i64 n
 | _=>True
theorem rr (a:dj):∀ (j:Nat) u,a.cells[j]? =some u→raw j u:=by
 intro j u hu
 match j,hu with
 | 0,hu=>exact ⟨_,(aRR hu).symm⟩
 | 1,hu=>exact ⟨_,(aRR hu).symm⟩
 | 2,hu=>exact ⟨_,(aRR hu).symm⟩
 | j+3,hu=>exact trivial
theorem rq (a:dj):∀ u∈a.cells,u.oneCell'=true:=by
 intro u hu;unfold cells at hu;simp only [aSc,aTg,aTX] at hu;rcases hu with rfl | rfl | rfl<;>rfl
def rep:τ dj:=τ.flat 3 cells ok raw (λ _=>rfl) rq rr
def zero:Value:= .agg #[.int .i64 0, .int .i64 0, .int .i64 0]
theorem iE:∀ (j:Nat) u,zero.cells[j]? =some u→rep.raw j u:=by
 intro j u hu;have hu:(#[(.int .i64 0:Value),(.int .i64 0:Value),(.int .i64 0:Value)]:Array Value)[j]? =some u:=hu
 match j,hu with
 | 0,hu=>exact ⟨_,(aRR hu).symm⟩
 | 1,hu=>exact ⟨_,(aRR hu).symm⟩
 | 2,hu=>exact ⟨_,(aRR hu).symm⟩
 | j+3,hu=>cases hu
theorem info:(prog.info? 225).map (λ i=>(i.zero,i.size,i.bytes))=some (some zero,3,24):=by kernel_rfl
def sh:gM:=(.cons (.int .i64) (.cons (.cons (.int .i64) (.cons (.int .i64) .nil)) .nil))
end dj
theorem af7 {w:World} {cs:List Value} {a:dj} (h:dj.rep.has w cs a):cs=a.cells:=aTQ (show cs=a.cells∧a.ok from h)
end
section
open Go.RowKit Go.Maps
namespace ax
def key (c:ax):Value:= .agg #[.int .i64 c.x, .int .i64 c.y]
theorem laid:laidOutB prog=true:=by kernel_rfl
theorem ayx (x y:Int):(Value.agg #[.int .i64 x, .int .i64 y]).formed prog 49 =true:=by kernel_rfl
theorem ayA:prog.keyType 49 =true:=by kernel_rfl
theorem ayz:∃ n,prog.types.size+1=n+2:=by
 have:1≤prog.types.size:=by decide +kernel
 exact ⟨prog.types.size - 1,by omega⟩
theorem ayw:prog.cellsOf 49 =2∧prog.cellsOf 3 =1:=by
 constructor<;>kernel_rfl
theorem ayy (c:ax) (h:c.ok):∃ l,keyOf prog 49 (key c)=some l:=by
 obtain ⟨hx,aK⟩:=h;obtain ⟨n,hn⟩:=ayz;unfold key keyOf;have hu:=underlying49;rw [hu];simp only [ayA,ayx,Bool.and_self,aTD,hn];have κ:prog.keyLits (n+2) 49 [.int .i64 c.x, .int .i64 c.y]=some [.int .i64 c.x, .int .i64 c.y]:=by
  simp [Program.keyLits,hu,underlying3,ayw,hx,aK]
 exact ⟨.string (keyBytes [.int .i64 c.x, .int .i64 c.y]),by
  have e:(Value.agg #[.int .i64 c.x, .int .i64 c.y]).cells.toList= [.int .i64 c.x, .int .i64 c.y]:=rfl;rw [e,κ];rfl⟩
theorem y1:Tu prog 49 key ok where
 keyed:=Keyed.of_law (Go.deep_law_laid laid (m:=100) (by decide) (by decide +kernel) (by kernel_rfl) (by kernel_rfl))
 lit:=ayy
 inj:=by
  intro a b h;unfold key at h;injection h with h
  obtain ⟨x,y⟩:=a;obtain ⟨z,t⟩:=b;simp at h;simp [h]
end ax
end
end Go.Proofs.YtlikikpgmmkjbaaGreat
