import Derived.Test.YtlikikpgmmkjbaaGreatGolR
set_option linter.unusedVariables false
set_option linter.unusedSimpArgs false
set_option maxRecDepth 100000
set_option maxHeartbeats 4000000
open Go.RowKit
namespace Go.Proofs.YtlikikpgmmkjbaaGreat
open Tryz
abbrev aUw:=@Or.elim
abbrev aUO:=@decide_eq_true_eq
abbrev aUS:=@List.length_replicate
abbrev aU1:=@decide_eq_false_iff_not
abbrev aU8:=@Bool.or_eq_false_iff
abbrev aVO:=@List.filter_cons
abbrev aVT:=@List.range_succ
abbrev aVU:=@Nat.le_of_eq
abbrev aV3:=@List.drop_eq_getElem_cons
abbrev aWe:=@List.set_cons_zero
abbrev aWf:=@List.set_cons_succ
abbrev aWv:=@List.mem_of_mem_take
abbrev aWH:=@Bool.not_true
abbrev aWK:=@List.mem_filter
abbrev aW3:=@decide_false
abbrev aW6:=@Int.add_mul_emod_self_right
abbrev aXa:=@List.mem_of_find?_eq_some
abbrev aXe:=@decide_true
abbrev aXj:=@Bool.false_or
abbrev aXw:=@List.find?_some
abbrev aXP:=@Bool.not_false
abbrev aXV:=@Bool.or_false
abbrev aX7:=@Int.sub_self
abbrev aX8:=@Int.emod_eq_of_lt
abbrev aX9:=@Int.add_comm
abbrev aYa:=@Bool.true_or
abbrev aYb:=@Bool.or_true
abbrev aYu:=@Int.tdiv_eq_ediv_of_nonneg
abbrev aYD:=@List.map_take
section
namespace κ
variable {α:Type} {R:κ α}
theorem aD.avu {E by_ B c:Nat} {A:Option Addr} {l:List α} {w:World} {ps:List (List Nat×List Value)} (hp:R.An) (dB:de (λ x a=>R.own w B x.1 x.2 a) ps l):∀ y∈ps,y.1= []:=λ y aH=>by
 obtain ⟨b,Φ⟩:=dB.left y aH;exact hp.2 Φ
theorem avt {ps:List (List Nat×List Value)} (h:∀ y∈ps,y.1= []):(ps.map (·.1)).flatten= []:=by
 rw [aYJ];intro x hx;obtain ⟨y,aH,rfl⟩:=aUR.1 hx;exact h y aH
theorem aD.cut {E by_ B c:Nat} {A:Option Addr} {l:List α} {w:World} (h:R.aD E by_ w B (ae A) A c l) (hp:R.An) (k:Nat) (aw:k≤l.length):R.aD E by_ w B (ae A) A c (l.take k):=by
 obtain ⟨Φ,ps,hf,hn,b5,dB⟩:=h;have aB:=Sn dB;have uM:ps.length=l.length:=dB.length;have γ:=aD.avu (E:=E) (by_:=by_) (c:=c) (A:=A) hp dB;have hlen:(l.take k).length=k:=by rw [aUm];omega
 have hm:=aU3 by_ aw;refine ⟨by rw [hlen];omega,ps.take k, ?_,hn, ?_,dB.N0 k⟩
 ·rw [avt λ y aH=>γ y (aWv aH),aUV]
 ·rw [hlen,aYD,QJ k aB];obtain ⟨ka,zl⟩:=b5;have hle:k * R.size≤l.length * R.size:=aU3 _ aw;refine ⟨by rw [aUm,ka];omega, ?_⟩;rcases zl with ⟨zl,aMT⟩ | ⟨g,cap,cur,hv,ba,fp,Dy,r4,hs,aF,bD⟩
  ·injection zl with a8 bl cZ
   subst a8 cZ;have:k=0:=by omega
   subst this;exact .inl ⟨Z,Z⟩
  ·injection hv with a8 bl cZ
   subst a8 cZ;exact .inr ⟨g,c,cur,Z,ba,fp,by omega,r4,hs,by rw [← aF,List.take_take,aV6 hle],bD⟩
end κ
section
variable {P:Program} {n:Nat} {E c0:List (Nat×Value)} {a:Act} {w w' w0 aP:World} {Q:Exit→Act→World→Prop} {ops:Array Oper} {v:Value}
variable {d:Option Nat} {ty:TypeId} {pos:String} {af:Array Edge} {g:Option (Nat×Bool)} {x y z:Operand} {t:TypeId} {rest:List Oper}
theorem aly {A:Option Addr} {len cap e s:Nat} {k:IntKind} (lo:Nat) {i:Int} (aF:P.underlying t=some (.slice e)) (hs:ez P e s) (hx:ev E x=some (.slice A len cap)) (aH:ev E y=some (.int k i)) (aq:i=(lo:Int)) (γ:lo≤len):
  cT P E ⟨d, .slice t x (some y) none none,ty,pos,af,g⟩ w (.slice (e_ A cap lo s) (len - lo) (cap - lo)) w:=λ n a ha=>by
 subst aq;have lM:P.underlying t=some (.slice (P.elem t)):=by simp [Program.elem,aF]
 have nQ:P.elem t=e:=by simp [Program.elem,aF]
 have av:=run_slice_l (P:=P) (w:=w) t A len cap lM k (lo:Int) (by omega) (by omega);have aV:=aWq (P:=P) (w:=w) t (.slice A len cap) (some (.int k (lo:Int))) none none lM;rw [nQ,hs w] at av;simp only [execOp,ha.ev hx,ha.ev aH,Option.map,aV,av,aUv,aUo,aUA,sliced,aVc,e_]
theorem azI {k:IntKind} {i j:Int} (aI:0≤i) (γ:0<j) (hw:k.wrap (i / j)=i / j):Op.intDiv .quo k i j=pure (.int k (i / j)):=by
 unfold Op.intDiv;have e:i.tdiv j=i / j:=aYu aI;rw [aUr (by omega)];simp only [e,hw]
theorem azJ {k:IntKind} {i j:Int} (aI:0≤i) (γ:0<j):Op.intDiv .rem k i j=pure (.int k (i % j)):=by
 unfold Op.intDiv;have e:i.tmod j=i % j:=Int.tmod_eq_emod_of_nonneg aI;rw [aUr (by omega)];simp only [e]
section
variable {k:IntKind} {i j:Int} {u:TypeId}
theorem aqr (hx:ev E x=some (.int k i)) (aH:ev E y=some (.int k j)) (aI:0≤i) (γ:0<j) (hw:k.wrap (i / j)=i / j):cT P E ⟨d, .binOp .quo t x y u,ty,pos,af,g⟩ w (.int k (i / j)) w:=oB hx aH (binOp_quo t k i j) (by rw [azI aI γ hw];rfl)
theorem aqt (hx:ev E x=some (.int k i)) (aH:ev E y=some (.int k j)) (aI:0≤i) (γ:0<j):cT P E ⟨d, .binOp .rem t x y u,ty,pos,af,g⟩ w (.int k (i % j)) w:=oB hx aH (binOp_rem t k i j) (by rw [azJ aI γ];rfl)
theorem aDs {i j:Int} (aI:0≤i) (γ:0<j) (aa:i≤9223372036854775807):IntKind.i64.wrap (i / j)=i / j:=by
 have a8:0≤i / j:=Int.ediv_nonneg aI (by omega);have bl:i / j≤i:=Int.ediv_le_self _ aI;exact bH ⟨by omega,by omega⟩
end
end
end
section
section
variable {α:Type} {p:α→Bool} {l L:List α} {d:α} {i j k:Nat}
theorem jT (h:k<l.length):l.getD k d∈l:=by rw [aUi,aUk h];exact aVv h
theorem oh (h:k<l.length):l.getD k d=l[k]:=by rw [aUi,aUk h];rfl
theorem RO (h:∀ i,i<l.length→p (l.getD i d)=false):gA p l= -1:=FZ λ j aA=>by rw [← oh (d:=d) aA];exact h j aA
theorem RP (aw:k<l.length) (γ:p (l.getD k d)=true) (h:∀ i,i<k→p (l.getD i d)=false):gA p l=(k:Int):=
 F0 aw (by rw [← oh (d:=d) aw];exact γ) λ j aA=>by rw [← oh (d:=d) (by omega:j<l.length)];exact h j aA
theorem D8 (h:k<l.length):l.take (k+1)=l.take k++ [l.getD k d]:=by rw [aUM h,oh h]
end
end
section
theorem Pr:fa prog ay.rep 25 49 16:=fa.lK (z:=ay.zero) (k:=2) underlying25 ay.info rfl rfl (by decide) ay.iY
def hj (n:Int):Int:=if n<0 then -1 else if 0<n then 1 else 0
def cv (n:Int):Int:=if n<0 then -n else if 0<n then n else 0
theorem jn (n:Int):0≤cv n∧(-2000≤n∧n≤2000→cv n≤2000)∧(0≤n→cv n=n)∧(n<0→cv n= -n):=by unfold cv;split<;>(try split)<;>omega
theorem Js (n:Int): -1≤hj n∧hj n≤1:=by unfold hj;split<;>(try split)<;>omega
def a_ (a b:ay):Int:=max (cv (b.x - a.x)) (cv (b.y - a.y))
def wz (a b:ay):Int:=min (cv (b.x - a.x)) (cv (b.y - a.y))
def p7 (a b:ay) (s:Int×ay):Int×ay :=
  (if decide (a_ a b≤s.1+2 * wz a b) then s.1+2 * wz a b - 2 * a_ a b else s.1+2 * wz a b,
   ⟨if !decide (cv (b.x - a.x)<cv (b.y - a.y)) || decide (a_ a b≤s.1+2 * wz a b) then s.2.x+hj (b.x - a.x) else s.2.x,
    if decide (cv (b.x - a.x)<cv (b.y - a.y)) || decide (a_ a b≤s.1+2 * wz a b) then s.2.y+hj (b.y - a.y) else s.2.y⟩)
def cS (a b:ay):Nat→Int×ay
  | 0=>(0,a)
  | k+1=>p7 a b (cS a b k)
def tx (a b:ay) (k:Nat):List ay:=(List.range (k+1)).map λ i=>(cS a b i).2
def hN (a b:ay):List ay:=tx a b (a_ a b).toNat
theorem Ss (a b:ay) (k:Nat):tx a b (k+1)=tx a b k++ [(cS a b (k+1)).2]:=by unfold tx;rw [aVT,aUK];rfl
theorem Gs (a b:ay) (k:Nat):(tx a b k).length=k+1:=by simp [tx]
theorem auZ (a b:ay):0≤wz a b∧wz a b≤a_ a b:=by
  have γ:=jn (b.x - a.x);have aa:=jn (b.y - a.y);unfold wz a_;omega
theorem ajX (a b:ay) (k:Nat): -a_ a b≤(cS a b k).1∧(cS a b k).1≤a_ a b:=by
  have hf:=auZ a b;induction k with
  | zero=>show -a_ a b≤0∧0≤a_ a b;omega
  | succ k bI =>
    show -a_ a b≤(p7 a b (cS a b k)).1∧(p7 a b (cS a b k)).1≤a_ a b;unfold p7;simp only [aUO];split<;>omega
theorem ajY (a b:ay) (k:Nat):a.x - k≤(cS a b k).2.x∧(cS a b k).2.x≤a.x+k∧a.y - k≤(cS a b k).2.y∧(cS a b k).2.y≤a.y+k:=by
  have γ:=Js (b.x - a.x);have aa:=Js (b.y - a.y);induction k with
  | zero=>show a.x - _≤a.x∧a.x≤a.x+_∧a.y - _≤a.y∧a.y≤a.y+_;omega
  | succ k bI =>
    show a.x - _≤(p7 a b (cS a b k)).2.x∧(p7 a b (cS a b k)).2.x≤a.x+_∧a.y - _≤(p7 a b (cS a b k)).2.y∧(p7 a b (cS a b k)).2.y≤a.y+_;unfold p7;simp only;split<;>split<;>omega
theorem Sf (c:ay) (w:World) (h: -1000≤c.x∧c.x≤1000∧ -1000≤c.y∧c.y≤1000):
    Calls prog 193 #[.agg #[.int .i64 c.x, .int .i64 c.y]] w (λ e w'=>e= .returned (.bool true)∧Ext w w'):=by
  refine cl (n:=23) func193 Z Z Z ?_;refine ai<|cI Z Z Z Z λ cW bw a7 eA ab=> ?_;have:=a7.size;have bk:=τ (Ext.bK w) a7;have eG:=ab.lt;refine va Z<|ag<|ai<|J (au ij Z)<|J (ak Z (ab.one bf Z))<|J (au ij Z)<|J (ak Z (ab.one bf Z))<|J (Y0 Z (bH (by omega)))<|J (au iN Z)<|J (ak Z (ab.one bf Z))<|J (au iN Z)<|J (ak Z (ab.one bf Z))<|J (Y0 Z (bH (by omega)))<|J (aAY Z Z Z Z)<|J (ble Z Z)<|vm Z<|br Z Z Z Z (λ hc=>au ij Z) Z<|br Z Z Z Z (λ hc=>ak (gt hc Z) (ab.one bf Z)) Z<|br Z Z Z Z (λ hc=>au iN Z) Z<|br Z Z Z Z (λ hc=>ak (gt hc Z) (ab.one bf Z)) Z<|br Z Z Z Z (λ hc=>ou (gt hc Z) (gt hc Z)) Z<|br Z Z Z Z (λ hc=>j4 (gt hc Z) Z) Z<| ?_;refine J (e9 Z Z Z Z)<|va Z<|ag<|rt<|bb (.tmp Z .nil)<| ?_;exact ⟨alo (by simp only [aUp,aUO];omega),bk⟩
theorem SN (n:Int) (w:World) (h: -2000≤n∧n≤2000):
    Calls prog 194 #[.int .i64 n] w (λ e w'=>e= .returned (.tuple #[.int .i64 (hj n), .int .i64 (cv n)])∧Ext w w'):=by
  refine cl (n:=13) func194 Z Z Z ?_;refine ai<|va Z<|va Z<|ag<|az<|bA<|ai<|vm Z<|J (blt Z Z)<|va Z<|ag<| ?_;refine dw Z (λ j'=> ?_) (λ j'=> ?_)
  · refine ai<|vm rfl<|J (Y0 rfl (bH (by omega)))<|va rfl<|va rfl<|ag<|rt<|eK<|bT<|bb (.tmp rfl (.tmp rfl .nil))<| ?_
    exact ⟨by unfold hj cv;simp only [*,aVZ,aVs];try rfl,(Ext.bK w)⟩
  · refine ai<|vm rfl<|J (iK rfl rfl)<|va rfl<|ag<| ?_
    refine dw Z (λ awp=> ?_) (λ awp=> ?_)
    · refine ai<|vm rfl<|va rfl<|va rfl<|ag<|rt<|eK<|bT<|bb (.tmp rfl (.tmp rfl .nil))<| ?_
      exact ⟨by unfold hj cv;simp only [*,aVZ,aVs];try rfl,(Ext.bK w)⟩
    · refine fv<|bX<|aT<|ai<|va rfl<|va rfl<|ag<|rt<|bb (.tmp rfl (.tmp rfl .nil))<| ?_
      exact ⟨by unfold hj cv;simp only [*,aVZ,aVs];try rfl,(Ext.bK w)⟩
theorem ade (a b:ay) (w:World) (h: -1000≤a.x∧a.x≤1000∧ -1000≤a.y∧a.y≤1000) (aa: -1000≤b.x∧b.x≤1000∧ -1000≤b.y∧b.y≤1000):
    Calls prog 161 #[.agg #[.int .i64 a.x, .int .i64 a.y], .agg #[.int .i64 b.x, .int .i64 b.y]] w (λ e w'=>e= .returned (.tuple #[.int .i64 (a_ a b), .int .i64 (cv (b.x - a.x)+cv (b.y - a.y)), .int .i64 0])∧Ext w w'):=by
  refine cl (n:=43) func161 Z Z Z ?_;refine ai<|cI Z Z Z Z λ cW bw a7 eA ab=> ?_;have:=a7.size;have bk:=τ (Ext.bK w) a7;have eG:=ab.lt;refine cI Z Z Z Z λ eM cA bo iq ah=> ?_;have:=bo.size;have bR:=τ bk bo;have ia:=ah.lt;refine va Z<|va Z<|va Z<|ag<|az<|ai<| ?_;have ab:=ab.later bo;refine J (ak Z (ab.all cm bW))<|ca Qx Z Z ((Sf a _ (by omega)).mono ?_);rintro e hk ⟨rfl,f_⟩;refine ⟨_,Z, ?_⟩;have:=f_.size;have c':=τ bR f_;refine J (eF Z)<|vm Z<|iV Z Z Z<| ?_;have ah:=ah.later f_;refine J (ak Z (ah.all cm bW))<|iV Z Z Z<|ca Qx Z Z ((Sf b _ (by omega)).mono ?_);rintro e u6 ⟨rfl,h0⟩;refine ⟨_,Z, ?_⟩;have:=h0.size;have jr:=τ c' h0;refine iV Z Z Z<|J (eF Z)<|J (uZ Z Z)<|ag<|hL Z<|bt<|ai<|J (au ij Z)<| ?_;have ah:=ah.later h0;refine J (ak Z (ah.one bf Z))<|J (au ij Z)<| ?_;have ab:=ab.later (τ f_ h0);refine J (ak Z (ab.one bf Z))<|J (mi Z Z (bH (by have:=jn (b.x - a.x);have:=jn (b.y - a.y);omega)))<|ca Qz Z Z ((SN (b.x - a.x) _ (by omega)).mono ?_);rintro e z6 ⟨rfl,k0⟩;refine ⟨_,Z, ?_⟩;have:=k0.size;have lu:=τ jr k0;refine vm Z<|J (ex Z Z)<|J (ex Z Z)<|va Z<|va Z<|ag<|ai<|J (au iN Z)<| ?_;have ah:=ah.later k0;refine J (ak Z (ah.one bf Z))<|J (au iN Z)<| ?_;have ab:=ab.later k0;refine J (ak Z (ab.one bf Z))<|J (mi Z Z (bH (by have:=jn (b.x - a.x);have:=jn (b.y - a.y);omega)))<|ca Qz Z Z ((SN (b.y - a.y) _ (by omega)).mono ?_);rintro e u7 ⟨rfl,hl⟩;refine ⟨_,Z, ?_⟩;have:=hl.size;have lS:=τ lu hl;refine vm Z<|J (ex Z Z)<|J (ex Z Z)<|va Z<|va Z<|ag<|ai<|vm Z<|vm Z<|J (mx Z Z)<|vm Z<|vm Z<|J (bad Z Z (bH (by have:=jn (b.x - a.x);have:=jn (b.y - a.y);omega)))<|va Z<|va Z<|va Z<|ag<|rt<|bb (.tmp Z (.tmp Z (.tmp Z .nil)))<| ?_;exact ⟨Z,lS⟩
theorem ard (a b:ay) (w:World) (h: -1000≤a.x∧a.x≤1000∧ -1000≤a.y∧a.y≤1000) (aa: -1000≤b.x∧b.x≤1000∧ -1000≤b.y∧b.y≤1000):
    Calls prog 216 #[.agg #[.int .i64 a.x, .int .i64 a.y], .agg #[.int .i64 b.x, .int .i64 b.y]] w (λ e w'=>∃ A c,e= .returned (.tuple #[.slice A (hN a b).length c, .int .i64 0])∧ay.rep.aD 49 16 w' w.heap.size (κ.ae A) A c (hN a b)∧Ext w w'):=by
  refine cl (n:=93) func216 Z Z Z ?_;refine ai<|cI Z Z Z Z λ cW bw a7 eA ab=> ?_;have:=a7.size;have bk:=τ (Ext.bK w) a7;have eG:=ab.lt;refine cI Z Z Z Z λ eM cA bo iq ah=> ?_;have:=bo.size;have bR:=τ bk bo;have ia:=ah.lt;refine va Z<|va Z<|ag<|az<|ai<| ?_;have ab:=ab.later bo;refine J (ak Z (ab.all cm bW))<|ca Qx Z Z ((Sf a _ (by omega)).mono ?_);rintro e hk ⟨rfl,f_⟩;refine ⟨_,Z, ?_⟩;have:=f_.size;have c':=τ bR f_;refine J (eF Z)<|vm Z<|iV Z Z Z<| ?_;have ah:=ah.later f_;refine J (ak Z (ah.all cm bW))<|iV Z Z Z<|ca Qx Z Z ((Sf b _ (by omega)).mono ?_);rintro e u6 ⟨rfl,h0⟩;refine ⟨_,Z, ?_⟩;have:=h0.size;have jr:=τ c' h0;refine iV Z Z Z<|J (eF Z)<|J (uZ Z Z)<|ag<|hL Z<|bt<|ai<|J (au ij Z)<| ?_;have ah:=ah.later h0;refine J (ak Z (ah.one bf Z))<|J (au ij Z)<| ?_;have ab:=ab.later (τ f_ h0);refine J (ak Z (ab.one bf Z))<|J (mi Z Z (bH (by omega)))<|ca Qz Z Z ((SN (b.x - a.x) _ (by omega)).mono ?_);rintro e z6 ⟨rfl,k0⟩;refine ⟨_,Z, ?_⟩;have:=k0.size;have lu:=τ jr k0;refine vm Z<|J (ex Z Z)<|J (ex Z Z)<|va Z<|va Z<|ag<|ai<|J (au iN Z)<| ?_;have ah:=ah.later k0;refine J (ak Z (ah.one bf Z))<|J (au iN Z)<| ?_;have ab:=ab.later k0;refine J (ak Z (ab.one bf Z))<|J (mi Z Z (bH (by omega)))<|ca Qz Z Z ((SN (b.y - a.y) _ (by omega)).mono ?_);rintro e u7 ⟨rfl,hl⟩;refine ⟨_,Z, ?_⟩;have:=hl.size;have lS:=τ lu hl;refine vm Z<|J (ex Z Z)<|J (ex Z Z)<|va Z<|va Z<|ag<|ai<|vm Z<|vm Z<|va Z<|va Z<|ag<|az<|ai<|vm Z<|vm Z<|J (iK Z Z)<|ag<| ?_;refine dw Z (λ Dc=> ?_) (λ Dc=> ?_)
  · have qQ:=jn (b.x - a.x)
    have o3:=jn (b.y - a.y);have im:a_ a b=cv (b.y - a.y):=by unfold a_;omega
    have Mg:wz a b=cv (b.x - a.x):=by unfold wz;omega
    have L4:decide (cv (b.x - a.x)<cv (b.y - a.y))=true:=by exact aUL Dc
    refine rg<|vm Z<|vm Z<|va Z<|va Z<|ag<|ai<| ?_;have ab:=ab.later hl;refine J (ak Z (ab.all cm bW))<|c6 (e:= 49) (cs:= [.int .i64 a.x, .int .i64 a.y]) Z (λ _=>by kernel_rfl) Z λ z7 U1 fi aN0 abE=> ?_;have:=fi.size;have kD:=τ lS fi;have aDc:=abE.lt;refine va Z<|ag<|ai<|va Z<|ag<|az<|ai<|vm Z<|vm Z<|ag<|bA<| ?_;have ab:=ab.later fi;have aAH:∀ q∈κ.ae (some ⟨U1,0,none⟩),U1≤q:=λ q I=>aVU (aUg.1 I).symm;refine dX (λ b4 b2 aG=>∃ k:Nat,∃ j2:Option Addr,∃ co:Nat,b2= [(2, .pointer (some ⟨bw,0,none⟩)),(4, .slice none 0 0),(5, .int .i64 0),(6, .int .i64 (hj (b.x - a.x))),(7, .int .i64 (cv (b.x - a.x))),(8, .int .i64 (hj (b.y - a.y))),(9, .int .i64 (cv (b.y - a.y))),(10, .int .i64 (cv (b.y - a.y))),(11, .int .i64 (cv (b.x - a.x))),(12, .slice j2 ((tx a b k).length) co),(13, .int .i64 ((cS a b k).1)),(50, .int .i64 (cv (b.y - a.y))),(51, .int .i64 (k:Int))]∧b4=(cv (b.y - a.y)).toNat - k∧Ext w aG∧aN aG bw [.int .i64 ((cS a b k).2.x), .int .i64 ((cS a b k).2.y)] 49 (0,0)∧ay.rep.aD 49 16 aG w.heap.size (κ.ae j2) j2 co (tx a b k)∧((k:Int)≤cv (b.y - a.y))∧(∀ q∈κ.ae j2,q=bw→False)) _ _ ⟨0,some ⟨U1,0,none⟩,1,Z,Z,kD,ab,(aN.wC (R:=ay.rep) (by_:=16) (B:=w.heap.size) (k:= [a]) abE [[.int .i64 a.x, .int .i64 a.y]] Z ⟨⟨Z,bN.2 (by omega),bN.2 (by omega)⟩,trivial⟩ (by simp) (by simp) (by decide) (by omega)),(by have:=jn (b.y - a.y);have:=jn (b.x - a.x);omega),(λ q I Φ=>by (have:=aAH q I;omega))⟩ (.cons Z (.cons Z (.cons Z (.cons Z (.cons Z (.cons Z (.cons Z (.cons Z (.cons Z (.cons Z (.cons (bO Z) (.cons Z (.cons (bO Z) .nil))))))))))))) ?_;rintro uV aog BU ⟨k,j2,co,rfl,rfl,k4,gb,fo,aw,AT⟩;have:=k4.size;have aDf:=gb.lt;have aSA:=λ q I=>(fo.lt q I).2;have Φ:=ajX a b k;have hp:=ajY a b k;have fg:=Js (b.x - a.x);have gI:=Js (b.y - a.y);have qQ:=jn (b.x - a.x);have o3:=jn (b.y - a.y);have uM:=Gs a b k;refine ai<|J (blt Z Z)<|ag<|az<| ?_;refine dw Z (λ awy=> ?_) (λ awy=> ?_)
    · refine bt<|az<|bA<|ai<|vm rfl<|vm rfl<|J (CS rfl rfl (bH (by omega)))<|J (bad rfl rfl (bH (by omega)))<|va rfl<|ag<|ai<|vm rfl<|vm rfl<|J (j4 rfl rfl)<|va rfl<|ag<|az<|ai<| ?_
      refine vm Z<|ag<| ?_;refine HG Z (λ LQ=> ?_) (λ LQ=> ?_)
      · rw [im] at Φ
        have FE:decide (cv (b.y - a.y)≤((cS a b k).1)+(2 * (cv (b.x - a.x))))=true:=by exact aUL LQ
        refine rg<|vm Z<|vm Z<|J (CS Z Z (bH (by omega)))<|J (mi Z Z (bH (by omega)))<|va Z<|ag<|az<|ai<|vm Z<|vm Z<|J (j4 Z Z)<|vm Z<|br Z Z Z Z (λ hc=>aM Z) Z<|J (fM Z Z Z Z)<|ag<| ?_;have W7:((decide (cv (b.y - a.y)≤cv (b.x - a.x))) || (decide (cv (b.y - a.y)≤((cS a b k).1)+(2 * (cv (b.x - a.x))))))=true:=by simp only [aU9,aUO];omega
        refine fe (by rw [← W7];rfl)<|rg<|J (au ij Z)<|J (ak Z (gb.one bf Z))<|vm Z<|J (bad Z Z (bH (by omega)))<|J (au ij Z)<|st (new:= [.int .i64 (((cS a b k).2.x)+(hj (b.x - a.x))), .int .i64 ((cS a b k).2.y)]) Z Z gb Z cU Z Z Z λ Tl kq gb=> ?_;have:=kq.size;have vr:=Ext.mod k4 kq bx;refine ag<|az<|ai<|vm Z<|vm Z<|J (iK Z Z)<|vm Z<|br Z Z Z Z (λ hc=>aM Z) Z<|J (fM Z Z Z Z)<|ag<| ?_;have Bb:((decide (cv (b.x - a.x)<cv (b.y - a.y))) || (decide (cv (b.y - a.y)≤((cS a b k).1)+(2 * (cv (b.x - a.x))))))=true:=by simp only [aU9,aUO];omega
        refine fe (by rw [← Bb];rfl)<|rg<|J (au iN Z)<|J (ak Z (gb.one bf Z))<|vm Z<|J (bad Z Z (bH (by omega)))<|J (au iN Z)<|st (new:= [.int .i64 (((cS a b k).2.x)+(hj (b.x - a.x))), .int .i64 (((cS a b k).2.y)+(hj (b.y - a.y)))]) Z Z gb Z cU Z Z Z λ Tn zy gb=> ?_;have:=zy.size;have Cc:=Ext.mod vr zy bx;refine ag<|rg<|vm Z<|J (ak Z (gb.all cm bW))<|c6 (e:= 49) (cs:= [.int .i64 (((cS a b k).2.x)+(hj (b.x - a.x))), .int .i64 (((cS a b k).2.y)+(hj (b.y - a.y)))]) Z (λ _=>by kernel_rfl) Z λ amX aJ6 wV aOd abK=> ?_;have:=wV.size;have J7:=τ Cc wV;have aDk:=abK.lt;have fo:=fo.mod kq (λ q I h=>by have Φ:=aUg.1 h;exfalso;(exact AT q I Φ));have fo:=fo.mod zy (λ q I h=>by have Φ:=aUg.1 h;exfalso;(exact AT q I Φ));have fo:=fo.later wV;refine ap Pr κ.dE fo (aN.gM (R:=ay.rep) (by_:=16) (q:=(⟨((cS a b k).2.x)+(hj (b.x - a.x)),((cS a b k).2.y)+(hj (b.y - a.y))⟩:ay)) abK ⟨Z,⟨bN.2 (by (try dsimp only);omega),bN.2 (by (try dsimp only);omega)⟩⟩ (by decide)) Z Z (by simp only [aUn,aUt];omega) (by simp only [aUn,aUt];omega) J7.size Z λ JO anT aqX nM acQ avA aPG=> ?_;have:=nM.size;have sD:=Ext.mod J7 nM (λ q I=>(fo.lt q I).1);have S9:=λ q I=>(acQ.lt q I).2;have:=nM.size;refine va Z<|nl<|bX<|aT<|rg<|J (bad Z Z (bH (by omega)))<|vm Z<|nl<| ?_;have a8:cS a b (k+1)=((((cS a b k).1)+(2 * (cv (b.x - a.x)))) - (2 * (cv (b.y - a.y))),⟨((cS a b k).2.x)+(hj (b.x - a.x)),((cS a b k).2.y)+(hj (b.y - a.y))⟩):=by
          show p7 a b (cS a b k)=_;unfold p7;simp only [im,Mg,L4,FE,aVZ,aVs,aYb,aYa,aXV,aXj,aUY,aXe,aW3,aWH,aXP]
        have bl:=Ss a b k;rw [a8] at bl;have cZ:(tx a b (k+1)).length=k+2:=Gs a b (k+1);have gb:=gb.later wV;have gb:=gb.mod nM (λ I=>AT _ I rfl);exact cO _ _ ⟨k+1,anT,aqX,Z,Z,sD,(by rw [a8];exact gb),(by rw [bl];exact acQ),by omega,(λ q I Φ=>by (exact aUw (avA q I) (λ ajn=>by (exact AT q ajn Φ)) (λ ajn=>by omega)))⟩ (by omega) (.cons Z (.cons Z (.cons Z (.cons Z (.cons Z (.cons Z (.cons Z (.cons Z (.cons Z (.cons (by rw [bl];rfl) (.cons (F5 Z (by rw [a8])) (.cons Z (.cons (bO Z) .nil)))))))))))))
      · rw [im] at Φ
        have FE:decide (cv (b.y - a.y)≤((cS a b k).1)+(2 * (cv (b.x - a.x))))=false:=by exact aUU LQ
        refine bt<|az<|ai<|vm Z<|vm Z<|J (j4 Z Z)<|vm Z<|br Z Z Z Z (λ hc=>aM Z) Z<|J (fM Z Z Z Z)<|ag<| ?_;have awG:((decide (cv (b.y - a.y)≤cv (b.x - a.x))) || (decide (cv (b.y - a.y)≤((cS a b k).1)+(2 * (cv (b.x - a.x))))))=false:=by simp only [aU8,aU1];omega
        refine hL (by rw [← awG];rfl)<|bt<|az<|ai<|vm Z<|vm Z<|J (iK Z Z)<|vm Z<|br Z Z Z Z (λ hc=>aM Z) Z<|J (fM Z Z Z Z)<|ag<| ?_;have W':((decide (cv (b.x - a.x)<cv (b.y - a.y))) || (decide (cv (b.y - a.y)≤((cS a b k).1)+(2 * (cv (b.x - a.x))))))=true:=by simp only [aU9,aUO];omega
        refine fe (by rw [← W'];rfl)<|rg<|J (au iN Z)<|J (ak Z (gb.one bf Z))<|vm Z<|J (bad Z Z (bH (by omega)))<|J (au iN Z)<|st (new:= [.int .i64 ((cS a b k).2.x), .int .i64 (((cS a b k).2.y)+(hj (b.y - a.y)))]) Z Z gb Z cU Z Z Z λ JS zA gb=> ?_;have:=zA.size;have Cg:=Ext.mod k4 zA bx;refine ag<|rg<|vm Z<|J (ak Z (gb.all cm bW))<|c6 (e:= 49) (cs:= [.int .i64 ((cS a b k).2.x), .int .i64 (((cS a b k).2.y)+(hj (b.y - a.y)))]) Z (λ _=>by kernel_rfl) Z λ aaq aKf h2 aOp abO=> ?_;have:=h2.size;have vu:=τ Cg h2;have aDo:=abO.lt;have fo:=fo.mod zA (λ q I h=>by have Φ:=aUg.1 h;exfalso;(exact AT q I Φ));have fo:=fo.later h2;refine ap Pr κ.dE fo (aN.gM (R:=ay.rep) (by_:=16) (q:=(⟨(cS a b k).2.x,((cS a b k).2.y)+(hj (b.y - a.y))⟩:ay)) abO ⟨Z,⟨bN.2 (by (try dsimp only);omega),bN.2 (by (try dsimp only);omega)⟩⟩ (by decide)) Z Z (by simp only [aUn,aUt];omega) (by simp only [aUn,aUt];omega) vu.size Z λ Tu anV aq0 tq acT avC aPL=> ?_;have:=tq.size;have Ae:=Ext.mod vu tq (λ q I=>(fo.lt q I).1);have aSM:=λ q I=>(acT.lt q I).2;have:=tq.size;refine va Z<|nl<|bX<|aT<|rg<|J (bad Z Z (bH (by omega)))<|vm Z<|nl<| ?_;have a8:cS a b (k+1)=(((cS a b k).1)+(2 * (cv (b.x - a.x))),⟨(cS a b k).2.x,((cS a b k).2.y)+(hj (b.y - a.y))⟩):=by
          show p7 a b (cS a b k)=_;unfold p7;simp only [im,Mg,L4,FE,aVZ,aVs,aYb,aYa,aXV,aXj,aUY,aXe,aW3,aWH,aXP]
        have bl:=Ss a b k;rw [a8] at bl;have cZ:(tx a b (k+1)).length=k+2:=Gs a b (k+1);have gb:=gb.later h2;have gb:=gb.mod tq (λ I=>AT _ I rfl);exact cO _ _ ⟨k+1,anV,aq0,Z,Z,Ae,(by rw [a8];exact gb),(by rw [bl];exact acT),by omega,(λ q I Φ=>by (exact aUw (avC q I) (λ ajs=>by (exact AT q ajs Φ)) (λ ajs=>by omega)))⟩ (by omega) (.cons Z (.cons Z (.cons Z (.cons Z (.cons Z (.cons Z (.cons Z (.cons Z (.cons Z (.cons (by rw [bl];rfl) (.cons (F5 Z (by rw [a8])) (.cons Z (.cons (bO Z) .nil)))))))))))))
    · refine c_<|c9<|dn<|c8<|aT<|ai<|vm rfl<|va rfl<|va rfl<|ag<|rt<|bb (.tmp rfl (.tmp rfl .nil))<| ?_
      have p2:k=(a_ a b).toNat:=by omega
      subst p2;exact ⟨j2,co,Z,fo,k4⟩
  · have qQ:=jn (b.x - a.x)
    have o3:=jn (b.y - a.y);have im:a_ a b=cv (b.x - a.x):=by unfold a_;omega
    have Mg:wz a b=cv (b.y - a.y):=by unfold wz;omega
    have L4:decide (cv (b.x - a.x)<cv (b.y - a.y))=false:=by exact aUU Dc
    refine bt<|ai<| ?_;have ab:=ab.later hl;refine J (ak Z (ab.all cm bW))<|c6 (e:= 49) (cs:= [.int .i64 a.x, .int .i64 a.y]) Z (λ _=>by kernel_rfl) Z λ am2 U5 l' aNw abm=> ?_;have:=l'.size;have ON:=τ lS l';have aC0:=abm.lt;refine va Z<|ag<|ai<|va Z<|ag<|az<|ai<|vm Z<|vm Z<|ag<|bA<| ?_;have ab:=ab.later l';have R0:∀ q∈κ.ae (some ⟨U5,0,none⟩),U5≤q:=λ q I=>aVU (aUg.1 I).symm;refine dX (λ b4 b2 aG=>∃ k:Nat,∃ j2:Option Addr,∃ co:Nat,b2= [(2, .pointer (some ⟨bw,0,none⟩)),(4, .slice none 0 0),(5, .int .i64 0),(6, .int .i64 (hj (b.x - a.x))),(7, .int .i64 (cv (b.x - a.x))),(8, .int .i64 (hj (b.y - a.y))),(9, .int .i64 (cv (b.y - a.y))),(10, .int .i64 (cv (b.x - a.x))),(11, .int .i64 (cv (b.y - a.y))),(12, .slice j2 ((tx a b k).length) co),(13, .int .i64 ((cS a b k).1)),(50, .int .i64 (cv (b.x - a.x))),(51, .int .i64 (k:Int))]∧b4=(cv (b.x - a.x)).toNat - k∧Ext w aG∧aN aG bw [.int .i64 ((cS a b k).2.x), .int .i64 ((cS a b k).2.y)] 49 (0,0)∧ay.rep.aD 49 16 aG w.heap.size (κ.ae j2) j2 co (tx a b k)∧((k:Int)≤cv (b.x - a.x))∧(∀ q∈κ.ae j2,q=bw→False)) _ _ ⟨0,some ⟨U5,0,none⟩,1,Z,Z,ON,ab,(aN.wC (R:=ay.rep) (by_:=16) (B:=w.heap.size) (k:= [a]) abm [[.int .i64 a.x, .int .i64 a.y]] Z ⟨⟨Z,bN.2 (by omega),bN.2 (by omega)⟩,trivial⟩ (by simp) (by simp) (by decide) (by omega)),(by have:=jn (b.y - a.y);have:=jn (b.x - a.x);omega),(λ q I Φ=>by (have:=R0 q I;omega))⟩ (.cons Z (.cons Z (.cons Z (.cons Z (.cons Z (.cons Z (.cons Z (.cons Z (.cons Z (.cons Z (.cons (bO Z) (.cons Z (.cons (bO Z) .nil))))))))))))) ?_;rintro aAZ aoe zY ⟨k,j2,co,rfl,rfl,tO,gb,fo,aw,xy⟩;have:=tO.size;have aC2:=gb.lt;have aFf:=λ q I=>(fo.lt q I).2;have Φ:=ajX a b k;have hp:=ajY a b k;have fg:=Js (b.x - a.x);have gI:=Js (b.y - a.y);have qQ:=jn (b.x - a.x);have o3:=jn (b.y - a.y);have uM:=Gs a b k;refine ai<|J (blt Z Z)<|ag<|az<| ?_;refine dw Z (λ awb=> ?_) (λ awb=> ?_)
    · refine bt<|az<|bA<|ai<|vm rfl<|vm rfl<|J (CS rfl rfl (bH (by omega)))<|J (bad rfl rfl (bH (by omega)))<|va rfl<|ag<|ai<|vm rfl<|vm rfl<|J (j4 rfl rfl)<|va rfl<|ag<|az<|ai<| ?_
      refine vm Z<|ag<| ?_;refine HG Z (λ W0=> ?_) (λ W0=> ?_)
      · rw [im] at Φ
        have FE:decide (cv (b.x - a.x)≤((cS a b k).1)+(2 * (cv (b.y - a.y))))=true:=by exact aUL W0
        refine rg<|vm Z<|vm Z<|J (CS Z Z (bH (by omega)))<|J (mi Z Z (bH (by omega)))<|va Z<|ag<|az<|ai<|vm Z<|vm Z<|J (j4 Z Z)<|vm Z<|br Z Z Z Z (λ hc=>aM Z) Z<|J (fM Z Z Z Z)<|ag<| ?_;have awc:((decide (cv (b.y - a.y)≤cv (b.x - a.x))) || (decide (cv (b.x - a.x)≤((cS a b k).1)+(2 * (cv (b.y - a.y))))))=true:=by simp only [aU9,aUO];omega
        refine fe (by rw [← awc];rfl)<|rg<|J (au ij Z)<|J (ak Z (gb.one bf Z))<|vm Z<|J (bad Z Z (bH (by omega)))<|J (au ij Z)<|st (new:= [.int .i64 (((cS a b k).2.x)+(hj (b.x - a.x))), .int .i64 ((cS a b k).2.y)]) Z Z gb Z cU Z Z Z λ aag oq gb=> ?_;have:=oq.size;have G1:=Ext.mod tO oq bx;refine ag<|az<|ai<|vm Z<|vm Z<|J (iK Z Z)<|vm Z<|br Z Z Z Z (λ hc=>aM Z) Z<|J (fM Z Z Z Z)<|ag<| ?_;have awe:((decide (cv (b.x - a.x)<cv (b.y - a.y))) || (decide (cv (b.x - a.x)≤((cS a b k).1)+(2 * (cv (b.y - a.y))))))=true:=by simp only [aU9,aUO];omega
        refine fe (by rw [← awe];rfl)<|rg<|J (au iN Z)<|J (ak Z (gb.one bf Z))<|vm Z<|J (bad Z Z (bH (by omega)))<|J (au iN Z)<|st (new:= [.int .i64 (((cS a b k).2.x)+(hj (b.x - a.x))), .int .i64 (((cS a b k).2.y)+(hj (b.y - a.y)))]) Z Z gb Z cU Z Z Z λ aS6 YI gb=> ?_;have:=YI.size;have aHl:=Ext.mod G1 YI bx;refine ag<|rg<|vm Z<|J (ak Z (gb.all cm bW))<|c6 (e:= 49) (cs:= [.int .i64 (((cS a b k).2.x)+(hj (b.x - a.x))), .int .i64 (((cS a b k).2.y)+(hj (b.y - a.y)))]) Z (λ _=>by kernel_rfl) Z λ aGd aJJ TJ aNF abr=> ?_;have:=TJ.size;have TN:=τ aHl TJ;have aQj:=abr.lt;have fo:=fo.mod oq (λ q I h=>by have Φ:=aUg.1 h;exfalso;(exact xy q I Φ));have fo:=fo.mod YI (λ q I h=>by have Φ:=aUg.1 h;exfalso;(exact xy q I Φ));have fo:=fo.later TJ;refine ap Pr κ.dE fo (aN.gM (R:=ay.rep) (by_:=16) (q:=(⟨((cS a b k).2.x)+(hj (b.x - a.x)),((cS a b k).2.y)+(hj (b.y - a.y))⟩:ay)) abr ⟨Z,⟨bN.2 (by (try dsimp only);omega),bN.2 (by (try dsimp only);omega)⟩⟩ (by decide)) Z Z (by simp only [aUn,aUt];omega) (by simp only [aUn,aUt];omega) TN.size Z λ amO anJ aqO zr acG avx aPj=> ?_;have:=zr.size;have Oz:=Ext.mod TN zr (λ q I=>(fo.lt q I).1);have amq:=λ q I=>(acG.lt q I).2;have:=zr.size;refine va Z<|nl<|bX<|aT<|rg<|J (bad Z Z (bH (by omega)))<|vm Z<|nl<| ?_;have a8:cS a b (k+1)=((((cS a b k).1)+(2 * (cv (b.y - a.y)))) - (2 * (cv (b.x - a.x))),⟨((cS a b k).2.x)+(hj (b.x - a.x)),((cS a b k).2.y)+(hj (b.y - a.y))⟩):=by
          show p7 a b (cS a b k)=_;unfold p7;simp only [im,Mg,L4,FE,aVZ,aVs,aYb,aYa,aXV,aXj,aUY,aXe,aW3,aWH,aXP]
        have bl:=Ss a b k;rw [a8] at bl;have cZ:(tx a b (k+1)).length=k+2:=Gs a b (k+1);have gb:=gb.later TJ;have gb:=gb.mod zr (λ I=>xy _ I rfl);exact cO _ _ ⟨k+1,anJ,aqO,Z,Z,Oz,(by rw [a8];exact gb),(by rw [bl];exact acG),by omega,(λ q I Φ=>by (exact aUw (avx q I) (λ aiA=>by (exact xy q aiA Φ)) (λ aiA=>by omega)))⟩ (by omega) (.cons Z (.cons Z (.cons Z (.cons Z (.cons Z (.cons Z (.cons Z (.cons Z (.cons Z (.cons (by rw [bl];rfl) (.cons (F5 Z (by rw [a8])) (.cons Z (.cons (bO Z) .nil)))))))))))))
      · rw [im] at Φ
        have FE:decide (cv (b.x - a.x)≤((cS a b k).1)+(2 * (cv (b.y - a.y))))=false:=by exact aUU W0
        refine bt<|az<|ai<|vm Z<|vm Z<|J (j4 Z Z)<|vm Z<|br Z Z Z Z (λ hc=>aM Z) Z<|J (fM Z Z Z Z)<|ag<| ?_;have awj:((decide (cv (b.y - a.y)≤cv (b.x - a.x))) || (decide (cv (b.x - a.x)≤((cS a b k).1)+(2 * (cv (b.y - a.y))))))=true:=by simp only [aU9,aUO];omega
        refine fe (by rw [← awj];rfl)<|rg<|J (au ij Z)<|J (ak Z (gb.one bf Z))<|vm Z<|J (bad Z Z (bH (by omega)))<|J (au ij Z)<|st (new:= [.int .i64 (((cS a b k).2.x)+(hj (b.x - a.x))), .int .i64 ((cS a b k).2.y)]) Z Z gb Z cU Z Z Z λ aGk zt gb=> ?_;have:=zt.size;have aaK:=Ext.mod tO zt bx;refine ag<|az<|ai<|vm Z<|vm Z<|J (iK Z Z)<|vm Z<|br Z Z Z Z (λ hc=>aM Z) Z<|J (fM Z Z Z Z)<|ag<| ?_;have awk:((decide (cv (b.x - a.x)<cv (b.y - a.y))) || (decide (cv (b.x - a.x)≤((cS a b k).1)+(2 * (cv (b.y - a.y))))))=false:=by simp only [aU8,aU1];omega
        refine hL (by rw [← awk];rfl)<|bt<|rg<|vm Z<|J (ak Z (gb.all cm bW))<|c6 (e:= 49) (cs:= [.int .i64 (((cS a b k).2.x)+(hj (b.x - a.x))), .int .i64 ((cS a b k).2.y)]) Z (λ _=>by kernel_rfl) Z λ aaj aJO wO aNL abw=> ?_;have:=wO.size;have Ey:=τ aaK wO;have aQs:=abw.lt;have fo:=fo.mod zt (λ q I h=>by have Φ:=aUg.1 h;exfalso;(exact xy q I Φ));have fo:=fo.later wO;refine ap Pr κ.dE fo (aN.gM (R:=ay.rep) (by_:=16) (q:=(⟨((cS a b k).2.x)+(hj (b.x - a.x)),(cS a b k).2.y⟩:ay)) abw ⟨Z,⟨bN.2 (by (try dsimp only);omega),bN.2 (by (try dsimp only);omega)⟩⟩ (by decide)) Z Z (by simp only [aUn,aUt];omega) (by simp only [aUn,aUt];omega) Ey.size Z λ aTh anL aqQ R8 acI avy aPp=> ?_;have:=R8.size;have aHw:=Ext.mod Ey R8 (λ q I=>(fo.lt q I).1);have aSa:=λ q I=>(acI.lt q I).2;have:=R8.size;refine va Z<|nl<|bX<|aT<|rg<|J (bad Z Z (bH (by omega)))<|vm Z<|nl<| ?_;have a8:cS a b (k+1)=(((cS a b k).1)+(2 * (cv (b.y - a.y))),⟨((cS a b k).2.x)+(hj (b.x - a.x)),(cS a b k).2.y⟩):=by
          show p7 a b (cS a b k)=_;unfold p7;simp only [im,Mg,L4,FE,aVZ,aVs,aYb,aYa,aXV,aXj,aUY,aXe,aW3,aWH,aXP]
        have bl:=Ss a b k;rw [a8] at bl;have cZ:(tx a b (k+1)).length=k+2:=Gs a b (k+1);have gb:=gb.later wO;have gb:=gb.mod R8 (λ I=>xy _ I rfl);exact cO _ _ ⟨k+1,anL,aqQ,Z,Z,aHw,(by rw [a8];exact gb),(by rw [bl];exact acI),by omega,(λ q I Φ=>by (exact aUw (avy q I) (λ aiG=>by (exact xy q aiG Φ)) (λ aiG=>by omega)))⟩ (by omega) (.cons Z (.cons Z (.cons Z (.cons Z (.cons Z (.cons Z (.cons Z (.cons Z (.cons Z (.cons (by rw [bl];rfl) (.cons (F5 Z (by rw [a8])) (.cons Z (.cons (bO Z) .nil)))))))))))))
    · refine c_<|c9<|dn<|c8<|aT<|ai<|vm rfl<|va rfl<|va rfl<|ag<|rt<|bb (.tmp rfl (.tmp rfl .nil))<| ?_
      have p2:k=(a_ a b).toNat:=by omega
      subst p2;exact ⟨j2,co,Z,fo,tO⟩
end
section
def uw (p:Int):Int:=if p=0∨p=3 then 2 else if p=2 then 3 else 0
def vM (p:Int):Int:=if p=0∨p=3 then 0 else if p=2 then 0 else if p=1 then 9 else 1
def ec (c:ay):List ay:= [⟨c.x,c.y - 1⟩,⟨c.x - 1,c.y⟩,⟨c.x+1,c.y⟩,⟨c.x,c.y+1⟩]
namespace aE
section
variable {f:aE} {c d x y b:ay} {l a_:List Int} {v:Int}
def gN (f:aE) (c:ay):Int:=if f.place c=2 then 3 else 2
def cY (f:aE) (c:ay):List ay:=(ec c).filter f.ground
def at_ (f:aE) (c:ay):Nat:=(c.y * f.wide+c.x).toNat
def aC (f:aE) (a_:List Int) (c:ay):Int:=if f.fr c then a_.getD (f.at_ c) (-1) else -1
def kM (b c:ay):Int:=2 * (cv (b.x - c.x)+cv (b.y - c.y))
theorem C' (h:f.ground c=true):f.place c≠1:=by unfold ground at h;rw [aUp] at h;simpa using h.2
theorem agi (h:f.fr c=true) (aa:f.place c≠1):f.ground c=true:=by unfold ground;rw [h];simpa using aa
theorem p5:2≤f.gN c∧f.gN c≤3:=by unfold gN;split<;>omega
theorem Nu:y∈f.cY x↔y∈ec x∧f.ground y=true:=by unfold cY;rw [aWK]
theorem YU:y∈ec x↔(y=⟨x.x,x.y - 1⟩∨y=⟨x.x - 1,x.y⟩∨y=⟨x.x+1,x.y⟩∨y=⟨x.x,x.y+1⟩):=by unfold ec;simp
theorem ZO (h:y∈ec x):x∈ec y:=by
 rw [YU] at h ⊢;obtain ⟨a,b⟩:=x;rcases h with rfl | rfl | rfl | rfl
 ·right;right;right;simp
 ·right;right;left;simp
 ·right;left;simp
 ·left;simp
theorem aEb (h:y∈ec x):y≠x:=by
 rw [YU] at h;obtain ⟨a,b⟩:=x;rcases h with rfl | rfl | rfl | rfl<;>simp<;>omega
theorem Wb (b:ay) (h:y∈ec x):kM b x≤2+kM b y:=by
 rw [YU] at h;obtain ⟨eH,e3⟩:=x;have e:∀ n:Int,cv n≤1+cv (n+1)∧cv n≤1+cv (n - 1):=λ n=>by
  have γ:=jn n;have aa:=jn (n+1);have av:=jn (n - 1);rcases (show n<0∨0≤n by omega) with hn | hn
  ·have:=γ.2.2.2 hn;rcases (show n+1<0∨0≤n+1 by omega) with hm | hm
   ·have:=aa.2.2.2 hm;have:=av.2.2.2 (by omega);omega
   ·have:=aa.2.2.1 hm;have:=av.2.2.2 (by omega);omega
  ·have:=γ.2.2.1 hn;have:=aa.2.2.1 (by omega);rcases (show n - 1<0∨0≤n - 1 by omega) with hm | hm
   ·have:=av.2.2.2 hm;omega
   ·have:=av.2.2.1 hm;omega
 unfold kM;rcases h with rfl | rfl | rfl | rfl<;>dsimp only
 ·have:=(e (b.y - e3)).1;rw [show b.y - (e3 - 1)=b.y - e3+1 by omega];omega
 ·have:=(e (b.x - eH)).1;rw [show b.x - (eH - 1)=b.x - eH+1 by omega];omega
 ·have:=(e (b.x - eH)).2;rw [show b.x - (eH+1)=b.x - eH - 1 by omega];omega
 ·have:=(e (b.y - e3)).2;rw [show b.y - (e3+1)=b.y - e3 - 1 by omega];omega
theorem afJ (b c:ay):0≤kM b c:=by have:=jn (b.x - c.x);have:=jn (b.y - c.y);unfold kM;omega
theorem Wa (b:ay):kM b b=0:=by unfold kM;rw [aX7,aX7];rfl
theorem Sm (f:aE) (b:ay):qx.hV f.cY f.gN (kM b):=⟨λ x y _=>by have:=f.p5 (c:=y);omega,afJ b,λ x y aH=>by
 have:=Wb b (Nu.1 aH).1;have:=f.p5 (c:=y);omega⟩
theorem Y' (f:aE):qx.hV f.cY f.gN (λ _=>0):=⟨λ x y _=>by have:=f.p5 (c:=y);omega,λ _=>aVR 0,λ x y aH=>by have:=f.p5 (c:=y);omega⟩
theorem adh (hf:f.bq=0) (hc:f.fr c=true) (hd:f.fr d=true) (h:f.at_ c=f.at_ d):c=d:=by
 obtain ⟨a0,cy,a2,a3,a4,a5⟩:=idx hf hc;obtain ⟨yY,hX,dW,gd,pJ,HA⟩:=idx hf hd;unfold at_ at h;have e:c.y * f.wide+c.x=d.y * f.wide+d.x:=by omega
 have a8:(c.y * f.wide+c.x) % f.wide=c.x:=by rw [aX9,aW6,aX8 a2 a3]
 have bl:(d.y * f.wide+d.x) % f.wide=d.x:=by rw [aX9,aW6,aX8 dW gd]
 have ex:c.x=d.x:=by rw [← a8,← bl,e]
 have QG:c.y * f.wide=d.y * f.wide:=by omega
 have QG:c.y=d.y:=Int.eq_of_mul_eq_mul_right (by omega) QG;cases c;cases d;simp at ex QG;rw [ex,QG]
theorem yX (hf:f.bq=0) (hc:f.fr c=true):f.at_ c<f.aY.length∧((f.at_ c:Nat):Int)=c.y * f.wide+c.x:=by
 obtain ⟨a0,cy,_⟩:=idx hf hc;unfold at_;omega
theorem H8 (hc:f.fr c=true):f.aC a_ c=a_.getD (f.at_ c) (-1):=by unfold aC;rw [aUz hc]
theorem Wo (hc:f.fr c=false):f.aC a_ c= -1:=by unfold aC;rw [aUr (by rw [hc];decide)]
theorem QQ (hf:f.bq=0) (aB:a_.length=f.aY.length) (hc:f.fr c=true):f.aC (a_.set (f.at_ c) v) c=v:=by
 rw [H8 hc,aUi,aUG (by rw [aB];exact (yX hf hc).1)];rfl
theorem QR (hf:f.bq=0) (hc:f.fr c=true) (dY:d≠c):f.aC (a_.set (f.at_ c) v) d=f.aC a_ d:=by
 cases hd:f.fr d with
 | false=>rw [Wo hd,Wo hd]
 | true=>rw [H8 hd,H8 hd,aUi,aUi,aUJ (λ e=>dY (adh hf hd hc e.symm))]
end
end aE
def und:List Int→Nat
 | []=>0
 | x::r=>(if x<0 then 1 else 0)+und r
theorem amC:∀ l:List Int,und l≤l.length
 | []=>aUu _
 | x::r=>by have:=amC r;rw [und,aUn];split<;>omega
theorem amD {v:Int} (hv:0≤v):∀ (l:List Int) (i:Nat),i<l.length→l.getD i (-1)<0→und (l.set i v)+1=und l
 | [],i,h,_=>by simp at h
 | x::r,0,_,h=>by
  have h:x<0:=h;rw [aWe,und,und,aUr (by omega),aUz h];omega
 | x::r,i+1,h,aa=>by
  have:=amD hv r i (by simpa using h) (by simpa using aa);rw [aWf,und,und];omega
theorem Z_ {n:Nat}:und (List.replicate n (-1))=n:=by
 induction n with
 | zero=>rfl
 | succ n bI=>rw [aY5,und,bI];simp;omega
structure iJ {β:Type} [Inhabited β] (gL:β→ay) (au jk:β→Int) (f:aE) (h:ay→Int) (src:ay→Prop) (a_:List Int) (l:List β) (dg:ay) (rest:List ay):Prop where
 len:a_.length=f.aY.length
 inv:qx.Inv f.cY f.gN h src (f.aC a_) (l.map λ n=>(gL n,au n)) dg rest
 hp:cx.Heap jk l.length l
 all:∀ n∈l,jk n=au n+h (gL n)∧f.ground (gL n)=true
 cM:∀ c,f.aC a_ c+3 * (und a_:Int)≤3 * (f.aY.length:Int)
 gr:∀ c,0≤f.aC a_ c→f.ground c=true
section
variable {β:Type} [Inhabited β] {gL:β→ay} {au jk:β→Int} {f:aE} {h:ay→Int} {src:ay→Prop} {a_:List Int} {l:List β} {dg y:ay} {rest:List ay} {n:β} {j:Nat}
theorem iJ.afK (s:iJ gL au jk f h src a_ l dg rest) (o:qx.hV f.cY f.gN h) (hn:n∈l):0≤au n∧au n+3 * (und a_:Int)≤3 * (f.aY.length:Int)+3:=by
 have hm:(gL n,au n)∈l.map λ n=>(gL n,au n):=aUR.2 ⟨n,hn,rfl⟩;have hr:=s.inv.alh hm;refine ⟨hr.q1 o, ?_⟩;have hu:=amC a_;have:=s.len;rcases s.inv.q _ hm with ⟨_,aa⟩ | ⟨p,γ,aa,av⟩
 ·have aa:au n=0:=aa;omega
 ·have av:au n=f.aC a_ p+f.gN (gL n):=av;have:=s.cM p;have:=f.p5 (c:=gL n);omega
theorem iJ.akM (aI:0<l.length):(l.map λ n=>(gL n,au n)).Perm ((gL (l.getD 0 default),au (l.getD 0 default))::(cx.oy jk l).map λ n=>(gL n,au n)):=
 ((cx.akV (key:=jk) aI).symm.map _)
theorem iJ.least (s:iJ gL au jk f h src a_ l dg rest) (aI:0<l.length):∀ e∈l.map λ n=>(gL n,au n),au (l.getD 0 default)+h (gL (l.getD 0 default))≤e.2+h e.1:=by
 intro e he;obtain ⟨n,hn,rfl⟩:=aUR.1 he;have γ:=s.hp.least n hn;rw [(s.all n hn).1,(s.all _ (jT aI)).1] at γ;exact γ
theorem iJ.sub (aI:0<l.length) (hn:n∈cx.oy jk l):n∈l:=(cx.akV (key:=jk) aI).subset (aUB _ hn)
theorem iJ.aEd (s:iJ gL au jk f h src a_ l dg []) (aI:0<l.length) (hd:0≤f.aC a_ (gL (l.getD 0 default))):iJ gL au jk f h src a_ (cx.oy jk l) dg [] :=
 ⟨s.len,s.inv.aCE (iJ.akM aI) hd,cx.akU s.hp aI,λ n hn=>s.all n (iJ.sub aI hn),s.cM,s.gr⟩
theorem iJ.new (s:iJ gL au jk f h src a_ l dg []) (hf:f.bq=0) (o:qx.hV f.cY f.gN h) (aI:0<l.length) (hd:f.aC a_ (gL (l.getD 0 default))<0):
  iJ gL au jk f h src (a_.set (f.at_ (gL (l.getD 0 default))) (au (l.getD 0 default))) (cx.oy jk l) (gL (l.getD 0 default)) (f.cY (gL (l.getD 0 default)))∧und (a_.set (f.at_ (gL (l.getD 0 default))) (au (l.getD 0 default)))+1=und a_:=by
 have aS:=(s.all _ (jT aI (d:=default))).2;have aq:=aE.j_ aS;have Φ:=s.afK o (jT aI (d:=default));have hu:und (a_.set (f.at_ (gL (l.getD 0 default))) (au (l.getD 0 default)))+1=und a_:=amD Φ.1 a_ _ (by rw [s.len];exact (aE.yX hf aq).1) (by rw [aE.H8 aq] at hd;exact hd);refine ⟨⟨by rw [aUs];exact s.len,(s.inv.aCD o (iJ.akM aI) hd (s.least aI) (aE.QQ hf s.len aq) (λ z bB=>aE.QR hf aq bB)).1,cx.akU s.hp aI,λ n hn=>s.all n (iJ.sub aI hn),λ c=> ?_,λ c hc=> ?_⟩,hu⟩
 ·by_cases e:c=gL (l.getD 0 default)
  ·rw [e,aE.QQ hf s.len aq];omega
  ·rw [aE.QR hf aq e];have:=s.cM c;omega
 ·by_cases e:c=gL (l.getD 0 default)
  ·rw [e];exact aS
  ·rw [aE.QR hf aq e] at hc;exact s.gr c hc
theorem iJ.push (s:iJ gL au jk f h src a_ l dg (y::rest)) (o:qx.hV f.cY f.gN h) (aS:f.ground y=true) (γ:gL n=y) (aa:au n=f.aC a_ dg+f.gN y) (av:jk n=au n+h y):iJ gL au jk f h src a_ (cx.push jk l n) dg rest:=by
 refine ⟨s.len,s.inv.push o ?_,cx.aCU s.hp,λ m hm=> ?_,s.cM,s.gr⟩
 ·have:=(cx.ak0 (key:=jk) (l:=l) (x:=n)).map λ n=>(gL n,au n);rw [aU4,γ,aa] at this;exact this
 ·rcases aUD.1 ((cx.ak0 (key:=jk)).subset hm) with rfl | hm
  ·rw [γ];exact ⟨av,aS⟩
  ·exact s.all m hm
theorem iJ.pass (s:iJ gL au jk f h src a_ l dg (y::rest)) (aH:0≤f.aC a_ y):iJ gL au jk f h src a_ l dg rest:=⟨s.len,s.inv.skip aH,s.hp,s.all,s.cM,s.gr⟩
theorem ZN {f:aE} {x:ay} {j:Nat} (aA:j<4):((ec x).drop j).filter f.ground=if f.ground ((ec x).getD j default) then (ec x).getD j default::((ec x).drop (j+1)).filter f.ground else ((ec x).drop (j+1)).filter f.ground:=by
 have aB:(ec x).length=4:=rfl;rw [aV3 (by omega),aVO,oh (by omega)]
theorem iJ.aAN (s:iJ gL au jk f h src a_ l dg (((ec dg).drop j).filter f.ground)) (aA:j<4) (aS:f.ground ((ec dg).getD j default)=false):iJ gL au jk f h src a_ l dg (((ec dg).drop (j+1)).filter f.ground):=by
 rw [ZN aA,aUr (by rw [aS];decide)] at s;exact s
theorem iJ.aAL (s:iJ gL au jk f h src a_ l dg (((ec dg).drop j).filter f.ground)) (aA:j<4) (aH:0≤f.aC a_ ((ec dg).getD j default)) (aS:f.ground ((ec dg).getD j default)=true):iJ gL au jk f h src a_ l dg (((ec dg).drop (j+1)).filter f.ground):=by
 rw [ZN aA,aUz aS] at s;exact s.pass aH
theorem iJ.aAM (s:iJ gL au jk f h src a_ l dg (((ec dg).drop j).filter f.ground)) (o:qx.hV f.cY f.gN h) (aA:j<4) (aS:f.ground ((ec dg).getD j default)=true) (γ:gL n=(ec dg).getD j default) (aa:au n=f.aC a_ dg+f.gN ((ec dg).getD j default)) (av:jk n=au n+h ((ec dg).getD j default)):
  iJ gL au jk f h src a_ (cx.push jk l n) dg (((ec dg).drop (j+1)).filter f.ground):=by
 rw [ZN aA,aUz aS] at s;exact s.push o aS γ aa av
end
end
section
structure cd where
 cell:ay
 a_:Int
 all:Int
 deriving DecidableEq,Inhabited
namespace cd
def cells (a:cd):List Value:= [.int .i64 (a.cell.x), .int .i64 (a.cell.y), .int .i64 (a.a_), .int .i64 (a.all)]
def ok (a:cd):Prop:=(Lit.int .i64 a.cell.x).wf=true∧(Lit.int .i64 a.cell.y).wf=true∧(Lit.int .i64 a.a_).wf=true∧(Lit.int .i64 a.all).wf=true
def raw (j:Nat) (u:Value):Prop:=match j with
 | 0=>∃ n:Int,u= .int .i64 n
 | 1=>∃ n:Int,u= .int .i64 n
 | 2=>∃ n:Int,u= .int .i64 n
 | 3=>∃ n:Int,u= .int .i64 n
 | _=>True
theorem rJ (a:cd):∀ (j:Nat) u,a.cells[j]? =some u→raw j u:=by
 intro j u hu
 match j,hu with
 | 0,hu=>exact ⟨_,(aUh hu).symm⟩
 | 1,hu=>exact ⟨_,(aUh hu).symm⟩
 | 2,hu=>exact ⟨_,(aUh hu).symm⟩
 | 3,hu=>exact ⟨_,(aUh hu).symm⟩
 | j+4,hu=>exact trivial
theorem rI (a:cd):∀ u∈a.cells,u.oneCell'=true:=by
 intro u hu;unfold cells at hu;simp only [aUD,aVI,aWr] at hu;rcases hu with rfl | rfl | rfl | rfl<;>rfl
def rep:κ cd:=κ.flat 4 cells ok raw (λ _=>rfl) rI rJ
def zero:Value:= .agg #[.int .i64 0, .int .i64 0, .int .i64 0, .int .i64 0]
theorem iY:∀ (j:Nat) u,zero.cells[j]? =some u→rep.raw j u:=by
 intro j u hu;have hu:(#[(.int .i64 0:Value),(.int .i64 0:Value),(.int .i64 0:Value),(.int .i64 0:Value)]:Array Value)[j]? =some u:=hu
 match j,hu with
 | 0,hu=>exact ⟨_,(aUh hu).symm⟩
 | 1,hu=>exact ⟨_,(aUh hu).symm⟩
 | 2,hu=>exact ⟨_,(aUh hu).symm⟩
 | 3,hu=>exact ⟨_,(aUh hu).symm⟩
 | j+4,hu=>cases hu
theorem info:(prog.info? 313).map (λ i=>(i.zero,i.size,i.bytes))=some (some zero,4,32):=by kernel_rfl
def sh:fP:=(.cons (.cons (.int .i64) (.cons (.int .i64) .nil)) (.cons (.int .i64) (.cons (.int .i64) .nil)))
end cd
end
section
abbrev rB (f:aE) (a b:ay) (a_:List Int) (l:List cd) (dg:ay) (rest:List ay):Prop:=iJ cd.cell cd.a_ cd.all f (aE.kM b) (λ c=>c=a) a_ l dg rest
def xn (f:aE) (b:ay) (a_:List Int):Prop:=0≤f.aC a_ b→∀ x,0≤f.aC a_ x→f.aC a_ x+aE.kM b x≤f.aC a_ b
structure pF (f:aE) (a b:ay) (a_:List Int):Prop where
 len:a_.length=f.aY.length
 spec:qx.Spec f.cY f.gN (aE.kM b) (λ c=>c=a) b (f.aC a_)
 cM:∀ c,f.aC a_ c≤3 * (f.aY.length:Int)
 gr:∀ c,0≤f.aC a_ c→f.ground c=true
section
variable {f:aE} {a b dg:ay} {a_:List Int} {l:List cd} {b1:cd} {rest:List ay}
theorem aFS (s:rB f a b a_ l dg []) (hf:f.bq=0) (aI:0<l.length) (hx:l.getD 0 default=b1) (hd:f.aC a_ b1.cell<0) (hv:xn f b a_) (hc:f.aC a_ b<0∨b1.all≤f.aC a_ b):xn f b (a_.set (f.at_ b1.cell) b1.a_):=by
 have hm:b1∈l:=by rw [← hx];exact jT aI
 obtain ⟨ha,aS⟩:=s.all b1 hm;have aq:=aE.j_ aS;have γ:=aE.QQ (v:=b1.a_) hf s.len aq;have aa:∀ z,z≠b1.cell→f.aC (a_.set (f.at_ b1.cell) b1.a_) z=f.aC a_ z:=λ z bB=>aE.QR hf aq bB;have ahF:=λ z bB=>s.inv.mono z bB (b1.cell,b1.a_) (aUR.2 ⟨b1,hm,rfl⟩);dsimp only at ahF;intro Φ z bB;by_cases e:b=b1.cell
 ·have auO:f.aC (a_.set (f.at_ b1.cell) b1.a_) b=b1.a_:=by rw [e];exact γ
  rw [auO];have e0:aE.kM b b1.cell=0:=by rw [← e];exact aE.Wa b
  by_cases Lo:z=b1.cell
  ·rw [Lo,γ];omega
  ·rw [aa z Lo] at bB ⊢;have:=ahF z bB;omega
 ·rw [aa b e] at Φ ⊢;by_cases Lo:z=b1.cell
  ·rw [Lo,γ];omega
  ·rw [aa z Lo] at bB ⊢;exact hv Φ z bB
theorem akL (s:rB f a b a_ l dg []) (hv:xn f b a_) (he:(0≤f.aC a_ b∧∀ e∈l.map λ n=>(n.cell,n.a_),f.aC a_ b<e.2+aE.kM b e.1)∨(l.map λ n=>(n.cell,n.a_))= []):pF f a b a_ :=
 ⟨s.len,s.inv.ends (aE.Sm f b) (aE.Wa b) hv he,λ c=>by have:=s.cM c;omega,s.gr⟩
theorem aCu (s:rB f a b a_ l dg []) (hv:xn f b a_) (h:l.length=0):pF f a b a_:=akL s hv (.inr (by rw [aUQ h];rfl))
theorem aCt (s:rB f a b a_ l dg []) (hv:xn f b a_) (aI:0<l.length) (Φ:0≤f.aC a_ b) (h:f.aC a_ b<(l.getD 0 default).all):pF f a b a_ :=
 akL s hv (.inl ⟨Φ,λ e he=>by
  have γ:=s.least aI e he;rw [← (s.all _ (jT aI)).1] at γ;omega⟩)
theorem rB.node (s:rB f a b a_ l dg rest) (hf:f.bq=0) (Φ:f.fr b=true) (hn:b1∈l):0≤b1.cell.x∧b1.cell.x<f.wide∧0≤b1.cell.y∧b1.cell.y<f.high∧0≤b1.a_∧b1.a_≤4803∧0≤b1.all∧b1.all≤5000∧b1.ok:=by
 obtain ⟨ha,aS⟩:=s.all b1 hn;obtain ⟨_,_,i1,i2,i3,i4⟩:=aE.idx hf (aE.j_ aS);obtain ⟨_,_,aM0,Yf,aM1,aM2⟩:=aE.idx hf Φ;obtain ⟨g1,g2,g3,g4,g5,g6⟩:=aE.km hf;obtain ⟨γ,aa⟩:=s.afK (aE.Sm f b) hn;have aB:=aE.dT hf;have he:0≤aE.kM b b1.cell∧aE.kM b b1.cell≤160:=by
  refine ⟨aE.afJ _ _, ?_⟩;unfold aE.kM;have cy:=jn (b.x - b1.cell.x);have a2:=jn (b.y - b1.cell.y);rcases (show b.x - b1.cell.x<0∨0≤b.x - b1.cell.x by omega) with h | h
  ·have:=cy.2.2.2 h;rcases (show b.y - b1.cell.y<0∨0≤b.y - b1.cell.y by omega) with dk | dk
   ·have:=a2.2.2.2 dk;omega
   ·have:=a2.2.2.1 dk;omega
  ·have:=cy.2.2.1 h;rcases (show b.y - b1.cell.y<0∨0≤b.y - b1.cell.y by omega) with dk | dk
   ·have:=a2.2.2.2 dk;omega
   ·have:=a2.2.2.1 dk;omega
 refine ⟨i1,i2,i3,i4,γ,by omega,by omega,by omega,bN.2 (by omega),bN.2 (by omega),bN.2 (by omega),bN.2 (by omega)⟩
theorem A3 (hf:f.bq=0) (aB:a_.length=f.aY.length) {c:ay} (hc:f.fr c=true):a_[(c.y * f.wide+c.x).toNat]? =some (f.aC a_ c):=by
 rw [aE.H8 hc];exact dH (u:= -1) (show f.at_ c<a_.length by rw [aB];exact (aE.yX hf hc).1)
theorem eo (hf:f.bq=0) (aB:a_.length=f.aY.length) {c:ay} (hc:f.fr c=true):(c.y * f.wide+c.x).toNat<a_.length∧0≤c.y * f.wide+c.x∧c.y * f.wide+c.x≤1600:=by
 have γ:=aE.yX hf hc;obtain ⟨a0,cy,_⟩:=aE.idx hf hc;have:=aE.dT hf;unfold aE.at_ at γ;omega
theorem adi (p q:Bool):p=false∨(p=true∧q=true)∨(p=true∧q=false):=by cases p<;>cases q<;>simp
end
end
section
section
variable {f:aE} {a b c:ay} {a_ QH:List Int} {aC:ay→Int}
noncomputable def cP (f:aE) (a b:ay):ay→Int :=
 @dite _ (∃ a_,pF f a b a_) (Classical.propDecidable _) (λ h=>f.aC h.choose) λ _=>λ _=> -1
theorem pF.QO (h:pF f a b a_):f.aC a_=cP f a b:=by
 have hex:∃ a_,pF f a b a_:=⟨a_,h⟩;unfold cP;rw [dif_pos hex]
 funext x
 exact h.spec.uniq hex.choose_spec.spec x
theorem pF.get (h:pF f a b a_) (hf:f.bq=0) {c:ay} (hc:f.fr c=true):a_[(c.y * f.wide+c.x).toNat]? =some (cP f a b c):=by rw [← h.QO];exact A3 hf h.len hc
theorem aCV {β:Type} [Inhabited β] {key:β→Int} {x:β}:cx.push key [] x= [x]:=by
 unfold cx.push cx.qh;rw [aUr (by simp)];rfl
theorem QP {n:Nat}:f.aC (List.replicate n (-1)) c= -1:=by
 unfold aE.aC;split
 ·rw [aUi,aVr];split<;>rfl
 ·rfl
theorem rB.start (hf:f.bq=0) (ha:f.ground a=true) (dg:ay):rB f a b (List.replicate f.aY.length (-1)) (cx.push cd.all [] ⟨a,0,0+aE.kM b a⟩) dg []:=by
 rw [aCV];refine ⟨aUS,qx.Inv.start (λ x=>QP) (λ e he=> ?_) (λ s hs=> ?_),λ i aI γ=>by simp at γ;omega,λ n hn=> ?_,λ c=> ?_,λ c hc=>by rw [QP] at hc;omega⟩
 ·rw [aU4,aV8,aUg] at he;subst he;exact ⟨Z,Z⟩
 ·subst hs;exact aUH
 ·rw [aUg.1 hn];exact ⟨Z,ha⟩
 ·rw [QP,Z_];omega
theorem xn.start:xn f b (List.replicate f.aY.length (-1)):=λ h=>by rw [QP] at h;omega
def lL (f:aE) (aC:ay→Int) (c:ay):ay:=((ec c).find? λ n=>f.ground n && decide (0≤aC n) && decide (aC n+f.gN c=aC c)).getD c
def xq (f:aE) (aC:ay→Int) (a:ay):Nat→ay→List ay
 | 0,c=> [c]
 | n+1,c=>if c=a then [c] else c::xq f aC a n (lL f aC c)
structure oN (f:aE) (a:ay) (aC:ay→Int):Prop where
 zero:aC a=0
 pos:∀ c,0≤aC c→c≠a→∃ p,0≤aC p∧c∈f.cY p∧aC c=aC p+f.gN c
 gr:∀ c,0≤aC c→f.ground c=true
theorem oN.prev (h:oN f a aC) (hc:0≤aC c) (dY:c≠a):lL f aC c∈ec c∧f.ground (lL f aC c)=true∧0≤aC (lL f aC c)∧aC (lL f aC c)+f.gN c=aC c:=by
 obtain ⟨p,γ,aa,av⟩:=h.pos c hc dY;have hp:p∈ec c:=aE.ZO (aE.Nu.1 aa).1;have Rz:(f.ground p && decide (0≤aC p) && decide (aC p+f.gN c=aC c))=true:=by
  rw [h.gr p γ,aUL γ,aUL av.symm];rfl
 unfold lL;cases hf:(ec c).find? λ n=>f.ground n && decide (0≤aC n) && decide (aC n+f.gN c=aC c) with
 | none=>exact absurd Rz (aVH.1 hf p hp)
 | some q =>
  have I:=aXw hf;simp only [aUp,aUO] at I;exact ⟨aXa hf,I.1.1,I.1.2,I.2⟩
theorem oN.fuel (h:oN f a aC):∀ (n:Nat) (c:ay),0≤aC c→(aC c).toNat≤n→xq f aC a n c=xq f aC a (aC c).toNat c:=by
 intro n;induction n using Nat.strongRecOn with
 | ind n bI =>
  intro c hc hn;by_cases dY:c=a
  ·subst dY;have:(aC c).toNat=0:=by rw [h.zero];rfl
   rw [this];cases n with
   | zero=>rfl
   | succ n=>unfold xq;rw [aUz rfl]
  ·obtain ⟨eX,fL,m_,x'⟩:=h.prev hc dY;have aw:=f.p5 (c:=c);obtain ⟨m,hm⟩:∃ m,(aC c).toNat=m+1:=⟨(aC c).toNat - 1,by omega⟩;obtain ⟨jU,Ru⟩:∃ jU,n=jU+1:=⟨n - 1,by omega⟩;subst Ru;rw [hm,xq,xq,aUr dY,aUr dY,bI jU (by omega) _ m_ (by omega),bI m (by omega) _ m_ (by omega)]
def fX (f:aE) (aC:ay→Int) (a c:ay):List ay:=xq f aC a (aC c).toNat c
theorem BZ (h:oN f a aC):fX f aC a a= [a]:=by unfold fX;rw [h.zero];rfl
theorem B0 (h:oN f a aC) (hc:0≤aC c) (dY:c≠a):fX f aC a c=c::fX f aC a (lL f aC c):=by
 obtain ⟨eX,fL,m_,x'⟩:=h.prev hc dY;have aw:=f.p5 (c:=c);unfold fX;obtain ⟨m,hm⟩:∃ m,(aC c).toNat=m+1:=⟨(aC c).toNat - 1,by omega⟩;rw [hm,xq,aUr dY,h.fuel m _ m_ (by omega)]
theorem oN.of (h:pF f a b a_) (Φ:0≤f.aC a_ b):oN f a (f.aC a_):=by
 have bB:0≤f.aC a_ a→f.aC a_ a=0:=λ aI=>by
  have:=(h.spec.oV a aI).1.2 0 (.start rfl);omega
 have key:∀ n:Nat,∀ c,0≤f.aC a_ c→(f.aC a_ c).toNat=n→0≤f.aC a_ a:=by
  intro n;induction n using Nat.strongRecOn with
  | ind n bI =>
   intro c hc hn;rcases h.spec.pred c hc with ⟨γ,_⟩ | ⟨p,γ,aa,av⟩
   ·subst γ;exact hc
   ·have:=f.p5 (c:=c);exact bI (f.aC a_ p).toNat (by omega) p γ Z
 have ha:=key _ b Φ rfl;refine ⟨bB ha,λ c hc dY=> ?_,h.gr⟩;rcases h.spec.pred c hc with ⟨γ,_⟩ | γ
 ·exact absurd γ dY
 ·exact γ
theorem oN.Gp (h:pF f a b a_) (Φ:0≤cP f a b b):oN f a (cP f a b):=by rw [← h.QO] at Φ ⊢;exact oN.of h Φ
theorem pF.aqj (h:pF f a b a_) (c:ay):cP f a b c≤3 * (f.aY.length:Int):=by rw [← h.QO];exact h.cM c
noncomputable def hB (f:aE) (a b:ay):Int:=if f.dU a≠0 then f.dU a else if f.dU b≠0 then f.dU b else if f.place a=1∨f.place b=1 then 9 else if cP f a b b<0 then 6 else 0
noncomputable def oZ (f:aE) (a b:ay):Int:=if hB f a b=0 then cP f a b b else 0
noncomputable def fY (f:aE) (a b:ay):List ay:=if hB f a b=0 then (fX f (cP f a b) a b).reverse else []
theorem au3 (h:f.dU a≠0):hB f a b=f.dU a:=by unfold hB;rw [aUz h]
theorem au4 (h:f.dU a=0) (aa:f.dU b≠0):hB f a b=f.dU b:=by unfold hB;rw [aUr (by rw [h];simp),aUz aa]
theorem PJ (h:f.dU a=0):f.bq=0∧f.fr a=true:=by
 have hc:f.bq=0:=by
  by_cases hc:f.bq=0
  ·exact hc
  ·rw [(aE.UX hc).1] at h;exact h
 exact ⟨hc,apZ hc h⟩
where
 apZ {f:aE} {c:ay} (h:f.bq=0) (he:f.dU c=0):f.fr c=true:=by
  cases aq:f.fr c with
  | true=>rfl
  | false=>rw [(aE.KX h aq).1] at he;omega
theorem au6 (h:f.dU a=0) (aa:f.dU b=0) (av:f.place a=1∨f.place b=1):hB f a b=9:=by unfold hB;rw [aUr (by rw [h];simp),aUr (by rw [aa];simp),aUz av]
theorem au5 (hf:f.bq=0) (ha:f.ground a=true) (Φ:f.ground b=true) (h:cP f a b b<0):hB f a b=6:=by
 unfold hB;rw [aUr (by rw [(aE.mO hf (aE.j_ ha)).1];simp),aUr (by rw [(aE.mO hf (aE.j_ Φ)).1];simp),aUr (by rintro (γ | γ);exact aE.C' ha γ;exact aE.C' Φ γ),aUz h]
theorem Wj (hf:f.bq=0) (ha:f.ground a=true) (Φ:f.ground b=true) (h:0≤cP f a b b):hB f a b=0:=by
 unfold hB;rw [aUr (by rw [(aE.mO hf (aE.j_ ha)).1];simp),aUr (by rw [(aE.mO hf (aE.j_ Φ)).1];simp),aUr (by rintro (γ | γ);exact aE.C' ha γ;exact aE.C' Φ γ),aUr (by omega)]
theorem Wh (f:aE) (a b:ay):(f.dU a≠0∧hB f a b=f.dU a)∨(f.dU a=0∧f.dU b≠0∧hB f a b=f.dU b)∨(f.dU a=0∧f.dU b=0∧(f.place a=1∨f.place b=1)∧hB f a b=9)∨(f.bq=0∧f.ground a=true∧f.ground b=true∧((cP f a b b<0∧hB f a b=6)∨(0≤cP f a b b∧hB f a b=0))):=by
 by_cases γ:f.dU a=0
 ·by_cases aa:f.dU b=0
  ·obtain ⟨hc,MA⟩:=PJ γ;obtain ⟨_,X'⟩:=PJ aa;by_cases av:f.place a=1∨f.place b=1
   ·exact .inr (.inr (.inl ⟨γ,aa,av,au6 γ aa av⟩))
   ·have ga:=aE.agi MA (λ h=>av (.inl h));have vV:=aE.agi X' (λ h=>av (.inr h));refine .inr (.inr (.inr ⟨hc,ga,vV, ?_⟩));by_cases aV:cP f a b b<0
    ·exact .inl ⟨aV,au5 hc ga vV aV⟩
    ·exact .inr ⟨by omega,Wj hc ga vV (by omega)⟩
  ·exact .inr (.inl ⟨γ,aa,au4 γ aa⟩)
 ·exact .inl ⟨γ,au3 γ⟩
end
end
section
structure dz where
 id:Int
 bp:ay
 deriving DecidableEq,Inhabited
namespace dz
def cells (a:dz):List Value:= [.int .i64 (a.id), .int .i64 (a.bp.x), .int .i64 (a.bp.y)]
def ok (a:dz):Prop:=(Lit.int .i64 a.id).wf=true∧(Lit.int .i64 a.bp.x).wf=true∧(Lit.int .i64 a.bp.y).wf=true
def raw (j:Nat) (u:Value):Prop:=match j with
 | 0=>∃ n:Int,u= .int .i64 n
 | 1=>∃ n:Int,u= .int .i64 n
 | 2=>∃ n:Int,u= .int .i64 n
 | _=>True
theorem rJ (a:dz):∀ (j:Nat) u,a.cells[j]? =some u→raw j u:=by
 intro j u hu
 match j,hu with
 | 0,hu=>exact ⟨_,(aUh hu).symm⟩
 | 1,hu=>exact ⟨_,(aUh hu).symm⟩
 | 2,hu=>exact ⟨_,(aUh hu).symm⟩
 | j+3,hu=>exact trivial
theorem rI (a:dz):∀ u∈a.cells,u.oneCell'=true:=by
 intro u hu;unfold cells at hu;simp only [aUD,aVI,aWr] at hu;rcases hu with rfl | rfl | rfl<;>rfl
def rep:κ dz:=κ.flat 3 cells ok raw (λ _=>rfl) rI rJ
def zero:Value:= .agg #[.int .i64 0, .int .i64 0, .int .i64 0]
theorem iY:∀ (j:Nat) u,zero.cells[j]? =some u→rep.raw j u:=by
 intro j u hu;have hu:(#[(.int .i64 0:Value),(.int .i64 0:Value),(.int .i64 0:Value)]:Array Value)[j]? =some u:=hu
 match j,hu with
 | 0,hu=>exact ⟨_,(aUh hu).symm⟩
 | 1,hu=>exact ⟨_,(aUh hu).symm⟩
 | 2,hu=>exact ⟨_,(aUh hu).symm⟩
 | j+3,hu=>cases hu
theorem info:(prog.info? 225).map (λ i=>(i.zero,i.size,i.bytes))=some (some zero,3,24):=by kernel_rfl
def sh:fP:=(.cons (.int .i64) (.cons (.cons (.int .i64) (.cons (.int .i64) .nil)) .nil))
end dz
theorem agZ {w:World} {cs:List Value} {a:dz} (h:dz.rep.has w cs a):cs=a.cells:=aWw (show cs=a.cells∧a.ok from h)
end
section
open Go.RowKit Go.Maps
namespace ay
def key (c:ay):Value:= .agg #[.int .i64 c.x, .int .i64 c.y]
theorem laid:laidOutB prog=true:=by kernel_rfl
theorem azZ (x y:Int):(Value.agg #[.int .i64 x, .int .i64 y]).formed prog 49 =true:=by kernel_rfl
theorem az2:prog.keyType 49 =true:=by kernel_rfl
theorem az1:∃ n,prog.types.size+1=n+2:=by
 have:1≤prog.types.size:=by decide +kernel
 exact ⟨prog.types.size - 1,by omega⟩
theorem azY:prog.cellsOf 49 =2∧prog.cellsOf 3 =1:=by
 constructor<;>kernel_rfl
theorem az0 (c:ay) (h:c.ok):∃ l,keyOf prog 49 (key c)=some l:=by
 obtain ⟨hx,aH⟩:=h;obtain ⟨n,hn⟩:=az1;unfold key keyOf;have hu:=underlying49;rw [hu];simp only [az2,azZ,Bool.and_self,aVZ,hn];have γ:prog.keyLits (n+2) 49 [.int .i64 c.x, .int .i64 c.y]=some [.int .i64 c.x, .int .i64 c.y]:=by
  simp [Program.keyLits,hu,underlying3,azY,hx,aH]
 exact ⟨.string (keyBytes [.int .i64 c.x, .int .i64 c.y]),by
  have e:(Value.agg #[.int .i64 c.x, .int .i64 c.y]).cells.toList= [.int .i64 c.x, .int .i64 c.y]:=rfl;rw [e,γ];rfl⟩
theorem zp:Uv prog 49 key ok where
 keyed:=Keyed.of_law (Go.deep_law_laid laid (m:=100) (by decide) (by decide +kernel) (by kernel_rfl) (by kernel_rfl))
 lit:=az0
 inj:=by
  intro a b h;unfold key at h;injection h with h
  obtain ⟨x,y⟩:=a;obtain ⟨z,t⟩:=b;simp at h;simp [h]
end ay
end
end Go.Proofs.YtlikikpgmmkjbaaGreat
