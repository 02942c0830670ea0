import Derived.Test.YtlikikpgmmkjbaaGreatGolR
set_option linter.unusedVariables false
set_option linter.unusedSimpArgs false
set_option maxRecDepth 100000
set_option maxHeartbeats 4000000
namespace Go.Proofs.YtlikikpgmmkjbaaGreat
open Tryz
section
open Go.RowKit
namespace κ
variable {α:Type} {R:κ α}
theorem aF.akZ {E by_ B c:Nat} {A:Option Addr} {l:List α} {w:World} {ps:List (List Nat×List Value)} (hp:R.sW) (di:cD (λ x a=>R.own w B x.1 x.2 a) ps l):∀ y∈ps,y.1= []:=λ y aG=>by
 obtain ⟨b,Φ⟩:=di.left y aG;exact hp.2 Φ
theorem akY {ps:List (List Nat×List Value)} (h:∀ y∈ps,y.1= []):(ps.map (·.1)).flatten= []:=by
 rw [List.flatten_eq_nil_iff];intro x hx;obtain ⟨y,aG,rfl⟩:=List.mem_map.1 hx;exact h y aG
theorem aF.cut {E by_ B c:Nat} {A:Option Addr} {l:List α} {w:World} (h:R.aF E by_ w B (af A) A c l) (hp:R.sW) (k:Nat) (av:k≤l.length):R.aF E by_ w B (af A) A c (l.take k):=by
 obtain ⟨Φ,ps,hf,hn,bJ,di⟩:=h;have az:=LK di;have q9:ps.length=l.length:=di.length;have γ:=aF.akZ (E:=E) (by_:=by_) (c:=c) (A:=A) hp di;have hlen:(l.take k).length=k:=by rw [List.length_take];omega
 have hm:=Nat.mul_le_mul_right by_ av;refine ⟨by rw [hlen];omega,ps.take k, ?_,hn, ?_,di.Et k⟩
 ·rw [akY λ y aG=>γ y (List.mem_of_mem_take aG),List.append_nil]
 ·rw [hlen,List.map_take,Kd k az];obtain ⟨iE,G1⟩:=bJ;have hle:k * R.size≤l.length * R.size:=Nat.mul_le_mul_right _ av;refine ⟨by rw [List.length_take,iE];omega, ?_⟩;rcases G1 with ⟨G1,aAN⟩ | ⟨g,cap,cur,hv,aX,ey,ph,pb,hs,aA,bq⟩
  ·injection G1 with aU bc cy
   subst aU cy;have:k=0:=by omega
   subst this;exact .inl ⟨Z,Z⟩
  ·injection hv with aU bc cy
   subst aU cy;exact .inr ⟨g,c,cur,Z,aX,ey,by omega,pb,hs,by rw [← aA,List.take_take,Nat.min_eq_left hle],bq⟩
end κ
section
variable {P:Program} {n:Nat} {E cE:List (Nat×Value)} {a:Act} {w w' w0 aM:World} {Q:Exit→Act→World→Prop} {ops:Array Oper} {v:Value}
variable {d:Option Nat} {ty:TypeId} {pos:String} {bn:Array Edge} {g:Option (Nat×Bool)} {x y z:Operand} {t:TypeId} {rest:List Oper}
theorem asU {A:Option Addr} {len cap e s:Nat} {k:IntKind} (lo:Nat) {i:Int} (aA:P.underlying t=some (.slice e)) (hs:ej P e s) (hx:ev E x=some (.slice A len cap)) (aG:ev E y=some (.int k i)) (ao:i=(lo:Int)) (γ:lo≤len):
  c8 P E ⟨d, .slice t x (some y) none none,ty,pos,bn,g⟩ w (.slice (e1 A cap lo s) (len - lo) (cap - lo)) w:=λ n a ha=>by
 subst ao;have j1:P.underlying t=some (.slice (P.elem t)):=by simp [Program.elem,aA]
 have nd:P.elem t=e:=by simp [Program.elem,aA]
 have au:=run_slice_l (P:=P) (w:=w) t A len cap j1 k (lo:Int) (by omega) (by omega);have a1:=run_sliceAt_slice (P:=P) (w:=w) t (.slice A len cap) (some (.int k (lo:Int))) none none j1;rw [nd,hs w] at au;simp only [execOp,ha.ev hx,ha.ev aG,Option.map,a1,au,Sem.run_bind,Result.andThen_ok,Sem.run_pure,sliced,Int.toNat_natCast,e1]
theorem aoA {k:IntKind} {i j:Int} (aE:0≤i) (γ:0<j):Op.intDiv .rem k i j=pure (.int k (i % j)):=by
 unfold Op.intDiv;have e:i.tmod j=i % j:=Int.tmod_eq_emod_of_nonneg aE;rw [if_neg (by omega)];simp only [e]
section
variable {k:IntKind} {i j:Int} {u:TypeId}
theorem agY (hx:ev E x=some (.int k i)) (aG:ev E y=some (.int k j)) (aE:0≤i) (γ:0<j):c8 P E ⟨d, .binOp .rem t x y u,ty,pos,bn,g⟩ w (.int k (i % j)) w:=sy hx aG (binOp_rem t k i j) (by rw [aoA aE γ];rfl)
end
end
end
section
open Go.RowKit
section
variable {α:Type} {p:α→Bool} {l L:List α} {d:α} {i j k:Nat}
theorem lz (h:k<l.length):l.getD k d∈l:=by rw [List.getD_eq_getElem?_getD,List.getElem?_eq_getElem h];exact List.getElem_mem h
theorem nI (h:k<l.length):l.getD k d=l[k]:=by rw [List.getD_eq_getElem?_getD,List.getElem?_eq_getElem h];rfl
theorem aoo (h:∀ i,i<l.length→p (l.getD i d)=false):gh p l= -1:=DT λ j ay=>by rw [← nI (d:=d) ay];exact h j ay
theorem aoq (av:k<l.length) (γ:p (l.getD k d)=true) (h:∀ i,i<k→p (l.getD i d)=false):gh p l=(k:Int):=
 G6 av (by rw [← nI (d:=d) av];exact γ) λ j ay=>by rw [← nI (d:=d) (by omega:j<l.length)];exact h j ay
theorem zP (h:k<l.length):l.take (k+1)=l.take k++ [l.getD k d]:=by rw [List.take_succ_eq_append_getElem h,nI h]
end
end
section
open Go.RowKit
theorem I3:ff prog ar.rep 25 49 16:=ff.lB (z:=ar.zero) (k:=2) underlying25 ar.info rfl rfl (by decide) ar.lS
def fO (n:Int):Int:=if n<0 then -1 else if 0<n then 1 else 0
def b5 (n:Int):Int:=if n<0 then -n else if 0<n then n else 0
theorem hN (n:Int):0≤b5 n∧(-2000≤n∧n≤2000→b5 n≤2000)∧(0≤n→b5 n=n)∧(n<0→b5 n= -n):=by unfold b5;split<;>(try split)<;>omega
theorem Eo (n:Int): -1≤fO n∧fO n≤1:=by unfold fO;split<;>(try split)<;>omega
def aT (a b:ar):Int:=max (b5 (b.x - a.x)) (b5 (b.y - a.y))
def sv (a b:ar):Int:=min (b5 (b.x - a.x)) (b5 (b.y - a.y))
def nV (a b:ar) (s:Int×ar):Int×ar :=
  (if decide (aT a b≤s.1+2 * sv a b) then s.1+2 * sv a b - 2 * aT a b else s.1+2 * sv a b,
   ⟨if !decide (b5 (b.x - a.x)<b5 (b.y - a.y)) || decide (aT a b≤s.1+2 * sv a b) then s.2.x+fO (b.x - a.x) else s.2.x,
    if decide (b5 (b.x - a.x)<b5 (b.y - a.y)) || decide (aT a b≤s.1+2 * sv a b) then s.2.y+fO (b.y - a.y) else s.2.y⟩)
def ct (a b:ar):Nat→Int×ar
  | 0=>(0,a)
  | k+1=>nV a b (ct a b k)
def qk (a b:ar) (k:Nat):List ar:=(List.range (k+1)).map λ i=>(ct a b i).2
def gi (a b:ar):List ar:=qk a b (aT a b).toNat
theorem LO (a b:ar) (k:Nat):qk a b (k+1)=qk a b k++ [(ct a b (k+1)).2]:=by unfold qk;rw [List.range_succ,List.map_append];rfl
theorem BZ (a b:ar) (k:Nat):(qk a b k).length=k+1:=by simp [qk]
theorem akq (a b:ar):0≤sv a b∧sv a b≤aT a b:=by
  have γ:=hN (b.x - a.x);have aa:=hN (b.y - a.y);unfold sv aT;omega
theorem abc (a b:ar) (k:Nat): -aT a b≤(ct a b k).1∧(ct a b k).1≤aT a b:=by
  have hf:=akq a b;induction k with
  | zero=>show -aT a b≤0∧0≤aT a b;omega
  | succ k bk =>
    show -aT a b≤(nV a b (ct a b k)).1∧(nV a b (ct a b k)).1≤aT a b;unfold nV;simp only [decide_eq_true_eq];split<;>omega
theorem abd (a b:ar) (k:Nat):a.x - k≤(ct a b k).2.x∧(ct a b k).2.x≤a.x+k∧a.y - k≤(ct a b k).2.y∧(ct a b k).2.y≤a.y+k:=by
  have γ:=Eo (b.x - a.x);have aa:=Eo (b.y - a.y);induction k with
  | zero=>show a.x - _≤a.x∧a.x≤a.x+_∧a.y - _≤a.y∧a.y≤a.y+_;omega
  | succ k bk =>
    show a.x - _≤(nV a b (ct a b k)).2.x∧(nV a b (ct a b k)).2.x≤a.x+_∧a.y - _≤(nV a b (ct a b k)).2.y∧(nV a b (ct a b k)).2.y≤a.y+_;unfold nV;simp only;split<;>split<;>omega
theorem LB (c:ar) (w:World) (h: -1000≤c.x∧c.x≤1000∧ -1000≤c.y∧c.y≤1000):
    Calls prog 193 #[.agg #[.int .i64 c.x, .int .i64 c.y]] w (λ e w'=>e= .returned (.bool true)∧Ext w w'):=by
  refine cv (n:=23) func193 Z Z Z ?_;refine aj<|cI Z Z Z Z λ dw bC bg eY ab=> ?_;have:=bg.size;have br:=τ (Ext.bM w) bg;have eZ:=ab.lt;refine va Z<|ah<|aj<|J (aw gJ Z)<|J (ak Z (ab.one aZ Z))<|J (aw gJ Z)<|J (ak Z (ab.one aZ Z))<|J (Rp Z (bF (by omega)))<|J (aw hh Z)<|J (ak Z (ab.one aZ Z))<|J (aw hh Z)<|J (ak Z (ab.one aZ Z))<|J (Rp Z (bF (by omega)))<|J (apM Z Z Z Z)<|J (ble Z Z)<|vm Z<|bB Z Z Z Z (λ hc=>aw gJ Z) Z<|bB Z Z Z Z (λ hc=>ak (gt hc Z) (ab.one aZ Z)) Z<|bB Z Z Z Z (λ hc=>aw hh Z) Z<|bB Z Z Z Z (λ hc=>ak (gt hc Z) (ab.one aZ Z)) Z<|bB Z Z Z Z (λ hc=>nb (gt hc Z) (gt hc Z)) Z<|bB Z Z Z Z (λ hc=>l1 (gt hc Z) Z) Z<| ?_;refine J (eA Z Z Z Z)<|va Z<|ah<|rt<|bp (.tmp Z .nil)<| ?_;exact ⟨RX (by simp only [Bool.and_eq_true,decide_eq_true_eq];omega),br⟩
theorem L3 (n:Int) (w:World) (h: -2000≤n∧n≤2000):
    Calls prog 194 #[.int .i64 n] w (λ e w'=>e= .returned (.tuple #[.int .i64 (fO n), .int .i64 (b5 n)])∧Ext w w'):=by
  refine cv (n:=13) func194 Z Z Z ?_;refine aj<|va Z<|va Z<|ah<|aD<|bP<|aj<|vm Z<|J (blt Z Z)<|va Z<|ah<| ?_;refine ef Z (λ ll=> ?_) (λ ll=> ?_)
  · refine aj<|vm rfl<|J (Rp rfl (bF (by omega)))<|va rfl<|va rfl<|ah<|rt<|gF<|cf<|bp (.tmp rfl (.tmp rfl .nil))<| ?_
    exact ⟨by unfold fO b5;simp only [*,if_true,if_false];try rfl,(Ext.bM w)⟩
  · refine aj<|vm rfl<|J (jC rfl rfl)<|va rfl<|ah<| ?_
    refine ef Z (λ alQ=> ?_) (λ alQ=> ?_)
    · refine aj<|vm rfl<|va rfl<|va rfl<|ah<|rt<|gF<|cf<|bp (.tmp rfl (.tmp rfl .nil))<| ?_
      exact ⟨by unfold fO b5;simp only [*,if_true,if_false];try rfl,(Ext.bM w)⟩
    · refine hk<|cg<|a6<|aj<|va rfl<|va rfl<|ah<|rt<|bp (.tmp rfl (.tmp rfl .nil))<| ?_
      exact ⟨by unfold fO b5;simp only [*,if_true,if_false];try rfl,(Ext.bM w)⟩
theorem Vo (a b:ar) (w:World) (h: -1000≤a.x∧a.x≤1000∧ -1000≤a.y∧a.y≤1000) (aa: -1000≤b.x∧b.x≤1000∧ -1000≤b.y∧b.y≤1000):
    Calls prog 161 #[.agg #[.int .i64 a.x, .int .i64 a.y], .agg #[.int .i64 b.x, .int .i64 b.y]] w (λ e w'=>e= .returned (.tuple #[.int .i64 (aT a b), .int .i64 (b5 (b.x - a.x)+b5 (b.y - a.y)), .int .i64 0])∧Ext w w'):=by
  refine cv (n:=43) func161 Z Z Z ?_;refine aj<|cI Z Z Z Z λ dw bC bg eY ab=> ?_;have:=bg.size;have br:=τ (Ext.bM w) bg;have eZ:=ab.lt;refine cI Z Z Z Z λ eB c_ bj iF ai=> ?_;have:=bj.size;have bS:=τ br bj;have iJ:=ai.lt;refine va Z<|va Z<|va Z<|ah<|aD<|aj<| ?_;have ab:=ab.later bj;refine J (ak Z (ab.all bZ bE))<|ca J5 Z Z ((LB a _ (by omega)).mono ?_);rintro e iW ⟨rfl,hl⟩;refine ⟨_,Z, ?_⟩;have:=hl.size;have dp:=τ bS hl;refine J (eo Z)<|vm Z<|jG Z Z Z<| ?_;have ai:=ai.later hl;refine J (ak Z (ai.all bZ bE))<|jG Z Z Z<|ca J5 Z Z ((LB b _ (by omega)).mono ?_);rintro e zV ⟨rfl,iL⟩;refine ⟨_,Z, ?_⟩;have:=iL.size;have lQ:=τ dp iL;refine jG Z Z Z<|J (eo Z)<|J (qj Z Z)<|ah<|gq Z<|bx<|aj<|J (aw gJ Z)<| ?_;have ai:=ai.later iL;refine J (ak Z (ai.one aZ Z))<|J (aw gJ Z)<| ?_;have ab:=ab.later (τ hl iL);refine J (ak Z (ab.one aZ Z))<|J (kB Z Z (bF (by have:=hN (b.x - a.x);have:=hN (b.y - a.y);omega)))<|ca J7 Z Z ((L3 (b.x - a.x) _ (by omega)).mono ?_);rintro e xV ⟨rfl,oH⟩;refine ⟨_,Z, ?_⟩;have:=oH.size;have ks:=τ lQ oH;refine vm Z<|J (ex Z Z)<|J (ex Z Z)<|va Z<|va Z<|ah<|aj<|J (aw hh Z)<| ?_;have ai:=ai.later oH;refine J (ak Z (ai.one aZ Z))<|J (aw hh Z)<| ?_;have ab:=ab.later oH;refine J (ak Z (ab.one aZ Z))<|J (kB Z Z (bF (by have:=hN (b.x - a.x);have:=hN (b.y - a.y);omega)))<|ca J7 Z Z ((L3 (b.y - a.y) _ (by omega)).mono ?_);rintro e zW ⟨rfl,jt⟩;refine ⟨_,Z, ?_⟩;have:=jt.size;have nr:=τ ks jt;refine vm Z<|J (ex Z Z)<|J (ex Z Z)<|va Z<|va Z<|ah<|aj<|vm Z<|vm Z<|J (mx Z Z)<|vm Z<|vm Z<|J (bad Z Z (bF (by have:=hN (b.x - a.x);have:=hN (b.y - a.y);omega)))<|va Z<|va Z<|va Z<|ah<|rt<|bp (.tmp Z (.tmp Z (.tmp Z .nil)))<| ?_;exact ⟨Z,nr⟩
theorem ahA (a b:ar) (w:World) (h: -1000≤a.x∧a.x≤1000∧ -1000≤a.y∧a.y≤1000) (aa: -1000≤b.x∧b.x≤1000∧ -1000≤b.y∧b.y≤1000):
    Calls prog 216 #[.agg #[.int .i64 a.x, .int .i64 a.y], .agg #[.int .i64 b.x, .int .i64 b.y]] w (λ e w'=>∃ A c,e= .returned (.tuple #[.slice A (gi a b).length c, .int .i64 0])∧ar.rep.aF 49 16 w' w.heap.size (κ.af A) A c (gi a b)∧Ext w w'):=by
  refine cv (n:=93) func216 Z Z Z ?_;refine aj<|cI Z Z Z Z λ dw bC bg eY ab=> ?_;have:=bg.size;have br:=τ (Ext.bM w) bg;have eZ:=ab.lt;refine cI Z Z Z Z λ eB c_ bj iF ai=> ?_;have:=bj.size;have bS:=τ br bj;have iJ:=ai.lt;refine va Z<|va Z<|ah<|aD<|aj<| ?_;have ab:=ab.later bj;refine J (ak Z (ab.all bZ bE))<|ca J5 Z Z ((LB a _ (by omega)).mono ?_);rintro e iW ⟨rfl,hl⟩;refine ⟨_,Z, ?_⟩;have:=hl.size;have dp:=τ bS hl;refine J (eo Z)<|vm Z<|jG Z Z Z<| ?_;have ai:=ai.later hl;refine J (ak Z (ai.all bZ bE))<|jG Z Z Z<|ca J5 Z Z ((LB b _ (by omega)).mono ?_);rintro e zV ⟨rfl,iL⟩;refine ⟨_,Z, ?_⟩;have:=iL.size;have lQ:=τ dp iL;refine jG Z Z Z<|J (eo Z)<|J (qj Z Z)<|ah<|gq Z<|bx<|aj<|J (aw gJ Z)<| ?_;have ai:=ai.later iL;refine J (ak Z (ai.one aZ Z))<|J (aw gJ Z)<| ?_;have ab:=ab.later (τ hl iL);refine J (ak Z (ab.one aZ Z))<|J (kB Z Z (bF (by omega)))<|ca J7 Z Z ((L3 (b.x - a.x) _ (by omega)).mono ?_);rintro e xV ⟨rfl,oH⟩;refine ⟨_,Z, ?_⟩;have:=oH.size;have ks:=τ lQ oH;refine vm Z<|J (ex Z Z)<|J (ex Z Z)<|va Z<|va Z<|ah<|aj<|J (aw hh Z)<| ?_;have ai:=ai.later oH;refine J (ak Z (ai.one aZ Z))<|J (aw hh Z)<| ?_;have ab:=ab.later oH;refine J (ak Z (ab.one aZ Z))<|J (kB Z Z (bF (by omega)))<|ca J7 Z Z ((L3 (b.y - a.y) _ (by omega)).mono ?_);rintro e zW ⟨rfl,jt⟩;refine ⟨_,Z, ?_⟩;have:=jt.size;have nr:=τ ks jt;refine vm Z<|J (ex Z Z)<|J (ex Z Z)<|va Z<|va Z<|ah<|aj<|vm Z<|vm Z<|va Z<|va Z<|ah<|aD<|aj<|vm Z<|vm Z<|J (jC Z Z)<|ah<| ?_;refine ef Z (λ PI=> ?_) (λ PI=> ?_)
  · have xm:=hN (b.x - a.x)
    have p8:=hN (b.y - a.y);have gL:aT a b=b5 (b.y - a.y):=by unfold aT;omega
    have GH:sv a b=b5 (b.x - a.x):=by unfold sv;omega
    have Gt:decide (b5 (b.x - a.x)<b5 (b.y - a.y))=true:=by exact decide_eq_true PI
    refine rg<|vm Z<|vm Z<|va Z<|va Z<|ah<|aj<| ?_;have ab:=ab.later jt;refine J (ak Z (ab.all bZ bE))<|cH (e:= 49) (cs:= [.int .i64 a.x, .int .i64 a.y]) Z (λ _=>by kernel_rfl) Z λ Cb NS ho aBI T8=> ?_;have:=ho.size;have qA:=τ nr ho;have ar4:=T8.lt;refine va Z<|ah<|aj<|va Z<|ah<|aD<|aj<|vm Z<|vm Z<|ah<|bP<| ?_;have ab:=ab.later ho;have apw:∀ q∈κ.af (some ⟨NS,0,none⟩),NS≤q:=λ q I=>Nat.le_of_eq (List.mem_singleton.1 I).symm;refine fe (λ ck ch aS=>∃ k:Nat,∃ j9:Option Addr,∃ co:Nat,ch= [(2, .pointer (some ⟨bC,0,none⟩)),(4, .slice none 0 0),(5, .int .i64 0),(6, .int .i64 (fO (b.x - a.x))),(7, .int .i64 (b5 (b.x - a.x))),(8, .int .i64 (fO (b.y - a.y))),(9, .int .i64 (b5 (b.y - a.y))),(10, .int .i64 (b5 (b.y - a.y))),(11, .int .i64 (b5 (b.x - a.x))),(12, .slice j9 ((qk a b k).length) co),(13, .int .i64 ((ct a b k).1)),(50, .int .i64 (b5 (b.y - a.y))),(51, .int .i64 (k:Int))]∧ck=(b5 (b.y - a.y)).toNat - k∧Ext w aS∧aK aS bC [.int .i64 ((ct a b k).2.x), .int .i64 ((ct a b k).2.y)] 49 (0,0)∧ar.rep.aF 49 16 aS w.heap.size (κ.af j9) j9 co (qk a b k)∧((k:Int)≤b5 (b.y - a.y))∧(∀ q∈κ.af j9,q=bC→False)) _ _ ⟨0,some ⟨NS,0,none⟩,1,Z,Z,qA,ab,(aK.ru (R:=ar.rep) (by_:=16) (B:=w.heap.size) (k:= [a]) T8 [[.int .i64 a.x, .int .i64 a.y]] Z ⟨⟨Z,bt.2 (by omega),bt.2 (by omega)⟩,trivial⟩ (by simp) (by simp) (by decide) (by omega)),(by have:=hN (b.y - a.y);have:=hN (b.x - a.x);omega),(λ q I Φ=>by (have:=apw q I;omega))⟩ (.cons Z (.cons Z (.cons Z (.cons Z (.cons Z (.cons Z (.cons Z (.cons Z (.cons Z (.cons Z (.cons (bX Z (by first | omega | rfl | (simp<;>omega))) (.cons Z (.cons (bX Z (by first | omega | rfl | (simp<;>omega))) .nil))))))))))))) ?_;rintro uj axc Cc ⟨k,j9,co,rfl,rfl,nv,e3,ei,av,wX⟩;have:=nv.size;have aEf:=e3.lt;have adw:=λ q I=>(ei.lt q I).2;have Φ:=abc a b k;have hp:=abd a b k;have eg:=Eo (b.x - a.x);have fp:=Eo (b.y - a.y);have xm:=hN (b.x - a.x);have p8:=hN (b.y - a.y);have q9:=BZ a b k;refine aj<|J (blt Z Z)<|ah<|aD<| ?_;refine ef Z (λ alV=> ?_) (λ alV=> ?_)
    · refine bx<|aD<|bP<|aj<|vm rfl<|vm rfl<|J (yB rfl rfl (bF (by omega)))<|J (bad rfl rfl (bF (by omega)))<|va rfl<|ah<|aj<|vm rfl<|vm rfl<|J (l1 rfl rfl)<|va rfl<|ah<|aD<|aj<| ?_
      refine vm Z<|ah<| ?_;refine Od Z (λ PN=> ?_) (λ PN=> ?_)
      · rw [gL] at Φ
        have Bk:decide (b5 (b.y - a.y)≤((ct a b k).1)+(2 * (b5 (b.x - a.x))))=true:=by exact decide_eq_true PN
        refine rg<|vm Z<|vm Z<|J (yB Z Z (bF (by omega)))<|J (kB Z Z (bF (by omega)))<|va Z<|ah<|aD<|aj<|vm Z<|vm Z<|J (l1 Z Z)<|vm Z<|bB Z Z Z Z (λ hc=>aJ Z) Z<|J (gy Z Z Z Z)<|ah<| ?_;have alW:((decide (b5 (b.y - a.y)≤b5 (b.x - a.x))) || (decide (b5 (b.y - a.y)≤((ct a b k).1)+(2 * (b5 (b.x - a.x))))))=true:=by simp only [Bool.or_eq_true,decide_eq_true_eq];omega
        refine fL (by rw [← alW];rfl)<|rg<|J (aw gJ Z)<|J (ak Z (e3.one aZ Z))<|vm Z<|J (bad Z Z (bF (by omega)))<|J (aw gJ Z)<|st (new:= [.int .i64 (((ct a b k).2.x)+(fO (b.x - a.x))), .int .i64 ((ct a b k).2.y)]) Z Z e3 Z cz Z Z Z λ avf vF e3=> ?_;have:=vF.size;have Tm:=Ext.mod nv vF (bR (by omega));have:=vF.size;refine ah<|aD<|aj<|vm Z<|vm Z<|J (jC Z Z)<|vm Z<|bB Z Z Z Z (λ hc=>aJ Z) Z<|J (gy Z Z Z Z)<|ah<| ?_;have Be:((decide (b5 (b.x - a.x)<b5 (b.y - a.y))) || (decide (b5 (b.y - a.y)≤((ct a b k).1)+(2 * (b5 (b.x - a.x))))))=true:=by simp only [Bool.or_eq_true,decide_eq_true_eq];omega
        refine fL (by rw [← Be];rfl)<|rg<|J (aw hh Z)<|J (ak Z (e3.one aZ Z))<|vm Z<|J (bad Z Z (bF (by omega)))<|J (aw hh Z)<|st (new:= [.int .i64 (((ct a b k).2.x)+(fO (b.x - a.x))), .int .i64 (((ct a b k).2.y)+(fO (b.y - a.y)))]) Z Z e3 Z cz Z Z Z λ adQ Lq e3=> ?_;have:=Lq.size;have Iu:=Ext.mod Tm Lq (bR (by omega));have:=Lq.size;refine ah<|rg<|vm Z<|J (ak Z (e3.all bZ bE))<|cH (e:= 49) (cs:= [.int .i64 (((ct a b k).2.x)+(fO (b.x - a.x))), .int .i64 (((ct a b k).2.y)+(fO (b.y - a.y)))]) Z (λ _=>by kernel_rfl) Z λ SJ ayg sN aBU Uc=> ?_;have:=sN.size;have Ak:=τ Iu sN;have asc:=Uc.lt;have ei:=ei.mod vF (λ q I h=>by have Φ:=List.mem_singleton.1 h;exfalso;(exact wX q I Φ));have ei:=ei.mod Lq (λ q I h=>by have Φ:=List.mem_singleton.1 h;exfalso;(exact wX q I Φ));have ei:=ei.later sN;refine ap I3 κ.dV ei (aK.gv (R:=ar.rep) (by_:=16) (q:=(⟨((ct a b k).2.x)+(fO (b.x - a.x)),((ct a b k).2.y)+(fO (b.y - a.y))⟩:ar)) Uc ⟨Z,⟨bt.2 (by (try dsimp only);omega),bt.2 (by (try dsimp only);omega)⟩⟩ (by decide)) Z Z (by simp only [List.length_cons,List.length_nil];omega) (by simp only [List.length_cons,List.length_nil];omega) Ak.size Z λ H7 aeQ ahk oA U5 ak7 aDg=> ?_;have:=oA.size;have rL:=Ext.mod Ak oA (λ q I=>(ei.lt q I).1);have sB:=λ q I=>(U5.lt q I).2;have:=oA.size;refine va Z<|nl<|cg<|a6<|rg<|J (bad Z Z (bF (by omega)))<|vm Z<|nl<| ?_;have aU:ct a b (k+1)=((((ct a b k).1)+(2 * (b5 (b.x - a.x)))) - (2 * (b5 (b.y - a.y))),⟨((ct a b k).2.x)+(fO (b.x - a.x)),((ct a b k).2.y)+(fO (b.y - a.y))⟩):=by
          show nV a b (ct a b k)=_;unfold nV;simp only [gL,GH,Gt,Bk,if_true,if_false,Bool.or_true,Bool.true_or,Bool.or_false,Bool.false_or,Bool.false_eq_true,decide_true,decide_false,Bool.not_true,Bool.not_false]
        have bc:=LO a b k;rw [aU] at bc;have cy:(qk a b (k+1)).length=k+2:=BZ a b (k+1);have e3:=e3.later sN;have e3:=e3.mod oA (λ I=>wX _ I rfl);exact du _ _ ⟨k+1,aeQ,ahk,Z,Z,rL,(by rw [aU];exact e3),(by rw [bc];exact U5),by omega,(λ q I Φ=>by (exact Or.elim (ak7 q I) (λ aaJ=>by (exact wX q aaJ Φ)) (λ aaJ=>by omega)))⟩ (by omega) (.cons Z (.cons Z (.cons Z (.cons Z (.cons Z (.cons Z (.cons Z (.cons Z (.cons Z (.cons (by rw [bc];rfl) (.cons (bX Z (by rw [aU])) (.cons Z (.cons (bX Z (by first | omega | rfl | (simp<;>omega))) .nil)))))))))))))
      · rw [gL] at Φ
        have Bk:decide (b5 (b.y - a.y)≤((ct a b k).1)+(2 * (b5 (b.x - a.x))))=false:=by exact decide_eq_false PN
        refine bx<|aD<|aj<|vm Z<|vm Z<|J (l1 Z Z)<|vm Z<|bB Z Z Z Z (λ hc=>aJ Z) Z<|J (gy Z Z Z Z)<|ah<| ?_;have al3:((decide (b5 (b.y - a.y)≤b5 (b.x - a.x))) || (decide (b5 (b.y - a.y)≤((ct a b k).1)+(2 * (b5 (b.x - a.x))))))=false:=by simp only [Bool.or_eq_false_iff,decide_eq_false_iff_not];omega
        refine gq (by rw [← al3];rfl)<|bx<|aD<|aj<|vm Z<|vm Z<|J (jC Z Z)<|vm Z<|bB Z Z Z Z (λ hc=>aJ Z) Z<|J (gy Z Z Z Z)<|ah<| ?_;have PS:((decide (b5 (b.x - a.x)<b5 (b.y - a.y))) || (decide (b5 (b.y - a.y)≤((ct a b k).1)+(2 * (b5 (b.x - a.x))))))=true:=by simp only [Bool.or_eq_true,decide_eq_true_eq];omega
        refine fL (by rw [← PS];rfl)<|rg<|J (aw hh Z)<|J (ak Z (e3.one aZ Z))<|vm Z<|J (bad Z Z (bF (by omega)))<|J (aw hh Z)<|st (new:= [.int .i64 ((ct a b k).2.x), .int .i64 (((ct a b k).2.y)+(fO (b.y - a.y)))]) Z Z e3 Z cz Z Z Z λ adV uq e3=> ?_;have:=uq.size;have Iw:=Ext.mod nv uq (bR (by omega));have:=uq.size;refine ah<|rg<|vm Z<|J (ak Z (e3.all bZ bE))<|cH (e:= 49) (cs:= [.int .i64 ((ct a b k).2.x), .int .i64 (((ct a b k).2.y)+(fO (b.y - a.y)))]) Z (λ _=>by kernel_rfl) Z λ adX ayq gH aB6 Uh=> ?_;have:=gH.size;have uU:=τ Iw gH;have asg:=Uh.lt;have ei:=ei.mod uq (λ q I h=>by have Φ:=List.mem_singleton.1 h;exfalso;(exact wX q I Φ));have ei:=ei.later gH;refine ap I3 κ.dV ei (aK.gv (R:=ar.rep) (by_:=16) (q:=(⟨(ct a b k).2.x,((ct a b k).2.y)+(fO (b.y - a.y))⟩:ar)) Uh ⟨Z,⟨bt.2 (by (try dsimp only);omega),bt.2 (by (try dsimp only);omega)⟩⟩ (by decide)) Z Z (by simp only [List.length_cons,List.length_nil];omega) (by simp only [List.length_cons,List.length_nil];omega) uU.size Z λ aGw aeS ahn pw U8 ak9 aDk=> ?_;have:=pw.size;have awB:=Ext.mod uU pw (λ q I=>(ei.lt q I).1);have aFv:=λ q I=>(U8.lt q I).2;have:=pw.size;refine va Z<|nl<|cg<|a6<|rg<|J (bad Z Z (bF (by omega)))<|vm Z<|nl<| ?_;have aU:ct a b (k+1)=(((ct a b k).1)+(2 * (b5 (b.x - a.x))),⟨(ct a b k).2.x,((ct a b k).2.y)+(fO (b.y - a.y))⟩):=by
          show nV a b (ct a b k)=_;unfold nV;simp only [gL,GH,Gt,Bk,if_true,if_false,Bool.or_true,Bool.true_or,Bool.or_false,Bool.false_or,Bool.false_eq_true,decide_true,decide_false,Bool.not_true,Bool.not_false]
        have bc:=LO a b k;rw [aU] at bc;have cy:(qk a b (k+1)).length=k+2:=BZ a b (k+1);have e3:=e3.later gH;have e3:=e3.mod pw (λ I=>wX _ I rfl);exact du _ _ ⟨k+1,aeS,ahn,Z,Z,awB,(by rw [aU];exact e3),(by rw [bc];exact U8),by omega,(λ q I Φ=>by (exact Or.elim (ak9 q I) (λ aaO=>by (exact wX q aaO Φ)) (λ aaO=>by omega)))⟩ (by omega) (.cons Z (.cons Z (.cons Z (.cons Z (.cons Z (.cons Z (.cons Z (.cons Z (.cons Z (.cons (by rw [bc];rfl) (.cons (bX Z (by rw [aU])) (.cons Z (.cons (bX Z (by first | omega | rfl | (simp<;>omega))) .nil)))))))))))))
    · refine dG<|dF<|eb<|dE<|a6<|aj<|vm rfl<|va rfl<|va rfl<|ah<|rt<|bp (.tmp rfl (.tmp rfl .nil))<| ?_
      have nP:k=(aT a b).toNat:=by omega
      subst nP;exact ⟨j9,co,Z,ei,nv⟩
  · have xm:=hN (b.x - a.x)
    have p8:=hN (b.y - a.y);have gL:aT a b=b5 (b.x - a.x):=by unfold aT;omega
    have GH:sv a b=b5 (b.y - a.y):=by unfold sv;omega
    have Gt:decide (b5 (b.x - a.x)<b5 (b.y - a.y))=false:=by exact decide_eq_false PI
    refine bx<|aj<| ?_;have ab:=ab.later jt;refine J (ak Z (ab.all bZ bE))<|cH (e:= 49) (cs:= [.int .i64 a.x, .int .i64 a.y]) Z (λ _=>by kernel_rfl) Z λ SS NW rH aBj TS=> ?_;have:=rH.size;have CB:=τ nr rH;have arP:=TS.lt;refine va Z<|ah<|aj<|va Z<|ah<|aD<|aj<|vm Z<|vm Z<|ah<|bP<| ?_;have ab:=ab.later rH;have aps:∀ q∈κ.af (some ⟨NW,0,none⟩),NW≤q:=λ q I=>Nat.le_of_eq (List.mem_singleton.1 I).symm;refine fe (λ ck ch aS=>∃ k:Nat,∃ j9:Option Addr,∃ co:Nat,ch= [(2, .pointer (some ⟨bC,0,none⟩)),(4, .slice none 0 0),(5, .int .i64 0),(6, .int .i64 (fO (b.x - a.x))),(7, .int .i64 (b5 (b.x - a.x))),(8, .int .i64 (fO (b.y - a.y))),(9, .int .i64 (b5 (b.y - a.y))),(10, .int .i64 (b5 (b.x - a.x))),(11, .int .i64 (b5 (b.y - a.y))),(12, .slice j9 ((qk a b k).length) co),(13, .int .i64 ((ct a b k).1)),(50, .int .i64 (b5 (b.x - a.x))),(51, .int .i64 (k:Int))]∧ck=(b5 (b.x - a.x)).toNat - k∧Ext w aS∧aK aS bC [.int .i64 ((ct a b k).2.x), .int .i64 ((ct a b k).2.y)] 49 (0,0)∧ar.rep.aF 49 16 aS w.heap.size (κ.af j9) j9 co (qk a b k)∧((k:Int)≤b5 (b.x - a.x))∧(∀ q∈κ.af j9,q=bC→False)) _ _ ⟨0,some ⟨NW,0,none⟩,1,Z,Z,CB,ab,(aK.ru (R:=ar.rep) (by_:=16) (B:=w.heap.size) (k:= [a]) TS [[.int .i64 a.x, .int .i64 a.y]] Z ⟨⟨Z,bt.2 (by omega),bt.2 (by omega)⟩,trivial⟩ (by simp) (by simp) (by decide) (by omega)),(by have:=hN (b.y - a.y);have:=hN (b.x - a.x);omega),(λ q I Φ=>by (have:=aps q I;omega))⟩ (.cons Z (.cons Z (.cons Z (.cons Z (.cons Z (.cons Z (.cons Z (.cons Z (.cons Z (.cons Z (.cons (bX Z (by first | omega | rfl | (simp<;>omega))) (.cons Z (.cons (bX Z (by first | omega | rfl | (simp<;>omega))) .nil))))))))))))) ?_;rintro aCw awY SC ⟨k,j9,co,rfl,rfl,Ai,e3,ei,av,A1⟩;have:=Ai.size;have aDI:=e3.lt;have aub:=λ q I=>(ei.lt q I).2;have Φ:=abc a b k;have hp:=abd a b k;have eg:=Eo (b.x - a.x);have fp:=Eo (b.y - a.y);have xm:=hN (b.x - a.x);have p8:=hN (b.y - a.y);have q9:=BZ a b k;refine aj<|J (blt Z Z)<|ah<|aD<| ?_;refine ef Z (λ alE=> ?_) (λ alE=> ?_)
    · refine bx<|aD<|bP<|aj<|vm rfl<|vm rfl<|J (yB rfl rfl (bF (by omega)))<|J (bad rfl rfl (bF (by omega)))<|va rfl<|ah<|aj<|vm rfl<|vm rfl<|J (l1 rfl rfl)<|va rfl<|ah<|aD<|aj<| ?_
      refine vm Z<|ah<| ?_;refine Od Z (λ PF=> ?_) (λ PF=> ?_)
      · rw [gL] at Φ
        have Bk:decide (b5 (b.x - a.x)≤((ct a b k).1)+(2 * (b5 (b.y - a.y))))=true:=by exact decide_eq_true PF
        refine rg<|vm Z<|vm Z<|J (yB Z Z (bF (by omega)))<|J (kB Z Z (bF (by omega)))<|va Z<|ah<|aD<|aj<|vm Z<|vm Z<|J (l1 Z Z)<|vm Z<|bB Z Z Z Z (λ hc=>aJ Z) Z<|J (gy Z Z Z Z)<|ah<| ?_;have alF:((decide (b5 (b.y - a.y)≤b5 (b.x - a.x))) || (decide (b5 (b.x - a.x)≤((ct a b k).1)+(2 * (b5 (b.y - a.y))))))=true:=by simp only [Bool.or_eq_true,decide_eq_true_eq];omega
        refine fL (by rw [← alF];rfl)<|rg<|J (aw gJ Z)<|J (ak Z (e3.one aZ Z))<|vm Z<|J (bad Z Z (bF (by omega)))<|J (aw gJ Z)<|st (new:= [.int .i64 (((ct a b k).2.x)+(fO (b.x - a.x))), .int .i64 ((ct a b k).2.y)]) Z Z e3 Z cz Z Z Z λ adG ri e3=> ?_;have:=ri.size;have Ik:=Ext.mod Ai ri (bR (by omega));have:=ri.size;refine ah<|aD<|aj<|vm Z<|vm Z<|J (jC Z Z)<|vm Z<|bB Z Z Z Z (λ hc=>aJ Z) Z<|J (gy Z Z Z Z)<|ah<| ?_;have alG:((decide (b5 (b.x - a.x)<b5 (b.y - a.y))) || (decide (b5 (b.x - a.x)≤((ct a b k).1)+(2 * (b5 (b.y - a.y))))))=true:=by simp only [Bool.or_eq_true,decide_eq_true_eq];omega
        refine fL (by rw [← alG];rfl)<|rg<|J (aw hh Z)<|J (ak Z (e3.one aZ Z))<|vm Z<|J (bad Z Z (bF (by omega)))<|J (aw hh Z)<|st (new:= [.int .i64 (((ct a b k).2.x)+(fO (b.x - a.x))), .int .i64 (((ct a b k).2.y)+(fO (b.y - a.y)))]) Z Z e3 Z cz Z Z Z λ adH Ln e3=> ?_;have:=Ln.size;have Il:=Ext.mod Ik Ln (bR (by omega));have:=Ln.size;refine ah<|rg<|vm Z<|J (ak Z (e3.all bZ bE))<|cH (e:= 49) (cs:= [.int .i64 (((ct a b k).2.x)+(fO (b.x - a.x))), .int .i64 (((ct a b k).2.y)+(fO (b.y - a.y)))]) Z (λ _=>by kernel_rfl) Z λ auZ axS MF aBp TW=> ?_;have:=MF.size;have MI:=τ Il MF;have aDP:=TW.lt;have ei:=ei.mod ri (λ q I h=>by have Φ:=List.mem_singleton.1 h;exfalso;(exact A1 q I Φ));have ei:=ei.mod Ln (λ q I h=>by have Φ:=List.mem_singleton.1 h;exfalso;(exact A1 q I Φ));have ei:=ei.later MF;refine ap I3 κ.dV ei (aK.gv (R:=ar.rep) (by_:=16) (q:=(⟨((ct a b k).2.x)+(fO (b.x - a.x)),((ct a b k).2.y)+(fO (b.y - a.y))⟩:ar)) TW ⟨Z,⟨bt.2 (by (try dsimp only);omega),bt.2 (by (try dsimp only);omega)⟩⟩ (by decide)) Z Z (by simp only [List.length_cons,List.length_nil];omega) (by simp only [List.length_cons,List.length_nil];omega) MI.size Z λ adI aeG ahb ub UY ak4 aCW=> ?_;have:=ub.size;have Im:=Ext.mod MI ub (λ q I=>(ei.lt q I).1);have Mf:=λ q I=>(UY.lt q I).2;have:=ub.size;refine va Z<|nl<|cg<|a6<|rg<|J (bad Z Z (bF (by omega)))<|vm Z<|nl<| ?_;have aU:ct a b (k+1)=((((ct a b k).1)+(2 * (b5 (b.y - a.y)))) - (2 * (b5 (b.x - a.x))),⟨((ct a b k).2.x)+(fO (b.x - a.x)),((ct a b k).2.y)+(fO (b.y - a.y))⟩):=by
          show nV a b (ct a b k)=_;unfold nV;simp only [gL,GH,Gt,Bk,if_true,if_false,Bool.or_true,Bool.true_or,Bool.or_false,Bool.false_or,Bool.false_eq_true,decide_true,decide_false,Bool.not_true,Bool.not_false]
        have bc:=LO a b k;rw [aU] at bc;have cy:(qk a b (k+1)).length=k+2:=BZ a b (k+1);have e3:=e3.later MF;have e3:=e3.mod ub (λ I=>A1 _ I rfl);exact du _ _ ⟨k+1,aeG,ahb,Z,Z,Im,(by rw [aU];exact e3),(by rw [bc];exact UY),by omega,(λ q I Φ=>by (exact Or.elim (ak4 q I) (λ ZX=>by (exact A1 q ZX Φ)) (λ ZX=>by omega)))⟩ (by omega) (.cons Z (.cons Z (.cons Z (.cons Z (.cons Z (.cons Z (.cons Z (.cons Z (.cons Z (.cons (by rw [bc];rfl) (.cons (bX Z (by rw [aU])) (.cons Z (.cons (bX Z (by first | omega | rfl | (simp<;>omega))) .nil)))))))))))))
      · rw [gL] at Φ
        have Bk:decide (b5 (b.x - a.x)≤((ct a b k).1)+(2 * (b5 (b.y - a.y))))=false:=by exact decide_eq_false PF
        refine bx<|aD<|aj<|vm Z<|vm Z<|J (l1 Z Z)<|vm Z<|bB Z Z Z Z (λ hc=>aJ Z) Z<|J (gy Z Z Z Z)<|ah<| ?_;have alL:((decide (b5 (b.y - a.y)≤b5 (b.x - a.x))) || (decide (b5 (b.x - a.x)≤((ct a b k).1)+(2 * (b5 (b.y - a.y))))))=true:=by simp only [Bool.or_eq_true,decide_eq_true_eq];omega
        refine fL (by rw [← alL];rfl)<|rg<|J (aw gJ Z)<|J (ak Z (e3.one aZ Z))<|vm Z<|J (bad Z Z (bF (by omega)))<|J (aw gJ Z)<|st (new:= [.int .i64 (((ct a b k).2.x)+(fO (b.x - a.x))), .int .i64 ((ct a b k).2.y)]) Z Z e3 Z cz Z Z Z λ au4 ud e3=> ?_;have:=ud.size;have Tc:=Ext.mod Ai ud (bR (by omega));have:=ud.size;refine ah<|aD<|aj<|vm Z<|vm Z<|J (jC Z Z)<|vm Z<|bB Z Z Z Z (λ hc=>aJ Z) Z<|J (gy Z Z Z Z)<|ah<| ?_;have alN:((decide (b5 (b.x - a.x)<b5 (b.y - a.y))) || (decide (b5 (b.x - a.x)≤((ct a b k).1)+(2 * (b5 (b.y - a.y))))))=false:=by simp only [Bool.or_eq_false_iff,decide_eq_false_iff_not];omega
        refine gq (by rw [← alN];rfl)<|bx<|rg<|vm Z<|J (ak Z (e3.all bZ bE))<|cH (e:= 49) (cs:= [.int .i64 (((ct a b k).2.x)+(fO (b.x - a.x))), .int .i64 ((ct a b k).2.y)]) Z (λ _=>by kernel_rfl) Z λ adK axX sL aBw T2=> ?_;have:=sL.size;have E0:=τ Tc sL;have aDV:=T2.lt;have ei:=ei.mod ud (λ q I h=>by have Φ:=List.mem_singleton.1 h;exfalso;(exact A1 q I Φ));have ei:=ei.later sL;refine ap I3 κ.dV ei (aK.gv (R:=ar.rep) (by_:=16) (q:=(⟨((ct a b k).2.x)+(fO (b.x - a.x)),(ct a b k).2.y⟩:ar)) T2 ⟨Z,⟨bt.2 (by (try dsimp only);omega),bt.2 (by (try dsimp only);omega)⟩⟩ (by decide)) Z Z (by simp only [List.length_cons,List.length_nil];omega) (by simp only [List.length_cons,List.length_nil];omega) E0.size Z λ au6 aeH ahc Lp UZ ak5 aC0=> ?_;have:=Lp.size;have Te:=Ext.mod E0 Lp (λ q I=>(ei.lt q I).1);have aE4:=λ q I=>(UZ.lt q I).2;have:=Lp.size;refine va Z<|nl<|cg<|a6<|rg<|J (bad Z Z (bF (by omega)))<|vm Z<|nl<| ?_;have aU:ct a b (k+1)=(((ct a b k).1)+(2 * (b5 (b.y - a.y))),⟨((ct a b k).2.x)+(fO (b.x - a.x)),(ct a b k).2.y⟩):=by
          show nV a b (ct a b k)=_;unfold nV;simp only [gL,GH,Gt,Bk,if_true,if_false,Bool.or_true,Bool.true_or,Bool.or_false,Bool.false_or,Bool.false_eq_true,decide_true,decide_false,Bool.not_true,Bool.not_false]
        have bc:=LO a b k;rw [aU] at bc;have cy:(qk a b (k+1)).length=k+2:=BZ a b (k+1);have e3:=e3.later sL;have e3:=e3.mod Lp (λ I=>A1 _ I rfl);exact du _ _ ⟨k+1,aeH,ahc,Z,Z,Te,(by rw [aU];exact e3),(by rw [bc];exact UZ),by omega,(λ q I Φ=>by (exact Or.elim (ak5 q I) (λ Z1=>by (exact A1 q Z1 Φ)) (λ Z1=>by omega)))⟩ (by omega) (.cons Z (.cons Z (.cons Z (.cons Z (.cons Z (.cons Z (.cons Z (.cons Z (.cons Z (.cons (by rw [bc];rfl) (.cons (bX Z (by rw [aU])) (.cons Z (.cons (bX Z (by first | omega | rfl | (simp<;>omega))) .nil)))))))))))))
    · refine dG<|dF<|eb<|dE<|a6<|aj<|vm rfl<|va rfl<|va rfl<|ah<|rt<|bp (.tmp rfl (.tmp rfl .nil))<| ?_
      have nP:k=(aT a b).toNat:=by omega
      subst nP;exact ⟨j9,co,Z,ei,Ai⟩
end
section
open Go.RowKit
def qZ (p:Int):Int:=if p=0∨p=3 then 2 else if p=2 then 3 else 0
def rZ (p:Int):Int:=if p=0∨p=3 then 0 else if p=2 then 0 else if p=1 then 9 else 1
def dt (c:ar):List ar:= [⟨c.x,c.y - 1⟩,⟨c.x - 1,c.y⟩,⟨c.x+1,c.y⟩,⟨c.x,c.y+1⟩]
namespace aC
section
variable {f:aC} {c d x y b:ar} {l aT:List Int} {v:Int}
def fv (f:aC) (c:ar):Int:=if f.place c=2 then 3 else 2
def cx (f:aC) (c:ar):List ar:=(dt c).filter f.ground
def at_ (f:aC) (c:ar):Nat:=(c.y * f.wide+c.x).toNat
def ax (f:aC) (aT:List Int) (c:ar):Int:=if f.ek c then aT.getD (f.at_ c) (-1) else -1
def jf (b c:ar):Int:=2 * (b5 (b.x - c.x)+b5 (b.y - c.y))
theorem yS (h:f.ground c=true):f.place c≠1:=by unfold ground at h;rw [Bool.and_eq_true] at h;simpa using h.2
theorem X3 (h:f.ek c=true) (aa:f.place c≠1):f.ground c=true:=by unfold ground;rw [h];simpa using aa
theorem nU:2≤f.fv c∧f.fv c≤3:=by unfold fv;split<;>omega
theorem HA:y∈f.cx x↔y∈dt x∧f.ground y=true:=by unfold cx;rw [List.mem_filter]
theorem Rj:y∈dt x↔(y=⟨x.x,x.y - 1⟩∨y=⟨x.x - 1,x.y⟩∨y=⟨x.x+1,x.y⟩∨y=⟨x.x,x.y+1⟩):=by unfold dt;simp
theorem Sb (h:y∈dt x):x∈dt y:=by
 rw [Rj] at h ⊢;obtain ⟨a,b⟩:=x;rcases h with rfl | rfl | rfl | rfl
 ·right;right;right;simp
 ·right;right;left;simp
 ·right;left;simp
 ·left;simp
theorem as8 (h:y∈dt x):y≠x:=by
 rw [Rj] at h;obtain ⟨a,b⟩:=x;rcases h with rfl | rfl | rfl | rfl<;>simp<;>omega
theorem OU (b:ar) (h:y∈dt x):jf b x≤2+jf b y:=by
 rw [Rj] at h;obtain ⟨eh,gT⟩:=x;have e:∀ n:Int,b5 n≤1+b5 (n+1)∧b5 n≤1+b5 (n - 1):=λ n=>by
  have γ:=hN n;have aa:=hN (n+1);have au:=hN (n - 1);rcases (show n<0∨0≤n by omega) with hn | hn
  ·have:=γ.2.2.2 hn;rcases (show n+1<0∨0≤n+1 by omega) with hm | hm
   ·have:=aa.2.2.2 hm;have:=au.2.2.2 (by omega);omega
   ·have:=aa.2.2.1 hm;have:=au.2.2.2 (by omega);omega
  ·have:=γ.2.2.1 hn;have:=aa.2.2.1 (by omega);rcases (show n - 1<0∨0≤n - 1 by omega) with hm | hm
   ·have:=au.2.2.2 hm;omega
   ·have:=au.2.2.1 hm;omega
 unfold jf;rcases h with rfl | rfl | rfl | rfl<;>dsimp only
 ·have:=(e (b.y - gT)).1;rw [show b.y - (gT - 1)=b.y - gT+1 by omega];omega
 ·have:=(e (b.x - eh)).1;rw [show b.x - (eh - 1)=b.x - eh+1 by omega];omega
 ·have:=(e (b.x - eh)).2;rw [show b.x - (eh+1)=b.x - eh - 1 by omega];omega
 ·have:=(e (b.y - gT)).2;rw [show b.y - (gT+1)=b.y - gT - 1 by omega];omega
theorem Xy (b c:ar):0≤jf b c:=by have:=hN (b.x - c.x);have:=hN (b.y - c.y);unfold jf;omega
theorem OT (b:ar):jf b b=0:=by unfold jf;rw [Int.sub_self,Int.sub_self];rfl
theorem LJ (f:aC) (b:ar):oa.gY f.cx f.fv (jf b):=⟨λ x y _=>by have:=f.nU (c:=y);omega,Xy b,λ x y aG=>by
 have:=OU b (HA.1 aG).1;have:=f.nU (c:=y);omega⟩
theorem Ry (f:aC):oa.gY f.cx f.fv (λ _=>0):=⟨λ x y _=>by have:=f.nU (c:=y);omega,λ _=>Int.le_refl 0,λ x y aG=>by have:=f.nU (c:=y);omega⟩
theorem Vs (hf:f.bh=0) (hc:f.ek c=true) (hd:f.ek d=true) (h:f.at_ c=f.at_ d):c=d:=by
 obtain ⟨a0,b7,a2,a3,a4,a5⟩:=idx hf hc;obtain ⟨FG,kR,eF,fK,wS,C1⟩:=idx hf hd;unfold at_ at h;have e:c.y * f.wide+c.x=d.y * f.wide+d.x:=by omega
 have aU:(c.y * f.wide+c.x) % f.wide=c.x:=by rw [Int.add_comm,Int.add_mul_emod_self_right,Int.emod_eq_of_lt a2 a3]
 have bc:(d.y * f.wide+d.x) % f.wide=d.x:=by rw [Int.add_comm,Int.add_mul_emod_self_right,Int.emod_eq_of_lt eF fK]
 have ex:c.x=d.x:=by rw [← aU,← bc,e]
 have J':c.y * f.wide=d.y * f.wide:=by omega
 have J':c.y=d.y:=Int.eq_of_mul_eq_mul_right (by omega) J';cases c;cases d;simp at ex J';rw [ex,J']
theorem ve (hf:f.bh=0) (hc:f.ek c=true):f.at_ c<f.aP.length∧((f.at_ c:Nat):Int)=c.y * f.wide+c.x:=by
 obtain ⟨a0,b7,_⟩:=idx hf hc;unfold at_;omega
theorem Dn (hc:f.ek c=true):f.ax aT c=aT.getD (f.at_ c) (-1):=by unfold ax;rw [if_pos hc]
theorem O4 (hc:f.ek c=false):f.ax aT c= -1:=by unfold ax;rw [if_neg (by rw [hc];decide)]
theorem Kj (hf:f.bh=0) (az:aT.length=f.aP.length) (hc:f.ek c=true):f.ax (aT.set (f.at_ c) v) c=v:=by
 rw [Dn hc,List.getD_eq_getElem?_getD,List.getElem?_set_self (by rw [az];exact (ve hf hc).1)];rfl
theorem Kk (hf:f.bh=0) (hc:f.ek c=true) (dK:d≠c):f.ax (aT.set (f.at_ c) v) d=f.ax aT d:=by
 cases hd:f.ek d with
 | false=>rw [O4 hd,O4 hd]
 | true=>rw [Dn hd,Dn hd,List.getD_eq_getElem?_getD,List.getD_eq_getElem?_getD,List.getElem?_set_ne (λ e=>dK (Vs hf hd hc e.symm))]
end
end aC
def und:List Int→Nat
 | []=>0
 | x::r=>(if x<0 then 1 else 0)+und r
theorem adA:∀ l:List Int,und l≤l.length
 | []=>Nat.le_refl _
 | x::r=>by have:=adA r;rw [und,List.length_cons];split<;>omega
theorem adB {v:Int} (hv:0≤v):∀ (l:List Int) (i:Nat),i<l.length→l.getD i (-1)<0→und (l.set i v)+1=und l
 | [],i,h,_=>by simp at h
 | x::r,0,_,h=>by
  have h:x<0:=h;rw [List.set_cons_zero,und,und,if_neg (by omega),if_pos h];omega
 | x::r,i+1,h,aa=>by
  have:=adB hv r i (by simpa using h) (by simpa using aa);rw [List.set_cons_succ,und,und];omega
theorem Sy {n:Nat}:und (List.replicate n (-1))=n:=by
 induction n with
 | zero=>rfl
 | succ n bk=>rw [List.replicate_succ,und,bk];simp;omega
structure gZ {β:Type} [Inhabited β] (ft:β→ar) (aw hJ:β→Int) (f:aC) (h:ar→Int) (src:ar→Prop) (aT:List Int) (l:List β) (cK:ar) (rest:List ar):Prop where
 len:aT.length=f.aP.length
 inv:oa.Inv f.cx f.fv h src (f.ax aT) (l.map λ n=>(ft n,aw n)) cK rest
 hp:b8.Heap hJ l.length l
 all:∀ n∈l,hJ n=aw n+h (ft n)∧f.ground (ft n)=true
 cO:∀ c,f.ax aT c+3 * (und aT:Int)≤3 * (f.aP.length:Int)
 gr:∀ c,0≤f.ax aT c→f.ground c=true
section
variable {β:Type} [Inhabited β] {ft:β→ar} {aw hJ:β→Int} {f:aC} {h:ar→Int} {src:ar→Prop} {aT:List Int} {l:List β} {cK y:ar} {rest:List ar} {n:β} {j:Nat}
theorem gZ.Xz (s:gZ ft aw hJ f h src aT l cK rest) (o:oa.gY f.cx f.fv h) (hn:n∈l):0≤aw n∧aw n+3 * (und aT:Int)≤3 * (f.aP.length:Int)+3:=by
 have hm:(ft n,aw n)∈l.map λ n=>(ft n,aw n):=List.mem_map.2 ⟨n,hn,rfl⟩;have hr:=s.inv.acn hm;refine ⟨hr.vK o, ?_⟩;have hu:=adA aT;have:=s.len;rcases s.inv.q _ hm with ⟨_,aa⟩ | ⟨p,γ,aa,au⟩
 ·have aa:aw n=0:=aa;omega
 ·have au:aw n=f.ax aT p+f.fv (ft n):=au;have:=s.cO p;have:=f.nU (c:=ft n);omega
theorem gZ.abQ (aE:0<l.length):(l.map λ n=>(ft n,aw n)).Perm ((ft (l.getD 0 default),aw (l.getD 0 default))::(b8.mo hJ l).map λ n=>(ft n,aw n)):=
 ((b8.abY (key:=hJ) aE).symm.map _)
theorem gZ.least (s:gZ ft aw hJ f h src aT l cK rest) (aE:0<l.length):∀ e∈l.map λ n=>(ft n,aw n),aw (l.getD 0 default)+h (ft (l.getD 0 default))≤e.2+h e.1:=by
 intro e he;obtain ⟨n,hn,rfl⟩:=List.mem_map.1 he;have γ:=s.hp.least n hn;rw [(s.all n hn).1,(s.all _ (lz aE)).1] at γ;exact γ
theorem gZ.sub (aE:0<l.length) (hn:n∈b8.mo hJ l):n∈l:=(b8.abY (key:=hJ) aE).subset (List.mem_cons_of_mem _ hn)
theorem gZ.as9 (s:gZ ft aw hJ f h src aT l cK []) (aE:0<l.length) (hd:0≤f.ax aT (ft (l.getD 0 default))):gZ ft aw hJ f h src aT (b8.mo hJ l) cK [] :=
 ⟨s.len,s.inv.art (gZ.abQ aE) hd,b8.abX s.hp aE,λ n hn=>s.all n (gZ.sub aE hn),s.cO,s.gr⟩
theorem gZ.new (s:gZ ft aw hJ f h src aT l cK []) (hf:f.bh=0) (o:oa.gY f.cx f.fv h) (aE:0<l.length) (hd:f.ax aT (ft (l.getD 0 default))<0):
  gZ ft aw hJ f h src (aT.set (f.at_ (ft (l.getD 0 default))) (aw (l.getD 0 default))) (b8.mo hJ l) (ft (l.getD 0 default)) (f.cx (ft (l.getD 0 default)))∧und (aT.set (f.at_ (ft (l.getD 0 default))) (aw (l.getD 0 default)))+1=und aT:=by
 have aO:=(s.all _ (lz aE (d:=default))).2;have ao:=aC.iD aO;have Φ:=s.Xz o (lz aE (d:=default));have hu:und (aT.set (f.at_ (ft (l.getD 0 default))) (aw (l.getD 0 default)))+1=und aT:=adB Φ.1 aT _ (by rw [s.len];exact (aC.ve hf ao).1) (by rw [aC.Dn ao] at hd;exact hd);refine ⟨⟨by rw [List.length_set];exact s.len,(s.inv.ars o (gZ.abQ aE) hd (s.least aE) (aC.Kj hf s.len ao) (λ z bw=>aC.Kk hf ao bw)).1,b8.abX s.hp aE,λ n hn=>s.all n (gZ.sub aE hn),λ c=> ?_,λ c hc=> ?_⟩,hu⟩
 ·by_cases e:c=ft (l.getD 0 default)
  ·rw [e,aC.Kj hf s.len ao];omega
  ·rw [aC.Kk hf ao e];have:=s.cO c;omega
 ·by_cases e:c=ft (l.getD 0 default)
  ·rw [e];exact aO
  ·rw [aC.Kk hf ao e] at hc;exact s.gr c hc
theorem gZ.push (s:gZ ft aw hJ f h src aT l cK (y::rest)) (o:oa.gY f.cx f.fv h) (aO:f.ground y=true) (γ:ft n=y) (aa:aw n=f.ax aT cK+f.fv y) (au:hJ n=aw n+h y):gZ ft aw hJ f h src aT (b8.push hJ l n) cK rest:=by
 refine ⟨s.len,s.inv.push o ?_,b8.arJ s.hp,λ m hm=> ?_,s.cO,s.gr⟩
 ·have:=(b8.ab2 (key:=hJ) (l:=l) (x:=n)).map λ n=>(ft n,aw n);rw [List.map_cons,γ,aa] at this;exact this
 ·rcases List.mem_cons.1 ((b8.ab2 (key:=hJ)).subset hm) with rfl | hm
  ·rw [γ];exact ⟨au,aO⟩
  ·exact s.all m hm
theorem gZ.pass (s:gZ ft aw hJ f h src aT l cK (y::rest)) (aG:0≤f.ax aT y):gZ ft aw hJ f h src aT l cK rest:=⟨s.len,s.inv.skip aG,s.hp,s.all,s.cO,s.gr⟩
theorem Sa {f:aC} {x:ar} {j:Nat} (ay:j<4):((dt x).drop j).filter f.ground=if f.ground ((dt x).getD j default) then (dt x).getD j default::((dt x).drop (j+1)).filter f.ground else ((dt x).drop (j+1)).filter f.ground:=by
 have az:(dt x).length=4:=rfl;rw [List.drop_eq_getElem_cons (by omega),List.filter_cons,nI (by omega)]
theorem gZ.apD (s:gZ ft aw hJ f h src aT l cK (((dt cK).drop j).filter f.ground)) (ay:j<4) (aO:f.ground ((dt cK).getD j default)=false):gZ ft aw hJ f h src aT l cK (((dt cK).drop (j+1)).filter f.ground):=by
 rw [Sa ay,if_neg (by rw [aO];decide)] at s;exact s
theorem gZ.apB (s:gZ ft aw hJ f h src aT l cK (((dt cK).drop j).filter f.ground)) (ay:j<4) (aG:0≤f.ax aT ((dt cK).getD j default)) (aO:f.ground ((dt cK).getD j default)=true):gZ ft aw hJ f h src aT l cK (((dt cK).drop (j+1)).filter f.ground):=by
 rw [Sa ay,if_pos aO] at s;exact s.pass aG
theorem gZ.apC (s:gZ ft aw hJ f h src aT l cK (((dt cK).drop j).filter f.ground)) (o:oa.gY f.cx f.fv h) (ay:j<4) (aO:f.ground ((dt cK).getD j default)=true) (γ:ft n=(dt cK).getD j default) (aa:aw n=f.ax aT cK+f.fv ((dt cK).getD j default)) (au:hJ n=aw n+h ((dt cK).getD j default)):
  gZ ft aw hJ f h src aT (b8.push hJ l n) cK (((dt cK).drop (j+1)).filter f.ground):=by
 rw [Sa ay,if_pos aO] at s;exact s.push o aO γ aa au
end
end
section
open Go.RowKit
structure bU where
 cell:ar
 aT:Int
 all:Int
 deriving DecidableEq,Inhabited
namespace bU
def cells (a:bU):List Value:= [.int .i64 (a.cell.x), .int .i64 (a.cell.y), .int .i64 (a.aT), .int .i64 (a.all)]
def ok (a:bU):Prop:=(Lit.int .i64 a.cell.x).wf=true∧(Lit.int .i64 a.cell.y).wf=true∧(Lit.int .i64 a.aT).wf=true∧(Lit.int .i64 a.all).wf=true
def raw (j:Nat) (u:Value):Prop:=match j with
 | 0=>∃ n:Int,u= .int .i64 n
 | 1=>∃ n:Int,u= .int .i64 n
 | 2=>∃ n:Int,u= .int .i64 n
 | 3=>∃ n:Int,u= .int .i64 n
 | _=>True
theorem qY (a:bU):∀ (j:Nat) u,a.cells[j]? =some u→raw j u:=by
 intro j u hu
 match j,hu with
 | 0,hu=>exact ⟨_,(Option.some.inj hu).symm⟩
 | 1,hu=>exact ⟨_,(Option.some.inj hu).symm⟩
 | 2,hu=>exact ⟨_,(Option.some.inj hu).symm⟩
 | 3,hu=>exact ⟨_,(Option.some.inj hu).symm⟩
 | j+4,hu=>exact trivial
theorem qX (a:bU):∀ u∈a.cells,u.oneCell'=true:=by
 intro u hu;unfold cells at hu;simp only [List.mem_cons,List.not_mem_nil,or_false] at hu;rcases hu with rfl | rfl | rfl | rfl<;>rfl
def rep:κ bU:=κ.flat 4 cells ok raw (λ _=>rfl) qX qY
def zero:Value:= .agg #[.int .i64 0, .int .i64 0, .int .i64 0, .int .i64 0]
theorem lS:∀ (j:Nat) u,zero.cells[j]? =some u→rep.raw j u:=by
 intro j u hu;have hu:(#[(.int .i64 0:Value),(.int .i64 0:Value),(.int .i64 0:Value),(.int .i64 0:Value)]:Array Value)[j]? =some u:=hu
 match j,hu with
 | 0,hu=>exact ⟨_,(Option.some.inj hu).symm⟩
 | 1,hu=>exact ⟨_,(Option.some.inj hu).symm⟩
 | 2,hu=>exact ⟨_,(Option.some.inj hu).symm⟩
 | 3,hu=>exact ⟨_,(Option.some.inj hu).symm⟩
 | j+4,hu=>cases hu
theorem info:(prog.info? 313).map (λ i=>(i.zero,i.size,i.bytes))=some (some zero,4,32):=by kernel_rfl
def sh:fr:=(.cons (.cons (.int .i64) (.cons (.int .i64) .nil)) (.cons (.int .i64) (.cons (.int .i64) .nil)))
end bU
end
section
open Go.RowKit
abbrev oW (f:aC) (a b:ar) (aT:List Int) (l:List bU) (cK:ar) (rest:List ar):Prop:=gZ bU.cell bU.aT bU.all f (aC.jf b) (λ c=>c=a) aT l cK rest
def td (f:aC) (b:ar) (aT:List Int):Prop:=0≤f.ax aT b→∀ x,0≤f.ax aT x→f.ax aT x+aC.jf b x≤f.ax aT b
structure nC (f:aC) (a b:ar) (aT:List Int):Prop where
 len:aT.length=f.aP.length
 spec:oa.Spec f.cx f.fv (aC.jf b) (λ c=>c=a) b (f.ax aT)
 cO:∀ c,f.ax aT c≤3 * (f.aP.length:Int)
 gr:∀ c,0≤f.ax aT c→f.ground c=true
section
variable {f:aC} {a b cK:ar} {aT:List Int} {l:List bU} {bK:bU} {rest:List ar}
theorem auP (s:oW f a b aT l cK []) (hf:f.bh=0) (aE:0<l.length) (hx:l.getD 0 default=bK) (hd:f.ax aT bK.cell<0) (hv:td f b aT) (hc:f.ax aT b<0∨bK.all≤f.ax aT b):td f b (aT.set (f.at_ bK.cell) bK.aT):=by
 have hm:bK∈l:=by rw [← hx];exact lz aE
 obtain ⟨ha,aO⟩:=s.all bK hm;have ao:=aC.iD aO;have γ:=aC.Kj (v:=bK.aT) hf s.len ao;have aa:∀ z,z≠bK.cell→f.ax (aT.set (f.at_ bK.cell) bK.aT) z=f.ax aT z:=λ z bw=>aC.Kk hf ao bw;have Zg:=λ z bw=>s.inv.mono z bw (bK.cell,bK.aT) (List.mem_map.2 ⟨bK,hm,rfl⟩);dsimp only at Zg;intro Φ z bw;by_cases e:b=bK.cell
 ·have akk:f.ax (aT.set (f.at_ bK.cell) bK.aT) b=bK.aT:=by rw [e];exact γ
  rw [akk];have e0:aC.jf b bK.cell=0:=by rw [← e];exact aC.OT b
  by_cases FZ:z=bK.cell
  ·rw [FZ,γ];omega
  ·rw [aa z FZ] at bw ⊢;have:=Zg z bw;omega
 ·rw [aa b e] at Φ ⊢;by_cases FZ:z=bK.cell
  ·rw [FZ,γ];omega
  ·rw [aa z FZ] at bw ⊢;exact hv Φ z bw
theorem abP (s:oW f a b aT l cK []) (hv:td f b aT) (he:(0≤f.ax aT b∧∀ e∈l.map λ n=>(n.cell,n.aT),f.ax aT b<e.2+aC.jf b e.1)∨(l.map λ n=>(n.cell,n.aT))= []):nC f a b aT :=
 ⟨s.len,s.inv.ends (aC.LJ f b) (aC.OT b) hv he,λ c=>by have:=s.cO c;omega,s.gr⟩
theorem arh (s:oW f a b aT l cK []) (hv:td f b aT) (h:l.length=0):nC f a b aT:=abP s hv (.inr (by rw [List.eq_nil_of_length_eq_zero h];rfl))
theorem arf (s:oW f a b aT l cK []) (hv:td f b aT) (aE:0<l.length) (Φ:0≤f.ax aT b) (h:f.ax aT b<(l.getD 0 default).all):nC f a b aT :=
 abP s hv (.inl ⟨Φ,λ e he=>by
  have γ:=s.least aE e he;rw [← (s.all _ (lz aE)).1] at γ;omega⟩)
theorem oW.node (s:oW f a b aT l cK rest) (hf:f.bh=0) (Φ:f.ek b=true) (hn:bK∈l):0≤bK.cell.x∧bK.cell.x<f.wide∧0≤bK.cell.y∧bK.cell.y<f.high∧0≤bK.aT∧bK.aT≤4803∧0≤bK.all∧bK.all≤5000∧bK.ok:=by
 obtain ⟨ha,aO⟩:=s.all bK hn;obtain ⟨_,_,i1,i2,i3,i4⟩:=aC.idx hf (aC.iD aO);obtain ⟨_,_,aAV,QL,aAW,aAX⟩:=aC.idx hf Φ;obtain ⟨g1,g2,g3,g4,g5,g6⟩:=aC.jg hf;obtain ⟨γ,aa⟩:=s.Xz (aC.LJ f b) hn;have az:=aC.ez hf;have he:0≤aC.jf b bK.cell∧aC.jf b bK.cell≤160:=by
  refine ⟨aC.Xy _ _, ?_⟩;unfold aC.jf;have b7:=hN (b.x - bK.cell.x);have a2:=hN (b.y - bK.cell.y);rcases (show b.x - bK.cell.x<0∨0≤b.x - bK.cell.x by omega) with h | h
  ·have:=b7.2.2.2 h;rcases (show b.y - bK.cell.y<0∨0≤b.y - bK.cell.y by omega) with cU | cU
   ·have:=a2.2.2.2 cU;omega
   ·have:=a2.2.2.1 cU;omega
  ·have:=b7.2.2.1 h;rcases (show b.y - bK.cell.y<0∨0≤b.y - bK.cell.y by omega) with cU | cU
   ·have:=a2.2.2.2 cU;omega
   ·have:=a2.2.2.1 cU;omega
 refine ⟨i1,i2,i3,i4,γ,by omega,by omega,by omega,bt.2 (by omega),bt.2 (by omega),bt.2 (by omega),bt.2 (by omega)⟩
theorem w7 (hf:f.bh=0) (az:aT.length=f.aP.length) {c:ar} (hc:f.ek c=true):aT[(c.y * f.wide+c.x).toNat]? =some (f.ax aT c):=by
 rw [aC.Dn hc];exact dO (u:= -1) (show f.at_ c<aT.length by rw [az];exact (aC.ve hf hc).1)
theorem dy (hf:f.bh=0) (az:aT.length=f.aP.length) {c:ar} (hc:f.ek c=true):(c.y * f.wide+c.x).toNat<aT.length∧0≤c.y * f.wide+c.x∧c.y * f.wide+c.x≤1600:=by
 have γ:=aC.ve hf hc;obtain ⟨a0,b7,_⟩:=aC.idx hf hc;have:=aC.ez hf;unfold aC.at_ at γ;omega
theorem Vt (p q:Bool):p=false∨(p=true∧q=true)∨(p=true∧q=false):=by cases p<;>cases q<;>simp
end
end
section
open Go.RowKit
section
variable {f:aC} {a b c:ar} {aT Ka:List Int} {ax:ar→Int}
noncomputable def cp (f:aC) (a b:ar):ar→Int :=
 @dite _ (∃ aT,nC f a b aT) (Classical.propDecidable _) (λ h=>f.ax h.choose) λ _=>λ _=> -1
theorem nC.Kh (h:nC f a b aT):f.ax aT=cp f a b:=by
 have hex:∃ aT,nC f a b aT:=⟨aT,h⟩;unfold cp;rw [dif_pos hex]
 funext x
 exact h.spec.uniq hex.choose_spec.spec x
theorem nC.get (h:nC f a b aT) (hf:f.bh=0) {c:ar} (hc:f.ek c=true):aT[(c.y * f.wide+c.x).toNat]? =some (cp f a b c):=by rw [← h.Kh];exact w7 hf h.len hc
theorem arK {β:Type} [Inhabited β] {key:β→Int} {x:β}:b8.push key [] x= [x]:=by
 unfold b8.push b8.n5;rw [if_neg (by simp)];rfl
theorem Ki {n:Nat}:f.ax (List.replicate n (-1)) c= -1:=by
 unfold aC.ax;split
 ·rw [List.getD_eq_getElem?_getD,List.getElem?_replicate];split<;>rfl
 ·rfl
theorem oW.start (hf:f.bh=0) (ha:f.ground a=true) (cK:ar):oW f a b (List.replicate f.aP.length (-1)) (b8.push bU.all [] ⟨a,0,0+aC.jf b a⟩) cK []:=by
 rw [arK];refine ⟨List.length_replicate,oa.Inv.start (λ x=>Ki) (λ e he=> ?_) (λ s hs=> ?_),λ i aE γ=>by simp at γ;omega,λ n hn=> ?_,λ c=> ?_,λ c hc=>by rw [Ki] at hc;omega⟩
 ·rw [List.map_cons,List.map_nil,List.mem_singleton] at he;subst he;exact ⟨Z,Z⟩
 ·subst hs;exact List.mem_cons_self
 ·rw [List.mem_singleton.1 hn];exact ⟨Z,ha⟩
 ·rw [Ki,Sy];omega
theorem td.start:td f b (List.replicate f.aP.length (-1)):=λ h=>by rw [Ki] at h;omega
def j0 (f:aC) (ax:ar→Int) (c:ar):ar:=((dt c).find? λ n=>f.ground n && decide (0≤ax n) && decide (ax n+f.fv c=ax c)).getD c
def tk (f:aC) (ax:ar→Int) (a:ar):Nat→ar→List ar
 | 0,c=> [c]
 | n+1,c=>if c=a then [c] else c::tk f ax a n (j0 f ax c)
structure mD (f:aC) (a:ar) (ax:ar→Int):Prop where
 zero:ax a=0
 pos:∀ c,0≤ax c→c≠a→∃ p,0≤ax p∧c∈f.cx p∧ax c=ax p+f.fv c
 gr:∀ c,0≤ax c→f.ground c=true
theorem mD.prev (h:mD f a ax) (hc:0≤ax c) (dK:c≠a):j0 f ax c∈dt c∧f.ground (j0 f ax c)=true∧0≤ax (j0 f ax c)∧ax (j0 f ax c)+f.fv c=ax c:=by
 obtain ⟨p,γ,aa,au⟩:=h.pos c hc dK;have hp:p∈dt c:=aC.Sb (aC.HA.1 aa).1;have K4:(f.ground p && decide (0≤ax p) && decide (ax p+f.fv c=ax c))=true:=by
  rw [h.gr p γ,decide_eq_true γ,decide_eq_true au.symm];rfl
 unfold j0;cases hf:(dt c).find? λ n=>f.ground n && decide (0≤ax n) && decide (ax n+f.fv c=ax c) with
 | none=>exact absurd K4 (List.find?_eq_none.1 hf p hp)
 | some q =>
  have I:=List.find?_some hf;simp only [Bool.and_eq_true,decide_eq_true_eq] at I;exact ⟨List.mem_of_find?_eq_some hf,I.1.1,I.1.2,I.2⟩
theorem mD.fuel (h:mD f a ax):∀ (n:Nat) (c:ar),0≤ax c→(ax c).toNat≤n→tk f ax a n c=tk f ax a (ax c).toNat c:=by
 intro n;induction n using Nat.strongRecOn with
 | ind n bk =>
  intro c hc hn;by_cases dK:c=a
  ·subst dK;have:(ax c).toNat=0:=by rw [h.zero];rfl
   rw [this];cases n with
   | zero=>rfl
   | succ n=>unfold tk;rw [if_pos rfl]
  ·obtain ⟨dY,eS,lD,vM⟩:=h.prev hc dK;have av:=f.nU (c:=c);obtain ⟨m,hm⟩:∃ m,(ax c).toNat=m+1:=⟨(ax c).toNat - 1,by omega⟩;obtain ⟨kj,anf⟩:∃ kj,n=kj+1:=⟨n - 1,by omega⟩;subst anf;rw [hm,tk,tk,if_neg dK,if_neg dK,bk kj (by omega) _ lD (by omega),bk m (by omega) _ lD (by omega)]
def eT (f:aC) (ax:ar→Int) (a c:ar):List ar:=tk f ax a (ax c).toNat c
theorem x0 (h:mD f a ax):eT f ax a a= [a]:=by unfold eT;rw [h.zero];rfl
theorem x1 (h:mD f a ax) (hc:0≤ax c) (dK:c≠a):eT f ax a c=c::eT f ax a (j0 f ax c):=by
 obtain ⟨dY,eS,lD,vM⟩:=h.prev hc dK;have av:=f.nU (c:=c);unfold eT;obtain ⟨m,hm⟩:∃ m,(ax c).toNat=m+1:=⟨(ax c).toNat - 1,by omega⟩;rw [hm,tk,if_neg dK,h.fuel m _ lD (by omega)]
theorem mD.of (h:nC f a b aT) (Φ:0≤f.ax aT b):mD f a (f.ax aT):=by
 have bw:0≤f.ax aT a→f.ax aT a=0:=λ aE=>by
  have:=(h.spec.mJ a aE).1.2 0 (.start rfl);omega
 have key:∀ n:Nat,∀ c,0≤f.ax aT c→(f.ax aT c).toNat=n→0≤f.ax aT a:=by
  intro n;induction n using Nat.strongRecOn with
  | ind n bk =>
   intro c hc hn;rcases h.spec.pred c hc with ⟨γ,_⟩ | ⟨p,γ,aa,au⟩
   ·subst γ;exact hc
   ·have:=f.nU (c:=c);exact bk (f.ax aT p).toNat (by omega) p γ Z
 have ha:=key _ b Φ rfl;refine ⟨bw ha,λ c hc dK=> ?_,h.gr⟩;rcases h.spec.pred c hc with ⟨γ,_⟩ | γ
 ·exact absurd γ dK
 ·exact γ
theorem mD.BW (h:nC f a b aT) (Φ:0≤cp f a b b):mD f a (cp f a b):=by rw [← h.Kh] at Φ ⊢;exact mD.of h Φ
theorem nC.agR (h:nC f a b aT) (c:ar):cp f a b c≤3 * (f.aP.length:Int):=by rw [← h.Kh];exact h.cO c
noncomputable def fT (f:aC) (a b:ar):Int:=if f.dh a≠0 then f.dh a else if f.dh b≠0 then f.dh b else if f.place a=1∨f.place b=1 then 9 else if cp f a b b<0 then 6 else 0
noncomputable def mM (f:aC) (a b:ar):Int:=if fT f a b=0 then cp f a b b else 0
noncomputable def eW (f:aC) (a b:ar):List ar:=if fT f a b=0 then (eT f (cp f a b) a b).reverse else []
theorem akv (h:f.dh a≠0):fT f a b=f.dh a:=by unfold fT;rw [if_pos h]
theorem akw (h:f.dh a=0) (aa:f.dh b≠0):fT f a b=f.dh b:=by unfold fT;rw [if_neg (by rw [h];simp),if_pos aa]
theorem Jj (h:f.dh a=0):f.bh=0∧f.ek a=true:=by
 have hc:f.bh=0:=by
  by_cases hc:f.bh=0
  ·exact hc
  ·rw [(aC.NQ hc).1] at h;exact h
 exact ⟨hc,agD hc h⟩
where
 agD {f:aC} {c:ar} (h:f.bh=0) (he:f.dh c=0):f.ek c=true:=by
  cases ao:f.ek c with
  | true=>rfl
  | false=>rw [(aC.FF h ao).1] at he;omega
theorem aky (h:f.dh a=0) (aa:f.dh b=0) (au:f.place a=1∨f.place b=1):fT f a b=9:=by unfold fT;rw [if_neg (by rw [h];simp),if_neg (by rw [aa];simp),if_pos au]
theorem akx (hf:f.bh=0) (ha:f.ground a=true) (Φ:f.ground b=true) (h:cp f a b b<0):fT f a b=6:=by
 unfold fT;rw [if_neg (by rw [(aC.kQ hf (aC.iD ha)).1];simp),if_neg (by rw [(aC.kQ hf (aC.iD Φ)).1];simp),if_neg (by rintro (γ | γ);exact aC.yS ha γ;exact aC.yS Φ γ),if_pos h]
theorem OZ (hf:f.bh=0) (ha:f.ground a=true) (Φ:f.ground b=true) (h:0≤cp f a b b):fT f a b=0:=by
 unfold fT;rw [if_neg (by rw [(aC.kQ hf (aC.iD ha)).1];simp),if_neg (by rw [(aC.kQ hf (aC.iD Φ)).1];simp),if_neg (by rintro (γ | γ);exact aC.yS ha γ;exact aC.yS Φ γ),if_neg (by omega)]
theorem OX (f:aC) (a b:ar):(f.dh a≠0∧fT f a b=f.dh a)∨(f.dh a=0∧f.dh b≠0∧fT f a b=f.dh b)∨(f.dh a=0∧f.dh b=0∧(f.place a=1∨f.place b=1)∧fT f a b=9)∨(f.bh=0∧f.ground a=true∧f.ground b=true∧((cp f a b b<0∧fT f a b=6)∨(0≤cp f a b b∧fT f a b=0))):=by
 by_cases γ:f.dh a=0
 ·by_cases aa:f.dh b=0
  ·obtain ⟨hc,G5⟩:=Jj γ;obtain ⟨_,QG⟩:=Jj aa;by_cases au:f.place a=1∨f.place b=1
   ·exact .inr (.inr (.inl ⟨γ,aa,au,aky γ aa au⟩))
   ·have ga:=aC.X3 G5 (λ h=>au (.inl h));have r8:=aC.X3 QG (λ h=>au (.inr h));refine .inr (.inr (.inr ⟨hc,ga,r8, ?_⟩));by_cases a1:cp f a b b<0
    ·exact .inl ⟨a1,akx hc ga r8 a1⟩
    ·exact .inr ⟨by omega,OZ hc ga r8 (by omega)⟩
  ·exact .inr (.inl ⟨γ,aa,akw γ aa⟩)
 ·exact .inl ⟨γ,akv γ⟩
end
end
section
open Go.RowKit
structure cS where
 id:Int
 bd:ar
 deriving DecidableEq,Inhabited
namespace cS
def cells (a:cS):List Value:= [.int .i64 (a.id), .int .i64 (a.bd.x), .int .i64 (a.bd.y)]
def ok (a:cS):Prop:=(Lit.int .i64 a.id).wf=true∧(Lit.int .i64 a.bd.x).wf=true∧(Lit.int .i64 a.bd.y).wf=true
def raw (j:Nat) (u:Value):Prop:=match j with
 | 0=>∃ n:Int,u= .int .i64 n
 | 1=>∃ n:Int,u= .int .i64 n
 | 2=>∃ n:Int,u= .int .i64 n
 | _=>True
theorem qY (a:cS):∀ (j:Nat) u,a.cells[j]? =some u→raw j u:=by
 intro j u hu
 match j,hu with
 | 0,hu=>exact ⟨_,(Option.some.inj hu).symm⟩
 | 1,hu=>exact ⟨_,(Option.some.inj hu).symm⟩
 | 2,hu=>exact ⟨_,(Option.some.inj hu).symm⟩
 | j+3,hu=>exact trivial
theorem qX (a:cS):∀ u∈a.cells,u.oneCell'=true:=by
 intro u hu;unfold cells at hu;simp only [List.mem_cons,List.not_mem_nil,or_false] at hu;rcases hu with rfl | rfl | rfl<;>rfl
def rep:κ cS:=κ.flat 3 cells ok raw (λ _=>rfl) qX qY
def zero:Value:= .agg #[.int .i64 0, .int .i64 0, .int .i64 0]
theorem lS:∀ (j:Nat) u,zero.cells[j]? =some u→rep.raw j u:=by
 intro j u hu;have hu:(#[(.int .i64 0:Value),(.int .i64 0:Value),(.int .i64 0:Value)]:Array Value)[j]? =some u:=hu
 match j,hu with
 | 0,hu=>exact ⟨_,(Option.some.inj hu).symm⟩
 | 1,hu=>exact ⟨_,(Option.some.inj hu).symm⟩
 | 2,hu=>exact ⟨_,(Option.some.inj hu).symm⟩
 | j+3,hu=>cases hu
theorem info:(prog.info? 225).map (λ i=>(i.zero,i.size,i.bytes))=some (some zero,3,24):=by kernel_rfl
def sh:fr:=(.cons (.int .i64) (.cons (.cons (.int .i64) (.cons (.int .i64) .nil)) .nil))
end cS
theorem YB {w:World} {cs:List Value} {a:cS} (h:cS.rep.has w cs a):cs=a.cells:=And.left (show cs=a.cells∧a.ok from h)
end
section
open Go.RowKit Go.Maps
namespace ar
def key (c:ar):Value:= .agg #[.int .i64 c.x, .int .i64 c.y]
theorem laid:laidOutB prog=true:=by kernel_rfl
theorem aoQ (x y:Int):(Value.agg #[.int .i64 x, .int .i64 y]).formed prog 49 =true:=by kernel_rfl
theorem aoT:prog.keyType 49 =true:=by kernel_rfl
theorem aoS:∃ n,prog.types.size+1=n+2:=by
 have:1≤prog.types.size:=by decide +kernel
 exact ⟨prog.types.size - 1,by omega⟩
theorem aoP:prog.cellsOf 49 =2∧prog.cellsOf 3 =1:=by
 constructor<;>kernel_rfl
theorem aoR (c:ar) (h:c.ok):∃ l,keyOf prog 49 (key c)=some l:=by
 obtain ⟨hx,aG⟩:=h;obtain ⟨n,hn⟩:=aoS;unfold key keyOf;have hu:=underlying49;rw [hu];simp only [aoT,aoQ,Bool.and_self,if_true,hn];have γ:prog.keyLits (n+2) 49 [.int .i64 c.x, .int .i64 c.y]=some [.int .i64 c.x, .int .i64 c.y]:=by
  simp [Program.keyLits,hu,underlying3,aoP,hx,aG]
 exact ⟨.string (keyBytes [.int .i64 c.x, .int .i64 c.y]),by
  have e:(Value.agg #[.int .i64 c.x, .int .i64 c.y]).cells.toList= [.int .i64 c.x, .int .i64 c.y]:=rfl;rw [e,γ];rfl⟩
theorem vD:Nl prog 49 key ok where
 keyed:=Keyed.of_law (Go.deep_law_laid laid (m:=100) (by decide) (by decide +kernel) (by kernel_rfl) (by kernel_rfl))
 lit:=aoR
 inj:=by
  intro a b h;unfold key at h;injection h with h
  obtain ⟨x,y⟩:=a;obtain ⟨z,t⟩:=b;simp at h;simp [h]
end ar
end
end Go.Proofs.YtlikikpgmmkjbaaGreat
