import Derived.Test.YtmeeljmapailnaaGreatGolR
set_option linter.unusedVariables false
set_option linter.unusedSimpArgs false
set_option maxRecDepth 100000
set_option maxHeartbeats 4000000
open Go.RowKit
namespace Go.Proofs.YtmeeljmapailnaaGreat
open Tryz
abbrev aTT:=@Or.elim
abbrev aUa:=@decide_eq_true_eq
abbrev aUe:=@List.length_replicate
abbrev aUj:=@decide_eq_false_iff_not
abbrev aUl:=@Bool.or_eq_false_iff
abbrev aUF:=@congrArg
abbrev aUL:=@List.filter_append
abbrev aUP:=@List.filter_cons
abbrev aU2:=@List.drop_eq_getElem_cons
abbrev aVg:=@List.range_succ
abbrev aVi:=@List.mem_filter
abbrev aVk:=@Nat.le_of_eq
abbrev aVt:=@List.mem_iff_getElem?
abbrev aVJ:=@List.set_cons_zero
abbrev aVK:=@List.set_cons_succ
abbrev aVQ:=@Bool.not_true
abbrev aVX:=@List.mem_of_mem_take
abbrev aWo:=@decide_false
abbrev aWr:=@Int.add_mul_emod_self_right
abbrev aWt:=@List.take_take
abbrev aWw:=@List.mem_of_find?_eq_some
abbrev aWA:=@decide_true
abbrev aWG:=@Bool.false_or
abbrev aWS:=@List.find?_some
abbrev aW7:=@Bool.not_false
abbrev aXc:=@List.filter_eq_self
abbrev aXh:=@Bool.or_false
abbrev aXw:=@Int.sub_self
abbrev aXx:=@Int.emod_eq_of_lt
abbrev aXy:=@Int.add_comm
abbrev aXz:=@Bool.true_or
abbrev aXA:=@Bool.or_true
abbrev aXX:=@Int.tdiv_eq_ediv_of_nonneg
abbrev aX8:=@List.set_eq_of_length_le
abbrev aX9:=@List.map_take
abbrev aYq:=@List.getElem_set_self
abbrev aYC:=@List.take_set_of_le
abbrev aYH:=@List.drop_set_of_lt
abbrev aYV:=@List.getElem_take
section
namespace aa
variable {α:Type} {R:aa α}
theorem aH.afo {E by_ B c:Nat} {A:Option Addr} {l:List α} {w:World} {ps:List (List Nat×List Value)} (hp:R.re) (dD:dm (λ x a=>R.own w B x.1 x.2 a) ps l):∀ y∈ps,y.1= []:=λ y aF=>by
 obtain ⟨b,γ⟩:=dD.left y aF;exact hp.2 γ
theorem awa {ps:List (List Nat×List Value)} (h:∀ y∈ps,y.1= []):(ps.map (·.1)).flatten= []:=by
 rw [aYe];intro x hx;obtain ⟨y,aF,rfl⟩:=aUh.1 hx;exact h y aF
theorem aH.cut {E by_ B c:Nat} {A:Option Addr} {l:List α} {w:World} (h:R.aH E by_ w B (aj A) A c l) (hp:R.re) (k:Nat) (au:k≤l.length):R.aH E by_ w B (aj A) A c (l.take k):=by
 obtain ⟨γ,ps,hf,hn,cc,dD⟩:=h;have aC:=R9 dD;have n_:ps.length=l.length:=dD.length;have τ:=aH.afo (E:=E) (by_:=by_) (c:=c) (A:=A) hp dD;have hlen:(l.take k).length=k:=by rw [aTD];omega
 have hm:=aUk by_ au;refine ⟨by rw [hlen];omega,ps.take k, ?_,hn, ?_,dD.NA k⟩
 ·rw [awa λ y aF=>τ y (aVX aF),aT6]
 ·rw [hlen,aX9,Qp k aC];obtain ⟨fB,Md⟩:=cc;have hle:k * R.size≤l.length * R.size:=aUk _ au;refine ⟨by rw [aTD,fB];omega, ?_⟩;rcases Md with ⟨Md,aOr⟩ | ⟨g,cap,cur,hv,bj,fI,Dv,rO,hs,aJ,bQ⟩
  ·injection Md with aY bb cP
   subst aY cP;have:k=0:=by omega
   subst this;exact .inl ⟨Z,Z⟩
  ·injection hv with aY bb cP
   subst aY cP;exact .inr ⟨g,c,cur,Z,bj,fI,by omega,rO,hs,by rw [← aJ,aWt,aUJ hle],bQ⟩
theorem Own.alr {base e size n g c:Nat} {G:Nat→Value→Prop} {xs:List Value}:∀ (zs:List Value) (o:Nat) (w:World),n * size≤o→Own w base e size G (.slice (some ⟨g,0,none⟩) n c) n xs→(∀ (j:Nat) u,zs[j]? =some u→G ((o+j) % size) u)→
  Own (w.setCells g o zs) base e size G (.slice (some ⟨g,0,none⟩) n c) n xs
 | [],_,_,_,h,_=>h
 | v::r,o,w,cc,h,bQ=>by
  rw [World.setCells];have τ:=h.stored o v (bQ 0 v rfl);rw [aX8 (by rw [h.1];exact cc)] at τ;refine Own.alr r (o+1) _ (by omega) τ λ j u hu=> ?_;have:=bQ (j+1) u hu
  rwa [show o+1+j=o+(j+1) from by omega]
theorem Mod.setCells (g:Nat):∀ (zs:List Value) (o:Nat) (w:World),Mod [g] w (w.setCells g o zs)
 | [],_,w=>Mod.bt (Ext.bg w)
 | v::r,o,w=>by
  rw [World.setCells];exact (Mod.setCell w ⟨g,o,none⟩ v).trans (Mod.setCells g r (o+1) _)
theorem aH.aFi {E by_ B c g:Nat} {l:List α} {w:World} (h:R.aH E by_ w B (aj (some ⟨g,0,none⟩)) (some ⟨g,0,none⟩) c l) (hp:R.re) (k:Nat) (au:k≤l.length) (zs:List Value) (bG:∀ (j:Nat) u,zs[j]? =some u→R.raw (j % R.size) u):
  R.aH E by_ (w.setCells g (k * R.size) zs) B (aj (some ⟨g,0,none⟩)) (some ⟨g,0,none⟩) c (l.take k):=by
 obtain ⟨γ,ps,hf,hn,cc,dD⟩:=h.cut hp k au;have τ:=aH.afo (E:=E) (by_:=by_) (c:=c) (A:=some ⟨g,0,none⟩) hp dD;have hlen:(l.take k).length=k:=by rw [aTD];omega
 refine ⟨γ,ps,hf,hn, ?_,dD.imp λ y a aF ID=>R.r_ ID λ q I=> ?_⟩
 ·refine Own.alr zs _ w (by rw [hlen];exact aTK _) cc λ j u hu=> ?_;rw [aUU,aV9];exact bG j u hu
 ·rw [τ y aF] at I;simp at I
end aa
section
variable {P:Program} {n:Nat} {E cO:List (Nat×Value)} {a:Act} {w w' w0 aS:World} {Q:Exit→Act→World→Prop} {ops:Array Oper} {v:Value}
variable {d:Option Nat} {ty:TypeId} {pos:String} {af:Array Edge} {g:Option (Nat×Bool)} {x y z:Operand} {t:TypeId} {rest:List Oper}
theorem aI7 {zs:Array Value} {m j:Nat} {u:Value} (hu:(Builtin.zeroCells zs m).toList[j]? =some u):∃ i:Nat,i=j % zs.size∧(0<zs.size→zs[i]? =some u):=by
 rw [aUI] at hu;obtain ⟨h,hv⟩:=aUd.1 hu;simp only [Builtin.zeroCells,Array.getElem_map,Array.getElem_range] at hv;refine ⟨_,Z,λ aK=> ?_⟩;have hr:j % zs.size<zs.size:=aVI _ aK;rw [aV2 hr,← hv];rw [aYf zs (j % zs.size) hr]
theorem ZX {A:Option Addr} {len cap e s:Nat} {k:IntKind} (lo:Nat) {i:Int} (aJ:P.underlying t=some (.slice e)) (hs:eK P e s) (hx:ev E x=some (.slice A len cap)) (aF:ev E y=some (.int k i)) (ar:i=(lo:Int)) (τ:lo≤len):
  cQ P E ⟨d, .slice t x (some y) none none,ty,pos,af,g⟩ w (.slice (eB A cap lo s) (len - lo) (cap - lo)) w:=λ n a ha=>by
 subst ar;have gR:P.underlying t=some (.slice (P.elem t)):=by simp [Program.elem,aJ]
 have ia:P.elem t=e:=by simp [Program.elem,aJ]
 have aw:=run_slice_l (P:=P) (w:=w) t A len cap gR k (lo:Int) (by omega) (by omega);have aU:=aWj (P:=P) (w:=w) t (.slice A len cap) (some (.int k (lo:Int))) none none gR;rw [ia,hs w] at aw;simp only [execOp,ha.ev hx,ha.ev aF,Option.map,aU,aw,aTQ,aTJ,aTV,sliced,aUx,eB]
theorem aGT {op:Op} (hr:cQ P E ⟨none,op,ty,pos,af,none⟩ w v w') (h:cy P n ops Q rest E w'):cy P n ops Q (⟨none,op,ty,pos,af,none⟩::rest) E w:=λ a ha=>by
 refine EV Z ?_;unfold Oper.wp;rw [hr n a ha];exact h _ ha
theorem aEG {α:Type} {R:aa α} {e by_ B c k q g m:Nat} {l:List α} {z:Value} (aJ:P.underlying t=some (.slice e)) (ar:(P.info? e).map (λ i=>(i.zero,i.size,i.bytes))=some (some z,m,by_)) (hm:R.size=m) (aK:0<m) (bG:z.cells.size=m) (mf:z.cells.toList.all (·.oneCell')=true)
  (hr:∀ (j:Nat) u,z.cells[j]? =some u→R.raw j u) (h:R.aH e by_ w B (aa.aj (some ⟨g,0,none⟩)) (some ⟨g,0,none⟩) c l) (hR:R.re) (au:k≤l.length) (I:0<q) (zD:k+q≤c):
  ∃ aS,Mod [g] w aS∧R.aH e by_ aS B (aa.aj (some ⟨g,0,none⟩)) (some ⟨g,0,none⟩) c (l.take k)∧(Builtin.clear_ #[t] ty #[.slice (some ⟨g,k * m,none⟩) q (c - k)]).run P w= .ok (.tuple #[]) aS:=by
 subst hm;have hlen:(Builtin.zeroCells z.cells q).toList.length=q * R.size:=by rw [aVB];simp [Builtin.zeroCells,bG]
 obtain ⟨hle,ps,hf,hn,cc,dD⟩:=id h;have dE:∀ j,j<q * R.size→k * R.size+j<c * R.size:=λ j aA=>by
  have aY:k * R.size+q * R.size=(k+q) * R.size:=by rw [← aU9]
  have bb:=aUk R.size zD;omega
 have ahM:∀ (j:Nat) u,(Builtin.zeroCells z.cells q).toList[j]? =some u→u.oneCell'=true∧R.raw (j % R.size) u:=λ j u hu=>by
  obtain ⟨i,ar,aM⟩:=aI7 hu;have aM:=aM (by omega);rw [bG] at ar;subst ar;refine ⟨?_,hr _ u aM⟩;have:=aUp.1 mf u (by rw [aYz];exact aYt aM);exact this
 have hY:=run_storeCells_cells (P:=P) g (k * R.size) (Builtin.zeroCells z.cells q).toList 0 w (λ j aA=>by
   rw [hlen] at aA;obtain ⟨u,hu,_⟩:=cc.some_ (k * R.size+0+j) (dE j aA);rw [hu];rfl) (λ j _=>cc.free _) (λ v hv=>by
   obtain ⟨j,aA⟩:=aVt.1 hv;exact (ahM j v aA).1)
 rw [Nat.add_zero] at hY;refine ⟨_,aa.Mod.setCells g _ _ w,h.aFi hR k (by omega) _ (λ j u hu=>(ahM j u hu).2), ?_⟩;have azQ:∀ w,(zeroValue e).run P w= .ok z w:=λ w=>by
  cases I:P.info? e with
  | none=>rw [I] at ar;cases ar
  | some i =>
   rw [I] at ar;simp only [aU6,aWg,aXf] at ar;simp [zeroValue,typeInfo,I,ar.1]
 obtain ⟨p,rfl⟩:∃ p,q=p+1:=⟨q - 1,by omega⟩;simp [Builtin.clear_,aUQ aJ,azQ,hY]
theorem vl {α:Type} {R:aa α} {e by_ B c k q m:Nat} {A:Option Addr} {l:List α} {z:Value} (aJ:P.underlying t=some (.slice e)) (ar:(P.info? e).map (λ i=>(i.zero,i.size,i.bytes))=some (some z,m,by_)) (hm:R.size=m) (aK:0<m) (bG:z.cells.size=m) (mf:z.cells.toList.all (·.oneCell')=true)
  (hr:∀ (j:Nat) u,z.cells[j]? =some u→R.raw j u) (h:R.aH e by_ w B (aa.aj A) A c l) (hR:R.re) (au:k≤l.length) (I:0<q) (zD:k+q≤c) (hA:∃ b,A=some ⟨b,0,none⟩) (hx:ev E x=some (.slice (eB A c k m) q (c - k)))
  (hK:∀ aS,Mod (aa.aj A) w aS→R.aH e by_ aS B (aa.aj A) A c (l.take k)→cy P n ops Q rest E aS):
  cy P n ops Q (⟨none, .call {callee:= .builtin .clear,args:=#[x],argTypes:=#[t]},ty,pos,af,none⟩::rest) E w:=by
 obtain ⟨b,rfl⟩:=hA;obtain ⟨aS,FH,hS,kQ⟩:=aEG (ty:=ty) aJ ar hm aK bG mf hr h hR au I zD;have azq:eB (some ⟨b,0,none⟩) c k m=some ⟨b,k * m,none⟩:=by
  unfold eB;rw [aTL (by omega)];simp [Addr.add];try omega
 rw [azq] at hx;refine aGT (v:= .tuple #[]) (w':=aS) (bi (vs:= [.slice (some ⟨b,k * m,none⟩) q (c - k)]) (by simp only [gX,hx]) λ cs=> ?_) (hK aS FH hS);simp only [builtin,aTQ,kQ,aTJ,aTV]
theorem aAf {k:IntKind} {i j:Int} (aK:0≤i) (τ:0<j) (hw:k.wrap (i / j)=i / j):Op.intDiv .quo k i j=pure (.int k (i / j)):=by
 unfold Op.intDiv;have e:i.tdiv j=i / j:=aXX aK;rw [aTL (by omega)];simp only [e,hw]
theorem aAg {k:IntKind} {i j:Int} (aK:0≤i) (τ:0<j):Op.intDiv .rem k i j=pure (.int k (i % j)):=by
 unfold Op.intDiv;have e:i.tmod j=i % j:=Int.tmod_eq_emod_of_nonneg aK;rw [aTL (by omega)];simp only [e]
section
variable {k:IntKind} {i j:Int} {u:TypeId}
theorem arb (hx:ev E x=some (.int k i)) (aF:ev E y=some (.int k j)) (aK:0≤i) (τ:0<j) (hw:k.wrap (i / j)=i / j):cQ P E ⟨d, .binOp .quo t x y u,ty,pos,af,g⟩ w (.int k (i / j)) w:=oq hx aF (binOp_quo t k i j) (by rw [aAf aK τ hw];rfl)
theorem ard (hx:ev E x=some (.int k i)) (aF:ev E y=some (.int k j)) (aK:0≤i) (τ:0<j):cQ P E ⟨d, .binOp .rem t x y u,ty,pos,af,g⟩ w (.int k (i % j)) w:=oq hx aF (binOp_rem t k i j) (by rw [aAg aK τ];rfl)
theorem aD5 {i j:Int} (aK:0≤i) (τ:0<j) (ae:i≤9223372036854775807):IntKind.i64.wrap (i / j)=i / j:=by
 have aY:0≤i / j:=Int.ediv_nonneg aK (by omega);have bb:i / j≤i:=Int.ediv_le_self _ aK;exact bf ⟨by omega,by omega⟩
end
end
end
section
section
variable {α:Type} {p:α→Bool} {l L:List α} {d:α} {i j k:Nat}
theorem gP (h:k<l.length):l.getD k d∈l:=by rw [aTB,aTF h];exact aUV h
theorem mO (h:k<l.length):l.getD k d=l[k]:=by rw [aTB,aTF h];rfl
theorem Mk (h:∀ i,i<l.length→p (l.getD i d)=false):fP p l= -1:=FN λ j aA=>by rw [← mO (d:=d) aA];exact h j aA
theorem Ml (au:k<l.length) (τ:p (l.getD k d)=true) (h:∀ i,i<k→p (l.getD i d)=false):fP p l=(k:Int):=
 FO au (by rw [← mO (d:=d) au];exact τ) λ j aA=>by rw [← mO (d:=d) (by omega:j<l.length)];exact h j aA
theorem wg (h:k<l.length):l.take (k+1)=l.take k++ [l.getD k d]:=by rw [aT5 h,mO h]
theorem az5 (h:fP p l= -1):(l.filter λ x=> !p x)=l:=by
 rcases Mj p l with ⟨_,hn⟩ | ⟨k,au,e,_⟩
 ·exact aXc.2 λ x hx=>by rw [hn x hx];rfl
 ·omega
theorem az3 (h:¬ fP p l= -1):∃ k,k<l.length∧fP p l=(k:Int)∧l.take k=(l.take (k+1)).filter λ x=> !p x:=by
 rcases Mj p l with ⟨e,_⟩ | ⟨k,au,e,hp,hn⟩
 ·exact absurd e h
 ·refine ⟨k,au,e, ?_⟩;rw [wg (d:=l[k]) au,aUL,mO au,aUP,hp];simp only [aVQ,aUm,aU5,List.filter_nil,aT6];refine (aXc.2 λ x hx=> ?_).symm;obtain ⟨j,aA,rfl⟩:=aUB.1 hx;rw [aTD] at aA;rw [aYV,hn j (by omega)];rfl
theorem aFZ (du:j<L.length) (aA:j<l.length) (h:L.drop j=l.drop j):L[j]? =some (l.getD j d):=by
 rw [mO aA,aTF du];have:=aUF List.head? h;simp only [List.head?_drop,aTF du,aTF aA] at this;exact this
theorem aeu (h:L.drop j=l.drop j):L.drop (j+1)=l.drop (j+1):=by
 have:=aUF (List.drop 1) h
 rwa [aUZ,aUZ] at this
theorem as5 {x:α} (ar:i<j) (h:L.drop j=l.drop j):(L.set i x).drop (j+1)=l.drop (j+1):=by
 rw [aYH (by omega)];exact aeu h
theorem as3 (aA:j<l.length) (h:L.take i=(l.take j).filter λ x=> !p x) (hp:(!p (l.getD j d))=false):L.take i=(l.take (j+1)).filter λ x=> !p x:=by
 rw [wg (d:=d) aA,aUL,← h,aUP,hp];simp
theorem as4 (du:L.length=l.length) (ar:i<j) (aA:j<l.length) (h:L.take i=(l.take j).filter λ x=> !p x) (hp:(!p (l.getD j d))=true):(L.set i (l.getD j d)).take (i+1)=(l.take (j+1)).filter λ x=> !p x:=by
 rw [wg (d:=d) aA,aUL,← h,aUP,hp];simp only [aVo,List.filter_nil];rw [aT5 (by rw [aTH];omega),aYC (by omega),aYq]
end
end
section
theorem OU:fi prog az.rep 25 55 16:=fi.lH (z:=az.zero) (k:=2) underlying25 az.info rfl rfl (by decide) az.ix
def jw (n:Int):Int:=if n<0 then -1 else if 0<n then 1 else 0
def cE (n:Int):Int:=if n<0 then -n else if 0<n then n else 0
theorem jy (n:Int):0≤cE n∧(-2000≤n∧n≤2000→cE n≤2000)∧(0≤n→cE n=n)∧(n<0→cE n= -n):=by unfold cE;split<;>(try split)<;>omega
theorem Ji (n:Int): -1≤jw n∧jw n≤1:=by unfold jw;split<;>(try split)<;>omega
def a_ (a b:az):Int:=max (cE (b.x - a.x)) (cE (b.y - a.y))
def vW (a b:az):Int:=min (cE (b.x - a.x)) (cE (b.y - a.y))
def p5 (a b:az) (s:Int×az):Int×az :=
  (if decide (a_ a b≤s.1+2 * vW a b) then s.1+2 * vW a b - 2 * a_ a b else s.1+2 * vW a b,
   ⟨if !decide (cE (b.x - a.x)<cE (b.y - a.y)) || decide (a_ a b≤s.1+2 * vW a b) then s.2.x+jw (b.x - a.x) else s.2.x,
    if decide (cE (b.x - a.x)<cE (b.y - a.y)) || decide (a_ a b≤s.1+2 * vW a b) then s.2.y+jw (b.y - a.y) else s.2.y⟩)
def dB (a b:az):Nat→Int×az
  | 0=>(0,a)
  | k+1=>p5 a b (dB a b k)
def s7 (a b:az) (k:Nat):List az:=(List.range (k+1)).map λ i=>(dB a b i).2
def hP (a b:az):List az:=s7 a b (a_ a b).toNat
theorem Sc (a b:az) (k:Nat):s7 a b (k+1)=s7 a b k++ [(dB a b (k+1)).2]:=by unfold s7;rw [aVg,aT8];rfl
theorem Ge (a b:az) (k:Nat):(s7 a b k).length=k+1:=by simp [s7]
theorem avE (a b:az):0≤vW a b∧vW a b≤a_ a b:=by
  have τ:=jy (b.x - a.x);have ae:=jy (b.y - a.y);unfold vW a_;omega
theorem ajN (a b:az) (k:Nat): -a_ a b≤(dB a b k).1∧(dB a b k).1≤a_ a b:=by
  have hf:=avE a b;induction k with
  | zero=>show -a_ a b≤0∧0≤a_ a b;omega
  | succ k bK =>
    show -a_ a b≤(p5 a b (dB a b k)).1∧(p5 a b (dB a b k)).1≤a_ a b;unfold p5;simp only [aUa];split<;>omega
theorem ajO (a b:az) (k:Nat):a.x - k≤(dB a b k).2.x∧(dB a b k).2.x≤a.x+k∧a.y - k≤(dB a b k).2.y∧(dB a b k).2.y≤a.y+k:=by
  have τ:=Ji (b.x - a.x);have ae:=Ji (b.y - a.y);induction k with
  | zero=>show a.x - _≤a.x∧a.x≤a.x+_∧a.y - _≤a.y∧a.y≤a.y+_;omega
  | succ k bK =>
    show a.x - _≤(p5 a b (dB a b k)).2.x∧(p5 a b (dB a b k)).2.x≤a.x+_∧a.y - _≤(p5 a b (dB a b k)).2.y∧(p5 a b (dB a b k)).2.y≤a.y+_;unfold p5;simp only;split<;>split<;>omega
theorem R1 (c:az) (w:World) (h: -1000≤c.x∧c.x≤1000∧ -1000≤c.y∧c.y≤1000):
    Calls prog 165 #[.agg #[J c.x,J c.y]] w (λ e w'=>e= .returned (.bool true)∧Ext w w'):=by
  refine b' (n:=23) func165 Z Z Z ?_;refine ah<|ck Z Z Z Z λ cK bR bq dU ai=> ?_;have ba:=ab (Ext.bg w) bq;refine va Z<|ag<|ah<|Φ (av jb Z)<|Φ (ao Z (ai.one a6 Z))<|Φ (av jb Z)<|Φ (ao Z (ai.one a6 Z))<|Φ (Y9 Z (bf (by omega)))<|Φ (av jd Z)<|Φ (ao Z (ai.one a6 Z))<|Φ (av jd Z)<|Φ (ao Z (ai.one a6 Z))<|Φ (Y9 Z (bf (by omega)))<|Φ (aBv Z Z Z Z)<|Φ (ble Z Z)<|vm Z<|bh Z (λ hc=>av jb Z)<|bh Z (λ hc=>ao (gt hc Z) (ai.one a6 Z))<|bh Z (λ hc=>av jd Z)<|bh Z (λ hc=>ao (gt hc Z) (ai.one a6 Z))<|bh Z (λ hc=>mY (gt hc Z) (gt hc Z))<|bh Z (λ hc=>j_ (gt hc Z) Z)<| ?_;refine Φ (dv Z Z Z Z)<|va Z<|ag<|rt<|aV (.tmp Z .nil)<| ?_;exact ⟨ak8 (by simp only [aTM,aUa];omega),ba⟩
theorem Sz (n:Int) (w:World) (h: -2000≤n∧n≤2000):
    Calls prog 166 #[J n] w (λ e w'=>e= .returned (.tuple #[J (jw n),J (cE n)])∧Ext w w'):=by
  refine b' (n:=13) func166 Z Z Z ?_;refine ah<|va Z<|va Z<|ag<|ay<|bu<|ah<|vm Z<|Φ (blt Z Z)<|va Z<|ag<| ?_;refine df Z (λ gA=> ?_) (λ gA=> ?_)
  · refine ah<|vm rfl<|Φ (Y9 rfl (bf (by omega)))<|va rfl<|va rfl<|ag<|rt<|dV<|bP<|aV (.tmp rfl (.tmp rfl .nil))<| ?_
    exact ⟨by unfold jw cE;simp only [*,aVo,aU5];try rfl,(Ext.bg w)⟩
  · refine ah<|vm rfl<|Φ (hM rfl rfl)<|va rfl<|ag<| ?_
    refine df Z (λ aw7=> ?_) (λ aw7=> ?_)
    · refine ah<|vm rfl<|va rfl<|va rfl<|ag<|rt<|dV<|bP<|aV (.tmp rfl (.tmp rfl .nil))<| ?_
      exact ⟨by unfold jw cE;simp only [*,aVo,aU5];try rfl,(Ext.bg w)⟩
    · refine ei<|bU<|aP<|ah<|va rfl<|va rfl<|ag<|rt<|aV (.tmp rfl (.tmp rfl .nil))<| ?_
      exact ⟨by unfold jw cE;simp only [*,aVo,aU5];try rfl,(Ext.bg w)⟩
theorem acD (a b:az) (w:World) (h: -1000≤a.x∧a.x≤1000∧ -1000≤a.y∧a.y≤1000) (ae: -1000≤b.x∧b.x≤1000∧ -1000≤b.y∧b.y≤1000):
    Calls prog 134 #[.agg #[J a.x,J a.y], .agg #[J b.x,J b.y]] w (λ e w'=>e= .returned (.tuple #[J (a_ a b),J (cE (b.x - a.x)+cE (b.y - a.y)),J 0])∧Ext w w'):=by
  refine b' (n:=43) func134 Z Z Z ?_;refine ah<|ck Z Z Z Z λ cK bR bq dU ai=> ?_;have ba:=ab (Ext.bg w) bq;refine ck Z Z Z Z λ ea cC br gO ax=> ?_;have bE:=ab ba br;refine va Z<|va Z<|va Z<|ag<|ay<|ah<| ?_;have ai:=ai.later br;refine Φ (ao Z (ai.all cv b2))<|ca Qd Z Z ((R1 a _ (by omega)).mono ?_);rintro e gJ ⟨rfl,eI⟩;refine ⟨_,Z, ?_⟩;have cJ:=ab bE eI;refine Φ (ek Z)<|vm Z<|lZ Z Z Z<| ?_;have ax:=ax.later eI;refine Φ (ao Z (ax.all cv b2))<|lZ Z Z Z<|ca Qd Z Z ((R1 b _ (by omega)).mono ?_);rintro e ow ⟨rfl,gD⟩;refine ⟨_,Z, ?_⟩;have fD:=ab cJ gD;refine lZ Z Z Z<|Φ (ek Z)<|Φ (s6 Z Z)<|ag<|hj Z<|bl<|ah<|Φ (av jb Z)<| ?_;have ax:=ax.later gD;refine Φ (ao Z (ax.one a6 Z))<|Φ (av jb Z)<| ?_;have ai:=ai.later (ab eI gD);refine Φ (ao Z (ai.one a6 Z))<|Φ (gh Z Z (bf (by have:=jy (b.x - a.x);have:=jy (b.y - a.y);omega)))<|ca Qf Z Z ((Sz (b.x - a.x) _ (by omega)).mono ?_);rintro e wm ⟨rfl,jk⟩;refine ⟨_,Z, ?_⟩;have jB:=ab fD jk;refine vm Z<|Φ (ex Z Z)<|Φ (ex Z Z)<|va Z<|va Z<|ag<|ah<|Φ (av jd Z)<| ?_;have ax:=ax.later jk;refine Φ (ao Z (ax.one a6 Z))<|Φ (av jd Z)<| ?_;have ai:=ai.later jk;refine Φ (ao Z (ai.one a6 Z))<|Φ (gh Z Z (bf (by have:=jy (b.x - a.x);have:=jy (b.y - a.y);omega)))<|ca Qf Z Z ((Sz (b.y - a.y) _ (by omega)).mono ?_);rintro e q2 ⟨rfl,gS⟩;refine ⟨_,Z, ?_⟩;have iM:=ab jB gS;refine vm Z<|Φ (ex Z Z)<|Φ (ex Z Z)<|va Z<|va Z<|ag<|ah<|vm Z<|vm Z<|Φ (mx Z Z)<|vm Z<|vm Z<|Φ (bad Z Z (bf (by have:=jy (b.x - a.x);have:=jy (b.y - a.y);omega)))<|va Z<|va Z<|va Z<|ag<|rt<|aV (.tmp Z (.tmp Z (.tmp Z .nil)))<| ?_;exact ⟨Z,iM⟩
theorem asc (a b:az) (w:World) (h: -1000≤a.x∧a.x≤1000∧ -1000≤a.y∧a.y≤1000) (ae: -1000≤b.x∧b.x≤1000∧ -1000≤b.y∧b.y≤1000):
    Calls prog 182 #[.agg #[J a.x,J a.y], .agg #[J b.x,J b.y]] w (λ e w'=>∃ A c,e= .returned (.tuple #[.slice A (hP a b).length c,J 0])∧az.rep.aH 55 16 w' w.heap.size (aa.aj A) A c (hP a b)∧Ext w w'):=by
  refine b' (n:=93) func182 Z Z Z ?_;refine ah<|ck Z Z Z Z λ cK bR bq dU ai=> ?_;have ba:=ab (Ext.bg w) bq;have ib:=ai.lt;refine ck Z Z Z Z λ ea cC br gO ax=> ?_;have bE:=ab ba br;have mi:=ax.lt;refine va Z<|va Z<|ag<|ay<|ah<| ?_;have ai:=ai.later br;refine Φ (ao Z (ai.all cv b2))<|ca Qd Z Z ((R1 a _ (by omega)).mono ?_);rintro e gJ ⟨rfl,eI⟩;refine ⟨_,Z, ?_⟩;have:=eI.size;have cJ:=ab bE eI;refine Φ (ek Z)<|vm Z<|lZ Z Z Z<| ?_;have ax:=ax.later eI;refine Φ (ao Z (ax.all cv b2))<|lZ Z Z Z<|ca Qd Z Z ((R1 b _ (by omega)).mono ?_);rintro e ow ⟨rfl,gD⟩;refine ⟨_,Z, ?_⟩;have:=gD.size;have fD:=ab cJ gD;refine lZ Z Z Z<|Φ (ek Z)<|Φ (s6 Z Z)<|ag<|hj Z<|bl<|ah<|Φ (av jb Z)<| ?_;have ax:=ax.later gD;refine Φ (ao Z (ax.one a6 Z))<|Φ (av jb Z)<| ?_;have ai:=ai.later (ab eI gD);refine Φ (ao Z (ai.one a6 Z))<|Φ (gh Z Z (bf (by omega)))<|ca Qf Z Z ((Sz (b.x - a.x) _ (by omega)).mono ?_);rintro e wm ⟨rfl,jk⟩;refine ⟨_,Z, ?_⟩;have:=jk.size;have jB:=ab fD jk;refine vm Z<|Φ (ex Z Z)<|Φ (ex Z Z)<|va Z<|va Z<|ag<|ah<|Φ (av jd Z)<| ?_;have ax:=ax.later jk;refine Φ (ao Z (ax.one a6 Z))<|Φ (av jd Z)<| ?_;have ai:=ai.later jk;refine Φ (ao Z (ai.one a6 Z))<|Φ (gh Z Z (bf (by omega)))<|ca Qf Z Z ((Sz (b.y - a.y) _ (by omega)).mono ?_);rintro e q2 ⟨rfl,gS⟩;refine ⟨_,Z, ?_⟩;have:=gS.size;have iM:=ab jB gS;refine vm Z<|Φ (ex Z Z)<|Φ (ex Z Z)<|va Z<|va Z<|ag<|ah<|vm Z<|vm Z<|va Z<|va Z<|ag<|ay<|ah<|vm Z<|vm Z<|Φ (hM Z Z)<|ag<| ?_;refine df Z (λ Df=> ?_) (λ Df=> ?_)
  · have lD:=jy (b.x - a.x)
    have kO:=jy (b.y - a.y);have jf:a_ a b=cE (b.y - a.y):=by unfold a_;omega
    have LX:vW a b=cE (b.x - a.x):=by unfold vW;omega
    have LI:decide (cE (b.x - a.x)<cE (b.y - a.y))=true:=by exact aT3 Df
    refine rg<|vm Z<|vm Z<|va Z<|va Z<|ag<|ah<| ?_;have ai:=ai.later gS;refine Φ (ao Z (ai.all cv b2))<|cu (e:= 55) (cs:= [J a.x,J a.y]) Z (λ _=>by kernel_rfl) Z λ Ah U9 fx aPi an6=> ?_;have kG:=ab iM fx;refine va Z<|ag<|ah<|va Z<|ag<|ay<|ah<|vm Z<|vm Z<|ag<|bu<| ?_;have ai:=ai.later fx;have aBa:∀ q∈aa.aj (some ⟨U9,0,none⟩),U9≤q:=λ q I=>aVk (aTz.1 I).symm;refine dx (λ bZ bS aL=>∃ k:Nat,∃ j6:Option Addr,∃ co:Nat,bS= [(2, .pointer (some ⟨bR,0,none⟩)),(4, .slice none 0 0),(5,J 0),(6,J (jw (b.x - a.x))),(7,J (cE (b.x - a.x))),(8,J (jw (b.y - a.y))),(9,J (cE (b.y - a.y))),(10,J (cE (b.y - a.y))),(11,J (cE (b.x - a.x))),(12, .slice j6 ((s7 a b k).length) co),(13,J ((dB a b k).1)),(50,J (cE (b.y - a.y))),(51,J (k:Int))]∧bZ=(cE (b.y - a.y)).toNat - k∧Ext w aL∧aR aL bR [J ((dB a b k).2.x),J ((dB a b k).2.y)] 55 (0,0)∧az.rep.aH 55 16 aL w.heap.size (aa.aj j6) j6 co (s7 a b k)∧((k:Int)≤cE (b.y - a.y))∧(∀ q∈aa.aj j6,q=bR→False)) _ _ ⟨0,some ⟨U9,0,none⟩,1,Z,Z,kG,ai,(aR.vZ (R:=az.rep) (by_:=16) (B:=w.heap.size) (k:= [a]) an6 [[J a.x,J a.y]] Z ⟨⟨Z,bY.2 (by omega),bY.2 (by omega)⟩,trivial⟩ (by simp) (by simp) (by decide) (by omega)),(by have:=jy (b.y - a.y);have:=jy (b.x - a.x);omega),(λ q I γ=>by (have:=aBa q I;omega))⟩ (.cons Z (.cons Z (.cons Z (.cons Z (.cons Z (.cons Z (.cons Z (.cons Z (.cons Z (.cons Z (.cons (bH Z) (.cons Z (.cons (bH Z) .nil))))))))))))) ?_;rintro zM aoj sk ⟨k,j6,co,rfl,rfl,jQ,hH,ih,au,A6⟩;have aDY:=hH.lt;have γ:=ajN a b k;have hp:=ajO a b k;have ft:=Ji (b.x - a.x);have gM:=Ji (b.y - a.y);have lD:=jy (b.x - a.x);have kO:=jy (b.y - a.y);have n_:=Ge a b k;refine ah<|Φ (blt Z Z)<|ag<|ay<| ?_;refine df Z (λ axb=> ?_) (λ axb=> ?_)
    · refine bl<|ay<|bu<|ah<|vm rfl<|vm rfl<|Φ (w_ rfl rfl (bf (by omega)))<|Φ (bad rfl rfl (bf (by omega)))<|va rfl<|ag<|ah<|vm rfl<|vm rfl<|Φ (j_ rfl rfl)<|va rfl<|ag<|ay<|ah<| ?_
      refine vm Z<|ag<| ?_;refine CZ Z (λ Fq=> ?_) (λ Fq=> ?_)
      · rw [jf] at γ
        have Fs:decide (cE (b.y - a.y)≤((dB a b k).1)+(2 * (cE (b.x - a.x))))=true:=by exact aT3 Fq
        refine rg<|vm Z<|vm Z<|Φ (w_ Z Z (bf (by omega)))<|Φ (gh Z Z (bf (by omega)))<|va Z<|ag<|ay<|ah<|vm Z<|vm Z<|Φ (j_ Z Z)<|vm Z<|eN Z Z<|Φ (fC Z Z Z Z)<|ag<| ?_;have Xl:((decide (cE (b.y - a.y)≤cE (b.x - a.x))) || (decide (cE (b.y - a.y)≤((dB a b k).1)+(2 * (cE (b.x - a.x))))))=true:=by simp only [aUr,aUa];omega
        refine fH (by rw [← Xl];rfl)<|rg<|Φ (av jb Z)<|Φ (ao Z (hH.one a6 Z))<|vm Z<|Φ (bad Z Z (bf (by omega)))<|Φ (av jb Z)<|fb Z Z hH Z dI Z Z λ S_ kU hH=> ?_;have:=kU.size;have uH:=Ext.mod jQ kU bC;refine ag<|ay<|ah<|vm Z<|vm Z<|Φ (hM Z Z)<|vm Z<|eN Z Z<|Φ (fC Z Z Z Z)<|ag<| ?_;have Bo:((decide (cE (b.x - a.x)<cE (b.y - a.y))) || (decide (cE (b.y - a.y)≤((dB a b k).1)+(2 * (cE (b.x - a.x))))))=true:=by simp only [aUr,aUa];omega
        refine fH (by rw [← Bo];rfl)<|rg<|Φ (av jd Z)<|Φ (ao Z (hH.one a6 Z))<|vm Z<|Φ (bad Z Z (bf (by omega)))<|Φ (av jd Z)<|fb Z Z hH Z dI Z Z λ NL zO hH=> ?_;have:=zO.size;have yz:=Ext.mod uH zO bC;refine ag<|rg<|vm Z<|Φ (ao Z (hH.all cv b2))<|cu (e:= 55) (cs:= [J (((dB a b k).2.x)+(jw (b.x - a.x))),J (((dB a b k).2.y)+(jw (b.y - a.y)))]) Z (λ _=>by kernel_rfl) Z λ aHx aLp tx aPs abD=> ?_;have TE:=ab yz tx;have aD0:=abD.lt;have ih:=((ih.mod kU (λ q I h=>by have γ:=aTz.1 h;exfalso;(exact A6 q I γ))).mod zO (λ q I h=>by have γ:=aTz.1 h;exfalso;(exact A6 q I γ))).later tx;refine ap OU aa.dj ih (aR.gY (R:=az.rep) (by_:=16) (q:=(⟨((dB a b k).2.x)+(jw (b.x - a.x)),((dB a b k).2.y)+(jw (b.y - a.y))⟩:az)) abD ⟨Z,⟨bY.2 (by (try dsimp only);omega),bY.2 (by (try dsimp only);omega)⟩⟩ (by decide)) Z Z (by simp only [aTI,aTN];omega) (by simp only [aTI,aTN];omega) TE.size Z λ JC anT arU uw apO awf aQA=> ?_;have sy:=Ext.mod TE uw (λ q I=>(ih.lt q I).1);refine va Z<|nl<|bU<|aP<|rg<|Φ (bad Z Z (bf (by omega)))<|vm Z<|nl<| ?_;have aY:dB a b (k+1)=((((dB a b k).1)+(2 * (cE (b.x - a.x)))) - (2 * (cE (b.y - a.y))),⟨((dB a b k).2.x)+(jw (b.x - a.x)),((dB a b k).2.y)+(jw (b.y - a.y))⟩):=by
          show p5 a b (dB a b k)=_;unfold p5;simp only [jf,LX,LI,Fs,aVo,aU5,aXA,aXz,aXh,aWG,aUm,aWA,aWo,aVQ,aW7]
        have bb:=Sc a b k;rw [aY] at bb;have cP:(s7 a b (k+1)).length=k+2:=Ge a b (k+1);have hH:=(hH.later tx).mod uw (λ I=>A6 _ I rfl);exact cD _ _ ⟨k+1,anT,arU,Z,Z,sy,(by rw [aY];exact hH),(by rw [bb];exact apO),by omega,(λ q I γ=>by (exact aTT (awf q I) (λ ai0=>by (exact A6 q ai0 γ)) (λ ai0=>by omega)))⟩ (by omega) (.cons Z (.cons Z (.cons Z (.cons Z (.cons Z (.cons Z (.cons Z (.cons Z (.cons Z (.cons (by rw [bb];rfl) (.cons (FR Z (by rw [aY])) (.cons Z (.cons (bH Z) .nil)))))))))))))
      · rw [jf] at γ
        have Fs:decide (cE (b.y - a.y)≤((dB a b k).1)+(2 * (cE (b.x - a.x))))=false:=by exact aT4 Fq
        refine bl<|ay<|ah<|vm Z<|vm Z<|Φ (j_ Z Z)<|vm Z<|eN Z Z<|Φ (fC Z Z Z Z)<|ag<| ?_;have axk:((decide (cE (b.y - a.y)≤cE (b.x - a.x))) || (decide (cE (b.y - a.y)≤((dB a b k).1)+(2 * (cE (b.x - a.x))))))=false:=by simp only [aUl,aUj];omega
        refine hj (by rw [← axk];rfl)<|bl<|ay<|ah<|vm Z<|vm Z<|Φ (hM Z Z)<|vm Z<|eN Z Z<|Φ (fC Z Z Z Z)<|ag<| ?_;have Xo:((decide (cE (b.x - a.x)<cE (b.y - a.y))) || (decide (cE (b.y - a.y)≤((dB a b k).1)+(2 * (cE (b.x - a.x))))))=true:=by simp only [aUr,aUa];omega
        refine fH (by rw [← Xo];rfl)<|rg<|Φ (av jd Z)<|Φ (ao Z (hH.one a6 Z))<|vm Z<|Φ (bad Z Z (bf (by omega)))<|Φ (av jd Z)<|fb Z Z hH Z dI Z Z λ GD BK hH=> ?_;have:=BK.size;have yE:=Ext.mod jQ BK bC;refine ag<|rg<|vm Z<|Φ (ao Z (hH.all cv b2))<|cu (e:= 55) (cs:= [J ((dB a b k).2.x),J (((dB a b k).2.y)+(jw (b.y - a.y)))]) Z (λ _=>by kernel_rfl) Z λ Tf aLy iX aPD abH=> ?_;have sz:=ab yE iX;have aRU:=abH.lt;have ih:=(ih.mod BK (λ q I h=>by have γ:=aTz.1 h;exfalso;(exact A6 q I γ))).later iX;refine ap OU aa.dj ih (aR.gY (R:=az.rep) (by_:=16) (q:=(⟨(dB a b k).2.x,((dB a b k).2.y)+(jw (b.y - a.y))⟩:az)) abH ⟨Z,⟨bY.2 (by (try dsimp only);omega),bY.2 (by (try dsimp only);omega)⟩⟩ (by decide)) Z Z (by simp only [aTI,aTN];omega) (by simp only [aTI,aTN];omega) sz.size Z λ NQ anV arX xT apR awh aQE=> ?_;have uN:=Ext.mod sz xT (λ q I=>(ih.lt q I).1);refine va Z<|nl<|bU<|aP<|rg<|Φ (bad Z Z (bf (by omega)))<|vm Z<|nl<| ?_;have aY:dB a b (k+1)=(((dB a b k).1)+(2 * (cE (b.x - a.x))),⟨(dB a b k).2.x,((dB a b k).2.y)+(jw (b.y - a.y))⟩):=by
          show p5 a b (dB a b k)=_;unfold p5;simp only [jf,LX,LI,Fs,aVo,aU5,aXA,aXz,aXh,aWG,aUm,aWA,aWo,aVQ,aW7]
        have bb:=Sc a b k;rw [aY] at bb;have cP:(s7 a b (k+1)).length=k+2:=Ge a b (k+1);have hH:=(hH.later iX).mod xT (λ I=>A6 _ I rfl);exact cD _ _ ⟨k+1,anV,arX,Z,Z,uN,(by rw [aY];exact hH),(by rw [bb];exact apR),by omega,(λ q I γ=>by (exact aTT (awh q I) (λ ai9=>by (exact A6 q ai9 γ)) (λ ai9=>by omega)))⟩ (by omega) (.cons Z (.cons Z (.cons Z (.cons Z (.cons Z (.cons Z (.cons Z (.cons Z (.cons Z (.cons (by rw [bb];rfl) (.cons (FR Z (by rw [aY])) (.cons Z (.cons (bH Z) .nil)))))))))))))
    · refine cV<|cU<|c'<|cT<|aP<|ah<|vm rfl<|va rfl<|va rfl<|ag<|rt<|aV (.tmp rfl (.tmp rfl .nil))<| ?_
      have pZ:k=(a_ a b).toNat:=by omega
      subst pZ;exact ⟨j6,co,Z,ih,jQ⟩
  · have lD:=jy (b.x - a.x)
    have kO:=jy (b.y - a.y);have jf:a_ a b=cE (b.x - a.x):=by unfold a_;omega
    have LX:vW a b=cE (b.y - a.y):=by unfold vW;omega
    have LI:decide (cE (b.x - a.x)<cE (b.y - a.y))=false:=by exact aT4 Df
    refine bl<|ah<| ?_;have ai:=ai.later gS;refine Φ (ao Z (ai.all cv b2))<|cu (e:= 55) (cs:= [J a.x,J a.y]) Z (λ _=>by kernel_rfl) Z λ amU U' mr aOR an2=> ?_;have Ol:=ab iM mr;refine va Z<|ag<|ah<|va Z<|ag<|ay<|ah<|vm Z<|vm Z<|ag<|bu<| ?_;have ai:=ai.later mr;have RH:∀ q∈aa.aj (some ⟨U',0,none⟩),U'≤q:=λ q I=>aVk (aTz.1 I).symm;refine dx (λ bZ bS aL=>∃ k:Nat,∃ j6:Option Addr,∃ co:Nat,bS= [(2, .pointer (some ⟨bR,0,none⟩)),(4, .slice none 0 0),(5,J 0),(6,J (jw (b.x - a.x))),(7,J (cE (b.x - a.x))),(8,J (jw (b.y - a.y))),(9,J (cE (b.y - a.y))),(10,J (cE (b.x - a.x))),(11,J (cE (b.y - a.y))),(12, .slice j6 ((s7 a b k).length) co),(13,J ((dB a b k).1)),(50,J (cE (b.x - a.x))),(51,J (k:Int))]∧bZ=(cE (b.x - a.x)).toNat - k∧Ext w aL∧aR aL bR [J ((dB a b k).2.x),J ((dB a b k).2.y)] 55 (0,0)∧az.rep.aH 55 16 aL w.heap.size (aa.aj j6) j6 co (s7 a b k)∧((k:Int)≤cE (b.x - a.x))∧(∀ q∈aa.aj j6,q=bR→False)) _ _ ⟨0,some ⟨U',0,none⟩,1,Z,Z,Ol,ai,(aR.vZ (R:=az.rep) (by_:=16) (B:=w.heap.size) (k:= [a]) an2 [[J a.x,J a.y]] Z ⟨⟨Z,bY.2 (by omega),bY.2 (by omega)⟩,trivial⟩ (by simp) (by simp) (by decide) (by omega)),(by have:=jy (b.y - a.y);have:=jy (b.x - a.x);omega),(λ q I γ=>by (have:=RH q I;omega))⟩ (.cons Z (.cons Z (.cons Z (.cons Z (.cons Z (.cons Z (.cons Z (.cons Z (.cons Z (.cons Z (.cons (bH Z) (.cons Z (.cons (bH Z) .nil))))))))))))) ?_;rintro aPS aJH S6 ⟨k,j6,co,rfl,rfl,Cf,hH,ih,au,E2⟩;have aQ1:=hH.lt;have γ:=ajN a b k;have hp:=ajO a b k;have ft:=Ji (b.x - a.x);have gM:=Ji (b.y - a.y);have lD:=jy (b.x - a.x);have kO:=jy (b.y - a.y);have n_:=Ge a b k;refine ah<|Φ (blt Z Z)<|ag<|ay<| ?_;refine df Z (λ awV=> ?_) (λ awV=> ?_)
    · refine bl<|ay<|bu<|ah<|vm rfl<|vm rfl<|Φ (w_ rfl rfl (bf (by omega)))<|Φ (bad rfl rfl (bf (by omega)))<|va rfl<|ag<|ah<|vm rfl<|vm rfl<|Φ (j_ rfl rfl)<|va rfl<|ag<|ay<|ah<| ?_
      refine vm Z<|ag<| ?_;refine CZ Z (λ Xf=> ?_) (λ Xf=> ?_)
      · rw [jf] at γ
        have Fs:decide (cE (b.x - a.x)≤((dB a b k).1)+(2 * (cE (b.y - a.y))))=true:=by exact aT3 Xf
        refine rg<|vm Z<|vm Z<|Φ (w_ Z Z (bf (by omega)))<|Φ (gh Z Z (bf (by omega)))<|va Z<|ag<|ay<|ah<|vm Z<|vm Z<|Φ (j_ Z Z)<|vm Z<|eN Z Z<|Φ (fC Z Z Z Z)<|ag<| ?_;have awW:((decide (cE (b.y - a.y)≤cE (b.x - a.x))) || (decide (cE (b.x - a.x)≤((dB a b k).1)+(2 * (cE (b.y - a.y))))))=true:=by simp only [aUr,aUa];omega
        refine fH (by rw [← awW];rfl)<|rg<|Φ (av jb Z)<|Φ (ao Z (hH.one a6 Z))<|vm Z<|Φ (bad Z Z (bf (by omega)))<|Φ (av jb Z)<|fb Z Z hH Z dI Z Z λ aaB p7 hH=> ?_;have:=p7.size;have GU:=Ext.mod Cf p7 bC;refine ag<|ay<|ah<|vm Z<|vm Z<|Φ (hM Z Z)<|vm Z<|eN Z Z<|Φ (fC Z Z Z Z)<|ag<| ?_;have awX:((decide (cE (b.x - a.x)<cE (b.y - a.y))) || (decide (cE (b.x - a.x)≤((dB a b k).1)+(2 * (cE (b.y - a.y))))))=true:=by simp only [aUr,aUa];omega
        refine fH (by rw [← awX];rfl)<|rg<|Φ (av jd Z)<|Φ (ao Z (hH.one a6 Z))<|vm Z<|Φ (bad Z Z (bf (by omega)))<|Φ (av jd Z)<|fb Z Z hH Z dI Z Z λ aSy YX hH=> ?_;have:=YX.size;have aIm:=Ext.mod GU YX bC;refine ag<|rg<|vm Z<|Φ (ao Z (hH.all cv b2))<|cu (e:= 55) (cs:= [J (((dB a b k).2.x)+(jw (b.x - a.x))),J (((dB a b k).2.y)+(jw (b.y - a.y)))]) Z (λ _=>by kernel_rfl) Z λ aHn aK1 aaO aOZ abp=> ?_;have TA:=ab aIm aaO;have aQ8:=abp.lt;have ih:=((ih.mod p7 (λ q I h=>by have γ:=aTz.1 h;exfalso;(exact E2 q I γ))).mod YX (λ q I h=>by have γ:=aTz.1 h;exfalso;(exact E2 q I γ))).later aaO;refine ap OU aa.dj ih (aR.gY (R:=az.rep) (by_:=16) (q:=(⟨((dB a b k).2.x)+(jw (b.x - a.x)),((dB a b k).2.y)+(jw (b.y - a.y))⟩:az)) abp ⟨Z,⟨bY.2 (by (try dsimp only);omega),bY.2 (by (try dsimp only);omega)⟩⟩ (by decide)) Z Z (by simp only [aTI,aTN];omega) (by simp only [aTI,aTN];omega) TA.size Z λ amE anE arH F3 apB awc aQf=> ?_;have N_:=Ext.mod TA F3 (λ q I=>(ih.lt q I).1);refine va Z<|nl<|bU<|aP<|rg<|Φ (bad Z Z (bf (by omega)))<|vm Z<|nl<| ?_;have aY:dB a b (k+1)=((((dB a b k).1)+(2 * (cE (b.y - a.y)))) - (2 * (cE (b.x - a.x))),⟨((dB a b k).2.x)+(jw (b.x - a.x)),((dB a b k).2.y)+(jw (b.y - a.y))⟩):=by
          show p5 a b (dB a b k)=_;unfold p5;simp only [jf,LX,LI,Fs,aVo,aU5,aXA,aXz,aXh,aWG,aUm,aWA,aWo,aVQ,aW7]
        have bb:=Sc a b k;rw [aY] at bb;have cP:(s7 a b (k+1)).length=k+2:=Ge a b (k+1);have hH:=(hH.later aaO).mod F3 (λ I=>E2 _ I rfl);exact cD _ _ ⟨k+1,anE,arH,Z,Z,N_,(by rw [aY];exact hH),(by rw [bb];exact apB),by omega,(λ q I γ=>by (exact aTT (awc q I) (λ ah5=>by (exact E2 q ah5 γ)) (λ ah5=>by omega)))⟩ (by omega) (.cons Z (.cons Z (.cons Z (.cons Z (.cons Z (.cons Z (.cons Z (.cons Z (.cons Z (.cons (by rw [bb];rfl) (.cons (FR Z (by rw [aY])) (.cons Z (.cons (bH Z) .nil)))))))))))))
      · rw [jf] at γ
        have Fs:decide (cE (b.x - a.x)≤((dB a b k).1)+(2 * (cE (b.y - a.y))))=false:=by exact aT4 Xf
        refine bl<|ay<|ah<|vm Z<|vm Z<|Φ (j_ Z Z)<|vm Z<|eN Z Z<|Φ (fC Z Z Z Z)<|ag<| ?_;have aw3:((decide (cE (b.y - a.y)≤cE (b.x - a.x))) || (decide (cE (b.x - a.x)≤((dB a b k).1)+(2 * (cE (b.y - a.y))))))=true:=by simp only [aUr,aUa];omega
        refine fH (by rw [← aw3];rfl)<|rg<|Φ (av jb Z)<|Φ (ao Z (hH.one a6 Z))<|vm Z<|Φ (bad Z Z (bf (by omega)))<|Φ (av jb Z)<|fb Z Z hH Z dI Z Z λ aHq zJ hH=> ?_;have:=zJ.size;have aaY:=Ext.mod Cf zJ bC;refine ag<|ay<|ah<|vm Z<|vm Z<|Φ (hM Z Z)<|vm Z<|eN Z Z<|Φ (fC Z Z Z Z)<|ag<| ?_;have aw4:((decide (cE (b.x - a.x)<cE (b.y - a.y))) || (decide (cE (b.x - a.x)≤((dB a b k).1)+(2 * (cE (b.y - a.y))))))=false:=by simp only [aUl,aUj];omega
        refine hj (by rw [← aw4];rfl)<|bl<|rg<|vm Z<|Φ (ao Z (hH.all cv b2))<|cu (e:= 55) (cs:= [J (((dB a b k).2.x)+(jw (b.x - a.x))),J ((dB a b k).2.y)]) Z (λ _=>by kernel_rfl) Z λ amI aK7 yq aO5 abv=> ?_;have JO:=ab aaY yq;have aRf:=abv.lt;have ih:=(ih.mod zJ (λ q I h=>by have γ:=aTz.1 h;exfalso;(exact E2 q I γ))).later yq;refine ap OU aa.dj ih (aR.gY (R:=az.rep) (by_:=16) (q:=(⟨((dB a b k).2.x)+(jw (b.x - a.x)),(dB a b k).2.y⟩:az)) abv ⟨Z,⟨bY.2 (by (try dsimp only);omega),bY.2 (by (try dsimp only);omega)⟩⟩ (by decide)) Z Z (by simp only [aTI,aTN];omega) (by simp only [aTI,aTN];omega) JO.size Z λ aSO anJ arL ajR apD awd aQk=> ?_;have aIB:=Ext.mod JO ajR (λ q I=>(ih.lt q I).1);refine va Z<|nl<|bU<|aP<|rg<|Φ (bad Z Z (bf (by omega)))<|vm Z<|nl<| ?_;have aY:dB a b (k+1)=(((dB a b k).1)+(2 * (cE (b.y - a.y))),⟨((dB a b k).2.x)+(jw (b.x - a.x)),(dB a b k).2.y⟩):=by
          show p5 a b (dB a b k)=_;unfold p5;simp only [jf,LX,LI,Fs,aVo,aU5,aXA,aXz,aXh,aWG,aUm,aWA,aWo,aVQ,aW7]
        have bb:=Sc a b k;rw [aY] at bb;have cP:(s7 a b (k+1)).length=k+2:=Ge a b (k+1);have hH:=(hH.later yq).mod ajR (λ I=>E2 _ I rfl);exact cD _ _ ⟨k+1,anJ,arL,Z,Z,aIB,(by rw [aY];exact hH),(by rw [bb];exact apD),by omega,(λ q I γ=>by (exact aTT (awd q I) (λ aib=>by (exact E2 q aib γ)) (λ aib=>by omega)))⟩ (by omega) (.cons Z (.cons Z (.cons Z (.cons Z (.cons Z (.cons Z (.cons Z (.cons Z (.cons Z (.cons (by rw [bb];rfl) (.cons (FR Z (by rw [aY])) (.cons Z (.cons (bH Z) .nil)))))))))))))
    · refine cV<|cU<|c'<|cT<|aP<|ah<|vm rfl<|va rfl<|va rfl<|ag<|rt<|aV (.tmp rfl (.tmp rfl .nil))<| ?_
      have pZ:k=(a_ a b).toNat:=by omega
      subst pZ;exact ⟨j6,co,Z,ih,Cf⟩
end
section
def tV (p:Int):Int:=if p=0∨p=3 then 2 else if p=2 then 3 else 0
def vp (p:Int):Int:=if p=0∨p=3 then 0 else if p=2 then 0 else if p=1 then 9 else 1
def eh (c:az):List az:= [⟨c.x,c.y - 1⟩,⟨c.x - 1,c.y⟩,⟨c.x+1,c.y⟩,⟨c.x,c.y+1⟩]
namespace aI
section
variable {f:aI} {c d x y b:az} {l a_:List Int} {v:Int}
def gN (f:aI) (c:az):Int:=if f.place c=2 then 3 else 2
def c_ (f:aI) (c:az):List az:=(eh c).filter f.ground
def at_ (f:aI) (c:az):Nat:=(c.y * f.wide+c.x).toNat
def aD (f:aI) (a_:List Int) (c:az):Int:=if f.fu c then a_.getD (f.at_ c) (-1) else -1
def kb (b c:az):Int:=2 * (cE (b.x - c.x)+cE (b.y - c.y))
theorem Dc (h:f.ground c=true):f.place c≠1:=by unfold ground at h;rw [aTM] at h;simpa using h.2
theorem afE (h:f.fu c=true) (ae:f.place c≠1):f.ground c=true:=by unfold ground;rw [h];simpa using ae
theorem p3:2≤f.gN c∧f.gN c≤3:=by unfold gN;split<;>omega
theorem M0:y∈f.c_ x↔y∈eh x∧f.ground y=true:=by unfold c_;rw [aVi]
theorem Y5:y∈eh x↔(y=⟨x.x,x.y - 1⟩∨y=⟨x.x - 1,x.y⟩∨y=⟨x.x+1,x.y⟩∨y=⟨x.x,x.y+1⟩):=by unfold eh;simp
theorem Z7 (h:y∈eh x):x∈eh y:=by
 rw [Y5] at h ⊢;obtain ⟨a,b⟩:=x;rcases h with rfl | rfl | rfl | rfl
 ·right;right;right;simp
 ·right;right;left;simp
 ·right;left;simp
 ·left;simp
theorem aFm (h:y∈eh x):y≠x:=by
 rw [Y5] at h;obtain ⟨a,b⟩:=x;rcases h with rfl | rfl | rfl | rfl<;>simp<;>omega
theorem Wl (b:az) (h:y∈eh x):kb b x≤2+kb b y:=by
 rw [Y5] at h;obtain ⟨d_,eU⟩:=x;have e:∀ n:Int,cE n≤1+cE (n+1)∧cE n≤1+cE (n - 1):=λ n=>by
  have τ:=jy n;have ae:=jy (n+1);have aw:=jy (n - 1);rcases (show n<0∨0≤n by omega) with hn | hn
  ·have:=τ.2.2.2 hn;rcases (show n+1<0∨0≤n+1 by omega) with hm | hm
   ·have:=ae.2.2.2 hm;have:=aw.2.2.2 (by omega);omega
   ·have:=ae.2.2.1 hm;have:=aw.2.2.2 (by omega);omega
  ·have:=τ.2.2.1 hn;have:=ae.2.2.1 (by omega);rcases (show n - 1<0∨0≤n - 1 by omega) with hm | hm
   ·have:=aw.2.2.2 hm;omega
   ·have:=aw.2.2.1 hm;omega
 unfold kb;rcases h with rfl | rfl | rfl | rfl<;>dsimp only
 ·have:=(e (b.y - eU)).1;rw [show b.y - (eU - 1)=b.y - eU+1 by omega];omega
 ·have:=(e (b.x - d_)).1;rw [show b.x - (d_ - 1)=b.x - d_+1 by omega];omega
 ·have:=(e (b.x - d_)).2;rw [show b.x - (d_+1)=b.x - d_ - 1 by omega];omega
 ·have:=(e (b.y - eU)).2;rw [show b.y - (eU+1)=b.y - eU - 1 by omega];omega
theorem ae9 (b c:az):0≤kb b c:=by have:=jy (b.x - c.x);have:=jy (b.y - c.y);unfold kb;omega
theorem Wk (b:az):kb b b=0:=by unfold kb;rw [aXw,aXw];rfl
theorem R8 (f:aI) (b:az):qA.jn f.c_ f.gN (kb b):=⟨λ x y _=>by have:=f.p3 (c:=y);omega,ae9 b,λ x y aF=>by
 have:=Wl b (M0.1 aF).1;have:=f.p3 (c:=y);omega⟩
theorem Zh (f:aI):qA.jn f.c_ f.gN (λ _=>0):=⟨λ x y _=>by have:=f.p3 (c:=y);omega,λ _=>aVa 0,λ x y aF=>by have:=f.p3 (c:=y);omega⟩
theorem acG (hf:f.bn=0) (hc:f.fu c=true) (hd:f.fu d=true) (h:f.at_ c=f.at_ d):c=d:=by
 obtain ⟨a0,cF,a2,a3,a4,a5⟩:=idx hf hc;obtain ⟨Hr,hL,dH,gy,y9,Hs⟩:=idx hf hd;unfold at_ at h;have e:c.y * f.wide+c.x=d.y * f.wide+d.x:=by omega
 have aY:(c.y * f.wide+c.x) % f.wide=c.x:=by rw [aXy,aWr,aXx a2 a3]
 have bb:(d.y * f.wide+d.x) % f.wide=d.x:=by rw [aXy,aWr,aXx dH gy]
 have ex:c.x=d.x:=by rw [← aY,← bb,e]
 have Qm:c.y * f.wide=d.y * f.wide:=by omega
 have Qm:c.y=d.y:=Int.eq_of_mul_eq_mul_right (by omega) Qm;cases c;cases d;simp at ex Qm;rw [ex,Qm]
theorem y8 (hf:f.bn=0) (hc:f.fu c=true):f.at_ c<f.a8.length∧((f.at_ c:Nat):Int)=c.y * f.wide+c.x:=by
 obtain ⟨a0,cF,_⟩:=idx hf hc;unfold at_;omega
theorem HX (hc:f.fu c=true):f.aD a_ c=a_.getD (f.at_ c) (-1):=by unfold aD;rw [aTO hc]
theorem WC (hc:f.fu c=false):f.aD a_ c= -1:=by unfold aD;rw [aTL (by rw [hc];decide)]
theorem Qw (hf:f.bn=0) (aC:a_.length=f.a8.length) (hc:f.fu c=true):f.aD (a_.set (f.at_ c) v) c=v:=by
 rw [HX hc,aTB,aT2 (by rw [aC];exact (y8 hf hc).1)];rfl
theorem Qx (hf:f.bn=0) (hc:f.fu c=true) (eY:d≠c):f.aD (a_.set (f.at_ c) v) d=f.aD a_ d:=by
 cases hd:f.fu d with
 | false=>rw [WC hd,WC hd]
 | true=>rw [HX hd,HX hd,aTB,aTB,aT9 (λ e=>eY (acG hf hd hc e.symm))]
end
end aI
def und:List Int→Nat
 | []=>0
 | x::r=>(if x<0 then 1 else 0)+und r
theorem amn:∀ l:List Int,und l≤l.length
 | []=>aTK _
 | x::r=>by have:=amn r;rw [und,aTI];split<;>omega
theorem amo {v:Int} (hv:0≤v):∀ (l:List Int) (i:Nat),i<l.length→l.getD i (-1)<0→und (l.set i v)+1=und l
 | [],i,h,_=>by simp at h
 | x::r,0,_,h=>by
  have h:x<0:=h;rw [aVJ,und,und,aTL (by omega),aTO h];omega
 | x::r,i+1,h,ae=>by
  have:=amo hv r i (by simpa using h) (by simpa using ae);rw [aVK,und,und];omega
theorem aav {n:Nat}:und (List.replicate n (-1))=n:=by
 induction n with
 | zero=>rfl
 | succ n bK=>rw [aYD,und,bK];simp;omega
structure ja {β:Type} [Inhabited β] (gL:β→az) (av ju:β→Int) (f:aI) (h:az→Int) (src:az→Prop) (a_:List Int) (l:List β) (dp:az) (rest:List az):Prop where
 len:a_.length=f.a8.length
 inv:qA.Inv f.c_ f.gN h src (f.aD a_) (l.map λ n=>(gL n,av n)) dp rest
 hp:cH.Heap ju l.length l
 all:∀ n∈l,ju n=av n+h (gL n)∧f.ground (gL n)=true
 cY:∀ c,f.aD a_ c+3 * (und a_:Int)≤3 * (f.a8.length:Int)
 gr:∀ c,0≤f.aD a_ c→f.ground c=true
section
variable {β:Type} [Inhabited β] {gL:β→az} {av ju:β→Int} {f:aI} {h:az→Int} {src:az→Prop} {a_:List Int} {l:List β} {dp y:az} {rest:List az} {n:β} {j:Nat}
theorem ja.afa (s:ja gL av ju f h src a_ l dp rest) (o:qA.jn f.c_ f.gN h) (hn:n∈l):0≤av n∧av n+3 * (und a_:Int)≤3 * (f.a8.length:Int)+3:=by
 have hm:(gL n,av n)∈l.map λ n=>(gL n,av n):=aUh.2 ⟨n,hn,rfl⟩;have hr:=s.inv.ak2 hm;refine ⟨hr.r9 o, ?_⟩;have hu:=amn a_;have:=s.len;rcases s.inv.q _ hm with ⟨_,ae⟩ | ⟨p,τ,ae,aw⟩
 ·have ae:av n=0:=ae;omega
 ·have aw:av n=f.aD a_ p+f.gN (gL n):=aw;have:=s.cY p;have:=f.p3 (c:=gL n);omega
theorem ja.akB (aK:0<l.length):(l.map λ n=>(gL n,av n)).Perm ((gL (l.getD 0 default),av (l.getD 0 default))::(cH.om ju l).map λ n=>(gL n,av n)):=
 ((cH.akK (key:=ju) aK).symm.map _)
theorem ja.least (s:ja gL av ju f h src a_ l dp rest) (aK:0<l.length):∀ e∈l.map λ n=>(gL n,av n),av (l.getD 0 default)+h (gL (l.getD 0 default))≤e.2+h e.1:=by
 intro e he;obtain ⟨n,hn,rfl⟩:=aUh.1 he;have τ:=s.hp.least n hn;rw [(s.all n hn).1,(s.all _ (gP aK)).1] at τ;exact τ
theorem ja.sub (aK:0<l.length) (hn:n∈cH.om ju l):n∈l:=(cH.akK (key:=ju) aK).subset (aTS _ hn)
theorem ja.aFo (s:ja gL av ju f h src a_ l dp []) (aK:0<l.length) (hd:0≤f.aD a_ (gL (l.getD 0 default))):ja gL av ju f h src a_ (cH.om ju l) dp [] :=
 ⟨s.len,s.inv.aDr (ja.akB aK) hd,cH.akJ s.hp aK,λ n hn=>s.all n (ja.sub aK hn),s.cY,s.gr⟩
theorem ja.new (s:ja gL av ju f h src a_ l dp []) (hf:f.bn=0) (o:qA.jn f.c_ f.gN h) (aK:0<l.length) (hd:f.aD a_ (gL (l.getD 0 default))<0):
  ja gL av ju f h src (a_.set (f.at_ (gL (l.getD 0 default))) (av (l.getD 0 default))) (cH.om ju l) (gL (l.getD 0 default)) (f.c_ (gL (l.getD 0 default)))∧und (a_.set (f.at_ (gL (l.getD 0 default))) (av (l.getD 0 default)))+1=und a_:=by
 have aM:=(s.all _ (gP aK (d:=default))).2;have ar:=aI.ke aM;have γ:=s.afa o (gP aK (d:=default));have hu:und (a_.set (f.at_ (gL (l.getD 0 default))) (av (l.getD 0 default)))+1=und a_:=amo γ.1 a_ _ (by rw [s.len];exact (aI.y8 hf ar).1) (by rw [aI.HX ar] at hd;exact hd);refine ⟨⟨by rw [aTH];exact s.len,(s.inv.aDq o (ja.akB aK) hd (s.least aK) (aI.Qw hf s.len ar) (λ z bG=>aI.Qx hf ar bG)).1,cH.akJ s.hp aK,λ n hn=>s.all n (ja.sub aK hn),λ c=> ?_,λ c hc=> ?_⟩,hu⟩
 ·by_cases e:c=gL (l.getD 0 default)
  ·rw [e,aI.Qw hf s.len ar];omega
  ·rw [aI.Qx hf ar e];have:=s.cY c;omega
 ·by_cases e:c=gL (l.getD 0 default)
  ·rw [e];exact aM
  ·rw [aI.Qx hf ar e] at hc;exact s.gr c hc
theorem ja.push (s:ja gL av ju f h src a_ l dp (y::rest)) (o:qA.jn f.c_ f.gN h) (aM:f.ground y=true) (τ:gL n=y) (ae:av n=f.aD a_ dp+f.gN y) (aw:ju n=av n+h y):ja gL av ju f h src a_ (cH.push ju l n) dp rest:=by
 refine ⟨s.len,s.inv.push o ?_,cH.aDH s.hp,λ m hm=> ?_,s.cY,s.gr⟩
 ·have:=(cH.akP (key:=ju) (l:=l) (x:=n)).map λ n=>(gL n,av n);rw [aUs,τ,ae] at this;exact this
 ·rcases aTZ.1 ((cH.akP (key:=ju)).subset hm) with rfl | hm
  ·rw [τ];exact ⟨aw,aM⟩
  ·exact s.all m hm
theorem ja.pass (s:ja gL av ju f h src a_ l dp (y::rest)) (aF:0≤f.aD a_ y):ja gL av ju f h src a_ l dp rest:=⟨s.len,s.inv.skip aF,s.hp,s.all,s.cY,s.gr⟩
theorem Z6 {f:aI} {x:az} {j:Nat} (aA:j<4):((eh x).drop j).filter f.ground=if f.ground ((eh x).getD j default) then (eh x).getD j default::((eh x).drop (j+1)).filter f.ground else ((eh x).drop (j+1)).filter f.ground:=by
 have aC:(eh x).length=4:=rfl;rw [aU2 (by omega),aUP,mO (by omega)]
theorem ja.aBf (s:ja gL av ju f h src a_ l dp (((eh dp).drop j).filter f.ground)) (aA:j<4) (aM:f.ground ((eh dp).getD j default)=false):ja gL av ju f h src a_ l dp (((eh dp).drop (j+1)).filter f.ground):=by
 rw [Z6 aA,aTL (by rw [aM];decide)] at s;exact s
theorem ja.aBd (s:ja gL av ju f h src a_ l dp (((eh dp).drop j).filter f.ground)) (aA:j<4) (aF:0≤f.aD a_ ((eh dp).getD j default)) (aM:f.ground ((eh dp).getD j default)=true):ja gL av ju f h src a_ l dp (((eh dp).drop (j+1)).filter f.ground):=by
 rw [Z6 aA,aTO aM] at s;exact s.pass aF
theorem ja.aBe (s:ja gL av ju f h src a_ l dp (((eh dp).drop j).filter f.ground)) (o:qA.jn f.c_ f.gN h) (aA:j<4) (aM:f.ground ((eh dp).getD j default)=true) (τ:gL n=(eh dp).getD j default) (ae:av n=f.aD a_ dp+f.gN ((eh dp).getD j default)) (aw:ju n=av n+h ((eh dp).getD j default)):
  ja gL av ju f h src a_ (cH.push ju l n) dp (((eh dp).drop (j+1)).filter f.ground):=by
 rw [Z6 aA,aTO aM] at s;exact s.push o aM τ ae aw
end
end
section
structure cp where
 cell:az
 a_:Int
 all:Int
 deriving DecidableEq,Inhabited
namespace cp
def cells (a:cp):List Value:= [.int .i64 (a.cell.x), .int .i64 (a.cell.y), .int .i64 (a.a_), .int .i64 (a.all)]
def ok (a:cp):Prop:=(Lit.int .i64 a.cell.x).wf=true∧(Lit.int .i64 a.cell.y).wf=true∧(Lit.int .i64 a.a_).wf=true∧(Lit.int .i64 a.all).wf=true
def raw (j:Nat) (u:Value):Prop:=match j with
 | 0=>∃ n:Int,u= .int .i64 n
 | 1=>∃ n:Int,u= .int .i64 n
 | 2=>∃ n:Int,u= .int .i64 n
 | 3=>∃ n:Int,u= .int .i64 n
 | _=>True
theorem ru (a:cp):∀ (j:Nat) u,a.cells[j]? =some u→raw j u:=by
 intro j u hu
 match j,hu with
 | 0,hu=>exact ⟨_,(aTA hu).symm⟩
 | 1,hu=>exact ⟨_,(aTA hu).symm⟩
 | 2,hu=>exact ⟨_,(aTA hu).symm⟩
 | 3,hu=>exact ⟨_,(aTA hu).symm⟩
 | j+4,hu=>exact trivial
theorem rr (a:cp):∀ u∈a.cells,u.oneCell'=true:=by
 intro u hu;unfold cells at hu;simp only [aTZ,aU8,aVV] at hu;rcases hu with rfl | rfl | rfl | rfl<;>rfl
def rep:aa cp:=aa.flat 4 cells ok raw (λ _=>rfl) rr ru
def zero:Value:= .agg #[.int .i64 0, .int .i64 0, .int .i64 0, .int .i64 0]
theorem ix:∀ (j:Nat) u,zero.cells[j]? =some u→rep.raw j u:=by
 intro j u hu;have hu:(#[(.int .i64 0:Value),(.int .i64 0:Value),(.int .i64 0:Value),(.int .i64 0:Value)]:Array Value)[j]? =some u:=hu
 match j,hu with
 | 0,hu=>exact ⟨_,(aTA hu).symm⟩
 | 1,hu=>exact ⟨_,(aTA hu).symm⟩
 | 2,hu=>exact ⟨_,(aTA hu).symm⟩
 | 3,hu=>exact ⟨_,(aTA hu).symm⟩
 | j+4,hu=>cases hu
theorem info:(prog.info? 304).map (λ i=>(i.zero,i.size,i.bytes))=some (some zero,4,32):=by kernel_rfl
def sh:gK:=(.cons (.cons (.int .i64) (.cons (.int .i64) .nil)) (.cons (.int .i64) (.cons (.int .i64) .nil)))
end cp
end
section
abbrev sI (f:aI) (a b:az) (a_:List Int) (l:List cp) (dp:az) (rest:List az):Prop:=ja cp.cell cp.a_ cp.all f (aI.kb b) (λ c=>c=a) a_ l dp rest
def wV (f:aI) (b:az) (a_:List Int):Prop:=0≤f.aD a_ b→∀ x,0≤f.aD a_ x→f.aD a_ x+aI.kb b x≤f.aD a_ b
structure pE (f:aI) (a b:az) (a_:List Int):Prop where
 len:a_.length=f.a8.length
 spec:qA.Spec f.c_ f.gN (aI.kb b) (λ c=>c=a) b (f.aD a_)
 cY:∀ c,f.aD a_ c≤3 * (f.a8.length:Int)
 gr:∀ c,0≤f.aD a_ c→f.ground c=true
section
variable {f:aI} {a b dp:az} {a_:List Int} {l:List cp} {b8:cp} {rest:List az}
theorem aG4 (s:sI f a b a_ l dp []) (hf:f.bn=0) (aK:0<l.length) (hx:l.getD 0 default=b8) (hd:f.aD a_ b8.cell<0) (hv:wV f b a_) (hc:f.aD a_ b<0∨b8.all≤f.aD a_ b):wV f b (a_.set (f.at_ b8.cell) b8.a_):=by
 have hm:b8∈l:=by rw [← hx];exact gP aK
 obtain ⟨ha,aM⟩:=s.all b8 hm;have ar:=aI.ke aM;have τ:=aI.Qw (v:=b8.a_) hf s.len ar;have ae:∀ z,z≠b8.cell→f.aD (a_.set (f.at_ b8.cell) b8.a_) z=f.aD a_ z:=λ z bG=>aI.Qx hf ar bG;have ag2:=λ z bG=>s.inv.mono z bG (b8.cell,b8.a_) (aUh.2 ⟨b8,hm,rfl⟩);dsimp only at ag2;intro γ z bG;by_cases e:b=b8.cell
 ·have Bc:f.aD (a_.set (f.at_ b8.cell) b8.a_) b=b8.a_:=by rw [e];exact τ
  rw [Bc];have e0:aI.kb b b8.cell=0:=by rw [← e];exact aI.Wk b
  by_cases K7:z=b8.cell
  ·rw [K7,τ];omega
  ·rw [ae z K7] at bG ⊢;have:=ag2 z bG;omega
 ·rw [ae b e] at γ ⊢;by_cases K7:z=b8.cell
  ·rw [K7,τ];omega
  ·rw [ae z K7] at bG ⊢;exact hv γ z bG
theorem akA (s:sI f a b a_ l dp []) (hv:wV f b a_) (he:(0≤f.aD a_ b∧∀ e∈l.map λ n=>(n.cell,n.a_),f.aD a_ b<e.2+aI.kb b e.1)∨(l.map λ n=>(n.cell,n.a_))= []):pE f a b a_ :=
 ⟨s.len,s.inv.ends (aI.R8 f b) (aI.Wk b) hv he,λ c=>by have:=s.cY c;omega,s.gr⟩
theorem aDa (s:sI f a b a_ l dp []) (hv:wV f b a_) (h:l.length=0):pE f a b a_:=akA s hv (.inr (by rw [aT7 h];rfl))
theorem aC9 (s:sI f a b a_ l dp []) (hv:wV f b a_) (aK:0<l.length) (γ:0≤f.aD a_ b) (h:f.aD a_ b<(l.getD 0 default).all):pE f a b a_ :=
 akA s hv (.inl ⟨γ,λ e he=>by
  have τ:=s.least aK e he;rw [← (s.all _ (gP aK)).1] at τ;omega⟩)
theorem sI.node (s:sI f a b a_ l dp rest) (hf:f.bn=0) (γ:f.fu b=true) (hn:b8∈l):0≤b8.cell.x∧b8.cell.x<f.wide∧0≤b8.cell.y∧b8.cell.y<f.high∧0≤b8.a_∧b8.a_≤4803∧0≤b8.all∧b8.all≤5000∧b8.ok:=by
 obtain ⟨ha,aM⟩:=s.all b8 hn;obtain ⟨_,_,i1,i2,i3,i4⟩:=aI.idx hf (aI.ke aM);obtain ⟨_,_,p2,ob,Bw,aOy⟩:=aI.idx hf γ;obtain ⟨g1,g2,g3,g4,g5,g6⟩:=aI.ks hf;obtain ⟨τ,ae⟩:=s.afa (aI.R8 f b) hn;have aC:=aI.eZ hf;have he:0≤aI.kb b b8.cell∧aI.kb b b8.cell≤160:=by
  refine ⟨aI.ae9 _ _, ?_⟩;unfold aI.kb;have cF:=jy (b.x - b8.cell.x);have a2:=jy (b.y - b8.cell.y);rcases (show b.x - b8.cell.x<0∨0≤b.x - b8.cell.x by omega) with h | h
  ·have:=cF.2.2.2 h;rcases (show b.y - b8.cell.y<0∨0≤b.y - b8.cell.y by omega) with c7 | c7
   ·have:=a2.2.2.2 c7;omega
   ·have:=a2.2.2.1 c7;omega
  ·have:=cF.2.2.1 h;rcases (show b.y - b8.cell.y<0∨0≤b.y - b8.cell.y by omega) with c7 | c7
   ·have:=a2.2.2.2 c7;omega
   ·have:=a2.2.2.1 c7;omega
 refine ⟨i1,i2,i3,i4,τ,by omega,by omega,by omega,bY.2 (by omega),bY.2 (by omega),bY.2 (by omega),bY.2 (by omega)⟩
theorem Bg (hf:f.bn=0) (aC:a_.length=f.a8.length) {c:az} (hc:f.fu c=true):a_[(c.y * f.wide+c.x).toNat]? =some (f.aD a_ c):=by
 rw [aI.HX hc];exact cA (u:= -1) (show f.at_ c<a_.length by rw [aC];exact (aI.y8 hf hc).1)
theorem et (hf:f.bn=0) (aC:a_.length=f.a8.length) {c:az} (hc:f.fu c=true):(c.y * f.wide+c.x).toNat<a_.length∧0≤c.y * f.wide+c.x∧c.y * f.wide+c.x≤1600:=by
 have τ:=aI.y8 hf hc;obtain ⟨a0,cF,_⟩:=aI.idx hf hc;have:=aI.eZ hf;unfold aI.at_ at τ;omega
theorem acH (p q:Bool):p=false∨(p=true∧q=true)∨(p=true∧q=false):=by cases p<;>cases q<;>simp
end
end
section
section
variable {f:aI} {a b c:az} {a_ Qn:List Int} {aD:az→Int}
noncomputable def c0 (f:aI) (a b:az):az→Int :=
 @dite _ (∃ a_,pE f a b a_) (Classical.propDecidable _) (λ h=>f.aD h.choose) λ _=>λ _=> -1
theorem pE.Qt (h:pE f a b a_):f.aD a_=c0 f a b:=by
 have hex:∃ a_,pE f a b a_:=⟨a_,h⟩;unfold c0;rw [dif_pos hex]
 funext x
 exact h.spec.uniq hex.choose_spec.spec x
theorem pE.get (h:pE f a b a_) (hf:f.bn=0) {c:az} (hc:f.fu c=true):a_[(c.y * f.wide+c.x).toNat]? =some (c0 f a b c):=by rw [← h.Qt];exact Bg hf h.len hc
theorem aDI {β:Type} [Inhabited β] {key:β→Int} {x:β}:cH.push key [] x= [x]:=by
 unfold cH.push cH.qj;rw [aTL (by simp)];rfl
theorem Qv {n:Nat}:f.aD (List.replicate n (-1)) c= -1:=by
 unfold aI.aD;split
 ·rw [aTB,aUO];split<;>rfl
 ·rfl
theorem sI.start (hf:f.bn=0) (ha:f.ground a=true) (dp:az):sI f a b (List.replicate f.a8.length (-1)) (cH.push cp.all [] ⟨a,0,0+aI.kb b a⟩) dp []:=by
 rw [aDI];refine ⟨aUe,qA.Inv.start (λ x=>Qv) (λ e he=> ?_) (λ s hs=> ?_),λ i aK τ=>by simp at τ;omega,λ n hn=> ?_,λ c=> ?_,λ c hc=>by rw [Qv] at hc;omega⟩
 ·rw [aUs,aVy,aTz] at he;subst he;exact ⟨Z,Z⟩
 ·subst hs;exact aT1
 ·rw [aTz.1 hn];exact ⟨Z,ha⟩
 ·rw [Qv,aav];omega
theorem wV.start:wV f b (List.replicate f.a8.length (-1)):=λ h=>by rw [Qv] at h;omega
def lJ (f:aI) (aD:az→Int) (c:az):az:=((eh c).find? λ n=>f.ground n && decide (0≤aD n) && decide (aD n+f.gN c=aD c)).getD c
def wY (f:aI) (aD:az→Int) (a:az):Nat→az→List az
 | 0,c=> [c]
 | n+1,c=>if c=a then [c] else c::wY f aD a n (lJ f aD c)
structure oE (f:aI) (a:az) (aD:az→Int):Prop where
 zero:aD a=0
 pos:∀ c,0≤aD c→c≠a→∃ p,0≤aD p∧c∈f.c_ p∧aD c=aD p+f.gN c
 gr:∀ c,0≤aD c→f.ground c=true
theorem oE.prev (h:oE f a aD) (hc:0≤aD c) (eY:c≠a):lJ f aD c∈eh c∧f.ground (lJ f aD c)=true∧0≤aD (lJ f aD c)∧aD (lJ f aD c)+f.gN c=aD c:=by
 obtain ⟨p,τ,ae,aw⟩:=h.pos c hc eY;have hp:p∈eh c:=aI.Z7 (aI.M0.1 ae).1;have Rk:(f.ground p && decide (0≤aD p) && decide (aD p+f.gN c=aD c))=true:=by
  rw [h.gr p τ,aT3 τ,aT3 aw.symm];rfl
 unfold lJ;cases hf:(eh c).find? λ n=>f.ground n && decide (0≤aD n) && decide (aD n+f.gN c=aD c) with
 | none=>exact absurd Rk (aU7.1 hf p hp)
 | some q =>
  have I:=aWS hf;simp only [aTM,aUa] at I;exact ⟨aWw hf,I.1.1,I.1.2,I.2⟩
theorem oE.fuel (h:oE f a aD):∀ (n:Nat) (c:az),0≤aD c→(aD c).toNat≤n→wY f aD a n c=wY f aD a (aD c).toNat c:=by
 intro n;induction n using Nat.strongRecOn with
 | ind n bK =>
  intro c hc hn;by_cases eY:c=a
  ·subst eY;have:(aD c).toNat=0:=by rw [h.zero];rfl
   rw [this];cases n with
   | zero=>rfl
   | succ n=>unfold wY;rw [aTO rfl]
  ·obtain ⟨eH,fa,mh,v_⟩:=h.prev hc eY;have au:=f.p3 (c:=c);obtain ⟨m,hm⟩:∃ m,(aD c).toNat=m+1:=⟨(aD c).toNat - 1,by omega⟩;obtain ⟨hT,ayM⟩:∃ hT,n=hT+1:=⟨n - 1,by omega⟩;subst ayM;rw [hm,wY,wY,aTL eY,aTL eY,bK hT (by omega) _ mh (by omega),bK m (by omega) _ mh (by omega)]
def fU (f:aI) (aD:az→Int) (a c:az):List az:=wY f aD a (aD c).toNat c
theorem B_ (h:oE f a aD):fU f aD a a= [a]:=by unfold fU;rw [h.zero];rfl
theorem B' (h:oE f a aD) (hc:0≤aD c) (eY:c≠a):fU f aD a c=c::fU f aD a (lJ f aD c):=by
 obtain ⟨eH,fa,mh,v_⟩:=h.prev hc eY;have au:=f.p3 (c:=c);unfold fU;obtain ⟨m,hm⟩:∃ m,(aD c).toNat=m+1:=⟨(aD c).toNat - 1,by omega⟩;rw [hm,wY,aTL eY,h.fuel m _ mh (by omega)]
theorem oE.of (h:pE f a b a_) (γ:0≤f.aD a_ b):oE f a (f.aD a_):=by
 have bG:0≤f.aD a_ a→f.aD a_ a=0:=λ aK=>by
  have:=(h.spec.oP a aK).1.2 0 (.start rfl);omega
 have key:∀ n:Nat,∀ c,0≤f.aD a_ c→(f.aD a_ c).toNat=n→0≤f.aD a_ a:=by
  intro n;induction n using Nat.strongRecOn with
  | ind n bK =>
   intro c hc hn;rcases h.spec.pred c hc with ⟨τ,_⟩ | ⟨p,τ,ae,aw⟩
   ·subst τ;exact hc
   ·have:=f.p3 (c:=c);exact bK (f.aD a_ p).toNat (by omega) p τ Z
 have ha:=key _ b γ rfl;refine ⟨bG ha,λ c hc eY=> ?_,h.gr⟩;rcases h.spec.pred c hc with ⟨τ,_⟩ | τ
 ·exact absurd τ eY
 ·exact τ
theorem oE.Gb (h:pE f a b a_) (γ:0≤c0 f a b b):oE f a (c0 f a b):=by rw [← h.Qt] at γ ⊢;exact oE.of h γ
theorem pE.aq0 (h:pE f a b a_) (c:az):c0 f a b c≤3 * (f.a8.length:Int):=by rw [← h.Qt];exact h.cY c
noncomputable def hk (f:aI) (a b:az):Int:=if f.dY a≠0 then f.dY a else if f.dY b≠0 then f.dY b else if f.place a=1∨f.place b=1 then 9 else if c0 f a b b<0 then 6 else 0
noncomputable def oS (f:aI) (a b:az):Int:=if hk f a b=0 then c0 f a b b else 0
noncomputable def gv (f:aI) (a b:az):List az:=if hk f a b=0 then (fU f (c0 f a b) a b).reverse else []
theorem avI (h:f.dY a≠0):hk f a b=f.dY a:=by unfold hk;rw [aTO h]
theorem avJ (h:f.dY a=0) (ae:f.dY b≠0):hk f a b=f.dY b:=by unfold hk;rw [aTL (by rw [h];simp),aTO ae]
theorem Pt (h:f.dY a=0):f.bn=0∧f.fu a=true:=by
 have hc:f.bn=0:=by
  by_cases hc:f.bn=0
  ·exact hc
  ·rw [(aI.U3 hc).1] at h;exact h
 exact ⟨hc,aqK hc h⟩
where
 aqK {f:aI} {c:az} (h:f.bn=0) (he:f.dY c=0):f.fu c=true:=by
  cases ar:f.fu c with
  | true=>rfl
  | false=>rw [(aI.KD h ar).1] at he;omega
theorem avL (h:f.dY a=0) (ae:f.dY b=0) (aw:f.place a=1∨f.place b=1):hk f a b=9:=by unfold hk;rw [aTL (by rw [h];simp),aTL (by rw [ae];simp),aTO aw]
theorem avK (hf:f.bn=0) (ha:f.ground a=true) (γ:f.ground b=true) (h:c0 f a b b<0):hk f a b=6:=by
 unfold hk;rw [aTL (by rw [(aI.mK hf (aI.ke ha)).1];simp),aTL (by rw [(aI.mK hf (aI.ke γ)).1];simp),aTL (by rintro (τ | τ);exact aI.Dc ha τ;exact aI.Dc γ τ),aTO h]
theorem Wt (hf:f.bn=0) (ha:f.ground a=true) (γ:f.ground b=true) (h:0≤c0 f a b b):hk f a b=0:=by
 unfold hk;rw [aTL (by rw [(aI.mK hf (aI.ke ha)).1];simp),aTL (by rw [(aI.mK hf (aI.ke γ)).1];simp),aTL (by rintro (τ | τ);exact aI.Dc ha τ;exact aI.Dc γ τ),aTL (by omega)]
theorem Wr (f:aI) (a b:az):(f.dY a≠0∧hk f a b=f.dY a)∨(f.dY a=0∧f.dY b≠0∧hk f a b=f.dY b)∨(f.dY a=0∧f.dY b=0∧(f.place a=1∨f.place b=1)∧hk f a b=9)∨(f.bn=0∧f.ground a=true∧f.ground b=true∧((c0 f a b b<0∧hk f a b=6)∨(0≤c0 f a b b∧hk f a b=0))):=by
 by_cases τ:f.dY a=0
 ·by_cases ae:f.dY b=0
  ·obtain ⟨hc,Mh⟩:=Pt τ;obtain ⟨_,Yr⟩:=Pt ae;by_cases aw:f.place a=1∨f.place b=1
   ·exact .inr (.inr (.inl ⟨τ,ae,aw,avL τ ae aw⟩))
   ·have ga:=aI.afE Mh (λ h=>aw (.inl h));have vA:=aI.afE Yr (λ h=>aw (.inr h));refine .inr (.inr (.inr ⟨hc,ga,vA, ?_⟩));by_cases aU:c0 f a b b<0
    ·exact .inl ⟨aU,avK hc ga vA aU⟩
    ·exact .inr ⟨by omega,Wt hc ga vA (by omega)⟩
  ·exact .inr (.inl ⟨τ,ae,avJ τ ae⟩)
 ·exact .inl ⟨τ,avI τ⟩
end
end
section
structure dG where
 id:Int
 bm:az
 deriving DecidableEq,Inhabited
namespace dG
def cells (a:dG):List Value:= [.int .i64 (a.id), .int .i64 (a.bm.x), .int .i64 (a.bm.y)]
def ok (a:dG):Prop:=(Lit.int .i64 a.id).wf=true∧(Lit.int .i64 a.bm.x).wf=true∧(Lit.int .i64 a.bm.y).wf=true
def raw (j:Nat) (u:Value):Prop:=match j with
 | 0=>∃ n:Int,u= .int .i64 n
 | 1=>∃ n:Int,u= .int .i64 n
 | 2=>∃ n:Int,u= .int .i64 n
 | _=>True
theorem ru (a:dG):∀ (j:Nat) u,a.cells[j]? =some u→raw j u:=by
 intro j u hu
 match j,hu with
 | 0,hu=>exact ⟨_,(aTA hu).symm⟩
 | 1,hu=>exact ⟨_,(aTA hu).symm⟩
 | 2,hu=>exact ⟨_,(aTA hu).symm⟩
 | j+3,hu=>exact trivial
theorem rr (a:dG):∀ u∈a.cells,u.oneCell'=true:=by
 intro u hu;unfold cells at hu;simp only [aTZ,aU8,aVV] at hu;rcases hu with rfl | rfl | rfl<;>rfl
def rep:aa dG:=aa.flat 3 cells ok raw (λ _=>rfl) rr ru
def zero:Value:= .agg #[.int .i64 0, .int .i64 0, .int .i64 0]
theorem ix:∀ (j:Nat) u,zero.cells[j]? =some u→rep.raw j u:=by
 intro j u hu;have hu:(#[(.int .i64 0:Value),(.int .i64 0:Value),(.int .i64 0:Value)]:Array Value)[j]? =some u:=hu
 match j,hu with
 | 0,hu=>exact ⟨_,(aTA hu).symm⟩
 | 1,hu=>exact ⟨_,(aTA hu).symm⟩
 | 2,hu=>exact ⟨_,(aTA hu).symm⟩
 | j+3,hu=>cases hu
theorem info:(prog.info? 203).map (λ i=>(i.zero,i.size,i.bytes))=some (some zero,3,24):=by kernel_rfl
def sh:gK:=(.cons (.int .i64) (.cons (.cons (.int .i64) (.cons (.int .i64) .nil)) .nil))
end dG
theorem agr {w:World} {cs:List Value} {a:dG} (h:dG.rep.has w cs a):cs=a.cells:=aVP (show cs=a.cells∧a.ok from h)
end
section
open Go.RowKit Go.Maps
namespace az
def key (c:az):Value:= .agg #[.int .i64 c.x, .int .i64 c.y]
theorem laid:laidOutB prog=true:=by kernel_rfl
theorem aAv (x y:Int):(Value.agg #[.int .i64 x, .int .i64 y]).formed prog 55 =true:=by kernel_rfl
theorem aAy:prog.keyType 55 =true:=by kernel_rfl
theorem aAx:∃ n,prog.types.size+1=n+2:=by
 have:1≤prog.types.size:=by decide +kernel
 exact ⟨prog.types.size - 1,by omega⟩
theorem aAu:prog.cellsOf 55 =2∧prog.cellsOf 3 =1:=by
 constructor<;>kernel_rfl
theorem aAw (c:az) (h:c.ok):∃ l,keyOf prog 55 (key c)=some l:=by
 obtain ⟨hx,aF⟩:=h;obtain ⟨n,hn⟩:=aAx;unfold key keyOf;have hu:=underlying55;rw [hu];simp only [aAy,aAv,Bool.and_self,aVo,hn];have τ:prog.keyLits (n+2) 55 [.int .i64 c.x, .int .i64 c.y]=some [.int .i64 c.x, .int .i64 c.y]:=by
  simp [Program.keyLits,hu,underlying3,aAu,hx,aF]
 exact ⟨.string (keyBytes [.int .i64 c.x, .int .i64 c.y]),by
  have e:(Value.agg #[.int .i64 c.x, .int .i64 c.y]).cells.toList= [.int .i64 c.x, .int .i64 c.y]:=rfl;rw [e,τ];rfl⟩
theorem zG:Uq prog 55 key ok where
 keyed:=Keyed.of_law (Go.deep_law_laid laid (m:=100) (by decide) (by decide +kernel) (by kernel_rfl) (by kernel_rfl))
 lit:=aAw
 inj:=by
  intro a b h;unfold key at h;injection h with h
  obtain ⟨x,y⟩:=a;obtain ⟨z,t⟩:=b;simp at h;simp [h]
end az
end
end Go.Proofs.YtmeeljmapailnaaGreat
