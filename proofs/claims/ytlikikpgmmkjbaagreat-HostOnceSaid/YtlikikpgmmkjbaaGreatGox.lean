import Derived.Test.YtlikikpgmmkjbaaGreatGolR
set_option linter.unusedVariables false
set_option linter.unusedSimpArgs false
set_option maxRecDepth 100000
set_option maxHeartbeats 4000000
open Go.RowKit
namespace Go.Proofs.YtlikikpgmmkjbaaGreat
open Tryz
abbrev aRO:=@Or.elim
abbrev aR6:=@decide_eq_true_eq
abbrev aSd:=@List.length_replicate
abbrev aSg:=@decide_eq_false_iff_not
abbrev aSn:=@Bool.or_eq_false_iff
abbrev aSP:=@List.filter_cons
abbrev aS2:=@List.filter_append
abbrev aTa:=@List.mem_of_mem_take
abbrev aTg:=@List.range_succ
abbrev aTi:=@Nat.le_of_eq
abbrev aTE:=@List.set_cons_zero
abbrev aTF:=@List.set_cons_succ
abbrev aTJ:=@Bool.not_true
abbrev aTM:=@List.mem_iff_getElem?
abbrev aT3:=@List.mem_filter
abbrev aUk:=@decide_false
abbrev aUm:=@Int.add_mul_emod_self_right
abbrev aUr:=@List.mem_of_find?_eq_some
abbrev aUu:=@decide_true
abbrev aUA:=@Bool.false_or
abbrev aUM:=@List.find?_some
abbrev aU5:=@Bool.not_false
abbrev aU9:=@List.filter_eq_self
abbrev aVd:=@Bool.or_false
abbrev aVp:=@Int.sub_self
abbrev aVq:=@Int.emod_eq_of_lt
abbrev aVr:=@Int.add_comm
abbrev aVs:=@Bool.true_or
abbrev aVt:=@Bool.or_true
abbrev aVN:=@Int.tdiv_eq_ediv_of_nonneg
abbrev aVV:=@List.set_eq_of_length_le
abbrev aVW:=@List.map_take
abbrev aWb:=@List.getElem_set_self
abbrev aWn:=@List.take_set_of_le
abbrev aWs:=@List.drop_set_of_lt
abbrev aWH:=@List.getElem_take
section
namespace κ
variable {α:Type} {R:κ α}
theorem aD.aeU {E by_ B c:Nat} {A:Option Addr} {l:List α} {w:World} {ps:List (List Nat×List Value)} (hp:R.sM) (de:c9 (λ x a=>R.own w B x.1 x.2 a) ps l):∀ y∈ps,y.1= []:=λ y aL=>by
 obtain ⟨b,Φ⟩:=de.left y aL;exact hp.2 Φ
theorem auo {ps:List (List Nat×List Value)} (h:∀ y∈ps,y.1= []):(ps.map (·.1)).flatten= []:=by
 rw [aV0];intro x hx;obtain ⟨y,aL,rfl⟩:=aSh.1 hx;exact h y aL
theorem aD.cut {E by_ B c:Nat} {A:Option Addr} {l:List α} {w:World} (h:R.aD E by_ w B (ae A) A c l) (hp:R.sM) (k:Nat) (ar:k≤l.length):R.aD E by_ w B (ae A) A c (l.take k):=by
 obtain ⟨Φ,ps,hf,hn,bS,de⟩:=h;have az:=Ry de;have nB:ps.length=l.length:=de.length;have τ:=aD.aeU (E:=E) (by_:=by_) (c:=c) (A:=A) hp de;have hlen:(l.take k).length=k:=by rw [aRE];omega
 have hm:=aSm by_ ar;refine ⟨by rw [hlen];omega,ps.take k, ?_,hn, ?_,de.IV k⟩
 ·rw [auo λ y aL=>τ y (aTa aL),aR7]
 ·rw [hlen,aVW,PY k az];obtain ⟨tk,LP⟩:=bS;have hle:k * R.size≤l.length * R.size:=aSm _ ar;refine ⟨by rw [aRE,tk];omega, ?_⟩;rcases LP with ⟨LP,aLd⟩ | ⟨g,cap,cur,hv,aX,fC,C5,r0,hs,aG,bB⟩
  ·injection LP with a_ bj cV
   subst a_ cV;have:k=0:=by omega
   subst this;exact .inl ⟨Z,Z⟩
  ·injection hv with a_ bj cV
   subst a_ cV;exact .inr ⟨g,c,cur,Z,aX,fC,by omega,r0,hs,by rw [← aG,List.take_take,aTq hle],bB⟩
theorem Own.akK {base e size n g c:Nat} {G:Nat→Value→Prop} {xs:List Value}:∀ (zs:List Value) (o:Nat) (w:World),n * size≤o→Own w base e size G (.slice (some ⟨g,0,none⟩) n c) n xs→(∀ (j:Nat) u,zs[j]? =some u→G ((o+j) % size) u)→
  Own (w.setCells g o zs) base e size G (.slice (some ⟨g,0,none⟩) n c) n xs
 | [],_,_,_,h,_=>h
 | v::r,o,w,bS,h,bB=>by
  rw [World.setCells];have τ:=h.stored o v (bB 0 v rfl);rw [aVV (by rw [h.1];exact bS)] at τ;refine Own.akK r (o+1) _ (by omega) τ λ j u hu=> ?_;have:=bB (j+1) u hu
  rwa [show o+1+j=o+(j+1) from by omega]
theorem Mod.setCells (g:Nat):∀ (zs:List Value) (o:Nat) (w:World),Mod [g] w (w.setCells g o zs)
 | [],_,w=>Mod.bC (Ext.bF w)
 | v::r,o,w=>by
  rw [World.setCells];exact (Mod.setCell w ⟨g,o,none⟩ v).trans (Mod.setCells g r (o+1) _)
theorem aD.aCX {E by_ B c g:Nat} {l:List α} {w:World} (h:R.aD E by_ w B (ae (some ⟨g,0,none⟩)) (some ⟨g,0,none⟩) c l) (hp:R.sM) (k:Nat) (ar:k≤l.length) (zs:List Value) (bs:∀ (j:Nat) u,zs[j]? =some u→R.raw (j % R.size) u):
  R.aD E by_ (w.setCells g (k * R.size) zs) B (ae (some ⟨g,0,none⟩)) (some ⟨g,0,none⟩) c (l.take k):=by
 obtain ⟨Φ,ps,hf,hn,bS,de⟩:=h.cut hp k ar;have τ:=aD.aeU (E:=E) (by_:=by_) (c:=c) (A:=some ⟨g,0,none⟩) hp de;have hlen:(l.take k).length=k:=by rw [aRE];omega
 refine ⟨Φ,ps,hf,hn, ?_,de.imp λ y a aL H7=>R.ss H7 λ q I=> ?_⟩
 ·refine Own.akK zs _ w (by rw [hlen];exact aRN _) bS λ j u hu=> ?_;rw [aSM,aT1];exact bs j u hu
 ·rw [τ y aL] at I;simp at I
end κ
section
variable {P:Program} {n:Nat} {E cP:List (Nat×Value)} {a:Act} {w w' w0 aP:World} {Q:Exit→Act→World→Prop} {ops:Array Oper} {v:Value}
variable {d:Option Nat} {ty:TypeId} {pos:String} {af:Array Edge} {g:Option (Nat×Bool)} {x y z:Operand} {t:TypeId} {rest:List Oper}
theorem aGt {zs:Array Value} {m j:Nat} {u:Value} (hu:(Builtin.zeroCells zs m).toList[j]? =some u):∃ i:Nat,i=j % zs.size∧(0<zs.size→zs[i]? =some u):=by
 rw [aSG] at hu;obtain ⟨h,hv⟩:=aSa.1 hu;simp only [Builtin.zeroCells,Array.getElem_map,Array.getElem_range] at hv;refine ⟨_,Z,λ aH=> ?_⟩;have hr:j % zs.size<zs.size:=aTD _ aH;rw [aTW hr,← hv];rw [aV1 zs (j % zs.size) hr]
theorem YY {A:Option Addr} {len cap e s:Nat} {k:IntKind} (lo:Nat) {i:Int} (aG:P.underlying t=some (.slice e)) (hs:eN P e s) (hx:ev E x=some (.slice A len cap)) (aL:ev E y=some (.int k i)) (aq:i=(lo:Int)) (τ:lo≤len):
  cS P E ⟨d, .slice t x (some y) none none,ty,pos,af,g⟩ w (.slice (eF A cap lo s) (len - lo) (cap - lo)) w:=λ n a ha=>by
 subst aq;have lH:P.underlying t=some (.slice (P.elem t)):=by simp [Program.elem,aG]
 have mY:P.elem t=e:=by simp [Program.elem,aG]
 have aw:=run_slice_l (P:=P) (w:=w) t A len cap lH k (lo:Int) (by omega) (by omega);have a1:=aUe (P:=P) (w:=w) t (.slice A len cap) (some (.int k (lo:Int))) none none lH;rw [mY,hs w] at aw;simp only [execOp,ha.ev hx,ha.ev aL,Option.map,a1,aw,aRS,aRJ,aRT,sliced,aSy,eF]
theorem aEm {op:Op} (hr:cS P E ⟨none,op,ty,pos,af,none⟩ w v w') (h:cE P n ops Q rest E w'):cE P n ops Q (⟨none,op,ty,pos,af,none⟩::rest) E w:=λ a ha=>by
 refine Ev Z ?_;unfold Oper.wp;rw [hr n a ha];exact h _ ha
theorem aCB {α:Type} {R:κ α} {e by_ B c k q g m:Nat} {l:List α} {z:Value} (aG:P.underlying t=some (.slice e)) (aq:(P.info? e).map (λ i=>(i.zero,i.size,i.bytes))=some (some z,m,by_)) (hm:R.size=m) (aH:0<m) (bs:z.cells.size=m) (nC:z.cells.toList.all (·.oneCell')=true)
  (hr:∀ (j:Nat) u,z.cells[j]? =some u→R.raw j u) (h:R.aD e by_ w B (κ.ae (some ⟨g,0,none⟩)) (some ⟨g,0,none⟩) c l) (hR:R.sM) (ar:k≤l.length) (I:0<q) (zn:k+q≤c):
  ∃ aP,Mod [g] w aP∧R.aD e by_ aP B (κ.ae (some ⟨g,0,none⟩)) (some ⟨g,0,none⟩) c (l.take k)∧(Builtin.clear_ #[t] ty #[.slice (some ⟨g,k * m,none⟩) q (c - k)]).run P w= .ok (.tuple #[]) aP:=by
 subst hm;have hlen:(Builtin.zeroCells z.cells q).toList.length=q * R.size:=by rw [aTy];simp [Builtin.zeroCells,bs]
 obtain ⟨hle,ps,hf,hn,bS,de⟩:=id h;have dp:∀ j,j<q * R.size→k * R.size+j<c * R.size:=λ j ay=>by
  have a_:k * R.size+q * R.size=(k+q) * R.size:=by rw [← aS9]
  have bj:=aSm R.size zn;omega
 have aha:∀ (j:Nat) u,(Builtin.zeroCells z.cells q).toList[j]? =some u→u.oneCell'=true∧R.raw (j % R.size) u:=λ j u hu=>by
  obtain ⟨i,aq,aK⟩:=aGt hu;have aK:=aK (by omega);rw [bs] at aq;subst aq;refine ⟨?_,hr _ u aK⟩;have:=aSr.1 nC u (by rw [aWj];exact aWe aK);exact this
 have hP:=run_storeCells_cells (P:=P) g (k * R.size) (Builtin.zeroCells z.cells q).toList 0 w (λ j ay=>by
   rw [hlen] at ay;obtain ⟨u,hu,_⟩:=bS.some_ (k * R.size+0+j) (dp j ay);rw [hu];rfl) (λ j _=>bS.free _) (λ v hv=>by
   obtain ⟨j,ay⟩:=aTM.1 hv;exact (aha j v ay).1)
 rw [Nat.add_zero] at hP;refine ⟨_,κ.Mod.setCells g _ _ w,h.aCX hR k (by omega) _ (λ j u hu=>(aha j u hu).2), ?_⟩;have axW:∀ w,(zeroValue e).run P w= .ok z w:=λ w=>by
  cases I:P.info? e with
  | none=>rw [I] at aq;cases aq
  | some i =>
   rw [I] at aq;simp only [aS5,aUb,aVc] at aq;simp [zeroValue,typeInfo,I,aq.1]
 obtain ⟨p,rfl⟩:∃ p,q=p+1:=⟨q - 1,by omega⟩;simp [Builtin.clear_,aSL aG,axW,hP]
theorem uz {α:Type} {R:κ α} {e by_ B c k q m:Nat} {A:Option Addr} {l:List α} {z:Value} (aG:P.underlying t=some (.slice e)) (aq:(P.info? e).map (λ i=>(i.zero,i.size,i.bytes))=some (some z,m,by_)) (hm:R.size=m) (aH:0<m) (bs:z.cells.size=m) (nC:z.cells.toList.all (·.oneCell')=true)
  (hr:∀ (j:Nat) u,z.cells[j]? =some u→R.raw j u) (h:R.aD e by_ w B (κ.ae A) A c l) (hR:R.sM) (ar:k≤l.length) (I:0<q) (zn:k+q≤c) (hA:∃ b,A=some ⟨b,0,none⟩) (hx:ev E x=some (.slice (eF A c k m) q (c - k)))
  (hK:∀ aP,Mod (κ.ae A) w aP→R.aD e by_ aP B (κ.ae A) A c (l.take k)→cE P n ops Q rest E aP):
  cE P n ops Q (⟨none, .call {callee:= .builtin .clear,args:=#[x],argTypes:=#[t]},ty,pos,af,none⟩::rest) E w:=by
 obtain ⟨b,rfl⟩:=hA;obtain ⟨aP,Fe,hS,kM⟩:=aCB (ty:=ty) aG aq hm aH bs nC hr h hR ar I zn;have axv:eF (some ⟨b,0,none⟩) c k m=some ⟨b,k * m,none⟩:=by
  unfold eF;rw [aRL (by omega)];simp [Addr.add];try omega
 rw [axv] at hx;refine aEm (v:= .tuple #[]) (w':=aP) (bi (vs:= [.slice (some ⟨b,k * m,none⟩) q (c - k)]) (by simp only [hq,hx]) λ cs=> ?_) (hK aP Fe hS);simp only [builtin,aRS,kM,aRJ,aRT]
theorem ayj {k:IntKind} {i j:Int} (aH:0≤i) (τ:0<j) (hw:k.wrap (i / j)=i / j):Op.intDiv .quo k i j=pure (.int k (i / j)):=by
 unfold Op.intDiv;have e:i.tdiv j=i / j:=aVN aH;rw [aRL (by omega)];simp only [e,hw]
theorem ayk {k:IntKind} {i j:Int} (aH:0≤i) (τ:0<j):Op.intDiv .rem k i j=pure (.int k (i % j)):=by
 unfold Op.intDiv;have e:i.tmod j=i % j:=Int.tmod_eq_emod_of_nonneg aH;rw [aRL (by omega)];simp only [e]
section
variable {k:IntKind} {i j:Int} {u:TypeId}
theorem apy (hx:ev E x=some (.int k i)) (aL:ev E y=some (.int k j)) (aH:0≤i) (τ:0<j) (hw:k.wrap (i / j)=i / j):cS P E ⟨d, .binOp .quo t x y u,ty,pos,af,g⟩ w (.int k (i / j)) w:=pa hx aL (binOp_quo t k i j) (by rw [ayj aH τ hw];rfl)
theorem apA (hx:ev E x=some (.int k i)) (aL:ev E y=some (.int k j)) (aH:0≤i) (τ:0<j):cS P E ⟨d, .binOp .rem t x y u,ty,pos,af,g⟩ w (.int k (i % j)) w:=pa hx aL (binOp_rem t k i j) (by rw [ayk aH τ];rfl)
theorem aCe {i j:Int} (aH:0≤i) (τ:0<j) (aa:i≤9223372036854775807):IntKind.i64.wrap (i / j)=i / j:=by
 have a_:0≤i / j:=Int.ediv_nonneg aH (by omega);have bj:i / j≤i:=Int.ediv_le_self _ aH;exact bE ⟨by omega,by omega⟩
end
end
end
section
section
variable {α:Type} {p:α→Bool} {l L:List α} {d:α} {i j k:Nat}
theorem ih (h:k<l.length):l.getD k d∈l:=by rw [aRB,aRD h];exact aSO h
theorem mn (h:k<l.length):l.getD k d=l[k]:=by rw [aRB,aRD h];rfl
theorem Q0 (h:∀ i,i<l.length→p (l.getD i d)=false):fT p l= -1:=Fm λ j ay=>by rw [← mn (d:=d) ay];exact h j ay
theorem Q1 (ar:k<l.length) (τ:p (l.getD k d)=true) (h:∀ i,i<k→p (l.getD i d)=false):fT p l=(k:Int):=
 Fo ar (by rw [← mn (d:=d) ar];exact τ) λ j ay=>by rw [← mn (d:=d) (by omega:j<l.length)];exact h j ay
theorem wK (h:k<l.length):l.take (k+1)=l.take k++ [l.getD k d]:=by rw [aR2 h,mn h]
theorem ax9 (h:fT p l= -1):(l.filter λ x=> !p x)=l:=by
 rcases LW p l with ⟨_,hn⟩ | ⟨k,ar,e,_⟩
 ·exact aU9.2 λ x hx=>by rw [hn x hx];rfl
 ·omega
theorem ax7 (h:¬ fT p l= -1):∃ k,k<l.length∧fT p l=(k:Int)∧l.take k=(l.take (k+1)).filter λ x=> !p x:=by
 rcases LW p l with ⟨e,_⟩ | ⟨k,ar,e,hp,hn⟩
 ·exact absurd e h
 ·refine ⟨k,ar,e, ?_⟩;rw [wK (d:=l[k]) ar,aS2,mn ar,aSP,hp];simp only [aTJ,aSq,aS0,List.filter_nil,aR7];refine (aU9.2 λ x hx=> ?_).symm;obtain ⟨j,ay,rfl⟩:=aSw.1 hx;rw [aRE] at ay;rw [aWH,hn j (by omega)];rfl
theorem aDx (kK:j<L.length) (ay:j<l.length) (h:L.drop j=l.drop j):L[j]? =some (l.getD j d):=by
 rw [mn ay,aRD kK];have:=aSI List.head? h;simp only [List.head?_drop,aRD kK,aRD ay] at this;exact this
theorem adV (h:L.drop j=l.drop j):L.drop (j+1)=l.drop (j+1):=by
 have:=aSI (List.drop 1) h
 rwa [aUo,aUo] at this
theorem arv {x:α} (aq:i<j) (h:L.drop j=l.drop j):(L.set i x).drop (j+1)=l.drop (j+1):=by
 rw [aWs (by omega)];exact adV h
theorem art (ay:j<l.length) (h:L.take i=(l.take j).filter λ x=> !p x) (hp:(!p (l.getD j d))=false):L.take i=(l.take (j+1)).filter λ x=> !p x:=by
 rw [wK (d:=d) ay,aS2,← h,aSP,hp];simp
theorem aru (kK:L.length=l.length) (aq:i<j) (ay:j<l.length) (h:L.take i=(l.take j).filter λ x=> !p x) (hp:(!p (l.getD j d))=true):(L.set i (l.getD j d)).take (i+1)=(l.take (j+1)).filter λ x=> !p x:=by
 rw [wK (d:=d) ay,aS2,← h,aSP,hp];simp only [aTm,List.filter_nil];rw [aR2 (by rw [aRK];omega),aWn (by omega),aWb]
end
end
section
theorem Oy:eC prog ax.rep 25 49 16:=eC.kT (z:=ax.zero) (k:=2) underlying25 ax.info rfl rfl (by decide) ax.h8
def gU (n:Int):Int:=if n<0 then -1 else if 0<n then 1 else 0
def cp (n:Int):Int:=if n<0 then -n else if 0<n then n else 0
theorem jh (n:Int):0≤cp n∧(-2000≤n∧n≤2000→cp n≤2000)∧(0≤n→cp n=n)∧(n<0→cp n= -n):=by unfold cp;split<;>(try split)<;>omega
theorem IP (n:Int): -1≤gU n∧gU n≤1:=by unfold gU;split<;>(try split)<;>omega
def a8 (a b:ax):Int:=max (cp (b.x - a.x)) (cp (b.y - a.y))
def wz (a b:ax):Int:=min (cp (b.x - a.x)) (cp (b.y - a.y))
def p6 (a b:ax) (s:Int×ax):Int×ax :=
  (if decide (a8 a b≤s.1+2 * wz a b) then s.1+2 * wz a b - 2 * a8 a b else s.1+2 * wz a b,
   ⟨if !decide (cp (b.x - a.x)<cp (b.y - a.y)) || decide (a8 a b≤s.1+2 * wz a b) then s.2.x+gU (b.x - a.x) else s.2.x,
    if decide (cp (b.x - a.x)<cp (b.y - a.y)) || decide (a8 a b≤s.1+2 * wz a b) then s.2.y+gU (b.y - a.y) else s.2.y⟩)
def cQ (a b:ax):Nat→Int×ax
  | 0=>(0,a)
  | k+1=>p6 a b (cQ a b k)
def tD (a b:ax) (k:Nat):List ax:=(List.range (k+1)).map λ i=>(cQ a b i).2
def ht (a b:ax):List ax:=tD a b (a8 a b).toNat
theorem RE (a b:ax) (k:Nat):tD a b (k+1)=tD a b k++ [(cQ a b (k+1)).2]:=by unfold tD;rw [aTg,aR3];rfl
theorem FT (a b:ax) (k:Nat):(tD a b k).length=k+1:=by simp [tD]
theorem atM (a b:ax):0≤wz a b∧wz a b≤a8 a b:=by
  have τ:=jh (b.x - a.x);have aa:=jh (b.y - a.y);unfold wz a8;omega
theorem ai6 (a b:ax) (k:Nat): -a8 a b≤(cQ a b k).1∧(cQ a b k).1≤a8 a b:=by
  have hf:=atM a b;induction k with
  | zero=>show -a8 a b≤0∧0≤a8 a b;omega
  | succ k bD =>
    show -a8 a b≤(p6 a b (cQ a b k)).1∧(p6 a b (cQ a b k)).1≤a8 a b;unfold p6;simp only [aR6];split<;>omega
theorem ai7 (a b:ax) (k:Nat):a.x - k≤(cQ a b k).2.x∧(cQ a b k).2.x≤a.x+k∧a.y - k≤(cQ a b k).2.y∧(cQ a b k).2.y≤a.y+k:=by
  have τ:=IP (b.x - a.x);have aa:=IP (b.y - a.y);induction k with
  | zero=>show a.x - _≤a.x∧a.x≤a.x+_∧a.y - _≤a.y∧a.y≤a.y+_;omega
  | succ k bD =>
    show a.x - _≤(p6 a b (cQ a b k)).2.x∧(p6 a b (cQ a b k)).2.x≤a.x+_∧a.y - _≤(p6 a b (cQ a b k)).2.y∧(p6 a b (cQ a b k)).2.y≤a.y+_;unfold p6;simp only;split<;>split<;>omega
theorem Rp (c:ax) (w:World) (h: -1000≤c.x∧c.x≤1000∧ -1000≤c.y∧c.y≤1000):
    Calls prog 193 #[.agg #[.int .i64 c.x, .int .i64 c.y]] w (λ e w'=>e= .returned (.bool true)∧Ext w w'):=by
  refine ch (n:=23) func193 Z Z Z ?_;refine aj<|cB Z Z Z Z λ cv bJ a7 ee ab=> ?_;have:=a7.size;have bg:=γ (Ext.bF w) a7;have ei:=ab.lt;refine va Z<|ai<|aj<|J (av iL Z)<|J (ao Z (ab.one bc Z))<|J (av iL Z)<|J (ao Z (ab.one bc Z))<|J (Yk Z (bE (by omega)))<|J (av iM Z)<|J (ao Z (ab.one bc Z))<|J (av iM Z)<|J (ao Z (ab.one bc Z))<|J (Yk Z (bE (by omega)))<|J (azC Z Z Z Z)<|J (ble Z Z)<|vm Z<|bp Z Z Z Z (λ hc=>av iL Z) Z<|bp Z Z Z Z (λ hc=>ao (gt hc Z) (ab.one bc Z)) Z<|bp Z Z Z Z (λ hc=>av iM Z) Z<|bp Z Z Z Z (λ hc=>ao (gt hc Z) (ab.one bc Z)) Z<|bp Z Z Z Z (λ hc=>nL (gt hc Z) (gt hc Z)) Z<|bp Z Z Z Z (λ hc=>j4 (gt hc Z) Z) Z<| ?_;refine J (e3 Z Z Z Z)<|va Z<|ai<|rt<|bb (.tmp Z .nil)<| ?_;exact ⟨akv (by simp only [aRI,aR6];omega),bg⟩
theorem R0 (n:Int) (w:World) (h: -2000≤n∧n≤2000):
    Calls prog 194 #[.int .i64 n] w (λ e w'=>e= .returned (.tuple #[.int .i64 (gU n), .int .i64 (cp n)])∧Ext w w'):=by
  refine ch (n:=13) func194 Z Z Z ?_;refine aj<|va Z<|va Z<|ai<|aA<|bM<|aj<|vm Z<|J (blt Z Z)<|va Z<|ai<| ?_;refine eg Z (λ mo=> ?_) (λ mo=> ?_)
  · refine aj<|vm rfl<|J (Yk rfl (bE (by omega)))<|va rfl<|va rfl<|ai<|rt<|e_<|bT<|bb (.tmp rfl (.tmp rfl .nil))<| ?_
    exact ⟨by unfold gU cp;simp only [*,aTm,aS0];try rfl,(Ext.bF w)⟩
  · refine aj<|vm rfl<|J (iw rfl rfl)<|va rfl<|ai<| ?_
    refine eg Z (λ avj=> ?_) (λ avj=> ?_)
    · refine aj<|vm rfl<|va rfl<|va rfl<|ai<|rt<|e_<|bT<|bb (.tmp rfl (.tmp rfl .nil))<| ?_
      exact ⟨by unfold gU cp;simp only [*,aTm,aS0];try rfl,(Ext.bF w)⟩
    · refine e9<|b0<|aV<|aj<|va rfl<|va rfl<|ai<|rt<|bb (.tmp rfl (.tmp rfl .nil))<| ?_
      exact ⟨by unfold gU cp;simp only [*,aTm,aS0];try rfl,(Ext.bF w)⟩
theorem ab7 (a b:ax) (w:World) (h: -1000≤a.x∧a.x≤1000∧ -1000≤a.y∧a.y≤1000) (aa: -1000≤b.x∧b.x≤1000∧ -1000≤b.y∧b.y≤1000):
    Calls prog 161 #[.agg #[.int .i64 a.x, .int .i64 a.y], .agg #[.int .i64 b.x, .int .i64 b.y]] w (λ e w'=>e= .returned (.tuple #[.int .i64 (a8 a b), .int .i64 (cp (b.x - a.x)+cp (b.y - a.y)), .int .i64 0])∧Ext w w'):=by
  refine ch (n:=43) func161 Z Z Z ?_;refine aj<|cB Z Z Z Z λ cv bJ a7 ee ab=> ?_;have:=a7.size;have bg:=γ (Ext.bF w) a7;have ei:=ab.lt;refine cB Z Z Z Z λ eK cw bl ie ag=> ?_;have:=bl.size;have bQ:=γ bg bl;have h3:=ag.lt;refine va Z<|va Z<|va Z<|ai<|aA<|aj<| ?_;have ab:=ab.later bl;refine J (ao Z (ab.all cj bU))<|ca PL Z Z ((Rp a _ (by omega)).mono ?_);rintro e h6 ⟨rfl,gH⟩;refine ⟨_,Z, ?_⟩;have:=gH.size;have df:=γ bQ gH;refine J (dZ Z)<|vm Z<|nT Z Z Z<| ?_;have ag:=ag.later gH;refine J (ao Z (ag.all cj bU))<|nT Z Z Z<|ca PL Z Z ((Rp b _ (by omega)).mono ?_);rintro e vd ⟨rfl,iB⟩;refine ⟨_,Z, ?_⟩;have:=iB.size;have ik:=γ df iB;refine nT Z Z Z<|J (dZ Z)<|J (tC Z Z)<|ai<|hL Z<|bt<|aj<|J (av iL Z)<| ?_;have ag:=ag.later iB;refine J (ao Z (ag.one bc Z))<|J (av iL Z)<| ?_;have ab:=ab.later (γ gH iB);refine J (ao Z (ab.one bc Z))<|J (mm Z Z (bE (by have:=jh (b.x - a.x);have:=jh (b.y - a.y);omega)))<|ca PN Z Z ((R0 (b.x - a.x) _ (by omega)).mono ?_);rintro e BH ⟨rfl,kZ⟩;refine ⟨_,Z, ?_⟩;have:=kZ.size;have ma:=γ ik kZ;refine vm Z<|J (ex Z Z)<|J (ex Z Z)<|va Z<|va Z<|ai<|aj<|J (av iM Z)<| ?_;have ag:=ag.later kZ;refine J (ao Z (ag.one bc Z))<|J (av iM Z)<| ?_;have ab:=ab.later kZ;refine J (ao Z (ab.one bc Z))<|J (mm Z Z (bE (by have:=jh (b.x - a.x);have:=jh (b.y - a.y);omega)))<|ca PN Z Z ((R0 (b.y - a.y) _ (by omega)).mono ?_);rintro e ve ⟨rfl,gV⟩;refine ⟨_,Z, ?_⟩;have:=gV.size;have lM:=γ ma gV;refine vm Z<|J (ex Z Z)<|J (ex Z Z)<|va Z<|va Z<|ai<|aj<|vm Z<|vm Z<|J (mx Z Z)<|vm Z<|vm Z<|J (bad Z Z (bE (by have:=jh (b.x - a.x);have:=jh (b.y - a.y);omega)))<|va Z<|va Z<|va Z<|ai<|rt<|bb (.tmp Z (.tmp Z (.tmp Z .nil)))<| ?_;exact ⟨Z,lM⟩
theorem aqn (a b:ax) (w:World) (h: -1000≤a.x∧a.x≤1000∧ -1000≤a.y∧a.y≤1000) (aa: -1000≤b.x∧b.x≤1000∧ -1000≤b.y∧b.y≤1000):
    Calls prog 216 #[.agg #[.int .i64 a.x, .int .i64 a.y], .agg #[.int .i64 b.x, .int .i64 b.y]] w (λ e w'=>∃ A c,e= .returned (.tuple #[.slice A (ht a b).length c, .int .i64 0])∧ax.rep.aD 49 16 w' w.heap.size (κ.ae A) A c (ht a b)∧Ext w w'):=by
  refine ch (n:=93) func216 Z Z Z ?_;refine aj<|cB Z Z Z Z λ cv bJ a7 ee ab=> ?_;have:=a7.size;have bg:=γ (Ext.bF w) a7;have ei:=ab.lt;refine cB Z Z Z Z λ eK cw bl ie ag=> ?_;have:=bl.size;have bQ:=γ bg bl;have h3:=ag.lt;refine va Z<|va Z<|ai<|aA<|aj<| ?_;have ab:=ab.later bl;refine J (ao Z (ab.all cj bU))<|ca PL Z Z ((Rp a _ (by omega)).mono ?_);rintro e h6 ⟨rfl,gH⟩;refine ⟨_,Z, ?_⟩;have:=gH.size;have df:=γ bQ gH;refine J (dZ Z)<|vm Z<|nT Z Z Z<| ?_;have ag:=ag.later gH;refine J (ao Z (ag.all cj bU))<|nT Z Z Z<|ca PL Z Z ((Rp b _ (by omega)).mono ?_);rintro e vd ⟨rfl,iB⟩;refine ⟨_,Z, ?_⟩;have:=iB.size;have ik:=γ df iB;refine nT Z Z Z<|J (dZ Z)<|J (tC Z Z)<|ai<|hL Z<|bt<|aj<|J (av iL Z)<| ?_;have ag:=ag.later iB;refine J (ao Z (ag.one bc Z))<|J (av iL Z)<| ?_;have ab:=ab.later (γ gH iB);refine J (ao Z (ab.one bc Z))<|J (mm Z Z (bE (by omega)))<|ca PN Z Z ((R0 (b.x - a.x) _ (by omega)).mono ?_);rintro e BH ⟨rfl,kZ⟩;refine ⟨_,Z, ?_⟩;have:=kZ.size;have ma:=γ ik kZ;refine vm Z<|J (ex Z Z)<|J (ex Z Z)<|va Z<|va Z<|ai<|aj<|J (av iM Z)<| ?_;have ag:=ag.later kZ;refine J (ao Z (ag.one bc Z))<|J (av iM Z)<| ?_;have ab:=ab.later kZ;refine J (ao Z (ab.one bc Z))<|J (mm Z Z (bE (by omega)))<|ca PN Z Z ((R0 (b.y - a.y) _ (by omega)).mono ?_);rintro e ve ⟨rfl,gV⟩;refine ⟨_,Z, ?_⟩;have:=gV.size;have lM:=γ ma gV;refine vm Z<|J (ex Z Z)<|J (ex Z Z)<|va Z<|va Z<|ai<|aj<|vm Z<|vm Z<|va Z<|va Z<|ai<|aA<|aj<|vm Z<|vm Z<|J (iw Z Z)<|ai<| ?_;refine eg Z (λ CS=> ?_) (λ CS=> ?_)
  · have qV:=jh (b.x - a.x)
    have oZ:=jh (b.y - a.y);have ib:a8 a b=cp (b.y - a.y):=by unfold a8;omega
    have Ly:wz a b=cp (b.x - a.x):=by unfold wz;omega
    have Li:decide (cp (b.x - a.x)<cp (b.y - a.y))=true:=by exact aSe CS
    refine rg<|vm Z<|vm Z<|va Z<|va Z<|ai<|aj<| ?_;have ab:=ab.later gV;refine J (ao Z (ab.all cj bU))<|cX (e:= 49) (cs:= [.int .i64 a.x, .int .i64 a.y]) Z (λ _=>by kernel_rfl) Z λ BJ T' fb aMh aaD=> ?_;have:=fb.size;have lp:=γ lM fb;have aOI:=aaD.lt;refine va Z<|ai<|aj<|va Z<|ai<|aA<|aj<|vm Z<|vm Z<|ai<|bM<| ?_;have ab:=ab.later fb;have azm:∀ q∈κ.ae (some ⟨T',0,none⟩),T'≤q:=λ q I=>aTi (aRz.1 I).symm;refine e8 (λ cm cl aU=>∃ k:Nat,∃ j0:Option Addr,∃ co:Nat,cl= [(2, .pointer (some ⟨bJ,0,none⟩)),(4, .slice none 0 0),(5, .int .i64 0),(6, .int .i64 (gU (b.x - a.x))),(7, .int .i64 (cp (b.x - a.x))),(8, .int .i64 (gU (b.y - a.y))),(9, .int .i64 (cp (b.y - a.y))),(10, .int .i64 (cp (b.y - a.y))),(11, .int .i64 (cp (b.x - a.x))),(12, .slice j0 ((tD a b k).length) co),(13, .int .i64 ((cQ a b k).1)),(50, .int .i64 (cp (b.y - a.y))),(51, .int .i64 (k:Int))]∧cm=(cp (b.y - a.y)).toNat - k∧Ext w aU∧aR aU bJ [.int .i64 ((cQ a b k).2.x), .int .i64 ((cQ a b k).2.y)] 49 (0,0)∧ax.rep.aD 49 16 aU w.heap.size (κ.ae j0) j0 co (tD a b k)∧((k:Int)≤cp (b.y - a.y))∧(∀ q∈κ.ae j0,q=bJ→False)) _ _ ⟨0,some ⟨T',0,none⟩,1,Z,Z,lp,ab,(aR.wD (R:=ax.rep) (by_:=16) (B:=w.heap.size) (k:= [a]) aaD [[.int .i64 a.x, .int .i64 a.y]] Z ⟨⟨Z,bI.2 (by omega),bI.2 (by omega)⟩,trivial⟩ (by simp) (by simp) (by decide) (by omega)),(by have:=jh (b.y - a.y);have:=jh (b.x - a.x);omega),(λ q I Φ=>by (have:=azm q I;omega))⟩ (.cons Z (.cons Z (.cons Z (.cons Z (.cons Z (.cons Z (.cons Z (.cons Z (.cons Z (.cons Z (.cons (bZ Z (by first | omega | rfl | (simp<;>omega))) (.cons Z (.cons (bZ Z (by first | omega | rfl | (simp<;>omega))) .nil))))))))))))) ?_;rintro uW ans BL ⟨k,j0,co,rfl,rfl,k2,fW,ff,ar,AH⟩;have:=k2.size;have aB0:=fW.lt;have aQc:=λ q I=>(ff.lt q I).2;have Φ:=ai6 a b k;have hp:=ai7 a b k;have fj:=IP (b.x - a.x);have gC:=IP (b.y - a.y);have qV:=jh (b.x - a.x);have oZ:=jh (b.y - a.y);have nB:=FT a b k;refine aj<|J (blt Z Z)<|ai<|aA<| ?_;refine eg Z (λ avm=> ?_) (λ avm=> ?_)
    · refine bt<|aA<|bM<|aj<|vm rfl<|vm rfl<|J (Cx rfl rfl (bE (by omega)))<|J (bad rfl rfl (bE (by omega)))<|va rfl<|ai<|aj<|vm rfl<|vm rfl<|J (j4 rfl rfl)<|va rfl<|ai<|aA<|aj<| ?_
      refine vm Z<|ai<| ?_;refine G8 Z (λ K8=> ?_) (λ K8=> ?_)
      · rw [ib] at Φ
        have E1:decide (cp (b.y - a.y)≤((cQ a b k).1)+(2 * (cp (b.x - a.x))))=true:=by exact aSe K8
        refine rg<|vm Z<|vm Z<|J (Cx Z Z (bE (by omega)))<|J (mm Z Z (bE (by omega)))<|va Z<|ai<|aA<|aj<|vm Z<|vm Z<|J (j4 Z Z)<|vm Z<|bp Z Z Z Z (λ hc=>aM Z) Z<|J (fv Z Z Z Z)<|ai<| ?_;have Wk:((decide (cp (b.y - a.y)≤cp (b.x - a.x))) || (decide (cp (b.y - a.y)≤((cQ a b k).1)+(2 * (cp (b.x - a.x))))))=true:=by simp only [aSp,aR6];omega
        refine fA (by rw [← Wk];rfl)<|rg<|J (av iL Z)<|J (ao Z (fW.one bc Z))<|vm Z<|J (bad Z Z (bE (by omega)))<|J (av iL Z)<|st (new:= [.int .i64 (((cQ a b k).2.x)+(gU (b.x - a.x))), .int .i64 ((cQ a b k).2.y)]) Z Z fW Z dK Z Z Z λ Sz kn fW=> ?_;have:=kn.size;have vu:=Ext.mod k2 kn bu;refine ai<|aA<|aj<|vm Z<|vm Z<|J (iw Z Z)<|vm Z<|bp Z Z Z Z (λ hc=>aM Z) Z<|J (fv Z Z Z Z)<|ai<| ?_;have A4:((decide (cp (b.x - a.x)<cp (b.y - a.y))) || (decide (cp (b.y - a.y)≤((cQ a b k).1)+(2 * (cp (b.x - a.x))))))=true:=by simp only [aSp,aR6];omega
        refine fA (by rw [← A4];rfl)<|rg<|J (av iM Z)<|J (ao Z (fW.one bc Z))<|vm Z<|J (bad Z Z (bE (by omega)))<|J (av iM Z)<|st (new:= [.int .i64 (((cQ a b k).2.x)+(gU (b.x - a.x))), .int .i64 (((cQ a b k).2.y)+(gU (b.y - a.y)))]) Z Z fW Z dK Z Z Z λ Np hB fW=> ?_;have:=hB.size;have tY:=Ext.mod vu hB bu;refine ai<|rg<|vm Z<|J (ao Z (fW.all cj bU))<|cX (e:= 49) (cs:= [.int .i64 (((cQ a b k).2.x)+(gU (b.x - a.x))), .int .i64 (((cQ a b k).2.y)+(gU (b.y - a.y)))]) Z (λ _=>by kernel_rfl) Z λ aEV aIl wS aMs aaI=> ?_;have:=wS.size;have S1:=γ tY wS;have aB6:=aaI.lt;have ff:=ff.mod kn (λ q I h=>by have Φ:=aRz.1 h;exfalso;(exact AH q I Φ));have ff:=ff.mod hB (λ q I h=>by have Φ:=aRz.1 h;exfalso;(exact AH q I Φ));have ff:=ff.later wS;refine ap Oy κ.di ff (aR.gB (R:=ax.rep) (by_:=16) (q:=(⟨((cQ a b k).2.x)+(gU (b.x - a.x)),((cQ a b k).2.y)+(gU (b.y - a.y))⟩:ax)) aaI ⟨Z,⟨bI.2 (by (try dsimp only);omega),bI.2 (by (try dsimp only);omega)⟩⟩ (by decide)) Z Z (by simp only [aRG,aRM];omega) (by simp only [aRG,aRM];omega) S1.size Z λ Ja am4 ap5 nJ abN auu aNM=> ?_;have:=nJ.size;have sI:=Ext.mod S1 nJ (λ q I=>(ff.lt q I).1);have Sl:=λ q I=>(abN.lt q I).2;have:=nJ.size;refine va Z<|nl<|b0<|aV<|rg<|J (bad Z Z (bE (by omega)))<|vm Z<|nl<| ?_;have a_:cQ a b (k+1)=((((cQ a b k).1)+(2 * (cp (b.x - a.x)))) - (2 * (cp (b.y - a.y))),⟨((cQ a b k).2.x)+(gU (b.x - a.x)),((cQ a b k).2.y)+(gU (b.y - a.y))⟩):=by
          show p6 a b (cQ a b k)=_;unfold p6;simp only [ib,Ly,Li,E1,aTm,aS0,aVt,aVs,aVd,aUA,aSq,aUu,aUk,aTJ,aU5]
        have bj:=RE a b k;rw [a_] at bj;have cV:(tD a b (k+1)).length=k+2:=FT a b (k+1);have fW:=fW.later wS;have fW:=fW.mod nJ (λ I=>AH _ I rfl);exact c6 _ _ ⟨k+1,am4,ap5,Z,Z,sI,(by rw [a_];exact fW),(by rw [bj];exact abN),by omega,(λ q I Φ=>by (exact aRO (auu q I) (λ Mg=>by (exact AH q Mg Φ)) (λ Mg=>by omega)))⟩ (by omega) (.cons Z (.cons Z (.cons Z (.cons Z (.cons Z (.cons Z (.cons Z (.cons Z (.cons Z (.cons (by rw [bj];rfl) (.cons (bZ Z (by rw [a_])) (.cons Z (.cons (bZ Z (by first | omega | rfl | (simp<;>omega))) .nil)))))))))))))
      · rw [ib] at Φ
        have E1:decide (cp (b.y - a.y)≤((cQ a b k).1)+(2 * (cp (b.x - a.x))))=false:=by exact aSk K8
        refine bt<|aA<|aj<|vm Z<|vm Z<|J (j4 Z Z)<|vm Z<|bp Z Z Z Z (λ hc=>aM Z) Z<|J (fv Z Z Z Z)<|ai<| ?_;have avt:((decide (cp (b.y - a.y)≤cp (b.x - a.x))) || (decide (cp (b.y - a.y)≤((cQ a b k).1)+(2 * (cp (b.x - a.x))))))=false:=by simp only [aSn,aSg];omega
        refine hL (by rw [← avt];rfl)<|bt<|aA<|aj<|vm Z<|vm Z<|J (iw Z Z)<|vm Z<|bp Z Z Z Z (λ hc=>aM Z) Z<|J (fv Z Z Z Z)<|ai<| ?_;have Wo:((decide (cp (b.x - a.x)<cp (b.y - a.y))) || (decide (cp (b.y - a.y)≤((cQ a b k).1)+(2 * (cp (b.x - a.x))))))=true:=by simp only [aSp,aR6];omega
        refine fA (by rw [← Wo];rfl)<|rg<|J (av iM Z)<|J (ao Z (fW.one bc Z))<|vm Z<|J (bad Z Z (bE (by omega)))<|J (av iM Z)<|st (new:= [.int .i64 ((cQ a b k).2.x), .int .i64 (((cQ a b k).2.y)+(gU (b.y - a.y)))]) Z Z fW Z dK Z Z Z λ Ga x2 fW=> ?_;have:=x2.size;have vx:=Ext.mod k2 x2 bu;refine ai<|rg<|vm Z<|J (ao Z (fW.all cj bU))<|cX (e:= 49) (cs:= [.int .i64 ((cQ a b k).2.x), .int .i64 (((cQ a b k).2.y)+(gU (b.y - a.y)))]) Z (λ _=>by kernel_rfl) Z λ ZH aIt hV aMC aaM=> ?_;have:=hV.size;have vy:=γ vx hV;have aO5:=aaM.lt;have ff:=ff.mod x2 (λ q I h=>by have Φ:=aRz.1 h;exfalso;(exact AH q I Φ));have ff:=ff.later hV;refine ap Oy κ.di ff (aR.gB (R:=ax.rep) (by_:=16) (q:=(⟨(cQ a b k).2.x,((cQ a b k).2.y)+(gU (b.y - a.y))⟩:ax)) aaM ⟨Z,⟨bI.2 (by (try dsimp only);omega),bI.2 (by (try dsimp only);omega)⟩⟩ (by decide)) Z Z (by simp only [aRG,aRM];omega) (by simp only [aRG,aRM];omega) vy.size Z λ SD am7 ap9 tA abQ auw aNR=> ?_;have:=tA.size;have z7:=Ext.mod vy tA (λ q I=>(ff.lt q I).1);have aQn:=λ q I=>(abQ.lt q I).2;have:=tA.size;refine va Z<|nl<|b0<|aV<|rg<|J (bad Z Z (bE (by omega)))<|vm Z<|nl<| ?_;have a_:cQ a b (k+1)=(((cQ a b k).1)+(2 * (cp (b.x - a.x))),⟨(cQ a b k).2.x,((cQ a b k).2.y)+(gU (b.y - a.y))⟩):=by
          show p6 a b (cQ a b k)=_;unfold p6;simp only [ib,Ly,Li,E1,aTm,aS0,aVt,aVs,aVd,aUA,aSq,aUu,aUk,aTJ,aU5]
        have bj:=RE a b k;rw [a_] at bj;have cV:(tD a b (k+1)).length=k+2:=FT a b (k+1);have fW:=fW.later hV;have fW:=fW.mod tA (λ I=>AH _ I rfl);exact c6 _ _ ⟨k+1,am7,ap9,Z,Z,z7,(by rw [a_];exact fW),(by rw [bj];exact abQ),by omega,(λ q I Φ=>by (exact aRO (auw q I) (λ aiA=>by (exact AH q aiA Φ)) (λ aiA=>by omega)))⟩ (by omega) (.cons Z (.cons Z (.cons Z (.cons Z (.cons Z (.cons Z (.cons Z (.cons Z (.cons Z (.cons (by rw [bj];rfl) (.cons (bZ Z (by rw [a_])) (.cons Z (.cons (bZ Z (by first | omega | rfl | (simp<;>omega))) .nil)))))))))))))
    · refine dH<|dG<|ef<|dF<|aV<|aj<|vm rfl<|va rfl<|va rfl<|ai<|rt<|bb (.tmp rfl (.tmp rfl .nil))<| ?_
      have p2:k=(a8 a b).toNat:=by omega
      subst p2;exact ⟨j0,co,Z,ff,k2⟩
  · have qV:=jh (b.x - a.x)
    have oZ:=jh (b.y - a.y);have ib:a8 a b=cp (b.x - a.x):=by unfold a8;omega
    have Ly:wz a b=cp (b.y - a.y):=by unfold wz;omega
    have Li:decide (cp (b.x - a.x)<cp (b.y - a.y))=false:=by exact aSk CS
    refine bt<|aj<| ?_;have ab:=ab.later gV;refine J (ao Z (ab.all cj bU))<|cX (e:= 49) (cs:= [.int .i64 a.x, .int .i64 a.y]) Z (λ _=>by kernel_rfl) Z λ ame Ue l_ aLR aam=> ?_;have:=l_.size;have NU:=γ lM l_;have aBM:=aam.lt;refine va Z<|ai<|aj<|va Z<|ai<|aA<|aj<|vm Z<|vm Z<|ai<|bM<| ?_;have ab:=ab.later l_;have Q':∀ q∈κ.ae (some ⟨Ue,0,none⟩),Ue≤q:=λ q I=>aTi (aRz.1 I).symm;refine e8 (λ cm cl aU=>∃ k:Nat,∃ j0:Option Addr,∃ co:Nat,cl= [(2, .pointer (some ⟨bJ,0,none⟩)),(4, .slice none 0 0),(5, .int .i64 0),(6, .int .i64 (gU (b.x - a.x))),(7, .int .i64 (cp (b.x - a.x))),(8, .int .i64 (gU (b.y - a.y))),(9, .int .i64 (cp (b.y - a.y))),(10, .int .i64 (cp (b.x - a.x))),(11, .int .i64 (cp (b.y - a.y))),(12, .slice j0 ((tD a b k).length) co),(13, .int .i64 ((cQ a b k).1)),(50, .int .i64 (cp (b.x - a.x))),(51, .int .i64 (k:Int))]∧cm=(cp (b.x - a.x)).toNat - k∧Ext w aU∧aR aU bJ [.int .i64 ((cQ a b k).2.x), .int .i64 ((cQ a b k).2.y)] 49 (0,0)∧ax.rep.aD 49 16 aU w.heap.size (κ.ae j0) j0 co (tD a b k)∧((k:Int)≤cp (b.x - a.x))∧(∀ q∈κ.ae j0,q=bJ→False)) _ _ ⟨0,some ⟨Ue,0,none⟩,1,Z,Z,NU,ab,(aR.wD (R:=ax.rep) (by_:=16) (B:=w.heap.size) (k:= [a]) aam [[.int .i64 a.x, .int .i64 a.y]] Z ⟨⟨Z,bI.2 (by omega),bI.2 (by omega)⟩,trivial⟩ (by simp) (by simp) (by decide) (by omega)),(by have:=jh (b.y - a.y);have:=jh (b.x - a.x);omega),(λ q I Φ=>by (have:=Q' q I;omega))⟩ (.cons Z (.cons Z (.cons Z (.cons Z (.cons Z (.cons Z (.cons Z (.cons Z (.cons Z (.cons Z (.cons (bZ Z (by first | omega | rfl | (simp<;>omega))) (.cons Z (.cons (bZ Z (by first | omega | rfl | (simp<;>omega))) .nil))))))))))))) ?_;rintro aM1 aGV Su ⟨k,j0,co,rfl,rfl,zY,fW,ff,ar,EC⟩;have:=zY.size;have aOg:=fW.lt;have aDX:=λ q I=>(ff.lt q I).2;have Φ:=ai6 a b k;have hp:=ai7 a b k;have fj:=IP (b.x - a.x);have gC:=IP (b.y - a.y);have qV:=jh (b.x - a.x);have oZ:=jh (b.y - a.y);have nB:=FT a b k;refine aj<|J (blt Z Z)<|ai<|aA<| ?_;refine eg Z (λ au7=> ?_) (λ au7=> ?_)
    · refine bt<|aA<|bM<|aj<|vm rfl<|vm rfl<|J (Cx rfl rfl (bE (by omega)))<|J (bad rfl rfl (bE (by omega)))<|va rfl<|ai<|aj<|vm rfl<|vm rfl<|J (j4 rfl rfl)<|va rfl<|ai<|aA<|aj<| ?_
      refine vm Z<|ai<| ?_;refine G8 Z (λ Wa=> ?_) (λ Wa=> ?_)
      · rw [ib] at Φ
        have E1:decide (cp (b.x - a.x)≤((cQ a b k).1)+(2 * (cp (b.y - a.y))))=true:=by exact aSe Wa
        refine rg<|vm Z<|vm Z<|J (Cx Z Z (bE (by omega)))<|J (mm Z Z (bE (by omega)))<|va Z<|ai<|aA<|aj<|vm Z<|vm Z<|J (j4 Z Z)<|vm Z<|bp Z Z Z Z (λ hc=>aM Z) Z<|J (fv Z Z Z Z)<|ai<| ?_;have au8:((decide (cp (b.y - a.y)≤cp (b.x - a.x))) || (decide (cp (b.x - a.x)≤((cQ a b k).1)+(2 * (cp (b.y - a.y))))))=true:=by simp only [aSp,aR6];omega
        refine fA (by rw [← au8];rfl)<|rg<|J (av iL Z)<|J (ao Z (fW.one bc Z))<|vm Z<|J (bad Z Z (bE (by omega)))<|J (av iL Z)<|st (new:= [.int .i64 (((cQ a b k).2.x)+(gU (b.x - a.x))), .int .i64 ((cQ a b k).2.y)]) Z Z fW Z dK Z Z Z λ Zz oe fW=> ?_;have:=oe.size;have Gn:=Ext.mod zY oe bu;refine ai<|aA<|aj<|vm Z<|vm Z<|J (iw Z Z)<|vm Z<|bp Z Z Z Z (λ hc=>aM Z) Z<|J (fv Z Z Z Z)<|ai<| ?_;have au9:((decide (cp (b.x - a.x)<cp (b.y - a.y))) || (decide (cp (b.x - a.x)≤((cQ a b k).1)+(2 * (cp (b.y - a.y))))))=true:=by simp only [aSp,aR6];omega
        refine fA (by rw [← au9];rfl)<|rg<|J (av iM Z)<|J (ao Z (fW.one bc Z))<|vm Z<|J (bad Z Z (bE (by omega)))<|J (av iM Z)<|st (new:= [.int .i64 (((cQ a b k).2.x)+(gU (b.x - a.x))), .int .i64 (((cQ a b k).2.y)+(gU (b.y - a.y)))]) Z Z fW Z dK Z Z Z λ aQA X5 fW=> ?_;have:=X5.size;have aFI:=Ext.mod Gn X5 bu;refine ai<|rg<|vm Z<|J (ao Z (fW.all cj bU))<|cX (e:= 49) (cs:= [.int .i64 (((cQ a b k).2.x)+(gU (b.x - a.x))), .int .i64 (((cQ a b k).2.y)+(gU (b.y - a.y)))]) Z (λ _=>by kernel_rfl) Z λ al1 aHZ SW aLZ aar=> ?_;have:=SW.size;have Js:=γ aFI SW;have aOo:=aar.lt;have ff:=ff.mod oe (λ q I h=>by have Φ:=aRz.1 h;exfalso;(exact EC q I Φ));have ff:=ff.mod X5 (λ q I h=>by have Φ:=aRz.1 h;exfalso;(exact EC q I Φ));have ff:=ff.later SW;refine ap Oy κ.di ff (aR.gB (R:=ax.rep) (by_:=16) (q:=(⟨((cQ a b k).2.x)+(gU (b.x - a.x)),((cQ a b k).2.y)+(gU (b.y - a.y))⟩:ax)) aar ⟨Z,⟨bI.2 (by (try dsimp only);omega),bI.2 (by (try dsimp only);omega)⟩⟩ (by decide)) Z Z (by simp only [aRG,aRM];omega) (by simp only [aRG,aRM];omega) Js.size Z λ al2 amU apW zu abD aur aNs=> ?_;have:=zu.size;have NI:=Ext.mod Js zu (λ q I=>(ff.lt q I).1);have alB:=λ q I=>(abD.lt q I).2;have:=zu.size;refine va Z<|nl<|b0<|aV<|rg<|J (bad Z Z (bE (by omega)))<|vm Z<|nl<| ?_;have a_:cQ a b (k+1)=((((cQ a b k).1)+(2 * (cp (b.y - a.y)))) - (2 * (cp (b.x - a.x))),⟨((cQ a b k).2.x)+(gU (b.x - a.x)),((cQ a b k).2.y)+(gU (b.y - a.y))⟩):=by
          show p6 a b (cQ a b k)=_;unfold p6;simp only [ib,Ly,Li,E1,aTm,aS0,aVt,aVs,aVd,aUA,aSq,aUu,aUk,aTJ,aU5]
        have bj:=RE a b k;rw [a_] at bj;have cV:(tD a b (k+1)).length=k+2:=FT a b (k+1);have fW:=fW.later SW;have fW:=fW.mod zu (λ I=>EC _ I rfl);exact c6 _ _ ⟨k+1,amU,apW,Z,Z,NI,(by rw [a_];exact fW),(by rw [bj];exact abD),by omega,(λ q I Φ=>by (exact aRO (aur q I) (λ ahy=>by (exact EC q ahy Φ)) (λ ahy=>by omega)))⟩ (by omega) (.cons Z (.cons Z (.cons Z (.cons Z (.cons Z (.cons Z (.cons Z (.cons Z (.cons Z (.cons (by rw [bj];rfl) (.cons (bZ Z (by rw [a_])) (.cons Z (.cons (bZ Z (by first | omega | rfl | (simp<;>omega))) .nil)))))))))))))
      · rw [ib] at Φ
        have E1:decide (cp (b.x - a.x)≤((cQ a b k).1)+(2 * (cp (b.y - a.y))))=false:=by exact aSk Wa
        refine bt<|aA<|aj<|vm Z<|vm Z<|J (j4 Z Z)<|vm Z<|bp Z Z Z Z (λ hc=>aM Z) Z<|J (fv Z Z Z Z)<|ai<| ?_;have K5:((decide (cp (b.y - a.y)≤cp (b.x - a.x))) || (decide (cp (b.x - a.x)≤((cQ a b k).1)+(2 * (cp (b.y - a.y))))))=true:=by simp only [aSp,aR6];omega
        refine fA (by rw [← K5];rfl)<|rg<|J (av iL Z)<|J (ao Z (fW.one bc Z))<|vm Z<|J (bad Z Z (bE (by omega)))<|J (av iL Z)<|st (new:= [.int .i64 (((cQ a b k).2.x)+(gU (b.x - a.x))), .int .i64 ((cQ a b k).2.y)]) Z Z fW Z dK Z Z Z λ aEP zw fW=> ?_;have:=zw.size;have ZY:=Ext.mod zY zw bu;refine ai<|aA<|aj<|vm Z<|vm Z<|J (iw Z Z)<|vm Z<|bp Z Z Z Z (λ hc=>aM Z) Z<|J (fv Z Z Z Z)<|ai<| ?_;have avf:((decide (cp (b.x - a.x)<cp (b.y - a.y))) || (decide (cp (b.x - a.x)≤((cQ a b k).1)+(2 * (cp (b.y - a.y))))))=false:=by simp only [aSn,aSg];omega
        refine hL (by rw [← avf];rfl)<|bt<|rg<|vm Z<|J (ao Z (fW.all cj bU))<|cX (e:= 49) (cs:= [.int .i64 (((cQ a b k).2.x)+(gU (b.x - a.x))), .int .i64 ((cQ a b k).2.y)]) Z (λ _=>by kernel_rfl) Z λ al5 aH5 wQ aL5 aaw=> ?_;have:=wQ.size;have Jt:=γ ZY wQ;have aOw:=aaw.lt;have ff:=ff.mod zw (λ q I h=>by have Φ:=aRz.1 h;exfalso;(exact EC q I Φ));have ff:=ff.later wQ;refine ap Oy κ.di ff (aR.gB (R:=ax.rep) (by_:=16) (q:=(⟨((cQ a b k).2.x)+(gU (b.x - a.x)),(cQ a b k).2.y⟩:ax)) aaw ⟨Z,⟨bI.2 (by (try dsimp only);omega),bI.2 (by (try dsimp only);omega)⟩⟩ (by decide)) Z Z (by simp only [aRG,aRM];omega) (by simp only [aRG,aRM];omega) Jt.size Z λ aQQ amW apY Ri abF aus aNx=> ?_;have:=Ri.size;have aFX:=Ext.mod Jt Ri (λ q I=>(ff.lt q I).1);have aPZ:=λ q I=>(abF.lt q I).2;have:=Ri.size;refine va Z<|nl<|b0<|aV<|rg<|J (bad Z Z (bE (by omega)))<|vm Z<|nl<| ?_;have a_:cQ a b (k+1)=(((cQ a b k).1)+(2 * (cp (b.y - a.y))),⟨((cQ a b k).2.x)+(gU (b.x - a.x)),(cQ a b k).2.y⟩):=by
          show p6 a b (cQ a b k)=_;unfold p6;simp only [ib,Ly,Li,E1,aTm,aS0,aVt,aVs,aVd,aUA,aSq,aUu,aUk,aTJ,aU5]
        have bj:=RE a b k;rw [a_] at bj;have cV:(tD a b (k+1)).length=k+2:=FT a b (k+1);have fW:=fW.later wQ;have fW:=fW.mod Ri (λ I=>EC _ I rfl);exact c6 _ _ ⟨k+1,amW,apY,Z,Z,aFX,(by rw [a_];exact fW),(by rw [bj];exact abF),by omega,(λ q I Φ=>by (exact aRO (aus q I) (λ ahE=>by (exact EC q ahE Φ)) (λ ahE=>by omega)))⟩ (by omega) (.cons Z (.cons Z (.cons Z (.cons Z (.cons Z (.cons Z (.cons Z (.cons Z (.cons Z (.cons (by rw [bj];rfl) (.cons (bZ Z (by rw [a_])) (.cons Z (.cons (bZ Z (by first | omega | rfl | (simp<;>omega))) .nil)))))))))))))
    · refine dH<|dG<|ef<|dF<|aV<|aj<|vm rfl<|va rfl<|va rfl<|ai<|rt<|bb (.tmp rfl (.tmp rfl .nil))<| ?_
      have p2:k=(a8 a b).toNat:=by omega
      subst p2;exact ⟨j0,co,Z,ff,zY⟩
end
section
def uA (p:Int):Int:=if p=0∨p=3 then 2 else if p=2 then 3 else 0
def vP (p:Int):Int:=if p=0∨p=3 then 0 else if p=2 then 0 else if p=1 then 9 else 1
def dU (c:ax):List ax:= [⟨c.x,c.y - 1⟩,⟨c.x - 1,c.y⟩,⟨c.x+1,c.y⟩,⟨c.x,c.y+1⟩]
namespace aE
section
variable {f:aE} {c d x y b:ax} {l a8:List Int} {v:Int}
def gD (f:aE) (c:ax):Int:=if f.place c=2 then 3 else 2
def cU (f:aE) (c:ax):List ax:=(dU c).filter f.ground
def at_ (f:aE) (c:ax):Nat:=(c.y * f.wide+c.x).toNat
def aB (f:aE) (a8:List Int) (c:ax):Int:=if f.fk c then a8.getD (f.at_ c) (-1) else -1
def kJ (b c:ax):Int:=2 * (cp (b.x - c.x)+cp (b.y - c.y))
theorem CQ (h:f.ground c=true):f.place c≠1:=by unfold ground at h;rw [aRI] at h;simpa using h.2
theorem afa (h:f.fk c=true) (aa:f.place c≠1):f.ground c=true:=by unfold ground;rw [h];simpa using aa
theorem p5:2≤f.gD c∧f.gD c≤3:=by unfold gD;split<;>omega
theorem MC:y∈f.cU x↔y∈dU x∧f.ground y=true:=by unfold cU;rw [aT3]
theorem Yf:y∈dU x↔(y=⟨x.x,x.y - 1⟩∨y=⟨x.x - 1,x.y⟩∨y=⟨x.x+1,x.y⟩∨y=⟨x.x,x.y+1⟩):=by unfold dU;simp
theorem Y6 (h:y∈dU x):x∈dU y:=by
 rw [Yf] at h ⊢;obtain ⟨a,b⟩:=x;rcases h with rfl | rfl | rfl | rfl
 ·right;right;right;simp
 ·right;right;left;simp
 ·right;left;simp
 ·left;simp
theorem aC1 (h:y∈dU x):y≠x:=by
 rw [Yf] at h;obtain ⟨a,b⟩:=x;rcases h with rfl | rfl | rfl | rfl<;>simp<;>omega
theorem Vl (b:ax) (h:y∈dU x):kJ b x≤2+kJ b y:=by
 rw [Yf] at h;obtain ⟨fw,fa⟩:=x;have e:∀ n:Int,cp n≤1+cp (n+1)∧cp n≤1+cp (n - 1):=λ n=>by
  have τ:=jh n;have aa:=jh (n+1);have aw:=jh (n - 1);rcases (show n<0∨0≤n by omega) with hn | hn
  ·have:=τ.2.2.2 hn;rcases (show n+1<0∨0≤n+1 by omega) with hm | hm
   ·have:=aa.2.2.2 hm;have:=aw.2.2.2 (by omega);omega
   ·have:=aa.2.2.1 hm;have:=aw.2.2.2 (by omega);omega
  ·have:=τ.2.2.1 hn;have:=aa.2.2.1 (by omega);rcases (show n - 1<0∨0≤n - 1 by omega) with hm | hm
   ·have:=aw.2.2.2 hm;omega
   ·have:=aw.2.2.1 hm;omega
 unfold kJ;rcases h with rfl | rfl | rfl | rfl<;>dsimp only
 ·have:=(e (b.y - fa)).1;rw [show b.y - (fa - 1)=b.y - fa+1 by omega];omega
 ·have:=(e (b.x - fw)).1;rw [show b.x - (fw - 1)=b.x - fw+1 by omega];omega
 ·have:=(e (b.x - fw)).2;rw [show b.x - (fw+1)=b.x - fw - 1 by omega];omega
 ·have:=(e (b.y - fa)).2;rw [show b.y - (fa+1)=b.y - fa - 1 by omega];omega
theorem aeC (b c:ax):0≤kJ b c:=by have:=jh (b.x - c.x);have:=jh (b.y - c.y);unfold kJ;omega
theorem Vk (b:ax):kJ b b=0:=by unfold kJ;rw [aVp,aVp];rfl
theorem Rx (f:aE) (b:ax):qC.i_ f.cU f.gD (kJ b):=⟨λ x y _=>by have:=f.p5 (c:=y);omega,aeC b,λ x y aL=>by
 have:=Vl b (MC.1 aL).1;have:=f.p5 (c:=y);omega⟩
theorem Yt (f:aE):qC.i_ f.cU f.gD (λ _=>0):=⟨λ x y _=>by have:=f.p5 (c:=y);omega,λ _=>aTb 0,λ x y aL=>by have:=f.p5 (c:=y);omega⟩
theorem aca (hf:f.bo=0) (hc:f.fk c=true) (hd:f.fk d=true) (h:f.at_ c=f.at_ d):c=d:=by
 obtain ⟨a0,cd,a2,a3,a4,a5⟩:=idx hf hc;obtain ⟨OV,mI,fz,gR,AB,Cu⟩:=idx hf hd;unfold at_ at h;have e:c.y * f.wide+c.x=d.y * f.wide+d.x:=by omega
 have a_:(c.y * f.wide+c.x) % f.wide=c.x:=by rw [aVr,aUm,aVq a2 a3]
 have bj:(d.y * f.wide+d.x) % f.wide=d.x:=by rw [aVr,aUm,aVq fz gR]
 have ex:c.x=d.x:=by rw [← a_,← bj,e]
 have PV:c.y * f.wide=d.y * f.wide:=by omega
 have PV:c.y=d.y:=Int.eq_of_mul_eq_mul_right (by omega) PV;cases c;cases d;simp at ex PV;rw [ex,PV]
theorem y1 (hf:f.bo=0) (hc:f.fk c=true):f.at_ c<f.aZ.length∧((f.at_ c:Nat):Int)=c.y * f.wide+c.x:=by
 obtain ⟨a0,cd,_⟩:=idx hf hc;unfold at_;omega
theorem Hv (hc:f.fk c=true):f.aB a8 c=a8.getD (f.at_ c) (-1):=by unfold aB;rw [aRP hc]
theorem Vz (hc:f.fk c=false):f.aB a8 c= -1:=by unfold aB;rw [aRL (by rw [hc];decide)]
theorem P3 (hf:f.bo=0) (az:a8.length=f.aZ.length) (hc:f.fk c=true):f.aB (a8.set (f.at_ c) v) c=v:=by
 rw [Hv hc,aRB,aRY (by rw [az];exact (y1 hf hc).1)];rfl
theorem P4 (hf:f.bo=0) (hc:f.fk c=true) (fh:d≠c):f.aB (a8.set (f.at_ c) v) d=f.aB a8 d:=by
 cases hd:f.fk d with
 | false=>rw [Vz hd,Vz hd]
 | true=>rw [Hv hd,Hv hd,aRB,aRB,aR4 (λ e=>fh (aca hf hd hc e.symm))]
end
end aE
def und:List Int→Nat
 | []=>0
 | x::r=>(if x<0 then 1 else 0)+und r
theorem alL:∀ l:List Int,und l≤l.length
 | []=>aRN _
 | x::r=>by have:=alL r;rw [und,aRG];split<;>omega
theorem alM {v:Int} (hv:0≤v):∀ (l:List Int) (i:Nat),i<l.length→l.getD i (-1)<0→und (l.set i v)+1=und l
 | [],i,h,_=>by simp at h
 | x::r,0,_,h=>by
  have h:x<0:=h;rw [aTE,und,und,aRL (by omega),aRP h];omega
 | x::r,i+1,h,aa=>by
  have:=alM hv r i (by simpa using h) (by simpa using aa);rw [aTF,und,und];omega
theorem Zt {n:Nat}:und (List.replicate n (-1))=n:=by
 induction n with
 | zero=>rfl
 | succ n bD=>rw [aWo,und,bD];simp;omega
structure iJ {β:Type} [Inhabited β] (gA:β→ax) (av je:β→Int) (f:aE) (h:ax→Int) (src:ax→Prop) (a8:List Int) (l:List β) (c_:ax) (rest:List ax):Prop where
 len:a8.length=f.aZ.length
 inv:qC.Inv f.cU f.gD h src (f.aB a8) (l.map λ n=>(gA n,av n)) c_ rest
 hp:cr.Heap je l.length l
 all:∀ n∈l,je n=av n+h (gA n)∧f.ground (gA n)=true
 cK:∀ c,f.aB a8 c+3 * (und a8:Int)≤3 * (f.aZ.length:Int)
 gr:∀ c,0≤f.aB a8 c→f.ground c=true
section
variable {β:Type} [Inhabited β] {gA:β→ax} {av je:β→Int} {f:aE} {h:ax→Int} {src:ax→Prop} {a8:List Int} {l:List β} {c_ y:ax} {rest:List ax} {n:β} {j:Nat}
theorem iJ.aeD (s:iJ gA av je f h src a8 l c_ rest) (o:qC.i_ f.cU f.gD h) (hn:n∈l):0≤av n∧av n+3 * (und a8:Int)≤3 * (f.aZ.length:Int)+3:=by
 have hm:(gA n,av n)∈l.map λ n=>(gA n,av n):=aSh.2 ⟨n,hn,rfl⟩;have hr:=s.inv.akp hm;refine ⟨hr.q6 o, ?_⟩;have hu:=alL a8;have:=s.len;rcases s.inv.q _ hm with ⟨_,aa⟩ | ⟨p,τ,aa,aw⟩
 ·have aa:av n=0:=aa;omega
 ·have aw:av n=f.aB a8 p+f.gD (gA n):=aw;have:=s.cK p;have:=f.p5 (c:=gA n);omega
theorem iJ.ajU (aH:0<l.length):(l.map λ n=>(gA n,av n)).Perm ((gA (l.getD 0 default),av (l.getD 0 default))::(cr.oo je l).map λ n=>(gA n,av n)):=
 ((cr.aj2 (key:=je) aH).symm.map _)
theorem iJ.least (s:iJ gA av je f h src a8 l c_ rest) (aH:0<l.length):∀ e∈l.map λ n=>(gA n,av n),av (l.getD 0 default)+h (gA (l.getD 0 default))≤e.2+h e.1:=by
 intro e he;obtain ⟨n,hn,rfl⟩:=aSh.1 he;have τ:=s.hp.least n hn;rw [(s.all n hn).1,(s.all _ (ih aH)).1] at τ;exact τ
theorem iJ.sub (aH:0<l.length) (hn:n∈cr.oo je l):n∈l:=(cr.aj2 (key:=je) aH).subset (aRQ _ hn)
theorem iJ.aC3 (s:iJ gA av je f h src a8 l c_ []) (aH:0<l.length) (hd:0≤f.aB a8 (gA (l.getD 0 default))):iJ gA av je f h src a8 (cr.oo je l) c_ [] :=
 ⟨s.len,s.inv.aBq (iJ.ajU aH) hd,cr.aj1 s.hp aH,λ n hn=>s.all n (iJ.sub aH hn),s.cK,s.gr⟩
theorem iJ.new (s:iJ gA av je f h src a8 l c_ []) (hf:f.bo=0) (o:qC.i_ f.cU f.gD h) (aH:0<l.length) (hd:f.aB a8 (gA (l.getD 0 default))<0):
  iJ gA av je f h src (a8.set (f.at_ (gA (l.getD 0 default))) (av (l.getD 0 default))) (cr.oo je l) (gA (l.getD 0 default)) (f.cU (gA (l.getD 0 default)))∧und (a8.set (f.at_ (gA (l.getD 0 default))) (av (l.getD 0 default)))+1=und a8:=by
 have aK:=(s.all _ (ih aH (d:=default))).2;have aq:=aE.j8 aK;have Φ:=s.aeD o (ih aH (d:=default));have hu:und (a8.set (f.at_ (gA (l.getD 0 default))) (av (l.getD 0 default)))+1=und a8:=alM Φ.1 a8 _ (by rw [s.len];exact (aE.y1 hf aq).1) (by rw [aE.Hv aq] at hd;exact hd);refine ⟨⟨by rw [aRK];exact s.len,(s.inv.aBp o (iJ.ajU aH) hd (s.least aH) (aE.P3 hf s.len aq) (λ z bs=>aE.P4 hf aq bs)).1,cr.aj1 s.hp aH,λ n hn=>s.all n (iJ.sub aH hn),λ c=> ?_,λ c hc=> ?_⟩,hu⟩
 ·by_cases e:c=gA (l.getD 0 default)
  ·rw [e,aE.P3 hf s.len aq];omega
  ·rw [aE.P4 hf aq e];have:=s.cK c;omega
 ·by_cases e:c=gA (l.getD 0 default)
  ·rw [e];exact aK
  ·rw [aE.P4 hf aq e] at hc;exact s.gr c hc
theorem iJ.push (s:iJ gA av je f h src a8 l c_ (y::rest)) (o:qC.i_ f.cU f.gD h) (aK:f.ground y=true) (τ:gA n=y) (aa:av n=f.aB a8 c_+f.gD y) (aw:je n=av n+h y):iJ gA av je f h src a8 (cr.push je l n) c_ rest:=by
 refine ⟨s.len,s.inv.push o ?_,cr.aBG s.hp,λ m hm=> ?_,s.cK,s.gr⟩
 ·have:=(cr.aj7 (key:=je) (l:=l) (x:=n)).map λ n=>(gA n,av n);rw [aSs,τ,aa] at this;exact this
 ·rcases aRW.1 ((cr.aj7 (key:=je)).subset hm) with rfl | hm
  ·rw [τ];exact ⟨aw,aK⟩
  ·exact s.all m hm
theorem iJ.pass (s:iJ gA av je f h src a8 l c_ (y::rest)) (aL:0≤f.aB a8 y):iJ gA av je f h src a8 l c_ rest:=⟨s.len,s.inv.skip aL,s.hp,s.all,s.cK,s.gr⟩
theorem Y5 {f:aE} {x:ax} {j:Nat} (ay:j<4):((dU x).drop j).filter f.ground=if f.ground ((dU x).getD j default) then (dU x).getD j default::((dU x).drop (j+1)).filter f.ground else ((dU x).drop (j+1)).filter f.ground:=by
 have az:(dU x).length=4:=rfl;rw [aTp (by omega),aSP,mn (by omega)]
theorem iJ.azr (s:iJ gA av je f h src a8 l c_ (((dU c_).drop j).filter f.ground)) (ay:j<4) (aK:f.ground ((dU c_).getD j default)=false):iJ gA av je f h src a8 l c_ (((dU c_).drop (j+1)).filter f.ground):=by
 rw [Y5 ay,aRL (by rw [aK];decide)] at s;exact s
theorem iJ.azp (s:iJ gA av je f h src a8 l c_ (((dU c_).drop j).filter f.ground)) (ay:j<4) (aL:0≤f.aB a8 ((dU c_).getD j default)) (aK:f.ground ((dU c_).getD j default)=true):iJ gA av je f h src a8 l c_ (((dU c_).drop (j+1)).filter f.ground):=by
 rw [Y5 ay,aRP aK] at s;exact s.pass aL
theorem iJ.azq (s:iJ gA av je f h src a8 l c_ (((dU c_).drop j).filter f.ground)) (o:qC.i_ f.cU f.gD h) (ay:j<4) (aK:f.ground ((dU c_).getD j default)=true) (τ:gA n=(dU c_).getD j default) (aa:av n=f.aB a8 c_+f.gD ((dU c_).getD j default)) (aw:je n=av n+h ((dU c_).getD j default)):
  iJ gA av je f h src a8 (cr.push je l n) c_ (((dU c_).drop (j+1)).filter f.ground):=by
 rw [Y5 ay,aRP aK] at s;exact s.push o aK τ aa aw
end
end
section
structure cc where
 cell:ax
 a8:Int
 all:Int
 deriving DecidableEq,Inhabited
namespace cc
def cells (a:cc):List Value:= [.int .i64 (a.cell.x), .int .i64 (a.cell.y), .int .i64 (a.a8), .int .i64 (a.all)]
def ok (a:cc):Prop:=(Lit.int .i64 a.cell.x).wf=true∧(Lit.int .i64 a.cell.y).wf=true∧(Lit.int .i64 a.a8).wf=true∧(Lit.int .i64 a.all).wf=true
def raw (j:Nat) (u:Value):Prop:=match j with
 | 0=>∃ n:Int,u= .int .i64 n
 | 1=>∃ n:Int,u= .int .i64 n
 | 2=>∃ n:Int,u= .int .i64 n
 | 3=>∃ n:Int,u= .int .i64 n
 | _=>True
theorem rJ (a:cc):∀ (j:Nat) u,a.cells[j]? =some u→raw j u:=by
 intro j u hu
 match j,hu with
 | 0,hu=>exact ⟨_,(aRA hu).symm⟩
 | 1,hu=>exact ⟨_,(aRA hu).symm⟩
 | 2,hu=>exact ⟨_,(aRA hu).symm⟩
 | 3,hu=>exact ⟨_,(aRA hu).symm⟩
 | j+4,hu=>exact trivial
theorem rI (a:cc):∀ u∈a.cells,u.oneCell'=true:=by
 intro u hu;unfold cells at hu;simp only [aRW,aS3,aTR] at hu;rcases hu with rfl | rfl | rfl | rfl<;>rfl
def rep:κ cc:=κ.flat 4 cells ok raw (λ _=>rfl) rI rJ
def zero:Value:= .agg #[.int .i64 0, .int .i64 0, .int .i64 0, .int .i64 0]
theorem h8:∀ (j:Nat) u,zero.cells[j]? =some u→rep.raw j u:=by
 intro j u hu;have hu:(#[(.int .i64 0:Value),(.int .i64 0:Value),(.int .i64 0:Value),(.int .i64 0:Value)]:Array Value)[j]? =some u:=hu
 match j,hu with
 | 0,hu=>exact ⟨_,(aRA hu).symm⟩
 | 1,hu=>exact ⟨_,(aRA hu).symm⟩
 | 2,hu=>exact ⟨_,(aRA hu).symm⟩
 | 3,hu=>exact ⟨_,(aRA hu).symm⟩
 | j+4,hu=>cases hu
theorem info:(prog.info? 313).map (λ i=>(i.zero,i.size,i.bytes))=some (some zero,4,32):=by kernel_rfl
def sh:gK:=(.cons (.cons (.int .i64) (.cons (.int .i64) .nil)) (.cons (.int .i64) (.cons (.int .i64) .nil)))
end cc
end
section
abbrev sU (f:aE) (a b:ax) (a8:List Int) (l:List cc) (c_:ax) (rest:List ax):Prop:=iJ cc.cell cc.a8 cc.all f (aE.kJ b) (λ c=>c=a) a8 l c_ rest
def xf (f:aE) (b:ax) (a8:List Int):Prop:=0≤f.aB a8 b→∀ x,0≤f.aB a8 x→f.aB a8 x+aE.kJ b x≤f.aB a8 b
structure pH (f:aE) (a b:ax) (a8:List Int):Prop where
 len:a8.length=f.aZ.length
 spec:qC.Spec f.cU f.gD (aE.kJ b) (λ c=>c=a) b (f.aB a8)
 cK:∀ c,f.aB a8 c≤3 * (f.aZ.length:Int)
 gr:∀ c,0≤f.aB a8 c→f.ground c=true
section
variable {f:aE} {a b c_:ax} {a8:List Int} {l:List cc} {bY:cc} {rest:List ax}
theorem aEv (s:sU f a b a8 l c_ []) (hf:f.bo=0) (aH:0<l.length) (hx:l.getD 0 default=bY) (hd:f.aB a8 bY.cell<0) (hv:xf f b a8) (hc:f.aB a8 b<0∨bY.all≤f.aB a8 b):xf f b (a8.set (f.at_ bY.cell) bY.a8):=by
 have hm:bY∈l:=by rw [← hx];exact ih aH
 obtain ⟨ha,aK⟩:=s.all bY hm;have aq:=aE.j8 aK;have τ:=aE.P3 (v:=bY.a8) hf s.len aq;have aa:∀ z,z≠bY.cell→f.aB (a8.set (f.at_ bY.cell) bY.a8) z=f.aB a8 z:=λ z bs=>aE.P4 hf aq bs;have agx:=λ z bs=>s.inv.mono z bs (bY.cell,bY.a8) (aSh.2 ⟨bY,hm,rfl⟩);dsimp only at agx;intro Φ z bs;by_cases e:b=bY.cell
 ·have atE:f.aB (a8.set (f.at_ bY.cell) bY.a8) b=bY.a8:=by rw [e];exact τ
  rw [atE];have e0:aE.kJ b bY.cell=0:=by rw [← e];exact aE.Vk b
  by_cases KI:z=bY.cell
  ·rw [KI,τ];omega
  ·rw [aa z KI] at bs ⊢;have:=agx z bs;omega
 ·rw [aa b e] at Φ ⊢;by_cases KI:z=bY.cell
  ·rw [KI,τ];omega
  ·rw [aa z KI] at bs ⊢;exact hv Φ z bs
theorem ajT (s:sU f a b a8 l c_ []) (hv:xf f b a8) (he:(0≤f.aB a8 b∧∀ e∈l.map λ n=>(n.cell,n.a8),f.aB a8 b<e.2+aE.kJ b e.1)∨(l.map λ n=>(n.cell,n.a8))= []):pH f a b a8 :=
 ⟨s.len,s.inv.ends (aE.Rx f b) (aE.Vk b) hv he,λ c=>by have:=s.cK c;omega,s.gr⟩
theorem aBb (s:sU f a b a8 l c_ []) (hv:xf f b a8) (h:l.length=0):pH f a b a8:=ajT s hv (.inr (by rw [aSb h];rfl))
theorem aBa (s:sU f a b a8 l c_ []) (hv:xf f b a8) (aH:0<l.length) (Φ:0≤f.aB a8 b) (h:f.aB a8 b<(l.getD 0 default).all):pH f a b a8 :=
 ajT s hv (.inl ⟨Φ,λ e he=>by
  have τ:=s.least aH e he;rw [← (s.all _ (ih aH)).1] at τ;omega⟩)
theorem sU.node (s:sU f a b a8 l c_ rest) (hf:f.bo=0) (Φ:f.fk b=true) (hn:bY∈l):0≤bY.cell.x∧bY.cell.x<f.wide∧0≤bY.cell.y∧bY.cell.y<f.high∧0≤bY.a8∧bY.a8≤4803∧0≤bY.all∧bY.all≤5000∧bY.ok:=by
 obtain ⟨ha,aK⟩:=s.all bY hn;obtain ⟨_,_,i1,i2,i3,i4⟩:=aE.idx hf (aE.j8 aK);obtain ⟨_,_,aLk,XB,aLl,aLm⟩:=aE.idx hf Φ;obtain ⟨g1,g2,g3,g4,g5,g6⟩:=aE.jM hf;obtain ⟨τ,aa⟩:=s.aeD (aE.Rx f b) hn;have az:=aE.ez hf;have he:0≤aE.kJ b bY.cell∧aE.kJ b bY.cell≤160:=by
  refine ⟨aE.aeC _ _, ?_⟩;unfold aE.kJ;have cd:=jh (b.x - bY.cell.x);have a2:=jh (b.y - bY.cell.y);rcases (show b.x - bY.cell.x<0∨0≤b.x - bY.cell.x by omega) with h | h
  ·have:=cd.2.2.2 h;rcases (show b.y - bY.cell.y<0∨0≤b.y - bY.cell.y by omega) with cI | cI
   ·have:=a2.2.2.2 cI;omega
   ·have:=a2.2.2.1 cI;omega
  ·have:=cd.2.2.1 h;rcases (show b.y - bY.cell.y<0∨0≤b.y - bY.cell.y by omega) with cI | cI
   ·have:=a2.2.2.2 cI;omega
   ·have:=a2.2.2.1 cI;omega
 refine ⟨i1,i2,i3,i4,τ,by omega,by omega,by omega,bI.2 (by omega),bI.2 (by omega),bI.2 (by omega),bI.2 (by omega)⟩
theorem AW (hf:f.bo=0) (az:a8.length=f.aZ.length) {c:ax} (hc:f.fk c=true):a8[(c.y * f.wide+c.x).toNat]? =some (f.aB a8 c):=by
 rw [aE.Hv hc];exact dv (u:= -1) (show f.at_ c<a8.length by rw [az];exact (aE.y1 hf hc).1)
theorem ec (hf:f.bo=0) (az:a8.length=f.aZ.length) {c:ax} (hc:f.fk c=true):(c.y * f.wide+c.x).toNat<a8.length∧0≤c.y * f.wide+c.x∧c.y * f.wide+c.x≤1600:=by
 have τ:=aE.y1 hf hc;obtain ⟨a0,cd,_⟩:=aE.idx hf hc;have:=aE.ez hf;unfold aE.at_ at τ;omega
theorem acb (p q:Bool):p=false∨(p=true∧q=true)∨(p=true∧q=false):=by cases p<;>cases q<;>simp
end
end
section
section
variable {f:aE} {a b c:ax} {a8 PW:List Int} {aB:ax→Int}
noncomputable def cM (f:aE) (a b:ax):ax→Int :=
 @dite _ (∃ a8,pH f a b a8) (Classical.propDecidable _) (λ h=>f.aB h.choose) λ _=>λ _=> -1
theorem pH.P1 (h:pH f a b a8):f.aB a8=cM f a b:=by
 have hex:∃ a8,pH f a b a8:=⟨a8,h⟩;unfold cM;rw [dif_pos hex]
 funext x
 exact h.spec.uniq hex.choose_spec.spec x
theorem pH.get (h:pH f a b a8) (hf:f.bo=0) {c:ax} (hc:f.fk c=true):a8[(c.y * f.wide+c.x).toNat]? =some (cM f a b c):=by rw [← h.P1];exact AW hf h.len hc
theorem aBH {β:Type} [Inhabited β] {key:β→Int} {x:β}:cr.push key [] x= [x]:=by
 unfold cr.push cr.qj;rw [aRL (by simp)];rfl
theorem P2 {n:Nat}:f.aB (List.replicate n (-1)) c= -1:=by
 unfold aE.aB;split
 ·rw [aRB,aSH];split<;>rfl
 ·rfl
theorem sU.start (hf:f.bo=0) (ha:f.ground a=true) (c_:ax):sU f a b (List.replicate f.aZ.length (-1)) (cr.push cc.all [] ⟨a,0,0+aE.kJ b a⟩) c_ []:=by
 rw [aBH];refine ⟨aSd,qC.Inv.start (λ x=>P2) (λ e he=> ?_) (λ s hs=> ?_),λ i aH τ=>by simp at τ;omega,λ n hn=> ?_,λ c=> ?_,λ c hc=>by rw [P2] at hc;omega⟩
 ·rw [aSs,aTr,aRz] at he;subst he;exact ⟨Z,Z⟩
 ·subst hs;exact aRZ
 ·rw [aRz.1 hn];exact ⟨Z,ha⟩
 ·rw [P2,Zt];omega
theorem xf.start:xf f b (List.replicate f.aZ.length (-1)):=λ h=>by rw [P2] at h;omega
def lG (f:aE) (aB:ax→Int) (c:ax):ax:=((dU c).find? λ n=>f.ground n && decide (0≤aB n) && decide (aB n+f.gD c=aB c)).getD c
def xj (f:aE) (aB:ax→Int) (a:ax):Nat→ax→List ax
 | 0,c=> [c]
 | n+1,c=>if c=a then [c] else c::xj f aB a n (lG f aB c)
structure oH (f:aE) (a:ax) (aB:ax→Int):Prop where
 zero:aB a=0
 pos:∀ c,0≤aB c→c≠a→∃ p,0≤aB p∧c∈f.cU p∧aB c=aB p+f.gD c
 gr:∀ c,0≤aB c→f.ground c=true
theorem oH.prev (h:oH f a aB) (hc:0≤aB c) (fh:c≠a):lG f aB c∈dU c∧f.ground (lG f aB c)=true∧0≤aB (lG f aB c)∧aB (lG f aB c)+f.gD c=aB c:=by
 obtain ⟨p,τ,aa,aw⟩:=h.pos c hc fh;have hp:p∈dU c:=aE.Y6 (aE.MC.1 aa).1;have QN:(f.ground p && decide (0≤aB p) && decide (aB p+f.gD c=aB c))=true:=by
  rw [h.gr p τ,aSe τ,aSe aw.symm];rfl
 unfold lG;cases hf:(dU c).find? λ n=>f.ground n && decide (0≤aB n) && decide (aB n+f.gD c=aB c) with
 | none=>exact absurd QN (aS1.1 hf p hp)
 | some q =>
  have I:=aUM hf;simp only [aRI,aR6] at I;exact ⟨aUr hf,I.1.1,I.1.2,I.2⟩
theorem oH.fuel (h:oH f a aB):∀ (n:Nat) (c:ax),0≤aB c→(aB c).toNat≤n→xj f aB a n c=xj f aB a (aB c).toNat c:=by
 intro n;induction n using Nat.strongRecOn with
 | ind n bD =>
  intro c hc hn;by_cases fh:c=a
  ·subst fh;have:(aB c).toNat=0:=by rw [h.zero];rfl
   rw [this];cases n with
   | zero=>rfl
   | succ n=>unfold xj;rw [aRP rfl]
  ·obtain ⟨eQ,fo,mW,x9⟩:=h.prev hc fh;have ar:=f.p5 (c:=c);obtain ⟨m,hm⟩:∃ m,(aB c).toNat=m+1:=⟨(aB c).toNat - 1,by omega⟩;obtain ⟨jQ,awS⟩:∃ jQ,n=jQ+1:=⟨n - 1,by omega⟩;subst awS;rw [hm,xj,xj,aRL fh,aRL fh,bD jQ (by omega) _ mW (by omega),bD m (by omega) _ mW (by omega)]
def fP (f:aE) (aB:ax→Int) (a c:ax):List ax:=xj f aB a (aB c).toNat c
theorem BO (h:oH f a aB):fP f aB a a= [a]:=by unfold fP;rw [h.zero];rfl
theorem BP (h:oH f a aB) (hc:0≤aB c) (fh:c≠a):fP f aB a c=c::fP f aB a (lG f aB c):=by
 obtain ⟨eQ,fo,mW,x9⟩:=h.prev hc fh;have ar:=f.p5 (c:=c);unfold fP;obtain ⟨m,hm⟩:∃ m,(aB c).toNat=m+1:=⟨(aB c).toNat - 1,by omega⟩;rw [hm,xj,aRL fh,h.fuel m _ mW (by omega)]
theorem oH.of (h:pH f a b a8) (Φ:0≤f.aB a8 b):oH f a (f.aB a8):=by
 have bs:0≤f.aB a8 a→f.aB a8 a=0:=λ aH=>by
  have:=(h.spec.oP a aH).1.2 0 (.start rfl);omega
 have key:∀ n:Nat,∀ c,0≤f.aB a8 c→(f.aB a8 c).toNat=n→0≤f.aB a8 a:=by
  intro n;induction n using Nat.strongRecOn with
  | ind n bD =>
   intro c hc hn;rcases h.spec.pred c hc with ⟨τ,_⟩ | ⟨p,τ,aa,aw⟩
   ·subst τ;exact hc
   ·have:=f.p5 (c:=c);exact bD (f.aB a8 p).toNat (by omega) p τ Z
 have ha:=key _ b Φ rfl;refine ⟨bs ha,λ c hc fh=> ?_,h.gr⟩;rcases h.spec.pred c hc with ⟨τ,_⟩ | τ
 ·exact absurd τ fh
 ·exact τ
theorem oH.FO (h:pH f a b a8) (Φ:0≤cM f a b b):oH f a (cM f a b):=by rw [← h.P1] at Φ ⊢;exact oH.of h Φ
theorem pH.apq (h:pH f a b a8) (c:ax):cM f a b c≤3 * (f.aZ.length:Int):=by rw [← h.P1];exact h.cK c
noncomputable def g_ (f:aE) (a b:ax):Int:=if f.dI a≠0 then f.dI a else if f.dI b≠0 then f.dI b else if f.place a=1∨f.place b=1 then 9 else if cM f a b b<0 then 6 else 0
noncomputable def oT (f:aE) (a b:ax):Int:=if g_ f a b=0 then cM f a b b else 0
noncomputable def fS (f:aE) (a b:ax):List ax:=if g_ f a b=0 then (fP f (cM f a b) a b).reverse else []
theorem atQ (h:f.dI a≠0):g_ f a b=f.dI a:=by unfold g_;rw [aRP h]
theorem atS (h:f.dI a=0) (aa:f.dI b≠0):g_ f a b=f.dI b:=by unfold g_;rw [aRL (by rw [h];simp),aRP aa]
theorem OU (h:f.dI a=0):f.bo=0∧f.fk a=true:=by
 have hc:f.bo=0:=by
  by_cases hc:f.bo=0
  ·exact hc
  ·rw [(aE.T7 hc).1] at h;exact h
 exact ⟨hc,ao4 hc h⟩
where
 ao4 {f:aE} {c:ax} (h:f.bo=0) (he:f.dI c=0):f.fk c=true:=by
  cases aq:f.fk c with
  | true=>rfl
  | false=>rw [(aE.Kf h aq).1] at he;omega
theorem atU (h:f.dI a=0) (aa:f.dI b=0) (aw:f.place a=1∨f.place b=1):g_ f a b=9:=by unfold g_;rw [aRL (by rw [h];simp),aRL (by rw [aa];simp),aRP aw]
theorem atT (hf:f.bo=0) (ha:f.ground a=true) (Φ:f.ground b=true) (h:cM f a b b<0):g_ f a b=6:=by
 unfold g_;rw [aRL (by rw [(aE.mH hf (aE.j8 ha)).1];simp),aRL (by rw [(aE.mH hf (aE.j8 Φ)).1];simp),aRL (by rintro (τ | τ);exact aE.CQ ha τ;exact aE.CQ Φ τ),aRP h]
theorem Vr (hf:f.bo=0) (ha:f.ground a=true) (Φ:f.ground b=true) (h:0≤cM f a b b):g_ f a b=0:=by
 unfold g_;rw [aRL (by rw [(aE.mH hf (aE.j8 ha)).1];simp),aRL (by rw [(aE.mH hf (aE.j8 Φ)).1];simp),aRL (by rintro (τ | τ);exact aE.CQ ha τ;exact aE.CQ Φ τ),aRL (by omega)]
theorem Vp (f:aE) (a b:ax):(f.dI a≠0∧g_ f a b=f.dI a)∨(f.dI a=0∧f.dI b≠0∧g_ f a b=f.dI b)∨(f.dI a=0∧f.dI b=0∧(f.place a=1∨f.place b=1)∧g_ f a b=9)∨(f.bo=0∧f.ground a=true∧f.ground b=true∧((cM f a b b<0∧g_ f a b=6)∨(0≤cM f a b b∧g_ f a b=0))):=by
 by_cases τ:f.dI a=0
 ·by_cases aa:f.dI b=0
  ·obtain ⟨hc,LU⟩:=OU τ;obtain ⟨_,Xw⟩:=OU aa;by_cases aw:f.place a=1∨f.place b=1
   ·exact .inr (.inr (.inl ⟨τ,aa,aw,atU τ aa aw⟩))
   ·have ga:=aE.afa LU (λ h=>aw (.inl h));have vY:=aE.afa Xw (λ h=>aw (.inr h));refine .inr (.inr (.inr ⟨hc,ga,vY, ?_⟩));by_cases a1:cM f a b b<0
    ·exact .inl ⟨a1,atT hc ga vY a1⟩
    ·exact .inr ⟨by omega,Vr hc ga vY (by omega)⟩
  ·exact .inr (.inl ⟨τ,aa,atS τ aa⟩)
 ·exact .inl ⟨τ,atQ τ⟩
end
end
section
structure dm where
 id:Int
 bn:ax
 deriving DecidableEq,Inhabited
namespace dm
def cells (a:dm):List Value:= [.int .i64 (a.id), .int .i64 (a.bn.x), .int .i64 (a.bn.y)]
def ok (a:dm):Prop:=(Lit.int .i64 a.id).wf=true∧(Lit.int .i64 a.bn.x).wf=true∧(Lit.int .i64 a.bn.y).wf=true
def raw (j:Nat) (u:Value):Prop:=match j with
 | 0=>∃ n:Int,u= .int .i64 n
 | 1=>∃ n:Int,u= .int .i64 n
 | 2=>∃ n:Int,u= .int .i64 n
 | _=>True
theorem rJ (a:dm):∀ (j:Nat) u,a.cells[j]? =some u→raw j u:=by
 intro j u hu
 match j,hu with
 | 0,hu=>exact ⟨_,(aRA hu).symm⟩
 | 1,hu=>exact ⟨_,(aRA hu).symm⟩
 | 2,hu=>exact ⟨_,(aRA hu).symm⟩
 | j+3,hu=>exact trivial
theorem rI (a:dm):∀ u∈a.cells,u.oneCell'=true:=by
 intro u hu;unfold cells at hu;simp only [aRW,aS3,aTR] at hu;rcases hu with rfl | rfl | rfl<;>rfl
def rep:κ dm:=κ.flat 3 cells ok raw (λ _=>rfl) rI rJ
def zero:Value:= .agg #[.int .i64 0, .int .i64 0, .int .i64 0]
theorem h8:∀ (j:Nat) u,zero.cells[j]? =some u→rep.raw j u:=by
 intro j u hu;have hu:(#[(.int .i64 0:Value),(.int .i64 0:Value),(.int .i64 0:Value)]:Array Value)[j]? =some u:=hu
 match j,hu with
 | 0,hu=>exact ⟨_,(aRA hu).symm⟩
 | 1,hu=>exact ⟨_,(aRA hu).symm⟩
 | 2,hu=>exact ⟨_,(aRA hu).symm⟩
 | j+3,hu=>cases hu
theorem info:(prog.info? 225).map (λ i=>(i.zero,i.size,i.bytes))=some (some zero,3,24):=by kernel_rfl
def sh:gK:=(.cons (.int .i64) (.cons (.cons (.int .i64) (.cons (.int .i64) .nil)) .nil))
end dm
theorem afS {w:World} {cs:List Value} {a:dm} (h:dm.rep.has w cs a):cs=a.cells:=aTI (show cs=a.cells∧a.ok from h)
end
end Go.Proofs.YtlikikpgmmkjbaaGreat
