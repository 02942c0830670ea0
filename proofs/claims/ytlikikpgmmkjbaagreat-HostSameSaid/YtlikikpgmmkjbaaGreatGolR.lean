import Derived.Test.YtlikikpgmmkjbaaGreatGra
import Derived.RangeFuncNested
import Derived.OrdersIn
import Derived.LoopNIn
set_option linter.unusedVariables false
set_option linter.unusedSimpArgs false
set_option maxRecDepth 100000
set_option maxHeartbeats 4000000
open Go.RowKit
namespace Go.Proofs.YtlikikpgmmkjbaaGreat
open Tryz
open Tryz
abbrev aTg:=@List.not_mem_nil
abbrev aTX:=@or_false
abbrev aUm:=@Int.mul_le_mul
abbrev aUJ:=@List.all_eq_false
abbrev aUM:=@Bool.true_and
abbrev aUP:=@Go.Oper.semAt_eq
abbrev aU0:=@Go.IntKind.wrap_i64
abbrev aU7:=@Bool.and_eq_false_iff
abbrev aVd:=@Int.mul_nonneg
abbrev aVq:=@Nat.add_sub_cancel
abbrev aVv:=@List.set_eq_take_append_cons_drop
abbrev aV2:=@Bool.and_false
abbrev aV4:=@Go.wpIn_region_lit

structure ax where
 x:Int
 y:Int
 deriving DecidableEq,Inhabited
namespace ax
def cells (a:ax):List Value:= [.int .i64 (a.x), .int .i64 (a.y)]
def ok (a:ax):Prop:=(Lit.int .i64 a.x).wf=true∧(Lit.int .i64 a.y).wf=true
def raw (j:Nat) (u:Value):Prop:=match j with
 | 0=>∃ n:Int,u= .int .i64 n
 | 1=>∃ n:Int,u= .int .i64 n
 | _=>True
theorem rr (a:ax):∀ (j:Nat) u,a.cells[j]? =some u→raw j u:=by
 intro j u hu
 match j,hu with
 | 0,hu=>exact ⟨_,(aRR hu).symm⟩
 | 1,hu=>exact ⟨_,(aRR hu).symm⟩
 | j+2,hu=>exact trivial
theorem rq (a:ax):∀ u∈a.cells,u.oneCell'=true:=by
 intro u hu;unfold cells at hu;simp only [aSc,aTg,aTX] at hu;rcases hu with rfl | rfl<;>rfl
def rep:τ ax:=τ.flat 2 cells ok raw (λ _=>rfl) rq rr
theorem plain:rep.Plain:=τ.oP
def zero:Value:= .agg #[.int .i64 0, .int .i64 0]
theorem iE:∀ (j:Nat) u,zero.cells[j]? =some u→rep.raw j u:=by
 intro j u hu;have hu:(#[(.int .i64 0:Value),(.int .i64 0:Value)]:Array Value)[j]? =some u:=hu
 match j,hu with
 | 0,hu=>exact ⟨_,(aRR hu).symm⟩
 | 1,hu=>exact ⟨_,(aRR hu).symm⟩
 | j+2,hu=>cases hu
theorem info:(prog.info? 49).map (λ i=>(i.zero,i.size,i.bytes))=some (some zero,2,16):=by kernel_rfl
theorem at_ {by_:Nat} {w:World} {A:Option Addr} {c:Nat} {l:List ax} (h:rep.aJ by_ w A c l) (aG:0<l.length):
  ∃ b o,A=some ⟨b,o,none⟩∧∀ (i:Nat) (a:ax),l[i]? =some a→w.cell? ⟨b,o+i * 2,none⟩=some (.int .i64 (a.x))∧w.cell? ⟨b,o+i * 2+1,none⟩=some (.int .i64 (a.y)):=by
 obtain ⟨b,o,e,hc⟩:=h.at_ aG;refine ⟨b,o,e,λ i a ha=> ?_⟩;obtain ⟨es,⟨rfl,_⟩,ay⟩:=hc i a ha;exact ⟨ay 0 _ Z,ay 1 _ Z⟩
theorem mF {by_:Nat} {w:World} {A:Option Addr} {c:Nat} {l:List ax} (h:rep.aJ by_ w A c l):∀ a∈l,a.ok:=τ.aJ.yx (R:=rep) (Q:=ok) (fun {w cs a} (h:rep.has w cs a)=>(show cs=a.cells∧a.ok from h).2) h
theorem ft {w:World} {g:Nat} {t:TypeId} {aA:Nat×Nat} {a:ax} (h:aP w g a.cells t aA):w.cell? ⟨g,0,none⟩=some (.int .i64 (a.x))∧w.cell? ⟨g,1,none⟩=some (.int .i64 (a.y)):=
 ⟨h.cell 0,h.cell 1⟩
def sh:gM:=(.cons (.int .i64) (.cons (.int .i64) .nil))
theorem opens (w:World) (cs:List Value) (h:sh.iY w cs):∃ a,rep.has w cs a:=by
 obtain ⟨_,_,rfl,_,_,⟨dc,rfl,vM⟩,⟨_,_,rfl,_,_,⟨eL,rfl,ec⟩,rfl⟩⟩:=h;exact ⟨⟨dc,eL⟩,Z,vM,ec⟩
end ax
theorem xp {w:World} {cs:List Value} {a:ax} (h:ax.rep.has w cs a):cs=a.cells:=aTQ (show cs=a.cells∧a.ok from h)
open Tryz

structure bf where
 id:Int
 owner:Int
 kind:Int
 spot:ax
 c7:Int
 load:Int
 deriving DecidableEq,Inhabited
namespace bf
def cells (a:bf):List Value:= [.int .i64 (a.id), .int .i64 (a.owner), .int .i64 (a.kind), .int .i64 (a.spot.x), .int .i64 (a.spot.y), .int .i64 (a.c7), .int .i64 (a.load)]
def ok (a:bf):Prop:=(Lit.int .i64 a.id).wf=true∧(Lit.int .i64 a.owner).wf=true∧(Lit.int .i64 a.kind).wf=true∧(Lit.int .i64 a.spot.x).wf=true∧(Lit.int .i64 a.spot.y).wf=true∧(Lit.int .i64 a.c7).wf=true∧(Lit.int .i64 a.load).wf=true
def raw (j:Nat) (u:Value):Prop:=match j with
 | 0=>∃ n:Int,u= .int .i64 n
 | 1=>∃ n:Int,u= .int .i64 n
 | 2=>∃ n:Int,u= .int .i64 n
 | 3=>∃ n:Int,u= .int .i64 n
 | 4=>∃ n:Int,u= .int .i64 n
 | 5=>∃ n:Int,u= .int .i64 n
 | 6=>∃ n:Int,u= .int .i64 n
 | _=>True
theorem rr (a:bf):∀ (j:Nat) u,a.cells[j]? =some u→raw j u:=by
 intro j u hu
 match j,hu with
 | 0,hu=>exact ⟨_,(aRR hu).symm⟩
 | 1,hu=>exact ⟨_,(aRR hu).symm⟩
 | 2,hu=>exact ⟨_,(aRR hu).symm⟩
 | 3,hu=>exact ⟨_,(aRR hu).symm⟩
 | 4,hu=>exact ⟨_,(aRR hu).symm⟩
 | 5,hu=>exact ⟨_,(aRR hu).symm⟩
 | 6,hu=>exact ⟨_,(aRR hu).symm⟩
 | j+7,hu=>exact trivial
theorem rq (a:bf):∀ u∈a.cells,u.oneCell'=true:=by
 intro u hu;unfold cells at hu;simp only [aSc,aTg,aTX] at hu;rcases hu with rfl | rfl | rfl | rfl | rfl | rfl | rfl<;>rfl
def rep:τ bf:=τ.flat 7 cells ok raw (λ _=>rfl) rq rr
theorem plain:rep.Plain:=τ.oP
def zero:Value:= .agg #[.int .i64 0, .int .i64 0, .int .i64 0, .int .i64 0, .int .i64 0, .int .i64 0, .int .i64 0]
theorem iE:∀ (j:Nat) u,zero.cells[j]? =some u→rep.raw j u:=by
 intro j u hu;have hu:(#[(.int .i64 0:Value),(.int .i64 0:Value),(.int .i64 0:Value),(.int .i64 0:Value),(.int .i64 0:Value),(.int .i64 0:Value),(.int .i64 0:Value)]:Array Value)[j]? =some u:=hu
 match j,hu with
 | 0,hu=>exact ⟨_,(aRR hu).symm⟩
 | 1,hu=>exact ⟨_,(aRR hu).symm⟩
 | 2,hu=>exact ⟨_,(aRR hu).symm⟩
 | 3,hu=>exact ⟨_,(aRR hu).symm⟩
 | 4,hu=>exact ⟨_,(aRR hu).symm⟩
 | 5,hu=>exact ⟨_,(aRR hu).symm⟩
 | 6,hu=>exact ⟨_,(aRR hu).symm⟩
 | j+7,hu=>cases hu
theorem info:(prog.info? 66).map (λ i=>(i.zero,i.size,i.bytes))=some (some zero,7,56):=by kernel_rfl
theorem at_ {by_:Nat} {w:World} {A:Option Addr} {c:Nat} {l:List bf} (h:rep.aJ by_ w A c l) (aG:0<l.length):
  ∃ b o,A=some ⟨b,o,none⟩∧∀ (i:Nat) (a:bf),l[i]? =some a→w.cell? ⟨b,o+i * 7,none⟩=some (.int .i64 (a.id))∧w.cell? ⟨b,o+i * 7+1,none⟩=some (.int .i64 (a.owner))∧w.cell? ⟨b,o+i * 7+2,none⟩=some (.int .i64 (a.kind))∧w.cell? ⟨b,o+i * 7+3,none⟩=some (.int .i64 (a.spot.x))∧w.cell? ⟨b,o+i * 7+4,none⟩=some (.int .i64 (a.spot.y))∧w.cell? ⟨b,o+i * 7+5,none⟩=some (.int .i64 (a.c7))∧w.cell? ⟨b,o+i * 7+6,none⟩=some (.int .i64 (a.load)):=by
 obtain ⟨b,o,e,hc⟩:=h.at_ aG;refine ⟨b,o,e,λ i a ha=> ?_⟩;obtain ⟨es,⟨rfl,_⟩,ay⟩:=hc i a ha;exact ⟨ay 0 _ Z,ay 1 _ Z,ay 2 _ Z,ay 3 _ Z,ay 4 _ Z,ay 5 _ Z,ay 6 _ Z⟩
theorem mF {by_:Nat} {w:World} {A:Option Addr} {c:Nat} {l:List bf} (h:rep.aJ by_ w A c l):∀ a∈l,a.ok:=τ.aJ.yx (R:=rep) (Q:=ok) (fun {w cs a} (h:rep.has w cs a)=>(show cs=a.cells∧a.ok from h).2) h
theorem ft {w:World} {g:Nat} {t:TypeId} {aA:Nat×Nat} {a:bf} (h:aP w g a.cells t aA):w.cell? ⟨g,0,none⟩=some (.int .i64 (a.id))∧w.cell? ⟨g,1,none⟩=some (.int .i64 (a.owner))∧w.cell? ⟨g,2,none⟩=some (.int .i64 (a.kind))∧w.cell? ⟨g,3,none⟩=some (.int .i64 (a.spot.x))∧w.cell? ⟨g,4,none⟩=some (.int .i64 (a.spot.y))∧w.cell? ⟨g,5,none⟩=some (.int .i64 (a.c7))∧w.cell? ⟨g,6,none⟩=some (.int .i64 (a.load)):=
 ⟨h.cell 0,h.cell 1,h.cell 2,h.cell 3,h.cell 4,h.cell 5,h.cell 6⟩
def sh:gM:=(.cons (.int .i64) (.cons (.int .i64) (.cons (.int .i64) (.cons (.cons (.int .i64) (.cons (.int .i64) .nil)) (.cons (.int .i64) (.cons (.int .i64) .nil))))))
theorem opens (w:World) (cs:List Value) (h:sh.iY w cs):∃ a,rep.has w cs a:=by
 obtain ⟨_,_,rfl,_,_,⟨dc,rfl,vM⟩,⟨_,_,rfl,_,_,⟨eL,rfl,ec⟩,⟨_,_,rfl,_,_,⟨e9,rfl,eD⟩,⟨_,_,rfl,_,_,⟨_,_,rfl,_,_,⟨iN,rfl,kP⟩,⟨_,_,rfl,_,_,⟨qe,rfl,Xx⟩,rfl⟩⟩,⟨_,_,rfl,_,_,⟨o',rfl,Xy⟩,⟨_,_,rfl,_,_,⟨qf,rfl,Xz⟩,rfl⟩⟩⟩⟩⟩⟩:=h;exact ⟨⟨dc,eL,e9,⟨iN,qe⟩,o',qf⟩,Z,vM,ec,eD,kP,Xx,Xy,Xz⟩
end bf
theorem jD {w:World} {cs:List Value} {a:bf} (h:bf.rep.has w cs a):cs=a.cells:=aTQ (show cs=a.cells∧a.ok from h)
open Tryz

structure aD where
 wide:Int
 high:Int
 aS:List Int
 deriving DecidableEq,Inhabited
structure ah where
 field:aD
 aU:List ax
 bh:List Int
 br:List Int
 ao:List bf
 next:Int
 now:Int
 deriving DecidableEq,Inhabited
namespace aD
def Rr (p:Int):Bool:=cO p 0 3
def bp (f:aD):Int :=
 if cO f.wide 1 40 && cO f.high 1 40 then (if decide ((f.aS.length:Int)=f.wide * f.high) && f.aS.all Rr then 0 else 4) else 1
def fi (f:aD) (c:ax):Bool:=cO c.x 0 (f.wide - 1) && cO c.y 0 (f.high - 1)
def place (f:aD) (c:ax):Int:=f.aS.getD (c.y * f.wide+c.x).toNat 0
def ground (f:aD) (c:ax):Bool:=f.fi c && f.place c != 1
theorem jN {f:aD} (h:f.bp=0):1≤f.wide∧f.wide≤40∧1≤f.high∧f.high≤40∧(f.aS.length:Int)=f.wide * f.high∧∀ p∈f.aS,0≤p∧p≤3:=by
 unfold bp at h;split at h
 ·rename_i κ
  rw [aRY] at κ;have a:=kO κ.1;have b:=kO κ.2;split at h
  ·rename_i aa
   rw [aRY,aSL] at aa;exact ⟨a.1,a.2,b.1,b.2,by simpa using aa.1,λ p hp=>kO (aa.2 p hp)⟩
  ·cases h
 ·cases h
theorem ade {f:aD} (h:(cO f.wide 1 40 && cO f.high 1 40)=false):f.bp=1:=by unfold bp;rw [h];rfl
theorem idx {f:aD} (h:f.bp=0) {c:ax} (hc:f.fi c=true):0≤c.y * f.wide+c.x∧c.y * f.wide+c.x<(f.aS.length:Int)∧0≤c.x∧c.x<f.wide∧0≤c.y∧c.y<f.high:=by
 obtain ⟨g1,g2,g3,g4,g5,_⟩:=jN h;unfold fi at hc;rw [aRY] at hc;have a:=kO hc.1;have b:=kO hc.2;have bc:0≤c.y * f.wide:=aVd b.1 (by omega);have bl:c.y * f.wide≤(f.high - 1) * f.wide:=Int.mul_le_mul_of_nonneg_right b.2 (by omega);have cH:(f.high - 1) * f.wide=f.wide * f.high - f.wide:=by rw [Int.sub_mul,Int.one_mul,Int.mul_comm]
 rw [g5];omega
theorem dU {f:aD} (h:f.bp=0):f.aS.length≤1600:=by
 obtain ⟨g1,g2,g3,g4,g5,_⟩:=jN h;have bl:f.wide * f.high≤40 * 40:=aUm g2 g4 (by omega) (by omega);omega
end aD
namespace aD
def dD (f:aD) (c:ax):Int:=if f.bp≠0 then f.bp else if f.fi c then 0 else 7
def nn (f:aD) (c:ax):Int:=if f.bp≠0 then 0 else if f.fi c then f.place c else 0
theorem TZ {f:aD} {c:ax} (h:f.bp≠0):f.dD c=f.bp∧f.nn c=0:=by unfold dD nn;rw [aR5 h,aR5 h];exact ⟨Z,Z⟩
theorem J7 {f:aD} {c:ax} (h:f.bp=0) (aa:f.fi c=false):f.dD c=7∧f.nn c=0:=by unfold dD nn;simp [h,aa]
theorem mG {f:aD} {c:ax} (h:f.bp=0) (aa:f.fi c=true):f.dD c=0∧f.nn c=f.place c:=by unfold dD nn;simp [h,aa]
theorem ayl {f:aD} {c:ax} (h:c.x<0∨f.wide≤c.x∨c.y<0∨f.high≤c.y):f.fi c=false:=by
 unfold fi;rcases h with h | h | h | h
 ·rw [p0 (.inl h)];rfl
 ·rw [p0 (n:=c.x) (.inr (by omega))];rfl
 ·rw [p0 (n:=c.y) (.inl h),aV2]
 ·rw [p0 (n:=c.y) (.inr (by omega)),aV2]
theorem ayk {f:aD} {c:ax} (κ:0≤c.x) (aa:c.x<f.wide) (aw:0≤c.y) (a6:c.y<f.high):f.fi c=true:=by
 unfold fi;rw [oX κ (by omega),oX aw (by omega)];rfl
end aD
def aLS (k:Int):Option (Int×Int×Int×Int):=if k=1 then some (10,1,1,5) else if k=2 then some (20,2,4,12) else none
namespace ah
def xJ (W:ah) (i:Nat):Bool:=W.field.ground (W.aU.getD i default) && !(W.aU.take i).contains (W.aU.getD i default) && cO (W.bh.getD i 0) 0 1000000
def og (W:ah):Bool:=decide (W.bh.length=W.aU.length) && (List.range W.aU.length).all W.xJ
def xK (W:ah) (i:Nat):Bool:=cO (W.br.getD i 0) 0 1000000 && (decide (W.br.getD i 0≤0) || W.field.aS.getD i 0 == 3)
def o3 (W:ah):Bool:=decide (W.br.length=W.field.aS.length) && (List.range W.br.length).all W.xK
def jQ (W:ah) (i:Nat):Int:=if i=0 then 0 else (W.ao.getD (i - 1) default).id
def ka (k:Int):Int:=if k=1 then 10 else if k=2 then 20 else 0
def A6 (k:Int):Int:=if k=1 then 5 else 0
def MA (W:ah) (iv Fz:Int) (t:bf):Bool :=
 cO t.kind 1 2 && cO t.id iv Fz && cO t.owner 0 ((W.aU.length:Int) - 1) && W.field.ground t.spot && cO t.c7 1 (ka t.kind) && cO t.load 0 (A6 t.kind)
def jf (W:ah) (k:Nat):List ax:=(W.ao.take k).map (·.spot)
def xL (W:ah) (i:Nat):Bool:=W.MA (wrap64 (W.jQ i+1)) (wrap64 (W.next - 1)) (W.ao.getD i default) && !(W.jf i).contains (W.ao.getD i default).spot
def ku (W:ah):Bool:=(List.range W.ao.length).all W.xL && (cO W.next 1 1000000 && cO W.now 0 1000000)
def bp (W:ah):Int :=
 if W.field.bp≠0 then W.field.bp else if 8<W.aU.length∨100<W.ao.length then 2 else if W.og && W.o3 && W.ku then 0 else 4
structure bZ where
 P:Option Addr
 B:Option Addr
 S:Option Addr
 M:Option Addr
 T:Option Addr
 p:Nat
 b:Nat
 s:Nat
 m:Nat
 t:Nat
def Hd (A:Option Addr) (c:Nat) (f:aD):List Value:= [.int .i64 f.wide, .int .i64 f.high, .slice A f.aS.length c]
def cells (h:bZ) (W:ah):List Value :=
 [.int .i64 W.field.wide, .int .i64 W.field.high, .slice h.P W.field.aS.length h.p, .slice h.B W.aU.length h.b, .slice h.S W.bh.length h.s, .slice h.M W.br.length h.m, .slice h.T W.ao.length h.t, .int .i64 W.next, .int .i64 W.now]
theorem aqC (h:bZ) (W:ah):(cells h W).toArray=#[.int .i64 W.field.wide, .int .i64 W.field.high, .slice h.P W.field.aS.length h.p, .slice h.B W.aU.length h.b, .slice h.S W.bh.length h.s, .slice h.M W.br.length h.m, .slice h.T W.ao.length h.t, .int .i64 W.next, .int .i64 W.now]:=rfl
structure Has (w:World) (h:bZ) (W:ah):Prop where
 P:bQ.aJ 8 w h.P h.p W.field.aS
 B:ax.rep.aJ 16 w h.B h.b W.aU
 S:bQ.aJ 8 w h.S h.s W.bh
 M:bQ.aJ 8 w h.M h.m W.br
 T:bf.rep.aJ 56 w h.T h.t W.ao
 nums:fN W.field.wide∧fN W.field.high∧fN W.next∧fN W.now
theorem Has.keep {w w':World} {h:bZ} {W:ah} (hw:Has w h W) (Φ:Below w.heap.size w w'):Has w' h W :=
 ⟨hw.P.keep Φ,hw.B.keep Φ,hw.S.keep Φ,hw.M.keep Φ,hw.T.keep Φ,hw.nums⟩
def aum:gM:= .cons (.int .i64) (.cons (.int .i64) (.cons (.slice (.int .i64) 8) .nil))
def sh:gM:= .cons aum (.cons (.slice ax.sh 16) (.cons (.slice (.int .i64) 8) (.cons (.slice (.int .i64) 8) (.cons (.slice bf.sh 56) (.cons (.int .i64) (.cons (.int .i64) .nil))))))
theorem opens (w:World) (cs:List Value) (h:sh.iY w cs):∃ h W,cs=cells h W∧Has w h W:=by
 obtain ⟨_,_,rfl,_,_,⟨_,_,rfl,_,_,⟨dc,rfl,vM⟩,_,_,rfl,_,_,⟨eL,rfl,ec⟩,_,_,rfl,_,_,cj,rfl⟩,_,_,rfl,_,_,bg,_,_,rfl,_,_,hS,_,_,rfl,_,_,pO,_,_,rfl,_,_,b6,_,_,rfl,_,_,⟨e9,rfl,eD⟩,_,_,rfl,_,_,⟨iN,rfl,kP⟩,rfl⟩:=h;obtain ⟨eY,ap5,lP,rfl,zX⟩:=τ.Ij (R:=bQ) YQ rfl (by decide) cj;obtain ⟨f_,Uj,XH,rfl,aM⟩:=τ.Ij (R:=ax.rep) ax.opens rfl (by decide) bg;obtain ⟨gb,ap6,ayF,rfl,fp⟩:=τ.Ij (R:=bQ) YQ rfl (by decide) hS;obtain ⟨fA,ap4,ai0,rfl,k1⟩:=τ.Ij (R:=bQ) YQ rfl (by decide) pO;obtain ⟨e5,fB,uj,rfl,rb⟩:=τ.Ij (R:=bf.rep) bf.opens rfl (by decide) b6;exact ⟨⟨eY,f_,gb,fA,e5,ap5,Uj,ap6,ap4,fB⟩,⟨⟨dc,eL,lP⟩,XH,ayF,ai0,uj,e9,iN⟩,Z,zX,aM,fp,k1,rb,vM,ec,eD,kP⟩
theorem aeW {w:World} {g:Nat} {t:TypeId} {aA:Nat×Nat} {A:Option Addr} {c:Nat} {f:aD} (h:aP w g (Hd A c f) t aA):
  w.cell? ⟨g,0,none⟩=some (.int .i64 f.wide)∧w.cell? ⟨g,1,none⟩=some (.int .i64 f.high)∧w.cell? ⟨g,2,none⟩=some (.slice A f.aS.length c):=⟨h.cell 0,h.cell 1,h.cell 2⟩
theorem th {w:World} {g:Nat} {t:TypeId} {aA:Nat×Nat} {a:bZ} {W:ah} (h:aP w g (cells a W) t aA):
  w.cell? ⟨g,0,none⟩=some (.int .i64 W.field.wide)∧w.cell? ⟨g,1,none⟩=some (.int .i64 W.field.high)∧w.cell? ⟨g,2,none⟩=some (.slice a.P W.field.aS.length a.p)∧
  w.cell? ⟨g,3,none⟩=some (.slice a.B W.aU.length a.b)∧w.cell? ⟨g,4,none⟩=some (.slice a.S W.bh.length a.s)∧w.cell? ⟨g,5,none⟩=some (.slice a.M W.br.length a.m)∧w.cell? ⟨g,6,none⟩=some (.slice a.T W.ao.length a.t)∧
  w.cell? ⟨g,7,none⟩=some (.int .i64 W.next)∧w.cell? ⟨g,8,none⟩=some (.int .i64 W.now):=⟨h.cell 0,h.cell 1,h.cell 2,h.cell 3,h.cell 4,h.cell 5,h.cell 6,h.cell 7,h.cell 8⟩
end ah
open Tryz

theorem aD.j8 {f:aD} {c:ax} (h:f.ground c=true):f.fi c=true:=by
 unfold aD.ground at h;rw [aRY] at h;exact h.1
namespace ah
theorem ada {W:ah} (h:W.field.bp≠0):W.bp=W.field.bp:=by unfold bp;rw [aR5 h]
theorem adb {W:ah} (h:W.field.bp=0) (aa:8<W.aU.length∨100<W.ao.length):W.bp=2:=by unfold bp;rw [aR0 (by simpa using h),aR5 aa]
theorem Uq {W:ah} (h:W.field.bp=0) (aa:¬ (8<W.aU.length∨100<W.ao.length)):W.bp=if W.og && W.o3 && W.ku then 0 else 4:=by unfold bp;rw [aR0 (by simpa using h),aR0 aa]
end ah
theorem ah.aBk {W:ah} (h:¬ W.bh.length=W.aU.length):W.og=false:=by unfold ah.og;rw [aSt h];rfl
theorem ah.Yx {W:ah} {k:Nat} (av:k<W.aU.length) (h:W.xJ k=false):W.og=false:=by
 unfold ah.og;rw [aU7];right;rw [aUJ];exact ⟨k,aSB.2 av,by rw [h];simp⟩
theorem ah.ake {W:ah} (h:W.bh.length=W.aU.length) (ha:∀ k,k<W.aU.length→W.xJ k=true):W.og=true:=by
 unfold ah.og;rw [aSo h,aUM,aSL];exact λ k av=>ha k (aSB.1 av)
theorem ah.azY {W:ah} (h:¬ W.br.length=W.field.aS.length):W.o3=false:=by unfold ah.o3;rw [aSt h];rfl
theorem ah.ajE {W:ah} {k:Nat} (av:k<W.br.length) (h:W.xK k=false):W.o3=false:=by
 unfold ah.o3;rw [aU7];right;rw [aUJ];exact ⟨k,aSB.2 av,by rw [h];simp⟩
theorem ah.ajF {W:ah} (h:W.br.length=W.field.aS.length) (ha:∀ k,k<W.br.length→W.xK k=true):W.o3=true:=by
 unfold ah.o3;rw [aSo h,aUM,aSL];exact λ k av=>ha k (aSB.1 av)
theorem ah.uD {W:ah} {k:Nat} (av:k<W.ao.length) (h:W.xL k=false):W.ku=false:=by
 unfold ah.ku;rw [aU7];left;rw [aUJ];exact ⟨k,aSB.2 av,by rw [h];simp⟩
def hg (id:Int) (t:bf):Bool:=t.id == id
def qJ (p:ax) (t:bf):Bool:=decide (t.spot=p)
def aFa (W:ah) (p:bf→Bool):Int:=if W.bp=0 then max (gm p W.ao) 0 else 0
def amz (W:ah) (p:bf→Bool):Bool:=decide (W.bp=0) && decide (0≤gm p W.ao)
def aAe (c:ax) (r:Int) (t:bf):Bool:=cO c.x (t.spot.x - r) (t.spot.x+r) && cO c.y (t.spot.y - r) (t.spot.y+r)
def aOe (W:ah) (c:ax) (r:Int):List Int:=(W.ao.filter (aAe c r)).map (·.id)
def aOd (W:ah) (r:Int):Int:=if W.bp≠0 then W.bp else if cO r 0 12 then 0 else 1
theorem VO {W:ah} (h:W.bp=0):W.field.bp=0∧W.aU.length≤8∧W.ao.length≤100∧W.og=true∧W.o3=true∧W.ku=true:=by
 by_cases κ:W.field.bp=0
 ·by_cases aa:8<W.aU.length∨100<W.ao.length
  ·rw [ah.adb κ aa] at h;cases h
  ·rw [ah.Uq κ aa] at h;split at h
   ·rename_i aw
    rw [aRY,aRY] at aw;exact ⟨κ,by omega,by omega,aw.1.1,aw.1.2,aw.2⟩
   ·cases h
 ·rw [ah.ada κ] at h;exact absurd h κ
theorem PW {W:ah} (h:W.bp=0) {k:Nat} {t:bf} (aE:W.ao[k]? =some t):W.field.ground t.spot=true∧cO t.kind 1 2=true∧cO t.owner 0 ((W.aU.length:Int) - 1)=true∧cO t.c7 1 (ah.ka t.kind)=true∧cO t.load 0 (ah.A6 t.kind)=true∧(W.jf k).contains t.spot=false∧cO t.id (wrap64 (W.jQ k+1)) (wrap64 (W.next - 1))=true:=by
 obtain ⟨aG,_,_,_,_,ch⟩:=VO h;unfold ah.ku at ch;rw [aRY,aSL] at ch;have av:=(aRS.1 aE).1;have ef:=ch.1 k (aSB.2 av);unfold ah.xL ah.MA at ef;rw [aRQ,aE] at ef;simp only [aSX,aRY,aS8] at ef;obtain ⟨⟨⟨⟨⟨⟨cf,a2⟩,a3⟩,a4⟩,a5⟩,GJ⟩,OC⟩:=ef;exact ⟨a4,cf,a3,a5,GJ,OC,a2⟩
open Tryz

theorem ajG {W:ah} (h:W.bp=0):1≤W.next∧W.next≤1000000∧0≤W.now∧W.now≤1000000:=by
 obtain ⟨_,_,_,_,_,ch⟩:=VO h;unfold ah.ku at ch;rw [aRY,aRY] at ch;have a:=kO ch.2.1;have b:=kO ch.2.2;exact ⟨a.1,a.2,b.1,b.2⟩
theorem wrap_small {x:Int} (κ: -1000≤x) (aa:x≤2000000):wrap64 x=x:=by
 have h:=aU0 x;unfold wrap64;first | (rw [h];omega) | omega
theorem axX {W:ah} (h:W.bp=0):∀ (k:Nat) (t:bf),W.ao[k]? =some t→W.jQ k<t.id∧t.id<W.next∧0≤W.jQ k:=by
 obtain ⟨Fy,uA,_,_⟩:=ajG h;intro k;induction k with
 | zero =>
  intro t aE;have ef:=kO (PW h aE).2.2.2.2.2.2;have e:W.jQ 0=0:=rfl;rw [e] at ef ⊢;rw [wrap_small (by omega) (by omega),wrap_small (by omega) (by omega)] at ef;omega
 | succ k bF =>
  intro t aE;have bC:=(aRS.1 aE).1;obtain ⟨u,hu⟩:=hP (l:=W.ao) (i:=k) (by omega);have gB:=bF u hu;have ef:=kO (PW h aE).2.2.2.2.2.2;have e:W.jQ (k+1)=u.id:=by
   unfold ah.jQ;rw [aR0 (by omega),aRQ,aVq,hu];rfl
  rw [e] at ef ⊢;rw [wrap_small (by omega) (by omega),wrap_small (by omega) (by omega)] at ef;omega
open Tryz
structure OA (f:aD) (kr:Nat) (t:bf):Prop where
 kind:t.kind=1∨t.kind=2
 owner:0≤t.owner∧t.owner<(kr:Int)
 ground:f.ground t.spot=true
 c7:1≤t.c7∧t.c7≤ah.ka t.kind
 load:0≤t.load∧t.load≤ah.A6 t.kind
structure Good (W:ah):Prop where
 field:W.field.bp=0
 kr:W.aU.length≤8
 eg:W.ao.length≤100
 sl:W.bh.length=W.aU.length
 aU:∀ (i:Nat) c,W.aU[i]? =some c→W.field.ground c=true∧(W.aU.take i).contains c=false
 bh:∀ (i:Nat) s,W.bh[i]? =some s→0≤s∧s≤1000000
 xI:W.br.length=W.field.aS.length
 br:∀ (i:Nat) m,W.br[i]? =some m→0≤m∧m≤1000000∧(m≤0∨W.field.aS.getD i 0=3)
 ao:∀ (i:Nat) t,W.ao[i]? =some t→OA W.field W.aU.length t
 ids:∀ (i:Nat) t,W.ao[i]? =some t→W.jQ i<t.id∧t.id<W.next∧0≤W.jQ i
 jf:∀ (i:Nat) t,W.ao[i]? =some t→(W.jf i).contains t.spot=false
 next:1≤W.next∧W.next≤1000000
 now:0≤W.now∧W.now≤1000000
theorem Good.A8 {W:ah} (h:W.bp=0):Good W:=by
 obtain ⟨aG,gB,xk,hp,hm,aE⟩:=VO h;obtain ⟨Fy,uA,p8,r5⟩:=ajG h;unfold ah.og at hp;unfold ah.o3 at hm;rw [aRY,aSL] at hp hm;have sP:W.bh.length=W.aU.length:=by simpa using hp.1
 have E6:W.br.length=W.field.aS.length:=by simpa using hm.1
 refine ⟨aG,gB,xk,sP,λ i c hc=> ?_,λ i s hs=> ?_,E6,λ i m ar=> ?_,λ i t ar=> ?_,λ i t ar=>axX h i t ar,λ i t ar=>(PW h ar).2.2.2.2.2.1,⟨Fy,uA⟩,⟨p8,r5⟩⟩
 ·have bC:=(aRS.1 hc).1;have:=hp.2 i (aSB.2 bC);unfold ah.xJ at this;rw [aRQ,hc] at this;simp only [aSX,aRY,aS8] at this;exact ⟨this.1.1,this.1.2⟩
 ·have bC:=(aRS.1 hs).1;have:=hp.2 i (aSB.2 (by omega));unfold ah.xJ at this;rw [aRY] at this;have aa:=kO this.2;rw [aRQ,hs] at aa;exact aa
 ·have bC:=(aRS.1 ar).1;have:=hm.2 i (aSB.2 bC);unfold ah.xK at this;rw [aRQ,ar,aRY,aSF] at this;have aa:=kO this.1;refine ⟨aa.1,aa.2, ?_⟩;rcases this.2 with aw | aw
  ·exact .inl (by simpa using aw)
  ·exact .inr (by simpa using aw)
 ·obtain ⟨cf,a2,a3,a4,a5,_,_⟩:=PW h ar;have eZ:=kO a2;have gT:=kO a3;have Ad:=kO a4;have J9:=kO a5;exact ⟨by omega,⟨gT.1,by omega⟩,cf,Ad,J9⟩
theorem Good.bp {W:ah} (h:Good W):W.bp=0:=by
 have hp:W.og=true:=ah.ake h.sl λ k av=>by
  obtain ⟨c,hc⟩:=hP av;obtain ⟨s,hs⟩:=hP (l:=W.bh) (i:=k) (by rw [h.sl];exact av);unfold ah.xJ;rw [aRQ,hc,aRQ,hs];have κ:=h.aU k c hc;have aa:=h.bh k s hs;simp only [aSX];rw [κ.1,κ.2,oX aa.1 aa.2];rfl
 have hm:W.o3=true:=ah.ajF h.xI λ k av=>by
  obtain ⟨m,hm⟩:=hP av;have κ:=h.br k m hm;unfold ah.xK;rw [aRQ,hm];simp only [aSX];rw [oX κ.1 κ.2.1,aUM,aSF];rcases κ.2.2 with aw | aw
  ·exact .inl (by simpa using aw)
  ·exact .inr (by simpa using aw)
 have aE:W.ku=true:=by
  unfold ah.ku;rw [oX h.next.1 h.next.2,oX h.now.1 h.now.2,Bool.and_true,Bool.and_true,aSL];intro k av;obtain ⟨t,aE⟩:=hP (aSB.1 av);have κ:=h.ao k t aE;have aa:=h.ids k t aE;have aw:=h.jf k t aE;have hn:=h.next;unfold ah.xL ah.MA;rw [aRQ,aE];simp only [aSX];have ec:cO t.kind 1 2=true:=by
   rcases κ.kind with h | h
   ·exact oX (by omega) (by omega)
   ·exact oX (by omega) (by omega)
  have eD:cO t.id (W.jQ k+1) (W.next - 1)=true:=oX (by omega) (by omega);have kP:cO t.owner 0 ((W.aU.length:Int) - 1)=true:=oX κ.owner.1 (by have:=κ.owner.2;omega);rw [wrap_small (by omega) (by omega),wrap_small (by omega) (by omega),ec,eD,kP,aw,κ.ground,oX κ.c7.1 κ.c7.2,oX κ.load.1 κ.load.2];rfl
 rw [ah.Uq h.field (by have:=h.kr;have:=h.eg;omega),hp,hm,aE];rfl
open Tryz
structure bq (w:World) (aC:Nat) (a:ah.bZ) (W:ah):Prop where
 P:bQ.aF 3 8 w aC (τ.ag a.P) a.P a.p W.field.aS
 B:ax.rep.aF 49 16 w aC (τ.ag a.B) a.B a.b W.aU
 S:bQ.aF 3 8 w aC (τ.ag a.S) a.S a.s W.bh
 M:bQ.aF 3 8 w aC (τ.ag a.M) a.M a.m W.br
 T:bf.rep.aF 66 56 w aC (τ.ag a.T) a.T a.t W.ao
 apart:(τ.ag a.P++τ.ag a.B++τ.ag a.S++τ.ag a.M++τ.ag a.T).Nodup
 nums:fN W.field.wide∧fN W.field.high∧fN W.next∧fN W.now
theorem bq.has {w:World} {B:Nat} {a:ah.bZ} {W:ah} (h:bq w B a W):ah.Has w a W:=⟨h.P.has,h.B.has,h.S.has,h.M.has,h.T.has,h.nums⟩
theorem bq.later {w w':World} {B:Nat} {a:ah.bZ} {W:ah} (h:bq w B a W) (Φ:Below w.heap.size w w'):bq w' B a W:=⟨h.P.later Φ,h.B.later Φ,h.S.later Φ,h.M.later Φ,h.T.later Φ,h.apart,h.nums⟩
def bq.b1 (a:ah.bZ):List Nat:=τ.ag a.P++τ.ag a.B++τ.ag a.S++τ.ag a.M++τ.ag a.T
theorem bq.lt {w:World} {B:Nat} {a:ah.bZ} {W:ah} (h:bq w B a W):∀ g∈bq.b1 a,B≤g∧g<w.heap.size:=by
 intro g aO;unfold bq.b1 at aO;simp only [aR6] at aO;rcases aO with (((aO | aO) | aO) | aO) | aO
 ·exact h.P.lt g aO
 ·exact h.B.lt g aO
 ·exact h.S.lt g aO
 ·exact h.M.lt g aO
 ·exact h.T.lt g aO
theorem bq.other {w:World} {B:Nat} {a:ah.bZ} {W:ah} (h:bq w B a W) {p:Addr} (hp:p.block∉bq.b1 a) (u:Value):bq (w.setCell p u) B a W:=by
 unfold bq.b1 at hp;simp only [aR6,not_or] at hp;exact ⟨h.P.other hp.1.1.1.1 u,h.B.other hp.1.1.1.2 u,h.S.other hp.1.1.2 u,h.M.other hp.1.2 u,h.T.other hp.2 u,h.apart,h.nums⟩
theorem Ig {w:World} {B:Nat} {A:Option Addr} {α:Type} {R:τ α} {E by_ c:Nat} {l:List α} (h:R.aF E by_ w B (τ.ag A) A c l) {g:Nat} (aO:g<B):g∉τ.ag A:=λ hm=>by have:=h.lt g hm;omega
theorem DB {w:World} {g:Nat} {dc eL e9 iN qe o' qf qX qY:Value} {t:TypeId} {aA:Nat×Nat} (h:aP w g [dc,eL,e9,iN,qe,o',qf,qX,qY] t aA):w.cell? ⟨g,0,none⟩=some dc∧w.cell? ⟨g,1,none⟩=some eL∧w.cell? ⟨g,2,none⟩=some e9∧w.cell? ⟨g,3,none⟩=some iN∧w.cell? ⟨g,4,none⟩=some qe∧w.cell? ⟨g,5,none⟩=some o'∧w.cell? ⟨g,6,none⟩=some qf∧w.cell? ⟨g,7,none⟩=some qX∧w.cell? ⟨g,8,none⟩=some qY :=
 ⟨h.cell 0,h.cell 1,h.cell 2,h.cell 3,h.cell 4,h.cell 5,h.cell 6,h.cell 7,h.cell 8⟩
theorem OH {eA jP:List Nat} {n m:Nat} (κ:eA.Nodup∧∀ g∈eA,g<n) (aa:jP.Nodup) (aw:∀ g∈jP,n≤g∧g<m) (aK3:n≤m):(eA++jP).Nodup∧∀ g∈eA++jP,g<m:=by
 refine ⟨aSI.2 ⟨κ.1,aa,λ a ha b Φ e=> ?_⟩,λ g aO=> ?_⟩
 ·have:=κ.2 a ha;have:=(aw b Φ).1;omega
 ·rcases aR6.1 aO with aO | aO
  ·have:=κ.2 g aO;omega
  ·exact (aw g aO).2
theorem vd (A:Option Addr):(τ.ag A).Nodup:=by cases A<;>simp [τ.ag]
theorem aAg {w:World} {g:Nat} {z0 mr z2 z3 z4 z5 aFC aFD aFE:Value} {t:TypeId} {aA:Nat×Nat} (h:aP w g [z0,mr,z2,z3,z4,z5,aFC,aFD,aFE] t aA) (dc eL e9 iN qe o' qf qX qY:Value):aP (((((((((w.setCell ⟨g,0,none⟩ dc).setCell ⟨g,1,none⟩ eL).setCell ⟨g,2,none⟩ e9).setCell ⟨g,3,none⟩ iN).setCell ⟨g,4,none⟩ qe).setCell ⟨g,5,none⟩ o').setCell ⟨g,6,none⟩ qf).setCell ⟨g,7,none⟩ qX).setCell ⟨g,8,none⟩ qY) g [dc,eL,e9,iN,qe,o',qf,qX,qY] t aA :=
 (((((((((h.set 0 dc).set 1 eL).set 2 e9).set 3 iN).set 4 qe).set 5 o').set 6 qf).set 7 qX).set 8 qY)
theorem bq.nine {w:World} {aC:Nat} {a:ah.bZ} {W:ah} {g:Nat} (h:bq w aC a W) (aO:g∉bq.b1 a) (dc eL e9 iN qe o' qf qX qY:Value):bq (((((((((w.setCell ⟨g,0,none⟩ dc).setCell ⟨g,1,none⟩ eL).setCell ⟨g,2,none⟩ e9).setCell ⟨g,3,none⟩ iN).setCell ⟨g,4,none⟩ qe).setCell ⟨g,5,none⟩ o').setCell ⟨g,6,none⟩ qf).setCell ⟨g,7,none⟩ qX).setCell ⟨g,8,none⟩ qY) aC a W :=
 (((((((((h.other (p:=⟨g,0,none⟩) aO dc).other (p:=⟨g,1,none⟩) aO eL).other (p:=⟨g,2,none⟩) aO e9).other (p:=⟨g,3,none⟩) aO iN).other (p:=⟨g,4,none⟩) aO qe).other (p:=⟨g,5,none⟩) aO o').other (p:=⟨g,6,none⟩) aO qf).other (p:=⟨g,7,none⟩) aO qX).other (p:=⟨g,8,none⟩) aO qY)
theorem apJ {w0 w:World} {aC g:Nat} (h:Below aC w0 w) (aO:aC≤g) (dc eL e9 iN qe o' qf qX qY:Value):Below aC w0 (((((((((w.setCell ⟨g,0,none⟩ dc).setCell ⟨g,1,none⟩ eL).setCell ⟨g,2,none⟩ e9).setCell ⟨g,3,none⟩ iN).setCell ⟨g,4,none⟩ qe).setCell ⟨g,5,none⟩ o').setCell ⟨g,6,none⟩ qf).setCell ⟨g,7,none⟩ qX).setCell ⟨g,8,none⟩ qY):=
 (((((((((h.setCell (p:=⟨g,0,none⟩) aO dc).setCell (p:=⟨g,1,none⟩) aO eL).setCell (p:=⟨g,2,none⟩) aO e9).setCell (p:=⟨g,3,none⟩) aO iN).setCell (p:=⟨g,4,none⟩) aO qe).setCell (p:=⟨g,5,none⟩) aO o').setCell (p:=⟨g,6,none⟩) aO qf).setCell (p:=⟨g,7,none⟩) aO qX).setCell (p:=⟨g,8,none⟩) aO qY)
def abk (w l6:World) (dH:Option Addr) (oe:Nat) (W:ah) (fA:Option Addr) (fT:Nat) (e5:Option Addr) (fF uA:Nat):Prop :=
 ∃ (e6:Option Addr) (mH:Nat) (e1:Option Addr) (mV p8 r5:Nat),aP l6 w.heap.size [.int .i64 W.field.wide, .int .i64 W.field.high, .slice dH W.field.aS.length oe, .slice e6 W.aU.length mH, .slice e1 W.bh.length mV, .slice fA W.br.length fT, .slice e5 W.ao.length fF, .int .i64 W.next, .int .i64 W.now] 28 (0,0)∧
  aP l6 (w.heap.size+1) [.int .i64 0, .int .i64 0, .slice none 0 0, .slice none 0 0, .slice none 0 0, .slice none 0 0, .slice none 0 0, .int .i64 0, .int .i64 0] 28 (0,0)∧bQ.aF 3 8 l6 w.heap.size (τ.ag dH) dH oe W.field.aS∧ax.rep.aF 49 16 l6 uA (τ.ag e6) e6 mH W.aU∧bQ.aF 3 8 l6 p8 (τ.ag e1) e1 mV W.bh∧
  (∀ g∈τ.ag e6,uA≤g∧g<p8)∧(∀ g∈τ.ag e1,p8≤g∧g<r5)∧Below w.heap.size w l6∧uA≤p8∧p8≤r5∧r5=l6.heap.size
open Tryz
open Tryz

namespace τ
variable {α:Type} {R:τ α}
theorem at6 {β:Type} {size:Nat} {X:List (List β)} {i:Nat} {es:List β} (Cz:∀ x∈X,x.length=size) (ar:i<X.length):(X.set i es).flatten=X.flatten.take (i * size)++es++X.flatten.drop (i * size+size):=by
 rw [aVv,aR5 ar,aT4,aSN,PN i Cz,Vt (i+1) Cz,aTt,aSw]
theorem aDv {β:Type} {cur es:List β} {p n k:Nat} (av:es.length=k) (κ:p+k≤n) (aa:n≤cur.length):(cur.take p++es++cur.drop (p+k)).take n=(cur.take n).take p++es++(cur.take n).drop (p+k):=by
 apply aTq;intro j;subst av;simp only [aSy,List.getElem?_append,aRX,aRU,aSV]
 grind
theorem aF.ak0 {E by_ B c i g:Nat} {f:List Nat} {l:List α} {w:World} {q':α} {es:List Value} {cur:Array Value} (h:R.aF E by_ w B f (some ⟨g,0,none⟩) c l) (hp:R.wH) (ar:i<l.length) (I:∀ w,R.has w es q') (ue:w.heap[g]? =some (.cells cur E (0,0))):
  R.aF E by_ (w.setRow g (cur.toList.take (i * R.size)++es++cur.toList.drop (i * R.size+es.length)).toArray) B f (some ⟨g,0,none⟩) c (l.set i q')∧i * R.size+es.length≤cur.toList.length:=by
 obtain ⟨Φ,ps,rfl,hn,b7,dF⟩:=h;have HG:es.length=R.size:=R.len (I w);have aB:=Rp dF;have nA:ps.length=l.length:=dF.length;obtain ⟨j',LH⟩:=b7;obtain ⟨g',cap,Cj,hv,auR,fS,CS,rP,ja,LG,bB⟩:=LH.resolve_left (λ bE=>nomatch bE.1);injection hv with oV CX axJ
 injection oV with oV
 injection oV with oV aLj aLk
 subst oV axJ;rw [fS] at ue;injection ue with ue
 injection ue with ue
 subst ue;have hle:i * R.size+R.size≤l.length * R.size:=by rw [← aTt];exact aSE _ ar
 have WW:l.length * R.size≤c * R.size:=aSE _ CS;have sP:Cj.toList.length=c * R.size:=by rw [aT6,ja]
 obtain ⟨x,hx,LJ⟩:=dF.at_ (dn (l:=l) (u:=q') ar);have jb:x.1= []:=hp.2 LJ;have Wy:∀ y∈ps,∀ q∈y.1,q≠g:=λ y aK q I e=>by
  obtain ⟨b,ET⟩:=dF.left y aK;rw [hp.2 ET] at I;simp at I
 have bc:(ps.set i (x.1,es)).map (·.1)=ps.map (·.1):=by
  rw [aS7];have:(ps.map (·.1))[i]? =some x.1:=by rw [aSa,hx];rfl
  obtain ⟨aa,aw⟩:=aRS.1 this
  conv=>lhs;rw [← aw]
  exact aTz _
 have bl:(ps.set i (x.1,es)).map (·.2)=(ps.map (·.2)).set i es:=by rw [aS7]
 have agr:=at6 (es:=es) aB (by rw [aSp];omega:i<(ps.map (·.2)).length);rw [HG];refine ⟨⟨by rw [aR1];exact Φ,ps.set i (x.1,es),by rw [bc],hn,⟨?_, .inr ⟨g,c,(Cj.toList.take (i * R.size)++es++Cj.toList.drop (i * R.size+R.size)).toArray,by rw [aR1],auR, ?_,by rw [aR1];exact CS,rP, ?_, ?_, ?_⟩⟩, ?_⟩,by omega⟩
 ·rw [bl,agr,aR1];simp only [aRX,aRU,aSb,j',HG];omega
 ·exact aP.setRow (cur:=Cj.toList) (by simpa [aP] using fS) _
 ·rw [aTn];simp only [aRX,aRU,aSb,sP,HG];omega
 ·rw [aR1,bl,agr,← LG];exact aDv HG hle (by omega)
 ·intro j u hu;rw [aU5] at hu;by_cases κ:j<i * R.size
  ·refine bB j u ?_;rw [aSw,aSd (by rw [aRU];omega),aSy,aR5 κ] at hu;rw [← aSW];exact hu
  ·by_cases aa:j<i * R.size+R.size
   ·rw [aSw,aSf (by rw [aRU];omega),aSd (by rw [aRU];omega),aRU] at hu;have ay:j % R.size=j - i * R.size:=by
     have aw:j=R.size * i+(j - i * R.size):=by rw [aS6];omega
     have bL:(j - i * R.size) % R.size=j - i * R.size:=aS9 (by omega)
     conv=>lhs;rw [aw,aUu,bL]
    rw [ay];exact R.v7 (I w) _ u (by rw [aTC (by omega)] at hu;exact hu)
   ·refine bB j u ?_;rw [aSf (by simp only [aRX,aRU];omega),aSV] at hu;rw [← aSW];rw [show i * R.size+R.size+(j - (List.take (i * R.size) Cj.toList++es).length)=j from by simp only [aRX,aRU];omega] at hu;exact hu
 ·have Wk:c_ (λ x a=>R.own (w.setRow g (Cj.toList.take (i * R.size)++es++Cj.toList.drop (i * R.size+R.size)).toArray) B x.1 x.2 a) ps l:=dF.imp λ y a aK QP=>R.s3 QP λ q I=>(Mod.setRow w g _).block q (R.vX QP q I).2 (by simpa using Wy y aK q I);exact Wk.Y4 (P:=λ (x:List Nat×List Value) a=>R.own _ B x.1 x.2 a) (by rw [jb];exact hp.1 (I _))
end τ
section
variable {P:Program} {n:Nat} {E cU:List (Nat×Value)} {a:Act} {w w' w0 aW:World} {Q:Exit→Act→World→Prop} {ops:Array Oper} {v:Value}
variable {d:Option Nat} {ty:TypeId} {pos:String} {af:Array Edge} {g:Option (Nat×Bool)} {x y z:Operand} {t:TypeId} {rest:List Oper}
theorem MT {α:Type} {R:τ α} {e by_ B i:Nat} {A:Option Addr} {c:Nat} {l:List α} {q':α} {p:Addr} {es:List Value} (h:R.aF e by_ w B (τ.ag A) A c l) (hR:R.wH) (ar:i<l.length) (hx:ev E x=some (.pointer (some p))) (hp:p=⟨e6 A,la A+i * R.size,none⟩) (aK:ev E y=some v) (hc:v.cells=es.toArray)
  (I:∀ w,R.has w es q') (hs:eP P t es.length)
  (av:∀ aW,Mod (τ.ag A) w aW→R.aF e by_ aW B (τ.ag A) A c (l.set i q')→cK P n ops Q rest E aW):cK P n ops Q (⟨none, .store t x y,ty,pos,af,none⟩::rest) E w:=by
 obtain ⟨b,rfl⟩:=h.block (by omega);have Lr:p=⟨b,i * R.size,none⟩:=by rw [hp];simp [e6,la]
 subst Lr;obtain ⟨_,ps,_,_,b7,_⟩:=id h;obtain ⟨cur,ue,_,_⟩:=b7.ac7;obtain ⟨vL,hle⟩:=τ.aF.ak0 (q':=q') h hR ar I ue;have iu:=YV (P:=P) (w:=w) (b:=b) (p:=i * R.size) (cur:=cur.toList) (e:=e) (by simpa [aP] using ue) hc hs (aSL.2 (R.one (I w))) hle;refine us (λ n a ha=> ?_) (av _ (Mod.setRow w b _) vL);simp only [execOp,ha.ev hx,ha.ev aK,Instr.storeAt,Instr.sureAddr,aR8,aR9,aRZ,iu]
def Yw (A:Option Addr) (aH2:Nat):Option Addr:=A
theorem RL {A:Option Addr} {len cap e s:Nat} {k:IntKind} (ar m:Nat) {i:Int} (aE:P.underlying t=some (.slice e)) (hs:eP P e s) (hx:ev E x=some (.slice A len cap)) (aK:ev E y=some (.int k i)) (κ:i=(ar:Int)) (aa:ar≤cap) (hm:m=ar):cY P E ⟨d, .slice t x none (some y) none,ty,pos,af,g⟩ w (.slice (Yw A ar) m cap) w:=λ n a ha=>by
 subst κ;subst hm;have κ:P.underlying t=some (.slice (P.elem t)):=by simp [Program.elem,aE]
 have mU:P.elem t=e:=by simp [Program.elem,aE]
 have aw:=run_slice_h (P:=P) (w:=w) t A len cap κ k (m:Int) (by omega) (by omega);have a6:=aUn (P:=P) (w:=w) t (.slice A len cap) none (some (.int k (m:Int))) none κ;rw [mU,hs w] at aw;simp only [execOp,ha.ev hx,ha.ev aK,Option.map,a6,aw,aR8,aRZ,aR9,sliced,aSJ,Nat.sub_zero];unfold Yw;cases A with
 | none=>simp
 | some a=>simp [Addr.add]
end
theorem τ.aJ.pre {α:Type} {R:τ α} {by_ c:Nat} {A:Option Addr} {l:List α} {w:World} (h:R.aJ by_ w A c l) (k:Nat):R.aJ by_ w (Yw A k) c (l.take k):=h.IE k
open Tryz
section
variable {P:Program} {n:Nat} {E:List (Nat×Value)} {w:World} {Q:Exit→Act→World→Prop} {ops:Array Oper} {aZ:Nat→Nat}
def aak (P:Program) (ops:Array Oper) (Q:Exit→Act→World→Prop) (aZ:Nat→Nat) (aGy aGz:List Nat):Exit→Act→World→Prop :=
 hj (λ a w=>uO P ops (hj (Q .normal)) aZ aGy a w∧uO P ops (hj (Q .normal)) aZ aGz a w)
theorem YN {id:Nat} (mO:List (Nat×Nat)) (b5:List Nat) (i:Nat) (zG:List Nat) (j:Nat) (DQ:List Nat) (hm:P.follows .mixedOrders=true)
  (bg:(Region.noSelect ops && (b5.length+(zG.length+1)== ops.size) && (zG.length == DQ.length) && Nat.blt 1 (oY mO i) && Nat.blt 1 (oY mO j) && EI ops (oY mO) b5 (Array.replicate ops.size false) && (Region.ready .any ops (zk b5 (Array.replicate ops.size false))== [i,j]) && kl ops (oY mO) zG ((zk b5 (Array.replicate ops.size false)).setIfInBounds i true) && kl ops (oY mO) DQ ((zk b5 (Array.replicate ops.size false)).setIfInBounds j true))=true)
  (h:j0 P n ops (aak P ops Q (oY mO) (i::zG) (j::DQ)) (oY mO) b5 E w):W P n (.region id ops true) Q E w:=λ a ha=>by
 simp only [aRY,aSQ,aVp] at bg;obtain ⟨⟨⟨⟨⟨⟨⟨⟨hs,aB⟩,hlen⟩,ar⟩,ay⟩,κ⟩,hr⟩,aa⟩,aw⟩:=bg;refine wp_mono (aVw hm (Q:=hj (Q .normal)) ?_) (λ e a w I=>by cases e<;>first | exact I | exact I.elim);have:=TV (P:=P) hs (Q:=hj (Q .normal)) (λ _ _ _ h=>h) (m:=zG.length+1) b5 (Array.replicate ops.size false) a w (by simp) κ (h a ha) (λ a w0 fS=>by
  have fS:uO P ops (hj (Q .normal)) (oY mO) (i::zG) a w0∧uO P ops (hj (Q .normal)) (oY mO) (j::DQ) a w0:=fS w0 (Ext.bI w0);refine ⟨λ aG=>(by rw [hr] at aG;cases aG),λ q I=> ?_⟩;rw [hr] at I;have I:q=i∨q=j:=by simpa using I
  rcases I with rfl | rfl
  ·obtain ⟨⟨o,b7,h⟩,_⟩:=fS;rcases h with ⟨av,_⟩ | ⟨av,_⟩ | ⟨av,h⟩
   ·omega
   ·omega
   ·exact ⟨o,b7, .inr ⟨av,λ w hw=>aT7 (λ a' w' aw=>⟨aw.1,Es hs (λ _ _ _ h=>h) zG _ _ _ (by simp [Y2]) aa aw.2⟩) (h w hw)⟩⟩
  ·obtain ⟨_,⟨o,b7,h⟩⟩:=fS;rcases h with ⟨av,_⟩ | ⟨av,_⟩ | ⟨av,h⟩
   ·omega
   ·omega
   ·exact ⟨o,b7, .inr ⟨av,λ w hw=>aT7 (λ a' w' bL=>⟨bL.1,by rw [hlen];exact Es hs (λ _ _ _ h=>h) DQ _ _ _ (by simp [Y2]) aw bL.2⟩) (h w hw)⟩⟩)
 rw [aB] at this;exact B' _ _ _ _ this _ (aSm _ w).drew
theorem Vr {zG DQ:List Nat} (κ:j0 P n ops Q aZ zG E w) (aa:j0 P n ops Q aZ DQ E w):N n (aak P ops Q aZ zG DQ) E w:=λ a ha=>⟨κ a ha,aa a ha⟩
end
open Tryz
section
def j6 (ro:Option Nat):Fence:= {Fence.wide with round:=ro}
section
variable {P:Program} {ro:Option Nat} {m:Nat} {ops:Array Oper} {Q:Exit→Act→World→Prop} {w:World}
theorem ac4 {f:FuncId} {args:Array Value} {R:Ending→World→Prop} (h:Calls P f args w R):CallsIn (j6 ro) m P f args w R:=(callsIn_wide (n:=m)).2 h
theorem aCo {row:String} {args:Array Value} {R:Value→World→Prop} (h:Rows P row args w R):RowsIn (j6 ro) m P row args w R:=λ c cs _ =>
 let ⟨v,w',r,s⟩:=h c cs;⟨v,w',r,stepsIn_wide.2 s⟩
def C' (o:Oper):Bool:=match o.op with
 | .defer _=>false
 | _=>true
theorem aj0 {o:Oper} {a:Act} {K:Act→World→Prop} (hd:C' o=true) (h:o.wp P a w K Q):o.wpIn (j6 ro) m P a w K Q:=by
 refine ⟨λ _ _=>trivial, ?_⟩;have hs:o.semAt (j6 ro).round a.eval=execOp a.eval o:=aUP _ _ _ (λ c e=>by simp [C',e] at hd);rw [hs];unfold Oper.wp at h;generalize (execOp a.eval o).run P w=r at *
 cases r with
 | ok x w' =>
  cases x<;>simp only [Oper.upon] at h<;>simp only [Oper.uponIn] <;>
   first
    | exact h
    | exact h.elim
    | exact ⟨λ h=>by simp [j6,Fence.wide] at h,ac4 h⟩
    | exact ⟨λ h=>by simp [j6,Fence.wide] at h,aCo h⟩
 | halt x w'=>cases x<;>simp only [Oper.upon] at h<;>simp only [Oper.uponIn]<;>first | exact h | exact h.elim
theorem XP:∀ (l:List Oper) {a:Act} {w:World},l.all C'=true→wpList P ops Q l a w→(∀ c a w,¬ Q (.panic c) a w)→¬ LetsOut Q→wpListIn (j6 ro) m P ops Q l a w
 | [],a,w,_,h,_,_=>by unfold wpList at h;unfold wpListIn;exact h
 | o::rest,a,w,hd,h,hp,b7=>by
  rw [List.all_cons,aRY] at hd;unfold wpList at h;unfold wpListIn;split at h
  ·rename_i hw
   rw [aR5 hw];rcases h with h | ⟨h,x⟩
   ·exact Oper.wpIn_mono (λ a w h=>XP rest hd.2 h hp b7) (aj0 hd.1 h)
   ·exact (b7 x).elim
  ·rename_i hw
   rw [aR0 hw];exact ⟨λ _ _=>trivial,XP rest hd.2 h hp b7⟩
theorem aFb {i:Nat} {K:Act→World→Prop} {a:Act} {w:World} (hd:ops.toList.all C'=true) (b7:¬ LetsOut Q) (h:wpOp P ops Q i K a w):wpOpIn (j6 ro) m P ops Q i K a w:=by
 unfold wpOp at h;unfold wpOpIn;split at h
 ·rename_i ar;simp only [ar];exact h
 ·rename_i o ar
  simp only [ar];have avZ:C' o=true:=aSL.1 hd o (by rw [Array.mem_toList_iff];exact Array.mem_of_getElem? ar);split at h
  ·rename_i hw
   rw [aR5 hw];rcases h with h | ⟨h,x⟩
   ·exact aj0 avZ h
   ·exact (b7 x).elim
  ·rename_i hw
   rw [aR0 hw];exact ⟨λ _ _=>trivial,h⟩
theorem aco (hd:ops.toList.all C'=true) (b7:¬ LetsOut Q):∀ (f:Nat) (l:Array Bool) {a:Act} {w:World},wpAny P .any ops Q f l a w→wpAnyIn (j6 ro) m P .any ops Q f l a w
 | 0,l,a,w,h=>h
 | f+1,l,a,w,h=>⟨h.1,λ i ar=>wpOpIn_mono (λ a w h=>aco hd b7 f _ h) (aFb hd b7 (h.2 i ar))⟩
end
theorem ajK {K:Act→World→Prop}:∀ c a w,¬ hj K (.panic c) a w:=λ _ _ _ h=>h
theorem ajJ {K:Act→World→Prop}:¬ LetsOut (hj K):=λ ⟨_,_,h⟩=>h
theorem ajI {K:Exit→Act→World→Prop}:∀ e a w,hj (K .normal) e a w→K e a w:=λ e a w h=>by cases e<;>first | exact h | exact h.elim
namespace Rd
section
variable {P:Program} {ro:Option Nat} {m n:Nat} {ops:Array Oper} {Q:Exit→Act→World→Prop} {w w0:World} {E cU:List (Nat×Value)} {id QQ:Nat} {c:Operand} {x y:Code} {i j:Int} {b5:List Nat} {v:Value}
def W (ro:Option Nat) (m:Nat) (P:Program) (n:Nat) (c:Code) (Q:Exit→Act→World→Prop) (E:List (Nat×Value)) (w:World):Prop:=∀ a,et n E a→c.wpIn (j6 ro) m P Q a w
abbrev M (n:Nat) (Q:Exit→Act→World→Prop) (E:List (Nat×Value)) (w:World):Prop:=N n (hj (Q .normal)) E w
abbrev rm (ro:Option Nat) (m:Nat) (P:Program) (y:Code) (Q:Exit→Act→World→Prop):Exit→Act→World→Prop:=Exit.then (λ a w=>y.wpIn (j6 ro) m P Q a w) Q
theorem az (h:W ro m P n x (rm ro m P y Q) E w):W ro m P n (.seq x y) Q E w:=λ a ha=>wpIn_seq (h a ha)
theorem fo (h:M n Q E w):W ro m P n .skip Q E w:=λ a ha=>wpIn_skip (h a ha)
theorem rt (h:T n Q E w):W ro m P n .ret Q E w:=λ a ha=>wpIn_ret (h a ha)
theorem dK (h:X n Q id E w):W ro m P n (.exit id) Q E w:=λ a ha=>wpIn_exit (h a ha)
theorem bS (h:W ro m P n x (Exit.inBlock id Q) E w):W ro m P n (.block id x) Q E w:=λ a ha=>wpIn_block (h a ha)
theorem rg {l:List Oper} (h:cK P n l.toArray (hj (Q .normal)) l E w) (hd:l.all C'=true:=by kernel_rfl):W ro m P n (.region id l.toArray false) Q E w:=λ a ha=>Go.wpIn_mono (aV4 (XP l hd (h a ha) ajK ajJ)) ajI
theorem dE {b:Bool} (hc:ev E c=some (.bool b)) (κ:b=true→W ro m P n x Q E w) (aa:b=false→W ro m P n y Q E w):W ro m P n (.cond c x y) Q E w :=
 λ a ha=>wpIn_cond_split (ha.ev hc) (λ h=>κ h a ha) (λ h=>aa h a ha)
theorem en (hc:ev E c=some (.bool (decide (i<j)))) (κ:i<j→W ro m P n x Q E w) (aa:¬ i<j→W ro m P n y Q E w):W ro m P n (.cond c x y) Q E w:=dE hc (λ h=>κ (aS3 h)) (λ h=>aa (aUe h))
theorem ey (hc:ev E c=some (.bool (i != j))) (κ:¬ i=j→W ro m P n x Q E w) (aa:i=j→W ro m P n y Q E w):W ro m P n (.cond c x y) Q E w:=dE hc (λ h=>κ (by simpa using h)) (λ h=>aa (by simpa using h))
theorem aV (h:W ro m P n y Q E w):M n (rm ro m P y Q) E w:=h
theorem ne {fn:Func} {R:Ending→World→Prop} (h:T n (bodyPost P fn R) E w):M n (bodyPost P fn R) E w:=λ a ha=>h a ha
theorem bY (h:M n Q E w):M n (Exit.inBlock id Q) E w:=h
theorem dJ (h:X n Q id E w):X n (rm ro m P y Q) id E w:=h
theorem dI (h:M n Q E w):X n (Exit.inBlock id Q) id E w:=λ a ha=>by simp only [Exit.inBlock,aTD];exact h a ha
theorem bO (h:T n Q E w):T n (rm ro m P y Q) E w:=h
theorem fk {c:Code} (kE:Nat→List (Nat×Value)→World→Prop) (k:Nat) (cU:List (Nat×Value)) (aG:kE k cU w) (hs:Sub cU E)
  (round:∀ k E w,kE k E w→W ro m P n c (Exit.then (Oj n kE k) Q) E w):W ro m P n (.loop c) Q E w:=λ a ha=>by
 intro b HV cs axq Φ hr;have key:∀ k a w,(∃ E,kE k E w∧et n E a)→∃ e a' w',Q e a' w'∧ArrivesIn (Machine.fenced P (j6 ro)) P (lone (b.atR a (.code c:: .inLoop c::HV)) cs w) b HV cs e a' w':=by
  intro k;induction k using Nat.strongRecOn with
  | _ k bF =>
   intro a w ⟨E,qA,ha⟩;obtain ⟨e,cf,aW,I,pR⟩:=round k E w qA a ha b (.inLoop c::HV) cs axq Φ hr;cases e with
   | normal =>
    obtain ⟨m',bC,VY⟩:=I;obtain ⟨bl,a2,cF,xv,Wm⟩:=bF m' bC cf aW VY;exact ⟨bl,a2,cF,xv, .of_steps (StepsIn.trans pR (.one (fenced_calm Φ hr Z) stepR_inLoop)) Wm⟩
   | exit id=>exact ⟨_,cf,aW,I, .pass (x:= .inLoop c) rfl (λ _ _=> .inl (by simp)) pR⟩
   | goto l=>exact ⟨_,cf,aW,I, .pass (x:= .inLoop c) rfl (λ _ _=> .inl (by simp)) pR⟩
   | ret=>exact ⟨_,cf,aW,I, .pass (x:= .inLoop c) rfl (λ _ _=> .inl (by simp)) pR⟩
   | panic aqH=>exact ⟨_,cf,aW,I, .pass (x:= .inLoop c) rfl (λ _ _=> .inl (by simp)) pR⟩
   | outgrown=>exact ⟨_,cf,aW,I, .pass (x:= .inLoop c) rfl (λ _ _=> .inl (by simp)) pR⟩
 obtain ⟨e,a',w',I,pR⟩:=key k a w ⟨cU,aG,ha.sub hs⟩;exact ⟨e,a',w',I, .of_steps (.one (fenced_calm Φ hr Z) stepR_loop) pR⟩
theorem c' {kE:Nat→List (Nat×Value)→World→Prop} {k:Nat} (k':Nat) (cU:List (Nat×Value)) (h:kE k' cU w) (hm:k'<k) (hs:Sub cU E):M n (Exit.then (Oj n kE k) Q) E w :=
 λ a ha=>⟨k',hm,cU,h,ha.sub hs⟩
theorem rd (mO:List (Nat×Nat)) (b5:List Nat) (hm:P.follows .mixedOrders=true) (bg:(Region.noSelect ops && (b5.length == ops.size) && kl ops (oY mO) b5 (Array.replicate ops.size false))=true)
  (h:j0 P n ops (hj (Q .normal)) (oY mO) b5 E w) (hd:ops.toList.all C'=true:=by kernel_rfl):W ro m P n (.region id ops true) Q E w:=λ a ha=>by
 simp only [aRY,aSQ] at bg;obtain ⟨⟨hs,aB⟩,bg⟩:=bg;refine Go.wpIn_mono (wpIn_region_any hm (Q:=hj (Q .normal)) (aco hd ajJ _ _ ?_)) ajI;have:=Es (P:=P) hs (Q:=hj (Q .normal)) ajK b5 (Array.replicate ops.size false) a w (by simp) bg (h a ha);rw [aB] at this;exact B' _ _ _ _ this _ (aSm _ w).drew
theorem acn {l:List Value} (aB:Nat.ble l.length n=true):et n (Ca 0 l) {tmps:=l.toArray++Array.replicate (n - l.toArray.size) undef,defers:= []}:=by
 refine ⟨Z, ?_,λ t v hv=> ?_⟩
 ·have:=aTS aB;simp only [aVH,aWt,aTn];omega
 ·obtain ⟨j,e,ay⟩:=TW l 0 t v hv;have bC:=(aRS.1 ay).1;rw [aV3 (by simp;omega)];simpa [show t=j by omega] using ay
theorem cd {f:FuncId} {fn:Func} {c:Code} {l:List Value} {R:Ending→World→Prop} (hf:P.funcs[f]? =some fn) (Φ:fn.body=some c) (hn:fn.ntmps=n) (aB:Nat.ble l.length n=true)
  (h:W none m P n c (bodyPostM (j6 none) m P fn R) (Ca 0 l) w):Calls P f l.toArray w R:=by
 have κ:CallsIn (j6 none) m P f l.toArray w R:=callsIn_of_wp_marks hf Φ trivial (by rw [hn];exact h _ (acn aB)) rfl;exact (callsIn_wide (n:=m)).1 κ
theorem aqx {f:FuncId} {fn:Func} {c:Code} {l:List Value} {R:Ending→World→Prop} (hf:P.funcs[f]? =some fn) (Φ:fn.body=some c) (hn:fn.ntmps=n) (aB:Nat.ble l.length n=true)
  (h:W none m P n c (bodyPost P fn R) (Ca 0 l) w):CallsIn (j6 none) m P f l.toArray w R :=
 callsIn_of_wp hf Φ trivial (by rw [hn];exact h _ (acn aB)) rfl
theorem a8 {fn:Func} {R:Ending→World→Prop} {vs:List Value} (h:wW P E w fn.results.toList vs) (hR:R (.returned (uE vs)) w):T n (bodyPostM (j6 none) m P fn R) E w :=
 λ a ha=>by
  show LeavesInM _ _ _ _ _ _ a.defers _ _;rw [ha.d];exact ⟨_,YU h ha,hR⟩
end
end Rd
namespace oH
section
variable {P:Program} {ro:Option Nat} {m n:Nat} {ops:Array Oper} {Q:Exit→Act→World→Prop} {w w' w0:World} {E cU:List (Nat×Value)} {id:Nat} {v:Value}
variable {d:Option Nat} {ty:TypeId} {pos:String} {af:Array Edge} {g:Option (Nat×Bool)} {x y z:Operand} {t:TypeId} {rest:List Oper}
def cK (ro:Option Nat) (m:Nat) (P:Program) (n:Nat) (ops:Array Oper) (Q:Exit→Act→World→Prop) (l:List Oper) (E:List (Nat×Value)) (w:World):Prop:=∀ a,et n E a→wpListIn (j6 ro) m P ops Q l a w
theorem rg {l:List Oper} (h:cK ro m P n l.toArray Q l E w):Rd.W ro m P n (.region id l.toArray false) Q E w:=λ a ha=>aV4 (h a ha)
theorem nl (h:Rd.M n Q E w):cK ro m P n ops Q [] E w:=h
theorem iy {d:Nat} {op:Op} (hr:cY P E ⟨some d,op,ty,pos,af,none⟩ w v w') (hd:Nat.blt d n=true) (h:cK ro m P n ops Q rest ((d,v)::E) w'):cK ro m P n ops Q (⟨some d,op,ty,pos,af,none⟩::rest) E w:=λ a ha=>by
 have lA:=hr n a ha;unfold wpListIn;rw [aR5 (by simp [Region.wanted])];refine ⟨λ _ _=>trivial, ?_⟩;have hs:(⟨some d,op,ty,pos,af,none⟩:Oper).semAt (j6 ro).round a.eval=execOp a.eval ⟨some d,op,ty,pos,af,none⟩:=aUP _ _ _ (λ c e=>by
  have e:op= .defer c:=e;subst e;simp only [execOp,aR8,aR9] at lA;revert lA;generalize (resolve a.eval c ty).run P w=r;cases r<;>simp [Result.andThen])
 rw [hs,lA];exact h _ (ha.put hd v)
theorem aFz {d:Nat} {l:Nat} {xs:Array Operand} {ts:Array TypeId} {args:List Value} (hx:ev E x=some (.func (.yield l) #[] #[])) (he:hO E xs.toList=some args) (hd:Nat.blt d n=true)
  (h:YieldAt (j6 ro) (m - 1) P l args.toArray w λ e w'=>∃ v,e= .returned v∧cK ro m P n ops Q rest ((d,v)::E) w'):cK ro m P n ops Q (⟨some d, .call {callee:= .value x,args:=xs,argTypes:=ts},ty,pos,af,none⟩::rest) E w:=λ a ha=>by
 obtain ⟨fn,tmps,assign,body,aK,hR⟩:=h;unfold wpListIn;rw [aR5 (by simp [Region.wanted])];refine ⟨λ _ _=>trivial, ?_⟩;have hs:(⟨some d, .call {callee:= .value x,args:=xs,argTypes:=ts},ty,pos,af,none⟩:Oper).semAt (j6 ro).round a.eval=execOp a.eval ⟨some d, .call {callee:= .value x,args:=xs,argTypes:=ts},ty,pos,af,none⟩:=aUP _ _ _ (λ c e=>by cases e);have hm:xs.map a.eval=args.toArray:=by rw [← ha.hO he];apply aTl;simp
 have lA:(execOp a.eval ⟨some d, .call {callee:= .value x,args:=xs,argTypes:=ts},ty,pos,af,none⟩).run P w= .ok (.round l fn tmps assign body) w:=by
  unfold execOp;simp only [resolve,invoke,Deferred.ofValue,ha.ev hx,callFunc,aR8,aR9,aRZ,hm,aUB];first
   | exact aK
   | simpa using aK
 rw [hs,lA];refine ⟨λ h=>by simp [j6,Fence.wide] at h,hR.mono λ e w' he=> ?_⟩;obtain ⟨v,rfl,h⟩:=he;exact h _ (ha.put hd v)
end
end oH
def mark (D:Nat):List Deferred:= [{target:= .collected D,args:=#[]}]
def wd (ds:List Deferred) (a:Act):Act:= {a with defers:=ds}
theorem amw (ds:List Deferred) (a:Act) (d:Option Nat) (v:Value):(wd ds a).put d v=wd ds (a.put d v):=by cases d<;>rfl
theorem ZL (ds:List Deferred) (a:Act):(wd ds a).eval=a.eval:=by funext x;cases x<;>rfl
def zN (w:World) (D:Nat):Prop:=w.heap[D]? =some (.deferred (some []))
theorem zN.lt {D:Nat} {w:World} (h:zN w D):D<w.heap.size:=(aSs.1 h).1
theorem zN.later {D:Nat} {w w':World} (h:zN w D) (x:Ext w w'):zN w' D:=(x.block D h.lt).trans h
def Zs (w:World) (D:Nat):World:=w.putObj D (.deferred none)
theorem zN.un {D:Nat} {w:World} (h:zN w D):Mod [D] w (Zs w D):=by
 have:=Mod.grown (grownBy_putObj' w D (.deferred none));exact this
namespace gK
section
variable {P:Program} {ds:List Deferred} {m n:Nat} {ops:Array Oper} {Q:Exit→Act→World→Prop} {w w' w0:World} {E cU:List (Nat×Value)} {id:Nat} {v:Value}
variable {d:Option Nat} {ty:TypeId} {pos:String} {af:Array Edge} {g:Option (Nat×Bool)} {x y z:Operand} {t:TypeId} {rest:List Oper} {c:Operand} {dL tU:Code} {i j:Int}
def W (ds:List Deferred) (m:Nat) (P:Program) (n:Nat) (c:Code) (Q:Exit→Act→World→Prop) (E:List (Nat×Value)) (w:World):Prop:=∀ a,et n E a→c.wpIn (j6 none) m P Q (wd ds a) w
def N (ds:List Deferred) (n:Nat) (Q:Exit→Act→World→Prop) (E:List (Nat×Value)) (w:World):Prop:=∀ a,et n E a→Q .normal (wd ds a) w
def T (ds:List Deferred) (n:Nat) (Q:Exit→Act→World→Prop) (E:List (Nat×Value)) (w:World):Prop:=∀ a,et n E a→Q .ret (wd ds a) w
def cK (ds:List Deferred) (m:Nat) (P:Program) (n:Nat) (ops:Array Oper) (Q:Exit→Act→World→Prop) (l:List Oper) (E:List (Nat×Value)) (w:World):Prop:=∀ a,et n E a→wpListIn (j6 none) m P ops Q l (wd ds a) w
theorem az (h:W ds m P n dL (Rd.rm none m P tU Q) E w):W ds m P n (.seq dL tU) Q E w:=λ a ha=>wpIn_seq (h a ha)
theorem fo (h:N ds n Q E w):W ds m P n .skip Q E w:=λ a ha=>wpIn_skip (h a ha)
theorem rt (h:T ds n Q E w):W ds m P n .ret Q E w:=λ a ha=>wpIn_ret (h a ha)
theorem rg {l:List Oper} (h:cK ds m P n l.toArray Q l E w):W ds m P n (.region id l.toArray false) Q E w:=λ a ha=>aV4 (h a ha)
theorem nl (h:N ds n Q E w):cK ds m P n ops Q [] E w:=h
theorem aV (h:W ds m P n tU Q E w):N ds n (Rd.rm none m P tU Q) E w:=h
theorem bY (h:N ds n Q E w):N ds n (Exit.inBlock id Q) E w:=h
theorem bO (h:T ds n Q E w):T ds n (Rd.rm none m P tU Q) E w:=h
theorem dE {b:Bool} (hc:ev E c=some (.bool b)) (κ:b=true→W ds m P n dL Q E w) (aa:b=false→W ds m P n tU Q E w):W ds m P n (.cond c dL tU) Q E w :=
 λ a ha=>wpIn_cond_split (by rw [ZL];exact ha.ev hc) (λ h=>κ h a ha) (λ h=>aa h a ha)
theorem ey (hc:ev E c=some (.bool (i != j))) (κ:¬ i=j→W ds m P n dL Q E w) (aa:i=j→W ds m P n tU Q E w):W ds m P n (.cond c dL tU) Q E w:=dE hc (λ h=>κ (by simpa using h)) (λ h=>aa (by simpa using h))
theorem aAh {o:Oper} {a:Act} {v:Value} (h:(execOp a.eval o).run P w= .ok (.value v) w'):∀ c,o.op≠ .defer c:=λ c e=>by
 unfold execOp at h;rw [e] at h;simp only [aR8,aR9] at h;revert h;generalize (resolve a.eval c o.type).run P w=r;cases r<;>simp [Result.andThen]
theorem iy {d:Nat} {op:Op} (hr:cY P E ⟨some d,op,ty,pos,af,none⟩ w v w') (hd:Nat.blt d n=true) (h:cK ds m P n ops Q rest ((d,v)::E) w'):cK ds m P n ops Q (⟨some d,op,ty,pos,af,none⟩::rest) E w:=λ a ha=>by
 have lA:=hr n a ha;unfold wpListIn;rw [aR5 (by simp [Region.wanted])];refine ⟨λ _ _=>trivial, ?_⟩;rw [ZL,aUP _ _ _ (aAh lA),lA];show wpListIn _ _ _ _ _ _ _ _;rw [amw];exact h _ (ha.put hd v)
theorem ca {d:Nat} {f:FuncId} (hf:Enters P f) {xs:Array Operand} {ts:Array TypeId} {args:List Value} (he:hO E xs.toList=some args) (hd:Nat.blt d n=true)
  (h:Calls P f args.toArray w λ e w'=>∃ v,e= .returned v∧cK ds m P n ops Q rest ((d,v)::E) w'):cK ds m P n ops Q (⟨some d, .call {callee:= .value (.func f),args:=xs,argTypes:=ts},ty,pos,af,none⟩::rest) E w:=λ a ha=>by
 unfold wpListIn;rw [aR5 (by simp [Region.wanted])];refine ⟨λ _ _=>trivial, ?_⟩;rw [ZL,aUP _ _ _ (λ c e=>by cases e),MK hf ha he];refine ⟨λ h=>by simp [j6,Fence.wide] at h,CallsIn.mono (ac4 h) λ e w' fS=> ?_⟩;obtain ⟨v,rfl,h⟩:=fS;show wpListIn _ _ _ _ _ _ _ _;rw [amw];exact h _ (ha.put hd v)
theorem a8 {D:Nat} {fn:Func} {R:Ending→World→Prop} {vs:List Value} (hK:zN w D) (h:wW P E (Zs w D) fn.results.toList vs) (hR:R (.returned (uE vs)) (Zs w D)):T (mark D) n (bodyPostM (j6 none) m P fn R) E w :=
 λ a ha=>by
  have hr:=YU (a:=a) h ha;exact ⟨by simp, .inl ⟨D,_,rfl,run_takeDeferred hK,_,hr,hR⟩⟩
end
end gK
def z7 (b c:Nat) (W im:World):Prop:=im.heap[b]? =W.heap[b]? ∧im.heap[c]? =W.heap[c]?
theorem z7.wa {b c:Nat} {X Y aC:World} (h:z7 b c X Y) (k:z7 b c Y aC):z7 b c X aC:=⟨k.1.trans h.1,k.2.trans h.2⟩
theorem Mod.aiU {S:List Nat} {W im:World} {B:Nat} (h:Mod S W im) (hS:∀ q∈S,q<W.heap.size→∃ cur e aA,W.heap[q]? =some (.cells cur e aA)):KeepsFrom B W im :=
 ⟨h.size,λ k o _ av b7=>by
  by_cases hm:k∈S
  ·obtain ⟨cur,e,aA,hc⟩:=hS k hm (aSs.1 av).1;rw [hc] at av;injection av with av
   subst av;exact nomatch b7
  ·exact (h.block k (aSs.1 av).1 hm).trans av⟩
theorem Mod.ayu {S:List Nat} {W X Y:World} {b c:Nat} (h:Mod S W X) (k:Mod S W Y) (Φ:b<W.heap.size∧c<W.heap.size) (κ:b∉S) (aa:c∉S):z7 b c X Y :=
 ⟨(k.block b Φ.1 κ).trans (h.block b Φ.1 κ).symm,(k.block c Φ.2 aa).trans (h.block c Φ.2 aa).symm⟩
def yj (B:Nat) (w0 w:World):Prop:=KeepsFrom B w0 w
theorem yj.bI (B:Nat) (w:World):yj B w w:=KeepsFrom.refl B w
theorem yj.later {B:Nat} {w0 w w':World} (h:yj B w0 w) (x:Ext w w'):yj B w0 w':=KeepsFrom.trans h ((Mod.bz (S:= []) x).aiU λ q I=>nomatch I)
theorem yj.mod {B:Nat} {w0 w w':World} {S:List Nat} (h:yj B w0 w) (m:Mod S w w') (hS:∀ q∈S,∃ cur e aA,w.heap[q]? =some (.cells cur e aA)):yj B w0 w':=KeepsFrom.trans h (m.aiU λ q I _=>hS q I)
theorem τ.aF.O6 {α:Type} {R:τ α} {e by_ B c:Nat} {A:Option Addr} {l:List α} {w:World} (h:R.aF e by_ w B (τ.ag A) A c l):∀ q∈τ.ag A,∃ cur e aA,w.heap[q]? =some (.cells cur e aA):=by
 obtain ⟨_,ps,_,_,⟨_,b7⟩,_⟩:=h;rcases b7 with ⟨κ,_⟩ | ⟨g,cap,cur,κ,_,aa,_⟩
 ·injection κ with κ;subst κ;intro q I;exact nomatch I
 ·injection κ with κ;subst κ;intro q I
  obtain rfl:=aRP.1 I;exact ⟨_,_,_,aa⟩
structure Eb {α:Type} (B:Nat) (jt:List α→World→Prop) (pre:List α) (w:World):Prop where
 TS:AbidesFrom B jt
 at_:jt pre w
theorem Eb.later {α:Type} {B:Nat} {jt:List α→World→Prop} {pre:List α} {w w':World} (h:Eb B jt pre w) (x:Ext w w'):Eb B jt pre w' :=
 ⟨h.TS,h.TS _ _ _ none h.at_ ⟨x.os,x.tape,x.output,x.size,λ k av _=>x.block k av⟩ λ r e=>nomatch e⟩
theorem aP.QW {b:Nat} {cs:List Value} {e:TypeId} {aA:Nat×Nat} {w w':World} (h:aP w b cs e aA) (k:w'.heap[b]? =w.heap[b]?):aP w' b cs e aA:=k.trans h
theorem aFA {F:Fence} {m:Nat} {P:Program} {l:Nat} {args:Array Value} {W:World} {R R':Ending→World→Prop} (h:YieldAt F m P l args W R) (hr:∀ e w,R e w→R' e w):YieldAt F m P l args W R':=by
 obtain ⟨fn,tmps,assign,body,aK,hR⟩:=h;exact ⟨fn,tmps,assign,body,aK,hR.mono hr⟩
theorem aFB {P Q:Prop} {e:Ending} (h:(e= .returned (.bool true)∧P)∨(e= .returned (.bool false)∧Q)):∃ b,e= .returned (.bool b)∧(b=true→P)∧(b=false→Q):=by
 rcases h with ⟨h,p⟩ | ⟨h,q⟩
 ·exact ⟨true,h,λ _=>p,(λ h=>nomatch h)⟩
 ·exact ⟨false,h,(λ h=>nomatch h),λ _=>q⟩
theorem atX {q k:Nat} (av:k<q):(List.finRange q).take k++ [⟨k,av⟩]=(List.finRange q).take (k+1):=by
 rw [aSk (by simpa using av)];simp
section
variable {P:Program} {n:Nat} {E cU:List (Nat×Value)} {w:World} {d:Option Nat} {ty:TypeId} {pos:String} {af:Array Edge} {g:Option (Nat×Bool)} {x y z u:Operand} {t:TypeId}
theorem aCz {A:Option Addr} {len cap e s:Nat} {k:IntKind} (lo:Nat) {i:Int} (aE:P.underlying t=some (.slice e)) (hs:eP P e s) (hx:ev E x=some (.slice A len cap)) (aK:ev E y=some (.int k i)) (κ:i=(lo:Int)) (aa:lo≤len):
  cY P E ⟨d, .slice t x (some y) none none,ty,pos,af,g⟩ w (.slice (e1 A cap lo s) (len - lo) (cap - lo)) w:=λ n a ha=>by
 subst κ;have lF:P.underlying t=some (.slice (P.elem t)):=by simp [Program.elem,aE]
 have mU:P.elem t=e:=by simp [Program.elem,aE]
 have aw:=run_slice_l (P:=P) (w:=w) t A len cap lF k (lo:Int) (by omega) (by omega);have a6:=aUn (P:=P) (w:=w) t (.slice A len cap) (some (.int k (lo:Int))) none none lF;rw [mU,hs w] at aw;simp only [execOp,ha.ev hx,ha.ev aK,Option.map,a6,aw,aR8,aRZ,aR9,sliced,aSJ,e1]
theorem aCy {A:Option Addr} {len cap e s:Nat} {k k' eD:IntKind} (lo ar n:Nat) {i j Xw:Int} (aE:P.underlying t=some (.slice e)) (hs:eP P e s) (hx:ev E x=some (.slice A len cap)) (aK:ev E y=some (.int k i)) (bE:ev E z=some (.int k' j)) (hu:ev E u=some (.int eD Xw)) (AK:i=(lo:Int)) (E3:j=(ar:Int)) (awc:Xw=(ar:Int)) (κ:lo≤ar) (aa:ar≤cap) (hn:n=ar - lo):
  cY P E ⟨d, .slice t x (some y) (some z) (some u),ty,pos,af,g⟩ w (.slice (e1 A ar lo s) n n) w:=λ jJ a ha=>by
 subst AK;subst E3;subst awc;subst hn;have lF:P.underlying t=some (.slice (P.elem t)):=by simp [Program.elem,aE]
 have mU:P.elem t=e:=by simp [Program.elem,aE]
 have aw:=run_slice_lhm (P:=P) (w:=w) t A len cap lF k k' eD (lo:Int) (ar:Int) (ar:Int) (by omega) (by omega) (by omega) (by omega);have a6:=aUn (P:=P) (w:=w) t (.slice A len cap) (some (.int k (lo:Int))) (some (.int k' (ar:Int))) (some (.int eD (ar:Int))) lF;rw [mU,hs w] at aw;simp only [execOp,ha.ev hx,ha.ev aK,ha.ev bE,ha.ev hu,Option.map,a6,aw,aR8,aRZ,aR9,sliced,aSJ,e1]
end
theorem τ.aJ.chunk {α:Type} {R:τ α} {by_ c:Nat} {A:Option Addr} {l:List α} {w:World} (h:R.aJ by_ w A c l) (lo ar:Nat) (κ:lo<ar) (aa:ar≤l.length):R.aJ by_ w (e1 A ar lo R.size) (ar - lo) ((l.drop lo).take (ar - lo)):=by
 have hs:=h.sub lo ar (by omega) aa;have hc:=h.1;have rP:=h.2.1;have e:e1 A ar lo R.size=e1 A c lo R.size:=by unfold e1;rw [aR0 (by omega),aR0 (by omega)]
 rw [e];obtain ⟨g1,g2,g3,g4,g5⟩:=hs;refine ⟨by rw [aRU];omega,by omega,g3,λ hn=> ?_,g5⟩;have:=g4 hn;omega
namespace Rd
theorem bI {α:Type} {P:Program} {m n:Nat} {Q:Exit→Act→World→Prop} {w w0:World} {E:List (Nat×Value)} {tt p:Nat} {ty:TypeId} {pos:String} {af:Array Edge} {id:Nat} {body:Code} {g:Operand} {gf:Nat} {lb:List Value} {enc:α→Value} {eZ gT:Nat} {S aoS:List α→Prop} {abr:Nat}
  (aO:ev E g=some (.func (.func gf) #[] lb.toArray)) (hf:Enters P gf) (axw:SeqStopsK (j6 none) (m - 1) P gf lb.toArray (λ x=>#[enc x]) (z7 eZ gT) S aoS abr w0) (bw:eZ<w.heap.size) (dG:gT<w.heap.size) (cC:Ext w0 w) (κ:1≤m) (hp:Nat.blt p n=true) (aE:Nat.blt tt n=true)
  (kE:List α→World→Prop) (qA:∀ s W im S,kE s W→Mod S W im→(∀ q∈S,w.heap.size≤q∧∀ cur e aA,W.heap[q]? ≠some (.cells cur e aA))→kE s im) (aG:kE [] w)
  (avI:∀ (l:Nat) (pre:List α) (x:α) (im:World),kE pre im→pre.length<abr→W (some l) (m - 1 - 1) P n body (ownPostG w.heap.size (z7 eZ gT) kE (λ _ _ _=>False) (pre++ [x]) im) ((tt,enc x)::(p,enc x)::E) im)
  (av0:∀ (D:Nat) (xs:List α) (im:World),w.heap.size≤D→S xs→kE xs im→zN im D→gK.N (mark D) n Q E im):
  W none m P n (.rangeFunc g #[p] (.region id #[⟨some tt, .assign (.tmp p),ty,pos,af,none⟩] false) body) Q E w:=λ a ha=>by
 have auY:∀ {β:Type} (jt:β→World→Prop),(∀ s W im S,jt s W→Mod S W im→(∀ q∈S,w.heap.size≤q∧∀ cur e aA,W.heap[q]? ≠some (.cells cur e aA))→jt s im)→OwnFrom w.heap.size jt:=λ jt yT s X Y row hs CJ hr =>
  yT s X Y row.toList hs (Mod.grown CJ) λ q I=>by
   cases row with
   | none=>exact nomatch I
   | some r =>
    obtain rfl:=aRP.1 I;obtain ⟨bg,o,b7,hc⟩:=hr _ rfl;exact ⟨bg,λ cur e aA h=>by rw [h] at b7;injection b7 with b7;subst b7;exact nomatch hc⟩
 obtain ⟨fn,WD,Lb,WE⟩:=hf;obtain ⟨sF,avE⟩:∃ c,fn.body=some c:=by
  cases h:fn.body with
  | none=>rw [h] at WE;simp at WE
  | some c=>exact ⟨c,rfl⟩
 refine wpIn_rangeFunc_ownH (F:=j6 none) Z κ (gf:=gf) (lb:=lb.toArray) (ha.ev aO) trivial (enters_of WD Lb avE) axw (λ h k=>h.wa k) ?_ cC (λ x=>Z) kE (λ _ _ _=>False) (auY kE qA) (λ c s A B row hs aO hr=>hs.elim) aG
  (λ x a' _=>et n ((tt,enc x)::(p,enc x)::E) a') (λ x a' s A B row hs aO hr=>hs) ?_ ?_ ?_ ?_
 ·intro im l o Ih aB bN _ _;have hm:=Mod.grown (grownBy_putObj' im l Ih);exact ⟨hm.block eZ (by have:=(aSs.1 bN).1;omega) (by simp;omega),hm.block gT (by have:=(aSs.1 bN).1;omega) (by simp;omega)⟩
 ·intro l pre x im K ar hK;have hA:et n ((p,enc x)::E) {tmps:=(#[p].zip #[enc x]).foldl (λ t (p,v)=>t.setIfInBounds p v) a.tmps,defers:= []}:=by
   have:=ha.put hp (enc x);have e:({tmps:=(#[p].zip #[enc x]).foldl (λ t (p,v)=>t.setIfInBounds p v) a.tmps,defers:= []}:Act)=a.put (some p) (enc x):=by
    simp [Act.put,ha.d]
   rw [e];exact this
  have aa:W (some l) (m - 1 - 1) P n (.region id [(⟨some tt, .assign (.tmp p),ty,pos,af,none⟩:Oper)].toArray false) (Exit.then K (λ _ _ _=>False)) ((p,enc x)::E) im:=by
   refine oH.rg (oH.iy (v:=enc x) (w':=im) (ew ?_) aE (oH.nl λ a' rK=>hK a' im (KeepsFrom.refl _ _) ⟨Z,Z⟩ ar rK));show look ((p,enc x)::E) p=_;simp [look]
  exact aa _ hA
 ·intro l pre x a' im _ _ ar hx hlen;exact avI l pre x im ar hlen a' hx
 ·intro D xs im vC hS ar hK;have:=av0 D xs im vC hS ar hK a ha;have e:({a with defers:= {target:= .collected D,args:=#[]}::a.defers}:Act)=wd (mark D) a:=by simp [wd,mark,ha.d]
  rw [e];exact this
 ·intro D c pre im _ _ h _;exact h.elim
end Rd
end
end Go.Proofs.YtlikikpgmmkjbaaGreat
