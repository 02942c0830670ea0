import Derived.Test.YtlikikpgmmkjbaaGreatPackS
import Derived.RangeFuncNested
import Derived.OrdersIn
import Derived.LoopNIn
set_option linter.unusedVariables false
set_option linter.unusedSimpArgs false
set_option maxRecDepth 100000
set_option maxHeartbeats 4000000
open Go.RowKit
namespace Go.Proofs.YtlikikpgmmkjbaaGreat
open Tryz
open Tryz
abbrev aS3:=@List.not_mem_nil
abbrev aTR:=@or_false
abbrev aUd:=@Int.mul_le_mul
abbrev aUx:=@List.all_eq_false
abbrev aUz:=@Bool.true_and
abbrev aUD:=@Go.Oper.semAt_eq
abbrev aUP:=@Go.IntKind.wrap_i64
abbrev aUW:=@Bool.and_eq_false_iff
abbrev aU3:=@Int.mul_nonneg
abbrev aVf:=@Nat.add_sub_cancel
abbrev aVk:=@List.set_eq_take_append_cons_drop
abbrev aVO:=@Bool.and_false
abbrev aVQ:=@Go.wpIn_region_lit
abbrev aWe:=@Array.mem_of_getElem?
abbrev aWj:=@Array.mem_toList_iff

structure ax where
 x:Int
 y:Int
 deriving DecidableEq,Inhabited
namespace ax
def cells (a:ax):List Value:= [.int .i64 (a.x), .int .i64 (a.y)]
def ok (a:ax):Prop:=(Lit.int .i64 a.x).wf=true∧(Lit.int .i64 a.y).wf=true
def raw (j:Nat) (u:Value):Prop:=match j with
 | 0=>∃ n:Int,u= .int .i64 n
 | 1=>∃ n:Int,u= .int .i64 n
 | _=>True
theorem rJ (a:ax):∀ (j:Nat) u,a.cells[j]? =some u→raw j u:=by
 intro j u hu
 match j,hu with
 | 0,hu=>exact ⟨_,(aRA hu).symm⟩
 | 1,hu=>exact ⟨_,(aRA hu).symm⟩
 | j+2,hu=>exact trivial
theorem rI (a:ax):∀ u∈a.cells,u.oneCell'=true:=by
 intro u hu;unfold cells at hu;simp only [aRW,aS3,aTR] at hu;rcases hu with rfl | rfl<;>rfl
def rep:κ ax:=κ.flat 2 cells ok raw (λ _=>rfl) rI rJ
theorem plain:rep.Plain:=κ.oU
def zero:Value:= .agg #[.int .i64 0, .int .i64 0]
theorem h8:∀ (j:Nat) u,zero.cells[j]? =some u→rep.raw j u:=by
 intro j u hu;have hu:(#[(.int .i64 0:Value),(.int .i64 0:Value)]:Array Value)[j]? =some u:=hu
 match j,hu with
 | 0,hu=>exact ⟨_,(aRA hu).symm⟩
 | 1,hu=>exact ⟨_,(aRA hu).symm⟩
 | j+2,hu=>cases hu
theorem info:(prog.info? 49).map (λ i=>(i.zero,i.size,i.bytes))=some (some zero,2,16):=by kernel_rfl
theorem at_ {by_:Nat} {w:World} {A:Option Addr} {c:Nat} {l:List ax} (h:rep.aJ by_ w A c l) (aH:0<l.length):
  ∃ b o,A=some ⟨b,o,none⟩∧∀ (i:Nat) (a:ax),l[i]? =some a→w.cell? ⟨b,o+i * 2,none⟩=some (.int .i64 (a.x))∧w.cell? ⟨b,o+i * 2+1,none⟩=some (.int .i64 (a.y)):=by
 obtain ⟨b,o,e,hc⟩:=h.at_ aH;refine ⟨b,o,e,λ i a ha=> ?_⟩;obtain ⟨es,⟨rfl,_⟩,ay⟩:=hc i a ha;exact ⟨ay 0 _ Z,ay 1 _ Z⟩
theorem mj {by_:Nat} {w:World} {A:Option Addr} {c:Nat} {l:List ax} (h:rep.aJ by_ w A c l):∀ a∈l,a.ok:=κ.aJ.y0 (R:=rep) (Q:=ok) (fun {w cs a} (h:rep.has w cs a)=>(show cs=a.cells∧a.ok from h).2) h
theorem ft {w:World} {g:Nat} {t:TypeId} {aB:Nat×Nat} {a:ax} (h:aR w g a.cells t aB):w.cell? ⟨g,0,none⟩=some (.int .i64 (a.x))∧w.cell? ⟨g,1,none⟩=some (.int .i64 (a.y)):=
 ⟨h.cell 0,h.cell 1⟩
def sh:gK:=(.cons (.int .i64) (.cons (.int .i64) .nil))
theorem opens (w:World) (cs:List Value) (h:sh.i_ w cs):∃ a,rep.has w cs a:=by
 obtain ⟨_,_,rfl,_,_,⟨c_,rfl,sf⟩,⟨_,_,rfl,_,_,⟨fw,rfl,dO⟩,rfl⟩⟩:=h;exact ⟨⟨c_,fw⟩,Z,sf,dO⟩
end ax
theorem A7 {w:World} {cs:List Value} {a:ax} (h:ax.rep.has w cs a):cs=a.cells:=aTI (show cs=a.cells∧a.ok from h)
open Tryz

structure bf where
 id:Int
 owner:Int
 kind:Int
 spot:ax
 c0:Int
 load:Int
 deriving DecidableEq,Inhabited
namespace bf
def cells (a:bf):List Value:= [.int .i64 (a.id), .int .i64 (a.owner), .int .i64 (a.kind), .int .i64 (a.spot.x), .int .i64 (a.spot.y), .int .i64 (a.c0), .int .i64 (a.load)]
def ok (a:bf):Prop:=(Lit.int .i64 a.id).wf=true∧(Lit.int .i64 a.owner).wf=true∧(Lit.int .i64 a.kind).wf=true∧(Lit.int .i64 a.spot.x).wf=true∧(Lit.int .i64 a.spot.y).wf=true∧(Lit.int .i64 a.c0).wf=true∧(Lit.int .i64 a.load).wf=true
def raw (j:Nat) (u:Value):Prop:=match j with
 | 0=>∃ n:Int,u= .int .i64 n
 | 1=>∃ n:Int,u= .int .i64 n
 | 2=>∃ n:Int,u= .int .i64 n
 | 3=>∃ n:Int,u= .int .i64 n
 | 4=>∃ n:Int,u= .int .i64 n
 | 5=>∃ n:Int,u= .int .i64 n
 | 6=>∃ n:Int,u= .int .i64 n
 | _=>True
theorem rJ (a:bf):∀ (j:Nat) u,a.cells[j]? =some u→raw j u:=by
 intro j u hu
 match j,hu with
 | 0,hu=>exact ⟨_,(aRA hu).symm⟩
 | 1,hu=>exact ⟨_,(aRA hu).symm⟩
 | 2,hu=>exact ⟨_,(aRA hu).symm⟩
 | 3,hu=>exact ⟨_,(aRA hu).symm⟩
 | 4,hu=>exact ⟨_,(aRA hu).symm⟩
 | 5,hu=>exact ⟨_,(aRA hu).symm⟩
 | 6,hu=>exact ⟨_,(aRA hu).symm⟩
 | j+7,hu=>exact trivial
theorem rI (a:bf):∀ u∈a.cells,u.oneCell'=true:=by
 intro u hu;unfold cells at hu;simp only [aRW,aS3,aTR] at hu;rcases hu with rfl | rfl | rfl | rfl | rfl | rfl | rfl<;>rfl
def rep:κ bf:=κ.flat 7 cells ok raw (λ _=>rfl) rI rJ
theorem plain:rep.Plain:=κ.oU
def zero:Value:= .agg #[.int .i64 0, .int .i64 0, .int .i64 0, .int .i64 0, .int .i64 0, .int .i64 0, .int .i64 0]
theorem h8:∀ (j:Nat) u,zero.cells[j]? =some u→rep.raw j u:=by
 intro j u hu;have hu:(#[(.int .i64 0:Value),(.int .i64 0:Value),(.int .i64 0:Value),(.int .i64 0:Value),(.int .i64 0:Value),(.int .i64 0:Value),(.int .i64 0:Value)]:Array Value)[j]? =some u:=hu
 match j,hu with
 | 0,hu=>exact ⟨_,(aRA hu).symm⟩
 | 1,hu=>exact ⟨_,(aRA hu).symm⟩
 | 2,hu=>exact ⟨_,(aRA hu).symm⟩
 | 3,hu=>exact ⟨_,(aRA hu).symm⟩
 | 4,hu=>exact ⟨_,(aRA hu).symm⟩
 | 5,hu=>exact ⟨_,(aRA hu).symm⟩
 | 6,hu=>exact ⟨_,(aRA hu).symm⟩
 | j+7,hu=>cases hu
theorem info:(prog.info? 66).map (λ i=>(i.zero,i.size,i.bytes))=some (some zero,7,56):=by kernel_rfl
theorem at_ {by_:Nat} {w:World} {A:Option Addr} {c:Nat} {l:List bf} (h:rep.aJ by_ w A c l) (aH:0<l.length):
  ∃ b o,A=some ⟨b,o,none⟩∧∀ (i:Nat) (a:bf),l[i]? =some a→w.cell? ⟨b,o+i * 7,none⟩=some (.int .i64 (a.id))∧w.cell? ⟨b,o+i * 7+1,none⟩=some (.int .i64 (a.owner))∧w.cell? ⟨b,o+i * 7+2,none⟩=some (.int .i64 (a.kind))∧w.cell? ⟨b,o+i * 7+3,none⟩=some (.int .i64 (a.spot.x))∧w.cell? ⟨b,o+i * 7+4,none⟩=some (.int .i64 (a.spot.y))∧w.cell? ⟨b,o+i * 7+5,none⟩=some (.int .i64 (a.c0))∧w.cell? ⟨b,o+i * 7+6,none⟩=some (.int .i64 (a.load)):=by
 obtain ⟨b,o,e,hc⟩:=h.at_ aH;refine ⟨b,o,e,λ i a ha=> ?_⟩;obtain ⟨es,⟨rfl,_⟩,ay⟩:=hc i a ha;exact ⟨ay 0 _ Z,ay 1 _ Z,ay 2 _ Z,ay 3 _ Z,ay 4 _ Z,ay 5 _ Z,ay 6 _ Z⟩
theorem mj {by_:Nat} {w:World} {A:Option Addr} {c:Nat} {l:List bf} (h:rep.aJ by_ w A c l):∀ a∈l,a.ok:=κ.aJ.y0 (R:=rep) (Q:=ok) (fun {w cs a} (h:rep.has w cs a)=>(show cs=a.cells∧a.ok from h).2) h
theorem ft {w:World} {g:Nat} {t:TypeId} {aB:Nat×Nat} {a:bf} (h:aR w g a.cells t aB):w.cell? ⟨g,0,none⟩=some (.int .i64 (a.id))∧w.cell? ⟨g,1,none⟩=some (.int .i64 (a.owner))∧w.cell? ⟨g,2,none⟩=some (.int .i64 (a.kind))∧w.cell? ⟨g,3,none⟩=some (.int .i64 (a.spot.x))∧w.cell? ⟨g,4,none⟩=some (.int .i64 (a.spot.y))∧w.cell? ⟨g,5,none⟩=some (.int .i64 (a.c0))∧w.cell? ⟨g,6,none⟩=some (.int .i64 (a.load)):=
 ⟨h.cell 0,h.cell 1,h.cell 2,h.cell 3,h.cell 4,h.cell 5,h.cell 6⟩
def sh:gK:=(.cons (.int .i64) (.cons (.int .i64) (.cons (.int .i64) (.cons (.cons (.int .i64) (.cons (.int .i64) .nil)) (.cons (.int .i64) (.cons (.int .i64) .nil))))))
theorem opens (w:World) (cs:List Value) (h:sh.i_ w cs):∃ a,rep.has w cs a:=by
 obtain ⟨_,_,rfl,_,_,⟨c_,rfl,sf⟩,⟨_,_,rfl,_,_,⟨fw,rfl,dO⟩,⟨_,_,rfl,_,_,⟨fa,rfl,dY⟩,⟨_,_,rfl,_,_,⟨_,_,rfl,_,_,⟨iR,rfl,kP⟩,⟨_,_,rfl,_,_,⟨ql,rfl,XC⟩,rfl⟩⟩,⟨_,_,rfl,_,_,⟨pd,rfl,XD⟩,⟨_,_,rfl,_,_,⟨qm,rfl,XE⟩,rfl⟩⟩⟩⟩⟩⟩:=h;exact ⟨⟨c_,fw,fa,⟨iR,ql⟩,pd,qm⟩,Z,sf,dO,dY,kP,XC,XD,XE⟩
end bf
theorem j9 {w:World} {cs:List Value} {a:bf} (h:bf.rep.has w cs a):cs=a.cells:=aTI (show cs=a.cells∧a.ok from h)
open Tryz

structure aE where
 wide:Int
 high:Int
 aZ:List Int
 deriving DecidableEq,Inhabited
structure ah where
 field:aE
 aW:List ax
 bk:List Int
 br:List Int
 ak:List bf
 next:Int
 now:Int
 deriving DecidableEq,Inhabited
namespace aE
def RA (p:Int):Bool:=cO p 0 3
def bo (f:aE):Int :=
 if cO f.wide 1 40 && cO f.high 1 40 then (if decide ((f.aZ.length:Int)=f.wide * f.high) && f.aZ.all RA then 0 else 4) else 1
def fk (f:aE) (c:ax):Bool:=cO c.x 0 (f.wide - 1) && cO c.y 0 (f.high - 1)
def place (f:aE) (c:ax):Int:=f.aZ.getD (c.y * f.wide+c.x).toNat 0
def ground (f:aE) (c:ax):Bool:=f.fk c && f.place c != 1
theorem jM {f:aE} (h:f.bo=0):1≤f.wide∧f.wide≤40∧1≤f.high∧f.high≤40∧(f.aZ.length:Int)=f.wide * f.high∧∀ p∈f.aZ,0≤p∧p≤3:=by
 unfold bo at h;split at h
 ·rename_i τ
  rw [aRI] at τ;have a:=kO τ.1;have b:=kO τ.2;split at h
  ·rename_i aa
   rw [aRI,aSr] at aa;exact ⟨a.1,a.2,b.1,b.2,by simpa using aa.1,λ p hp=>kO (aa.2 p hp)⟩
  ·cases h
 ·cases h
theorem acS {f:aE} (h:(cO f.wide 1 40 && cO f.high 1 40)=false):f.bo=1:=by unfold bo;rw [h];rfl
theorem idx {f:aE} (h:f.bo=0) {c:ax} (hc:f.fk c=true):0≤c.y * f.wide+c.x∧c.y * f.wide+c.x<(f.aZ.length:Int)∧0≤c.x∧c.x<f.wide∧0≤c.y∧c.y<f.high:=by
 obtain ⟨g1,g2,g3,g4,g5,_⟩:=jM h;unfold fk at hc;rw [aRI] at hc;have a:=kO hc.1;have b:=kO hc.2;have a_:0≤c.y * f.wide:=aU3 b.1 (by omega);have bj:c.y * f.wide≤(f.high - 1) * f.wide:=Int.mul_le_mul_of_nonneg_right b.2 (by omega);have cV:(f.high - 1) * f.wide=f.wide * f.high - f.wide:=by rw [Int.sub_mul,Int.one_mul,Int.mul_comm]
 rw [g5];omega
theorem ez {f:aE} (h:f.bo=0):f.aZ.length≤1600:=by
 obtain ⟨g1,g2,g3,g4,g5,_⟩:=jM h;have bj:f.wide * f.high≤40 * 40:=aUd g2 g4 (by omega) (by omega);omega
end aE
namespace aE
def dI (f:aE) (c:ax):Int:=if f.bo≠0 then f.bo else if f.fk c then 0 else 7
def nr (f:aE) (c:ax):Int:=if f.bo≠0 then 0 else if f.fk c then f.place c else 0
theorem T7 {f:aE} {c:ax} (h:f.bo≠0):f.dI c=f.bo∧f.nr c=0:=by unfold dI nr;rw [aRP h,aRP h];exact ⟨Z,Z⟩
theorem Kf {f:aE} {c:ax} (h:f.bo=0) (aa:f.fk c=false):f.dI c=7∧f.nr c=0:=by unfold dI nr;simp [h,aa]
theorem mH {f:aE} {c:ax} (h:f.bo=0) (aa:f.fk c=true):f.dI c=0∧f.nr c=f.place c:=by unfold dI nr;simp [h,aa]
theorem ayo {f:aE} {c:ax} (h:c.x<0∨f.wide≤c.x∨c.y<0∨f.high≤c.y):f.fk c=false:=by
 unfold fk;rcases h with h | h | h | h
 ·rw [p4 (.inl h)];rfl
 ·rw [p4 (n:=c.x) (.inr (by omega))];rfl
 ·rw [p4 (n:=c.y) (.inl h),aVO]
 ·rw [p4 (n:=c.y) (.inr (by omega)),aVO]
theorem ayn {f:aE} {c:ax} (τ:0≤c.x) (aa:c.x<f.wide) (aw:0≤c.y) (a1:c.y<f.high):f.fk c=true:=by
 unfold fk;rw [o3 τ (by omega),o3 aw (by omega)];rfl
end aE
def aLD (k:Int):Option (Int×Int×Int×Int):=if k=1 then some (10,1,1,5) else if k=2 then some (20,2,4,12) else none
namespace ah
def x4 (W:ah) (i:Nat):Bool:=W.field.ground (W.aW.getD i default) && !(W.aW.take i).contains (W.aW.getD i default) && cO (W.bk.getD i 0) 0 1000000
def om (W:ah):Bool:=decide (W.bk.length=W.aW.length) && (List.range W.aW.length).all W.x4
def x5 (W:ah) (i:Nat):Bool:=cO (W.br.getD i 0) 0 1000000 && (decide (W.br.getD i 0≤0) || W.field.aZ.getD i 0 == 3)
def o9 (W:ah):Bool:=decide (W.br.length=W.field.aZ.length) && (List.range W.br.length).all W.x5
def jO (W:ah) (i:Nat):Int:=if i=0 then 0 else (W.ak.getD (i - 1) default).id
def j_ (k:Int):Int:=if k=1 then 10 else if k=2 then 20 else 0
def Bv (k:Int):Int:=if k=1 then 5 else 0
def MI (W:ah) (hy FM:Int) (t:bf):Bool :=
 cO t.kind 1 2 && cO t.id hy FM && cO t.owner 0 ((W.aW.length:Int) - 1) && W.field.ground t.spot && cO t.c0 1 (j_ t.kind) && cO t.load 0 (Bv t.kind)
def jg (W:ah) (k:Nat):List ax:=(W.ak.take k).map (·.spot)
def x6 (W:ah) (i:Nat):Bool:=W.MI (wrap64 (W.jO i+1)) (wrap64 (W.next - 1)) (W.ak.getD i default) && !(W.jg i).contains (W.ak.getD i default).spot
def kt (W:ah):Bool:=(List.range W.ak.length).all W.x6 && (cO W.next 1 1000000 && cO W.now 0 1000000)
def bo (W:ah):Int :=
 if W.field.bo≠0 then W.field.bo else if 8<W.aW.length∨100<W.ak.length then 2 else if W.om && W.o9 && W.kt then 0 else 4
structure b5 where
 P:Option Addr
 B:Option Addr
 S:Option Addr
 M:Option Addr
 T:Option Addr
 p:Nat
 b:Nat
 s:Nat
 m:Nat
 t:Nat
def Hq (A:Option Addr) (c:Nat) (f:aE):List Value:= [.int .i64 f.wide, .int .i64 f.high, .slice A f.aZ.length c]
def cells (h:b5) (W:ah):List Value :=
 [.int .i64 W.field.wide, .int .i64 W.field.high, .slice h.P W.field.aZ.length h.p, .slice h.B W.aW.length h.b, .slice h.S W.bk.length h.s, .slice h.M W.br.length h.m, .slice h.T W.ak.length h.t, .int .i64 W.next, .int .i64 W.now]
theorem aql (h:b5) (W:ah):(cells h W).toArray=#[.int .i64 W.field.wide, .int .i64 W.field.high, .slice h.P W.field.aZ.length h.p, .slice h.B W.aW.length h.b, .slice h.S W.bk.length h.s, .slice h.M W.br.length h.m, .slice h.T W.ak.length h.t, .int .i64 W.next, .int .i64 W.now]:=rfl
structure Has (w:World) (h:b5) (W:ah):Prop where
 P:bP.aJ 8 w h.P h.p W.field.aZ
 B:ax.rep.aJ 16 w h.B h.b W.aW
 S:bP.aJ 8 w h.S h.s W.bk
 M:bP.aJ 8 w h.M h.m W.br
 T:bf.rep.aJ 56 w h.T h.t W.ak
 nums:fO W.field.wide∧fO W.field.high∧fO W.next∧fO W.now
theorem Has.keep {w w':World} {h:b5} {W:ah} (hw:Has w h W) (Φ:Below w.heap.size w w'):Has w' h W :=
 ⟨hw.P.keep Φ,hw.B.keep Φ,hw.S.keep Φ,hw.M.keep Φ,hw.T.keep Φ,hw.nums⟩
def aun:gK:= .cons (.int .i64) (.cons (.int .i64) (.cons (.slice (.int .i64) 8) .nil))
def sh:gK:= .cons aun (.cons (.slice ax.sh 16) (.cons (.slice (.int .i64) 8) (.cons (.slice (.int .i64) 8) (.cons (.slice bf.sh 56) (.cons (.int .i64) (.cons (.int .i64) .nil))))))
theorem opens (w:World) (cs:List Value) (h:sh.i_ w cs):∃ h W,cs=cells h W∧Has w h W:=by
 obtain ⟨_,_,rfl,_,_,⟨_,_,rfl,_,_,⟨c_,rfl,sf⟩,_,_,rfl,_,_,⟨fw,rfl,dO⟩,_,_,rfl,_,_,ck,rfl⟩,_,_,rfl,_,_,aX,_,_,rfl,_,_,hS,_,_,rfl,_,_,pS,_,_,rfl,_,_,b8,_,_,rfl,_,_,⟨fa,rfl,dY⟩,_,_,rfl,_,_,⟨iR,rfl,kP⟩,rfl⟩:=h;obtain ⟨eZ,apO,lP,rfl,Ao⟩:=κ.Iz (R:=bP) YR rfl (by decide) ck;obtain ⟨gd,Ur,XM,rfl,aN⟩:=κ.Iz (R:=ax.rep) ax.opens rfl (by decide) aX;obtain ⟨gg,apP,ayI,rfl,fp⟩:=κ.Iz (R:=bP) YR rfl (by decide) hS;obtain ⟨fy,apN,aiJ,rfl,k4⟩:=κ.Iz (R:=bP) YR rfl (by decide) pS;obtain ⟨e6,fA,uQ,rfl,rA⟩:=κ.Iz (R:=bf.rep) bf.opens rfl (by decide) b8;exact ⟨⟨eZ,gd,gg,fy,e6,apO,Ur,apP,apN,fA⟩,⟨⟨c_,fw,lP⟩,XM,ayI,aiJ,uQ,fa,iR⟩,Z,Ao,aN,fp,k4,rA,sf,dO,dY,kP⟩
theorem aeE {w:World} {g:Nat} {t:TypeId} {aB:Nat×Nat} {A:Option Addr} {c:Nat} {f:aE} (h:aR w g (Hq A c f) t aB):
  w.cell? ⟨g,0,none⟩=some (.int .i64 f.wide)∧w.cell? ⟨g,1,none⟩=some (.int .i64 f.high)∧w.cell? ⟨g,2,none⟩=some (.slice A f.aZ.length c):=⟨h.cell 0,h.cell 1,h.cell 2⟩
theorem tO {w:World} {g:Nat} {t:TypeId} {aB:Nat×Nat} {a:b5} {W:ah} (h:aR w g (cells a W) t aB):
  w.cell? ⟨g,0,none⟩=some (.int .i64 W.field.wide)∧w.cell? ⟨g,1,none⟩=some (.int .i64 W.field.high)∧w.cell? ⟨g,2,none⟩=some (.slice a.P W.field.aZ.length a.p)∧
  w.cell? ⟨g,3,none⟩=some (.slice a.B W.aW.length a.b)∧w.cell? ⟨g,4,none⟩=some (.slice a.S W.bk.length a.s)∧w.cell? ⟨g,5,none⟩=some (.slice a.M W.br.length a.m)∧w.cell? ⟨g,6,none⟩=some (.slice a.T W.ak.length a.t)∧
  w.cell? ⟨g,7,none⟩=some (.int .i64 W.next)∧w.cell? ⟨g,8,none⟩=some (.int .i64 W.now):=⟨h.cell 0,h.cell 1,h.cell 2,h.cell 3,h.cell 4,h.cell 5,h.cell 6,h.cell 7,h.cell 8⟩
end ah
open Tryz

theorem aE.j8 {f:aE} {c:ax} (h:f.ground c=true):f.fk c=true:=by
 unfold aE.ground at h;rw [aRI] at h;exact h.1
namespace ah
theorem acQ {W:ah} (h:W.field.bo≠0):W.bo=W.field.bo:=by unfold bo;rw [aRP h]
theorem acR {W:ah} (h:W.field.bo=0) (aa:8<W.aW.length∨100<W.ak.length):W.bo=2:=by unfold bo;rw [aRL (by simpa using h),aRP aa]
theorem Uy {W:ah} (h:W.field.bo=0) (aa:¬ (8<W.aW.length∨100<W.ak.length)):W.bo=if W.om && W.o9 && W.kt then 0 else 4:=by unfold bo;rw [aRL (by simpa using h),aRL aa]
end ah
theorem ah.aBo {W:ah} (h:¬ W.bk.length=W.aW.length):W.om=false:=by unfold ah.om;rw [aSk h];rfl
theorem ah.YB {W:ah} {k:Nat} (ar:k<W.aW.length) (h:W.x4 k=false):W.om=false:=by
 unfold ah.om;rw [aUW];right;rw [aUx];exact ⟨k,aSj.2 ar,by rw [h];simp⟩
theorem ah.ajY {W:ah} (h:W.bk.length=W.aW.length) (ha:∀ k,k<W.aW.length→W.x4 k=true):W.om=true:=by
 unfold ah.om;rw [aSe h,aUz,aSr];exact λ k ar=>ha k (aSj.1 ar)
theorem ah.azX {W:ah} (h:¬ W.br.length=W.field.aZ.length):W.o9=false:=by unfold ah.o9;rw [aSk h];rfl
theorem ah.ajn {W:ah} {k:Nat} (ar:k<W.br.length) (h:W.x5 k=false):W.o9=false:=by
 unfold ah.o9;rw [aUW];right;rw [aUx];exact ⟨k,aSj.2 ar,by rw [h];simp⟩
theorem ah.ajo {W:ah} (h:W.br.length=W.field.aZ.length) (ha:∀ k,k<W.br.length→W.x5 k=true):W.o9=true:=by
 unfold ah.o9;rw [aSe h,aUz,aSr];exact λ k ar=>ha k (aSj.1 ar)
theorem ah.u2 {W:ah} {k:Nat} (ar:k<W.ak.length) (h:W.x6 k=false):W.kt=false:=by
 unfold ah.kt;rw [aUW];left;rw [aUx];exact ⟨k,aSj.2 ar,by rw [h];simp⟩
def hh (id:Int) (t:bf):Bool:=t.id == id
def qY (p:ax) (t:bf):Bool:=decide (t.spot=p)
def aE5 (W:ah) (p:bf→Bool):Int:=if W.bo=0 then max (fT p W.ak) 0 else 0
def aml (W:ah) (p:bf→Bool):Bool:=decide (W.bo=0) && decide (0≤fT p W.ak)
def aAf (c:ax) (r:Int) (t:bf):Bool:=cO c.x (t.spot.x - r) (t.spot.x+r) && cO c.y (t.spot.y - r) (t.spot.y+r)
def aNW (W:ah) (c:ax) (r:Int):List Int:=(W.ak.filter (aAf c r)).map (·.id)
def aNV (W:ah) (r:Int):Int:=if W.bo≠0 then W.bo else if cO r 0 12 then 0 else 1
theorem VP {W:ah} (h:W.bo=0):W.field.bo=0∧W.aW.length≤8∧W.ak.length≤100∧W.om=true∧W.o9=true∧W.kt=true:=by
 by_cases τ:W.field.bo=0
 ·by_cases aa:8<W.aW.length∨100<W.ak.length
  ·rw [ah.acR τ aa] at h;cases h
  ·rw [ah.Uy τ aa] at h;split at h
   ·rename_i aw
    rw [aRI,aRI] at aw;exact ⟨τ,by omega,by omega,aw.1.1,aw.1.2,aw.2⟩
   ·cases h
 ·rw [ah.acQ τ] at h;exact absurd h τ
theorem P6 {W:ah} (h:W.bo=0) {k:Nat} {t:bf} (aG:W.ak[k]? =some t):W.field.ground t.spot=true∧cO t.kind 1 2=true∧cO t.owner 0 ((W.aW.length:Int) - 1)=true∧cO t.c0 1 (ah.j_ t.kind)=true∧cO t.load 0 (ah.Bv t.kind)=true∧(W.jg k).contains t.spot=false∧cO t.id (wrap64 (W.jO k+1)) (wrap64 (W.next - 1))=true:=by
 obtain ⟨aH,_,_,_,_,b_⟩:=VP h;unfold ah.kt at b_;rw [aRI,aSr] at b_;have ar:=(aRC.1 aG).1;have ed:=b_.1 k (aSj.2 ar);unfold ah.x6 ah.MI at ed;rw [aRB,aG] at ed;simp only [aSK,aRI,aSE] at ed;obtain ⟨⟨⟨⟨⟨⟨cd,a2⟩,a3⟩,a4⟩,a5⟩,Kb⟩,OO⟩:=ed;exact ⟨a4,cd,a3,a5,Kb,OO,a2⟩
open Tryz

theorem ajp {W:ah} (h:W.bo=0):1≤W.next∧W.next≤1000000∧0≤W.now∧W.now≤1000000:=by
 obtain ⟨_,_,_,_,_,b_⟩:=VP h;unfold ah.kt at b_;rw [aRI,aRI] at b_;have a:=kO b_.2.1;have b:=kO b_.2.2;exact ⟨a.1,a.2,b.1,b.2⟩
theorem wrap_small {x:Int} (τ: -1000≤x) (aa:x≤2000000):wrap64 x=x:=by
 have h:=aUP x;unfold wrap64;first | (rw [h];omega) | omega
theorem axZ {W:ah} (h:W.bo=0):∀ (k:Nat) (t:bf),W.ak[k]? =some t→W.jO k<t.id∧t.id<W.next∧0≤W.jO k:=by
 obtain ⟨FL,uY,_,_⟩:=ajp h;intro k;induction k with
 | zero =>
  intro t aG;have ed:=kO (P6 h aG).2.2.2.2.2.2;have e:W.jO 0=0:=rfl;rw [e] at ed ⊢;rw [wrap_small (by omega) (by omega),wrap_small (by omega) (by omega)] at ed;omega
 | succ k bD =>
  intro t aG;have bw:=(aRC.1 aG).1;obtain ⟨u,hu⟩:=iN (l:=W.ak) (i:=k) (by omega);have gh:=bD u hu;have ed:=kO (P6 h aG).2.2.2.2.2.2;have e:W.jO (k+1)=u.id:=by
   unfold ah.jO;rw [aRL (by omega),aRB,aVf,hu];rfl
  rw [e] at ed ⊢;rw [wrap_small (by omega) (by omega),wrap_small (by omega) (by omega)] at ed;omega
open Tryz
structure OM (f:aE) (kq:Nat) (t:bf):Prop where
 kind:t.kind=1∨t.kind=2
 owner:0≤t.owner∧t.owner<(kq:Int)
 ground:f.ground t.spot=true
 c0:1≤t.c0∧t.c0≤ah.j_ t.kind
 load:0≤t.load∧t.load≤ah.Bv t.kind
structure Good (W:ah):Prop where
 field:W.field.bo=0
 kq:W.aW.length≤8
 dZ:W.ak.length≤100
 sl:W.bk.length=W.aW.length
 aW:∀ (i:Nat) c,W.aW[i]? =some c→W.field.ground c=true∧(W.aW.take i).contains c=false
 bk:∀ (i:Nat) s,W.bk[i]? =some s→0≤s∧s≤1000000
 x3:W.br.length=W.field.aZ.length
 br:∀ (i:Nat) m,W.br[i]? =some m→0≤m∧m≤1000000∧(m≤0∨W.field.aZ.getD i 0=3)
 ak:∀ (i:Nat) t,W.ak[i]? =some t→OM W.field W.aW.length t
 ids:∀ (i:Nat) t,W.ak[i]? =some t→W.jO i<t.id∧t.id<W.next∧0≤W.jO i
 jg:∀ (i:Nat) t,W.ak[i]? =some t→(W.jg i).contains t.spot=false
 next:1≤W.next∧W.next≤1000000
 now:0≤W.now∧W.now≤1000000
theorem Good.Bx {W:ah} (h:W.bo=0):Good W:=by
 obtain ⟨aH,gh,xB,hp,hm,aG⟩:=VP h;obtain ⟨FL,uY,qa,sr⟩:=ajp h;unfold ah.om at hp;unfold ah.o9 at hm;rw [aRI,aSr] at hp hm;have tj:W.bk.length=W.aW.length:=by simpa using hp.1
 have Fc:W.br.length=W.field.aZ.length:=by simpa using hm.1
 refine ⟨aH,gh,xB,tj,λ i c hc=> ?_,λ i s hs=> ?_,Fc,λ i m aq=> ?_,λ i t aq=> ?_,λ i t aq=>axZ h i t aq,λ i t aq=>(P6 h aq).2.2.2.2.2.1,⟨FL,uY⟩,⟨qa,sr⟩⟩
 ·have bw:=(aRC.1 hc).1;have:=hp.2 i (aSj.2 bw);unfold ah.x4 at this;rw [aRB,hc] at this;simp only [aSK,aRI,aSE] at this;exact ⟨this.1.1,this.1.2⟩
 ·have bw:=(aRC.1 hs).1;have:=hp.2 i (aSj.2 (by omega));unfold ah.x4 at this;rw [aRI] at this;have aa:=kO this.2;rw [aRB,hs] at aa;exact aa
 ·have bw:=(aRC.1 aq).1;have:=hm.2 i (aSj.2 bw);unfold ah.x5 at this;rw [aRB,aq,aRI,aSp] at this;have aa:=kO this.1;refine ⟨aa.1,aa.2, ?_⟩;rcases this.2 with aw | aw
  ·exact .inl (by simpa using aw)
  ·exact .inr (by simpa using aw)
 ·obtain ⟨cd,a2,a3,a4,a5,_,_⟩:=P6 h aq;have fz:=kO a2;have gR:=kO a3;have AB:=kO a4;have Cu:=kO a5;exact ⟨by omega,⟨gR.1,by omega⟩,cd,AB,Cu⟩
theorem Good.bo {W:ah} (h:Good W):W.bo=0:=by
 have hp:W.om=true:=ah.ajY h.sl λ k ar=>by
  obtain ⟨c,hc⟩:=iN ar;obtain ⟨s,hs⟩:=iN (l:=W.bk) (i:=k) (by rw [h.sl];exact ar);unfold ah.x4;rw [aRB,hc,aRB,hs];have τ:=h.aW k c hc;have aa:=h.bk k s hs;simp only [aSK];rw [τ.1,τ.2,o3 aa.1 aa.2];rfl
 have hm:W.o9=true:=ah.ajo h.x3 λ k ar=>by
  obtain ⟨m,hm⟩:=iN ar;have τ:=h.br k m hm;unfold ah.x5;rw [aRB,hm];simp only [aSK];rw [o3 τ.1 τ.2.1,aUz,aSp];rcases τ.2.2 with aw | aw
  ·exact .inl (by simpa using aw)
  ·exact .inr (by simpa using aw)
 have aG:W.kt=true:=by
  unfold ah.kt;rw [o3 h.next.1 h.next.2,o3 h.now.1 h.now.2,Bool.and_true,Bool.and_true,aSr];intro k ar;obtain ⟨t,aG⟩:=iN (aSj.1 ar);have τ:=h.ak k t aG;have aa:=h.ids k t aG;have aw:=h.jg k t aG;have hn:=h.next;unfold ah.x6 ah.MI;rw [aRB,aG];simp only [aSK];have dO:cO t.kind 1 2=true:=by
   rcases τ.kind with h | h
   ·exact o3 (by omega) (by omega)
   ·exact o3 (by omega) (by omega)
  have dY:cO t.id (W.jO k+1) (W.next - 1)=true:=o3 (by omega) (by omega);have kP:cO t.owner 0 ((W.aW.length:Int) - 1)=true:=o3 τ.owner.1 (by have:=τ.owner.2;omega);rw [wrap_small (by omega) (by omega),wrap_small (by omega) (by omega),dO,dY,kP,aw,τ.ground,o3 τ.c0.1 τ.c0.2,o3 τ.load.1 τ.load.2];rfl
 rw [ah.Uy h.field (by have:=h.kq;have:=h.dZ;omega),hp,hm,aG];rfl
open Tryz
structure bq (w:World) (aC:Nat) (a:ah.b5) (W:ah):Prop where
 P:bP.aD 3 8 w aC (κ.ae a.P) a.P a.p W.field.aZ
 B:ax.rep.aD 49 16 w aC (κ.ae a.B) a.B a.b W.aW
 S:bP.aD 3 8 w aC (κ.ae a.S) a.S a.s W.bk
 M:bP.aD 3 8 w aC (κ.ae a.M) a.M a.m W.br
 T:bf.rep.aD 66 56 w aC (κ.ae a.T) a.T a.t W.ak
 apart:(κ.ae a.P++κ.ae a.B++κ.ae a.S++κ.ae a.M++κ.ae a.T).Nodup
 nums:fO W.field.wide∧fO W.field.high∧fO W.next∧fO W.now
theorem bq.has {w:World} {B:Nat} {a:ah.b5} {W:ah} (h:bq w B a W):ah.Has w a W:=⟨h.P.has,h.B.has,h.S.has,h.M.has,h.T.has,h.nums⟩
theorem bq.later {w w':World} {B:Nat} {a:ah.b5} {W:ah} (h:bq w B a W) (Φ:Below w.heap.size w w'):bq w' B a W:=⟨h.P.later Φ,h.B.later Φ,h.S.later Φ,h.M.later Φ,h.T.later Φ,h.apart,h.nums⟩
def bq.bX (a:ah.b5):List Nat:=κ.ae a.P++κ.ae a.B++κ.ae a.S++κ.ae a.M++κ.ae a.T
theorem bq.lt {w:World} {B:Nat} {a:ah.b5} {W:ah} (h:bq w B a W):∀ g∈bq.bX a,B≤g∧g<w.heap.size:=by
 intro g aK;unfold bq.bX at aK;simp only [aRR] at aK;rcases aK with (((aK | aK) | aK) | aK) | aK
 ·exact h.P.lt g aK
 ·exact h.B.lt g aK
 ·exact h.S.lt g aK
 ·exact h.M.lt g aK
 ·exact h.T.lt g aK
theorem bq.other {w:World} {B:Nat} {a:ah.b5} {W:ah} (h:bq w B a W) {p:Addr} (hp:p.block∉bq.bX a) (u:Value):bq (w.setCell p u) B a W:=by
 unfold bq.bX at hp;simp only [aRR,not_or] at hp;exact ⟨h.P.other hp.1.1.1.1 u,h.B.other hp.1.1.1.2 u,h.S.other hp.1.1.2 u,h.M.other hp.1.2 u,h.T.other hp.2 u,h.apart,h.nums⟩
theorem Iw {w:World} {B:Nat} {A:Option Addr} {α:Type} {R:κ α} {E by_ c:Nat} {l:List α} (h:R.aD E by_ w B (κ.ae A) A c l) {g:Nat} (aK:g<B):g∉κ.ae A:=λ hm=>by have:=h.lt g hm;omega
theorem DI {w:World} {g:Nat} {c_ fw fa iR ql pd qm rb pe:Value} {t:TypeId} {aB:Nat×Nat} (h:aR w g [c_,fw,fa,iR,ql,pd,qm,rb,pe] t aB):w.cell? ⟨g,0,none⟩=some c_∧w.cell? ⟨g,1,none⟩=some fw∧w.cell? ⟨g,2,none⟩=some fa∧w.cell? ⟨g,3,none⟩=some iR∧w.cell? ⟨g,4,none⟩=some ql∧w.cell? ⟨g,5,none⟩=some pd∧w.cell? ⟨g,6,none⟩=some qm∧w.cell? ⟨g,7,none⟩=some rb∧w.cell? ⟨g,8,none⟩=some pe :=
 ⟨h.cell 0,h.cell 1,h.cell 2,h.cell 3,h.cell 4,h.cell 5,h.cell 6,h.cell 7,h.cell 8⟩
theorem OT {ey jN:List Nat} {n m:Nat} (τ:ey.Nodup∧∀ g∈ey,g<n) (aa:jN.Nodup) (aw:∀ g∈jN,n≤g∧g<m) (aKS:n≤m):(ey++jN).Nodup∧∀ g∈ey++jN,g<m:=by
 refine ⟨aSt.2 ⟨τ.1,aa,λ a ha b Φ e=> ?_⟩,λ g aK=> ?_⟩
 ·have:=τ.2 a ha;have:=(aw b Φ).1;omega
 ·rcases aRR.1 aK with aK | aK
  ·have:=τ.2 g aK;omega
  ·exact (aw g aK).2
theorem vK (A:Option Addr):(κ.ae A).Nodup:=by cases A<;>simp [κ.ae]
theorem aAh {w:World} {g:Nat} {z0 ln z2 z3 z4 z5 aFx aFy aFz:Value} {t:TypeId} {aB:Nat×Nat} (h:aR w g [z0,ln,z2,z3,z4,z5,aFx,aFy,aFz] t aB) (c_ fw fa iR ql pd qm rb pe:Value):aR (((((((((w.setCell ⟨g,0,none⟩ c_).setCell ⟨g,1,none⟩ fw).setCell ⟨g,2,none⟩ fa).setCell ⟨g,3,none⟩ iR).setCell ⟨g,4,none⟩ ql).setCell ⟨g,5,none⟩ pd).setCell ⟨g,6,none⟩ qm).setCell ⟨g,7,none⟩ rb).setCell ⟨g,8,none⟩ pe) g [c_,fw,fa,iR,ql,pd,qm,rb,pe] t aB :=
 (((((((((h.set 0 c_).set 1 fw).set 2 fa).set 3 iR).set 4 ql).set 5 pd).set 6 qm).set 7 rb).set 8 pe)
theorem bq.nine {w:World} {aC:Nat} {a:ah.b5} {W:ah} {g:Nat} (h:bq w aC a W) (aK:g∉bq.bX a) (c_ fw fa iR ql pd qm rb pe:Value):bq (((((((((w.setCell ⟨g,0,none⟩ c_).setCell ⟨g,1,none⟩ fw).setCell ⟨g,2,none⟩ fa).setCell ⟨g,3,none⟩ iR).setCell ⟨g,4,none⟩ ql).setCell ⟨g,5,none⟩ pd).setCell ⟨g,6,none⟩ qm).setCell ⟨g,7,none⟩ rb).setCell ⟨g,8,none⟩ pe) aC a W :=
 (((((((((h.other (p:=⟨g,0,none⟩) aK c_).other (p:=⟨g,1,none⟩) aK fw).other (p:=⟨g,2,none⟩) aK fa).other (p:=⟨g,3,none⟩) aK iR).other (p:=⟨g,4,none⟩) aK ql).other (p:=⟨g,5,none⟩) aK pd).other (p:=⟨g,6,none⟩) aK qm).other (p:=⟨g,7,none⟩) aK rb).other (p:=⟨g,8,none⟩) aK pe)
theorem apr {w0 w:World} {aC g:Nat} (h:Below aC w0 w) (aK:aC≤g) (c_ fw fa iR ql pd qm rb pe:Value):Below aC w0 (((((((((w.setCell ⟨g,0,none⟩ c_).setCell ⟨g,1,none⟩ fw).setCell ⟨g,2,none⟩ fa).setCell ⟨g,3,none⟩ iR).setCell ⟨g,4,none⟩ ql).setCell ⟨g,5,none⟩ pd).setCell ⟨g,6,none⟩ qm).setCell ⟨g,7,none⟩ rb).setCell ⟨g,8,none⟩ pe):=
 (((((((((h.setCell (p:=⟨g,0,none⟩) aK c_).setCell (p:=⟨g,1,none⟩) aK fw).setCell (p:=⟨g,2,none⟩) aK fa).setCell (p:=⟨g,3,none⟩) aK iR).setCell (p:=⟨g,4,none⟩) aK ql).setCell (p:=⟨g,5,none⟩) aK pd).setCell (p:=⟨g,6,none⟩) aK qm).setCell (p:=⟨g,7,none⟩) aK rb).setCell (p:=⟨g,8,none⟩) aK pe)
def aba (w l7:World) (e3:Option Addr) (oj:Nat) (W:ah) (fy:Option Addr) (fU:Nat) (e6:Option Addr) (fF uY:Nat):Prop :=
 ∃ (e7:Option Addr) (mJ:Nat) (eF:Option Addr) (mZ qa sr:Nat),aR l7 w.heap.size [.int .i64 W.field.wide, .int .i64 W.field.high, .slice e3 W.field.aZ.length oj, .slice e7 W.aW.length mJ, .slice eF W.bk.length mZ, .slice fy W.br.length fU, .slice e6 W.ak.length fF, .int .i64 W.next, .int .i64 W.now] 28 (0,0)∧
  aR l7 (w.heap.size+1) [.int .i64 0, .int .i64 0, .slice none 0 0, .slice none 0 0, .slice none 0 0, .slice none 0 0, .slice none 0 0, .int .i64 0, .int .i64 0] 28 (0,0)∧bP.aD 3 8 l7 w.heap.size (κ.ae e3) e3 oj W.field.aZ∧ax.rep.aD 49 16 l7 uY (κ.ae e7) e7 mJ W.aW∧bP.aD 3 8 l7 qa (κ.ae eF) eF mZ W.bk∧
  (∀ g∈κ.ae e7,uY≤g∧g<qa)∧(∀ g∈κ.ae eF,qa≤g∧g<sr)∧Below w.heap.size w l7∧uY≤qa∧qa≤sr∧sr=l7.heap.size
open Tryz
open Tryz

namespace κ
variable {α:Type} {R:κ α}
theorem at2 {β:Type} {size:Nat} {X:List (List β)} {i:Nat} {es:List β} (CR:∀ x∈X,x.length=size) (aq:i<X.length):(X.set i es).flatten=X.flatten.take (i * size)++es++X.flatten.drop (i * size+size):=by
 rw [aVk,aRP aq,aTx,aSu,PY i CR,Vt (i+1) CR,aTh,aR9]
theorem aDB {β:Type} {cur es:List β} {p n k:Nat} (ar:es.length=k) (τ:p+k≤n) (aa:n≤cur.length):(cur.take p++es++cur.drop (p+k)).take n=(cur.take n).take p++es++(cur.take n).drop (p+k):=by
 apply aTf;intro j;subst ar;simp only [aSl,List.getElem?_append,aRH,aRE,aSJ]
 grind
theorem aD.akL {E by_ B c i g:Nat} {f:List Nat} {l:List α} {w:World} {q':α} {es:List Value} {cur:Array Value} (h:R.aD E by_ w B f (some ⟨g,0,none⟩) c l) (hp:R.sM) (aq:i<l.length) (I:∀ w,R.has w es q') (uN:w.heap[g]? =some (.cells cur E (0,0))):
  R.aD E by_ (w.setRow g (cur.toList.take (i * R.size)++es++cur.toList.drop (i * R.size+es.length)).toArray) B f (some ⟨g,0,none⟩) c (l.set i q')∧i * R.size+es.length≤cur.toList.length:=by
 obtain ⟨Φ,ps,rfl,hn,bS,de⟩:=h;have HS:es.length=R.size:=R.len (I w);have az:=Ry de;have nB:ps.length=l.length:=de.length;obtain ⟨tk,LP⟩:=bS;obtain ⟨g',cap,CB,hv,auR,fC,C5,r0,jd,LO,bB⟩:=LP.resolve_left (λ bs=>nomatch bs.1);injection hv with o1 C7 axJ
 injection o1 with o1
 injection o1 with o1 aK7 aK8
 subst o1 axJ;rw [fC] at uN;injection uN with uN
 injection uN with uN
 subst uN;have hle:i * R.size+R.size≤l.length * R.size:=by rw [← aTh];exact aSm _ aq
 have awy:l.length * R.size≤c * R.size:=aSm _ C5;have tj:CB.toList.length=c * R.size:=by rw [aTy,jd]
 obtain ⟨x,hx,LR⟩:=de.at_ (dv (l:=l) (u:=q') aq);have hQ:x.1= []:=hp.2 LR;have WD:∀ y∈ps,∀ q∈y.1,q≠g:=λ y aL q I e=>by
  obtain ⟨b,E2⟩:=de.left y aL;rw [hp.2 E2] at I;simp at I
 have a_:(ps.set i (x.1,es)).map (·.1)=ps.map (·.1):=by
  rw [aSV];have:(ps.map (·.1))[i]? =some x.1:=by rw [aRU,hx];rfl
  obtain ⟨aa,aw⟩:=aRC.1 this
  conv=>lhs;rw [← aw]
  exact aTn _
 have bj:(ps.set i (x.1,es)).map (·.2)=(ps.map (·.2)).set i es:=by rw [aSV]
 have af9:=at2 (es:=es) az (by rw [aSz];omega:i<(ps.map (·.2)).length);rw [HS];refine ⟨⟨by rw [aRK];exact Φ,ps.set i (x.1,es),by rw [a_],hn,⟨?_, .inr ⟨g,c,(CB.toList.take (i * R.size)++es++CB.toList.drop (i * R.size+R.size)).toArray,by rw [aRK],auR, ?_,by rw [aRK];exact C5,r0, ?_, ?_, ?_⟩⟩, ?_⟩,by omega⟩
 ·rw [bj,af9,aRK];simp only [aRH,aRE,aRV,tk,HS];omega
 ·exact aR.setRow (cur:=CB.toList) (by simpa [aR] using fC) _
 ·rw [aTc];simp only [aRH,aRE,aRV,tj,HS];omega
 ·rw [aRK,bj,af9,← LO];exact aDB HS hle (by omega)
 ·intro j u hu;rw [aUU] at hu;by_cases τ:j<i * R.size
  ·refine bB j u ?_;rw [aR9,aRX (by rw [aRE];omega),aSl,aRP τ] at hu;rw [← aSG];exact hu
  ·by_cases aa:j<i * R.size+R.size
   ·rw [aR9,aR0 (by rw [aRE];omega),aRX (by rw [aRE];omega),aRE] at hu;have ay:j % R.size=j - i * R.size:=by
     have aw:j=R.size * i+(j - i * R.size):=by rw [aSM];omega
     have bK:(j - i * R.size) % R.size=j - i * R.size:=aSW (by omega)
     conv=>lhs;rw [aw,aT1,bK]
    rw [ay];exact R.wG (I w) _ u (by rw [aTq (by omega)] at hu;exact hu)
   ·refine bB j u ?_;rw [aR0 (by simp only [aRH,aRE];omega),aSJ] at hu;rw [← aSG];rw [show i * R.size+R.size+(j - (List.take (i * R.size) CB.toList++es).length)=j from by simp only [aRH,aRE];omega] at hu;exact hu
 ·have Wp:c9 (λ x a=>R.own (w.setRow g (CB.toList.take (i * R.size)++es++CB.toList.drop (i * R.size+R.size)).toArray) B x.1 x.2 a) ps l:=de.imp λ y a aL H7=>R.ss H7 λ q I=>(Mod.setRow w g _).block q (R.wC H7 q I).2 (by simpa using WD y aL q I);exact Wp.Y4 (P:=λ (x:List Nat×List Value) a=>R.own _ B x.1 x.2 a) (by rw [hQ];exact hp.1 (I _))
end κ
section
variable {P:Program} {n:Nat} {E cP:List (Nat×Value)} {a:Act} {w w' w0 aP:World} {Q:Exit→Act→World→Prop} {ops:Array Oper} {v:Value}
variable {d:Option Nat} {ty:TypeId} {pos:String} {af:Array Edge} {g:Option (Nat×Bool)} {x y z:Operand} {t:TypeId} {rest:List Oper}
theorem IQ {α:Type} {R:κ α} {e by_ B i:Nat} {A:Option Addr} {c:Nat} {l:List α} {q':α} {p:Addr} {es:List Value} (h:R.aD e by_ w B (κ.ae A) A c l) (hR:R.sM) (aq:i<l.length) (hx:ev E x=some (.pointer (some p))) (hp:p=⟨e7 A,ld A+i * R.size,none⟩) (aL:ev E y=some v) (hc:v.cells=es.toArray)
  (I:∀ w,R.has w es q') (hs:eN P t es.length)
  (ar:∀ aP,Mod (κ.ae A) w aP→R.aD e by_ aP B (κ.ae A) A c (l.set i q')→cE P n ops Q rest E aP):cE P n ops Q (⟨none, .store t x y,ty,pos,af,none⟩::rest) E w:=by
 obtain ⟨b,rfl⟩:=h.block (by omega);have LC:p=⟨b,i * R.size,none⟩:=by rw [hp];simp [e7,ld]
 subst LC;obtain ⟨_,ps,_,_,bS,_⟩:=id h;obtain ⟨cur,uN,_,_⟩:=bS.acN;obtain ⟨wh,hle⟩:=κ.aD.akL (q':=q') h hR aq I uN;have hP:=YW (P:=P) (w:=w) (b:=b) (p:=i * R.size) (cur:=cur.toList) (e:=e) (by simpa [aR] using uN) hc hs (aSr.2 (R.one (I w))) hle;refine us (λ n a ha=> ?_) (ar _ (Mod.setRow w b _) wh);simp only [execOp,ha.ev hx,ha.ev aL,Instr.storeAt,Instr.sureAddr,aRS,aRT,aRJ,hP]
def YA (A:Option Addr) (aHR:Nat):Option Addr:=A
theorem RT {A:Option Addr} {len cap e s:Nat} {k:IntKind} (aq m:Nat) {i:Int} (aG:P.underlying t=some (.slice e)) (hs:eN P e s) (hx:ev E x=some (.slice A len cap)) (aL:ev E y=some (.int k i)) (τ:i=(aq:Int)) (aa:aq≤cap) (hm:m=aq):cS P E ⟨d, .slice t x none (some y) none,ty,pos,af,g⟩ w (.slice (YA A aq) m cap) w:=λ n a ha=>by
 subst τ;subst hm;have τ:P.underlying t=some (.slice (P.elem t)):=by simp [Program.elem,aG]
 have mY:P.elem t=e:=by simp [Program.elem,aG]
 have aw:=run_slice_h (P:=P) (w:=w) t A len cap τ k (m:Int) (by omega) (by omega);have a1:=aUe (P:=P) (w:=w) t (.slice A len cap) none (some (.int k (m:Int))) none τ;rw [mY,hs w] at aw;simp only [execOp,ha.ev hx,ha.ev aL,Option.map,a1,aw,aRS,aRJ,aRT,sliced,aSy,Nat.sub_zero];unfold YA;cases A with
 | none=>simp
 | some a=>simp [Addr.add]
end
theorem κ.aJ.pre {α:Type} {R:κ α} {by_ c:Nat} {A:Option Addr} {l:List α} {w:World} (h:R.aJ by_ w A c l) (k:Nat):R.aJ by_ w (YA A k) c (l.take k):=h.IV k
open Tryz
section
variable {P:Program} {n:Nat} {E:List (Nat×Value)} {w:World} {Q:Exit→Act→World→Prop} {ops:Array Oper} {aS:Nat→Nat}
def aaa (P:Program) (ops:Array Oper) (Q:Exit→Act→World→Prop) (aS:Nat→Nat) (aGv aGw:List Nat):Exit→Act→World→Prop :=
 gF (λ a w=>vh P ops (gF (Q .normal)) aS aGv a w∧vh P ops (gF (Q .normal)) aS aGw a w)
theorem aCi {id:Nat} (lC:List (Nat×Nat)) (bO:List Nat) (i:Nat) (z8:List Nat) (j:Nat) (DW:List Nat) (hm:P.follows .mixedOrders=true)
  (aX:(Region.noSelect ops && (bO.length+(z8.length+1)== ops.size) && (z8.length == DW.length) && Nat.blt 1 (nD lC i) && Nat.blt 1 (nD lC j) && EM ops (nD lC) bO (Array.replicate ops.size false) && (Region.ready .any ops (zH bO (Array.replicate ops.size false))== [i,j]) && h' ops (nD lC) z8 ((zH bO (Array.replicate ops.size false)).setIfInBounds i true) && h' ops (nD lC) DW ((zH bO (Array.replicate ops.size false)).setIfInBounds j true))=true)
  (h:j1 P n ops (aaa P ops Q (nD lC) (i::z8) (j::DW)) (nD lC) bO E w):W P n (.region id ops true) Q E w:=λ a ha=>by
 simp only [aRI,aSC,aVe] at aX;obtain ⟨⟨⟨⟨⟨⟨⟨⟨hs,az⟩,hlen⟩,aq⟩,ay⟩,τ⟩,hr⟩,aa⟩,aw⟩:=aX;refine aWk (aUC hm (Q:=gF (Q .normal)) ?_) (λ e a w I=>by cases e<;>first | exact I | exact I.elim);have:=T4 (P:=P) hs (Q:=gF (Q .normal)) (λ _ _ _ h=>h) (m:=z8.length+1) bO (Array.replicate ops.size false) a w (by simp) τ (h a ha) (λ a w0 fC=>by
  have fC:vh P ops (gF (Q .normal)) (nD lC) (i::z8) a w0∧vh P ops (gF (Q .normal)) (nD lC) (j::DW) a w0:=fC w0 (Ext.bF w0);refine ⟨λ aH=>(by rw [hr] at aH;cases aH),λ q I=> ?_⟩;rw [hr] at I;have I:q=i∨q=j:=by simpa using I
  rcases I with rfl | rfl
  ·obtain ⟨⟨o,bS,h⟩,_⟩:=fC;rcases h with ⟨ar,_⟩ | ⟨ar,_⟩ | ⟨ar,h⟩
   ·omega
   ·omega
   ·exact ⟨o,bS, .inr ⟨ar,λ w hw=>aTt (λ a' w' aw=>⟨aw.1,Ex hs (λ _ _ _ h=>h) z8 _ _ _ (by simp [Y2]) aa aw.2⟩) (h w hw)⟩⟩
  ·obtain ⟨_,⟨o,bS,h⟩⟩:=fC;rcases h with ⟨ar,_⟩ | ⟨ar,_⟩ | ⟨ar,h⟩
   ·omega
   ·omega
   ·exact ⟨o,bS, .inr ⟨ar,λ w hw=>aTt (λ a' w' bK=>⟨bK.1,by rw [hlen];exact Ex hs (λ _ _ _ h=>h) DW _ _ _ (by simp [Y2]) aw bK.2⟩) (h w hw)⟩⟩)
 rw [az] at this;exact Cs _ _ _ _ this _ (aR8 _ w).drew
theorem atW {z8 DW:List Nat} (τ:j1 P n ops Q aS z8 E w) (aa:j1 P n ops Q aS DW E w):N n (aaa P ops Q aS z8 DW) E w:=λ a ha=>⟨τ a ha,aa a ha⟩
end
open Tryz
section
def j6 (ro:Option Nat):Fence:= {Fence.wide with round:=ro}
section
variable {P:Program} {ro:Option Nat} {m:Nat} {ops:Array Oper} {Q:Exit→Act→World→Prop} {w:World}
theorem acK {f:FuncId} {args:Array Value} {R:Ending→World→Prop} (h:Calls P f args w R):CallsIn (j6 ro) m P f args w R:=(callsIn_wide (n:=m)).2 h
theorem aCx {row:String} {args:Array Value} {R:Value→World→Prop} (h:Rows P row args w R):RowsIn (j6 ro) m P row args w R:=λ c cs _ =>
 let ⟨v,w',r,s⟩:=h c cs;⟨v,w',r,stepsIn_wide.2 s⟩
def Dj (o:Oper):Bool:=match o.op with
 | .defer _=>false
 | _=>true
theorem ajL {o:Oper} {a:Act} {K:Act→World→Prop} (hd:Dj o=true) (h:o.wp P a w K Q):o.wpIn (j6 ro) m P a w K Q:=by
 refine ⟨λ _ _=>trivial, ?_⟩;have hs:o.semAt (j6 ro).round a.eval=execOp a.eval o:=aUD _ _ _ (λ c e=>by simp [Dj,e] at hd);rw [hs];unfold Oper.wp at h;generalize (execOp a.eval o).run P w=r at *
 cases r with
 | ok x w' =>
  cases x<;>simp only [Oper.upon] at h<;>simp only [Oper.uponIn] <;>
   first
    | exact h
    | exact h.elim
    | exact ⟨λ h=>by simp [j6,Fence.wide] at h,acK h⟩
    | exact ⟨λ h=>by simp [j6,Fence.wide] at h,aCx h⟩
 | halt x w'=>cases x<;>simp only [Oper.upon] at h<;>simp only [Oper.uponIn]<;>first | exact h | exact h.elim
theorem XV:∀ (l:List Oper) {a:Act} {w:World},l.all Dj=true→wpList P ops Q l a w→(∀ c a w,¬ Q (.panic c) a w)→¬ LetsOut Q→wpListIn (j6 ro) m P ops Q l a w
 | [],a,w,_,h,_,_=>by unfold wpList at h;unfold wpListIn;exact h
 | o::rest,a,w,hd,h,hp,bS=>by
  rw [List.all_cons,aRI] at hd;unfold wpList at h;unfold wpListIn;split at h
  ·rename_i hw
   rw [aRP hw];rcases h with h | ⟨h,x⟩
   ·exact Oper.wpIn_mono (λ a w h=>XV rest hd.2 h hp bS) (ajL hd.1 h)
   ·exact (bS x).elim
  ·rename_i hw
   rw [aRL hw];exact ⟨λ _ _=>trivial,XV rest hd.2 h hp bS⟩
theorem aE6 {i:Nat} {K:Act→World→Prop} {a:Act} {w:World} (hd:ops.toList.all Dj=true) (bS:¬ LetsOut Q) (h:wpOp P ops Q i K a w):wpOpIn (j6 ro) m P ops Q i K a w:=by
 unfold wpOp at h;unfold wpOpIn;split at h
 ·rename_i aq;simp only [aq];exact h
 ·rename_i o aq
  simp only [aq];have av0:Dj o=true:=aSr.1 hd o (by rw [aWj];exact aWe aq);split at h
  ·rename_i hw
   rw [aRP hw];rcases h with h | ⟨h,x⟩
   ·exact ajL av0 h
   ·exact (bS x).elim
  ·rename_i hw
   rw [aRL hw];exact ⟨λ _ _=>trivial,h⟩
theorem ab5 (hd:ops.toList.all Dj=true) (bS:¬ LetsOut Q):∀ (f:Nat) (l:Array Bool) {a:Act} {w:World},wpAny P .any ops Q f l a w→wpAnyIn (j6 ro) m P .any ops Q f l a w
 | 0,l,a,w,h=>h
 | f+1,l,a,w,h=>⟨h.1,λ i aq=>wpOpIn_mono (λ a w h=>ab5 hd bS f _ h) (aE6 hd bS (h.2 i aq))⟩
end
theorem ajt {K:Act→World→Prop}:∀ c a w,¬ gF K (.panic c) a w:=λ _ _ _ h=>h
theorem ajs {K:Act→World→Prop}:¬ LetsOut (gF K):=λ ⟨_,_,h⟩=>h
theorem ajr {K:Exit→Act→World→Prop}:∀ e a w,gF (K .normal) e a w→K e a w:=λ e a w h=>by cases e<;>first | exact h | exact h.elim
namespace Rd
section
variable {P:Program} {ro:Option Nat} {m n:Nat} {ops:Array Oper} {Q:Exit→Act→World→Prop} {w w0:World} {E cP:List (Nat×Value)} {id QZ:Nat} {c:Operand} {x y:Code} {i j:Int} {bO:List Nat} {v:Value}
def W (ro:Option Nat) (m:Nat) (P:Program) (n:Nat) (c:Code) (Q:Exit→Act→World→Prop) (E:List (Nat×Value)) (w:World):Prop:=∀ a,er n E a→c.wpIn (j6 ro) m P Q a w
abbrev M (n:Nat) (Q:Exit→Act→World→Prop) (E:List (Nat×Value)) (w:World):Prop:=N n (gF (Q .normal)) E w
abbrev rF (ro:Option Nat) (m:Nat) (P:Program) (y:Code) (Q:Exit→Act→World→Prop):Exit→Act→World→Prop:=Exit.then (λ a w=>y.wpIn (j6 ro) m P Q a w) Q
theorem aA (h:W ro m P n x (rF ro m P y Q) E w):W ro m P n (.seq x y) Q E w:=λ a ha=>wpIn_seq (h a ha)
theorem e9 (h:M n Q E w):W ro m P n .skip Q E w:=λ a ha=>wpIn_skip (h a ha)
theorem rt (h:T n Q E w):W ro m P n .ret Q E w:=λ a ha=>wpIn_ret (h a ha)
theorem dH (h:X n Q id E w):W ro m P n (.exit id) Q E w:=λ a ha=>wpIn_exit (h a ha)
theorem bM (h:W ro m P n x (Exit.inBlock id Q) E w):W ro m P n (.block id x) Q E w:=λ a ha=>wpIn_block (h a ha)
theorem rg {l:List Oper} (h:cE P n l.toArray (gF (Q .normal)) l E w) (hd:l.all Dj=true:=by kernel_rfl):W ro m P n (.region id l.toArray false) Q E w:=λ a ha=>Go.wpIn_mono (aVQ (XV l hd (h a ha) ajt ajs)) ajr
theorem dJ {b:Bool} (hc:ev E c=some (.bool b)) (τ:b=true→W ro m P n x Q E w) (aa:b=false→W ro m P n y Q E w):W ro m P n (.cond c x y) Q E w :=
 λ a ha=>wpIn_cond_split (ha.ev hc) (λ h=>τ h a ha) (λ h=>aa h a ha)
theorem eg (hc:ev E c=some (.bool (decide (i<j)))) (τ:i<j→W ro m P n x Q E w) (aa:¬ i<j→W ro m P n y Q E w):W ro m P n (.cond c x y) Q E w:=dJ hc (λ h=>τ (aST h)) (λ h=>aa (aT5 h))
theorem e1 (hc:ev E c=some (.bool (i != j))) (τ:¬ i=j→W ro m P n x Q E w) (aa:i=j→W ro m P n y Q E w):W ro m P n (.cond c x y) Q E w:=dJ hc (λ h=>τ (by simpa using h)) (λ h=>aa (by simpa using h))
theorem aV (h:W ro m P n y Q E w):M n (rF ro m P y Q) E w:=h
theorem ne {fn:Func} {R:Ending→World→Prop} (h:T n (bodyPost P fn R) E w):M n (bodyPost P fn R) E w:=λ a ha=>h a ha
theorem b0 (h:M n Q E w):M n (Exit.inBlock id Q) E w:=h
theorem dG (h:X n Q id E w):X n (rF ro m P y Q) id E w:=h
theorem dF (h:M n Q E w):X n (Exit.inBlock id Q) id E w:=λ a ha=>by simp only [Exit.inBlock,aTm];exact h a ha
theorem bT (h:T n Q E w):T n (rF ro m P y Q) E w:=h
theorem e8 {c:Code} (kD:Nat→List (Nat×Value)→World→Prop) (k:Nat) (cP:List (Nat×Value)) (aH:kD k cP w) (hs:Sub cP E)
  (round:∀ k E w,kD k E w→W ro m P n c (Exit.then (Ox n kD k) Q) E w):W ro m P n (.loop c) Q E w:=λ a ha=>by
 intro b H_ cs axp Φ hr;have key:∀ k a w,(∃ E,kD k E w∧er n E a)→∃ e a' w',Q e a' w'∧ArrivesIn (Machine.fenced P (j6 ro)) P (lone (b.atR a (.code c:: .inLoop c::H_)) cs w) b H_ cs e a' w':=by
  intro k;induction k using Nat.strongRecOn with
  | _ k bD =>
   intro a w ⟨E,qO,ha⟩;obtain ⟨e,cd,aP,I,pY⟩:=round k E w qO a ha b (.inLoop c::H_) cs axp Φ hr;cases e with
   | normal =>
    obtain ⟨m',bw,VZ⟩:=I;obtain ⟨bj,a2,cH,xP,Wr⟩:=bD m' bw cd aP VZ;exact ⟨bj,a2,cH,xP, .of_steps (StepsIn.trans pY (.one (fenced_calm Φ hr Z) stepR_inLoop)) Wr⟩
   | exit id=>exact ⟨_,cd,aP,I, .pass (x:= .inLoop c) rfl (λ _ _=> .inl (by simp)) pY⟩
   | goto l=>exact ⟨_,cd,aP,I, .pass (x:= .inLoop c) rfl (λ _ _=> .inl (by simp)) pY⟩
   | ret=>exact ⟨_,cd,aP,I, .pass (x:= .inLoop c) rfl (λ _ _=> .inl (by simp)) pY⟩
   | panic aqq=>exact ⟨_,cd,aP,I, .pass (x:= .inLoop c) rfl (λ _ _=> .inl (by simp)) pY⟩
   | outgrown=>exact ⟨_,cd,aP,I, .pass (x:= .inLoop c) rfl (λ _ _=> .inl (by simp)) pY⟩
 obtain ⟨e,a',w',I,pY⟩:=key k a w ⟨cP,aH,ha.sub hs⟩;exact ⟨e,a',w',I, .of_steps (.one (fenced_calm Φ hr Z) stepR_loop) pY⟩
theorem c6 {kD:Nat→List (Nat×Value)→World→Prop} {k:Nat} (k':Nat) (cP:List (Nat×Value)) (h:kD k' cP w) (hm:k'<k) (hs:Sub cP E):M n (Exit.then (Ox n kD k) Q) E w :=
 λ a ha=>⟨k',hm,cP,h,ha.sub hs⟩
theorem rd (lC:List (Nat×Nat)) (bO:List Nat) (hm:P.follows .mixedOrders=true) (aX:(Region.noSelect ops && (bO.length == ops.size) && h' ops (nD lC) bO (Array.replicate ops.size false))=true)
  (h:j1 P n ops (gF (Q .normal)) (nD lC) bO E w) (hd:ops.toList.all Dj=true:=by kernel_rfl):W ro m P n (.region id ops true) Q E w:=λ a ha=>by
 simp only [aRI,aSC] at aX;obtain ⟨⟨hs,az⟩,aX⟩:=aX;refine Go.wpIn_mono (wpIn_region_any hm (Q:=gF (Q .normal)) (ab5 hd ajs _ _ ?_)) ajr;have:=Ex (P:=P) hs (Q:=gF (Q .normal)) ajt bO (Array.replicate ops.size false) a w (by simp) aX (h a ha);rw [az] at this;exact Cs _ _ _ _ this _ (aR8 _ w).drew
theorem ab4 {l:List Value} (az:Nat.ble l.length n=true):er n (Ct 0 l) {tmps:=l.toArray++Array.replicate (n - l.toArray.size) undef,defers:= []}:=by
 refine ⟨Z, ?_,λ t v hv=> ?_⟩
 ·have:=aTK az;simp only [aVu,aWi,aTc];omega
 ·obtain ⟨j,e,ay⟩:=T5 l 0 t v hv;have bw:=(aRC.1 ay).1;rw [aVP (by simp;omega)];simpa [show t=j by omega] using ay
theorem ch {f:FuncId} {fn:Func} {c:Code} {l:List Value} {R:Ending→World→Prop} (hf:P.funcs[f]? =some fn) (Φ:fn.body=some c) (hn:fn.ntmps=n) (az:Nat.ble l.length n=true)
  (h:W none m P n c (bodyPostM (j6 none) m P fn R) (Ct 0 l) w):Calls P f l.toArray w R:=by
 have τ:CallsIn (j6 none) m P f l.toArray w R:=callsIn_of_wp_marks hf Φ trivial (by rw [hn];exact h _ (ab4 az)) rfl;exact (callsIn_wide (n:=m)).1 τ
theorem aqg {f:FuncId} {fn:Func} {c:Code} {l:List Value} {R:Ending→World→Prop} (hf:P.funcs[f]? =some fn) (Φ:fn.body=some c) (hn:fn.ntmps=n) (az:Nat.ble l.length n=true)
  (h:W none m P n c (bodyPost P fn R) (Ct 0 l) w):CallsIn (j6 none) m P f l.toArray w R :=
 callsIn_of_wp hf Φ trivial (by rw [hn];exact h _ (ab4 az)) rfl
theorem bb {fn:Func} {R:Ending→World→Prop} {vs:List Value} (h:xc P E w fn.results.toList vs) (hR:R (.returned (u3 vs)) w):T n (bodyPostM (j6 none) m P fn R) E w :=
 λ a ha=>by
  show LeavesInM _ _ _ _ _ _ a.defers _ _;rw [ha.d];exact ⟨_,YV h ha,hR⟩
end
end Rd
namespace oL
section
variable {P:Program} {ro:Option Nat} {m n:Nat} {ops:Array Oper} {Q:Exit→Act→World→Prop} {w w' w0:World} {E cP:List (Nat×Value)} {id:Nat} {v:Value}
variable {d:Option Nat} {ty:TypeId} {pos:String} {af:Array Edge} {g:Option (Nat×Bool)} {x y z:Operand} {t:TypeId} {rest:List Oper}
def cE (ro:Option Nat) (m:Nat) (P:Program) (n:Nat) (ops:Array Oper) (Q:Exit→Act→World→Prop) (l:List Oper) (E:List (Nat×Value)) (w:World):Prop:=∀ a,er n E a→wpListIn (j6 ro) m P ops Q l a w
theorem rg {l:List Oper} (h:cE ro m P n l.toArray Q l E w):Rd.W ro m P n (.region id l.toArray false) Q E w:=λ a ha=>aVQ (h a ha)
theorem nl (h:Rd.M n Q E w):cE ro m P n ops Q [] E w:=h
theorem iA {d:Nat} {op:Op} (hr:cS P E ⟨some d,op,ty,pos,af,none⟩ w v w') (hd:Nat.blt d n=true) (h:cE ro m P n ops Q rest ((d,v)::E) w'):cE ro m P n ops Q (⟨some d,op,ty,pos,af,none⟩::rest) E w:=λ a ha=>by
 have kM:=hr n a ha;unfold wpListIn;rw [aRP (by simp [Region.wanted])];refine ⟨λ _ _=>trivial, ?_⟩;have hs:(⟨some d,op,ty,pos,af,none⟩:Oper).semAt (j6 ro).round a.eval=execOp a.eval ⟨some d,op,ty,pos,af,none⟩:=aUD _ _ _ (λ c e=>by
  have e:op= .defer c:=e;subst e;simp only [execOp,aRS,aRT] at kM;revert kM;generalize (resolve a.eval c ty).run P w=r;cases r<;>simp [Result.andThen])
 rw [hs,kM];exact h _ (ha.put hd v)
theorem aFu {d:Nat} {l:Nat} {xs:Array Operand} {ts:Array TypeId} {args:List Value} (hx:ev E x=some (.func (.yield l) #[] #[])) (he:hq E xs.toList=some args) (hd:Nat.blt d n=true)
  (h:YieldAt (j6 ro) (m - 1) P l args.toArray w λ e w'=>∃ v,e= .returned v∧cE ro m P n ops Q rest ((d,v)::E) w'):cE ro m P n ops Q (⟨some d, .call {callee:= .value x,args:=xs,argTypes:=ts},ty,pos,af,none⟩::rest) E w:=λ a ha=>by
 obtain ⟨fn,tmps,assign,body,aL,hR⟩:=h;unfold wpListIn;rw [aRP (by simp [Region.wanted])];refine ⟨λ _ _=>trivial, ?_⟩;have hs:(⟨some d, .call {callee:= .value x,args:=xs,argTypes:=ts},ty,pos,af,none⟩:Oper).semAt (j6 ro).round a.eval=execOp a.eval ⟨some d, .call {callee:= .value x,args:=xs,argTypes:=ts},ty,pos,af,none⟩:=aUD _ _ _ (λ c e=>by cases e);have hm:xs.map a.eval=args.toArray:=by rw [← ha.hq he];apply aS8;simp
 have kM:(execOp a.eval ⟨some d, .call {callee:= .value x,args:=xs,argTypes:=ts},ty,pos,af,none⟩).run P w= .ok (.round l fn tmps assign body) w:=by
  unfold execOp;simp only [resolve,invoke,Deferred.ofValue,ha.ev hx,callFunc,aRS,aRT,aRJ,hm,aUp];first
   | exact aL
   | simpa using aL
 rw [hs,kM];refine ⟨λ h=>by simp [j6,Fence.wide] at h,hR.mono λ e w' he=> ?_⟩;obtain ⟨v,rfl,h⟩:=he;exact h _ (ha.put hd v)
end
end oL
def mark (D:Nat):List Deferred:= [{target:= .collected D,args:=#[]}]
def wd (ds:List Deferred) (a:Act):Act:= {a with defers:=ds}
theorem ami (ds:List Deferred) (a:Act) (d:Option Nat) (v:Value):(wd ds a).put d v=wd ds (a.put d v):=by cases d<;>rfl
theorem ZN (ds:List Deferred) (a:Act):(wd ds a).eval=a.eval:=by funext x;cases x<;>rfl
def Ae (w:World) (D:Nat):Prop:=w.heap[D]? =some (.deferred (some []))
theorem Ae.lt {D:Nat} {w:World} (h:Ae w D):D<w.heap.size:=(aSa.1 h).1
theorem Ae.later {D:Nat} {w w':World} (h:Ae w D) (x:Ext w w'):Ae w' D:=(x.block D h.lt).trans h
def Zu (w:World) (D:Nat):World:=w.putObj D (.deferred none)
theorem Ae.un {D:Nat} {w:World} (h:Ae w D):Mod [D] w (Zu w D):=by
 have:=Mod.grown (grownBy_putObj' w D (.deferred none));exact this
namespace gJ
section
variable {P:Program} {ds:List Deferred} {m n:Nat} {ops:Array Oper} {Q:Exit→Act→World→Prop} {w w' w0:World} {E cP:List (Nat×Value)} {id:Nat} {v:Value}
variable {d:Option Nat} {ty:TypeId} {pos:String} {af:Array Edge} {g:Option (Nat×Bool)} {x y z:Operand} {t:TypeId} {rest:List Oper} {c:Operand} {dt uB:Code} {i j:Int}
def W (ds:List Deferred) (m:Nat) (P:Program) (n:Nat) (c:Code) (Q:Exit→Act→World→Prop) (E:List (Nat×Value)) (w:World):Prop:=∀ a,er n E a→c.wpIn (j6 none) m P Q (wd ds a) w
def N (ds:List Deferred) (n:Nat) (Q:Exit→Act→World→Prop) (E:List (Nat×Value)) (w:World):Prop:=∀ a,er n E a→Q .normal (wd ds a) w
def T (ds:List Deferred) (n:Nat) (Q:Exit→Act→World→Prop) (E:List (Nat×Value)) (w:World):Prop:=∀ a,er n E a→Q .ret (wd ds a) w
def cE (ds:List Deferred) (m:Nat) (P:Program) (n:Nat) (ops:Array Oper) (Q:Exit→Act→World→Prop) (l:List Oper) (E:List (Nat×Value)) (w:World):Prop:=∀ a,er n E a→wpListIn (j6 none) m P ops Q l (wd ds a) w
theorem aA (h:W ds m P n dt (Rd.rF none m P uB Q) E w):W ds m P n (.seq dt uB) Q E w:=λ a ha=>wpIn_seq (h a ha)
theorem e9 (h:N ds n Q E w):W ds m P n .skip Q E w:=λ a ha=>wpIn_skip (h a ha)
theorem rt (h:T ds n Q E w):W ds m P n .ret Q E w:=λ a ha=>wpIn_ret (h a ha)
theorem rg {l:List Oper} (h:cE ds m P n l.toArray Q l E w):W ds m P n (.region id l.toArray false) Q E w:=λ a ha=>aVQ (h a ha)
theorem nl (h:N ds n Q E w):cE ds m P n ops Q [] E w:=h
theorem aV (h:W ds m P n uB Q E w):N ds n (Rd.rF none m P uB Q) E w:=h
theorem b0 (h:N ds n Q E w):N ds n (Exit.inBlock id Q) E w:=h
theorem bT (h:T ds n Q E w):T ds n (Rd.rF none m P uB Q) E w:=h
theorem dJ {b:Bool} (hc:ev E c=some (.bool b)) (τ:b=true→W ds m P n dt Q E w) (aa:b=false→W ds m P n uB Q E w):W ds m P n (.cond c dt uB) Q E w :=
 λ a ha=>wpIn_cond_split (by rw [ZN];exact ha.ev hc) (λ h=>τ h a ha) (λ h=>aa h a ha)
theorem e1 (hc:ev E c=some (.bool (i != j))) (τ:¬ i=j→W ds m P n dt Q E w) (aa:i=j→W ds m P n uB Q E w):W ds m P n (.cond c dt uB) Q E w:=dJ hc (λ h=>τ (by simpa using h)) (λ h=>aa (by simpa using h))
theorem aAi {o:Oper} {a:Act} {v:Value} (h:(execOp a.eval o).run P w= .ok (.value v) w'):∀ c,o.op≠ .defer c:=λ c e=>by
 unfold execOp at h;rw [e] at h;simp only [aRS,aRT] at h;revert h;generalize (resolve a.eval c o.type).run P w=r;cases r<;>simp [Result.andThen]
theorem iA {d:Nat} {op:Op} (hr:cS P E ⟨some d,op,ty,pos,af,none⟩ w v w') (hd:Nat.blt d n=true) (h:cE ds m P n ops Q rest ((d,v)::E) w'):cE ds m P n ops Q (⟨some d,op,ty,pos,af,none⟩::rest) E w:=λ a ha=>by
 have kM:=hr n a ha;unfold wpListIn;rw [aRP (by simp [Region.wanted])];refine ⟨λ _ _=>trivial, ?_⟩;rw [ZN,aUD _ _ _ (aAi kM),kM];show wpListIn _ _ _ _ _ _ _ _;rw [ami];exact h _ (ha.put hd v)
theorem ca {d:Nat} {f:FuncId} (hf:Enters P f) {xs:Array Operand} {ts:Array TypeId} {args:List Value} (he:hq E xs.toList=some args) (hd:Nat.blt d n=true)
  (h:Calls P f args.toArray w λ e w'=>∃ v,e= .returned v∧cE ds m P n ops Q rest ((d,v)::E) w'):cE ds m P n ops Q (⟨some d, .call {callee:= .value (.func f),args:=xs,argTypes:=ts},ty,pos,af,none⟩::rest) E w:=λ a ha=>by
 unfold wpListIn;rw [aRP (by simp [Region.wanted])];refine ⟨λ _ _=>trivial, ?_⟩;rw [ZN,aUD _ _ _ (λ c e=>by cases e),MU hf ha he];refine ⟨λ h=>by simp [j6,Fence.wide] at h,CallsIn.mono (acK h) λ e w' fC=> ?_⟩;obtain ⟨v,rfl,h⟩:=fC;show wpListIn _ _ _ _ _ _ _ _;rw [ami];exact h _ (ha.put hd v)
theorem bb {D:Nat} {fn:Func} {R:Ending→World→Prop} {vs:List Value} (hK:Ae w D) (h:xc P E (Zu w D) fn.results.toList vs) (hR:R (.returned (u3 vs)) (Zu w D)):T (mark D) n (bodyPostM (j6 none) m P fn R) E w :=
 λ a ha=>by
  have hr:=YV (a:=a) h ha;exact ⟨by simp, .inl ⟨D,_,rfl,run_takeDeferred hK,_,hr,hR⟩⟩
end
end gJ
def Au (b c:Nat) (W iv:World):Prop:=iv.heap[b]? =W.heap[b]? ∧iv.heap[c]? =W.heap[c]?
theorem Au.tH {b c:Nat} {X Y aC:World} (h:Au b c X Y) (k:Au b c Y aC):Au b c X aC:=⟨k.1.trans h.1,k.2.trans h.2⟩
theorem Mod.aiD {S:List Nat} {W iv:World} {B:Nat} (h:Mod S W iv) (hS:∀ q∈S,q<W.heap.size→∃ cur e aB,W.heap[q]? =some (.cells cur e aB)):KeepsFrom B W iv :=
 ⟨h.size,λ k o _ ar bS=>by
  by_cases hm:k∈S
  ·obtain ⟨cur,e,aB,hc⟩:=hS k hm (aSa.1 ar).1;rw [hc] at ar;injection ar with ar
   subst ar;exact nomatch bS
  ·exact (h.block k (aSa.1 ar).1 hm).trans ar⟩
theorem Mod.ayx {S:List Nat} {W X Y:World} {b c:Nat} (h:Mod S W X) (k:Mod S W Y) (Φ:b<W.heap.size∧c<W.heap.size) (τ:b∉S) (aa:c∉S):Au b c X Y :=
 ⟨(k.block b Φ.1 τ).trans (h.block b Φ.1 τ).symm,(k.block c Φ.2 aa).trans (h.block c Φ.2 aa).symm⟩
def yM (B:Nat) (w0 w:World):Prop:=KeepsFrom B w0 w
theorem yM.bF (B:Nat) (w:World):yM B w w:=KeepsFrom.refl B w
theorem yM.later {B:Nat} {w0 w w':World} (h:yM B w0 w) (x:Ext w w'):yM B w0 w':=KeepsFrom.trans h ((Mod.bC (S:= []) x).aiD λ q I=>nomatch I)
theorem yM.mod {B:Nat} {w0 w w':World} {S:List Nat} (h:yM B w0 w) (m:Mod S w w') (hS:∀ q∈S,∃ cur e aB,w.heap[q]? =some (.cells cur e aB)):yM B w0 w':=KeepsFrom.trans h (m.aiD λ q I _=>hS q I)
theorem κ.aD.Pg {α:Type} {R:κ α} {e by_ B c:Nat} {A:Option Addr} {l:List α} {w:World} (h:R.aD e by_ w B (κ.ae A) A c l):∀ q∈κ.ae A,∃ cur e aB,w.heap[q]? =some (.cells cur e aB):=by
 obtain ⟨_,ps,_,_,⟨_,bS⟩,_⟩:=h;rcases bS with ⟨τ,_⟩ | ⟨g,cap,cur,τ,_,aa,_⟩
 ·injection τ with τ;subst τ;intro q I;exact nomatch I
 ·injection τ with τ;subst τ;intro q I
  obtain rfl:=aRz.1 I;exact ⟨_,_,_,aa⟩
structure Ee {α:Type} (B:Nat) (jq:List α→World→Prop) (pre:List α) (w:World):Prop where
 T1:AbidesFrom B jq
 at_:jq pre w
theorem Ee.later {α:Type} {B:Nat} {jq:List α→World→Prop} {pre:List α} {w w':World} (h:Ee B jq pre w) (x:Ext w w'):Ee B jq pre w' :=
 ⟨h.T1,h.T1 _ _ _ none h.at_ ⟨x.os,x.tape,x.output,x.size,λ k ar _=>x.block k ar⟩ λ r e=>nomatch e⟩
theorem aR.Q5 {b:Nat} {cs:List Value} {e:TypeId} {aB:Nat×Nat} {w w':World} (h:aR w b cs e aB) (k:w'.heap[b]? =w.heap[b]?):aR w' b cs e aB:=k.trans h
theorem aFv {F:Fence} {m:Nat} {P:Program} {l:Nat} {args:Array Value} {W:World} {R R':Ending→World→Prop} (h:YieldAt F m P l args W R) (hr:∀ e w,R e w→R' e w):YieldAt F m P l args W R':=by
 obtain ⟨fn,tmps,assign,body,aL,hR⟩:=h;exact ⟨fn,tmps,assign,body,aL,hR.mono hr⟩
theorem aFw {P Q:Prop} {e:Ending} (h:(e= .returned (.bool true)∧P)∨(e= .returned (.bool false)∧Q)):∃ b,e= .returned (.bool b)∧(b=true→P)∧(b=false→Q):=by
 rcases h with ⟨h,p⟩ | ⟨h,q⟩
 ·exact ⟨true,h,λ _=>p,(λ h=>nomatch h)⟩
 ·exact ⟨false,h,(λ h=>nomatch h),λ _=>q⟩
theorem atP {q k:Nat} (ar:k<q):(List.finRange q).take k++ [⟨k,ar⟩]=(List.finRange q).take (k+1):=by
 rw [aR2 (by simpa using ar)];simp
section
variable {P:Program} {n:Nat} {E cP:List (Nat×Value)} {w:World} {d:Option Nat} {ty:TypeId} {pos:String} {af:Array Edge} {g:Option (Nat×Bool)} {x y z u:Operand} {t:TypeId}
theorem aCJ {A:Option Addr} {len cap e s:Nat} {k:IntKind} (lo:Nat) {i:Int} (aG:P.underlying t=some (.slice e)) (hs:eN P e s) (hx:ev E x=some (.slice A len cap)) (aL:ev E y=some (.int k i)) (τ:i=(lo:Int)) (aa:lo≤len):
  cS P E ⟨d, .slice t x (some y) none none,ty,pos,af,g⟩ w (.slice (eF A cap lo s) (len - lo) (cap - lo)) w:=λ n a ha=>by
 subst τ;have lH:P.underlying t=some (.slice (P.elem t)):=by simp [Program.elem,aG]
 have mY:P.elem t=e:=by simp [Program.elem,aG]
 have aw:=run_slice_l (P:=P) (w:=w) t A len cap lH k (lo:Int) (by omega) (by omega);have a1:=aUe (P:=P) (w:=w) t (.slice A len cap) (some (.int k (lo:Int))) none none lH;rw [mY,hs w] at aw;simp only [execOp,ha.ev hx,ha.ev aL,Option.map,a1,aw,aRS,aRJ,aRT,sliced,aSy,eF]
theorem aCI {A:Option Addr} {len cap e s:Nat} {k k' dY:IntKind} (lo aq n:Nat) {i j XB:Int} (aG:P.underlying t=some (.slice e)) (hs:eN P e s) (hx:ev E x=some (.slice A len cap)) (aL:ev E y=some (.int k i)) (bs:ev E z=some (.int k' j)) (hu:ev E u=some (.int dY XB)) (A8:i=(lo:Int)) (Fa:j=(aq:Int)) (awe:XB=(aq:Int)) (τ:lo≤aq) (aa:aq≤cap) (hn:n=aq - lo):
  cS P E ⟨d, .slice t x (some y) (some z) (some u),ty,pos,af,g⟩ w (.slice (eF A aq lo s) n n) w:=λ jQ a ha=>by
 subst A8;subst Fa;subst awe;subst hn;have lH:P.underlying t=some (.slice (P.elem t)):=by simp [Program.elem,aG]
 have mY:P.elem t=e:=by simp [Program.elem,aG]
 have aw:=run_slice_lhm (P:=P) (w:=w) t A len cap lH k k' dY (lo:Int) (aq:Int) (aq:Int) (by omega) (by omega) (by omega) (by omega);have a1:=aUe (P:=P) (w:=w) t (.slice A len cap) (some (.int k (lo:Int))) (some (.int k' (aq:Int))) (some (.int dY (aq:Int))) lH;rw [mY,hs w] at aw;simp only [execOp,ha.ev hx,ha.ev aL,ha.ev bs,ha.ev hu,Option.map,a1,aw,aRS,aRJ,aRT,sliced,aSy,eF]
end
theorem κ.aJ.chunk {α:Type} {R:κ α} {by_ c:Nat} {A:Option Addr} {l:List α} {w:World} (h:R.aJ by_ w A c l) (lo aq:Nat) (τ:lo<aq) (aa:aq≤l.length):R.aJ by_ w (eF A aq lo R.size) (aq - lo) ((l.drop lo).take (aq - lo)):=by
 have hs:=h.sub lo aq (by omega) aa;have hc:=h.1;have r0:=h.2.1;have e:eF A aq lo R.size=eF A c lo R.size:=by unfold eF;rw [aRL (by omega),aRL (by omega)]
 rw [e];obtain ⟨g1,g2,g3,g4,g5⟩:=hs;refine ⟨by rw [aRE];omega,by omega,g3,λ hn=> ?_,g5⟩;have:=g4 hn;omega
namespace Rd
theorem bF {α:Type} {P:Program} {m n:Nat} {Q:Exit→Act→World→Prop} {w w0:World} {E:List (Nat×Value)} {tt p:Nat} {ty:TypeId} {pos:String} {af:Array Edge} {id:Nat} {body:Code} {g:Operand} {gf:Nat} {lb:List Value} {enc:α→Value} {fz gR:Nat} {S aoF:List α→Prop} {abi:Nat}
  (aK:ev E g=some (.func (.func gf) #[] lb.toArray)) (hf:Enters P gf) (axw:SeqStopsK (j6 none) (m - 1) P gf lb.toArray (λ x=>#[enc x]) (Au fz gR) S aoF abi w0) (bx:fz<w.heap.size) (dL:gR<w.heap.size) (cF:Ext w0 w) (τ:1≤m) (hp:Nat.blt p n=true) (aG:Nat.blt tt n=true)
  (kD:List α→World→Prop) (qO:∀ s W iv S,kD s W→Mod S W iv→(∀ q∈S,w.heap.size≤q∧∀ cur e aB,W.heap[q]? ≠some (.cells cur e aB))→kD s iv) (aH:kD [] w)
  (avJ:∀ (l:Nat) (pre:List α) (x:α) (iv:World),kD pre iv→pre.length<abi→W (some l) (m - 1 - 1) P n body (ownPostG w.heap.size (Au fz gR) kD (λ _ _ _=>False) (pre++ [x]) iv) ((tt,enc x)::(p,enc x)::E) iv)
  (av1:∀ (D:Nat) (xs:List α) (iv:World),w.heap.size≤D→S xs→kD xs iv→Ae iv D→gJ.N (mark D) n Q E iv):
  W none m P n (.rangeFunc g #[p] (.region id #[⟨some tt, .assign (.tmp p),ty,pos,af,none⟩] false) body) Q E w:=λ a ha=>by
 have auZ:∀ {β:Type} (jq:β→World→Prop),(∀ s W iv S,jq s W→Mod S W iv→(∀ q∈S,w.heap.size≤q∧∀ cur e aB,W.heap[q]? ≠some (.cells cur e aB))→jq s iv)→OwnFrom w.heap.size jq:=λ jq zj s X Y row hs C0 hr =>
  zj s X Y row.toList hs (Mod.grown C0) λ q I=>by
   cases row with
   | none=>exact nomatch I
   | some r =>
    obtain rfl:=aRz.1 I;obtain ⟨aX,o,bS,hc⟩:=hr _ rfl;exact ⟨aX,λ cur e aB h=>by rw [h] at bS;injection bS with bS;subst bS;exact nomatch hc⟩
 obtain ⟨fn,WJ,Lm,WK⟩:=hf;obtain ⟨sX,avF⟩:∃ c,fn.body=some c:=by
  cases h:fn.body with
  | none=>rw [h] at WK;simp at WK
  | some c=>exact ⟨c,rfl⟩
 refine wpIn_rangeFunc_ownH (F:=j6 none) Z τ (gf:=gf) (lb:=lb.toArray) (ha.ev aK) trivial (enters_of WJ Lm avF) axw (λ h k=>h.tH k) ?_ cF (λ x=>Z) kD (λ _ _ _=>False) (auZ kD qO) (λ c s A B row hs aK hr=>hs.elim) aH
  (λ x a' _=>er n ((tt,enc x)::(p,enc x)::E) a') (λ x a' s A B row hs aK hr=>hs) ?_ ?_ ?_ ?_
 ·intro iv l o MF az bV _ _;have hm:=Mod.grown (grownBy_putObj' iv l MF);exact ⟨hm.block fz (by have:=(aSa.1 bV).1;omega) (by simp;omega),hm.block gR (by have:=(aSa.1 bV).1;omega) (by simp;omega)⟩
 ·intro l pre x iv K aq hK;have hA:er n ((p,enc x)::E) {tmps:=(#[p].zip #[enc x]).foldl (λ t (p,v)=>t.setIfInBounds p v) a.tmps,defers:= []}:=by
   have:=ha.put hp (enc x);have e:({tmps:=(#[p].zip #[enc x]).foldl (λ t (p,v)=>t.setIfInBounds p v) a.tmps,defers:= []}:Act)=a.put (some p) (enc x):=by
    simp [Act.put,ha.d]
   rw [e];exact this
  have aa:W (some l) (m - 1 - 1) P n (.region id [(⟨some tt, .assign (.tmp p),ty,pos,af,none⟩:Oper)].toArray false) (Exit.then K (λ _ _ _=>False)) ((p,enc x)::E) iv:=by
   refine oL.rg (oL.iA (v:=enc x) (w':=iv) (fg ?_) aG (oL.nl λ a' pW=>hK a' iv (KeepsFrom.refl _ _) ⟨Z,Z⟩ aq pW));show look ((p,enc x)::E) p=_;simp [look]
  exact aa _ hA
 ·intro l pre x a' iv _ _ aq hx hlen;exact avJ l pre x iv aq hlen a' hx
 ·intro D xs iv vZ hS aq hK;have:=av1 D xs iv vZ hS aq hK a ha;have e:({a with defers:= {target:= .collected D,args:=#[]}::a.defers}:Act)=wd (mark D) a:=by simp [wd,mark,ha.d]
  rw [e];exact this
 ·intro D c pre iv _ _ h _;exact h.elim
end Rd
end
end Go.Proofs.YtlikikpgmmkjbaaGreat
