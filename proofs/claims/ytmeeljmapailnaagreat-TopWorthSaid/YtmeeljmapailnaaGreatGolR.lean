import Derived.Test.YtmeeljmapailnaaGreatGra
import Derived.RangeFuncNested
import Derived.OrdersIn
import Derived.LoopNIn
set_option linter.unusedVariables false
set_option linter.unusedSimpArgs false
set_option maxRecDepth 100000
set_option maxHeartbeats 4000000
open Go.RowKit
namespace Go.Proofs.YtmeeljmapailnaaGreat
open Tryz
open Tryz
abbrev aTn:=@List.not_mem_nil
abbrev aT5:=@or_false
abbrev aUu:=@Int.mul_le_mul
abbrev aUQ:=@List.all_eq_false
abbrev aUS:=@Bool.true_and
abbrev aUV:=@Go.Oper.semAt_eq
abbrev aU8:=@Go.IntKind.wrap_i64
abbrev aVg:=@Bool.and_eq_false_iff
abbrev aVl:=@Int.mul_nonneg
abbrev aVx:=@Nat.add_sub_cancel
abbrev aVC:=@List.set_eq_take_append_cons_drop
abbrev aV9:=@Bool.and_false
abbrev aWb:=@Go.wpIn_region_lit

structure ax where
 x:Int
 y:Int
 deriving DecidableEq,Inhabited
namespace ax
def cells (a:ax):List Value:= [.int .i64 (a.x), .int .i64 (a.y)]
def ok (a:ax):Prop:=(Lit.int .i64 a.x).wf=true∧(Lit.int .i64 a.y).wf=true
def raw (j:Nat) (u:Value):Prop:=match j with
 | 0=>∃ n:Int,u= .int .i64 n
 | 1=>∃ n:Int,u= .int .i64 n
 | _=>True
theorem rL (a:ax):∀ (j:Nat) u,a.cells[j]? =some u→raw j u:=by
 intro j u hu
 match j,hu with
 | 0,hu=>exact ⟨_,(aRV hu).symm⟩
 | 1,hu=>exact ⟨_,(aRV hu).symm⟩
 | j+2,hu=>exact trivial
theorem rK (a:ax):∀ u∈a.cells,u.oneCell'=true:=by
 intro u hu;unfold cells at hu;simp only [aSh,aTn,aT5] at hu;rcases hu with rfl | rfl<;>rfl
def rep:τ ax:=τ.flat 2 cells ok raw (λ _=>rfl) rK rL
theorem plain:rep.Plain:=τ.o'
def zero:Value:= .agg #[.int .i64 0, .int .i64 0]
theorem jq:∀ (j:Nat) u,zero.cells[j]? =some u→rep.raw j u:=by
 intro j u hu;have hu:(#[(.int .i64 0:Value),(.int .i64 0:Value)]:Array Value)[j]? =some u:=hu
 match j,hu with
 | 0,hu=>exact ⟨_,(aRV hu).symm⟩
 | 1,hu=>exact ⟨_,(aRV hu).symm⟩
 | j+2,hu=>cases hu
theorem info:(prog.info? 55).map (λ i=>(i.zero,i.size,i.bytes))=some (some zero,2,16):=by kernel_rfl
theorem at_ {by_:Nat} {w:World} {A:Option Addr} {c:Nat} {l:List ax} (h:rep.aJ by_ w A c l) (aG:0<l.length):
  ∃ b o,A=some ⟨b,o,none⟩∧∀ (i:Nat) (a:ax),l[i]? =some a→w.cell? ⟨b,o+i * 2,none⟩=some (.int .i64 (a.x))∧w.cell? ⟨b,o+i * 2+1,none⟩=some (.int .i64 (a.y)):=by
 obtain ⟨b,o,e,hc⟩:=h.at_ aG;refine ⟨b,o,e,λ i a ha=> ?_⟩;obtain ⟨es,⟨rfl,_⟩,az⟩:=hc i a ha;exact ⟨az 0 _ Z,az 1 _ Z⟩
theorem nF {by_:Nat} {w:World} {A:Option Addr} {c:Nat} {l:List ax} (h:rep.aJ by_ w A c l):∀ a∈l,a.ok:=τ.aJ.ze (R:=rep) (Q:=ok) (fun {w cs a} (h:rep.has w cs a)=>(show cs=a.cells∧a.ok from h).2) h
theorem fy {w:World} {g:Nat} {t:TypeId} {aB:Nat×Nat} {a:ax} (h:aP w g a.cells t aB):w.cell? ⟨g,0,none⟩=some (.int .i64 (a.x))∧w.cell? ⟨g,1,none⟩=some (.int .i64 (a.y)):=
 ⟨h.cell 0,h.cell 1⟩
def sh:gQ:=(.cons (.int .i64) (.cons (.int .i64) .nil))
theorem opens (w:World) (cs:List Value) (h:sh.jw w cs):∃ a,rep.has w cs a:=by
 obtain ⟨_,_,rfl,_,_,⟨df,rfl,wm⟩,⟨_,_,rfl,_,_,⟨fY,rfl,dU⟩,rfl⟩⟩:=h;exact ⟨⟨df,fY⟩,Z,wm,dU⟩
end ax
theorem BA {w:World} {cs:List Value} {a:ax} (h:ax.rep.has w cs a):cs=a.cells:=aTW (show cs=a.cells∧a.ok from h)
open Tryz

structure aY where
 id:Int
 owner:Int
 kind:Int
 spot:ax
 cD:Int
 load:Int
 deriving DecidableEq,Inhabited
namespace aY
def cells (a:aY):List Value:= [.int .i64 (a.id), .int .i64 (a.owner), .int .i64 (a.kind), .int .i64 (a.spot.x), .int .i64 (a.spot.y), .int .i64 (a.cD), .int .i64 (a.load)]
def ok (a:aY):Prop:=(Lit.int .i64 a.id).wf=true∧(Lit.int .i64 a.owner).wf=true∧(Lit.int .i64 a.kind).wf=true∧(Lit.int .i64 a.spot.x).wf=true∧(Lit.int .i64 a.spot.y).wf=true∧(Lit.int .i64 a.cD).wf=true∧(Lit.int .i64 a.load).wf=true
def raw (j:Nat) (u:Value):Prop:=match j with
 | 0=>∃ n:Int,u= .int .i64 n
 | 1=>∃ n:Int,u= .int .i64 n
 | 2=>∃ n:Int,u= .int .i64 n
 | 3=>∃ n:Int,u= .int .i64 n
 | 4=>∃ n:Int,u= .int .i64 n
 | 5=>∃ n:Int,u= .int .i64 n
 | 6=>∃ n:Int,u= .int .i64 n
 | _=>True
theorem rL (a:aY):∀ (j:Nat) u,a.cells[j]? =some u→raw j u:=by
 intro j u hu
 match j,hu with
 | 0,hu=>exact ⟨_,(aRV hu).symm⟩
 | 1,hu=>exact ⟨_,(aRV hu).symm⟩
 | 2,hu=>exact ⟨_,(aRV hu).symm⟩
 | 3,hu=>exact ⟨_,(aRV hu).symm⟩
 | 4,hu=>exact ⟨_,(aRV hu).symm⟩
 | 5,hu=>exact ⟨_,(aRV hu).symm⟩
 | 6,hu=>exact ⟨_,(aRV hu).symm⟩
 | j+7,hu=>exact trivial
theorem rK (a:aY):∀ u∈a.cells,u.oneCell'=true:=by
 intro u hu;unfold cells at hu;simp only [aSh,aTn,aT5] at hu;rcases hu with rfl | rfl | rfl | rfl | rfl | rfl | rfl<;>rfl
def rep:τ aY:=τ.flat 7 cells ok raw (λ _=>rfl) rK rL
theorem plain:rep.Plain:=τ.o'
def zero:Value:= .agg #[.int .i64 0, .int .i64 0, .int .i64 0, .int .i64 0, .int .i64 0, .int .i64 0, .int .i64 0]
theorem jq:∀ (j:Nat) u,zero.cells[j]? =some u→rep.raw j u:=by
 intro j u hu;have hu:(#[(.int .i64 0:Value),(.int .i64 0:Value),(.int .i64 0:Value),(.int .i64 0:Value),(.int .i64 0:Value),(.int .i64 0:Value),(.int .i64 0:Value)]:Array Value)[j]? =some u:=hu
 match j,hu with
 | 0,hu=>exact ⟨_,(aRV hu).symm⟩
 | 1,hu=>exact ⟨_,(aRV hu).symm⟩
 | 2,hu=>exact ⟨_,(aRV hu).symm⟩
 | 3,hu=>exact ⟨_,(aRV hu).symm⟩
 | 4,hu=>exact ⟨_,(aRV hu).symm⟩
 | 5,hu=>exact ⟨_,(aRV hu).symm⟩
 | 6,hu=>exact ⟨_,(aRV hu).symm⟩
 | j+7,hu=>cases hu
theorem info:(prog.info? 57).map (λ i=>(i.zero,i.size,i.bytes))=some (some zero,7,56):=by kernel_rfl
theorem at_ {by_:Nat} {w:World} {A:Option Addr} {c:Nat} {l:List aY} (h:rep.aJ by_ w A c l) (aG:0<l.length):
  ∃ b o,A=some ⟨b,o,none⟩∧∀ (i:Nat) (a:aY),l[i]? =some a→w.cell? ⟨b,o+i * 7,none⟩=some (.int .i64 (a.id))∧w.cell? ⟨b,o+i * 7+1,none⟩=some (.int .i64 (a.owner))∧w.cell? ⟨b,o+i * 7+2,none⟩=some (.int .i64 (a.kind))∧w.cell? ⟨b,o+i * 7+3,none⟩=some (.int .i64 (a.spot.x))∧w.cell? ⟨b,o+i * 7+4,none⟩=some (.int .i64 (a.spot.y))∧w.cell? ⟨b,o+i * 7+5,none⟩=some (.int .i64 (a.cD))∧w.cell? ⟨b,o+i * 7+6,none⟩=some (.int .i64 (a.load)):=by
 obtain ⟨b,o,e,hc⟩:=h.at_ aG;refine ⟨b,o,e,λ i a ha=> ?_⟩;obtain ⟨es,⟨rfl,_⟩,az⟩:=hc i a ha;exact ⟨az 0 _ Z,az 1 _ Z,az 2 _ Z,az 3 _ Z,az 4 _ Z,az 5 _ Z,az 6 _ Z⟩
theorem nF {by_:Nat} {w:World} {A:Option Addr} {c:Nat} {l:List aY} (h:rep.aJ by_ w A c l):∀ a∈l,a.ok:=τ.aJ.ze (R:=rep) (Q:=ok) (fun {w cs a} (h:rep.has w cs a)=>(show cs=a.cells∧a.ok from h).2) h
theorem fy {w:World} {g:Nat} {t:TypeId} {aB:Nat×Nat} {a:aY} (h:aP w g a.cells t aB):w.cell? ⟨g,0,none⟩=some (.int .i64 (a.id))∧w.cell? ⟨g,1,none⟩=some (.int .i64 (a.owner))∧w.cell? ⟨g,2,none⟩=some (.int .i64 (a.kind))∧w.cell? ⟨g,3,none⟩=some (.int .i64 (a.spot.x))∧w.cell? ⟨g,4,none⟩=some (.int .i64 (a.spot.y))∧w.cell? ⟨g,5,none⟩=some (.int .i64 (a.cD))∧w.cell? ⟨g,6,none⟩=some (.int .i64 (a.load)):=
 ⟨h.cell 0,h.cell 1,h.cell 2,h.cell 3,h.cell 4,h.cell 5,h.cell 6⟩
def sh:gQ:=(.cons (.int .i64) (.cons (.int .i64) (.cons (.int .i64) (.cons (.cons (.int .i64) (.cons (.int .i64) .nil)) (.cons (.int .i64) (.cons (.int .i64) .nil))))))
theorem opens (w:World) (cs:List Value) (h:sh.jw w cs):∃ a,rep.has w cs a:=by
 obtain ⟨_,_,rfl,_,_,⟨df,rfl,wm⟩,⟨_,_,rfl,_,_,⟨fY,rfl,dU⟩,⟨_,_,rfl,_,_,⟨fb,rfl,ez⟩,⟨_,_,rfl,_,_,⟨_,_,rfl,_,_,⟨jm,rfl,k7⟩,⟨_,_,rfl,_,_,⟨qv,rfl,XZ⟩,rfl⟩⟩,⟨_,_,rfl,_,_,⟨pE,rfl,X0⟩,⟨_,_,rfl,_,_,⟨qw,rfl,X1⟩,rfl⟩⟩⟩⟩⟩⟩:=h;exact ⟨⟨df,fY,fb,⟨jm,qv⟩,pE,qw⟩,Z,wm,dU,ez,k7,XZ,X0,X1⟩
end aY
theorem j0 {w:World} {cs:List Value} {a:aY} (h:aY.rep.has w cs a):cs=a.cells:=aTW (show cs=a.cells∧a.ok from h)
open Tryz

structure aE where
 wide:Int
 high:Int
 aW:List Int
 deriving DecidableEq,Inhabited
structure ae where
 field:aE
 aV:List ax
 ba:List Int
 bk:List Int
 ak:List aY
 next:Int
 now:Int
 deriving DecidableEq,Inhabited
namespace aE
def R1 (p:Int):Bool:=cN p 0 3
def bm (f:aE):Int :=
 if cN f.wide 1 40 && cN f.high 1 40 then (if decide ((f.aW.length:Int)=f.wide * f.high) && f.aW.all R1 then 0 else 4) else 1
def fq (f:aE) (c:ax):Bool:=cN c.x 0 (f.wide - 1) && cN c.y 0 (f.high - 1)
def place (f:aE) (c:ax):Int:=f.aW.getD (c.y * f.wide+c.x).toNat 0
def ground (f:aE) (c:ax):Bool:=f.fq c && f.place c != 1
theorem jY {f:aE} (h:f.bm=0):1≤f.wide∧f.wide≤40∧1≤f.high∧f.high≤40∧(f.aW.length:Int)=f.wide * f.high∧∀ p∈f.aW,0≤p∧p≤3:=by
 unfold bm at h;split at h
 ·rename_i κ
  rw [aR2] at κ;have a:=k6 κ.1;have b:=k6 κ.2;split at h
  ·rename_i ab
   rw [aR2,aSO] at ab;exact ⟨a.1,a.2,b.1,b.2,by simpa using ab.1,λ p hp=>k6 (ab.2 p hp)⟩
  ·cases h
 ·cases h
theorem adv {f:aE} (h:(cN f.wide 1 40 && cN f.high 1 40)=false):f.bm=1:=by unfold bm;rw [h];rfl
theorem idx {f:aE} (h:f.bm=0) {c:ax} (hc:f.fq c=true):0≤c.y * f.wide+c.x∧c.y * f.wide+c.x<(f.aW.length:Int)∧0≤c.x∧c.x<f.wide∧0≤c.y∧c.y<f.high:=by
 obtain ⟨g1,g2,g3,g4,g5,_⟩:=jY h;unfold fq at hc;rw [aR2] at hc;have a:=k6 hc.1;have b:=k6 hc.2;have aZ:0≤c.y * f.wide:=aVl b.1 (by omega);have bh:c.y * f.wide≤(f.high - 1) * f.wide:=Int.mul_le_mul_of_nonneg_right b.2 (by omega);have cF:(f.high - 1) * f.wide=f.wide * f.high - f.wide:=by rw [Int.sub_mul,Int.one_mul,Int.mul_comm]
 rw [g5];omega
theorem eE {f:aE} (h:f.bm=0):f.aW.length≤1600:=by
 obtain ⟨g1,g2,g3,g4,g5,_⟩:=jY h;have bh:f.wide * f.high≤40 * 40:=aUu g2 g4 (by omega) (by omega);omega
end aE
namespace aE
def dJ (f:aE) (c:ax):Int:=if f.bm≠0 then f.bm else if f.fq c then 0 else 7
def nG (f:aE) (c:ax):Int:=if f.bm≠0 then 0 else if f.fq c then f.place c else 0
theorem Uv {f:aE} {c:ax} (h:f.bm≠0):f.dJ c=f.bm∧f.nG c=0:=by unfold dJ nG;rw [aR8 h,aR8 h];exact ⟨Z,Z⟩
theorem KE {f:aE} {c:ax} (h:f.bm=0) (ab:f.fq c=false):f.dJ c=7∧f.nG c=0:=by unfold dJ nG;simp [h,ab]
theorem m2 {f:aE} {c:ax} (h:f.bm=0) (ab:f.fq c=true):f.dJ c=0∧f.nG c=f.place c:=by unfold dJ nG;simp [h,ab]
theorem ayG {f:aE} {c:ax} (h:c.x<0∨f.wide≤c.x∨c.y<0∨f.high≤c.y):f.fq c=false:=by
 unfold fq;rcases h with h | h | h | h
 ·rw [qc (.inl h)];rfl
 ·rw [qc (n:=c.x) (.inr (by omega))];rfl
 ·rw [qc (n:=c.y) (.inl h),aV9]
 ·rw [qc (n:=c.y) (.inr (by omega)),aV9]
theorem ayF {f:aE} {c:ax} (κ:0≤c.x) (ab:c.x<f.wide) (aw:0≤c.y) (a6:c.y<f.high):f.fq c=true:=by
 unfold fq;rw [pj κ (by omega),pj aw (by omega)];rfl
end aE
def aLT (k:Int):Option (Int×Int×Int×Int):=if k=1 then some (10,1,1,5) else if k=2 then some (20,2,4,12) else none
namespace ae
def yg (W:ae) (i:Nat):Bool:=W.field.ground (W.aV.getD i default) && !(W.aV.take i).contains (W.aV.getD i default) && cN (W.ba.getD i 0) 0 1000000
def oJ (W:ae):Bool:=decide (W.ba.length=W.aV.length) && (List.range W.aV.length).all W.yg
def yh (W:ae) (i:Nat):Bool:=cN (W.bk.getD i 0) 0 1000000 && (decide (W.bk.getD i 0≤0) || W.field.aW.getD i 0 == 3)
def px (W:ae):Bool:=decide (W.bk.length=W.field.aW.length) && (List.range W.bk.length).all W.yh
def kd (W:ae) (i:Nat):Int:=if i=0 then 0 else (W.ak.getD (i - 1) default).id
def jB (k:Int):Int:=if k=1 then 10 else if k=2 then 20 else 0
def yf (k:Int):Int:=if k=1 then 5 else 0
def Ng (W:ae) (cQ Gq:Int) (t:aY):Bool :=
 cN t.kind 1 2 && cN t.id cQ Gq && cN t.owner 0 ((W.aV.length:Int) - 1) && W.field.ground t.spot && cN t.cD 1 (jB t.kind) && cN t.load 0 (yf t.kind)
def jE (W:ae) (k:Nat):List ax:=(W.ak.take k).map (·.spot)
def yi (W:ae) (i:Nat):Bool:=W.Ng (wrap64 (W.kd i+1)) (wrap64 (W.next - 1)) (W.ak.getD i default) && !(W.jE i).contains (W.ak.getD i default).spot
def kO (W:ae):Bool:=(List.range W.ak.length).all W.yi && (cN W.next 1 1000000 && cN W.now 0 1000000)
def bm (W:ae):Int :=
 if W.field.bm≠0 then W.field.bm else if 8<W.aV.length∨100<W.ak.length then 2 else if W.oJ && W.px && W.kO then 0 else 4
structure b2 where
 P:Option Addr
 B:Option Addr
 S:Option Addr
 M:Option Addr
 T:Option Addr
 p:Nat
 b:Nat
 s:Nat
 m:Nat
 t:Nat
def HW (A:Option Addr) (c:Nat) (f:aE):List Value:= [.int .i64 f.wide, .int .i64 f.high, .slice A f.aW.length c]
def cells (h:b2) (W:ae):List Value :=
 [.int .i64 W.field.wide, .int .i64 W.field.high, .slice h.P W.field.aW.length h.p, .slice h.B W.aV.length h.b, .slice h.S W.ba.length h.s, .slice h.M W.bk.length h.m, .slice h.T W.ak.length h.t, .int .i64 W.next, .int .i64 W.now]
theorem aq1 (h:b2) (W:ae):(cells h W).toArray=#[.int .i64 W.field.wide, .int .i64 W.field.high, .slice h.P W.field.aW.length h.p, .slice h.B W.aV.length h.b, .slice h.S W.ba.length h.s, .slice h.M W.bk.length h.m, .slice h.T W.ak.length h.t, .int .i64 W.next, .int .i64 W.now]:=rfl
structure Has (w:World) (h:b2) (W:ae):Prop where
 P:bQ.aJ 8 w h.P h.p W.field.aW
 B:ax.rep.aJ 16 w h.B h.b W.aV
 S:bQ.aJ 8 w h.S h.s W.ba
 M:bQ.aJ 8 w h.M h.m W.bk
 T:aY.rep.aJ 56 w h.T h.t W.ak
 nums:fQ W.field.wide∧fQ W.field.high∧fQ W.next∧fQ W.now
theorem Has.keep {w w':World} {h:b2} {W:ae} (hw:Has w h W) (Φ:Below w.heap.size w w'):Has w' h W :=
 ⟨hw.P.keep Φ,hw.B.keep Φ,hw.S.keep Φ,hw.M.keep Φ,hw.T.keep Φ,hw.nums⟩
def auP:gQ:= .cons (.int .i64) (.cons (.int .i64) (.cons (.slice (.int .i64) 8) .nil))
def sh:gQ:= .cons auP (.cons (.slice ax.sh 16) (.cons (.slice (.int .i64) 8) (.cons (.slice (.int .i64) 8) (.cons (.slice aY.sh 56) (.cons (.int .i64) (.cons (.int .i64) .nil))))))
theorem opens (w:World) (cs:List Value) (h:sh.jw w cs):∃ h W,cs=cells h W∧Has w h W:=by
 obtain ⟨_,_,rfl,_,_,⟨_,_,rfl,_,_,⟨df,rfl,wm⟩,_,_,rfl,_,_,⟨fY,rfl,dU⟩,_,_,rfl,_,_,cj,rfl⟩,_,_,rfl,_,_,bf,_,_,rfl,_,_,hS,_,_,rfl,_,_,m6,_,_,rfl,_,_,b6,_,_,rfl,_,_,⟨fb,rfl,ez⟩,_,_,rfl,_,_,⟨jm,rfl,k7⟩,rfl⟩:=h;obtain ⟨eT,aqv,lP,rfl,AS⟩:=τ.I2 (R:=bQ) Zb rfl (by decide) cj;obtain ⟨gj,UQ,X8,rfl,aN⟩:=τ.I2 (R:=ax.rep) ax.opens rfl (by decide) bf;obtain ⟨gl,aqw,ay2,rfl,fv⟩:=τ.I2 (R:=bQ) Zb rfl (by decide) hS;obtain ⟨fE,aqu,ajk,rfl,lv⟩:=τ.I2 (R:=bQ) Zb rfl (by decide) m6;obtain ⟨eZ,fi,uJ,rfl,rB⟩:=τ.I2 (R:=aY.rep) aY.opens rfl (by decide) b6;exact ⟨⟨eT,gj,gl,fE,eZ,aqv,UQ,aqw,aqu,fi⟩,⟨⟨df,fY,lP⟩,X8,ay2,ajk,uJ,fb,jm⟩,Z,AS,aN,fv,lv,rB,wm,dU,ez,k7⟩
theorem afd {w:World} {g:Nat} {t:TypeId} {aB:Nat×Nat} {A:Option Addr} {c:Nat} {f:aE} (h:aP w g (HW A c f) t aB):
  w.cell? ⟨g,0,none⟩=some (.int .i64 f.wide)∧w.cell? ⟨g,1,none⟩=some (.int .i64 f.high)∧w.cell? ⟨g,2,none⟩=some (.slice A f.aW.length c):=⟨h.cell 0,h.cell 1,h.cell 2⟩
theorem tO {w:World} {g:Nat} {t:TypeId} {aB:Nat×Nat} {a:b2} {W:ae} (h:aP w g (cells a W) t aB):
  w.cell? ⟨g,0,none⟩=some (.int .i64 W.field.wide)∧w.cell? ⟨g,1,none⟩=some (.int .i64 W.field.high)∧w.cell? ⟨g,2,none⟩=some (.slice a.P W.field.aW.length a.p)∧
  w.cell? ⟨g,3,none⟩=some (.slice a.B W.aV.length a.b)∧w.cell? ⟨g,4,none⟩=some (.slice a.S W.ba.length a.s)∧w.cell? ⟨g,5,none⟩=some (.slice a.M W.bk.length a.m)∧w.cell? ⟨g,6,none⟩=some (.slice a.T W.ak.length a.t)∧
  w.cell? ⟨g,7,none⟩=some (.int .i64 W.next)∧w.cell? ⟨g,8,none⟩=some (.int .i64 W.now):=⟨h.cell 0,h.cell 1,h.cell 2,h.cell 3,h.cell 4,h.cell 5,h.cell 6,h.cell 7,h.cell 8⟩
end ae
open Tryz

theorem aE.ky {f:aE} {c:ax} (h:f.ground c=true):f.fq c=true:=by
 unfold aE.ground at h;rw [aR2] at h;exact h.1
namespace ae
theorem adt {W:ae} (h:W.field.bm≠0):W.bm=W.field.bm:=by unfold bm;rw [aR8 h]
theorem adu {W:ae} (h:W.field.bm=0) (ab:8<W.aV.length∨100<W.ak.length):W.bm=2:=by unfold bm;rw [aR5 (by simpa using h),aR8 ab]
theorem UY {W:ae} (h:W.field.bm=0) (ab:¬ (8<W.aV.length∨100<W.ak.length)):W.bm=if W.oJ && W.px && W.kO then 0 else 4:=by unfold bm;rw [aR5 (by simpa using h),aR5 ab]
end ae
theorem ae.aBx {W:ae} (h:¬ W.ba.length=W.aV.length):W.oJ=false:=by unfold ae.oJ;rw [aSF h];rfl
theorem ae.YW {W:ae} {k:Nat} (ar:k<W.aV.length) (h:W.yg k=false):W.oJ=false:=by
 unfold ae.oJ;rw [aVg];right;rw [aUQ];exact ⟨k,aSC.2 ar,by rw [h];simp⟩
theorem ae.akL {W:ae} (h:W.ba.length=W.aV.length) (ha:∀ k,k<W.aV.length→W.yg k=true):W.oJ=true:=by
 unfold ae.oJ;rw [aSw h,aUS,aSO];exact λ k ar=>ha k (aSC.1 ar)
theorem ae.aAc {W:ae} (h:¬ W.bk.length=W.field.aW.length):W.px=false:=by unfold ae.px;rw [aSF h];rfl
theorem ae.aka {W:ae} {k:Nat} (ar:k<W.bk.length) (h:W.yh k=false):W.px=false:=by
 unfold ae.px;rw [aVg];right;rw [aUQ];exact ⟨k,aSC.2 ar,by rw [h];simp⟩
theorem ae.akb {W:ae} (h:W.bk.length=W.field.aW.length) (ha:∀ k,k<W.bk.length→W.yh k=true):W.px=true:=by
 unfold ae.px;rw [aSw h,aUS,aSO];exact λ k ar=>ha k (aSC.1 ar)
theorem ae.uV {W:ae} {k:Nat} (ar:k<W.ak.length) (h:W.yi k=false):W.kO=false:=by
 unfold ae.kO;rw [aVg];left;rw [aUQ];exact ⟨k,aSC.2 ar,by rw [h];simp⟩
def hz (id:Int) (t:aY):Bool:=t.id == id
def q1 (p:ax) (t:aY):Bool:=decide (t.spot=p)
def aFi (W:ae) (p:aY→Bool):Int:=if W.bm=0 then max (gx p W.ak) 0 else 0
def am7 (W:ae) (p:aY→Bool):Bool:=decide (W.bm=0) && decide (0≤gx p W.ak)
def aAr (c:ax) (r:Int) (t:aY):Bool:=cN c.x (t.spot.x - r) (t.spot.x+r) && cN c.y (t.spot.y - r) (t.spot.y+r)
def aOc (W:ae) (c:ax) (r:Int):List Int:=(W.ak.filter (aAr c r)).map (·.id)
def aOb (W:ae) (r:Int):Int:=if W.bm≠0 then W.bm else if cN r 0 12 then 0 else 1
theorem Wc {W:ae} (h:W.bm=0):W.field.bm=0∧W.aV.length≤8∧W.ak.length≤100∧W.oJ=true∧W.px=true∧W.kO=true:=by
 by_cases κ:W.field.bm=0
 ·by_cases ab:8<W.aV.length∨100<W.ak.length
  ·rw [ae.adu κ ab] at h;cases h
  ·rw [ae.UY κ ab] at h;split at h
   ·rename_i aw
    rw [aR2,aR2] at aw;exact ⟨κ,by omega,by omega,aw.1.1,aw.1.2,aw.2⟩
   ·cases h
 ·rw [ae.adt κ] at h;exact absurd h κ
theorem Qv {W:ae} (h:W.bm=0) {k:Nat} {t:aY} (aC:W.ak[k]? =some t):W.field.ground t.spot=true∧cN t.kind 1 2=true∧cN t.owner 0 ((W.aV.length:Int) - 1)=true∧cN t.cD 1 (ae.jB t.kind)=true∧cN t.load 0 (ae.yf t.kind)=true∧(W.jE k).contains t.spot=false∧cN t.id (wrap64 (W.kd k+1)) (wrap64 (W.next - 1))=true:=by
 obtain ⟨aG,_,_,_,_,ch⟩:=Wc h;unfold ae.kO at ch;rw [aR2,aSO] at ch;have ar:=(aRW.1 aC).1;have dZ:=ch.1 k (aSC.2 ar);unfold ae.yi ae.Ng at dZ;rw [aRU,aC] at dZ;simp only [aS2,aR2,aTf] at dZ;obtain ⟨⟨⟨⟨⟨⟨ck,a2⟩,a3⟩,a4⟩,a5⟩,KB⟩,Pd⟩:=dZ;exact ⟨a4,ck,a3,a5,KB,Pd,a2⟩
open Tryz

theorem akd {W:ae} (h:W.bm=0):1≤W.next∧W.next≤1000000∧0≤W.now∧W.now≤1000000:=by
 obtain ⟨_,_,_,_,_,ch⟩:=Wc h;unfold ae.kO at ch;rw [aR2,aR2] at ch;have a:=k6 ch.2.1;have b:=k6 ch.2.2;exact ⟨a.1,a.2,b.1,b.2⟩
theorem wrap_small {x:Int} (κ: -1000≤x) (ab:x≤2000000):wrap64 x=x:=by
 have h:=aU8 x;unfold wrap64;first | (rw [h];omega) | omega
theorem ayi {W:ae} (h:W.bm=0):∀ (k:Nat) (t:aY),W.ak[k]? =some t→W.kd k<t.id∧t.id<W.next∧0≤W.kd k:=by
 obtain ⟨B4,ss,_,_⟩:=akd h;intro k;induction k with
 | zero =>
  intro t aC;have dZ:=k6 (Qv h aC).2.2.2.2.2.2;have e:W.kd 0=0:=rfl;rw [e] at dZ ⊢;rw [wrap_small (by omega) (by omega),wrap_small (by omega) (by omega)] at dZ;omega
 | succ k bx =>
  intro t aC;have bz:=(aRW.1 aC).1;obtain ⟨u,hu⟩:=iM (l:=W.ak) (i:=k) (by omega);have gh:=bx u hu;have dZ:=k6 (Qv h aC).2.2.2.2.2.2;have e:W.kd (k+1)=u.id:=by
   unfold ae.kd;rw [aR5 (by omega),aRU,aVx,hu];rfl
  rw [e] at dZ ⊢;rw [wrap_small (by omega) (by omega),wrap_small (by omega) (by omega)] at dZ;omega
open Tryz
structure Pb (f:aE) (kg:Nat) (t:aY):Prop where
 kind:t.kind=1∨t.kind=2
 owner:0≤t.owner∧t.owner<(kg:Int)
 ground:f.ground t.spot=true
 cD:1≤t.cD∧t.cD≤ae.jB t.kind
 load:0≤t.load∧t.load≤ae.yf t.kind
structure Good (W:ae):Prop where
 field:W.field.bm=0
 kg:W.aV.length≤8
 dV:W.ak.length≤100
 sl:W.ba.length=W.aV.length
 aV:∀ (i:Nat) c,W.aV[i]? =some c→W.field.ground c=true∧(W.aV.take i).contains c=false
 ba:∀ (i:Nat) s,W.ba[i]? =some s→0≤s∧s≤1000000
 tD:W.bk.length=W.field.aW.length
 bk:∀ (i:Nat) m,W.bk[i]? =some m→0≤m∧m≤1000000∧(m≤0∨W.field.aW.getD i 0=3)
 ak:∀ (i:Nat) t,W.ak[i]? =some t→Pb W.field W.aV.length t
 ids:∀ (i:Nat) t,W.ak[i]? =some t→W.kd i<t.id∧t.id<W.next∧0≤W.kd i
 jE:∀ (i:Nat) t,W.ak[i]? =some t→(W.jE i).contains t.spot=false
 next:1≤W.next∧W.next≤1000000
 now:0≤W.now∧W.now≤1000000
theorem Good.q_ {W:ae} (h:W.bm=0):Good W:=by
 obtain ⟨aG,gh,xL,hp,hm,aC⟩:=Wc h;obtain ⟨B4,ss,qk,su⟩:=akd h;unfold ae.oJ at hp;unfold ae.px at hm;rw [aR2,aSO] at hp hm;have tj:W.ba.length=W.aV.length:=by simpa using hp.1
 have F3:W.bk.length=W.field.aW.length:=by simpa using hm.1
 refine ⟨aG,gh,xL,tj,λ i c hc=> ?_,λ i s hs=> ?_,F3,λ i m aq=> ?_,λ i t aq=> ?_,λ i t aq=>ayi h i t aq,λ i t aq=>(Qv h aq).2.2.2.2.2.1,⟨B4,ss⟩,⟨qk,su⟩⟩
 ·have bz:=(aRW.1 hc).1;have:=hp.2 i (aSC.2 bz);unfold ae.yg at this;rw [aRU,hc] at this;simp only [aS2,aR2,aTf] at this;exact ⟨this.1.1,this.1.2⟩
 ·have bz:=(aRW.1 hs).1;have:=hp.2 i (aSC.2 (by omega));unfold ae.yg at this;rw [aR2] at this;have ab:=k6 this.2;rw [aRU,hs] at ab;exact ab
 ·have bz:=(aRW.1 aq).1;have:=hm.2 i (aSC.2 bz);unfold ae.yh at this;rw [aRU,aq,aR2,aSL] at this;have ab:=k6 this.1;refine ⟨ab.1,ab.2, ?_⟩;rcases this.2 with aw | aw
  ·exact .inl (by simpa using aw)
  ·exact .inr (by simpa using aw)
 ·obtain ⟨ck,a2,a3,a4,a5,_,_⟩:=Qv h aq;have f_:=k6 a2;have gR:=k6 a3;have zg:=k6 a4;have Fm:=k6 a5;exact ⟨by omega,⟨gR.1,by omega⟩,ck,zg,Fm⟩
theorem Good.bm {W:ae} (h:Good W):W.bm=0:=by
 have hp:W.oJ=true:=ae.akL h.sl λ k ar=>by
  obtain ⟨c,hc⟩:=iM ar;obtain ⟨s,hs⟩:=iM (l:=W.ba) (i:=k) (by rw [h.sl];exact ar);unfold ae.yg;rw [aRU,hc,aRU,hs];have κ:=h.aV k c hc;have ab:=h.ba k s hs;simp only [aS2];rw [κ.1,κ.2,pj ab.1 ab.2];rfl
 have hm:W.px=true:=ae.akb h.tD λ k ar=>by
  obtain ⟨m,hm⟩:=iM ar;have κ:=h.bk k m hm;unfold ae.yh;rw [aRU,hm];simp only [aS2];rw [pj κ.1 κ.2.1,aUS,aSL];rcases κ.2.2 with aw | aw
  ·exact .inl (by simpa using aw)
  ·exact .inr (by simpa using aw)
 have aC:W.kO=true:=by
  unfold ae.kO;rw [pj h.next.1 h.next.2,pj h.now.1 h.now.2,Bool.and_true,Bool.and_true,aSO];intro k ar;obtain ⟨t,aC⟩:=iM (aSC.1 ar);have κ:=h.ak k t aC;have ab:=h.ids k t aC;have aw:=h.jE k t aC;have hn:=h.next;unfold ae.yi ae.Ng;rw [aRU,aC];simp only [aS2];have dU:cN t.kind 1 2=true:=by
   rcases κ.kind with h | h
   ·exact pj (by omega) (by omega)
   ·exact pj (by omega) (by omega)
  have ez:cN t.id (W.kd k+1) (W.next - 1)=true:=pj (by omega) (by omega);have k7:cN t.owner 0 ((W.aV.length:Int) - 1)=true:=pj κ.owner.1 (by have:=κ.owner.2;omega);rw [wrap_small (by omega) (by omega),wrap_small (by omega) (by omega),dU,ez,k7,aw,κ.ground,pj κ.cD.1 κ.cD.2,pj κ.load.1 κ.load.2];rfl
 rw [ae.UY h.field (by have:=h.kg;have:=h.dV;omega),hp,hm,aC];rfl
open Tryz
structure bo (w:World) (aD:Nat) (a:ae.b2) (W:ae):Prop where
 P:bQ.aF 3 8 w aD (τ.ah a.P) a.P a.p W.field.aW
 B:ax.rep.aF 55 16 w aD (τ.ah a.B) a.B a.b W.aV
 S:bQ.aF 3 8 w aD (τ.ah a.S) a.S a.s W.ba
 M:bQ.aF 3 8 w aD (τ.ah a.M) a.M a.m W.bk
 T:aY.rep.aF 57 56 w aD (τ.ah a.T) a.T a.t W.ak
 apart:(τ.ah a.P++τ.ah a.B++τ.ah a.S++τ.ah a.M++τ.ah a.T).Nodup
 nums:fQ W.field.wide∧fQ W.field.high∧fQ W.next∧fQ W.now
theorem bo.has {w:World} {B:Nat} {a:ae.b2} {W:ae} (h:bo w B a W):ae.Has w a W:=⟨h.P.has,h.B.has,h.S.has,h.M.has,h.T.has,h.nums⟩
theorem bo.later {w w':World} {B:Nat} {a:ae.b2} {W:ae} (h:bo w B a W) (Φ:Below w.heap.size w w'):bo w' B a W:=⟨h.P.later Φ,h.B.later Φ,h.S.later Φ,h.M.later Φ,h.T.later Φ,h.apart,h.nums⟩
def bo.bS (a:ae.b2):List Nat:=τ.ah a.P++τ.ah a.B++τ.ah a.S++τ.ah a.M++τ.ah a.T
theorem bo.lt {w:World} {B:Nat} {a:ae.b2} {W:ae} (h:bo w B a W):∀ g∈bo.bS a,B≤g∧g<w.heap.size:=by
 intro g aO;unfold bo.bS at aO;simp only [aSb] at aO;rcases aO with (((aO | aO) | aO) | aO) | aO
 ·exact h.P.lt g aO
 ·exact h.B.lt g aO
 ·exact h.S.lt g aO
 ·exact h.M.lt g aO
 ·exact h.T.lt g aO
theorem bo.other {w:World} {B:Nat} {a:ae.b2} {W:ae} (h:bo w B a W) {p:Addr} (hp:p.block∉bo.bS a) (u:Value):bo (w.setCell p u) B a W:=by
 unfold bo.bS at hp;simp only [aSb,not_or] at hp;exact ⟨h.P.other hp.1.1.1.1 u,h.B.other hp.1.1.1.2 u,h.S.other hp.1.1.2 u,h.M.other hp.1.2 u,h.T.other hp.2 u,h.apart,h.nums⟩
theorem I0 {w:World} {B:Nat} {A:Option Addr} {α:Type} {R:τ α} {E by_ c:Nat} {l:List α} (h:R.aF E by_ w B (τ.ah A) A c l) {g:Nat} (aO:g<B):g∉τ.ah A:=λ hm=>by have:=h.lt g hm;omega
theorem Eu {w:World} {g:Nat} {df fY fb jm qv pE qw rj pF:Value} {t:TypeId} {aB:Nat×Nat} (h:aP w g [df,fY,fb,jm,qv,pE,qw,rj,pF] t aB):w.cell? ⟨g,0,none⟩=some df∧w.cell? ⟨g,1,none⟩=some fY∧w.cell? ⟨g,2,none⟩=some fb∧w.cell? ⟨g,3,none⟩=some jm∧w.cell? ⟨g,4,none⟩=some qv∧w.cell? ⟨g,5,none⟩=some pE∧w.cell? ⟨g,6,none⟩=some qw∧w.cell? ⟨g,7,none⟩=some rj∧w.cell? ⟨g,8,none⟩=some pF :=
 ⟨h.cell 0,h.cell 1,h.cell 2,h.cell 3,h.cell 4,h.cell 5,h.cell 6,h.cell 7,h.cell 8⟩
theorem Ph {eu kc:List Nat} {n m:Nat} (κ:eu.Nodup∧∀ g∈eu,g<n) (ab:kc.Nodup) (aw:∀ g∈kc,n≤g∧g<m) (aK5:n≤m):(eu++kc).Nodup∧∀ g∈eu++kc,g<m:=by
 refine ⟨aSN.2 ⟨κ.1,ab,λ a ha b Φ e=> ?_⟩,λ g aO=> ?_⟩
 ·have:=κ.2 a ha;have:=(aw b Φ).1;omega
 ·rcases aSb.1 aO with aO | aO
  ·have:=κ.2 g aO;omega
  ·exact (aw g aO).2
theorem vG (A:Option Addr):(τ.ah A).Nodup:=by cases A<;>simp [τ.ah]
theorem aAt {w:World} {g:Nat} {z0 lp z2 z3 z4 z5 aFL aFM aFN:Value} {t:TypeId} {aB:Nat×Nat} (h:aP w g [z0,lp,z2,z3,z4,z5,aFL,aFM,aFN] t aB) (df fY fb jm qv pE qw rj pF:Value):aP (((((((((w.setCell ⟨g,0,none⟩ df).setCell ⟨g,1,none⟩ fY).setCell ⟨g,2,none⟩ fb).setCell ⟨g,3,none⟩ jm).setCell ⟨g,4,none⟩ qv).setCell ⟨g,5,none⟩ pE).setCell ⟨g,6,none⟩ qw).setCell ⟨g,7,none⟩ rj).setCell ⟨g,8,none⟩ pF) g [df,fY,fb,jm,qv,pE,qw,rj,pF] t aB :=
 (((((((((h.set 0 df).set 1 fY).set 2 fb).set 3 jm).set 4 qv).set 5 pE).set 6 qw).set 7 rj).set 8 pF)
theorem bo.nine {w:World} {aD:Nat} {a:ae.b2} {W:ae} {g:Nat} (h:bo w aD a W) (aO:g∉bo.bS a) (df fY fb jm qv pE qw rj pF:Value):bo (((((((((w.setCell ⟨g,0,none⟩ df).setCell ⟨g,1,none⟩ fY).setCell ⟨g,2,none⟩ fb).setCell ⟨g,3,none⟩ jm).setCell ⟨g,4,none⟩ qv).setCell ⟨g,5,none⟩ pE).setCell ⟨g,6,none⟩ qw).setCell ⟨g,7,none⟩ rj).setCell ⟨g,8,none⟩ pF) aD a W :=
 (((((((((h.other (p:=⟨g,0,none⟩) aO df).other (p:=⟨g,1,none⟩) aO fY).other (p:=⟨g,2,none⟩) aO fb).other (p:=⟨g,3,none⟩) aO jm).other (p:=⟨g,4,none⟩) aO qv).other (p:=⟨g,5,none⟩) aO pE).other (p:=⟨g,6,none⟩) aO qw).other (p:=⟨g,7,none⟩) aO rj).other (p:=⟨g,8,none⟩) aO pF)
theorem ap9 {w0 w:World} {aD g:Nat} (h:Below aD w0 w) (aO:aD≤g) (df fY fb jm qv pE qw rj pF:Value):Below aD w0 (((((((((w.setCell ⟨g,0,none⟩ df).setCell ⟨g,1,none⟩ fY).setCell ⟨g,2,none⟩ fb).setCell ⟨g,3,none⟩ jm).setCell ⟨g,4,none⟩ qv).setCell ⟨g,5,none⟩ pE).setCell ⟨g,6,none⟩ qw).setCell ⟨g,7,none⟩ rj).setCell ⟨g,8,none⟩ pF):=
 (((((((((h.setCell (p:=⟨g,0,none⟩) aO df).setCell (p:=⟨g,1,none⟩) aO fY).setCell (p:=⟨g,2,none⟩) aO fb).setCell (p:=⟨g,3,none⟩) aO jm).setCell (p:=⟨g,4,none⟩) aO qv).setCell (p:=⟨g,5,none⟩) aO pE).setCell (p:=⟨g,6,none⟩) aO qw).setCell (p:=⟨g,7,none⟩) aO rj).setCell (p:=⟨g,8,none⟩) aO pF)
def abI (w my:World) (eN:Option Addr) (oI:Nat) (W:ae) (fE:Option Addr) (fW:Nat) (eZ:Option Addr) (fH ss:Nat):Prop :=
 ∃ (eU:Option Addr) (m3:Nat) (eW:Option Addr) (nk qk su:Nat),aP my w.heap.size [.int .i64 W.field.wide, .int .i64 W.field.high, .slice eN W.field.aW.length oI, .slice eU W.aV.length m3, .slice eW W.ba.length nk, .slice fE W.bk.length fW, .slice eZ W.ak.length fH, .int .i64 W.next, .int .i64 W.now] 28 (0,0)∧
  aP my (w.heap.size+1) [.int .i64 0, .int .i64 0, .slice none 0 0, .slice none 0 0, .slice none 0 0, .slice none 0 0, .slice none 0 0, .int .i64 0, .int .i64 0] 28 (0,0)∧bQ.aF 3 8 my w.heap.size (τ.ah eN) eN oI W.field.aW∧ax.rep.aF 55 16 my ss (τ.ah eU) eU m3 W.aV∧bQ.aF 3 8 my qk (τ.ah eW) eW nk W.ba∧
  (∀ g∈τ.ah eU,ss≤g∧g<qk)∧(∀ g∈τ.ah eW,qk≤g∧g<su)∧Below w.heap.size w my∧ss≤qk∧qk≤su∧su=my.heap.size
open Tryz
open Tryz

namespace τ
variable {α:Type} {R:τ α}
theorem auw {β:Type} {size:Nat} {X:List (List β)} {i:Nat} {es:List β} (Dq:∀ x∈X,x.length=size) (aq:i<X.length):(X.set i es).flatten=X.flatten.take (i * size)++es++X.flatten.drop (i * size+size):=by
 rw [aVC,aR8 aq,aUd,aSP,Qm i Dq,VT (i+1) Dq,aTx,aSA]
theorem aDC {β:Type} {cur es:List β} {p n k:Nat} (ar:es.length=k) (κ:p+k≤n) (ab:n≤cur.length):(cur.take p++es++cur.drop (p+k)).take n=(cur.take n).take p++es++(cur.take n).drop (p+k):=by
 apply aTN;intro j;subst ar;simp only [aSE,List.getElem?_append,aR1,aRZ,aS0]
 grind
theorem aF.alA {E by_ B c i g:Nat} {f:List Nat} {l:List α} {w:World} {q':α} {es:List Value} {cur:Array Value} (h:R.aF E by_ w B f (some ⟨g,0,none⟩) c l) (hp:R.xe) (aq:i<l.length) (I:∀ w,R.has w es q') (uF:w.heap[g]? =some (.cells cur E (0,0))):
  R.aF E by_ (w.setRow g (cur.toList.take (i * R.size)++es++cur.toList.drop (i * R.size+es.length)).toArray) B f (some ⟨g,0,none⟩) c (l.set i q')∧i * R.size+es.length≤cur.toList.length:=by
 obtain ⟨Φ,ps,rfl,hn,b4,dK⟩:=h;have Ip:es.length=R.size:=R.len (I w);have ay:=RZ dK;have oB:ps.length=l.length:=dK.length;obtain ⟨F7,Mm⟩:=b4;obtain ⟨g',cap,Da,hv,avl,fV,DJ,r9,jz,Ml,br⟩:=Mm.resolve_left (λ bC=>nomatch bC.1);injection hv with pg DO ax4
 injection pg with pg
 injection pg with pg aLl aLm
 subst pg ax4;rw [fV] at uF;injection uF with uF
 injection uF with uF
 subst uF;have hle:i * R.size+R.size≤l.length * R.size:=by rw [← aTx];exact aSI _ aq
 have aKF:l.length * R.size≤c * R.size:=aSI _ DJ;have tj:Da.toList.length=c * R.size:=by rw [aUf,jz]
 obtain ⟨x,hx,Mn⟩:=dK.at_ (c8 (l:=l) (u:=q') aq);have jh:x.1= []:=hp.2 Mn;have W2:∀ y∈ps,∀ q∈y.1,q≠g:=λ y aI q I e=>by
  obtain ⟨b,FQ⟩:=dK.left y aI;rw [hp.2 FQ] at I;simp at I
 have aZ:(ps.set i (x.1,es)).map (·.1)=ps.map (·.1):=by
  rw [aS6];have:(ps.map (·.1))[i]? =some x.1:=by rw [aSd,hx];rfl
  obtain ⟨ab,aw⟩:=aRW.1 this
  conv=>lhs;rw [← aw]
  exact aTI _
 have bh:(ps.set i (x.1,es)).map (·.2)=(ps.map (·.2)).set i es:=by rw [aS6]
 have agJ:=auw (es:=es) ay (by rw [aSK];omega:i<(ps.map (·.2)).length);rw [Ip];refine ⟨⟨by rw [aR4];exact Φ,ps.set i (x.1,es),by rw [aZ],hn,⟨?_, .inr ⟨g,c,(Da.toList.take (i * R.size)++es++Da.toList.drop (i * R.size+R.size)).toArray,by rw [aR4],avl, ?_,by rw [aR4];exact DJ,r9, ?_, ?_, ?_⟩⟩, ?_⟩,by omega⟩
 ·rw [bh,agJ,aR4];simp only [aR1,aRZ,aSf,F7,Ip];omega
 ·exact aP.setRow (cur:=Da.toList) (by simpa [aP] using fV) _
 ·rw [aTs];simp only [aR1,aRZ,aSf,tj,Ip];omega
 ·rw [aR4,bh,agJ,← Ml];exact aDC Ip hle (by omega)
 ·intro j u hu;rw [aVe] at hu;by_cases κ:j<i * R.size
  ·refine br j u ?_;rw [aSA,aSg (by rw [aRZ];omega),aSE,aR8 κ] at hu;rw [← aS1];exact hu
  ·by_cases ab:j<i * R.size+R.size
   ·rw [aSA,aSi (by rw [aRZ];omega),aSg (by rw [aRZ];omega),aRZ] at hu;have az:j % R.size=j - i * R.size:=by
     have aw:j=R.size * i+(j - i * R.size):=by rw [aTe];omega
     have bH:(j - i * R.size) % R.size=j - i * R.size:=aTh (by omega)
     conv=>lhs;rw [aw,aUB,bH]
    rw [az];exact R.wK (I w) _ u (by rw [aTM (by omega)] at hu;exact hu)
   ·refine br j u ?_;rw [aSi (by simp only [aR1,aRZ];omega),aS0] at hu;rw [← aS1];rw [show i * R.size+R.size+(j - (List.take (i * R.size) Da.toList++es).length)=j from by simp only [aR1,aRZ];omega] at hu;exact hu
 ·have WN:de (λ x a=>R.own (w.setRow g (Da.toList.take (i * R.size)++es++Da.toList.drop (i * R.size+R.size)).toArray) B x.1 x.2 a) ps l:=dK.imp λ y a aI Rn=>R.tF Rn λ q I=>(Mod.setRow w g _).block q (R.wH Rn q I).2 (by simpa using W2 y aI q I);exact WN.Zs (P:=λ (x:List Nat×List Value) a=>R.own _ B x.1 x.2 a) (by rw [jh];exact hp.1 (I _))
end τ
section
variable {P:Program} {n:Nat} {E cU:List (Nat×Value)} {a:Act} {w w' w0 aT:World} {Q:Exit→Act→World→Prop} {ops:Array Oper} {v:Value}
variable {d:Option Nat} {ty:TypeId} {pos:String} {af:Array Edge} {g:Option (Nat×Bool)} {x y z:Operand} {t:TypeId} {rest:List Oper}
theorem ND {α:Type} {R:τ α} {e by_ B i:Nat} {A:Option Addr} {c:Nat} {l:List α} {q':α} {p:Addr} {es:List Value} (h:R.aF e by_ w B (τ.ah A) A c l) (hR:R.xe) (aq:i<l.length) (hx:ev E x=some (.pointer (some p))) (hp:p=⟨eU A,la A+i * R.size,none⟩) (aI:ev E y=some v) (hc:v.cells=es.toArray)
  (I:∀ w,R.has w es q') (hs:eI P t es.length)
  (ar:∀ aT,Mod (τ.ah A) w aT→R.aF e by_ aT B (τ.ah A) A c (l.set i q')→cK P n ops Q rest E aT):cK P n ops Q (⟨none, .store t x y,ty,pos,af,none⟩::rest) E w:=by
 obtain ⟨b,rfl⟩:=h.block (by omega);have Ma:p=⟨b,i * R.size,none⟩:=by rw [hp];simp [eU,la]
 subst Ma;obtain ⟨_,ps,_,_,b4,_⟩:=id h;obtain ⟨cur,uF,_,_⟩:=b4.adq;obtain ⟨wk,hle⟩:=τ.aF.alA (q':=q') h hR aq I uF;have iO:=Zi (P:=P) (w:=w) (b:=b) (p:=i * R.size) (cur:=cur.toList) (e:=e) (by simpa [aP] using uF) hc hs (aSO.2 (R.one (I w))) hle;refine us (λ n a ha=> ?_) (ar _ (Mod.setRow w b _) wk);simp only [execOp,ha.ev hx,ha.ev aI,Instr.storeAt,Instr.sureAddr,aSc,aSe,aR3,iO]
def akH (A:Option Addr) (aH8:Nat):Option Addr:=A
theorem alu {A:Option Addr} {len cap e s:Nat} {k:IntKind} (aq m:Nat) {i:Int} (aC:P.underlying t=some (.slice e)) (hs:eI P e s) (hx:ev E x=some (.slice A len cap)) (aI:ev E y=some (.int k i)) (κ:i=(aq:Int)) (ab:aq≤cap) (hm:m=aq):cW P E ⟨d, .slice t x none (some y) none,ty,pos,af,g⟩ w (.slice (akH A aq) m cap) w:=λ n a ha=>by
 subst κ;subst hm;have κ:P.underlying t=some (.slice (P.elem t)):=by simp [Program.elem,aC]
 have nj:P.elem t=e:=by simp [Program.elem,aC]
 have aw:=run_slice_h (P:=P) (w:=w) t A len cap κ k (m:Int) (by omega) (by omega);have a6:=aUv (P:=P) (w:=w) t (.slice A len cap) none (some (.int k (m:Int))) none κ;rw [nj,hs w] at aw;simp only [execOp,ha.ev hx,ha.ev aI,Option.map,a6,aw,aSc,aR3,aSe,sliced,aSR,Nat.sub_zero];unfold akH;cases A with
 | none=>simp
 | some a=>simp [Addr.add]
end
open Tryz
section
variable {P:Program} {n:Nat} {E:List (Nat×Value)} {w:World} {Q:Exit→Act→World→Prop} {ops:Array Oper} {a7:Nat→Nat}
def aaI (P:Program) (ops:Array Oper) (Q:Exit→Act→World→Prop) (a7:Nat→Nat) (aGF aGG:List Nat):Exit→Act→World→Prop :=
 hC (λ a w=>vg P ops (hC (Q .normal)) a7 aGF a w∧vg P ops (hC (Q .normal)) a7 aGG a w)
theorem aCk {id:Nat} (na:List (Nat×Nat)) (b1:List Nat) (i:Nat) (Ay:List Nat) (j:Nat) (EK:List Nat) (hm:P.follows .mixedOrders=true)
  (bf:(Region.noSelect ops && (b1.length+(Ay.length+1)== ops.size) && (Ay.length == EK.length) && Nat.blt 1 (pk na i) && Nat.blt 1 (pk na j) && FG ops (pk na) b1 (Array.replicate ops.size false) && (Region.ready .any ops (z6 b1 (Array.replicate ops.size false))== [i,j]) && kI ops (pk na) Ay ((z6 b1 (Array.replicate ops.size false)).setIfInBounds i true) && kI ops (pk na) EK ((z6 b1 (Array.replicate ops.size false)).setIfInBounds j true))=true)
  (h:kq P n ops (aaI P ops Q (pk na) (i::Ay) (j::EK)) (pk na) b1 E w):W P n (.region id ops true) Q E w:=λ a ha=>by
 simp only [aR2,aST,aVw] at bf;obtain ⟨⟨⟨⟨⟨⟨⟨⟨hs,ay⟩,hlen⟩,aq⟩,az⟩,κ⟩,hr⟩,ab⟩,aw⟩:=bf;refine wp_mono (aVD hm (Q:=hC (Q .normal)) ?_) (λ e a w I=>by cases e<;>first | exact I | exact I.elim);have:=Us (P:=P) hs (Q:=hC (Q .normal)) (λ _ _ _ h=>h) (m:=Ay.length+1) b1 (Array.replicate ops.size false) a w (by simp) κ (h a ha) (λ a w0 fV=>by
  have fV:vg P ops (hC (Q .normal)) (pk na) (i::Ay) a w0∧vg P ops (hC (Q .normal)) (pk na) (j::EK) a w0:=fV w0 (Ext.bN w0);refine ⟨λ aG=>(by rw [hr] at aG;cases aG),λ q I=> ?_⟩;rw [hr] at I;have I:q=i∨q=j:=by simpa using I
  rcases I with rfl | rfl
  ·obtain ⟨⟨o,b4,h⟩,_⟩:=fV;rcases h with ⟨ar,_⟩ | ⟨ar,_⟩ | ⟨ar,h⟩
   ·omega
   ·omega
   ·exact ⟨o,b4, .inr ⟨ar,λ w hw=>aUg (λ a' w' aw=>⟨aw.1,Fl hs (λ _ _ _ h=>h) Ay _ _ _ (by simp [Zq]) ab aw.2⟩) (h w hw)⟩⟩
  ·obtain ⟨_,⟨o,b4,h⟩⟩:=fV;rcases h with ⟨ar,_⟩ | ⟨ar,_⟩ | ⟨ar,h⟩
   ·omega
   ·omega
   ·exact ⟨o,b4, .inr ⟨ar,λ w hw=>aUg (λ a' w' bH=>⟨bH.1,by rw [hlen];exact Fl hs (λ _ _ _ h=>h) EK _ _ _ (by simp [Zq]) aw bH.2⟩) (h w hw)⟩⟩)
 rw [ay] at this;exact C5 _ _ _ _ this _ (aSr _ w).drew
theorem aus {Ay EK:List Nat} (κ:kq P n ops Q a7 Ay E w) (ab:kq P n ops Q a7 EK E w):N n (aaI P ops Q a7 Ay EK) E w:=λ a ha=>⟨κ a ha,ab a ha⟩
end
open Tryz
section
def kv (ro:Option Nat):Fence:= {Fence.wide with round:=ro}
section
variable {P:Program} {ro:Option Nat} {m:Nat} {ops:Array Oper} {Q:Exit→Act→World→Prop} {w:World}
theorem ado {f:FuncId} {args:Array Value} {R:Ending→World→Prop} (h:Calls P f args w R):CallsIn (kv ro) m P f args w R:=(callsIn_wide (n:=m)).2 h
theorem aCx {row:String} {args:Array Value} {R:Value→World→Prop} (h:Rows P row args w R):RowsIn (kv ro) m P row args w R:=λ c cs _ =>
 let ⟨v,w',r,s⟩:=h c cs;⟨v,w',r,stepsIn_wide.2 s⟩
def D4 (o:Oper):Bool:=match o.op with
 | .defer _=>false
 | _=>true
theorem akx {o:Oper} {a:Act} {K:Act→World→Prop} (hd:D4 o=true) (h:o.wp P a w K Q):o.wpIn (kv ro) m P a w K Q:=by
 refine ⟨λ _ _=>trivial, ?_⟩;have hs:o.semAt (kv ro).round a.eval=execOp a.eval o:=aUV _ _ _ (λ c e=>by simp [D4,e] at hd);rw [hs];unfold Oper.wp at h;generalize (execOp a.eval o).run P w=r at *
 cases r with
 | ok x w' =>
  cases x<;>simp only [Oper.upon] at h<;>simp only [Oper.uponIn] <;>
   first
    | exact h
    | exact h.elim
    | exact ⟨λ h=>by simp [kv,Fence.wide] at h,ado h⟩
    | exact ⟨λ h=>by simp [kv,Fence.wide] at h,aCx h⟩
 | halt x w'=>cases x<;>simp only [Oper.upon] at h<;>simp only [Oper.uponIn]<;>first | exact h | exact h.elim
theorem Ye:∀ (l:List Oper) {a:Act} {w:World},l.all D4=true→wpList P ops Q l a w→(∀ c a w,¬ Q (.panic c) a w)→¬ LetsOut Q→wpListIn (kv ro) m P ops Q l a w
 | [],a,w,_,h,_,_=>by unfold wpList at h;unfold wpListIn;exact h
 | o::rest,a,w,hd,h,hp,b4=>by
  rw [List.all_cons,aR2] at hd;unfold wpList at h;unfold wpListIn;split at h
  ·rename_i hw
   rw [aR8 hw];rcases h with h | ⟨h,x⟩
   ·exact Oper.wpIn_mono (λ a w h=>Ye rest hd.2 h hp b4) (akx hd.1 h)
   ·exact (b4 x).elim
  ·rename_i hw
   rw [aR5 hw];exact ⟨λ _ _=>trivial,Ye rest hd.2 h hp b4⟩
theorem aFj {i:Nat} {K:Act→World→Prop} {a:Act} {w:World} (hd:ops.toList.all D4=true) (b4:¬ LetsOut Q) (h:wpOp P ops Q i K a w):wpOpIn (kv ro) m P ops Q i K a w:=by
 unfold wpOp at h;unfold wpOpIn;split at h
 ·rename_i aq;simp only [aq];exact h
 ·rename_i o aq
  simp only [aq];have aws:D4 o=true:=aSO.1 hd o (by rw [Array.mem_toList_iff];exact Array.mem_of_getElem? aq);split at h
  ·rename_i hw
   rw [aR8 hw];rcases h with h | ⟨h,x⟩
   ·exact akx aws h
   ·exact (b4 x).elim
  ·rename_i hw
   rw [aR5 hw];exact ⟨λ _ _=>trivial,h⟩
theorem acF (hd:ops.toList.all D4=true) (b4:¬ LetsOut Q):∀ (f:Nat) (l:Array Bool) {a:Act} {w:World},wpAny P .any ops Q f l a w→wpAnyIn (kv ro) m P .any ops Q f l a w
 | 0,l,a,w,h=>h
 | f+1,l,a,w,h=>⟨h.1,λ i aq=>wpOpIn_mono (λ a w h=>acF hd b4 f _ h) (aFj hd b4 (h.2 i aq))⟩
end
theorem akh {K:Act→World→Prop}:∀ c a w,¬ hC K (.panic c) a w:=λ _ _ _ h=>h
theorem akg {K:Act→World→Prop}:¬ LetsOut (hC K):=λ ⟨_,_,h⟩=>h
theorem akf {K:Exit→Act→World→Prop}:∀ e a w,hC (K .normal) e a w→K e a w:=λ e a w h=>by cases e<;>first | exact h | exact h.elim
namespace Rd
section
variable {P:Program} {ro:Option Nat} {m n:Nat} {ops:Array Oper} {Q:Exit→Act→World→Prop} {w w0:World} {E cU:List (Nat×Value)} {id Ro:Nat} {c:Operand} {x y:Code} {i j:Int} {b1:List Nat} {v:Value}
def W (ro:Option Nat) (m:Nat) (P:Program) (n:Nat) (c:Code) (Q:Exit→Act→World→Prop) (E:List (Nat×Value)) (w:World):Prop:=∀ a,ep n E a→c.wpIn (kv ro) m P Q a w
abbrev M (n:Nat) (Q:Exit→Act→World→Prop) (E:List (Nat×Value)) (w:World):Prop:=N n (hC (Q .normal)) E w
abbrev rH (ro:Option Nat) (m:Nat) (P:Program) (y:Code) (Q:Exit→Act→World→Prop):Exit→Act→World→Prop:=Exit.then (λ a w=>y.wpIn (kv ro) m P Q a w) Q
theorem aA (h:W ro m P n x (rH ro m P y Q) E w):W ro m P n (.seq x y) Q E w:=λ a ha=>wpIn_seq (h a ha)
theorem fI (h:M n Q E w):W ro m P n .skip Q E w:=λ a ha=>wpIn_skip (h a ha)
theorem rt (h:T n Q E w):W ro m P n .ret Q E w:=λ a ha=>wpIn_ret (h a ha)
theorem dw (h:X n Q id E w):W ro m P n (.exit id) Q E w:=λ a ha=>wpIn_exit (h a ha)
theorem bL (h:W ro m P n x (Exit.inBlock id Q) E w):W ro m P n (.block id x) Q E w:=λ a ha=>wpIn_block (h a ha)
theorem rg {l:List Oper} (h:cK P n l.toArray (hC (Q .normal)) l E w) (hd:l.all D4=true:=by kernel_rfl):W ro m P n (.region id l.toArray false) Q E w:=λ a ha=>Go.wpIn_mono (aWb (Ye l hd (h a ha) akh akg)) akf
theorem ed {b:Bool} (hc:ev E c=some (.bool b)) (κ:b=true→W ro m P n x Q E w) (ab:b=false→W ro m P n y Q E w):W ro m P n (.cond c x y) Q E w :=
 λ a ha=>wpIn_cond_split (ha.ev hc) (λ h=>κ h a ha) (λ h=>ab h a ha)
theorem dY (hc:ev E c=some (.bool (decide (i<j)))) (κ:i<j→W ro m P n x Q E w) (ab:¬ i<j→W ro m P n y Q E w):W ro m P n (.cond c x y) Q E w:=ed hc (λ h=>κ (aS5 h)) (λ h=>ab (aUk h))
theorem eV (hc:ev E c=some (.bool (i != j))) (κ:¬ i=j→W ro m P n x Q E w) (ab:i=j→W ro m P n y Q E w):W ro m P n (.cond c x y) Q E w:=ed hc (λ h=>κ (by simpa using h)) (λ h=>ab (by simpa using h))
theorem aU (h:W ro m P n y Q E w):M n (rH ro m P y Q) E w:=h
theorem ne {fn:Func} {R:Ending→World→Prop} (h:T n (bodyPost P fn R) E w):M n (bodyPost P fn R) E w:=λ a ha=>h a ha
theorem bY (h:M n Q E w):M n (Exit.inBlock id Q) E w:=h
theorem du (h:X n Q id E w):X n (rH ro m P y Q) id E w:=h
theorem dt (h:M n Q E w):X n (Exit.inBlock id Q) id E w:=λ a ha=>by simp only [Exit.inBlock,aTG];exact h a ha
theorem bT (h:T n Q E w):T n (rH ro m P y Q) E w:=h
theorem eL {c:Code} (kY:Nat→List (Nat×Value)→World→Prop) (k:Nat) (cU:List (Nat×Value)) (aG:kY k cU w) (hs:Sub cU E)
  (round:∀ k E w,kY k E w→W ro m P n c (Exit.then (O0 n kY k) Q) E w):W ro m P n (.loop c) Q E w:=λ a ha=>by
 intro b IF cs axL Φ hr;have key:∀ k a w,(∃ E,kY k E w∧ep n E a)→∃ e a' w',Q e a' w'∧ArrivesIn (Machine.fenced P (kv ro)) P (lone (b.atR a (.code c:: .inLoop c::IF)) cs w) b IF cs e a' w':=by
  intro k;induction k using Nat.strongRecOn with
  | _ k bx =>
   intro a w ⟨E,qU,ha⟩;obtain ⟨e,ck,aT,I,p5⟩:=round k E w qU a ha b (.inLoop c::IF) cs axL Φ hr;cases e with
   | normal =>
    obtain ⟨m',bz,Wm⟩:=I;obtain ⟨bh,a2,cB,xU,WQ⟩:=bx m' bz ck aT Wm;exact ⟨bh,a2,cB,xU, .of_steps (StepsIn.trans p5 (.one (fenced_calm Φ hr Z) stepR_inLoop)) WQ⟩
   | exit id=>exact ⟨_,ck,aT,I, .pass (x:= .inLoop c) rfl (λ _ _=> .inl (by simp)) p5⟩
   | goto l=>exact ⟨_,ck,aT,I, .pass (x:= .inLoop c) rfl (λ _ _=> .inl (by simp)) p5⟩
   | ret=>exact ⟨_,ck,aT,I, .pass (x:= .inLoop c) rfl (λ _ _=> .inl (by simp)) p5⟩
   | panic aq6=>exact ⟨_,ck,aT,I, .pass (x:= .inLoop c) rfl (λ _ _=> .inl (by simp)) p5⟩
   | outgrown=>exact ⟨_,ck,aT,I, .pass (x:= .inLoop c) rfl (λ _ _=> .inl (by simp)) p5⟩
 obtain ⟨e,a',w',I,p5⟩:=key k a w ⟨cU,aG,ha.sub hs⟩;exact ⟨e,a',w',I, .of_steps (.one (fenced_calm Φ hr Z) stepR_loop) p5⟩
theorem c9 {kY:Nat→List (Nat×Value)→World→Prop} {k:Nat} (k':Nat) (cU:List (Nat×Value)) (h:kY k' cU w) (hm:k'<k) (hs:Sub cU E):M n (Exit.then (O0 n kY k) Q) E w :=
 λ a ha=>⟨k',hm,cU,h,ha.sub hs⟩
theorem rd (na:List (Nat×Nat)) (b1:List Nat) (hm:P.follows .mixedOrders=true) (bf:(Region.noSelect ops && (b1.length == ops.size) && kI ops (pk na) b1 (Array.replicate ops.size false))=true)
  (h:kq P n ops (hC (Q .normal)) (pk na) b1 E w) (hd:ops.toList.all D4=true:=by kernel_rfl):W ro m P n (.region id ops true) Q E w:=λ a ha=>by
 simp only [aR2,aST] at bf;obtain ⟨⟨hs,ay⟩,bf⟩:=bf;refine Go.wpIn_mono (wpIn_region_any hm (Q:=hC (Q .normal)) (acF hd akg _ _ ?_)) akf;have:=Fl (P:=P) hs (Q:=hC (Q .normal)) akh b1 (Array.replicate ops.size false) a w (by simp) bf (h a ha);rw [ay] at this;exact C5 _ _ _ _ this _ (aSr _ w).drew
theorem acE {l:List Value} (ay:Nat.ble l.length n=true):ep n (C6 0 l) {tmps:=l.toArray++Array.replicate (n - l.toArray.size) undef,defers:= []}:=by
 refine ⟨Z, ?_,λ t v hv=> ?_⟩
 ·have:=aTZ ay;simp only [aVN,aWC,aTs];omega
 ·obtain ⟨j,e,az⟩:=Ut l 0 t v hv;have bz:=(aRW.1 az).1;rw [aWa (by simp;omega)];simpa [show t=j by omega] using az
theorem cl {f:FuncId} {fn:Func} {c:Code} {l:List Value} {R:Ending→World→Prop} (hf:P.funcs[f]? =some fn) (Φ:fn.body=some c) (hn:fn.ntmps=n) (ay:Nat.ble l.length n=true)
  (h:W none m P n c (bodyPostM (kv none) m P fn R) (C6 0 l) w):Calls P f l.toArray w R:=by
 have κ:CallsIn (kv none) m P f l.toArray w R:=callsIn_of_wp_marks hf Φ trivial (by rw [hn];exact h _ (acE ay)) rfl;exact (callsIn_wide (n:=m)).1 κ
theorem aqV {f:FuncId} {fn:Func} {c:Code} {l:List Value} {R:Ending→World→Prop} (hf:P.funcs[f]? =some fn) (Φ:fn.body=some c) (hn:fn.ntmps=n) (ay:Nat.ble l.length n=true)
  (h:W none m P n c (bodyPost P fn R) (C6 0 l) w):CallsIn (kv none) m P f l.toArray w R :=
 callsIn_of_wp hf Φ trivial (by rw [hn];exact h _ (acE ay)) rfl
theorem bd {fn:Func} {R:Ending→World→Prop} {vs:List Value} (h:xn P E w fn.results.toList vs) (hR:R (.returned (uW vs)) w):T n (bodyPostM (kv none) m P fn R) E w :=
 λ a ha=>by
  show LeavesInM _ _ _ _ _ _ a.defers _ _;rw [ha.d];exact ⟨_,Zh h ha,hR⟩
end
end Rd
namespace o2
section
variable {P:Program} {ro:Option Nat} {m n:Nat} {ops:Array Oper} {Q:Exit→Act→World→Prop} {w w' w0:World} {E cU:List (Nat×Value)} {id:Nat} {v:Value}
variable {d:Option Nat} {ty:TypeId} {pos:String} {af:Array Edge} {g:Option (Nat×Bool)} {x y z:Operand} {t:TypeId} {rest:List Oper}
def cK (ro:Option Nat) (m:Nat) (P:Program) (n:Nat) (ops:Array Oper) (Q:Exit→Act→World→Prop) (l:List Oper) (E:List (Nat×Value)) (w:World):Prop:=∀ a,ep n E a→wpListIn (kv ro) m P ops Q l a w
theorem rg {l:List Oper} (h:cK ro m P n l.toArray Q l E w):Rd.W ro m P n (.region id l.toArray false) Q E w:=λ a ha=>aWb (h a ha)
theorem nl (h:Rd.M n Q E w):cK ro m P n ops Q [] E w:=h
theorem iT {d:Nat} {op:Op} (hr:cW P E ⟨some d,op,ty,pos,af,none⟩ w v w') (hd:Nat.blt d n=true) (h:cK ro m P n ops Q rest ((d,v)::E) w'):cK ro m P n ops Q (⟨some d,op,ty,pos,af,none⟩::rest) E w:=λ a ha=>by
 have lR:=hr n a ha;unfold wpListIn;rw [aR8 (by simp [Region.wanted])];refine ⟨λ _ _=>trivial, ?_⟩;have hs:(⟨some d,op,ty,pos,af,none⟩:Oper).semAt (kv ro).round a.eval=execOp a.eval ⟨some d,op,ty,pos,af,none⟩:=aUV _ _ _ (λ c e=>by
  have e:op= .defer c:=e;subst e;simp only [execOp,aSc,aSe] at lR;revert lR;generalize (resolve a.eval c ty).run P w=r;cases r<;>simp [Result.andThen])
 rw [hs,lR];exact h _ (ha.put hd v)
theorem aFI {d:Nat} {l:Nat} {xs:Array Operand} {ts:Array TypeId} {args:List Value} (hx:ev E x=some (.func (.yield l) #[] #[])) (he:hU E xs.toList=some args) (hd:Nat.blt d n=true)
  (h:YieldAt (kv ro) (m - 1) P l args.toArray w λ e w'=>∃ v,e= .returned v∧cK ro m P n ops Q rest ((d,v)::E) w'):cK ro m P n ops Q (⟨some d, .call {callee:= .value x,args:=xs,argTypes:=ts},ty,pos,af,none⟩::rest) E w:=λ a ha=>by
 obtain ⟨fn,tmps,assign,body,aI,hR⟩:=h;unfold wpListIn;rw [aR8 (by simp [Region.wanted])];refine ⟨λ _ _=>trivial, ?_⟩;have hs:(⟨some d, .call {callee:= .value x,args:=xs,argTypes:=ts},ty,pos,af,none⟩:Oper).semAt (kv ro).round a.eval=execOp a.eval ⟨some d, .call {callee:= .value x,args:=xs,argTypes:=ts},ty,pos,af,none⟩:=aUV _ _ _ (λ c e=>by cases e);have hm:xs.map a.eval=args.toArray:=by rw [← ha.hU he];apply aTq;simp
 have lR:(execOp a.eval ⟨some d, .call {callee:= .value x,args:=xs,argTypes:=ts},ty,pos,af,none⟩).run P w= .ok (.round l fn tmps assign body) w:=by
  unfold execOp;simp only [resolve,invoke,Deferred.ofValue,ha.ev hx,callFunc,aSc,aSe,aR3,hm,aUJ];first
   | exact aI
   | simpa using aI
 rw [hs,lR];refine ⟨λ h=>by simp [kv,Fence.wide] at h,hR.mono λ e w' he=> ?_⟩;obtain ⟨v,rfl,h⟩:=he;exact h _ (ha.put hd v)
end
end o2
def mark (D:Nat):List Deferred:= [{target:= .collected D,args:=#[]}]
def wd (ds:List Deferred) (a:Act):Act:= {a with defers:=ds}
theorem am4 (ds:List Deferred) (a:Act) (d:Option Nat) (v:Value):(wd ds a).put d v=wd ds (a.put d v):=by cases d<;>rfl
theorem aae (ds:List Deferred) (a:Act):(wd ds a).eval=a.eval:=by funext x;cases x<;>rfl
def AI (w:World) (D:Nat):Prop:=w.heap[D]? =some (.deferred (some []))
theorem AI.lt {D:Nat} {w:World} (h:AI w D):D<w.heap.size:=(aSy.1 h).1
theorem AI.later {D:Nat} {w w':World} (h:AI w D) (x:Ext w w'):AI w' D:=(x.block D h.lt).trans h
def ZW (w:World) (D:Nat):World:=w.putObj D (.deferred none)
theorem AI.un {D:Nat} {w:World} (h:AI w D):Mod [D] w (ZW w D):=by
 have:=Mod.grown (grownBy_putObj' w D (.deferred none));exact this
namespace gP
section
variable {P:Program} {ds:List Deferred} {m n:Nat} {ops:Array Oper} {Q:Exit→Act→World→Prop} {w w' w0:World} {E cU:List (Nat×Value)} {id:Nat} {v:Value}
variable {d:Option Nat} {ty:TypeId} {pos:String} {af:Array Edge} {g:Option (Nat×Bool)} {x y z:Operand} {t:TypeId} {rest:List Oper} {c:Operand} {dn uw:Code} {i j:Int}
def W (ds:List Deferred) (m:Nat) (P:Program) (n:Nat) (c:Code) (Q:Exit→Act→World→Prop) (E:List (Nat×Value)) (w:World):Prop:=∀ a,ep n E a→c.wpIn (kv none) m P Q (wd ds a) w
def N (ds:List Deferred) (n:Nat) (Q:Exit→Act→World→Prop) (E:List (Nat×Value)) (w:World):Prop:=∀ a,ep n E a→Q .normal (wd ds a) w
def T (ds:List Deferred) (n:Nat) (Q:Exit→Act→World→Prop) (E:List (Nat×Value)) (w:World):Prop:=∀ a,ep n E a→Q .ret (wd ds a) w
def cK (ds:List Deferred) (m:Nat) (P:Program) (n:Nat) (ops:Array Oper) (Q:Exit→Act→World→Prop) (l:List Oper) (E:List (Nat×Value)) (w:World):Prop:=∀ a,ep n E a→wpListIn (kv none) m P ops Q l (wd ds a) w
theorem aA (h:W ds m P n dn (Rd.rH none m P uw Q) E w):W ds m P n (.seq dn uw) Q E w:=λ a ha=>wpIn_seq (h a ha)
theorem fI (h:N ds n Q E w):W ds m P n .skip Q E w:=λ a ha=>wpIn_skip (h a ha)
theorem rt (h:T ds n Q E w):W ds m P n .ret Q E w:=λ a ha=>wpIn_ret (h a ha)
theorem rg {l:List Oper} (h:cK ds m P n l.toArray Q l E w):W ds m P n (.region id l.toArray false) Q E w:=λ a ha=>aWb (h a ha)
theorem nl (h:N ds n Q E w):cK ds m P n ops Q [] E w:=h
theorem aU (h:W ds m P n uw Q E w):N ds n (Rd.rH none m P uw Q) E w:=h
theorem bY (h:N ds n Q E w):N ds n (Exit.inBlock id Q) E w:=h
theorem bT (h:T ds n Q E w):T ds n (Rd.rH none m P uw Q) E w:=h
theorem ed {b:Bool} (hc:ev E c=some (.bool b)) (κ:b=true→W ds m P n dn Q E w) (ab:b=false→W ds m P n uw Q E w):W ds m P n (.cond c dn uw) Q E w :=
 λ a ha=>wpIn_cond_split (by rw [aae];exact ha.ev hc) (λ h=>κ h a ha) (λ h=>ab h a ha)
theorem eV (hc:ev E c=some (.bool (i != j))) (κ:¬ i=j→W ds m P n dn Q E w) (ab:i=j→W ds m P n uw Q E w):W ds m P n (.cond c dn uw) Q E w:=ed hc (λ h=>κ (by simpa using h)) (λ h=>ab (by simpa using h))
theorem aAu {o:Oper} {a:Act} {v:Value} (h:(execOp a.eval o).run P w= .ok (.value v) w'):∀ c,o.op≠ .defer c:=λ c e=>by
 unfold execOp at h;rw [e] at h;simp only [aSc,aSe] at h;revert h;generalize (resolve a.eval c o.type).run P w=r;cases r<;>simp [Result.andThen]
theorem iT {d:Nat} {op:Op} (hr:cW P E ⟨some d,op,ty,pos,af,none⟩ w v w') (hd:Nat.blt d n=true) (h:cK ds m P n ops Q rest ((d,v)::E) w'):cK ds m P n ops Q (⟨some d,op,ty,pos,af,none⟩::rest) E w:=λ a ha=>by
 have lR:=hr n a ha;unfold wpListIn;rw [aR8 (by simp [Region.wanted])];refine ⟨λ _ _=>trivial, ?_⟩;rw [aae,aUV _ _ _ (aAu lR),lR];show wpListIn _ _ _ _ _ _ _ _;rw [am4];exact h _ (ha.put hd v)
theorem ca {d:Nat} {f:FuncId} (hf:Enters P f) {xs:Array Operand} {ts:Array TypeId} {args:List Value} (he:hU E xs.toList=some args) (hd:Nat.blt d n=true)
  (h:Calls P f args.toArray w λ e w'=>∃ v,e= .returned v∧cK ds m P n ops Q rest ((d,v)::E) w'):cK ds m P n ops Q (⟨some d, .call {callee:= .value (.func f),args:=xs,argTypes:=ts},ty,pos,af,none⟩::rest) E w:=λ a ha=>by
 unfold wpListIn;rw [aR8 (by simp [Region.wanted])];refine ⟨λ _ _=>trivial, ?_⟩;rw [aae,aUV _ _ _ (λ c e=>by cases e),Nu hf ha he];refine ⟨λ h=>by simp [kv,Fence.wide] at h,CallsIn.mono (ado h) λ e w' fV=> ?_⟩;obtain ⟨v,rfl,h⟩:=fV;show wpListIn _ _ _ _ _ _ _ _;rw [am4];exact h _ (ha.put hd v)
theorem bd {D:Nat} {fn:Func} {R:Ending→World→Prop} {vs:List Value} (hK:AI w D) (h:xn P E (ZW w D) fn.results.toList vs) (hR:R (.returned (uW vs)) (ZW w D)):T (mark D) n (bodyPostM (kv none) m P fn R) E w :=
 λ a ha=>by
  have hr:=Zh (a:=a) h ha;exact ⟨by simp, .inl ⟨D,_,rfl,run_takeDeferred hK,_,hr,hR⟩⟩
end
end gP
def AX (b c:Nat) (W iI:World):Prop:=iI.heap[b]? =W.heap[b]? ∧iI.heap[c]? =W.heap[c]?
theorem AX.uU {b c:Nat} {X Y aD:World} (h:AX b c X Y) (k:AX b c Y aD):AX b c X aD:=⟨k.1.trans h.1,k.2.trans h.2⟩
theorem Mod.ajc {S:List Nat} {W iI:World} {B:Nat} (h:Mod S W iI) (hS:∀ q∈S,q<W.heap.size→∃ cur e aB,W.heap[q]? =some (.cells cur e aB)):KeepsFrom B W iI :=
 ⟨h.size,λ k o _ ar b4=>by
  by_cases hm:k∈S
  ·obtain ⟨cur,e,aB,hc⟩:=hS k hm (aSy.1 ar).1;rw [hc] at ar;injection ar with ar
   subst ar;exact nomatch b4
  ·exact (h.block k (aSy.1 ar).1 hm).trans ar⟩
theorem Mod.ayP {S:List Nat} {W X Y:World} {b c:Nat} (h:Mod S W X) (k:Mod S W Y) (Φ:b<W.heap.size∧c<W.heap.size) (κ:b∉S) (ab:c∉S):AX b c X Y :=
 ⟨(k.block b Φ.1 κ).trans (h.block b Φ.1 κ).symm,(k.block c Φ.2 ab).trans (h.block c Φ.2 ab).symm⟩
def y3 (B:Nat) (w0 w:World):Prop:=KeepsFrom B w0 w
theorem y3.bN (B:Nat) (w:World):y3 B w w:=KeepsFrom.refl B w
theorem y3.later {B:Nat} {w0 w w':World} (h:y3 B w0 w) (x:Ext w w'):y3 B w0 w':=KeepsFrom.trans h ((Mod.bE (S:= []) x).ajc λ q I=>nomatch I)
theorem y3.mod {B:Nat} {w0 w w':World} {S:List Nat} (h:y3 B w0 w) (m:Mod S w w') (hS:∀ q∈S,∃ cur e aB,w.heap[q]? =some (.cells cur e aB)):y3 B w0 w':=KeepsFrom.trans h (m.ajc λ q I _=>hS q I)
theorem τ.aF.PH {α:Type} {R:τ α} {e by_ B c:Nat} {A:Option Addr} {l:List α} {w:World} (h:R.aF e by_ w B (τ.ah A) A c l):∀ q∈τ.ah A,∃ cur e aB,w.heap[q]? =some (.cells cur e aB):=by
 obtain ⟨_,ps,_,_,⟨_,b4⟩,_⟩:=h;rcases b4 with ⟨κ,_⟩ | ⟨g,cap,cur,κ,_,ab,_⟩
 ·injection κ with κ;subst κ;intro q I;exact nomatch I
 ·injection κ with κ;subst κ;intro q I
  obtain rfl:=aRT.1 I;exact ⟨_,_,_,ab⟩
structure E5 {α:Type} (B:Nat) (jO:List α→World→Prop) (pre:List α) (w:World):Prop where
 Up:AbidesFrom B jO
 at_:jO pre w
theorem E5.later {α:Type} {B:Nat} {jO:List α→World→Prop} {pre:List α} {w w':World} (h:E5 B jO pre w) (x:Ext w w'):E5 B jO pre w' :=
 ⟨h.Up,h.Up _ _ _ none h.at_ ⟨x.os,x.tape,x.output,x.size,λ k ar _=>x.block k ar⟩ λ r e=>nomatch e⟩
theorem aP.Ru {b:Nat} {cs:List Value} {e:TypeId} {aB:Nat×Nat} {w w':World} (h:aP w b cs e aB) (k:w'.heap[b]? =w.heap[b]?):aP w' b cs e aB:=k.trans h
theorem aFJ {F:Fence} {m:Nat} {P:Program} {l:Nat} {args:Array Value} {W:World} {R R':Ending→World→Prop} (h:YieldAt F m P l args W R) (hr:∀ e w,R e w→R' e w):YieldAt F m P l args W R':=by
 obtain ⟨fn,tmps,assign,body,aI,hR⟩:=h;exact ⟨fn,tmps,assign,body,aI,hR.mono hr⟩
theorem aFK {P Q:Prop} {e:Ending} (h:(e= .returned (.bool true)∧P)∨(e= .returned (.bool false)∧Q)):∃ b,e= .returned (.bool b)∧(b=true→P)∧(b=false→Q):=by
 rcases h with ⟨h,p⟩ | ⟨h,q⟩
 ·exact ⟨true,h,λ _=>p,(λ h=>nomatch h)⟩
 ·exact ⟨false,h,(λ h=>nomatch h),λ _=>q⟩
theorem auj {q k:Nat} (ar:k<q):(List.finRange q).take k++ [⟨k,ar⟩]=(List.finRange q).take (k+1):=by
 rw [aSn (by simpa using ar)];simp
section
variable {P:Program} {n:Nat} {E cU:List (Nat×Value)} {w:World} {d:Option Nat} {ty:TypeId} {pos:String} {af:Array Edge} {g:Option (Nat×Bool)} {x y z u:Operand} {t:TypeId}
theorem aCJ {A:Option Addr} {len cap e s:Nat} {k:IntKind} (lo:Nat) {i:Int} (aC:P.underlying t=some (.slice e)) (hs:eI P e s) (hx:ev E x=some (.slice A len cap)) (aI:ev E y=some (.int k i)) (κ:i=(lo:Int)) (ab:lo≤len):
  cW P E ⟨d, .slice t x (some y) none none,ty,pos,af,g⟩ w (.slice (eW A cap lo s) (len - lo) (cap - lo)) w:=λ n a ha=>by
 subst κ;have lX:P.underlying t=some (.slice (P.elem t)):=by simp [Program.elem,aC]
 have nj:P.elem t=e:=by simp [Program.elem,aC]
 have aw:=run_slice_l (P:=P) (w:=w) t A len cap lX k (lo:Int) (by omega) (by omega);have a6:=aUv (P:=P) (w:=w) t (.slice A len cap) (some (.int k (lo:Int))) none none lX;rw [nj,hs w] at aw;simp only [execOp,ha.ev hx,ha.ev aI,Option.map,a6,aw,aSc,aR3,aSe,sliced,aSR,eW]
theorem aCI {A:Option Addr} {len cap e s:Nat} {k k' ez:IntKind} (lo aq n:Nat) {i j XY:Int} (aC:P.underlying t=some (.slice e)) (hs:eI P e s) (hx:ev E x=some (.slice A len cap)) (aI:ev E y=some (.int k i)) (bC:ev E z=some (.int k' j)) (hu:ev E u=some (.int ez XY)) (BB:i=(lo:Int)) (F1:j=(aq:Int)) (awE:XY=(aq:Int)) (κ:lo≤aq) (ab:aq≤cap) (hn:n=aq - lo):
  cW P E ⟨d, .slice t x (some y) (some z) (some u),ty,pos,af,g⟩ w (.slice (eW A aq lo s) n n) w:=λ kf a ha=>by
 subst BB;subst F1;subst awE;subst hn;have lX:P.underlying t=some (.slice (P.elem t)):=by simp [Program.elem,aC]
 have nj:P.elem t=e:=by simp [Program.elem,aC]
 have aw:=run_slice_lhm (P:=P) (w:=w) t A len cap lX k k' ez (lo:Int) (aq:Int) (aq:Int) (by omega) (by omega) (by omega) (by omega);have a6:=aUv (P:=P) (w:=w) t (.slice A len cap) (some (.int k (lo:Int))) (some (.int k' (aq:Int))) (some (.int ez (aq:Int))) lX;rw [nj,hs w] at aw;simp only [execOp,ha.ev hx,ha.ev aI,ha.ev bC,ha.ev hu,Option.map,a6,aw,aSc,aR3,aSe,sliced,aSR,eW]
end
theorem τ.aJ.chunk {α:Type} {R:τ α} {by_ c:Nat} {A:Option Addr} {l:List α} {w:World} (h:R.aJ by_ w A c l) (lo aq:Nat) (κ:lo<aq) (ab:aq≤l.length):R.aJ by_ w (eW A aq lo R.size) (aq - lo) ((l.drop lo).take (aq - lo)):=by
 have hs:=h.sub lo aq (by omega) ab;have hc:=h.1;have r9:=h.2.1;have e:eW A aq lo R.size=eW A c lo R.size:=by unfold eW;rw [aR5 (by omega),aR5 (by omega)]
 rw [e];obtain ⟨g1,g2,g3,g4,g5⟩:=hs;refine ⟨by rw [aRZ];omega,by omega,g3,λ hn=> ?_,g5⟩;have:=g4 hn;omega
namespace Rd
theorem bN {α:Type} {P:Program} {m n:Nat} {Q:Exit→Act→World→Prop} {w w0:World} {E:List (Nat×Value)} {tt p:Nat} {ty:TypeId} {pos:String} {af:Array Edge} {id:Nat} {body:Code} {g:Operand} {gf:Nat} {lb:List Value} {enc:α→Value} {f_ gR:Nat} {S apr:List α→Prop} {abP:Nat}
  (aO:ev E g=some (.func (.func gf) #[] lb.toArray)) (hf:Enters P gf) (axR:SeqStopsK (kv none) (m - 1) P gf lb.toArray (λ x=>#[enc x]) (AX f_ gR) S apr abP w0) (bw:f_<w.heap.size) (dL:gR<w.heap.size) (cH:Ext w0 w) (κ:1≤m) (hp:Nat.blt p n=true) (aC:Nat.blt tt n=true)
  (kY:List α→World→Prop) (qU:∀ s W iI S,kY s W→Mod S W iI→(∀ q∈S,w.heap.size≤q∧∀ cur e aB,W.heap[q]? ≠some (.cells cur e aB))→kY s iI) (aG:kY [] w)
  (awa:∀ (l:Nat) (pre:List α) (x:α) (iI:World),kY pre iI→pre.length<abP→W (some l) (m - 1 - 1) P n body (ownPostG w.heap.size (AX f_ gR) kY (λ _ _ _=>False) (pre++ [x]) iI) ((tt,enc x)::(p,enc x)::E) iI)
  (awt:∀ (D:Nat) (xs:List α) (iI:World),w.heap.size≤D→S xs→kY xs iI→AI iI D→gP.N (mark D) n Q E iI):
  W none m P n (.rangeFunc g #[p] (.region id #[⟨some tt, .assign (.tmp p),ty,pos,af,none⟩] false) body) Q E w:=λ a ha=>by
 have avt:∀ {β:Type} (jO:β→World→Prop),(∀ s W iI S,jO s W→Mod S W iI→(∀ q∈S,w.heap.size≤q∧∀ cur e aB,W.heap[q]? ≠some (.cells cur e aB))→jO s iI)→OwnFrom w.heap.size jO:=λ jO zC s X Y row hs DA hr =>
  zC s X Y row.toList hs (Mod.grown DA) λ q I=>by
   cases row with
   | none=>exact nomatch I
   | some r =>
    obtain rfl:=aRT.1 I;obtain ⟨bf,o,b4,hc⟩:=hr _ rfl;exact ⟨bf,λ cur e aB h=>by rw [h] at b4;injection b4 with b4;subst b4;exact nomatch hc⟩
 obtain ⟨fn,W7,LV,W8⟩:=hf;obtain ⟨sZ,av6⟩:∃ c,fn.body=some c:=by
  cases h:fn.body with
  | none=>rw [h] at W8;simp at W8
  | some c=>exact ⟨c,rfl⟩
 refine wpIn_rangeFunc_ownH (F:=kv none) Z κ (gf:=gf) (lb:=lb.toArray) (ha.ev aO) trivial (enters_of W7 LV av6) axR (λ h k=>h.uU k) ?_ cH (λ x=>Z) kY (λ _ _ _=>False) (avt kY qU) (λ c s A B row hs aO hr=>hs.elim) aG
  (λ x a' _=>ep n ((tt,enc x)::(p,enc x)::E) a') (λ x a' s A B row hs aO hr=>hs) ?_ ?_ ?_ ?_
 ·intro iI l o Nc ay bG _ _;have hm:=Mod.grown (grownBy_putObj' iI l Nc);exact ⟨hm.block f_ (by have:=(aSy.1 bG).1;omega) (by simp;omega),hm.block gR (by have:=(aSy.1 bG).1;omega) (by simp;omega)⟩
 ·intro l pre x iI K aq hK;have hA:ep n ((p,enc x)::E) {tmps:=(#[p].zip #[enc x]).foldl (λ t (p,v)=>t.setIfInBounds p v) a.tmps,defers:= []}:=by
   have:=ha.put hp (enc x);have e:({tmps:=(#[p].zip #[enc x]).foldl (λ t (p,v)=>t.setIfInBounds p v) a.tmps,defers:= []}:Act)=a.put (some p) (enc x):=by
    simp [Act.put,ha.d]
   rw [e];exact this
  have ab:W (some l) (m - 1 - 1) P n (.region id [(⟨some tt, .assign (.tmp p),ty,pos,af,none⟩:Oper)].toArray false) (Exit.then K (λ _ _ _=>False)) ((p,enc x)::E) iI:=by
   refine o2.rg (o2.iT (v:=enc x) (w':=iI) (fF ?_) aC (o2.nl λ a' r3=>hK a' iI (KeepsFrom.refl _ _) ⟨Z,Z⟩ aq r3));show look ((p,enc x)::E) p=_;simp [look]
  exact ab _ hA
 ·intro l pre x a' iI _ _ aq hx hlen;exact awa l pre x iI aq hlen a' hx
 ·intro D xs iI vZ hS aq hK;have:=awt D xs iI vZ hS aq hK a ha;have e:({a with defers:= {target:= .collected D,args:=#[]}::a.defers}:Act)=wd (mark D) a:=by simp [wd,mark,ha.d]
  rw [e];exact this
 ·intro D c pre iI _ _ h _;exact h.elim
end Rd
end
end Go.Proofs.YtmeeljmapailnaaGreat
