import Derived.Test.YtlikikpgmmkjbaaGreatGra
import Derived.RangeFuncNested
import Derived.OrdersIn
import Derived.LoopNIn
set_option linter.unusedVariables false
set_option linter.unusedSimpArgs false
set_option maxRecDepth 100000
set_option maxHeartbeats 4000000
namespace Go.Proofs.YtlikikpgmmkjbaaGreat
open Tryz
end Go.Proofs.YtlikikpgmmkjbaaGreat
set_option linter.unusedVariables false
set_option linter.unusedSimpArgs false
namespace Go.Proofs.YtlikikpgmmkjbaaGreat
open Tryz
open Go.RowKit

structure ar where
 x:Int
 y:Int
 deriving DecidableEq,Inhabited
namespace ar
def cells (a:ar):List Value:= [.int .i64 (a.x), .int .i64 (a.y)]
def ok (a:ar):Prop:=(Lit.int .i64 a.x).wf=true∧(Lit.int .i64 a.y).wf=true
def raw (j:Nat) (u:Value):Prop:=match j with
 | 0=>∃ n:Int,u= .int .i64 n
 | 1=>∃ n:Int,u= .int .i64 n
 | _=>True
theorem qY (a:ar):∀ (j:Nat) u,a.cells[j]? =some u→raw j u:=by
 intro j u hu
 match j,hu with
 | 0,hu=>exact ⟨_,(Option.some.inj hu).symm⟩
 | 1,hu=>exact ⟨_,(Option.some.inj hu).symm⟩
 | j+2,hu=>exact trivial
theorem qX (a:ar):∀ u∈a.cells,u.oneCell'=true:=by
 intro u hu;unfold cells at hu;simp only [List.mem_cons,List.not_mem_nil,or_false] at hu;rcases hu with rfl | rfl<;>rfl
def rep:κ ar:=κ.flat 2 cells ok raw (λ _=>rfl) qX qY
theorem plain:rep.Plain:=κ.r5
def zero:Value:= .agg #[.int .i64 0, .int .i64 0]
theorem lS:∀ (j:Nat) u,zero.cells[j]? =some u→rep.raw j u:=by
 intro j u hu;have hu:(#[(.int .i64 0:Value),(.int .i64 0:Value)]:Array Value)[j]? =some u:=hu
 match j,hu with
 | 0,hu=>exact ⟨_,(Option.some.inj hu).symm⟩
 | 1,hu=>exact ⟨_,(Option.some.inj hu).symm⟩
 | j+2,hu=>cases hu
theorem info:(prog.info? 49).map (λ i=>(i.zero,i.size,i.bytes))=some (some zero,2,16):=by kernel_rfl
theorem at_ {by_:Nat} {w:World} {A:Option Addr} {c:Nat} {l:List ar} (h:rep.aH by_ w A c l) (aE:0<l.length):
  ∃ b o,A=some ⟨b,o,none⟩∧∀ (i:Nat) (a:ar),l[i]? =some a→w.cell? ⟨b,o+i * 2,none⟩=some (.int .i64 (a.x))∧w.cell? ⟨b,o+i * 2+1,none⟩=some (.int .i64 (a.y)):=by
 obtain ⟨b,o,e,hc⟩:=h.at_ aE;refine ⟨b,o,e,λ i a ha=> ?_⟩;obtain ⟨es,⟨rfl,_⟩,ay⟩:=hc i a ha;exact ⟨ay 0 _ Z,ay 1 _ Z⟩
theorem AU {by_:Nat} {w:World} {A:Option Addr} {c:Nat} {l:List ar} (h:rep.aH by_ w A c l):∀ a∈l,a.ok:=κ.aH.AT (R:=rep) (Q:=ok) (fun {w cs a} (h:rep.has w cs a)=>(show cs=a.cells∧a.ok from h).2) h
theorem eu {w:World} {g:Nat} {t:TypeId} {ax:Nat×Nat} {a:ar} (h:aK w g a.cells t ax):w.cell? ⟨g,0,none⟩=some (.int .i64 (a.x))∧w.cell? ⟨g,1,none⟩=some (.int .i64 (a.y)):=
 ⟨h.cell 0,h.cell 1⟩
def sh:fr:=(.cons (.int .i64) (.cons (.int .i64) .nil))
theorem opens (w:World) (cs:List Value) (h:sh.gY w cs):∃ a,rep.has w cs a:=by
 obtain ⟨_,_,rfl,_,_,⟨cK,rfl,sk⟩,⟨_,_,rfl,_,_,⟨eh,rfl,dk⟩,rfl⟩⟩:=h;exact ⟨⟨cK,eh⟩,Z,sk,dk⟩
end ar
theorem xi {w:World} {cs:List Value} {a:ar} (h:ar.rep.has w cs a):cs=a.cells:=And.left (show cs=a.cells∧a.ok from h)
end Go.Proofs.YtlikikpgmmkjbaaGreat
set_option linter.unusedVariables false
set_option linter.unusedSimpArgs false
namespace Go.Proofs.YtlikikpgmmkjbaaGreat
open Tryz
open Go.RowKit

structure aW where
 id:Int
 owner:Int
 kind:Int
 spot:ar
 cG:Int
 load:Int
 deriving DecidableEq,Inhabited
namespace aW
def cells (a:aW):List Value:= [.int .i64 (a.id), .int .i64 (a.owner), .int .i64 (a.kind), .int .i64 (a.spot.x), .int .i64 (a.spot.y), .int .i64 (a.cG), .int .i64 (a.load)]
def ok (a:aW):Prop:=(Lit.int .i64 a.id).wf=true∧(Lit.int .i64 a.owner).wf=true∧(Lit.int .i64 a.kind).wf=true∧(Lit.int .i64 a.spot.x).wf=true∧(Lit.int .i64 a.spot.y).wf=true∧(Lit.int .i64 a.cG).wf=true∧(Lit.int .i64 a.load).wf=true
def raw (j:Nat) (u:Value):Prop:=match j with
 | 0=>∃ n:Int,u= .int .i64 n
 | 1=>∃ n:Int,u= .int .i64 n
 | 2=>∃ n:Int,u= .int .i64 n
 | 3=>∃ n:Int,u= .int .i64 n
 | 4=>∃ n:Int,u= .int .i64 n
 | 5=>∃ n:Int,u= .int .i64 n
 | 6=>∃ n:Int,u= .int .i64 n
 | _=>True
theorem qY (a:aW):∀ (j:Nat) u,a.cells[j]? =some u→raw j u:=by
 intro j u hu
 match j,hu with
 | 0,hu=>exact ⟨_,(Option.some.inj hu).symm⟩
 | 1,hu=>exact ⟨_,(Option.some.inj hu).symm⟩
 | 2,hu=>exact ⟨_,(Option.some.inj hu).symm⟩
 | 3,hu=>exact ⟨_,(Option.some.inj hu).symm⟩
 | 4,hu=>exact ⟨_,(Option.some.inj hu).symm⟩
 | 5,hu=>exact ⟨_,(Option.some.inj hu).symm⟩
 | 6,hu=>exact ⟨_,(Option.some.inj hu).symm⟩
 | j+7,hu=>exact trivial
theorem qX (a:aW):∀ u∈a.cells,u.oneCell'=true:=by
 intro u hu;unfold cells at hu;simp only [List.mem_cons,List.not_mem_nil,or_false] at hu;rcases hu with rfl | rfl | rfl | rfl | rfl | rfl | rfl<;>rfl
def rep:κ aW:=κ.flat 7 cells ok raw (λ _=>rfl) qX qY
theorem plain:rep.Plain:=κ.r5
def zero:Value:= .agg #[.int .i64 0, .int .i64 0, .int .i64 0, .int .i64 0, .int .i64 0, .int .i64 0, .int .i64 0]
theorem lS:∀ (j:Nat) u,zero.cells[j]? =some u→rep.raw j u:=by
 intro j u hu;have hu:(#[(.int .i64 0:Value),(.int .i64 0:Value),(.int .i64 0:Value),(.int .i64 0:Value),(.int .i64 0:Value),(.int .i64 0:Value),(.int .i64 0:Value)]:Array Value)[j]? =some u:=hu
 match j,hu with
 | 0,hu=>exact ⟨_,(Option.some.inj hu).symm⟩
 | 1,hu=>exact ⟨_,(Option.some.inj hu).symm⟩
 | 2,hu=>exact ⟨_,(Option.some.inj hu).symm⟩
 | 3,hu=>exact ⟨_,(Option.some.inj hu).symm⟩
 | 4,hu=>exact ⟨_,(Option.some.inj hu).symm⟩
 | 5,hu=>exact ⟨_,(Option.some.inj hu).symm⟩
 | 6,hu=>exact ⟨_,(Option.some.inj hu).symm⟩
 | j+7,hu=>cases hu
theorem info:(prog.info? 66).map (λ i=>(i.zero,i.size,i.bytes))=some (some zero,7,56):=by kernel_rfl
theorem at_ {by_:Nat} {w:World} {A:Option Addr} {c:Nat} {l:List aW} (h:rep.aH by_ w A c l) (aE:0<l.length):
  ∃ b o,A=some ⟨b,o,none⟩∧∀ (i:Nat) (a:aW),l[i]? =some a→w.cell? ⟨b,o+i * 7,none⟩=some (.int .i64 (a.id))∧w.cell? ⟨b,o+i * 7+1,none⟩=some (.int .i64 (a.owner))∧w.cell? ⟨b,o+i * 7+2,none⟩=some (.int .i64 (a.kind))∧w.cell? ⟨b,o+i * 7+3,none⟩=some (.int .i64 (a.spot.x))∧w.cell? ⟨b,o+i * 7+4,none⟩=some (.int .i64 (a.spot.y))∧w.cell? ⟨b,o+i * 7+5,none⟩=some (.int .i64 (a.cG))∧w.cell? ⟨b,o+i * 7+6,none⟩=some (.int .i64 (a.load)):=by
 obtain ⟨b,o,e,hc⟩:=h.at_ aE;refine ⟨b,o,e,λ i a ha=> ?_⟩;obtain ⟨es,⟨rfl,_⟩,ay⟩:=hc i a ha;exact ⟨ay 0 _ Z,ay 1 _ Z,ay 2 _ Z,ay 3 _ Z,ay 4 _ Z,ay 5 _ Z,ay 6 _ Z⟩
theorem AU {by_:Nat} {w:World} {A:Option Addr} {c:Nat} {l:List aW} (h:rep.aH by_ w A c l):∀ a∈l,a.ok:=κ.aH.AT (R:=rep) (Q:=ok) (fun {w cs a} (h:rep.has w cs a)=>(show cs=a.cells∧a.ok from h).2) h
theorem eu {w:World} {g:Nat} {t:TypeId} {ax:Nat×Nat} {a:aW} (h:aK w g a.cells t ax):w.cell? ⟨g,0,none⟩=some (.int .i64 (a.id))∧w.cell? ⟨g,1,none⟩=some (.int .i64 (a.owner))∧w.cell? ⟨g,2,none⟩=some (.int .i64 (a.kind))∧w.cell? ⟨g,3,none⟩=some (.int .i64 (a.spot.x))∧w.cell? ⟨g,4,none⟩=some (.int .i64 (a.spot.y))∧w.cell? ⟨g,5,none⟩=some (.int .i64 (a.cG))∧w.cell? ⟨g,6,none⟩=some (.int .i64 (a.load)):=
 ⟨h.cell 0,h.cell 1,h.cell 2,h.cell 3,h.cell 4,h.cell 5,h.cell 6⟩
def sh:fr:=(.cons (.int .i64) (.cons (.int .i64) (.cons (.int .i64) (.cons (.cons (.int .i64) (.cons (.int .i64) .nil)) (.cons (.int .i64) (.cons (.int .i64) .nil))))))
theorem opens (w:World) (cs:List Value) (h:sh.gY w cs):∃ a,rep.has w cs a:=by
 obtain ⟨_,_,rfl,_,_,⟨cK,rfl,sk⟩,⟨_,_,rfl,_,_,⟨eh,rfl,dk⟩,⟨_,_,rfl,_,_,⟨gT,rfl,ea⟩,⟨_,_,rfl,_,_,⟨_,_,rfl,_,_,⟨iv,rfl,jl⟩,⟨_,_,rfl,_,_,⟨n6,rfl,QM⟩,rfl⟩⟩,⟨_,_,rfl,_,_,⟨nj,rfl,G8⟩,⟨_,_,rfl,_,_,⟨pH,rfl,aoL⟩,rfl⟩⟩⟩⟩⟩⟩:=h;exact ⟨⟨cK,eh,gT,⟨iv,n6⟩,nj,pH⟩,Z,sk,dk,ea,jl,QM,G8,aoL⟩
end aW
theorem ih {w:World} {cs:List Value} {a:aW} (h:aW.rep.has w cs a):cs=a.cells:=And.left (show cs=a.cells∧a.ok from h)
end Go.Proofs.YtlikikpgmmkjbaaGreat
set_option linter.unusedVariables false
set_option linter.unusedSimpArgs false
namespace Go.Proofs.YtlikikpgmmkjbaaGreat
open Tryz
open Go.RowKit

structure aC where
 wide:Int
 high:Int
 aP:List Int
 deriving DecidableEq,Inhabited
structure ae where
 field:aC
 aY:List ar
 a_:List Int
 bm:List Int
 ag:List aW
 next:Int
 now:Int
 deriving DecidableEq,Inhabited
namespace aC
def LN (p:Int):Bool:=cw p 0 3
def bh (f:aC):Int :=
 if cw f.wide 1 40 && cw f.high 1 40 then (if decide ((f.aP.length:Int)=f.wide * f.high) && f.aP.all LN then 0 else 4) else 1
def ek (f:aC) (c:ar):Bool:=cw c.x 0 (f.wide - 1) && cw c.y 0 (f.high - 1)
def place (f:aC) (c:ar):Int:=f.aP.getD (c.y * f.wide+c.x).toNat 0
def ground (f:aC) (c:ar):Bool:=f.ek c && f.place c != 1
theorem jg {f:aC} (h:f.bh=0):1≤f.wide∧f.wide≤40∧1≤f.high∧f.high≤40∧(f.aP.length:Int)=f.wide * f.high∧∀ p∈f.aP,0≤p∧p≤3:=by
 unfold bh at h;split at h
 ·rename_i γ
  rw [Bool.and_eq_true] at γ;have a:=jk γ.1;have b:=jk γ.2;split at h
  ·rename_i aa
   rw [Bool.and_eq_true,List.all_eq_true] at aa;exact ⟨a.1,a.2,b.1,b.2,by simpa using aa.1,λ p hp=>jk (aa.2 p hp)⟩
  ·cases h
 ·cases h
theorem V7 {f:aC} (h:(cw f.wide 1 40 && cw f.high 1 40)=false):f.bh=1:=by unfold bh;rw [h];rfl
theorem idx {f:aC} (h:f.bh=0) {c:ar} (hc:f.ek c=true):0≤c.y * f.wide+c.x∧c.y * f.wide+c.x<(f.aP.length:Int)∧0≤c.x∧c.x<f.wide∧0≤c.y∧c.y<f.high:=by
 obtain ⟨g1,g2,g3,g4,g5,_⟩:=jg h;unfold ek at hc;rw [Bool.and_eq_true] at hc;have a:=jk hc.1;have b:=jk hc.2;have aU:0≤c.y * f.wide:=Int.mul_nonneg b.1 (by omega);have bc:c.y * f.wide≤(f.high - 1) * f.wide:=Int.mul_le_mul_of_nonneg_right b.2 (by omega);have cy:(f.high - 1) * f.wide=f.wide * f.high - f.wide:=by rw [Int.sub_mul,Int.one_mul,Int.mul_comm]
 rw [g5];omega
theorem ez {f:aC} (h:f.bh=0):f.aP.length≤1600:=by
 obtain ⟨g1,g2,g3,g4,g5,_⟩:=jg h;have bc:f.wide * f.high≤40 * 40:=Int.mul_le_mul g2 g4 (by omega) (by omega);omega
end aC
namespace aC
def dh (f:aC) (c:ar):Int:=if f.bh≠0 then f.bh else if f.ek c then 0 else 7
def lf (f:aC) (c:ar):Int:=if f.bh≠0 then 0 else if f.ek c then f.place c else 0
theorem NQ {f:aC} {c:ar} (h:f.bh≠0):f.dh c=f.bh∧f.lf c=0:=by unfold dh lf;rw [if_pos h,if_pos h];exact ⟨Z,Z⟩
theorem FF {f:aC} {c:ar} (h:f.bh=0) (aa:f.ek c=false):f.dh c=7∧f.lf c=0:=by unfold dh lf;simp [h,aa]
theorem kQ {f:aC} {c:ar} (h:f.bh=0) (aa:f.ek c=true):f.dh c=0∧f.lf c=f.place c:=by unfold dh lf;simp [h,aa]
theorem aoE {f:aC} {c:ar} (h:c.x<0∨f.wide≤c.x∨c.y<0∨f.high≤c.y):f.ek c=false:=by
 unfold ek;rcases h with h | h | h | h
 ·rw [nT (.inl h)];rfl
 ·rw [nT (n:=c.x) (.inr (by omega))];rfl
 ·rw [nT (n:=c.y) (.inl h),Bool.and_false]
 ·rw [nT (n:=c.y) (.inr (by omega)),Bool.and_false]
theorem aoD {f:aC} {c:ar} (γ:0≤c.x) (aa:c.x<f.wide) (au:0≤c.y) (a1:c.y<f.high):f.ek c=true:=by
 unfold ek;rw [mU γ (by omega),mU au (by omega)];rfl
end aC
def aBe (k:Int):Option (Int×Int×Int×Int):=if k=1 then some (10,1,1,5) else if k=2 then some (20,2,4,12) else none
namespace ae
def uv (W:ae) (i:Nat):Bool:=W.field.ground (W.aY.getD i default) && !(W.aY.take i).contains (W.aY.getD i default) && cw (W.a_.getD i 0) 0 1000000
def mn (W:ae):Bool:=decide (W.a_.length=W.aY.length) && (List.range W.aY.length).all W.uv
def uw (W:ae) (i:Nat):Bool:=cw (W.bm.getD i 0) 0 1000000 && (decide (W.bm.getD i 0≤0) || W.field.aP.getD i 0 == 3)
def na (W:ae):Bool:=decide (W.bm.length=W.field.aP.length) && (List.range W.bm.length).all W.uw
def ik (W:ae) (i:Nat):Int:=if i=0 then 0 else (W.ag.getD (i - 1) default).id
def iG (k:Int):Int:=if k=1 then 10 else if k=2 then 20 else 0
def xD (k:Int):Int:=if k=1 then 5 else 0
def HG (W:ae) (fh qf:Int) (t:aW):Bool :=
 cw t.kind 1 2 && cw t.id fh qf && cw t.owner 0 ((W.aY.length:Int) - 1) && W.field.ground t.spot && cw t.cG 1 (iG t.kind) && cw t.load 0 (xD t.kind)
def hM (W:ae) (k:Nat):List ar:=(W.ag.take k).map (·.spot)
def ux (W:ae) (i:Nat):Bool:=W.HG (wrap64 (W.ik i+1)) (wrap64 (W.next - 1)) (W.ag.getD i default) && !(W.hM i).contains (W.ag.getD i default).spot
def iV (W:ae):Bool:=(List.range W.ag.length).all W.ux && (cw W.next 1 1000000 && cw W.now 0 1000000)
def bh (W:ae):Int :=
 if W.field.bh≠0 then W.field.bh else if 8<W.aY.length∨100<W.ag.length then 2 else if W.mn && W.na && W.iV then 0 else 4
structure b6 where
 P:Option Addr
 B:Option Addr
 S:Option Addr
 M:Option Addr
 T:Option Addr
 p:Nat
 b:Nat
 s:Nat
 m:Nat
 t:Nat
def Dk (A:Option Addr) (c:Nat) (f:aC):List Value:= [.int .i64 f.wide, .int .i64 f.high, .slice A f.aP.length c]
def cells (h:b6) (W:ae):List Value :=
 [.int .i64 W.field.wide, .int .i64 W.field.high, .slice h.P W.field.aP.length h.p, .slice h.B W.aY.length h.b, .slice h.S W.a_.length h.s, .slice h.M W.bm.length h.m, .slice h.T W.ag.length h.t, .int .i64 W.next, .int .i64 W.now]
theorem ahy (h:b6) (W:ae):(cells h W).toArray=#[.int .i64 W.field.wide, .int .i64 W.field.high, .slice h.P W.field.aP.length h.p, .slice h.B W.aY.length h.b, .slice h.S W.a_.length h.s, .slice h.M W.bm.length h.m, .slice h.T W.ag.length h.t, .int .i64 W.next, .int .i64 W.now]:=rfl
structure Has (w:World) (h:b6) (W:ae):Prop where
 P:bz.aH 8 w h.P h.p W.field.aP
 B:ar.rep.aH 16 w h.B h.b W.aY
 S:bz.aH 8 w h.S h.s W.a_
 M:bz.aH 8 w h.M h.m W.bm
 T:aW.rep.aH 56 w h.T h.t W.ag
 nums:fE W.field.wide∧fE W.field.high∧fE W.next∧fE W.now
theorem Has.keep {w w':World} {h:b6} {W:ae} (hw:Has w h W) (Φ:Below w.heap.size w w'):Has w' h W :=
 ⟨hw.P.keep Φ,hw.B.keep Φ,hw.S.keep Φ,hw.M.keep Φ,hw.T.keep Φ,hw.nums⟩
def akX:fr:= .cons (.int .i64) (.cons (.int .i64) (.cons (.slice (.int .i64) 8) .nil))
def sh:fr:= .cons akX (.cons (.slice ar.sh 16) (.cons (.slice (.int .i64) 8) (.cons (.slice (.int .i64) 8) (.cons (.slice aW.sh 56) (.cons (.int .i64) (.cons (.int .i64) .nil))))))
theorem opens (w:World) (cs:List Value) (h:sh.gY w cs):∃ h W,cs=cells h W∧Has w h W:=by
 obtain ⟨_,_,rfl,_,_,⟨_,_,rfl,_,_,⟨cK,rfl,sk⟩,_,_,rfl,_,_,⟨eh,rfl,dk⟩,_,_,rfl,_,_,b3,rfl⟩,_,_,rfl,_,_,aX,_,_,rfl,_,_,hS,_,_,rfl,_,_,tI,_,_,rfl,_,_,bQ,_,_,rfl,_,_,⟨gT,rfl,ea⟩,_,_,rfl,_,_,⟨iv,rfl,jl⟩,rfl⟩:=h;obtain ⟨d',ag3,lP,rfl,wL⟩:=κ.vL (R:=bz) RU rfl (by decide) b3;obtain ⟨fa,N6,QV,rfl,aV⟩:=κ.vL (R:=ar.rep) ar.opens rfl (by decide) aX;obtain ⟨fb,ag4,aoV,rfl,er⟩:=κ.vL (R:=bz) RU rfl (by decide) hS;obtain ⟨eE,ag2,aaX,rfl,jy⟩:=κ.vL (R:=bz) RU rfl (by decide) tI;obtain ⟨ee,fL,zl,rfl,oR⟩:=κ.vL (R:=aW.rep) aW.opens rfl (by decide) bQ;exact ⟨⟨d',fa,fb,eE,ee,ag3,N6,ag4,ag2,fL⟩,⟨⟨cK,eh,lP⟩,QV,aoV,aaX,zl,gT,iv⟩,Z,wL,aV,er,jy,oR,sk,dk,ea,jl⟩
theorem XA {w:World} {g:Nat} {t:TypeId} {ax:Nat×Nat} {A:Option Addr} {c:Nat} {f:aC} (h:aK w g (Dk A c f) t ax):
  w.cell? ⟨g,0,none⟩=some (.int .i64 f.wide)∧w.cell? ⟨g,1,none⟩=some (.int .i64 f.high)∧w.cell? ⟨g,2,none⟩=some (.slice A f.aP.length c):=⟨h.cell 0,h.cell 1,h.cell 2⟩
theorem qt {w:World} {g:Nat} {t:TypeId} {ax:Nat×Nat} {a:b6} {W:ae} (h:aK w g (cells a W) t ax):
  w.cell? ⟨g,0,none⟩=some (.int .i64 W.field.wide)∧w.cell? ⟨g,1,none⟩=some (.int .i64 W.field.high)∧w.cell? ⟨g,2,none⟩=some (.slice a.P W.field.aP.length a.p)∧
  w.cell? ⟨g,3,none⟩=some (.slice a.B W.aY.length a.b)∧w.cell? ⟨g,4,none⟩=some (.slice a.S W.a_.length a.s)∧w.cell? ⟨g,5,none⟩=some (.slice a.M W.bm.length a.m)∧w.cell? ⟨g,6,none⟩=some (.slice a.T W.ag.length a.t)∧
  w.cell? ⟨g,7,none⟩=some (.int .i64 W.next)∧w.cell? ⟨g,8,none⟩=some (.int .i64 W.now):=⟨h.cell 0,h.cell 1,h.cell 2,h.cell 3,h.cell 4,h.cell 5,h.cell 6,h.cell 7,h.cell 8⟩
end ae
end Go.Proofs.YtlikikpgmmkjbaaGreat
set_option linter.unusedVariables false
set_option linter.unusedSimpArgs false
namespace Go.Proofs.YtlikikpgmmkjbaaGreat
open Tryz
open Go.RowKit

theorem aC.iD {f:aC} {c:ar} (h:f.ground c=true):f.ek c=true:=by
 unfold aC.ground at h;rw [Bool.and_eq_true] at h;exact h.1
namespace ae
theorem V5 {W:ae} (h:W.field.bh≠0):W.bh=W.field.bh:=by unfold bh;rw [if_pos h]
theorem V6 {W:ae} (h:W.field.bh=0) (aa:8<W.aY.length∨100<W.ag.length):W.bh=2:=by unfold bh;rw [if_neg (by simpa using h),if_pos aa]
theorem Oc {W:ae} (h:W.field.bh=0) (aa:¬ (8<W.aY.length∨100<W.ag.length)):W.bh=if W.mn && W.na && W.iV then 0 else 4:=by unfold bh;rw [if_neg (by simpa using h),if_neg aa]
end ae
theorem ae.arq {W:ae} (h:¬ W.a_.length=W.aY.length):W.mn=false:=by unfold ae.mn;rw [decide_eq_false h];rfl
theorem ae.RE {W:ae} {k:Nat} (av:k<W.aY.length) (h:W.uv k=false):W.mn=false:=by
 unfold ae.mn;rw [Bool.and_eq_false_iff];right;rw [List.all_eq_false];exact ⟨k,List.mem_range.2 av,by rw [h];simp⟩
theorem ae.abU {W:ae} (h:W.a_.length=W.aY.length) (ha:∀ k,k<W.aY.length→W.uv k=true):W.mn=true:=by
 unfold ae.mn;rw [decide_eq_true h,Bool.true_and,List.all_eq_true];exact λ k av=>ha k (List.mem_range.1 av)
theorem ae.ap6 {W:ae} (h:¬ W.bm.length=W.field.aP.length):W.na=false:=by unfold ae.na;rw [decide_eq_false h];rfl
theorem ae.abu {W:ae} {k:Nat} (av:k<W.bm.length) (h:W.uw k=false):W.na=false:=by
 unfold ae.na;rw [Bool.and_eq_false_iff];right;rw [List.all_eq_false];exact ⟨k,List.mem_range.2 av,by rw [h];simp⟩
theorem ae.abv {W:ae} (h:W.bm.length=W.field.aP.length) (ha:∀ k,k<W.bm.length→W.uw k=true):W.na=true:=by
 unfold ae.na;rw [decide_eq_true h,Bool.true_and,List.all_eq_true];exact λ k av=>ha k (List.mem_range.1 av)
theorem ae.ry {W:ae} {k:Nat} (av:k<W.ag.length) (h:W.ux k=false):W.iV=false:=by
 unfold ae.iV;rw [Bool.and_eq_false_iff];left;rw [List.all_eq_false];exact ⟨k,List.mem_range.2 av,by rw [h];simp⟩
def fV (id:Int) (t:aW):Bool:=t.id == id
def ov (p:ar) (t:aW):Bool:=decide (t.spot=p)
def avw (W:ae) (p:aW→Bool):Int:=if W.bh=0 then max (gh p W.ag) 0 else 0
def ad7 (W:ae) (p:aW→Bool):Bool:=decide (W.bh=0) && decide (0≤gh p W.ag)
def aqk (c:ar) (r:Int) (t:aW):Bool:=cw c.x (t.spot.x - r) (t.spot.x+r) && cw c.y (t.spot.y - r) (t.spot.y+r)
def aDp (W:ae) (c:ar) (r:Int):List Int:=(W.ag.filter (aqk c r)).map (·.id)
def aDo (W:ae) (r:Int):Int:=if W.bh≠0 then W.bh else if cw r 0 12 then 0 else 1
theorem Pj {W:ae} (h:W.bh=0):W.field.bh=0∧W.aY.length≤8∧W.ag.length≤100∧W.mn=true∧W.na=true∧W.iV=true:=by
 by_cases γ:W.field.bh=0
 ·by_cases aa:8<W.aY.length∨100<W.ag.length
  ·rw [ae.V6 γ aa] at h;cases h
  ·rw [ae.Oc γ aa] at h;split at h
   ·rename_i au
    rw [Bool.and_eq_true,Bool.and_eq_true] at au;exact ⟨γ,by omega,by omega,au.1.1,au.1.2,au.2⟩
   ·cases h
 ·rw [ae.V5 γ] at h;exact absurd h γ
theorem Kn {W:ae} (h:W.bh=0) {k:Nat} {t:aW} (aA:W.ag[k]? =some t):W.field.ground t.spot=true∧cw t.kind 1 2=true∧cw t.owner 0 ((W.aY.length:Int) - 1)=true∧cw t.cG 1 (ae.iG t.kind)=true∧cw t.load 0 (ae.xD t.kind)=true∧(W.hM k).contains t.spot=false∧cw t.id (wrap64 (W.ik k+1)) (wrap64 (W.next - 1))=true:=by
 obtain ⟨aE,_,_,_,_,b_⟩:=Pj h;unfold ae.iV at b_;rw [Bool.and_eq_true,List.all_eq_true] at b_;have av:=(List.getElem?_eq_some_iff.1 aA).1;have dW:=b_.1 k (List.mem_range.2 av);unfold ae.ux ae.HG at dW;rw [List.getD_eq_getElem?_getD,aA] at dW;simp only [Option.getD_some,Bool.and_eq_true,Bool.not_eq_true'] at dW;obtain ⟨⟨⟨⟨⟨⟨b7,a2⟩,a3⟩,a4⟩,a5⟩,NI⟩,agu⟩:=dW;exact ⟨a4,b7,a3,a5,NI,agu,a2⟩
end Go.Proofs.YtlikikpgmmkjbaaGreat
set_option linter.unusedVariables false
set_option linter.unusedSimpArgs false
namespace Go.Proofs.YtlikikpgmmkjbaaGreat
open Tryz
open Go.RowKit

theorem abw {W:ae} (h:W.bh=0):1≤W.next∧W.next≤1000000∧0≤W.now∧W.now≤1000000:=by
 obtain ⟨_,_,_,_,_,b_⟩:=Pj h;unfold ae.iV at b_;rw [Bool.and_eq_true,Bool.and_eq_true] at b_;have a:=jk b_.2.1;have b:=jk b_.2.2;exact ⟨a.1,a.2,b.1,b.2⟩
theorem wrap_small {x:Int} (γ: -1000≤x) (aa:x≤2000000):wrap64 x=x:=by
 have h:=IntKind.wrap_i64 x;unfold wrap64;first | (rw [h];omega) | omega
theorem aog {W:ae} (h:W.bh=0):∀ (k:Nat) (t:aW),W.ag[k]? =some t→W.ik k<t.id∧t.id<W.next∧0≤W.ik k:=by
 obtain ⟨BU,rq,_,_⟩:=abw h;intro k;induction k with
 | zero =>
  intro t aA;have dW:=jk (Kn h aA).2.2.2.2.2.2;have e:W.ik 0=0:=rfl;rw [e] at dW ⊢;rw [wrap_small (by omega) (by omega),wrap_small (by omega) (by omega)] at dW;omega
 | succ k bk =>
  intro t aA;have bl:=(List.getElem?_eq_some_iff.1 aA).1;obtain ⟨u,hu⟩:=gg (l:=W.ag) (i:=k) (by omega);have fu:=bk u hu;have dW:=jk (Kn h aA).2.2.2.2.2.2;have e:W.ik (k+1)=u.id:=by
   unfold ae.ik;rw [if_neg (by omega),List.getD_eq_getElem?_getD,Nat.add_sub_cancel,hu];rfl
  rw [e] at dW ⊢;rw [wrap_small (by omega) (by omega),wrap_small (by omega) (by omega)] at dW;omega
end Go.Proofs.YtlikikpgmmkjbaaGreat
set_option linter.unusedVariables false
set_option linter.unusedSimpArgs false
namespace Go.Proofs.YtlikikpgmmkjbaaGreat
open Tryz
open Go.RowKit
structure Jd (f:aC) (jn:Nat) (t:aW):Prop where
 kind:t.kind=1∨t.kind=2
 owner:0≤t.owner∧t.owner<(jn:Int)
 ground:f.ground t.spot=true
 cG:1≤t.cG∧t.cG≤ae.iG t.kind
 load:0≤t.load∧t.load≤ae.xD t.kind
structure Good (W:ae):Prop where
 field:W.field.bh=0
 jn:W.aY.length≤8
 eo:W.ag.length≤100
 sl:W.a_.length=W.aY.length
 aY:∀ (i:Nat) c,W.aY[i]? =some c→W.field.ground c=true∧(W.aY.take i).contains c=false
 a_:∀ (i:Nat) s,W.a_[i]? =some s→0≤s∧s≤1000000
 uu:W.bm.length=W.field.aP.length
 bm:∀ (i:Nat) m,W.bm[i]? =some m→0≤m∧m≤1000000∧(m≤0∨W.field.aP.getD i 0=3)
 ag:∀ (i:Nat) t,W.ag[i]? =some t→Jd W.field W.aY.length t
 ids:∀ (i:Nat) t,W.ag[i]? =some t→W.ik i<t.id∧t.id<W.next∧0≤W.ik i
 hM:∀ (i:Nat) t,W.ag[i]? =some t→(W.hM i).contains t.spot=false
 next:1≤W.next∧W.next≤1000000
 now:0≤W.now∧W.now≤1000000
theorem Good.zD {W:ae} (h:W.bh=0):Good W:=by
 obtain ⟨aE,fu,tF,hp,hm,aA⟩:=Pj h;obtain ⟨BU,rq,nX,pz⟩:=abw h;unfold ae.mn at hp;unfold ae.na at hm;rw [Bool.and_eq_true,List.all_eq_true] at hp hm;have p':W.a_.length=W.aY.length:=by simpa using hp.1
 have Bw:W.bm.length=W.field.aP.length:=by simpa using hm.1
 refine ⟨aE,fu,tF,p',λ i c hc=> ?_,λ i s hs=> ?_,Bw,λ i m ao=> ?_,λ i t ao=> ?_,λ i t ao=>aog h i t ao,λ i t ao=>(Kn h ao).2.2.2.2.2.1,⟨BU,rq⟩,⟨nX,pz⟩⟩
 ·have bl:=(List.getElem?_eq_some_iff.1 hc).1;have:=hp.2 i (List.mem_range.2 bl);unfold ae.uv at this;rw [List.getD_eq_getElem?_getD,hc] at this;simp only [Option.getD_some,Bool.and_eq_true,Bool.not_eq_true'] at this;exact ⟨this.1.1,this.1.2⟩
 ·have bl:=(List.getElem?_eq_some_iff.1 hs).1;have:=hp.2 i (List.mem_range.2 (by omega));unfold ae.uv at this;rw [Bool.and_eq_true] at this;have aa:=jk this.2;rw [List.getD_eq_getElem?_getD,hs] at aa;exact aa
 ·have bl:=(List.getElem?_eq_some_iff.1 ao).1;have:=hm.2 i (List.mem_range.2 bl);unfold ae.uw at this;rw [List.getD_eq_getElem?_getD,ao,Bool.and_eq_true,Bool.or_eq_true] at this;have aa:=jk this.1;refine ⟨aa.1,aa.2, ?_⟩;rcases this.2 with au | au
  ·exact .inl (by simpa using au)
  ·exact .inr (by simpa using au)
 ·obtain ⟨b7,a2,a3,a4,a5,_,_⟩:=Kn h ao;have eF:=jk a2;have fK:=jk a3;have wS:=jk a4;have C1:=jk a5;exact ⟨by omega,⟨fK.1,by omega⟩,b7,wS,C1⟩
theorem Good.bh {W:ae} (h:Good W):W.bh=0:=by
 have hp:W.mn=true:=ae.abU h.sl λ k av=>by
  obtain ⟨c,hc⟩:=gg av;obtain ⟨s,hs⟩:=gg (l:=W.a_) (i:=k) (by rw [h.sl];exact av);unfold ae.uv;rw [List.getD_eq_getElem?_getD,hc,List.getD_eq_getElem?_getD,hs];have γ:=h.aY k c hc;have aa:=h.a_ k s hs;simp only [Option.getD_some];rw [γ.1,γ.2,mU aa.1 aa.2];rfl
 have hm:W.na=true:=ae.abv h.uu λ k av=>by
  obtain ⟨m,hm⟩:=gg av;have γ:=h.bm k m hm;unfold ae.uw;rw [List.getD_eq_getElem?_getD,hm];simp only [Option.getD_some];rw [mU γ.1 γ.2.1,Bool.true_and,Bool.or_eq_true];rcases γ.2.2 with au | au
  ·exact .inl (by simpa using au)
  ·exact .inr (by simpa using au)
 have aA:W.iV=true:=by
  unfold ae.iV;rw [mU h.next.1 h.next.2,mU h.now.1 h.now.2,Bool.and_true,Bool.and_true,List.all_eq_true];intro k av;obtain ⟨t,aA⟩:=gg (List.mem_range.1 av);have γ:=h.ag k t aA;have aa:=h.ids k t aA;have au:=h.hM k t aA;have hn:=h.next;unfold ae.ux ae.HG;rw [List.getD_eq_getElem?_getD,aA];simp only [Option.getD_some];have dk:cw t.kind 1 2=true:=by
   rcases γ.kind with h | h
   ·exact mU (by omega) (by omega)
   ·exact mU (by omega) (by omega)
  have ea:cw t.id (W.ik k+1) (W.next - 1)=true:=mU (by omega) (by omega);have jl:cw t.owner 0 ((W.aY.length:Int) - 1)=true:=mU γ.owner.1 (by have:=γ.owner.2;omega);rw [wrap_small (by omega) (by omega),wrap_small (by omega) (by omega),dk,ea,jl,au,γ.ground,mU γ.cG.1 γ.cG.2,mU γ.load.1 γ.load.2];rfl
 rw [ae.Oc h.field (by have:=h.jn;have:=h.eo;omega),hp,hm,aA];rfl
end Go.Proofs.YtlikikpgmmkjbaaGreat
set_option linter.unusedVariables false
set_option linter.unusedSimpArgs false
namespace Go.Proofs.YtlikikpgmmkjbaaGreat
open Tryz
open Go.RowKit
structure bf (w:World) (aB:Nat) (a:ae.b6) (W:ae):Prop where
 P:bz.aF 3 8 w aB (κ.af a.P) a.P a.p W.field.aP
 B:ar.rep.aF 49 16 w aB (κ.af a.B) a.B a.b W.aY
 S:bz.aF 3 8 w aB (κ.af a.S) a.S a.s W.a_
 M:bz.aF 3 8 w aB (κ.af a.M) a.M a.m W.bm
 T:aW.rep.aF 66 56 w aB (κ.af a.T) a.T a.t W.ag
 apart:(κ.af a.P++κ.af a.B++κ.af a.S++κ.af a.M++κ.af a.T).Nodup
 nums:fE W.field.wide∧fE W.field.high∧fE W.next∧fE W.now
theorem bf.has {w:World} {B:Nat} {a:ae.b6} {W:ae} (h:bf w B a W):ae.Has w a W:=⟨h.P.has,h.B.has,h.S.has,h.M.has,h.T.has,h.nums⟩
theorem bf.later {w w':World} {B:Nat} {a:ae.b6} {W:ae} (h:bf w B a W) (Φ:Below w.heap.size w w'):bf w' B a W:=⟨h.P.later Φ,h.B.later Φ,h.S.later Φ,h.M.later Φ,h.T.later Φ,h.apart,h.nums⟩
def bf.b4 (a:ae.b6):List Nat:=κ.af a.P++κ.af a.B++κ.af a.S++κ.af a.M++κ.af a.T
theorem bf.lt {w:World} {B:Nat} {a:ae.b6} {W:ae} (h:bf w B a W):∀ g∈bf.b4 a,B≤g∧g<w.heap.size:=by
 intro g aO;unfold bf.b4 at aO;simp only [List.mem_append] at aO;rcases aO with (((aO | aO) | aO) | aO) | aO
 ·exact h.P.lt g aO
 ·exact h.B.lt g aO
 ·exact h.S.lt g aO
 ·exact h.M.lt g aO
 ·exact h.T.lt g aO
theorem bf.other {w:World} {B:Nat} {a:ae.b6} {W:ae} (h:bf w B a W) {p:Addr} (hp:p.block∉bf.b4 a) (u:Value):bf (w.setCell p u) B a W:=by
 unfold bf.b4 at hp;simp only [List.mem_append,not_or] at hp;exact ⟨h.P.other hp.1.1.1.1 u,h.B.other hp.1.1.1.2 u,h.S.other hp.1.1.2 u,h.M.other hp.1.2 u,h.T.other hp.2 u,h.apart,h.nums⟩
theorem Ea {w:World} {B:Nat} {A:Option Addr} {α:Type} {R:κ α} {E by_ c:Nat} {l:List α} (h:R.aF E by_ w B (κ.af A) A c l) {g:Nat} (aO:g<B):g∉κ.af A:=λ hm=>by have:=h.lt g hm;omega
theorem zZ {w:World} {g:Nat} {cK eh gT iv n6 nj pH sH sI:Value} {t:TypeId} {ax:Nat×Nat} (h:aK w g [cK,eh,gT,iv,n6,nj,pH,sH,sI] t ax):w.cell? ⟨g,0,none⟩=some cK∧w.cell? ⟨g,1,none⟩=some eh∧w.cell? ⟨g,2,none⟩=some gT∧w.cell? ⟨g,3,none⟩=some iv∧w.cell? ⟨g,4,none⟩=some n6∧w.cell? ⟨g,5,none⟩=some nj∧w.cell? ⟨g,6,none⟩=some pH∧w.cell? ⟨g,7,none⟩=some sH∧w.cell? ⟨g,8,none⟩=some sI :=
 ⟨h.cell 0,h.cell 1,h.cell 2,h.cell 3,h.cell 4,h.cell 5,h.cell 6,h.cell 7,h.cell 8⟩
theorem Ji {dL ij:List Nat} {n m:Nat} (γ:dL.Nodup∧∀ g∈dL,g<n) (aa:ij.Nodup) (au:∀ g∈ij,n≤g∧g<m) (aAq:n≤m):(dL++ij).Nodup∧∀ g∈dL++ij,g<m:=by
 refine ⟨List.nodup_append.2 ⟨γ.1,aa,λ a ha b Φ e=> ?_⟩,λ g aO=> ?_⟩
 ·have:=γ.2 a ha;have:=(au b Φ).1;omega
 ·rcases List.mem_append.1 aO with aO | aO
  ·have:=γ.2 g aO;omega
  ·exact (au g aO).2
theorem rX (A:Option Addr):(κ.af A).Nodup:=by cases A<;>simp [κ.af]
theorem aqm {w:World} {g:Nat} {z0 jv z2 z3 z4 z5 avR avS avT:Value} {t:TypeId} {ax:Nat×Nat} (h:aK w g [z0,jv,z2,z3,z4,z5,avR,avS,avT] t ax) (cK eh gT iv n6 nj pH sH sI:Value):aK (((((((((w.setCell ⟨g,0,none⟩ cK).setCell ⟨g,1,none⟩ eh).setCell ⟨g,2,none⟩ gT).setCell ⟨g,3,none⟩ iv).setCell ⟨g,4,none⟩ n6).setCell ⟨g,5,none⟩ nj).setCell ⟨g,6,none⟩ pH).setCell ⟨g,7,none⟩ sH).setCell ⟨g,8,none⟩ sI) g [cK,eh,gT,iv,n6,nj,pH,sH,sI] t ax :=
 (((((((((h.set 0 cK).set 1 eh).set 2 gT).set 3 iv).set 4 n6).set 5 nj).set 6 pH).set 7 sH).set 8 sI)
theorem bf.nine {w:World} {aB:Nat} {a:ae.b6} {W:ae} {g:Nat} (h:bf w aB a W) (aO:g∉bf.b4 a) (cK eh gT iv n6 nj pH sH sI:Value):bf (((((((((w.setCell ⟨g,0,none⟩ cK).setCell ⟨g,1,none⟩ eh).setCell ⟨g,2,none⟩ gT).setCell ⟨g,3,none⟩ iv).setCell ⟨g,4,none⟩ n6).setCell ⟨g,5,none⟩ nj).setCell ⟨g,6,none⟩ pH).setCell ⟨g,7,none⟩ sH).setCell ⟨g,8,none⟩ sI) aB a W :=
 (((((((((h.other (p:=⟨g,0,none⟩) aO cK).other (p:=⟨g,1,none⟩) aO eh).other (p:=⟨g,2,none⟩) aO gT).other (p:=⟨g,3,none⟩) aO iv).other (p:=⟨g,4,none⟩) aO n6).other (p:=⟨g,5,none⟩) aO nj).other (p:=⟨g,6,none⟩) aO pH).other (p:=⟨g,7,none⟩) aO sH).other (p:=⟨g,8,none⟩) aO sI)
theorem agS {w0 w:World} {aB g:Nat} (h:Below aB w0 w) (aO:aB≤g) (cK eh gT iv n6 nj pH sH sI:Value):Below aB w0 (((((((((w.setCell ⟨g,0,none⟩ cK).setCell ⟨g,1,none⟩ eh).setCell ⟨g,2,none⟩ gT).setCell ⟨g,3,none⟩ iv).setCell ⟨g,4,none⟩ n6).setCell ⟨g,5,none⟩ nj).setCell ⟨g,6,none⟩ pH).setCell ⟨g,7,none⟩ sH).setCell ⟨g,8,none⟩ sI):=
 (((((((((h.setCell (p:=⟨g,0,none⟩) aO cK).setCell (p:=⟨g,1,none⟩) aO eh).setCell (p:=⟨g,2,none⟩) aO gT).setCell (p:=⟨g,3,none⟩) aO iv).setCell (p:=⟨g,4,none⟩) aO n6).setCell (p:=⟨g,5,none⟩) aO nj).setCell (p:=⟨g,6,none⟩) aO pH).setCell (p:=⟨g,7,none⟩) aO sH).setCell (p:=⟨g,8,none⟩) aO sI)
def UA (w kq:World) (eA:Option Addr) (mm:Nat) (W:ae) (eE:Option Addr) (eX:Nat) (ee:Option Addr) (eK rq:Nat):Prop :=
 ∃ (b':Option Addr) (kS:Nat) (e1:Option Addr) (k0 nX pz:Nat),aK kq w.heap.size [.int .i64 W.field.wide, .int .i64 W.field.high, .slice eA W.field.aP.length mm, .slice b' W.aY.length kS, .slice e1 W.a_.length k0, .slice eE W.bm.length eX, .slice ee W.ag.length eK, .int .i64 W.next, .int .i64 W.now] 28 (0,0)∧
  aK kq (w.heap.size+1) [.int .i64 0, .int .i64 0, .slice none 0 0, .slice none 0 0, .slice none 0 0, .slice none 0 0, .slice none 0 0, .int .i64 0, .int .i64 0] 28 (0,0)∧bz.aF 3 8 kq w.heap.size (κ.af eA) eA mm W.field.aP∧ar.rep.aF 49 16 kq rq (κ.af b') b' kS W.aY∧bz.aF 3 8 kq nX (κ.af e1) e1 k0 W.a_∧
  (∀ g∈κ.af b',rq≤g∧g<nX)∧(∀ g∈κ.af e1,nX≤g∧g<pz)∧Below w.heap.size w kq∧rq≤nX∧nX≤pz∧pz=kq.heap.size
open Tryz
end Go.Proofs.YtlikikpgmmkjbaaGreat
set_option linter.unusedVariables false
set_option linter.unusedSimpArgs false
namespace Go.Proofs.YtlikikpgmmkjbaaGreat
open Tryz
open Go.RowKit

namespace κ
variable {α:Type} {R:κ α}
theorem akE {β:Type} {size:Nat} {X:List (List β)} {i:Nat} {es:List β} (yV:∀ x∈X,x.length=size) (ao:i<X.length):(X.set i es).flatten=X.flatten.take (i * size)++es++X.flatten.drop (i * size+size):=by
 rw [List.set_eq_take_append_cons_drop,if_pos ao,List.flatten_append,List.flatten_cons,Kd i yV,O0 (i+1) yV,Nat.succ_mul,List.append_assoc]
theorem atF {β:Type} {cur es:List β} {p n k:Nat} (av:es.length=k) (γ:p+k≤n) (aa:n≤cur.length):(cur.take p++es++cur.drop (p+k)).take n=(cur.take n).take p++es++(cur.take n).drop (p+k):=by
 apply List.ext_getElem?;intro j;subst av;simp only [List.getElem?_take,List.getElem?_append,List.length_append,List.length_take,List.getElem?_drop]
 grind
theorem aF.acG {E by_ B c i g:Nat} {f:List Nat} {l:List α} {w:World} {q':α} {es:List Value} {cur:Array Value} (h:R.aF E by_ w B f (some ⟨g,0,none⟩) c l) (hp:R.sW) (ao:i<l.length) (I:∀ w,R.has w es q') (q8:w.heap[g]? =some (.cells cur E (0,0))):
  R.aF E by_ (w.setRow g (cur.toList.take (i * R.size)++es++cur.toList.drop (i * R.size+es.length)).toArray) B f (some ⟨g,0,none⟩) c (l.set i q')∧i * R.size+es.length≤cur.toList.length:=by
 obtain ⟨Φ,ps,rfl,hn,bJ,di⟩:=h;have DG:es.length=R.size:=R.len (I w);have az:=LK di;have q9:ps.length=l.length:=di.length;obtain ⟨iE,G1⟩:=bJ;obtain ⟨g',cap,yG,hv,alr,ey,ph,pb,hH,G0,bq⟩:=G1.resolve_left (λ bw=>nomatch bw.1);injection hv with lu zh anX
 injection lu with lu
 injection lu with lu aAG aAH
 subst lu anX;rw [ey] at q8;injection q8 with q8
 injection q8 with q8
 subst q8;have hle:i * R.size+R.size≤l.length * R.size:=by rw [← Nat.succ_mul];exact Nat.mul_le_mul_right _ ao
 have Qk:l.length * R.size≤c * R.size:=Nat.mul_le_mul_right _ ph;have p':yG.toList.length=c * R.size:=by rw [Array.length_toList,hH]
 obtain ⟨x,hx,G3⟩:=di.at_ (dO (l:=l) (u:=q') ao);have hI:x.1= []:=hp.2 G3;have P7:∀ y∈ps,∀ q∈y.1,q≠g:=λ y aG q I e=>by
  obtain ⟨b,Bl⟩:=di.left y aG;rw [hp.2 Bl] at I;simp at I
 have aU:(ps.set i (x.1,es)).map (·.1)=ps.map (·.1):=by
  rw [List.map_set];have:(ps.map (·.1))[i]? =some x.1:=by rw [List.getElem?_map,hx];rfl
  obtain ⟨aa,au⟩:=List.getElem?_eq_some_iff.1 this
  conv=>lhs;rw [← au]
  exact List.set_getElem_self _
 have bc:(ps.set i (x.1,es)).map (·.2)=(ps.map (·.2)).set i es:=by rw [List.map_set]
 have YY:=akE (es:=es) az (by rw [List.length_map];omega:i<(ps.map (·.2)).length);rw [DG];refine ⟨⟨by rw [List.length_set];exact Φ,ps.set i (x.1,es),by rw [aU],hn,⟨?_, .inr ⟨g,c,(yG.toList.take (i * R.size)++es++yG.toList.drop (i * R.size+R.size)).toArray,by rw [List.length_set],alr, ?_,by rw [List.length_set];exact ph,pb, ?_, ?_, ?_⟩⟩, ?_⟩,by omega⟩
 ·rw [bc,YY,List.length_set];simp only [List.length_append,List.length_take,List.length_drop,iE,DG];omega
 ·exact aK.setRow (cur:=yG.toList) (by simpa [aK] using ey) _
 ·rw [List.size_toArray];simp only [List.length_append,List.length_take,List.length_drop,p',DG];omega
 ·rw [List.length_set,bc,YY,← G0];exact atF DG hle (by omega)
 ·intro j u hu;rw [List.getElem?_toArray] at hu;by_cases γ:j<i * R.size
  ·refine bq j u ?_;rw [List.append_assoc,List.getElem?_append_left (by rw [List.length_take];omega),List.getElem?_take,if_pos γ] at hu;rw [← Array.getElem?_toList];exact hu
  ·by_cases aa:j<i * R.size+R.size
   ·rw [List.append_assoc,List.getElem?_append_right (by rw [List.length_take];omega),List.getElem?_append_left (by rw [List.length_take];omega),List.length_take] at hu;have ay:j % R.size=j - i * R.size:=by
     have au:j=R.size * i+(j - i * R.size):=by rw [Nat.mul_comm];omega
     have bO:(j - i * R.size) % R.size=j - i * R.size:=Nat.mod_eq_of_lt (by omega)
     conv=>lhs;rw [au,Nat.mul_add_mod,bO]
    rw [ay];exact R.sx (I w) _ u (by rw [Nat.min_eq_left (by omega)] at hu;exact hu)
   ·refine bq j u ?_;rw [List.getElem?_append_right (by simp only [List.length_append,List.length_take];omega),List.getElem?_drop] at hu;rw [← Array.getElem?_toList];rw [show i * R.size+R.size+(j - (List.take (i * R.size) yG.toList++es).length)=j from by simp only [List.length_append,List.length_take];omega] at hu;exact hu
 ·have PU:cD (λ x a=>R.own (w.setRow g (yG.toList.take (i * R.size)++es++yG.toList.drop (i * R.size+R.size)).toArray) B x.1 x.2 a) ps l:=di.imp λ y a aG Lc=>R.qi Lc λ q I=>(Mod.setRow w g _).block q (R.sw Lc q I).2 (by simpa using P7 y aG q I);exact PU.R_ (P:=λ (x:List Nat×List Value) a=>R.own _ B x.1 x.2 a) (by rw [hI];exact hp.1 (I _))
end κ
section
variable {P:Program} {n:Nat} {E cE:List (Nat×Value)} {a:Act} {w w' w0 aM:World} {Q:Exit→Act→World→Prop} {ops:Array Oper} {v:Value}
variable {d:Option Nat} {ty:TypeId} {pos:String} {bn:Array Edge} {g:Option (Nat×Bool)} {x y z:Operand} {t:TypeId} {rest:List Oper}
theorem L4 {α:Type} {R:κ α} {e by_ B i:Nat} {A:Option Addr} {c:Nat} {l:List α} {q':α} {p:Addr} {es:List Value} (h:R.aF e by_ w B (κ.af A) A c l) (hR:R.sW) (ao:i<l.length) (hx:ev E x=some (.pointer (some p))) (hp:p=⟨b' A,cX A+i * R.size,none⟩) (aG:ev E y=some v) (hc:v.cells=es.toArray)
  (I:∀ w,R.has w es q') (hs:ej P t es.length)
  (av:∀ aM,Mod (κ.af A) w aM→R.aF e by_ aM B (κ.af A) A c (l.set i q')→cm P n ops Q rest E aM):cm P n ops Q (⟨none, .store t x y,ty,pos,bn,none⟩::rest) E w:=by
 obtain ⟨b,rfl⟩:=h.block (by omega);have GL:p=⟨b,i * R.size,none⟩:=by rw [hp];simp [b',cX]
 subst GL;obtain ⟨_,ps,_,_,bJ,_⟩:=id h;obtain ⟨cur,q8,_,_⟩:=bJ.V3;obtain ⟨sj,hle⟩:=κ.aF.acG (q':=q') h hR ao I q8;have fM:=R4 (P:=P) (w:=w) (b:=b) (p:=i * R.size) (cur:=cur.toList) (e:=e) (by simpa [aK] using q8) hc hs (List.all_eq_true.2 (R.one (I w))) hle;refine us (λ n a ha=> ?_) (av _ (Mod.setRow w b _) sj);simp only [execOp,ha.ev hx,ha.ev aG,Instr.storeAt,Instr.sureAddr,Sem.run_bind,Sem.run_pure,Result.andThen_ok,fM]
def RD (A:Option Addr) (axI:Nat):Option Addr:=A
theorem LZ {A:Option Addr} {len cap e s:Nat} {k:IntKind} (ao m:Nat) {i:Int} (aA:P.underlying t=some (.slice e)) (hs:ej P e s) (hx:ev E x=some (.slice A len cap)) (aG:ev E y=some (.int k i)) (γ:i=(ao:Int)) (aa:ao≤cap) (hm:m=ao):c8 P E ⟨d, .slice t x none (some y) none,ty,pos,bn,g⟩ w (.slice (RD A ao) m cap) w:=λ n a ha=>by
 subst γ;subst hm;have γ:P.underlying t=some (.slice (P.elem t)):=by simp [Program.elem,aA]
 have nd:P.elem t=e:=by simp [Program.elem,aA]
 have au:=run_slice_h (P:=P) (w:=w) t A len cap γ k (m:Int) (by omega) (by omega);have a1:=run_sliceAt_slice (P:=P) (w:=w) t (.slice A len cap) none (some (.int k (m:Int))) none γ;rw [nd,hs w] at au;simp only [execOp,ha.ev hx,ha.ev aG,Option.map,a1,au,Sem.run_bind,Result.andThen_ok,Sem.run_pure,sliced,Int.toNat_natCast,Nat.sub_zero];unfold RD;cases A with
 | none=>simp
 | some a=>simp [Addr.add]
end
theorem κ.aH.pre {α:Type} {R:κ α} {by_ c:Nat} {A:Option Addr} {l:List α} {w:World} (h:R.aH by_ w A c l) (k:Nat):R.aH by_ w (RD A k) c (l.take k):=h.Et k
open Tryz
open Go.RowKit
section
variable {P:Program} {n:Nat} {E:List (Nat×Value)} {w:World} {Q:Exit→Act→World→Prop} {ops:Array Oper} {aR:Nat→Nat}
def TF (P:Program) (ops:Array Oper) (Q:Exit→Act→World→Prop) (aR:Nat→Nat) (awD awE:List Nat):Exit→Act→World→Prop :=
 fX (λ a w=>rC P ops (fX (Q .normal)) aR awD a w∧rC P ops (fX (Q .normal)) aR awE a w)
theorem asp {id:Nat} (kY:List (Nat×Nat)) (bN:List Nat) (i:Nat) (wo:List Nat) (j:Nat) (Al:List Nat) (hm:P.follows .mixedOrders=true)
  (aX:(Region.noSelect ops && (bN.length+(wo.length+1)== ops.size) && (wo.length == Al.length) && Nat.blt 1 (mV kY i) && Nat.blt 1 (mV kY j) && A_ ops (mV kY) bN (Array.replicate ops.size false) && (Region.ready .any ops (vT bN (Array.replicate ops.size false))== [i,j]) && iP ops (mV kY) wo ((vT bN (Array.replicate ops.size false)).setIfInBounds i true) && iP ops (mV kY) Al ((vT bN (Array.replicate ops.size false)).setIfInBounds j true))=true)
  (h:iz P n ops (TF P ops Q (mV kY) (i::wo) (j::Al)) (mV kY) bN E w):W P n (.region id ops true) Q E w:=λ a ha=>by
 simp only [Bool.and_eq_true,beq_iff_eq,Nat.blt_eq] at aX;obtain ⟨⟨⟨⟨⟨⟨⟨⟨hs,az⟩,hlen⟩,ao⟩,ay⟩,γ⟩,hr⟩,aa⟩,au⟩:=aX;refine wp_mono (wp_region_any hm (Q:=fX (Q .normal)) ?_) (λ e a w I=>by cases e<;>first | exact I | exact I.elim);have:=NN (P:=P) hs (Q:=fX (Q .normal)) (λ _ _ _ h=>h) (m:=wo.length+1) bN (Array.replicate ops.size false) a w (by simp) γ (h a ha) (λ a w0 ey=>by
  have ey:rC P ops (fX (Q .normal)) (mV kY) (i::wo) a w0∧rC P ops (fX (Q .normal)) (mV kY) (j::Al) a w0:=ey w0 (Ext.bM w0);refine ⟨λ aE=>(by rw [hr] at aE;cases aE),λ q I=> ?_⟩;rw [hr] at I;have I:q=i∨q=j:=by simpa using I
  rcases I with rfl | rfl
  ·obtain ⟨⟨o,bJ,h⟩,_⟩:=ey;rcases h with ⟨av,_⟩ | ⟨av,_⟩ | ⟨av,h⟩
   ·omega
   ·omega
   ·exact ⟨o,bJ, .inr ⟨av,λ w hw=>wpOp_mono (λ a' w' au=>⟨au.1,AW hs (λ _ _ _ h=>h) wo _ _ _ (by simp [R8]) aa au.2⟩) (h w hw)⟩⟩
  ·obtain ⟨_,⟨o,bJ,h⟩⟩:=ey;rcases h with ⟨av,_⟩ | ⟨av,_⟩ | ⟨av,h⟩
   ·omega
   ·omega
   ·exact ⟨o,bJ, .inr ⟨av,λ w hw=>wpOp_mono (λ a' w' bO=>⟨bO.1,by rw [hlen];exact AW hs (λ _ _ _ h=>h) Al _ _ _ (by simp [R8]) au bO.2⟩) (h w hw)⟩⟩)
 rw [az] at this;exact yw _ _ _ _ this _ (Below.refl _ w).drew
theorem akA {wo Al:List Nat} (γ:iz P n ops Q aR wo E w) (aa:iz P n ops Q aR Al E w):N n (TF P ops Q aR wo Al) E w:=λ a ha=>⟨γ a ha,aa a ha⟩
end
open Tryz
section
open Go.RowKit
def iC (ro:Option Nat):Fence:= {Fence.wide with round:=ro}
section
variable {P:Program} {ro:Option Nat} {m:Nat} {ops:Array Oper} {Q:Exit→Act→World→Prop} {w:World}
theorem V0 {f:FuncId} {args:Array Value} {R:Ending→World→Prop} (h:Calls P f args w R):CallsIn (iC ro) m P f args w R:=(callsIn_wide (n:=m)).2 h
theorem asH {row:String} {args:Array Value} {R:Value→World→Prop} (h:Rows P row args w R):RowsIn (iC ro) m P row args w R:=λ c cs _ =>
 let ⟨v,w',r,s⟩:=h c cs;⟨v,w',r,stepsIn_wide.2 s⟩
def zB (o:Oper):Bool:=match o.op with
 | .defer _=>false
 | _=>true
theorem abL {o:Oper} {a:Act} {K:Act→World→Prop} (hd:zB o=true) (h:o.wp P a w K Q):o.wpIn (iC ro) m P a w K Q:=by
 refine ⟨λ _ _=>trivial, ?_⟩;have hs:o.semAt (iC ro).round a.eval=execOp a.eval o:=Oper.semAt_eq _ _ _ (λ c e=>by simp [zB,e] at hd);rw [hs];unfold Oper.wp at h;generalize (execOp a.eval o).run P w=r at *
 cases r with
 | ok x w' =>
  cases x<;>simp only [Oper.upon] at h<;>simp only [Oper.uponIn] <;>
   first
    | exact h
    | exact h.elim
    | exact ⟨λ h=>by simp [iC,Fence.wide] at h,V0 h⟩
    | exact ⟨λ h=>by simp [iC,Fence.wide] at h,asH h⟩
 | halt x w'=>cases x<;>simp only [Oper.upon] at h<;>simp only [Oper.uponIn]<;>first | exact h | exact h.elim
theorem QX:∀ (l:List Oper) {a:Act} {w:World},l.all zB=true→wpList P ops Q l a w→(∀ c a w,¬ Q (.panic c) a w)→¬ LetsOut Q→wpListIn (iC ro) m P ops Q l a w
 | [],a,w,_,h,_,_=>by unfold wpList at h;unfold wpListIn;exact h
 | o::rest,a,w,hd,h,hp,bJ=>by
  rw [List.all_cons,Bool.and_eq_true] at hd;unfold wpList at h;unfold wpListIn;split at h
  ·rename_i hw
   rw [if_pos hw];rcases h with h | ⟨h,x⟩
   ·exact Oper.wpIn_mono (λ a w h=>QX rest hd.2 h hp bJ) (abL hd.1 h)
   ·exact (bJ x).elim
  ·rename_i hw
   rw [if_neg hw];exact ⟨λ _ _=>trivial,QX rest hd.2 h hp bJ⟩
theorem avx {i:Nat} {K:Act→World→Prop} {a:Act} {w:World} (hd:ops.toList.all zB=true) (bJ:¬ LetsOut Q) (h:wpOp P ops Q i K a w):wpOpIn (iC ro) m P ops Q i K a w:=by
 unfold wpOp at h;unfold wpOpIn;split at h
 ·rename_i ao;simp only [ao];exact h
 ·rename_i o ao
  simp only [ao];have amp:zB o=true:=List.all_eq_true.1 hd o (by rw [Array.mem_toList_iff];exact Array.mem_of_getElem? ao);split at h
  ·rename_i hw
   rw [if_pos hw];rcases h with h | ⟨h,x⟩
   ·exact abL amp h
   ·exact (bJ x).elim
  ·rename_i hw
   rw [if_neg hw];exact ⟨λ _ _=>trivial,h⟩
theorem Vm (hd:ops.toList.all zB=true) (bJ:¬ LetsOut Q):∀ (f:Nat) (l:Array Bool) {a:Act} {w:World},wpAny P .any ops Q f l a w→wpAnyIn (iC ro) m P .any ops Q f l a w
 | 0,l,a,w,h=>h
 | f+1,l,a,w,h=>⟨h.1,λ i ao=>wpOpIn_mono (λ a w h=>Vm hd bJ f _ h) (avx hd bJ (h.2 i ao))⟩
end
theorem abA {K:Act→World→Prop}:∀ c a w,¬ fX K (.panic c) a w:=λ _ _ _ h=>h
theorem abz {K:Act→World→Prop}:¬ LetsOut (fX K):=λ ⟨_,_,h⟩=>h
theorem aby {K:Exit→Act→World→Prop}:∀ e a w,fX (K .normal) e a w→K e a w:=λ e a w h=>by cases e<;>first | exact h | exact h.elim
namespace Rd
section
variable {P:Program} {ro:Option Nat} {m n:Nat} {ops:Array Oper} {Q:Exit→Act→World→Prop} {w w0:World} {E cE:List (Nat×Value)} {id Ld:Nat} {c:Operand} {x y:Code} {i j:Int} {bN:List Nat} {v:Value}
def W (ro:Option Nat) (m:Nat) (P:Program) (n:Nat) (c:Code) (Q:Exit→Act→World→Prop) (E:List (Nat×Value)) (w:World):Prop:=∀ a,dH n E a→c.wpIn (iC ro) m P Q a w
abbrev M (n:Nat) (Q:Exit→Act→World→Prop) (E:List (Nat×Value)) (w:World):Prop:=N n (fX (Q .normal)) E w
abbrev oY (ro:Option Nat) (m:Nat) (P:Program) (y:Code) (Q:Exit→Act→World→Prop):Exit→Act→World→Prop:=Exit.then (λ a w=>y.wpIn (iC ro) m P Q a w) Q
theorem aD (h:W ro m P n x (oY ro m P y Q) E w):W ro m P n (.seq x y) Q E w:=λ a ha=>wpIn_seq (h a ha)
theorem hk (h:M n Q E w):W ro m P n .skip Q E w:=λ a ha=>wpIn_skip (h a ha)
theorem rt (h:T n Q E w):W ro m P n .ret Q E w:=λ a ha=>wpIn_ret (h a ha)
theorem dG (h:X n Q id E w):W ro m P n (.exit id) Q E w:=λ a ha=>wpIn_exit (h a ha)
theorem bP (h:W ro m P n x (Exit.inBlock id Q) E w):W ro m P n (.block id x) Q E w:=λ a ha=>wpIn_block (h a ha)
theorem rg {l:List Oper} (h:cm P n l.toArray (fX (Q .normal)) l E w) (hd:l.all zB=true:=by kernel_rfl):W ro m P n (.region id l.toArray false) Q E w:=λ a ha=>Go.wpIn_mono (wpIn_region_lit (QX l hd (h a ha) abA abz)) aby
theorem fk {b:Bool} (hc:ev E c=some (.bool b)) (γ:b=true→W ro m P n x Q E w) (aa:b=false→W ro m P n y Q E w):W ro m P n (.cond c x y) Q E w :=
 λ a ha=>wpIn_cond_split (ha.ev hc) (λ h=>γ h a ha) (λ h=>aa h a ha)
theorem ef (hc:ev E c=some (.bool (decide (i<j)))) (γ:i<j→W ro m P n x Q E w) (aa:¬ i<j→W ro m P n y Q E w):W ro m P n (.cond c x y) Q E w:=fk hc (λ h=>γ (of_decide_eq_true h)) (λ h=>aa (of_decide_eq_false h))
theorem hg (hc:ev E c=some (.bool (i != j))) (γ:¬ i=j→W ro m P n x Q E w) (aa:i=j→W ro m P n y Q E w):W ro m P n (.cond c x y) Q E w:=fk hc (λ h=>γ (by simpa using h)) (λ h=>aa (by simpa using h))
theorem a6 (h:W ro m P n y Q E w):M n (oY ro m P y Q) E w:=h
theorem ne {fn:Func} {R:Ending→World→Prop} (h:T n (bodyPost P fn R) E w):M n (bodyPost P fn R) E w:=λ a ha=>h a ha
theorem cg (h:M n Q E w):M n (Exit.inBlock id Q) E w:=h
theorem dF (h:X n Q id E w):X n (oY ro m P y Q) id E w:=h
theorem dE (h:M n Q E w):X n (Exit.inBlock id Q) id E w:=λ a ha=>by simp only [Exit.inBlock,if_true];exact h a ha
theorem cf (h:T n Q E w):T n (oY ro m P y Q) E w:=h
theorem fe {c:Code} (i_:Nat→List (Nat×Value)→World→Prop) (k:Nat) (cE:List (Nat×Value)) (aE:i_ k cE w) (hs:Sub cE E)
  (round:∀ k E w,i_ k E w→W ro m P n c (Exit.then (I2 n i_ k) Q) E w):W ro m P n (.loop c) Q E w:=λ a ha=>by
 intro b QS cs anJ Φ hr;have key:∀ k a w,(∃ E,i_ k E w∧dH n E a)→∃ e a' w',Q e a' w'∧ArrivesIn (Machine.fenced P (iC ro)) P (lone (b.atR a (.code c:: .inLoop c::QS)) cs w) b QS cs e a' w':=by
  intro k;induction k using Nat.strongRecOn with
  | _ k bk =>
   intro a w ⟨E,tG,ha⟩;obtain ⟨e,b7,aM,I,nL⟩:=round k E w tG a ha b (.inLoop c::QS) cs anJ Φ hr;cases e with
   | normal =>
    obtain ⟨m',bl,Pr⟩:=I;obtain ⟨bc,a2,cl,Qo,PW⟩:=bk m' bl b7 aM Pr;exact ⟨bc,a2,cl,Qo, .of_steps (StepsIn.trans nL (.one (fenced_calm Φ hr Z) stepR_inLoop)) PW⟩
   | exit id=>exact ⟨_,b7,aM,I, .pass (x:= .inLoop c) rfl (λ _ _=> .inl (by simp)) nL⟩
   | goto l=>exact ⟨_,b7,aM,I, .pass (x:= .inLoop c) rfl (λ _ _=> .inl (by simp)) nL⟩
   | ret=>exact ⟨_,b7,aM,I, .pass (x:= .inLoop c) rfl (λ _ _=> .inl (by simp)) nL⟩
   | panic ahD=>exact ⟨_,b7,aM,I, .pass (x:= .inLoop c) rfl (λ _ _=> .inl (by simp)) nL⟩
   | outgrown=>exact ⟨_,b7,aM,I, .pass (x:= .inLoop c) rfl (λ _ _=> .inl (by simp)) nL⟩
 obtain ⟨e,a',w',I,nL⟩:=key k a w ⟨cE,aE,ha.sub hs⟩;exact ⟨e,a',w',I, .of_steps (.one (fenced_calm Φ hr Z) stepR_loop) nL⟩
theorem du {i_:Nat→List (Nat×Value)→World→Prop} {k:Nat} (k':Nat) (cE:List (Nat×Value)) (h:i_ k' cE w) (hm:k'<k) (hs:Sub cE E):M n (Exit.then (I2 n i_ k) Q) E w :=
 λ a ha=>⟨k',hm,cE,h,ha.sub hs⟩
theorem rd (kY:List (Nat×Nat)) (bN:List Nat) (hm:P.follows .mixedOrders=true) (aX:(Region.noSelect ops && (bN.length == ops.size) && iP ops (mV kY) bN (Array.replicate ops.size false))=true)
  (h:iz P n ops (fX (Q .normal)) (mV kY) bN E w) (hd:ops.toList.all zB=true:=by kernel_rfl):W ro m P n (.region id ops true) Q E w:=λ a ha=>by
 simp only [Bool.and_eq_true,beq_iff_eq] at aX;obtain ⟨⟨hs,az⟩,aX⟩:=aX;refine Go.wpIn_mono (wpIn_region_any hm (Q:=fX (Q .normal)) (Vm hd abz _ _ ?_)) aby;have:=AW (P:=P) hs (Q:=fX (Q .normal)) abA bN (Array.replicate ops.size false) a w (by simp) aX (h a ha);rw [az] at this;exact yw _ _ _ _ this _ (Below.refl _ w).drew
theorem Vk {l:List Value} (az:Nat.ble l.length n=true):dH n (yx 0 l) {tmps:=l.toArray++Array.replicate (n - l.toArray.size) undef,defers:= []}:=by
 refine ⟨Z, ?_,λ t v hv=> ?_⟩
 ·have:=Nat.le_of_ble_eq_true az;simp only [Array.size_append,Array.size_replicate,List.size_toArray];omega
 ·obtain ⟨j,e,ay⟩:=NO l 0 t v hv;have bl:=(List.getElem?_eq_some_iff.1 ay).1;rw [Array.getElem?_append_left (by simp;omega)];simpa [show t=j by omega] using ay
theorem cv {f:FuncId} {fn:Func} {c:Code} {l:List Value} {R:Ending→World→Prop} (hf:P.funcs[f]? =some fn) (Φ:fn.body=some c) (hn:fn.ntmps=n) (az:Nat.ble l.length n=true)
  (h:W none m P n c (bodyPostM (iC none) m P fn R) (yx 0 l) w):Calls P f l.toArray w R:=by
 have γ:CallsIn (iC none) m P f l.toArray w R:=callsIn_of_wp_marks hf Φ trivial (by rw [hn];exact h _ (Vk az)) rfl;exact (callsIn_wide (n:=m)).1 γ
theorem aht {f:FuncId} {fn:Func} {c:Code} {l:List Value} {R:Ending→World→Prop} (hf:P.funcs[f]? =some fn) (Φ:fn.body=some c) (hn:fn.ntmps=n) (az:Nat.ble l.length n=true)
  (h:W none m P n c (bodyPost P fn R) (yx 0 l) w):CallsIn (iC none) m P f l.toArray w R :=
 callsIn_of_wp hf Φ trivial (by rw [hn];exact h _ (Vk az)) rfl
theorem bp {fn:Func} {R:Ending→World→Prop} {vs:List Value} (h:s9 P E w fn.results.toList vs) (hR:R (.returned (rz vs)) w):T n (bodyPostM (iC none) m P fn R) E w :=
 λ a ha=>by
  show LeavesInM _ _ _ _ _ _ a.defers _ _;rw [ha.d];exact ⟨_,R2 h ha,hR⟩
end
end Rd
namespace mH
section
variable {P:Program} {ro:Option Nat} {m n:Nat} {ops:Array Oper} {Q:Exit→Act→World→Prop} {w w' w0:World} {E cE:List (Nat×Value)} {id:Nat} {v:Value}
variable {d:Option Nat} {ty:TypeId} {pos:String} {bn:Array Edge} {g:Option (Nat×Bool)} {x y z:Operand} {t:TypeId} {rest:List Oper}
def cm (ro:Option Nat) (m:Nat) (P:Program) (n:Nat) (ops:Array Oper) (Q:Exit→Act→World→Prop) (l:List Oper) (E:List (Nat×Value)) (w:World):Prop:=∀ a,dH n E a→wpListIn (iC ro) m P ops Q l a w
theorem rg {l:List Oper} (h:cm ro m P n l.toArray Q l E w):Rd.W ro m P n (.region id l.toArray false) Q E w:=λ a ha=>wpIn_region_lit (h a ha)
theorem nl (h:Rd.M n Q E w):cm ro m P n ops Q [] E w:=h
theorem gR {d:Nat} {op:Op} (hr:c8 P E ⟨some d,op,ty,pos,bn,none⟩ w v w') (hd:Nat.blt d n=true) (h:cm ro m P n ops Q rest ((d,v)::E) w'):cm ro m P n ops Q (⟨some d,op,ty,pos,bn,none⟩::rest) E w:=λ a ha=>by
 have jY:=hr n a ha;unfold wpListIn;rw [if_pos (by simp [Region.wanted])];refine ⟨λ _ _=>trivial, ?_⟩;have hs:(⟨some d,op,ty,pos,bn,none⟩:Oper).semAt (iC ro).round a.eval=execOp a.eval ⟨some d,op,ty,pos,bn,none⟩:=Oper.semAt_eq _ _ _ (λ c e=>by
  have e:op= .defer c:=e;subst e;simp only [execOp,Sem.run_bind,Sem.run_pure] at jY;revert jY;generalize (resolve a.eval c ty).run P w=r;cases r<;>simp [Result.andThen])
 rw [hs,jY];exact h _ (ha.put hd v)
theorem avO {d:Nat} {l:Nat} {xs:Array Operand} {ts:Array TypeId} {args:List Value} (hx:ev E x=some (.func (.yield l) #[] #[])) (he:gd E xs.toList=some args) (hd:Nat.blt d n=true)
  (h:YieldAt (iC ro) (m - 1) P l args.toArray w λ e w'=>∃ v,e= .returned v∧cm ro m P n ops Q rest ((d,v)::E) w'):cm ro m P n ops Q (⟨some d, .call {callee:= .value x,args:=xs,argTypes:=ts},ty,pos,bn,none⟩::rest) E w:=λ a ha=>by
 obtain ⟨fn,tmps,assign,body,aG,hR⟩:=h;unfold wpListIn;rw [if_pos (by simp [Region.wanted])];refine ⟨λ _ _=>trivial, ?_⟩;have hs:(⟨some d, .call {callee:= .value x,args:=xs,argTypes:=ts},ty,pos,bn,none⟩:Oper).semAt (iC ro).round a.eval=execOp a.eval ⟨some d, .call {callee:= .value x,args:=xs,argTypes:=ts},ty,pos,bn,none⟩:=Oper.semAt_eq _ _ _ (λ c e=>by cases e);have hm:xs.map a.eval=args.toArray:=by rw [← ha.gd he];apply Array.ext';simp
 have jY:(execOp a.eval ⟨some d, .call {callee:= .value x,args:=xs,argTypes:=ts},ty,pos,bn,none⟩).run P w= .ok (.round l fn tmps assign body) w:=by
  unfold execOp;simp only [resolve,invoke,Deferred.ofValue,ha.ev hx,callFunc,Sem.run_bind,Sem.run_pure,Result.andThen_ok,hm,Array.empty_append];first
   | exact aG
   | simpa using aG
 rw [hs,jY];refine ⟨λ h=>by simp [iC,Fence.wide] at h,hR.mono λ e w' he=> ?_⟩;obtain ⟨v,rfl,h⟩:=he;exact h _ (ha.put hd v)
end
end mH
def mark (D:Nat):List Deferred:= [{target:= .collected D,args:=#[]}]
def wd (ds:List Deferred) (a:Act):Act:= {a with defers:=ds}
theorem ad4 (ds:List Deferred) (a:Act) (d:Option Nat) (v:Value):(wd ds a).put d v=wd ds (a.put d v):=by cases d<;>rfl
theorem SV (ds:List Deferred) (a:Act):(wd ds a).eval=a.eval:=by funext x;cases x<;>rfl
def wA (w:World) (D:Nat):Prop:=w.heap[D]? =some (.deferred (some []))
theorem wA.lt {D:Nat} {w:World} (h:wA w D):D<w.heap.size:=(Array.getElem?_eq_some_iff.1 h).1
theorem wA.later {D:Nat} {w w':World} (h:wA w D) (x:Ext w w'):wA w' D:=(x.block D h.lt).trans h
def Sz (w:World) (D:Nat):World:=w.putObj D (.deferred none)
theorem wA.un {D:Nat} {w:World} (h:wA w D):Mod [D] w (Sz w D):=by
 have:=Mod.grown (grownBy_putObj' w D (.deferred none));exact this
namespace fA
section
variable {P:Program} {ds:List Deferred} {m n:Nat} {ops:Array Oper} {Q:Exit→Act→World→Prop} {w w' w0:World} {E cE:List (Nat×Value)} {id:Nat} {v:Value}
variable {d:Option Nat} {ty:TypeId} {pos:String} {bn:Array Edge} {g:Option (Nat×Bool)} {x y z:Operand} {t:TypeId} {rest:List Oper} {c:Operand} {fS tu:Code} {i j:Int}
def W (ds:List Deferred) (m:Nat) (P:Program) (n:Nat) (c:Code) (Q:Exit→Act→World→Prop) (E:List (Nat×Value)) (w:World):Prop:=∀ a,dH n E a→c.wpIn (iC none) m P Q (wd ds a) w
def N (ds:List Deferred) (n:Nat) (Q:Exit→Act→World→Prop) (E:List (Nat×Value)) (w:World):Prop:=∀ a,dH n E a→Q .normal (wd ds a) w
def T (ds:List Deferred) (n:Nat) (Q:Exit→Act→World→Prop) (E:List (Nat×Value)) (w:World):Prop:=∀ a,dH n E a→Q .ret (wd ds a) w
def cm (ds:List Deferred) (m:Nat) (P:Program) (n:Nat) (ops:Array Oper) (Q:Exit→Act→World→Prop) (l:List Oper) (E:List (Nat×Value)) (w:World):Prop:=∀ a,dH n E a→wpListIn (iC none) m P ops Q l (wd ds a) w
theorem aD (h:W ds m P n fS (Rd.oY none m P tu Q) E w):W ds m P n (.seq fS tu) Q E w:=λ a ha=>wpIn_seq (h a ha)
theorem hk (h:N ds n Q E w):W ds m P n .skip Q E w:=λ a ha=>wpIn_skip (h a ha)
theorem rt (h:T ds n Q E w):W ds m P n .ret Q E w:=λ a ha=>wpIn_ret (h a ha)
theorem rg {l:List Oper} (h:cm ds m P n l.toArray Q l E w):W ds m P n (.region id l.toArray false) Q E w:=λ a ha=>wpIn_region_lit (h a ha)
theorem nl (h:N ds n Q E w):cm ds m P n ops Q [] E w:=h
theorem a6 (h:W ds m P n tu Q E w):N ds n (Rd.oY none m P tu Q) E w:=h
theorem cg (h:N ds n Q E w):N ds n (Exit.inBlock id Q) E w:=h
theorem cf (h:T ds n Q E w):T ds n (Rd.oY none m P tu Q) E w:=h
theorem fk {b:Bool} (hc:ev E c=some (.bool b)) (γ:b=true→W ds m P n fS Q E w) (aa:b=false→W ds m P n tu Q E w):W ds m P n (.cond c fS tu) Q E w :=
 λ a ha=>wpIn_cond_split (by rw [SV];exact ha.ev hc) (λ h=>γ h a ha) (λ h=>aa h a ha)
theorem hg (hc:ev E c=some (.bool (i != j))) (γ:¬ i=j→W ds m P n fS Q E w) (aa:i=j→W ds m P n tu Q E w):W ds m P n (.cond c fS tu) Q E w:=fk hc (λ h=>γ (by simpa using h)) (λ h=>aa (by simpa using h))
theorem aqn {o:Oper} {a:Act} {v:Value} (h:(execOp a.eval o).run P w= .ok (.value v) w'):∀ c,o.op≠ .defer c:=λ c e=>by
 unfold execOp at h;rw [e] at h;simp only [Sem.run_bind,Sem.run_pure] at h;revert h;generalize (resolve a.eval c o.type).run P w=r;cases r<;>simp [Result.andThen]
theorem gR {d:Nat} {op:Op} (hr:c8 P E ⟨some d,op,ty,pos,bn,none⟩ w v w') (hd:Nat.blt d n=true) (h:cm ds m P n ops Q rest ((d,v)::E) w'):cm ds m P n ops Q (⟨some d,op,ty,pos,bn,none⟩::rest) E w:=λ a ha=>by
 have jY:=hr n a ha;unfold wpListIn;rw [if_pos (by simp [Region.wanted])];refine ⟨λ _ _=>trivial, ?_⟩;rw [SV,Oper.semAt_eq _ _ _ (aqn jY),jY];show wpListIn _ _ _ _ _ _ _ _;rw [ad4];exact h _ (ha.put hd v)
theorem ca {d:Nat} {f:FuncId} (hf:Enters P f) {xs:Array Operand} {ts:Array TypeId} {args:List Value} (he:gd E xs.toList=some args) (hd:Nat.blt d n=true)
  (h:Calls P f args.toArray w λ e w'=>∃ v,e= .returned v∧cm ds m P n ops Q rest ((d,v)::E) w'):cm ds m P n ops Q (⟨some d, .call {callee:= .value (.func f),args:=xs,argTypes:=ts},ty,pos,bn,none⟩::rest) E w:=λ a ha=>by
 unfold wpListIn;rw [if_pos (by simp [Region.wanted])];refine ⟨λ _ _=>trivial, ?_⟩;rw [SV,Oper.semAt_eq _ _ _ (λ c e=>by cases e),HP hf ha he];refine ⟨λ h=>by simp [iC,Fence.wide] at h,CallsIn.mono (V0 h) λ e w' ey=> ?_⟩;obtain ⟨v,rfl,h⟩:=ey;show wpListIn _ _ _ _ _ _ _ _;rw [ad4];exact h _ (ha.put hd v)
theorem bp {D:Nat} {fn:Func} {R:Ending→World→Prop} {vs:List Value} (hK:wA w D) (h:s9 P E (Sz w D) fn.results.toList vs) (hR:R (.returned (rz vs)) (Sz w D)):T (mark D) n (bodyPostM (iC none) m P fn R) E w :=
 λ a ha=>by
  have hr:=R2 (a:=a) h ha;exact ⟨by simp, .inl ⟨D,_,rfl,run_takeDeferred hK,_,hr,hR⟩⟩
end
end fA
def wQ (b c:Nat) (W gO:World):Prop:=gO.heap[b]? =W.heap[b]? ∧gO.heap[c]? =W.heap[c]?
theorem wQ.iK {b c:Nat} {X Y aB:World} (h:wQ b c X Y) (k:wQ b c Y aB):wQ b c X aB:=⟨k.1.trans h.1,k.2.trans h.2⟩
theorem Mod.aaR {S:List Nat} {W gO:World} {B:Nat} (h:Mod S W gO) (hS:∀ q∈S,q<W.heap.size→∃ cur e ax,W.heap[q]? =some (.cells cur e ax)):KeepsFrom B W gO :=
 ⟨h.size,λ k o _ av bJ=>by
  by_cases hm:k∈S
  ·obtain ⟨cur,e,ax,hc⟩:=hS k hm (Array.getElem?_eq_some_iff.1 av).1;rw [hc] at av;injection av with av
   subst av;exact nomatch bJ
  ·exact (h.block k (Array.getElem?_eq_some_iff.1 av).1 hm).trans av⟩
theorem Mod.aoN {S:List Nat} {W X Y:World} {b c:Nat} (h:Mod S W X) (k:Mod S W Y) (Φ:b<W.heap.size∧c<W.heap.size) (γ:b∉S) (aa:c∉S):wQ b c X Y :=
 ⟨(k.block b Φ.1 γ).trans (h.block b Φ.1 γ).symm,(k.block c Φ.2 aa).trans (h.block c Φ.2 aa).symm⟩
def u3 (B:Nat) (w0 w:World):Prop:=KeepsFrom B w0 w
theorem u3.bM (B:Nat) (w:World):u3 B w w:=KeepsFrom.refl B w
theorem u3.later {B:Nat} {w0 w w':World} (h:u3 B w0 w) (x:Ext w w'):u3 B w0 w':=KeepsFrom.trans h ((Mod.bG (S:= []) x).aaR λ q I=>nomatch I)
theorem u3.mod {B:Nat} {w0 w w':World} {S:List Nat} (h:u3 B w0 w) (m:Mod S w w') (hS:∀ q∈S,∃ cur e ax,w.heap[q]? =some (.cells cur e ax)):u3 B w0 w':=KeepsFrom.trans h (m.aaR λ q I _=>hS q I)
theorem κ.aF.JG {α:Type} {R:κ α} {e by_ B c:Nat} {A:Option Addr} {l:List α} {w:World} (h:R.aF e by_ w B (κ.af A) A c l):∀ q∈κ.af A,∃ cur e ax,w.heap[q]? =some (.cells cur e ax):=by
 obtain ⟨_,ps,_,_,⟨_,bJ⟩,_⟩:=h;rcases bJ with ⟨γ,_⟩ | ⟨g,cap,cur,γ,_,aa,_⟩
 ·injection γ with γ;subst γ;intro q I;exact nomatch I
 ·injection γ with γ;subst γ;intro q I
  obtain rfl:=List.mem_singleton.1 I;exact ⟨_,_,_,aa⟩
structure AH {α:Type} (B:Nat) (hU:List α→World→Prop) (pre:List α) (w:World):Prop where
 NL:AbidesFrom B hU
 at_:hU pre w
theorem AH.later {α:Type} {B:Nat} {hU:List α→World→Prop} {pre:List α} {w w':World} (h:AH B hU pre w) (x:Ext w w'):AH B hU pre w' :=
 ⟨h.NL,h.NL _ _ _ none h.at_ ⟨x.os,x.tape,x.output,x.size,λ k av _=>x.block k av⟩ λ r e=>nomatch e⟩
theorem aK.Lg {b:Nat} {cs:List Value} {e:TypeId} {ax:Nat×Nat} {w w':World} (h:aK w b cs e ax) (k:w'.heap[b]? =w.heap[b]?):aK w' b cs e ax:=k.trans h
theorem avP {F:Fence} {m:Nat} {P:Program} {l:Nat} {args:Array Value} {W:World} {R R':Ending→World→Prop} (h:YieldAt F m P l args W R) (hr:∀ e w,R e w→R' e w):YieldAt F m P l args W R':=by
 obtain ⟨fn,tmps,assign,body,aG,hR⟩:=h;exact ⟨fn,tmps,assign,body,aG,hR.mono hr⟩
theorem avQ {P Q:Prop} {e:Ending} (h:(e= .returned (.bool true)∧P)∨(e= .returned (.bool false)∧Q)):∃ b,e= .returned (.bool b)∧(b=true→P)∧(b=false→Q):=by
 rcases h with ⟨h,p⟩ | ⟨h,q⟩
 ·exact ⟨true,h,λ _=>p,(λ h=>nomatch h)⟩
 ·exact ⟨false,h,(λ h=>nomatch h),λ _=>q⟩
theorem aku {q k:Nat} (av:k<q):(List.finRange q).take k++ [⟨k,av⟩]=(List.finRange q).take (k+1):=by
 rw [List.take_succ_eq_append_getElem (by simpa using av)];simp
section
variable {P:Program} {n:Nat} {E cE:List (Nat×Value)} {w:World} {d:Option Nat} {ty:TypeId} {pos:String} {bn:Array Edge} {g:Option (Nat×Bool)} {x y z u:Operand} {t:TypeId}
theorem asT {A:Option Addr} {len cap e s:Nat} {k:IntKind} (lo:Nat) {i:Int} (aA:P.underlying t=some (.slice e)) (hs:ej P e s) (hx:ev E x=some (.slice A len cap)) (aG:ev E y=some (.int k i)) (γ:i=(lo:Int)) (aa:lo≤len):
  c8 P E ⟨d, .slice t x (some y) none none,ty,pos,bn,g⟩ w (.slice (e1 A cap lo s) (len - lo) (cap - lo)) w:=λ n a ha=>by
 subst γ;have j1:P.underlying t=some (.slice (P.elem t)):=by simp [Program.elem,aA]
 have nd:P.elem t=e:=by simp [Program.elem,aA]
 have au:=run_slice_l (P:=P) (w:=w) t A len cap j1 k (lo:Int) (by omega) (by omega);have a1:=run_sliceAt_slice (P:=P) (w:=w) t (.slice A len cap) (some (.int k (lo:Int))) none none j1;rw [nd,hs w] at au;simp only [execOp,ha.ev hx,ha.ev aG,Option.map,a1,au,Sem.run_bind,Result.andThen_ok,Sem.run_pure,sliced,Int.toNat_natCast,e1]
theorem asS {A:Option Addr} {len cap e s:Nat} {k k' ea:IntKind} (lo ao n:Nat) {i j QL:Int} (aA:P.underlying t=some (.slice e)) (hs:ej P e s) (hx:ev E x=some (.slice A len cap)) (aG:ev E y=some (.int k i)) (bw:ev E z=some (.int k' j)) (hu:ev E u=some (.int ea QL)) (xj:i=(lo:Int)) (Bt:j=(ao:Int)) (amF:QL=(ao:Int)) (γ:lo≤ao) (aa:ao≤cap) (hn:n=ao - lo):
  c8 P E ⟨d, .slice t x (some y) (some z) (some u),ty,pos,bn,g⟩ w (.slice (e1 A ao lo s) n n) w:=λ kj a ha=>by
 subst xj;subst Bt;subst amF;subst hn;have j1:P.underlying t=some (.slice (P.elem t)):=by simp [Program.elem,aA]
 have nd:P.elem t=e:=by simp [Program.elem,aA]
 have au:=run_slice_lhm (P:=P) (w:=w) t A len cap j1 k k' ea (lo:Int) (ao:Int) (ao:Int) (by omega) (by omega) (by omega) (by omega);have a1:=run_sliceAt_slice (P:=P) (w:=w) t (.slice A len cap) (some (.int k (lo:Int))) (some (.int k' (ao:Int))) (some (.int ea (ao:Int))) j1;rw [nd,hs w] at au;simp only [execOp,ha.ev hx,ha.ev aG,ha.ev bw,ha.ev hu,Option.map,a1,au,Sem.run_bind,Result.andThen_ok,Sem.run_pure,sliced,Int.toNat_natCast,e1]
end
theorem κ.aH.chunk {α:Type} {R:κ α} {by_ c:Nat} {A:Option Addr} {l:List α} {w:World} (h:R.aH by_ w A c l) (lo ao:Nat) (γ:lo<ao) (aa:ao≤l.length):R.aH by_ w (e1 A ao lo R.size) (ao - lo) ((l.drop lo).take (ao - lo)):=by
 have hs:=h.sub lo ao (by omega) aa;have hc:=h.1;have pb:=h.2.1;have e:e1 A ao lo R.size=e1 A c lo R.size:=by unfold e1;rw [if_neg (by omega),if_neg (by omega)]
 rw [e];obtain ⟨g1,g2,g3,g4,g5⟩:=hs;refine ⟨by rw [List.length_take];omega,by omega,g3,λ hn=> ?_,g5⟩;have:=g4 hn;omega
namespace Rd
theorem bM {α:Type} {P:Program} {m n:Nat} {Q:Exit→Act→World→Prop} {w w0:World} {E:List (Nat×Value)} {tt p:Nat} {ty:TypeId} {pos:String} {bn:Array Edge} {id:Nat} {body:Code} {g:Operand} {gf:Nat} {lb:List Value} {enc:α→Value} {eF fK:Nat} {S agc:List α→Prop} {UG:Nat}
  (aO:ev E g=some (.func (.func gf) #[] lb.toArray)) (hf:Enters P gf) (anP:SeqStopsK (iC none) (m - 1) P gf lb.toArray (λ x=>#[enc x]) (wQ eF fK) S agc UG w0) (bo:eF<w.heap.size) (dj:fK<w.heap.size) (cr:Ext w0 w) (γ:1≤m) (hp:Nat.blt p n=true) (aA:Nat.blt tt n=true)
  (i_:List α→World→Prop) (tG:∀ s W gO S,i_ s W→Mod S W gO→(∀ q∈S,w.heap.size≤q∧∀ cur e ax,W.heap[q]? ≠some (.cells cur e ax))→i_ s gO) (aE:i_ [] w)
  (amf:∀ (l:Nat) (pre:List α) (x:α) (gO:World),i_ pre gO→pre.length<UG→W (some l) (m - 1 - 1) P n body (ownPostG w.heap.size (wQ eF fK) i_ (λ _ _ _=>False) (pre++ [x]) gO) ((tt,enc x)::(p,enc x)::E) gO)
  (amq:∀ (D:Nat) (xs:List α) (gO:World),w.heap.size≤D→S xs→i_ xs gO→wA gO D→fA.N (mark D) n Q E gO):
  W none m P n (.rangeFunc g #[p] (.region id #[⟨some tt, .assign (.tmp p),ty,pos,bn,none⟩] false) body) Q E w:=λ a ha=>by
 have aly:∀ {β:Type} (hU:β→World→Prop),(∀ s W gO S,hU s W→Mod S W gO→(∀ q∈S,w.heap.size≤q∧∀ cur e ax,W.heap[q]? ≠some (.cells cur e ax))→hU s gO)→OwnFrom w.heap.size hU:=λ hU vy s X Y row hs y4 hr =>
  vy s X Y row.toList hs (Mod.grown y4) λ q I=>by
   cases row with
   | none=>exact nomatch I
   | some r =>
    obtain rfl:=List.mem_singleton.1 I;obtain ⟨aX,o,bJ,hc⟩:=hr _ rfl;exact ⟨aX,λ cur e ax h=>by rw [h] at bJ;injection bJ with bJ;subst bJ;exact nomatch hc⟩
 obtain ⟨fn,amu,amv,YX⟩:=hf;obtain ⟨pY,amb⟩:∃ c,fn.body=some c:=by
  cases h:fn.body with
  | none=>rw [h] at YX;simp at YX
  | some c=>exact ⟨c,rfl⟩
 refine wpIn_rangeFunc_ownH (F:=iC none) Z γ (gf:=gf) (lb:=lb.toArray) (ha.ev aO) trivial (enters_of amu amv amb) anP (λ h k=>h.iK k) ?_ cr (λ x=>Z) i_ (λ _ _ _=>False) (aly i_ tG) (λ c s A B row hs aO hr=>hs.elim) aE
  (λ x a' _=>dH n ((tt,enc x)::(p,enc x)::E) a') (λ x a' s A B row hs aO hr=>hs) ?_ ?_ ?_ ?_
 ·intro gO l o zC az bs _ _;have hm:=Mod.grown (grownBy_putObj' gO l zC);exact ⟨hm.block eF (by have:=(Array.getElem?_eq_some_iff.1 bs).1;omega) (by simp;omega),hm.block fK (by have:=(Array.getElem?_eq_some_iff.1 bs).1;omega) (by simp;omega)⟩
 ·intro l pre x gO K ao hK;have hA:dH n ((p,enc x)::E) {tmps:=(#[p].zip #[enc x]).foldl (λ t (p,v)=>t.setIfInBounds p v) a.tmps,defers:= []}:=by
   have:=ha.put hp (enc x);have e:({tmps:=(#[p].zip #[enc x]).foldl (λ t (p,v)=>t.setIfInBounds p v) a.tmps,defers:= []}:Act)=a.put (some p) (enc x):=by
    simp [Act.put,ha.d]
   rw [e];exact this
  have aa:W (some l) (m - 1 - 1) P n (.region id [(⟨some tt, .assign (.tmp p),ty,pos,bn,none⟩:Oper)].toArray false) (Exit.then K (λ _ _ _=>False)) ((p,enc x)::E) gO:=by
   refine mH.rg (mH.gR (v:=enc x) (w':=gO) (eV ?_) aA (mH.nl λ a' o_=>hK a' gO (KeepsFrom.refl _ _) ⟨Z,Z⟩ ao o_));show look ((p,enc x)::E) p=_;simp [look]
  exact aa _ hA
 ·intro l pre x a' gO _ _ ao hx hlen;exact amf l pre x gO ao hlen a' hx
 ·intro D xs gO r9 hS ao hK;have:=amq D xs gO r9 hS ao hK a ha;have e:({a with defers:= {target:= .collected D,args:=#[]}::a.defers}:Act)=wd (mark D) a:=by simp [wd,mark,ha.d]
  rw [e];exact this
 ·intro D c pre gO _ _ h _;exact h.elim
end Rd
end
end Go.Proofs.YtlikikpgmmkjbaaGreat
