import Derived.Test.YtlikikpgmmkjbaaGreatGra
import Derived.RangeFuncNested
import Derived.OrdersIn
import Derived.LoopNIn
set_option linter.unusedVariables false
set_option linter.unusedSimpArgs false
set_option maxRecDepth 100000
set_option maxHeartbeats 4000000
open Go.RowKit
namespace Go.Proofs.YtlikikpgmmkjbaaGreat
open Tryz
open Tryz
abbrev aVI:=@List.not_mem_nil
abbrev aWr:=@or_false
abbrev aWU:=@Int.mul_le_mul
abbrev aXg:=@List.all_eq_false
abbrev aXi:=@Bool.true_and
abbrev aXn:=@Go.Oper.semAt_eq
abbrev aXz:=@Go.IntKind.wrap_i64
abbrev aXF:=@Bool.and_eq_false_iff
abbrev aXN:=@Int.mul_nonneg
abbrev aXX:=@Nat.add_sub_cancel
abbrev aX2:=@List.set_eq_take_append_cons_drop
abbrev aYv:=@Bool.and_false
abbrev aYx:=@Go.wpIn_region_lit

structure ay where
 x:Int
 y:Int
 deriving DecidableEq,Inhabited
namespace ay
def cells (a:ay):List Value:= [.int .i64 (a.x), .int .i64 (a.y)]
def ok (a:ay):Prop:=(Lit.int .i64 a.x).wf=true∧(Lit.int .i64 a.y).wf=true
def raw (j:Nat) (u:Value):Prop:=match j with
 | 0=>∃ n:Int,u= .int .i64 n
 | 1=>∃ n:Int,u= .int .i64 n
 | _=>True
theorem rJ (a:ay):∀ (j:Nat) u,a.cells[j]? =some u→raw j u:=by
 intro j u hu
 match j,hu with
 | 0,hu=>exact ⟨_,(aUh hu).symm⟩
 | 1,hu=>exact ⟨_,(aUh hu).symm⟩
 | j+2,hu=>exact trivial
theorem rI (a:ay):∀ u∈a.cells,u.oneCell'=true:=by
 intro u hu;unfold cells at hu;simp only [aUD,aVI,aWr] at hu;rcases hu with rfl | rfl<;>rfl
def rep:κ ay:=κ.flat 2 cells ok raw (λ _=>rfl) rI rJ
theorem plain:rep.Plain:=κ.o0
def zero:Value:= .agg #[.int .i64 0, .int .i64 0]
theorem iY:∀ (j:Nat) u,zero.cells[j]? =some u→rep.raw j u:=by
 intro j u hu;have hu:(#[(.int .i64 0:Value),(.int .i64 0:Value)]:Array Value)[j]? =some u:=hu
 match j,hu with
 | 0,hu=>exact ⟨_,(aUh hu).symm⟩
 | 1,hu=>exact ⟨_,(aUh hu).symm⟩
 | j+2,hu=>cases hu
theorem info:(prog.info? 49).map (λ i=>(i.zero,i.size,i.bytes))=some (some zero,2,16):=by kernel_rfl
theorem at_ {by_:Nat} {w:World} {A:Option Addr} {c:Nat} {l:List ay} (h:rep.aK by_ w A c l) (aI:0<l.length):
  ∃ b o,A=some ⟨b,o,none⟩∧∀ (i:Nat) (a:ay),l[i]? =some a→w.cell? ⟨b,o+i * 2,none⟩=some (.int .i64 (a.x))∧w.cell? ⟨b,o+i * 2+1,none⟩=some (.int .i64 (a.y)):=by
 obtain ⟨b,o,e,hc⟩:=h.at_ aI;refine ⟨b,o,e,λ i a ha=> ?_⟩;obtain ⟨es,⟨rfl,_⟩,aA⟩:=hc i a ha;exact ⟨aA 0 _ Z,aA 1 _ Z⟩
theorem oT {by_:Nat} {w:World} {A:Option Addr} {c:Nat} {l:List ay} (h:rep.aK by_ w A c l):∀ a∈l,a.ok:=κ.aK.AM (R:=rep) (Q:=ok) (fun {w cs a} (h:rep.has w cs a)=>(show cs=a.cells∧a.ok from h).2) h
theorem fB {w:World} {g:Nat} {t:TypeId} {aC:Nat×Nat} {a:ay} (h:aN w g a.cells t aC):w.cell? ⟨g,0,none⟩=some (.int .i64 (a.x))∧w.cell? ⟨g,1,none⟩=some (.int .i64 (a.y)):=
 ⟨h.cell 0,h.cell 1⟩
def sh:fP:=(.cons (.int .i64) (.cons (.int .i64) .nil))
theorem opens (w:World) (cs:List Value) (h:sh.hV w cs):∃ a,rep.has w cs a:=by
 obtain ⟨_,_,rfl,_,_,⟨dg,rfl,s9⟩,⟨_,_,rfl,_,_,⟨eH,rfl,dF⟩,rfl⟩⟩:=h;exact ⟨⟨dg,eH⟩,Z,s9,dF⟩
end ay
theorem Be {w:World} {cs:List Value} {a:ay} (h:ay.rep.has w cs a):cs=a.cells:=aWw (show cs=a.cells∧a.ok from h)
open Tryz

structure bd where
 id:Int
 owner:Int
 kind:Int
 spot:ay
 dc:Int
 load:Int
 deriving DecidableEq,Inhabited
namespace bd
def cells (a:bd):List Value:= [.int .i64 (a.id), .int .i64 (a.owner), .int .i64 (a.kind), .int .i64 (a.spot.x), .int .i64 (a.spot.y), .int .i64 (a.dc), .int .i64 (a.load)]
def ok (a:bd):Prop:=(Lit.int .i64 a.id).wf=true∧(Lit.int .i64 a.owner).wf=true∧(Lit.int .i64 a.kind).wf=true∧(Lit.int .i64 a.spot.x).wf=true∧(Lit.int .i64 a.spot.y).wf=true∧(Lit.int .i64 a.dc).wf=true∧(Lit.int .i64 a.load).wf=true
def raw (j:Nat) (u:Value):Prop:=match j with
 | 0=>∃ n:Int,u= .int .i64 n
 | 1=>∃ n:Int,u= .int .i64 n
 | 2=>∃ n:Int,u= .int .i64 n
 | 3=>∃ n:Int,u= .int .i64 n
 | 4=>∃ n:Int,u= .int .i64 n
 | 5=>∃ n:Int,u= .int .i64 n
 | 6=>∃ n:Int,u= .int .i64 n
 | _=>True
theorem rJ (a:bd):∀ (j:Nat) u,a.cells[j]? =some u→raw j u:=by
 intro j u hu
 match j,hu with
 | 0,hu=>exact ⟨_,(aUh hu).symm⟩
 | 1,hu=>exact ⟨_,(aUh hu).symm⟩
 | 2,hu=>exact ⟨_,(aUh hu).symm⟩
 | 3,hu=>exact ⟨_,(aUh hu).symm⟩
 | 4,hu=>exact ⟨_,(aUh hu).symm⟩
 | 5,hu=>exact ⟨_,(aUh hu).symm⟩
 | 6,hu=>exact ⟨_,(aUh hu).symm⟩
 | j+7,hu=>exact trivial
theorem rI (a:bd):∀ u∈a.cells,u.oneCell'=true:=by
 intro u hu;unfold cells at hu;simp only [aUD,aVI,aWr] at hu;rcases hu with rfl | rfl | rfl | rfl | rfl | rfl | rfl<;>rfl
def rep:κ bd:=κ.flat 7 cells ok raw (λ _=>rfl) rI rJ
theorem plain:rep.Plain:=κ.o0
def zero:Value:= .agg #[.int .i64 0, .int .i64 0, .int .i64 0, .int .i64 0, .int .i64 0, .int .i64 0, .int .i64 0]
theorem iY:∀ (j:Nat) u,zero.cells[j]? =some u→rep.raw j u:=by
 intro j u hu;have hu:(#[(.int .i64 0:Value),(.int .i64 0:Value),(.int .i64 0:Value),(.int .i64 0:Value),(.int .i64 0:Value),(.int .i64 0:Value),(.int .i64 0:Value)]:Array Value)[j]? =some u:=hu
 match j,hu with
 | 0,hu=>exact ⟨_,(aUh hu).symm⟩
 | 1,hu=>exact ⟨_,(aUh hu).symm⟩
 | 2,hu=>exact ⟨_,(aUh hu).symm⟩
 | 3,hu=>exact ⟨_,(aUh hu).symm⟩
 | 4,hu=>exact ⟨_,(aUh hu).symm⟩
 | 5,hu=>exact ⟨_,(aUh hu).symm⟩
 | 6,hu=>exact ⟨_,(aUh hu).symm⟩
 | j+7,hu=>cases hu
theorem info:(prog.info? 66).map (λ i=>(i.zero,i.size,i.bytes))=some (some zero,7,56):=by kernel_rfl
theorem at_ {by_:Nat} {w:World} {A:Option Addr} {c:Nat} {l:List bd} (h:rep.aK by_ w A c l) (aI:0<l.length):
  ∃ b o,A=some ⟨b,o,none⟩∧∀ (i:Nat) (a:bd),l[i]? =some a→w.cell? ⟨b,o+i * 7,none⟩=some (.int .i64 (a.id))∧w.cell? ⟨b,o+i * 7+1,none⟩=some (.int .i64 (a.owner))∧w.cell? ⟨b,o+i * 7+2,none⟩=some (.int .i64 (a.kind))∧w.cell? ⟨b,o+i * 7+3,none⟩=some (.int .i64 (a.spot.x))∧w.cell? ⟨b,o+i * 7+4,none⟩=some (.int .i64 (a.spot.y))∧w.cell? ⟨b,o+i * 7+5,none⟩=some (.int .i64 (a.dc))∧w.cell? ⟨b,o+i * 7+6,none⟩=some (.int .i64 (a.load)):=by
 obtain ⟨b,o,e,hc⟩:=h.at_ aI;refine ⟨b,o,e,λ i a ha=> ?_⟩;obtain ⟨es,⟨rfl,_⟩,aA⟩:=hc i a ha;exact ⟨aA 0 _ Z,aA 1 _ Z,aA 2 _ Z,aA 3 _ Z,aA 4 _ Z,aA 5 _ Z,aA 6 _ Z⟩
theorem oT {by_:Nat} {w:World} {A:Option Addr} {c:Nat} {l:List bd} (h:rep.aK by_ w A c l):∀ a∈l,a.ok:=κ.aK.AM (R:=rep) (Q:=ok) (fun {w cs a} (h:rep.has w cs a)=>(show cs=a.cells∧a.ok from h).2) h
theorem fB {w:World} {g:Nat} {t:TypeId} {aC:Nat×Nat} {a:bd} (h:aN w g a.cells t aC):w.cell? ⟨g,0,none⟩=some (.int .i64 (a.id))∧w.cell? ⟨g,1,none⟩=some (.int .i64 (a.owner))∧w.cell? ⟨g,2,none⟩=some (.int .i64 (a.kind))∧w.cell? ⟨g,3,none⟩=some (.int .i64 (a.spot.x))∧w.cell? ⟨g,4,none⟩=some (.int .i64 (a.spot.y))∧w.cell? ⟨g,5,none⟩=some (.int .i64 (a.dc))∧w.cell? ⟨g,6,none⟩=some (.int .i64 (a.load)):=
 ⟨h.cell 0,h.cell 1,h.cell 2,h.cell 3,h.cell 4,h.cell 5,h.cell 6⟩
def sh:fP:=(.cons (.int .i64) (.cons (.int .i64) (.cons (.int .i64) (.cons (.cons (.int .i64) (.cons (.int .i64) .nil)) (.cons (.int .i64) (.cons (.int .i64) .nil))))))
theorem opens (w:World) (cs:List Value) (h:sh.hV w cs):∃ a,rep.has w cs a:=by
 obtain ⟨_,_,rfl,_,_,⟨dg,rfl,s9⟩,⟨_,_,rfl,_,_,⟨eH,rfl,dF⟩,⟨_,_,rfl,_,_,⟨e3,rfl,dt⟩,⟨_,_,rfl,_,_,⟨_,_,rfl,_,_,⟨iv,rfl,jj⟩,⟨_,_,rfl,_,_,⟨oE,rfl,F2⟩,rfl⟩⟩,⟨_,_,rfl,_,_,⟨nW,rfl,F3⟩,⟨_,_,rfl,_,_,⟨qi,rfl,MD⟩,rfl⟩⟩⟩⟩⟩⟩:=h;exact ⟨⟨dg,eH,e3,⟨iv,oE⟩,nW,qi⟩,Z,s9,dF,dt,jj,F2,F3,MD⟩
end bd
theorem jH {w:World} {cs:List Value} {a:bd} (h:bd.rep.has w cs a):cs=a.cells:=aWw (show cs=a.cells∧a.ok from h)
open Tryz

structure aE where
 wide:Int
 high:Int
 aY:List Int
 deriving DecidableEq,Inhabited
structure aj where
 field:aE
 aZ:List ay
 bg:List Int
 bs:List Int
 ao:List bd
 next:Int
 now:Int
 deriving DecidableEq,Inhabited
namespace aE
def Sq (p:Int):Bool:=cR p 0 3
def bq (f:aE):Int :=
 if cR f.wide 1 40 && cR f.high 1 40 then (if decide ((f.aY.length:Int)=f.wide * f.high) && f.aY.all Sq then 0 else 4) else 1
def fr (f:aE) (c:ay):Bool:=cR c.x 0 (f.wide - 1) && cR c.y 0 (f.high - 1)
def place (f:aE) (c:ay):Int:=f.aY.getD (c.y * f.wide+c.x).toNat 0
def ground (f:aE) (c:ay):Bool:=f.fr c && f.place c != 1
theorem km {f:aE} (h:f.bq=0):1≤f.wide∧f.wide≤40∧1≤f.high∧f.high≤40∧(f.aY.length:Int)=f.wide * f.high∧∀ p∈f.aY,0≤p∧p≤3:=by
 unfold bq at h;split at h
 ·rename_i γ
  rw [aUp] at γ;have a:=kR γ.1;have b:=kR γ.2;split at h
  ·rename_i aa
   rw [aUp,aU7] at aa;exact ⟨a.1,a.2,b.1,b.2,by simpa using aa.1,λ p hp=>kR (aa.2 p hp)⟩
  ·cases h
 ·cases h
theorem adX {f:aE} (h:(cR f.wide 1 40 && cR f.high 1 40)=false):f.bq=1:=by unfold bq;rw [h];rfl
theorem idx {f:aE} (h:f.bq=0) {c:ay} (hc:f.fr c=true):0≤c.y * f.wide+c.x∧c.y * f.wide+c.x<(f.aY.length:Int)∧0≤c.x∧c.x<f.wide∧0≤c.y∧c.y<f.high:=by
 obtain ⟨g1,g2,g3,g4,g5,_⟩:=km h;unfold fr at hc;rw [aUp] at hc;have a:=kR hc.1;have b:=kR hc.2;have a8:0≤c.y * f.wide:=aXN b.1 (by omega);have bl:c.y * f.wide≤(f.high - 1) * f.wide:=Int.mul_le_mul_of_nonneg_right b.2 (by omega);have cZ:(f.high - 1) * f.wide=f.wide * f.high - f.wide:=by rw [Int.sub_mul,Int.one_mul,Int.mul_comm]
 rw [g5];omega
theorem dT {f:aE} (h:f.bq=0):f.aY.length≤1600:=by
 obtain ⟨g1,g2,g3,g4,g5,_⟩:=km h;have bl:f.wide * f.high≤40 * 40:=aWU g2 g4 (by omega) (by omega);omega
end aE
namespace aE
def dU (f:aE) (c:ay):Int:=if f.bq≠0 then f.bq else if f.fr c then 0 else 7
def ny (f:aE) (c:ay):Int:=if f.bq≠0 then 0 else if f.fr c then f.place c else 0
theorem UX {f:aE} {c:ay} (h:f.bq≠0):f.dU c=f.bq∧f.ny c=0:=by unfold dU ny;rw [aUz h,aUz h];exact ⟨Z,Z⟩
theorem KX {f:aE} {c:ay} (h:f.bq=0) (aa:f.fr c=false):f.dU c=7∧f.ny c=0:=by unfold dU ny;simp [h,aa]
theorem mO {f:aE} {c:ay} (h:f.bq=0) (aa:f.fr c=true):f.dU c=0∧f.ny c=f.place c:=by unfold dU ny;simp [h,aa]
theorem azN {f:aE} {c:ay} (h:c.x<0∨f.wide≤c.x∨c.y<0∨f.high≤c.y):f.fr c=false:=by
 unfold fr;rcases h with h | h | h | h
 ·rw [p4 (.inl h)];rfl
 ·rw [p4 (n:=c.x) (.inr (by omega))];rfl
 ·rw [p4 (n:=c.y) (.inl h),aYv]
 ·rw [p4 (n:=c.y) (.inr (by omega)),aYv]
theorem azM {f:aE} {c:ay} (γ:0≤c.x) (aa:c.x<f.wide) (av:0≤c.y) (aV:c.y<f.high):f.fr c=true:=by
 unfold fr;rw [o6 γ (by omega),o6 av (by omega)];rfl
end aE
def aNj (k:Int):Option (Int×Int×Int×Int):=if k=1 then some (10,1,1,5) else if k=2 then some (20,2,4,12) else none
namespace aj
def x6 (W:aj) (i:Nat):Bool:=W.field.ground (W.aZ.getD i default) && !(W.aZ.take i).contains (W.aZ.getD i default) && cR (W.bg.getD i 0) 0 1000000
def ox (W:aj):Bool:=decide (W.bg.length=W.aZ.length) && (List.range W.aZ.length).all W.x6
def x7 (W:aj) (i:Nat):Bool:=cR (W.bs.getD i 0) 0 1000000 && (decide (W.bs.getD i 0≤0) || W.field.aY.getD i 0 == 3)
def o' (W:aj):Bool:=decide (W.bs.length=W.field.aY.length) && (List.range W.bs.length).all W.x7
def jR (W:aj) (i:Nat):Int:=if i=0 then 0 else (W.ao.getD (i - 1) default).id
def kb (k:Int):Int:=if k=1 then 10 else if k=2 then 20 else 0
def BB (k:Int):Int:=if k=1 then 5 else 0
def NB (W:aj) (fD jV:Int) (t:bd):Bool :=
 cR t.kind 1 2 && cR t.id fD jV && cR t.owner 0 ((W.aZ.length:Int) - 1) && W.field.ground t.spot && cR t.dc 1 (kb t.kind) && cR t.load 0 (BB t.kind)
def jm (W:aj) (k:Nat):List ay:=(W.ao.take k).map (·.spot)
def x8 (W:aj) (i:Nat):Bool:=W.NB (wrap64 (W.jR i+1)) (wrap64 (W.next - 1)) (W.ao.getD i default) && !(W.jm i).contains (W.ao.getD i default).spot
def kt (W:aj):Bool:=(List.range W.ao.length).all W.x8 && (cR W.next 1 1000000 && cR W.now 0 1000000)
def bq (W:aj):Int :=
 if W.field.bq≠0 then W.field.bq else if 8<W.aZ.length∨100<W.ao.length then 2 else if W.ox && W.o' && W.kt then 0 else 4
structure cq where
 P:Option Addr
 B:Option Addr
 S:Option Addr
 M:Option Addr
 T:Option Addr
 p:Nat
 b:Nat
 s:Nat
 m:Nat
 t:Nat
def H3 (A:Option Addr) (c:Nat) (f:aE):List Value:= [.int .i64 f.wide, .int .i64 f.high, .slice A f.aY.length c]
def cells (h:cq) (W:aj):List Value :=
 [.int .i64 W.field.wide, .int .i64 W.field.high, .slice h.P W.field.aY.length h.p, .slice h.B W.aZ.length h.b, .slice h.S W.bg.length h.s, .slice h.M W.bs.length h.m, .slice h.T W.ao.length h.t, .int .i64 W.next, .int .i64 W.now]
theorem arb (h:cq) (W:aj):(cells h W).toArray=#[.int .i64 W.field.wide, .int .i64 W.field.high, .slice h.P W.field.aY.length h.p, .slice h.B W.aZ.length h.b, .slice h.S W.bg.length h.s, .slice h.M W.bs.length h.m, .slice h.T W.ao.length h.t, .int .i64 W.next, .int .i64 W.now]:=rfl
structure Has (w:World) (h:cq) (W:aj):Prop where
 P:bS.aK 8 w h.P h.p W.field.aY
 B:ay.rep.aK 16 w h.B h.b W.aZ
 S:bS.aK 8 w h.S h.s W.bg
 M:bS.aK 8 w h.M h.m W.bs
 T:bd.rep.aK 56 w h.T h.t W.ao
 nums:fK W.field.wide∧fK W.field.high∧fK W.next∧fK W.now
theorem Has.keep {w w':World} {h:cq} {W:aj} (hw:Has w h W) (Φ:Below w.heap.size w w'):Has w' h W :=
 ⟨hw.P.keep Φ,hw.B.keep Φ,hw.S.keep Φ,hw.M.keep Φ,hw.T.keep Φ,hw.nums⟩
def avs:fP:= .cons (.int .i64) (.cons (.int .i64) (.cons (.slice (.int .i64) 8) .nil))
def sh:fP:= .cons avs (.cons (.slice ay.sh 16) (.cons (.slice (.int .i64) 8) (.cons (.slice (.int .i64) 8) (.cons (.slice bd.sh 56) (.cons (.int .i64) (.cons (.int .i64) .nil))))))
theorem opens (w:World) (cs:List Value) (h:sh.hV w cs):∃ h W,cs=cells h W∧Has w h W:=by
 obtain ⟨_,_,rfl,_,_,⟨_,_,rfl,_,_,⟨dg,rfl,s9⟩,_,_,rfl,_,_,⟨eH,rfl,dF⟩,_,_,rfl,_,_,cn,rfl⟩,_,_,rfl,_,_,ba,_,_,rfl,_,_,hS,_,_,rfl,_,_,ml,_,_,rfl,_,_,b7,_,_,rfl,_,_,⟨e3,rfl,dt⟩,_,_,rfl,_,_,⟨iv,rfl,jj⟩,rfl⟩:=h;obtain ⟨e8,aqG,lP,rfl,AA⟩:=κ.tv (R:=bS) Zx rfl (by decide) cn;obtain ⟨gp,Ve,Yn,rfl,aJ⟩:=κ.tv (R:=ay.rep) ay.opens rfl (by decide) ba;obtain ⟨gq,aqH,az7,rfl,fw⟩:=κ.tv (R:=bS) Zx rfl (by decide) hS;obtain ⟨fG,aqF,ajA,rfl,k7⟩:=κ.tv (R:=bS) Zx rfl (by decide) ml;obtain ⟨fc,fe,qX,rfl,ru⟩:=κ.tv (R:=bd.rep) bd.opens rfl (by decide) b7;exact ⟨⟨e8,gp,gq,fG,fc,aqG,Ve,aqH,aqF,fe⟩,⟨⟨dg,eH,lP⟩,Yn,az7,ajA,qX,e3,iv⟩,Z,AA,aJ,fw,k7,ru,s9,dF,dt,jj⟩
theorem afL {w:World} {g:Nat} {t:TypeId} {aC:Nat×Nat} {A:Option Addr} {c:Nat} {f:aE} (h:aN w g (H3 A c f) t aC):
  w.cell? ⟨g,0,none⟩=some (.int .i64 f.wide)∧w.cell? ⟨g,1,none⟩=some (.int .i64 f.high)∧w.cell? ⟨g,2,none⟩=some (.slice A f.aY.length c):=⟨h.cell 0,h.cell 1,h.cell 2⟩
theorem tH {w:World} {g:Nat} {t:TypeId} {aC:Nat×Nat} {a:cq} {W:aj} (h:aN w g (cells a W) t aC):
  w.cell? ⟨g,0,none⟩=some (.int .i64 W.field.wide)∧w.cell? ⟨g,1,none⟩=some (.int .i64 W.field.high)∧w.cell? ⟨g,2,none⟩=some (.slice a.P W.field.aY.length a.p)∧
  w.cell? ⟨g,3,none⟩=some (.slice a.B W.aZ.length a.b)∧w.cell? ⟨g,4,none⟩=some (.slice a.S W.bg.length a.s)∧w.cell? ⟨g,5,none⟩=some (.slice a.M W.bs.length a.m)∧w.cell? ⟨g,6,none⟩=some (.slice a.T W.ao.length a.t)∧
  w.cell? ⟨g,7,none⟩=some (.int .i64 W.next)∧w.cell? ⟨g,8,none⟩=some (.int .i64 W.now):=⟨h.cell 0,h.cell 1,h.cell 2,h.cell 3,h.cell 4,h.cell 5,h.cell 6,h.cell 7,h.cell 8⟩
end aj
open Tryz

theorem aE.j_ {f:aE} {c:ay} (h:f.ground c=true):f.fr c=true:=by
 unfold aE.ground at h;rw [aUp] at h;exact h.1
namespace aj
theorem adV {W:aj} (h:W.field.bq≠0):W.bq=W.field.bq:=by unfold bq;rw [aUz h]
theorem adW {W:aj} (h:W.field.bq=0) (aa:8<W.aZ.length∨100<W.ao.length):W.bq=2:=by unfold bq;rw [aUr (by simpa using h),aUz aa]
theorem Vn {W:aj} (h:W.field.bq=0) (aa:¬ (8<W.aZ.length∨100<W.ao.length)):W.bq=if W.ox && W.o' && W.kt then 0 else 4:=by unfold bq;rw [aUr (by simpa using h),aUr aa]
end aj
theorem aj.aCC {W:aj} (h:¬ W.bg.length=W.aZ.length):W.ox=false:=by unfold aj.ox;rw [aUU h];rfl
theorem aj.Zg {W:aj} {k:Nat} (aw:k<W.aZ.length) (h:W.x6 k=false):W.ox=false:=by
 unfold aj.ox;rw [aXF];right;rw [aXg];exact ⟨k,aU0.2 aw,by rw [h];simp⟩
theorem aj.akR {W:aj} (h:W.bg.length=W.aZ.length) (ha:∀ k,k<W.aZ.length→W.x6 k=true):W.ox=true:=by
 unfold aj.ox;rw [aUL h,aXi,aU7];exact λ k aw=>ha k (aU0.1 aw)
theorem aj.aBk {W:aj} (h:¬ W.bs.length=W.field.aY.length):W.o'=false:=by unfold aj.o';rw [aUU h];rfl
theorem aj.ake {W:aj} {k:Nat} (aw:k<W.bs.length) (h:W.x7 k=false):W.o'=false:=by
 unfold aj.o';rw [aXF];right;rw [aXg];exact ⟨k,aU0.2 aw,by rw [h];simp⟩
theorem aj.akf {W:aj} (h:W.bs.length=W.field.aY.length) (ha:∀ k,k<W.bs.length→W.x7 k=true):W.o'=true:=by
 unfold aj.o';rw [aUL h,aXi,aU7];exact λ k aw=>ha k (aU0.1 aw)
theorem aj.u0 {W:aj} {k:Nat} (aw:k<W.ao.length) (h:W.x8 k=false):W.kt=false:=by
 unfold aj.kt;rw [aXF];left;rw [aXg];exact ⟨k,aU0.2 aw,by rw [h];simp⟩
def hE (id:Int) (t:bd):Bool:=t.id == id
def qW (p:ay) (t:bd):Bool:=decide (t.spot=p)
def aGE (W:aj) (p:bd→Bool):Int:=if W.bq=0 then max (gA p W.ao) 0 else 0
def am9 (W:aj) (p:bd→Bool):Bool:=decide (W.bq=0) && decide (0≤gA p W.ao)
def aBA (c:ay) (r:Int) (t:bd):Bool:=cR c.x (t.spot.x - r) (t.spot.x+r) && cR c.y (t.spot.y - r) (t.spot.y+r)
def aPQ (W:aj) (c:ay) (r:Int):List Int:=(W.ao.filter (aBA c r)).map (·.id)
def aPP (W:aj) (r:Int):Int:=if W.bq≠0 then W.bq else if cR r 0 12 then 0 else 1
theorem WE {W:aj} (h:W.bq=0):W.field.bq=0∧W.aZ.length≤8∧W.ao.length≤100∧W.ox=true∧W.o'=true∧W.kt=true:=by
 by_cases γ:W.field.bq=0
 ·by_cases aa:8<W.aZ.length∨100<W.ao.length
  ·rw [aj.adW γ aa] at h;cases h
  ·rw [aj.Vn γ aa] at h;split at h
   ·rename_i av
    rw [aUp,aUp] at av;exact ⟨γ,by omega,by omega,av.1.1,av.1.2,av.2⟩
   ·cases h
 ·rw [aj.adV γ] at h;exact absurd h γ
theorem QU {W:aj} (h:W.bq=0) {k:Nat} {t:bd} (aF:W.ao[k]? =some t):W.field.ground t.spot=true∧cR t.kind 1 2=true∧cR t.owner 0 ((W.aZ.length:Int) - 1)=true∧cR t.dc 1 (aj.kb t.kind)=true∧cR t.load 0 (aj.BB t.kind)=true∧(W.jm k).contains t.spot=false∧cR t.id (wrap64 (W.jR k+1)) (wrap64 (W.next - 1))=true:=by
 obtain ⟨aI,_,_,_,_,cg⟩:=WE h;unfold aj.kt at cg;rw [aUp,aU7] at cg;have aw:=(aUj.1 aF).1;have ef:=cg.1 k (aU0.2 aw);unfold aj.x8 aj.NB at ef;rw [aUi,aF] at ef;simp only [aVq,aUp,aVn] at ef;obtain ⟨⟨⟨⟨⟨⟨cy,a2⟩,a3⟩,a4⟩,a5⟩,Hv⟩,PD⟩:=ef;exact ⟨a4,cy,a3,a5,Hv,PD,a2⟩
open Tryz

theorem akj {W:aj} (h:W.bq=0):1≤W.next∧W.next≤1000000∧0≤W.now∧W.now≤1000000:=by
 obtain ⟨_,_,_,_,_,cg⟩:=WE h;unfold aj.kt at cg;rw [aUp,aUp] at cg;have a:=kR cg.2.1;have b:=kR cg.2.2;exact ⟨a.1,a.2,b.1,b.2⟩
theorem wrap_small {x:Int} (γ: -1000≤x) (aa:x≤2000000):wrap64 x=x:=by
 have h:=aXz x;unfold wrap64;first | (rw [h];omega) | omega
theorem azq {W:aj} (h:W.bq=0):∀ (k:Nat) (t:bd),W.ao[k]? =some t→W.jR k<t.id∧t.id<W.next∧0≤W.jR k:=by
 obtain ⟨Gm,uY,_,_⟩:=akj h;intro k;induction k with
 | zero =>
  intro t aF;have ef:=kR (QU h aF).2.2.2.2.2.2;have e:W.jR 0=0:=rfl;rw [e] at ef ⊢;rw [wrap_small (by omega) (by omega),wrap_small (by omega) (by omega)] at ef;omega
 | succ k bI =>
  intro t aF;have bE:=(aUj.1 aF).1;obtain ⟨u,hu⟩:=hC (l:=W.ao) (i:=k) (by omega);have gz:=bI u hu;have ef:=kR (QU h aF).2.2.2.2.2.2;have e:W.jR (k+1)=u.id:=by
   unfold aj.jR;rw [aUr (by omega),aUi,aXX,hu];rfl
  rw [e] at ef ⊢;rw [wrap_small (by omega) (by omega),wrap_small (by omega) (by omega)] at ef;omega
open Tryz
structure PB (f:aE) (ks:Nat) (t:bd):Prop where
 kind:t.kind=1∨t.kind=2
 owner:0≤t.owner∧t.owner<(ks:Int)
 ground:f.ground t.spot=true
 dc:1≤t.dc∧t.dc≤aj.kb t.kind
 load:0≤t.load∧t.load≤aj.BB t.kind
structure Good (W:aj):Prop where
 field:W.field.bq=0
 ks:W.aZ.length≤8
 eF:W.ao.length≤100
 sl:W.bg.length=W.aZ.length
 aZ:∀ (i:Nat) c,W.aZ[i]? =some c→W.field.ground c=true∧(W.aZ.take i).contains c=false
 bg:∀ (i:Nat) s,W.bg[i]? =some s→0≤s∧s≤1000000
 x5:W.bs.length=W.field.aY.length
 bs:∀ (i:Nat) m,W.bs[i]? =some m→0≤m∧m≤1000000∧(m≤0∨W.field.aY.getD i 0=3)
 ao:∀ (i:Nat) t,W.ao[i]? =some t→PB W.field W.aZ.length t
 ids:∀ (i:Nat) t,W.ao[i]? =some t→W.jR i<t.id∧t.id<W.next∧0≤W.jR i
 jm:∀ (i:Nat) t,W.ao[i]? =some t→(W.jm i).contains t.spot=false
 next:1≤W.next∧W.next≤1000000
 now:0≤W.now∧W.now≤1000000
theorem Good.BD {W:aj} (h:W.bq=0):Good W:=by
 obtain ⟨aI,gz,xH,hp,hm,aF⟩:=WE h;obtain ⟨Gm,uY,qb,sq⟩:=akj h;unfold aj.ox at hp;unfold aj.o' at hm;rw [aUp,aU7] at hp hm;have s7:W.bg.length=W.aZ.length:=by simpa using hp.1
 have FT:W.bs.length=W.field.aY.length:=by simpa using hm.1
 refine ⟨aI,gz,xH,s7,λ i c hc=> ?_,λ i s hs=> ?_,FT,λ i m aq=> ?_,λ i t aq=> ?_,λ i t aq=>azq h i t aq,λ i t aq=>(QU h aq).2.2.2.2.2.1,⟨Gm,uY⟩,⟨qb,sq⟩⟩
 ·have bE:=(aUj.1 hc).1;have:=hp.2 i (aU0.2 bE);unfold aj.x6 at this;rw [aUi,hc] at this;simp only [aVq,aUp,aVn] at this;exact ⟨this.1.1,this.1.2⟩
 ·have bE:=(aUj.1 hs).1;have:=hp.2 i (aU0.2 (by omega));unfold aj.x6 at this;rw [aUp] at this;have aa:=kR this.2;rw [aUi,hs] at aa;exact aa
 ·have bE:=(aUj.1 aq).1;have:=hm.2 i (aU0.2 bE);unfold aj.x7 at this;rw [aUi,aq,aUp,aU9] at this;have aa:=kR this.1;refine ⟨aa.1,aa.2, ?_⟩;rcases this.2 with av | av
  ·exact .inl (by simpa using av)
  ·exact .inr (by simpa using av)
 ·obtain ⟨cy,a2,a3,a4,a5,_,_⟩:=QU h aq;have dW:=kR a2;have gd:=kR a3;have pJ:=kR a4;have HA:=kR a5;exact ⟨by omega,⟨gd.1,by omega⟩,cy,pJ,HA⟩
theorem Good.bq {W:aj} (h:Good W):W.bq=0:=by
 have hp:W.ox=true:=aj.akR h.sl λ k aw=>by
  obtain ⟨c,hc⟩:=hC aw;obtain ⟨s,hs⟩:=hC (l:=W.bg) (i:=k) (by rw [h.sl];exact aw);unfold aj.x6;rw [aUi,hc,aUi,hs];have γ:=h.aZ k c hc;have aa:=h.bg k s hs;simp only [aVq];rw [γ.1,γ.2,o6 aa.1 aa.2];rfl
 have hm:W.o'=true:=aj.akf h.x5 λ k aw=>by
  obtain ⟨m,hm⟩:=hC aw;have γ:=h.bs k m hm;unfold aj.x7;rw [aUi,hm];simp only [aVq];rw [o6 γ.1 γ.2.1,aXi,aU9];rcases γ.2.2 with av | av
  ·exact .inl (by simpa using av)
  ·exact .inr (by simpa using av)
 have aF:W.kt=true:=by
  unfold aj.kt;rw [o6 h.next.1 h.next.2,o6 h.now.1 h.now.2,Bool.and_true,Bool.and_true,aU7];intro k aw;obtain ⟨t,aF⟩:=hC (aU0.1 aw);have γ:=h.ao k t aF;have aa:=h.ids k t aF;have av:=h.jm k t aF;have hn:=h.next;unfold aj.x8 aj.NB;rw [aUi,aF];simp only [aVq];have dF:cR t.kind 1 2=true:=by
   rcases γ.kind with h | h
   ·exact o6 (by omega) (by omega)
   ·exact o6 (by omega) (by omega)
  have dt:cR t.id (W.jR k+1) (W.next - 1)=true:=o6 (by omega) (by omega);have jj:cR t.owner 0 ((W.aZ.length:Int) - 1)=true:=o6 γ.owner.1 (by have:=γ.owner.2;omega);rw [wrap_small (by omega) (by omega),wrap_small (by omega) (by omega),dF,dt,jj,av,γ.ground,o6 γ.dc.1 γ.dc.2,o6 γ.load.1 γ.load.2];rfl
 rw [aj.Vn h.field (by have:=h.ks;have:=h.eF;omega),hp,hm,aF];rfl
open Tryz
structure bj (w:World) (ax:Nat) (a:aj.cq) (W:aj):Prop where
 P:bS.aD 3 8 w ax (κ.ae a.P) a.P a.p W.field.aY
 B:ay.rep.aD 49 16 w ax (κ.ae a.B) a.B a.b W.aZ
 S:bS.aD 3 8 w ax (κ.ae a.S) a.S a.s W.bg
 M:bS.aD 3 8 w ax (κ.ae a.M) a.M a.m W.bs
 T:bd.rep.aD 66 56 w ax (κ.ae a.T) a.T a.t W.ao
 apart:(κ.ae a.P++κ.ae a.B++κ.ae a.S++κ.ae a.M++κ.ae a.T).Nodup
 nums:fK W.field.wide∧fK W.field.high∧fK W.next∧fK W.now
theorem bj.has {w:World} {B:Nat} {a:aj.cq} {W:aj} (h:bj w B a W):aj.Has w a W:=⟨h.P.has,h.B.has,h.S.has,h.M.has,h.T.has,h.nums⟩
theorem bj.later {w w':World} {B:Nat} {a:aj.cq} {W:aj} (h:bj w B a W) (Φ:Below w.heap.size w w'):bj w' B a W:=⟨h.P.later Φ,h.B.later Φ,h.S.later Φ,h.M.later Φ,h.T.later Φ,h.apart,h.nums⟩
def bj.bV (a:aj.cq):List Nat:=κ.ae a.P++κ.ae a.B++κ.ae a.S++κ.ae a.M++κ.ae a.T
theorem bj.lt {w:World} {B:Nat} {a:aj.cq} {W:aj} (h:bj w B a W):∀ g∈bj.bV a,B≤g∧g<w.heap.size:=by
 intro g aS;unfold bj.bV at aS;simp only [aUy] at aS;rcases aS with (((aS | aS) | aS) | aS) | aS
 ·exact h.P.lt g aS
 ·exact h.B.lt g aS
 ·exact h.S.lt g aS
 ·exact h.M.lt g aS
 ·exact h.T.lt g aS
theorem bj.other {w:World} {B:Nat} {a:aj.cq} {W:aj} (h:bj w B a W) {p:Addr} (hp:p.block∉bj.bV a) (u:Value):bj (w.setCell p u) B a W:=by
 unfold bj.bV at hp;simp only [aUy,not_or] at hp;exact ⟨h.P.other hp.1.1.1.1 u,h.B.other hp.1.1.1.2 u,h.S.other hp.1.1.2 u,h.M.other hp.1.2 u,h.T.other hp.2 u,h.apart,h.nums⟩
theorem Ja {w:World} {B:Nat} {A:Option Addr} {α:Type} {R:κ α} {E by_ c:Nat} {l:List α} (h:R.aD E by_ w B (κ.ae A) A c l) {g:Nat} (aS:g<B):g∉κ.ae A:=λ hm=>by have:=h.lt g hm;omega
theorem Ek {w:World} {g:Nat} {dg eH e3 iv oE nW qi q8 tI:Value} {t:TypeId} {aC:Nat×Nat} (h:aN w g [dg,eH,e3,iv,oE,nW,qi,q8,tI] t aC):w.cell? ⟨g,0,none⟩=some dg∧w.cell? ⟨g,1,none⟩=some eH∧w.cell? ⟨g,2,none⟩=some e3∧w.cell? ⟨g,3,none⟩=some iv∧w.cell? ⟨g,4,none⟩=some oE∧w.cell? ⟨g,5,none⟩=some nW∧w.cell? ⟨g,6,none⟩=some qi∧w.cell? ⟨g,7,none⟩=some q8∧w.cell? ⟨g,8,none⟩=some tI :=
 ⟨h.cell 0,h.cell 1,h.cell 2,h.cell 3,h.cell 4,h.cell 5,h.cell 6,h.cell 7,h.cell 8⟩
theorem PI {eE jQ:List Nat} {n m:Nat} (γ:eE.Nodup∧∀ g∈eE,g<n) (aa:jQ.Nodup) (av:∀ g∈jQ,n≤g∧g<m) (aMw:n≤m):(eE++jQ).Nodup∧∀ g∈eE++jQ,g<m:=by
 refine ⟨aU5.2 ⟨γ.1,aa,λ a ha b Φ e=> ?_⟩,λ g aS=> ?_⟩
 ·have:=γ.2 a ha;have:=(av b Φ).1;omega
 ·rcases aUy.1 aS with aS | aS
  ·have:=γ.2 g aS;omega
  ·exact (av g aS).2
theorem vG (A:Option Addr):(κ.ae A).Nodup:=by cases A<;>simp [κ.ae]
theorem aBC {w:World} {g:Nat} {z0 lQ z2 z3 z4 z5 aHa aHb aHc:Value} {t:TypeId} {aC:Nat×Nat} (h:aN w g [z0,lQ,z2,z3,z4,z5,aHa,aHb,aHc] t aC) (dg eH e3 iv oE nW qi q8 tI:Value):aN (((((((((w.setCell ⟨g,0,none⟩ dg).setCell ⟨g,1,none⟩ eH).setCell ⟨g,2,none⟩ e3).setCell ⟨g,3,none⟩ iv).setCell ⟨g,4,none⟩ oE).setCell ⟨g,5,none⟩ nW).setCell ⟨g,6,none⟩ qi).setCell ⟨g,7,none⟩ q8).setCell ⟨g,8,none⟩ tI) g [dg,eH,e3,iv,oE,nW,qi,q8,tI] t aC :=
 (((((((((h.set 0 dg).set 1 eH).set 2 e3).set 3 iv).set 4 oE).set 5 nW).set 6 qi).set 7 q8).set 8 tI)
theorem bj.nine {w:World} {ax:Nat} {a:aj.cq} {W:aj} {g:Nat} (h:bj w ax a W) (aS:g∉bj.bV a) (dg eH e3 iv oE nW qi q8 tI:Value):bj (((((((((w.setCell ⟨g,0,none⟩ dg).setCell ⟨g,1,none⟩ eH).setCell ⟨g,2,none⟩ e3).setCell ⟨g,3,none⟩ iv).setCell ⟨g,4,none⟩ oE).setCell ⟨g,5,none⟩ nW).setCell ⟨g,6,none⟩ qi).setCell ⟨g,7,none⟩ q8).setCell ⟨g,8,none⟩ tI) ax a W :=
 (((((((((h.other (p:=⟨g,0,none⟩) aS dg).other (p:=⟨g,1,none⟩) aS eH).other (p:=⟨g,2,none⟩) aS e3).other (p:=⟨g,3,none⟩) aS iv).other (p:=⟨g,4,none⟩) aS oE).other (p:=⟨g,5,none⟩) aS nW).other (p:=⟨g,6,none⟩) aS qi).other (p:=⟨g,7,none⟩) aS q8).other (p:=⟨g,8,none⟩) aS tI)
theorem aqk {w0 w:World} {ax g:Nat} (h:Below ax w0 w) (aS:ax≤g) (dg eH e3 iv oE nW qi q8 tI:Value):Below ax w0 (((((((((w.setCell ⟨g,0,none⟩ dg).setCell ⟨g,1,none⟩ eH).setCell ⟨g,2,none⟩ e3).setCell ⟨g,3,none⟩ iv).setCell ⟨g,4,none⟩ oE).setCell ⟨g,5,none⟩ nW).setCell ⟨g,6,none⟩ qi).setCell ⟨g,7,none⟩ q8).setCell ⟨g,8,none⟩ tI):=
 (((((((((h.setCell (p:=⟨g,0,none⟩) aS dg).setCell (p:=⟨g,1,none⟩) aS eH).setCell (p:=⟨g,2,none⟩) aS e3).setCell (p:=⟨g,3,none⟩) aS iv).setCell (p:=⟨g,4,none⟩) aS oE).setCell (p:=⟨g,5,none⟩) aS nW).setCell (p:=⟨g,6,none⟩) aS qi).setCell (p:=⟨g,7,none⟩) aS q8).setCell (p:=⟨g,8,none⟩) aS tI)
def acd (w l8:World) (e9:Option Addr) (ow:Nat) (W:aj) (fG:Option Addr) (fZ:Nat) (fc:Option Addr) (fJ uY:Nat):Prop :=
 ∃ (cu:Option Addr) (mP:Nat) (e_:Option Addr) (nc qb sq:Nat),aN l8 w.heap.size [.int .i64 W.field.wide, .int .i64 W.field.high, .slice e9 W.field.aY.length ow, .slice cu W.aZ.length mP, .slice e_ W.bg.length nc, .slice fG W.bs.length fZ, .slice fc W.ao.length fJ, .int .i64 W.next, .int .i64 W.now] 28 (0,0)∧
  aN l8 (w.heap.size+1) [.int .i64 0, .int .i64 0, .slice none 0 0, .slice none 0 0, .slice none 0 0, .slice none 0 0, .slice none 0 0, .int .i64 0, .int .i64 0] 28 (0,0)∧bS.aD 3 8 l8 w.heap.size (κ.ae e9) e9 ow W.field.aY∧ay.rep.aD 49 16 l8 uY (κ.ae cu) cu mP W.aZ∧bS.aD 3 8 l8 qb (κ.ae e_) e_ nc W.bg∧
  (∀ g∈κ.ae cu,uY≤g∧g<qb)∧(∀ g∈κ.ae e_,qb≤g∧g<sq)∧Below w.heap.size w l8∧uY≤qb∧qb≤sq∧sq=l8.heap.size
open Tryz
open Tryz

namespace κ
variable {α:Type} {R:κ α}
theorem avb {β:Type} {size:Nat} {X:List (List β)} {i:Nat} {es:List β} (Db:∀ x∈X,x.length=size) (aq:i<X.length):(X.set i es).flatten=X.flatten.take (i * size)++es++X.flatten.drop (i * size+size):=by
 rw [aX2,aUz aq,aWB,aVb,QJ i Db,Wk (i+1) Db,aVP,aUX]
theorem aEO {β:Type} {cur es:List β} {p n k:Nat} (aw:es.length=k) (γ:p+k≤n) (aa:n≤cur.length):(cur.take p++es++cur.drop (p+k)).take n=(cur.take n).take p++es++(cur.take n).drop (p+k):=by
 apply aVJ;intro j;subst aw;simp only [aU2,List.getElem?_append,aUq,aUm,aVo]
 grind
theorem aD.alD {E by_ B c i g:Nat} {f:List Nat} {l:List α} {w:World} {q':α} {es:List Value} {cur:Array Value} (h:R.aD E by_ w B f (some ⟨g,0,none⟩) c l) (hp:R.An) (aq:i<l.length) (I:∀ w,R.has w es q') (uH:w.heap[g]? =some (.cells cur E (0,0))):
  R.aD E by_ (w.setRow g (cur.toList.take (i * R.size)++es++cur.toList.drop (i * R.size+es.length)).toArray) B f (some ⟨g,0,none⟩) c (l.set i q')∧i * R.size+es.length≤cur.toList.length:=by
 obtain ⟨Φ,ps,rfl,hn,b5,dB⟩:=h;have Iy:es.length=R.size:=R.len (I w);have aB:=Sn dB;have uM:ps.length=l.length:=dB.length;obtain ⟨ka,zl⟩:=b5;obtain ⟨g',cap,CY,hv,avW,fp,Dy,r4,jh,Mw,bD⟩:=zl.resolve_left (λ bB=>nomatch bB.1);injection hv with nI DD ayY
 injection nI with nI
 injection nI with nI aMO aMP
 subst nI ayY;rw [fp] at uH;injection uH with uH
 injection uH with uH
 subst uH;have hle:i * R.size+R.size≤l.length * R.size:=by rw [← aVP];exact aU3 _ aq
 have XL:l.length * R.size≤c * R.size:=aU3 _ Dy;have s7:CY.toList.length=c * R.size:=by rw [aWD,jh]
 obtain ⟨x,hx,My⟩:=dB.at_ (dH (l:=l) (u:=q') aq);have ji:x.1= []:=hp.2 My;have Xp:∀ y∈ps,∀ q∈y.1,q≠g:=λ y aH q I e=>by
  obtain ⟨b,FF⟩:=dB.left y aH;rw [hp.2 FF] at I;simp at I
 have a8:(ps.set i (x.1,es)).map (·.1)=ps.map (·.1):=by
  rw [aVD];have:(ps.map (·.1))[i]? =some x.1:=by rw [aUx,hx];rfl
  obtain ⟨aa,av⟩:=aUj.1 this
  conv=>lhs;rw [← av]
  exact aV1 _
 have bl:(ps.set i (x.1,es)).map (·.2)=(ps.map (·.2)).set i es:=by rw [aVD]
 have ahi:=avb (es:=es) aB (by rw [aUZ];omega:i<(ps.map (·.2)).length);rw [Iy];refine ⟨⟨by rw [aUs];exact Φ,ps.set i (x.1,es),by rw [a8],hn,⟨?_, .inr ⟨g,c,(CY.toList.take (i * R.size)++es++CY.toList.drop (i * R.size+R.size)).toArray,by rw [aUs],avW, ?_,by rw [aUs];exact Dy,r4, ?_, ?_, ?_⟩⟩, ?_⟩,by omega⟩
 ·rw [bl,ahi,aUs];simp only [aUq,aUm,aUE,ka,Iy];omega
 ·exact aN.setRow (cur:=CY.toList) (by simpa [aN] using fp) _
 ·rw [aVC];simp only [aUq,aUm,aUE,s7,Iy];omega
 ·rw [aUs,bl,ahi,← Mw];exact aEO Iy hle (by omega)
 ·intro j u hu;rw [aXE] at hu;by_cases γ:j<i * R.size
  ·refine bD j u ?_;rw [aUX,aUC (by rw [aUm];omega),aU2,aUz γ] at hu;rw [← aVg];exact hu
  ·by_cases aa:j<i * R.size+R.size
   ·rw [aUX,aUF (by rw [aUm];omega),aUC (by rw [aUm];omega),aUm] at hu;have aA:j % R.size=j - i * R.size:=by
     have av:j=R.size * i+(j - i * R.size):=by rw [aVB];omega
     have bJ:(j - i * R.size) % R.size=j - i * R.size:=aVt (by omega)
     conv=>lhs;rw [av,aW1,bJ]
    rw [aA];exact R.wD (I w) _ u (by rw [aV6 (by omega)] at hu;exact hu)
   ·refine bD j u ?_;rw [aUF (by simp only [aUq,aUm];omega),aVo] at hu;rw [← aVg];rw [show i * R.size+R.size+(j - (List.take (i * R.size) CY.toList++es).length)=j from by simp only [aUq,aUm];omega] at hu;exact hu
 ·have Xa:de (λ x a=>R.own (w.setRow g (CY.toList.take (i * R.size)++es++CY.toList.drop (i * R.size+R.size)).toArray) B x.1 x.2 a) ps l:=dB.imp λ y a aH RM=>R.tu RM λ q I=>(Mod.setRow w g _).block q (R.wB RM q I).2 (by simpa using Xp y aH q I);exact Xa.ZM (P:=λ (x:List Nat×List Value) a=>R.own _ B x.1 x.2 a) (by rw [ji];exact hp.1 (I _))
end κ
section
variable {P:Program} {n:Nat} {E c0:List (Nat×Value)} {a:Act} {w w' w0 aP:World} {Q:Exit→Act→World→Prop} {ops:Array Oper} {v:Value}
variable {d:Option Nat} {ty:TypeId} {pos:String} {af:Array Edge} {g:Option (Nat×Bool)} {x y z:Operand} {t:TypeId} {rest:List Oper}
theorem NU {α:Type} {R:κ α} {e by_ B i:Nat} {A:Option Addr} {c:Nat} {l:List α} {q':α} {p:Addr} {es:List Value} (h:R.aD e by_ w B (κ.ae A) A c l) (hR:R.An) (aq:i<l.length) (hx:ev E x=some (.pointer (some p))) (hp:p=⟨cu A,du A+i * R.size,none⟩) (aH:ev E y=some v) (hc:v.cells=es.toArray)
  (I:∀ w,R.has w es q') (hs:ez P t es.length)
  (aw:∀ aP,Mod (κ.ae A) w aP→R.aD e by_ aP B (κ.ae A) A c (l.set i q')→cG P n ops Q rest E aP):cG P n ops Q (⟨none, .store t x y,ty,pos,af,none⟩::rest) E w:=by
 obtain ⟨b,rfl⟩:=h.block (by omega);have Mk:p=⟨b,i * R.size,none⟩:=by rw [hp];simp [cu,du]
 subst Mk;obtain ⟨_,ps,_,_,b5,_⟩:=id h;obtain ⟨cur,uH,_,_⟩:=b5.adS;obtain ⟨wh,hle⟩:=κ.aD.alD (q':=q') h hR aq I uH;have hh:=ZF (P:=P) (w:=w) (b:=b) (p:=i * R.size) (cur:=cur.toList) (e:=e) (by simpa [aN] using uH) hc hs (aU7.2 (R.one (I w))) hle;refine us (λ n a ha=> ?_) (aw _ (Mod.setRow w b _) wh);simp only [execOp,ha.ev hx,ha.ev aH,Instr.storeAt,Instr.sureAddr,aUv,aUA,aUo,hh]
def akN (A:Option Addr) (aJA:Nat):Option Addr:=A
theorem alx {A:Option Addr} {len cap e s:Nat} {k:IntKind} (aq m:Nat) {i:Int} (aF:P.underlying t=some (.slice e)) (hs:ez P e s) (hx:ev E x=some (.slice A len cap)) (aH:ev E y=some (.int k i)) (γ:i=(aq:Int)) (aa:aq≤cap) (hm:m=aq):cT P E ⟨d, .slice t x none (some y) none,ty,pos,af,g⟩ w (.slice (akN A aq) m cap) w:=λ n a ha=>by
 subst γ;subst hm;have γ:P.underlying t=some (.slice (P.elem t)):=by simp [Program.elem,aF]
 have nQ:P.elem t=e:=by simp [Program.elem,aF]
 have av:=run_slice_h (P:=P) (w:=w) t A len cap γ k (m:Int) (by omega) (by omega);have aV:=aWq (P:=P) (w:=w) t (.slice A len cap) none (some (.int k (m:Int))) none γ;rw [nQ,hs w] at av;simp only [execOp,ha.ev hx,ha.ev aH,Option.map,aV,av,aUv,aUo,aUA,sliced,aVc,Nat.sub_zero];unfold akN;cases A with
 | none=>simp
 | some a=>simp [Addr.add]
end
open Tryz
section
variable {P:Program} {n:Nat} {E:List (Nat×Value)} {w:World} {Q:Exit→Act→World→Prop} {ops:Array Oper} {a6:Nat→Nat}
def aa5 (P:Program) (ops:Array Oper) (Q:Exit→Act→World→Prop) (a6:Nat→Nat) (EB aIf:List Nat):Exit→Act→World→Prop :=
 gO (λ a w=>u_ P ops (gO (Q .normal)) a6 EB a w∧u_ P ops (gO (Q .normal)) a6 aIf a w)
theorem aDw {id:Nat} (kS:List (Nat×Nat)) (bZ:List Nat) (i:Nat) (Af:List Nat) (j:Nat) (EC:List Nat) (hm:P.follows .mixedOrders=true)
  (ba:(Region.noSelect ops && (bZ.length+(Af.length+1)== ops.size) && (Af.length == EC.length) && Nat.blt 1 (mn kS i) && Nat.blt 1 (mn kS j) && C8 ops (mn kS) bZ (Array.replicate ops.size false) && (Region.ready .any ops (wF bZ (Array.replicate ops.size false))== [i,j]) && kl ops (mn kS) Af ((wF bZ (Array.replicate ops.size false)).setIfInBounds i true) && kl ops (mn kS) EC ((wF bZ (Array.replicate ops.size false)).setIfInBounds j true))=true)
  (h:iF P n ops (aa5 P ops Q (mn kS) (i::Af) (j::EC)) (mn kS) bZ E w):W P n (.region id ops true) Q E w:=λ a ha=>by
 simp only [aUp,aVh,aW8] at ba;obtain ⟨⟨⟨⟨⟨⟨⟨⟨hs,aB⟩,hlen⟩,aq⟩,aA⟩,γ⟩,hr⟩,aa⟩,av⟩:=ba;refine aY2 (aXm hm (Q:=gO (Q .normal)) ?_) (λ e a w I=>by cases e<;>first | exact I | exact I.elim);have:=PF (P:=P) hs (Q:=gO (Q .normal)) (λ _ _ _ h=>h) (m:=Af.length+1) bZ (Array.replicate ops.size false) a w (by simp) γ (h a ha) (λ a w0 fp=>by
  have fp:u_ P ops (gO (Q .normal)) (mn kS) (i::Af) a w0∧u_ P ops (gO (Q .normal)) (mn kS) (j::EC) a w0:=fp w0 (Ext.bK w0);refine ⟨λ aI=>(by rw [hr] at aI;cases aI),λ q I=> ?_⟩;rw [hr] at I;have I:q=i∨q=j:=by simpa using I
  rcases I with rfl | rfl
  ·obtain ⟨⟨o,b5,h⟩,_⟩:=fp;rcases h with ⟨aw,_⟩ | ⟨aw,_⟩ | ⟨aw,h⟩
   ·omega
   ·omega
   ·exact ⟨o,b5, .inr ⟨aw,λ w hw=>aWE (λ a' w' av=>⟨av.1,CN hs (λ _ _ _ h=>h) Af _ _ _ (by simp [SL]) aa av.2⟩) (h w hw)⟩⟩
  ·obtain ⟨_,⟨o,b5,h⟩⟩:=fp;rcases h with ⟨aw,_⟩ | ⟨aw,_⟩ | ⟨aw,h⟩
   ·omega
   ·omega
   ·exact ⟨o,b5, .inr ⟨aw,λ w hw=>aWE (λ a' w' bJ=>⟨bJ.1,by rw [hlen];exact CN hs (λ _ _ _ h=>h) EC _ _ _ (by simp [SL]) av bJ.2⟩) (h w hw)⟩⟩)
 rw [aB] at this;exact AO _ _ _ _ this _ (aUN _ w).drew
theorem au8 {Af EC:List Nat} (γ:iF P n ops Q a6 Af E w) (aa:iF P n ops Q a6 EC E w):N n (aa5 P ops Q a6 Af EC) E w:=λ a ha=>⟨γ a ha,aa a ha⟩
end
open Tryz
section
def j8 (ro:Option Nat):Fence:= {Fence.wide with round:=ro}
section
variable {P:Program} {ro:Option Nat} {m:Nat} {ops:Array Oper} {Q:Exit→Act→World→Prop} {w:World}
theorem adQ {f:FuncId} {args:Array Value} {R:Ending→World→Prop} (h:Calls P f args w R):CallsIn (j8 ro) m P f args w R:=(callsIn_wide (n:=m)).2 h
theorem aDH {row:String} {args:Array Value} {R:Value→World→Prop} (h:Rows P row args w R):RowsIn (j8 ro) m P row args w R:=λ c cs _ =>
 let ⟨v,w',r,s⟩:=h c cs;⟨v,w',r,stepsIn_wide.2 s⟩
def DZ (o:Oper):Bool:=match o.op with
 | .defer _=>false
 | _=>true
theorem akD {o:Oper} {a:Act} {K:Act→World→Prop} (hd:DZ o=true) (h:o.wp P a w K Q):o.wpIn (j8 ro) m P a w K Q:=by
 refine ⟨λ _ _=>trivial, ?_⟩;have hs:o.semAt (j8 ro).round a.eval=execOp a.eval o:=aXn _ _ _ (λ c e=>by simp [DZ,e] at hd);rw [hs];unfold Oper.wp at h;generalize (execOp a.eval o).run P w=r at *
 cases r with
 | ok x w' =>
  cases x<;>simp only [Oper.upon] at h<;>simp only [Oper.uponIn] <;>
   first
    | exact h
    | exact h.elim
    | exact ⟨λ h=>by simp [j8,Fence.wide] at h,adQ h⟩
    | exact ⟨λ h=>by simp [j8,Fence.wide] at h,aDH h⟩
 | halt x w'=>cases x<;>simp only [Oper.upon] at h<;>simp only [Oper.uponIn]<;>first | exact h | exact h.elim
theorem Yv:∀ (l:List Oper) {a:Act} {w:World},l.all DZ=true→wpList P ops Q l a w→(∀ c a w,¬ Q (.panic c) a w)→¬ LetsOut Q→wpListIn (j8 ro) m P ops Q l a w
 | [],a,w,_,h,_,_=>by unfold wpList at h;unfold wpListIn;exact h
 | o::rest,a,w,hd,h,hp,b5=>by
  rw [List.all_cons,aUp] at hd;unfold wpList at h;unfold wpListIn;split at h
  ·rename_i hw
   rw [aUz hw];rcases h with h | ⟨h,x⟩
   ·exact Oper.wpIn_mono (λ a w h=>Yv rest hd.2 h hp b5) (akD hd.1 h)
   ·exact (b5 x).elim
  ·rename_i hw
   rw [aUr hw];exact ⟨λ _ _=>trivial,Yv rest hd.2 h hp b5⟩
theorem aGF {i:Nat} {K:Act→World→Prop} {a:Act} {w:World} (hd:ops.toList.all DZ=true) (b5:¬ LetsOut Q) (h:wpOp P ops Q i K a w):wpOpIn (j8 ro) m P ops Q i K a w:=by
 unfold wpOp at h;unfold wpOpIn;split at h
 ·rename_i aq;simp only [aq];exact h
 ·rename_i o aq
  simp only [aq];have axd:DZ o=true:=aU7.1 hd o (by rw [Array.mem_toList_iff];exact Array.mem_of_getElem? aq);split at h
  ·rename_i hw
   rw [aUz hw];rcases h with h | ⟨h,x⟩
   ·exact akD axd h
   ·exact (b5 x).elim
  ·rename_i hw
   rw [aUr hw];exact ⟨λ _ _=>trivial,h⟩
theorem ada (hd:ops.toList.all DZ=true) (b5:¬ LetsOut Q):∀ (f:Nat) (l:Array Bool) {a:Act} {w:World},wpAny P .any ops Q f l a w→wpAnyIn (j8 ro) m P .any ops Q f l a w
 | 0,l,a,w,h=>h
 | f+1,l,a,w,h=>⟨h.1,λ i aq=>wpOpIn_mono (λ a w h=>ada hd b5 f _ h) (aGF hd b5 (h.2 i aq))⟩
end
theorem akn {K:Act→World→Prop}:∀ c a w,¬ gO K (.panic c) a w:=λ _ _ _ h=>h
theorem akm {K:Act→World→Prop}:¬ LetsOut (gO K):=λ ⟨_,_,h⟩=>h
theorem akl {K:Exit→Act→World→Prop}:∀ e a w,gO (K .normal) e a w→K e a w:=λ e a w h=>by cases e<;>first | exact h | exact h.elim
namespace Rd
section
variable {P:Program} {ro:Option Nat} {m n:Nat} {ops:Array Oper} {Q:Exit→Act→World→Prop} {w w0:World} {E c0:List (Nat×Value)} {id RN:Nat} {c:Operand} {x y:Code} {i j:Int} {bZ:List Nat} {v:Value}
def W (ro:Option Nat) (m:Nat) (P:Program) (n:Nat) (c:Code) (Q:Exit→Act→World→Prop) (E:List (Nat×Value)) (w:World):Prop:=∀ a,ew n E a→c.wpIn (j8 ro) m P Q a w
abbrev M (n:Nat) (Q:Exit→Act→World→Prop) (E:List (Nat×Value)) (w:World):Prop:=N n (gO (Q .normal)) E w
abbrev rF (ro:Option Nat) (m:Nat) (P:Program) (y:Code) (Q:Exit→Act→World→Prop):Exit→Act→World→Prop:=Exit.then (λ a w=>y.wpIn (j8 ro) m P Q a w) Q
theorem az (h:W ro m P n x (rF ro m P y Q) E w):W ro m P n (.seq x y) Q E w:=λ a ha=>wpIn_seq (h a ha)
theorem fv (h:M n Q E w):W ro m P n .skip Q E w:=λ a ha=>wpIn_skip (h a ha)
theorem rt (h:T n Q E w):W ro m P n .ret Q E w:=λ a ha=>wpIn_ret (h a ha)
theorem c_ (h:X n Q id E w):W ro m P n (.exit id) Q E w:=λ a ha=>wpIn_exit (h a ha)
theorem bA (h:W ro m P n x (Exit.inBlock id Q) E w):W ro m P n (.block id x) Q E w:=λ a ha=>wpIn_block (h a ha)
theorem rg {l:List Oper} (h:cG P n l.toArray (gO (Q .normal)) l E w) (hd:l.all DZ=true:=by kernel_rfl):W ro m P n (.region id l.toArray false) Q E w:=λ a ha=>Go.wpIn_mono (aYx (Yv l hd (h a ha) akn akm)) akl
theorem ee {b:Bool} (hc:ev E c=some (.bool b)) (γ:b=true→W ro m P n x Q E w) (aa:b=false→W ro m P n y Q E w):W ro m P n (.cond c x y) Q E w :=
 λ a ha=>wpIn_cond_split (ha.ev hc) (λ h=>γ h a ha) (λ h=>aa h a ha)
theorem dw (hc:ev E c=some (.bool (decide (i<j)))) (γ:i<j→W ro m P n x Q E w) (aa:¬ i<j→W ro m P n y Q E w):W ro m P n (.cond c x y) Q E w:=ee hc (λ h=>γ (aVz h)) (λ h=>aa (aWL h))
theorem eU (hc:ev E c=some (.bool (i != j))) (γ:¬ i=j→W ro m P n x Q E w) (aa:i=j→W ro m P n y Q E w):W ro m P n (.cond c x y) Q E w:=ee hc (λ h=>γ (by simpa using h)) (λ h=>aa (by simpa using h))
theorem aT (h:W ro m P n y Q E w):M n (rF ro m P y Q) E w:=h
theorem ne {fn:Func} {R:Ending→World→Prop} (h:T n (bodyPost P fn R) E w):M n (bodyPost P fn R) E w:=λ a ha=>h a ha
theorem bX (h:M n Q E w):M n (Exit.inBlock id Q) E w:=h
theorem c9 (h:X n Q id E w):X n (rF ro m P y Q) id E w:=h
theorem c8 (h:M n Q E w):X n (Exit.inBlock id Q) id E w:=λ a ha=>by simp only [Exit.inBlock,aVZ];exact h a ha
theorem bT (h:T n Q E w):T n (rF ro m P y Q) E w:=h
theorem dX {c:Code} (kG:Nat→List (Nat×Value)→World→Prop) (k:Nat) (c0:List (Nat×Value)) (aI:kG k c0 w) (hs:Sub c0 E)
  (round:∀ k E w,kG k E w→W ro m P n c (Exit.then (Pq n kG k) Q) E w):W ro m P n (.loop c) Q E w:=λ a ha=>by
 intro b IP cs ayG Φ hr;have key:∀ k a w,(∃ E,kG k E w∧ew n E a)→∃ e a' w',Q e a' w'∧ArrivesIn (Machine.fenced P (j8 ro)) P (lone (b.atR a (.code c:: .inLoop c::IP)) cs w) b IP cs e a' w':=by
  intro k;induction k using Nat.strongRecOn with
  | _ k bI =>
   intro a w ⟨E,qI,ha⟩;obtain ⟨e,cy,aP,I,pW⟩:=round k E w qI a ha b (.inLoop c::IP) cs ayG Φ hr;cases e with
   | normal =>
    obtain ⟨m',bE,WO⟩:=I;obtain ⟨bl,a2,cE,xR,Xc⟩:=bI m' bE cy aP WO;exact ⟨bl,a2,cE,xR, .of_steps (StepsIn.trans pW (.one (fenced_calm Φ hr Z) stepR_inLoop)) Xc⟩
   | exit id=>exact ⟨_,cy,aP,I, .pass (x:= .inLoop c) rfl (λ _ _=> .inl (by simp)) pW⟩
   | goto l=>exact ⟨_,cy,aP,I, .pass (x:= .inLoop c) rfl (λ _ _=> .inl (by simp)) pW⟩
   | ret=>exact ⟨_,cy,aP,I, .pass (x:= .inLoop c) rfl (λ _ _=> .inl (by simp)) pW⟩
   | panic ari=>exact ⟨_,cy,aP,I, .pass (x:= .inLoop c) rfl (λ _ _=> .inl (by simp)) pW⟩
   | outgrown=>exact ⟨_,cy,aP,I, .pass (x:= .inLoop c) rfl (λ _ _=> .inl (by simp)) pW⟩
 obtain ⟨e,a',w',I,pW⟩:=key k a w ⟨c0,aI,ha.sub hs⟩;exact ⟨e,a',w',I, .of_steps (.one (fenced_calm Φ hr Z) stepR_loop) pW⟩
theorem cO {kG:Nat→List (Nat×Value)→World→Prop} {k:Nat} (k':Nat) (c0:List (Nat×Value)) (h:kG k' c0 w) (hm:k'<k) (hs:Sub c0 E):M n (Exit.then (Pq n kG k) Q) E w :=
 λ a ha=>⟨k',hm,c0,h,ha.sub hs⟩
theorem rd (kS:List (Nat×Nat)) (bZ:List Nat) (hm:P.follows .mixedOrders=true) (ba:(Region.noSelect ops && (bZ.length == ops.size) && kl ops (mn kS) bZ (Array.replicate ops.size false))=true)
  (h:iF P n ops (gO (Q .normal)) (mn kS) bZ E w) (hd:ops.toList.all DZ=true:=by kernel_rfl):W ro m P n (.region id ops true) Q E w:=λ a ha=>by
 simp only [aUp,aVh] at ba;obtain ⟨⟨hs,aB⟩,ba⟩:=ba;refine Go.wpIn_mono (wpIn_region_any hm (Q:=gO (Q .normal)) (ada hd akm _ _ ?_)) akl;have:=CN (P:=P) hs (Q:=gO (Q .normal)) akn bZ (Array.replicate ops.size false) a w (by simp) ba (h a ha);rw [aB] at this;exact AO _ _ _ _ this _ (aUN _ w).drew
theorem ac9 {l:List Value} (aB:Nat.ble l.length n=true):ew n (CO 0 l) {tmps:=l.toArray++Array.replicate (n - l.toArray.size) undef,defers:= []}:=by
 refine ⟨Z, ?_,λ t v hv=> ?_⟩
 ·have:=aWj aB;simp only [aYc,aY1,aVC];omega
 ·obtain ⟨j,e,aA⟩:=UU l 0 t v hv;have bE:=(aUj.1 aA).1;rw [aYw (by simp;omega)];simpa [show t=j by omega] using aA
theorem cl {f:FuncId} {fn:Func} {c:Code} {l:List Value} {R:Ending→World→Prop} (hf:P.funcs[f]? =some fn) (Φ:fn.body=some c) (hn:fn.ntmps=n) (aB:Nat.ble l.length n=true)
  (h:W none m P n c (bodyPostM (j8 none) m P fn R) (CO 0 l) w):Calls P f l.toArray w R:=by
 have γ:CallsIn (j8 none) m P f l.toArray w R:=callsIn_of_wp_marks hf Φ trivial (by rw [hn];exact h _ (ac9 aB)) rfl;exact (callsIn_wide (n:=m)).1 γ
theorem aq6 {f:FuncId} {fn:Func} {c:Code} {l:List Value} {R:Ending→World→Prop} (hf:P.funcs[f]? =some fn) (Φ:fn.body=some c) (hn:fn.ntmps=n) (aB:Nat.ble l.length n=true)
  (h:W none m P n c (bodyPost P fn R) (CO 0 l) w):CallsIn (j8 none) m P f l.toArray w R :=
 callsIn_of_wp hf Φ trivial (by rw [hn];exact h _ (ac9 aB)) rfl
theorem bb {fn:Func} {R:Ending→World→Prop} {vs:List Value} (h:xj P E w fn.results.toList vs) (hR:R (.returned (u1 vs)) w):T n (bodyPostM (j8 none) m P fn R) E w :=
 λ a ha=>by
  show LeavesInM _ _ _ _ _ _ a.defers _ _;rw [ha.d];exact ⟨_,ZD h ha,hR⟩
end
end Rd
namespace oR
section
variable {P:Program} {ro:Option Nat} {m n:Nat} {ops:Array Oper} {Q:Exit→Act→World→Prop} {w w' w0:World} {E c0:List (Nat×Value)} {id:Nat} {v:Value}
variable {d:Option Nat} {ty:TypeId} {pos:String} {af:Array Edge} {g:Option (Nat×Bool)} {x y z:Operand} {t:TypeId} {rest:List Oper}
def cG (ro:Option Nat) (m:Nat) (P:Program) (n:Nat) (ops:Array Oper) (Q:Exit→Act→World→Prop) (l:List Oper) (E:List (Nat×Value)) (w:World):Prop:=∀ a,ew n E a→wpListIn (j8 ro) m P ops Q l a w
theorem rg {l:List Oper} (h:cG ro m P n l.toArray Q l E w):Rd.W ro m P n (.region id l.toArray false) Q E w:=λ a ha=>aYx (h a ha)
theorem nl (h:Rd.M n Q E w):cG ro m P n ops Q [] E w:=h
theorem iC {d:Nat} {op:Op} (hr:cT P E ⟨some d,op,ty,pos,af,none⟩ w v w') (hd:Nat.blt d n=true) (h:cG ro m P n ops Q rest ((d,v)::E) w'):cG ro m P n ops Q (⟨some d,op,ty,pos,af,none⟩::rest) E w:=λ a ha=>by
 have lH:=hr n a ha;unfold wpListIn;rw [aUz (by simp [Region.wanted])];refine ⟨λ _ _=>trivial, ?_⟩;have hs:(⟨some d,op,ty,pos,af,none⟩:Oper).semAt (j8 ro).round a.eval=execOp a.eval ⟨some d,op,ty,pos,af,none⟩:=aXn _ _ _ (λ c e=>by
  have e:op= .defer c:=e;subst e;simp only [execOp,aUv,aUA] at lH;revert lH;generalize (resolve a.eval c ty).run P w=r;cases r<;>simp [Result.andThen])
 rw [hs,lH];exact h _ (ha.put hd v)
theorem aG5 {d:Nat} {l:Nat} {xs:Array Operand} {ts:Array TypeId} {args:List Value} (hx:ev E x=some (.func (.yield l) #[] #[])) (he:hz E xs.toList=some args) (hd:Nat.blt d n=true)
  (h:YieldAt (j8 ro) (m - 1) P l args.toArray w λ e w'=>∃ v,e= .returned v∧cG ro m P n ops Q rest ((d,v)::E) w'):cG ro m P n ops Q (⟨some d, .call {callee:= .value x,args:=xs,argTypes:=ts},ty,pos,af,none⟩::rest) E w:=λ a ha=>by
 obtain ⟨fn,tmps,assign,body,aH,hR⟩:=h;unfold wpListIn;rw [aUz (by simp [Region.wanted])];refine ⟨λ _ _=>trivial, ?_⟩;have hs:(⟨some d, .call {callee:= .value x,args:=xs,argTypes:=ts},ty,pos,af,none⟩:Oper).semAt (j8 ro).round a.eval=execOp a.eval ⟨some d, .call {callee:= .value x,args:=xs,argTypes:=ts},ty,pos,af,none⟩:=aXn _ _ _ (λ c e=>by cases e);have hm:xs.map a.eval=args.toArray:=by rw [← ha.hz he];apply aVK;simp
 have lH:(execOp a.eval ⟨some d, .call {callee:= .value x,args:=xs,argTypes:=ts},ty,pos,af,none⟩).run P w= .ok (.round l fn tmps assign body) w:=by
  unfold execOp;simp only [resolve,invoke,Deferred.ofValue,ha.ev hx,callFunc,aUv,aUA,aUo,hm,aW9];first
   | exact aH
   | simpa using aH
 rw [hs,lH];refine ⟨λ h=>by simp [j8,Fence.wide] at h,hR.mono λ e w' he=> ?_⟩;obtain ⟨v,rfl,h⟩:=he;exact h _ (ha.put hd v)
end
end oR
def mark (D:Nat):List Deferred:= [{target:= .collected D,args:=#[]}]
def wd (ds:List Deferred) (a:Act):Act:= {a with defers:=ds}
theorem am6 (ds:List Deferred) (a:Act) (d:Option Nat) (v:Value):(wd ds a).put d v=wd ds (a.put d v):=by cases d<;>rfl
theorem aav (ds:List Deferred) (a:Act):(wd ds a).eval=a.eval:=by funext x;cases x<;>rfl
def Ap (w:World) (D:Nat):Prop:=w.heap[D]? =some (.deferred (some []))
theorem Ap.lt {D:Nat} {w:World} (h:Ap w D):D<w.heap.size:=(aUT.1 h).1
theorem Ap.later {D:Nat} {w w':World} (h:Ap w D) (x:Ext w w'):Ap w' D:=(x.block D h.lt).trans h
def Z' (w:World) (D:Nat):World:=w.putObj D (.deferred none)
theorem Ap.un {D:Nat} {w:World} (h:Ap w D):Mod [D] w (Z' w D):=by
 have:=Mod.grown (grownBy_putObj' w D (.deferred none));exact this
namespace gT
section
variable {P:Program} {ds:List Deferred} {m n:Nat} {ops:Array Oper} {Q:Exit→Act→World→Prop} {w w' w0:World} {E c0:List (Nat×Value)} {id:Nat} {v:Value}
variable {d:Option Nat} {ty:TypeId} {pos:String} {af:Array Edge} {g:Option (Nat×Bool)} {x y z:Operand} {t:TypeId} {rest:List Oper} {c:Operand} {cJ pL:Code} {i j:Int}
def W (ds:List Deferred) (m:Nat) (P:Program) (n:Nat) (c:Code) (Q:Exit→Act→World→Prop) (E:List (Nat×Value)) (w:World):Prop:=∀ a,ew n E a→c.wpIn (j8 none) m P Q (wd ds a) w
def N (ds:List Deferred) (n:Nat) (Q:Exit→Act→World→Prop) (E:List (Nat×Value)) (w:World):Prop:=∀ a,ew n E a→Q .normal (wd ds a) w
def T (ds:List Deferred) (n:Nat) (Q:Exit→Act→World→Prop) (E:List (Nat×Value)) (w:World):Prop:=∀ a,ew n E a→Q .ret (wd ds a) w
def cG (ds:List Deferred) (m:Nat) (P:Program) (n:Nat) (ops:Array Oper) (Q:Exit→Act→World→Prop) (l:List Oper) (E:List (Nat×Value)) (w:World):Prop:=∀ a,ew n E a→wpListIn (j8 none) m P ops Q l (wd ds a) w
theorem az (h:W ds m P n cJ (Rd.rF none m P pL Q) E w):W ds m P n (.seq cJ pL) Q E w:=λ a ha=>wpIn_seq (h a ha)
theorem fv (h:N ds n Q E w):W ds m P n .skip Q E w:=λ a ha=>wpIn_skip (h a ha)
theorem rt (h:T ds n Q E w):W ds m P n .ret Q E w:=λ a ha=>wpIn_ret (h a ha)
theorem rg {l:List Oper} (h:cG ds m P n l.toArray Q l E w):W ds m P n (.region id l.toArray false) Q E w:=λ a ha=>aYx (h a ha)
theorem nl (h:N ds n Q E w):cG ds m P n ops Q [] E w:=h
theorem aT (h:W ds m P n pL Q E w):N ds n (Rd.rF none m P pL Q) E w:=h
theorem bX (h:N ds n Q E w):N ds n (Exit.inBlock id Q) E w:=h
theorem bT (h:T ds n Q E w):T ds n (Rd.rF none m P pL Q) E w:=h
theorem ee {b:Bool} (hc:ev E c=some (.bool b)) (γ:b=true→W ds m P n cJ Q E w) (aa:b=false→W ds m P n pL Q E w):W ds m P n (.cond c cJ pL) Q E w :=
 λ a ha=>wpIn_cond_split (by rw [aav];exact ha.ev hc) (λ h=>γ h a ha) (λ h=>aa h a ha)
theorem eU (hc:ev E c=some (.bool (i != j))) (γ:¬ i=j→W ds m P n cJ Q E w) (aa:i=j→W ds m P n pL Q E w):W ds m P n (.cond c cJ pL) Q E w:=ee hc (λ h=>γ (by simpa using h)) (λ h=>aa (by simpa using h))
theorem aBD {o:Oper} {a:Act} {v:Value} (h:(execOp a.eval o).run P w= .ok (.value v) w'):∀ c,o.op≠ .defer c:=λ c e=>by
 unfold execOp at h;rw [e] at h;simp only [aUv,aUA] at h;revert h;generalize (resolve a.eval c o.type).run P w=r;cases r<;>simp [Result.andThen]
theorem iC {d:Nat} {op:Op} (hr:cT P E ⟨some d,op,ty,pos,af,none⟩ w v w') (hd:Nat.blt d n=true) (h:cG ds m P n ops Q rest ((d,v)::E) w'):cG ds m P n ops Q (⟨some d,op,ty,pos,af,none⟩::rest) E w:=λ a ha=>by
 have lH:=hr n a ha;unfold wpListIn;rw [aUz (by simp [Region.wanted])];refine ⟨λ _ _=>trivial, ?_⟩;rw [aav,aXn _ _ _ (aBD lH),lH];show wpListIn _ _ _ _ _ _ _ _;rw [am6];exact h _ (ha.put hd v)
theorem ca {d:Nat} {f:FuncId} (hf:Enters P f) {xs:Array Operand} {ts:Array TypeId} {args:List Value} (he:hz E xs.toList=some args) (hd:Nat.blt d n=true)
  (h:Calls P f args.toArray w λ e w'=>∃ v,e= .returned v∧cG ds m P n ops Q rest ((d,v)::E) w'):cG ds m P n ops Q (⟨some d, .call {callee:= .value (.func f),args:=xs,argTypes:=ts},ty,pos,af,none⟩::rest) E w:=λ a ha=>by
 unfold wpListIn;rw [aUz (by simp [Region.wanted])];refine ⟨λ _ _=>trivial, ?_⟩;rw [aav,aXn _ _ _ (λ c e=>by cases e),Jq hf ha he];refine ⟨λ h=>by simp [j8,Fence.wide] at h,CallsIn.mono (adQ h) λ e w' fp=> ?_⟩;obtain ⟨v,rfl,h⟩:=fp;show wpListIn _ _ _ _ _ _ _ _;rw [am6];exact h _ (ha.put hd v)
theorem bb {D:Nat} {fn:Func} {R:Ending→World→Prop} {vs:List Value} (hK:Ap w D) (h:xj P E (Z' w D) fn.results.toList vs) (hR:R (.returned (u1 vs)) (Z' w D)):T (mark D) n (bodyPostM (j8 none) m P fn R) E w :=
 λ a ha=>by
  have hr:=ZD (a:=a) h ha;exact ⟨by simp, .inl ⟨D,_,rfl,run_takeDeferred hK,_,hr,hR⟩⟩
end
end gT
def AG (b c:Nat) (W iz:World):Prop:=iz.heap[b]? =W.heap[b]? ∧iz.heap[c]? =W.heap[c]?
theorem AG.qg {b c:Nat} {X Y ax:World} (h:AG b c X Y) (k:AG b c Y ax):AG b c X ax:=⟨k.1.trans h.1,k.2.trans h.2⟩
theorem Mod.ajv {S:List Nat} {W iz:World} {B:Nat} (h:Mod S W iz) (hS:∀ q∈S,q<W.heap.size→∃ cur e aC,W.heap[q]? =some (.cells cur e aC)):KeepsFrom B W iz :=
 ⟨h.size,λ k o _ aw b5=>by
  by_cases hm:k∈S
  ·obtain ⟨cur,e,aC,hc⟩:=hS k hm (aUT.1 aw).1;rw [hc] at aw;injection aw with aw
   subst aw;exact nomatch b5
  ·exact (h.block k (aUT.1 aw).1 hm).trans aw⟩
theorem Mod.azW {S:List Nat} {W X Y:World} {b c:Nat} (h:Mod S W X) (k:Mod S W Y) (Φ:b<W.heap.size∧c<W.heap.size) (γ:b∉S) (aa:c∉S):AG b c X Y :=
 ⟨(k.block b Φ.1 γ).trans (h.block b Φ.1 γ).symm,(k.block c Φ.2 aa).trans (h.block c Φ.2 aa).symm⟩
def yL (B:Nat) (w0 w:World):Prop:=KeepsFrom B w0 w
theorem yL.bK (B:Nat) (w:World):yL B w w:=KeepsFrom.refl B w
theorem yL.later {B:Nat} {w0 w w':World} (h:yL B w0 w) (x:Ext w w'):yL B w0 w':=KeepsFrom.trans h ((Mod.bF (S:= []) x).ajv λ q I=>nomatch I)
theorem yL.mod {B:Nat} {w0 w w':World} {S:List Nat} (h:yL B w0 w) (m:Mod S w w') (hS:∀ q∈S,∃ cur e aC,w.heap[q]? =some (.cells cur e aC)):yL B w0 w':=KeepsFrom.trans h (m.ajv λ q I _=>hS q I)
theorem κ.aD.P_ {α:Type} {R:κ α} {e by_ B c:Nat} {A:Option Addr} {l:List α} {w:World} (h:R.aD e by_ w B (κ.ae A) A c l):∀ q∈κ.ae A,∃ cur e aC,w.heap[q]? =some (.cells cur e aC):=by
 obtain ⟨_,ps,_,_,⟨_,b5⟩,_⟩:=h;rcases b5 with ⟨γ,_⟩ | ⟨g,cap,cur,γ,_,aa,_⟩
 ·injection γ with γ;subst γ;intro q I;exact nomatch I
 ·injection γ with γ;subst γ;intro q I
  obtain rfl:=aUg.1 I;exact ⟨_,_,_,aa⟩
structure EW {α:Type} (B:Nat) (jy:List α→World→Prop) (pre:List α) (w:World):Prop where
 UR:AbidesFrom B jy
 at_:jy pre w
theorem EW.later {α:Type} {B:Nat} {jy:List α→World→Prop} {pre:List α} {w w':World} (h:EW B jy pre w) (x:Ext w w'):EW B jy pre w' :=
 ⟨h.UR,h.UR _ _ _ none h.at_ ⟨x.os,x.tape,x.output,x.size,λ k aw _=>x.block k aw⟩ λ r e=>nomatch e⟩
theorem aN.RU {b:Nat} {cs:List Value} {e:TypeId} {aC:Nat×Nat} {w w':World} (h:aN w b cs e aC) (k:w'.heap[b]? =w.heap[b]?):aN w' b cs e aC:=k.trans h
theorem aG6 {F:Fence} {m:Nat} {P:Program} {l:Nat} {args:Array Value} {W:World} {R R':Ending→World→Prop} (h:YieldAt F m P l args W R) (hr:∀ e w,R e w→R' e w):YieldAt F m P l args W R':=by
 obtain ⟨fn,tmps,assign,body,aH,hR⟩:=h;exact ⟨fn,tmps,assign,body,aH,hR.mono hr⟩
theorem aG7 {P Q:Prop} {e:Ending} (h:(e= .returned (.bool true)∧P)∨(e= .returned (.bool false)∧Q)):∃ b,e= .returned (.bool b)∧(b=true→P)∧(b=false→Q):=by
 rcases h with ⟨h,p⟩ | ⟨h,q⟩
 ·exact ⟨true,h,λ _=>p,(λ h=>nomatch h)⟩
 ·exact ⟨false,h,(λ h=>nomatch h),λ _=>q⟩
theorem au2 {q k:Nat} (aw:k<q):(List.finRange q).take k++ [⟨k,aw⟩]=(List.finRange q).take (k+1):=by
 rw [aUM (by simpa using aw)];simp
section
variable {P:Program} {n:Nat} {E c0:List (Nat×Value)} {w:World} {d:Option Nat} {ty:TypeId} {pos:String} {af:Array Edge} {g:Option (Nat×Bool)} {x y z u:Operand} {t:TypeId}
theorem aDS {A:Option Addr} {len cap e s:Nat} {k:IntKind} (lo:Nat) {i:Int} (aF:P.underlying t=some (.slice e)) (hs:ez P e s) (hx:ev E x=some (.slice A len cap)) (aH:ev E y=some (.int k i)) (γ:i=(lo:Int)) (aa:lo≤len):
  cT P E ⟨d, .slice t x (some y) none none,ty,pos,af,g⟩ w (.slice (e_ A cap lo s) (len - lo) (cap - lo)) w:=λ n a ha=>by
 subst γ;have lM:P.underlying t=some (.slice (P.elem t)):=by simp [Program.elem,aF]
 have nQ:P.elem t=e:=by simp [Program.elem,aF]
 have av:=run_slice_l (P:=P) (w:=w) t A len cap lM k (lo:Int) (by omega) (by omega);have aV:=aWq (P:=P) (w:=w) t (.slice A len cap) (some (.int k (lo:Int))) none none lM;rw [nQ,hs w] at av;simp only [execOp,ha.ev hx,ha.ev aH,Option.map,aV,av,aUv,aUo,aUA,sliced,aVc,e_]
theorem aDR {A:Option Addr} {len cap e s:Nat} {k k' dt:IntKind} (lo aq n:Nat) {i j Yf:Int} (aF:P.underlying t=some (.slice e)) (hs:ez P e s) (hx:ev E x=some (.slice A len cap)) (aH:ev E y=some (.int k i)) (bB:ev E z=some (.int k' j)) (hu:ev E u=some (.int dt Yf)) (Bf:i=(lo:Int)) (zh:j=(aq:Int)) (axq:Yf=(aq:Int)) (γ:lo≤aq) (aa:aq≤cap) (hn:n=aq - lo):
  cT P E ⟨d, .slice t x (some y) (some z) (some u),ty,pos,af,g⟩ w (.slice (e_ A aq lo s) n n) w:=λ jU a ha=>by
 subst Bf;subst zh;subst axq;subst hn;have lM:P.underlying t=some (.slice (P.elem t)):=by simp [Program.elem,aF]
 have nQ:P.elem t=e:=by simp [Program.elem,aF]
 have av:=run_slice_lhm (P:=P) (w:=w) t A len cap lM k k' dt (lo:Int) (aq:Int) (aq:Int) (by omega) (by omega) (by omega) (by omega);have aV:=aWq (P:=P) (w:=w) t (.slice A len cap) (some (.int k (lo:Int))) (some (.int k' (aq:Int))) (some (.int dt (aq:Int))) lM;rw [nQ,hs w] at av;simp only [execOp,ha.ev hx,ha.ev aH,ha.ev bB,ha.ev hu,Option.map,aV,av,aUv,aUo,aUA,sliced,aVc,e_]
end
theorem κ.aK.chunk {α:Type} {R:κ α} {by_ c:Nat} {A:Option Addr} {l:List α} {w:World} (h:R.aK by_ w A c l) (lo aq:Nat) (γ:lo<aq) (aa:aq≤l.length):R.aK by_ w (e_ A aq lo R.size) (aq - lo) ((l.drop lo).take (aq - lo)):=by
 have hs:=h.sub lo aq (by omega) aa;have hc:=h.1;have r4:=h.2.1;have e:e_ A aq lo R.size=e_ A c lo R.size:=by unfold e_;rw [aUr (by omega),aUr (by omega)]
 rw [e];obtain ⟨g1,g2,g3,g4,g5⟩:=hs;refine ⟨by rw [aUm];omega,by omega,g3,λ hn=> ?_,g5⟩;have:=g4 hn;omega
namespace Rd
theorem bK {α:Type} {P:Program} {m n:Nat} {Q:Exit→Act→World→Prop} {w w0:World} {E:List (Nat×Value)} {tt p:Nat} {ty:TypeId} {pos:String} {af:Array Edge} {id:Nat} {body:Code} {g:Operand} {gf:Nat} {lb:List Value} {enc:α→Value} {dW gd:Nat} {S apz:List α→Prop} {ack:Nat}
  (aS:ev E g=some (.func (.func gf) #[] lb.toArray)) (hf:Enters P gf) (ayM:SeqStopsK (j8 none) (m - 1) P gf lb.toArray (λ x=>#[enc x]) (AG dW gd) S apz ack w0) (bz:dW<w.heap.size) (dV:gd<w.heap.size) (cK:Ext w0 w) (γ:1≤m) (hp:Nat.blt p n=true) (aF:Nat.blt tt n=true)
  (kG:List α→World→Prop) (qI:∀ s W iz S,kG s W→Mod S W iz→(∀ q∈S,w.heap.size≤q∧∀ cur e aC,W.heap[q]? ≠some (.cells cur e aC))→kG s iz) (aI:kG [] w)
  (awX:∀ (l:Nat) (pre:List α) (x:α) (iz:World),kG pre iz→pre.length<ack→W (some l) (m - 1 - 1) P n body (ownPostG w.heap.size (AG dW gd) kG (λ _ _ _=>False) (pre++ [x]) iz) ((tt,enc x)::(p,enc x)::E) iz)
  (axe:∀ (D:Nat) (xs:List α) (iz:World),w.heap.size≤D→S xs→kG xs iz→Ap iz D→gT.N (mark D) n Q E iz):
  W none m P n (.rangeFunc g #[p] (.region id #[⟨some tt, .assign (.tmp p),ty,pos,af,none⟩] false) body) Q E w:=λ a ha=>by
 have av4:∀ {β:Type} (jy:β→World→Prop),(∀ s W iz S,jy s W→Mod S W iz→(∀ q∈S,w.heap.size≤q∧∀ cur e aC,W.heap[q]? ≠some (.cells cur e aC))→jy s iz)→OwnFrom w.heap.size jy:=λ jy zc s X Y row hs Dm hr =>
  zc s X Y row.toList hs (Mod.grown Dm) λ q I=>by
   cases row with
   | none=>exact nomatch I
   | some r =>
    obtain rfl:=aUg.1 I;obtain ⟨ba,o,b5,hc⟩:=hr _ rfl;exact ⟨ba,λ cur e aC h=>by rw [h] at b5;injection b5 with b5;subst b5;exact nomatch hc⟩
 obtain ⟨fn,Xu,L7,Xv⟩:=hf;obtain ⟨sU,awT⟩:∃ c,fn.body=some c:=by
  cases h:fn.body with
  | none=>rw [h] at Xv;simp at Xv
  | some c=>exact ⟨c,rfl⟩
 refine wpIn_rangeFunc_ownH (F:=j8 none) Z γ (gf:=gf) (lb:=lb.toArray) (ha.ev aS) trivial (enters_of Xu L7 awT) ayM (λ h k=>h.qg k) ?_ cK (λ x=>Z) kG (λ _ _ _=>False) (av4 kG qI) (λ c s A B row hs aS hr=>hs.elim) aI
  (λ x a' _=>ew n ((tt,enc x)::(p,enc x)::E) a') (λ x a' s A B row hs aS hr=>hs) ?_ ?_ ?_ ?_
 ·intro iz l o Ny aB bQ _ _;have hm:=Mod.grown (grownBy_putObj' iz l Ny);exact ⟨hm.block dW (by have:=(aUT.1 bQ).1;omega) (by simp;omega),hm.block gd (by have:=(aUT.1 bQ).1;omega) (by simp;omega)⟩
 ·intro l pre x iz K aq hK;have hA:ew n ((p,enc x)::E) {tmps:=(#[p].zip #[enc x]).foldl (λ t (p,v)=>t.setIfInBounds p v) a.tmps,defers:= []}:=by
   have:=ha.put hp (enc x);have e:({tmps:=(#[p].zip #[enc x]).foldl (λ t (p,v)=>t.setIfInBounds p v) a.tmps,defers:= []}:Act)=a.put (some p) (enc x):=by
    simp [Act.put,ha.d]
   rw [e];exact this
  have aa:W (some l) (m - 1 - 1) P n (.region id [(⟨some tt, .assign (.tmp p),ty,pos,af,none⟩:Oper)].toArray false) (Exit.then K (λ _ _ _=>False)) ((p,enc x)::E) iz:=by
   refine oR.rg (oR.iC (v:=enc x) (w':=iz) (fA ?_) aF (oR.nl λ a' rX=>hK a' iz (KeepsFrom.refl _ _) ⟨Z,Z⟩ aq rX));show look ((p,enc x)::E) p=_;simp [look]
  exact aa _ hA
 ·intro l pre x a' iz _ _ aq hx hlen;exact awX l pre x iz aq hlen a' hx
 ·intro D xs iz vX hS aq hK;have:=axe D xs iz vX hS aq hK a ha;have e:({a with defers:= {target:= .collected D,args:=#[]}::a.defers}:Act)=wd (mark D) a:=by simp [wd,mark,ha.d]
  rw [e];exact this
 ·intro D c pre iz _ _ h _;exact h.elim
end Rd
end
end Go.Proofs.YtlikikpgmmkjbaaGreat
