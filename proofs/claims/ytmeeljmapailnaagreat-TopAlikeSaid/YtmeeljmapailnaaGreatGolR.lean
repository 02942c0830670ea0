import Derived.Test.YtmeeljmapailnaaGreatGra
import Derived.RangeFuncNested
import Derived.OrdersIn
import Derived.LoopNIn
set_option linter.unusedVariables false
set_option linter.unusedSimpArgs false
set_option maxRecDepth 100000
set_option maxHeartbeats 4000000
open Go.RowKit
namespace Go.Proofs.YtmeeljmapailnaaGreat
open Tryz
open Tryz
abbrev aU8:=@List.not_mem_nil
abbrev aVV:=@or_false
abbrev aWi:=@Int.mul_le_mul
abbrev aWD:=@List.all_eq_false
abbrev aWF:=@Bool.true_and
abbrev aWK:=@Go.Oper.semAt_eq
abbrev aWV:=@Go.IntKind.wrap_i64
abbrev aW1:=@Bool.and_eq_false_iff
abbrev aW5:=@Int.mul_nonneg
abbrev aXl:=@Nat.add_sub_cancel
abbrev aX0:=@Bool.and_false
abbrev aX2:=@Go.wpIn_region_lit
abbrev aYt:=@Array.mem_of_getElem?
abbrev aYz:=@Array.mem_toList_iff

structure az where
 x:Int
 y:Int
 deriving DecidableEq,Inhabited
namespace az
def cells (a:az):List Value:= [.int .i64 (a.x), .int .i64 (a.y)]
def ok (a:az):Prop:=(Lit.int .i64 a.x).wf=true∧(Lit.int .i64 a.y).wf=true
def raw (j:Nat) (u:Value):Prop:=match j with
 | 0=>∃ n:Int,u= .int .i64 n
 | 1=>∃ n:Int,u= .int .i64 n
 | _=>True
theorem ru (a:az):∀ (j:Nat) u,a.cells[j]? =some u→raw j u:=by
 intro j u hu
 match j,hu with
 | 0,hu=>exact ⟨_,(aTA hu).symm⟩
 | 1,hu=>exact ⟨_,(aTA hu).symm⟩
 | j+2,hu=>exact trivial
theorem rr (a:az):∀ u∈a.cells,u.oneCell'=true:=by
 intro u hu;unfold cells at hu;simp only [aTZ,aU8,aVV] at hu;rcases hu with rfl | rfl<;>rfl
def rep:aa az:=aa.flat 2 cells ok raw (λ _=>rfl) rr ru
theorem plain:rep.Plain:=aa.n1
def zero:Value:= .agg #[.int .i64 0, .int .i64 0]
theorem ix:∀ (j:Nat) u,zero.cells[j]? =some u→rep.raw j u:=by
 intro j u hu;have hu:(#[(.int .i64 0:Value),(.int .i64 0:Value)]:Array Value)[j]? =some u:=hu
 match j,hu with
 | 0,hu=>exact ⟨_,(aTA hu).symm⟩
 | 1,hu=>exact ⟨_,(aTA hu).symm⟩
 | j+2,hu=>cases hu
theorem info:(prog.info? 55).map (λ i=>(i.zero,i.size,i.bytes))=some (some zero,2,16):=by kernel_rfl
theorem at_ {by_:Nat} {w:World} {A:Option Addr} {c:Nat} {l:List az} (h:rep.aG by_ w A c l) (aK:0<l.length):
  ∃ b o,A=some ⟨b,o,none⟩∧∀ (i:Nat) (a:az),l[i]? =some a→w.cell? ⟨b,o+i * 2,none⟩=some (.int .i64 (a.x))∧w.cell? ⟨b,o+i * 2+1,none⟩=some (.int .i64 (a.y)):=by
 obtain ⟨b,o,e,hc⟩:=h.at_ aK;refine ⟨b,o,e,λ i a ha=> ?_⟩;obtain ⟨es,⟨rfl,_⟩,aA⟩:=hc i a ha;exact ⟨aA 0 _ Z,aA 1 _ Z⟩
theorem k_ {by_:Nat} {w:World} {A:Option Addr} {c:Nat} {l:List az} (h:rep.aG by_ w A c l):∀ a∈l,a.ok:=aa.aG.y7 (R:=rep) (Q:=ok) (fun {w cs a} (h:rep.has w cs a)=>(show cs=a.cells∧a.ok from h).2) h
theorem gV {w:World} {g:Nat} {t:TypeId} {aD:Nat×Nat} {a:az} (h:aR w g a.cells t aD):w.cell? ⟨g,0,none⟩=some (.int .i64 (a.x))∧w.cell? ⟨g,1,none⟩=some (.int .i64 (a.y)):=
 ⟨h.cell 0,h.cell 1⟩
def sh:gK:=(.cons (.int .i64) (.cons (.int .i64) .nil))
theorem opens (w:World) (cs:List Value) (h:sh.jn w cs):∃ a,rep.has w cs a:=by
 obtain ⟨_,_,rfl,_,_,⟨dp,rfl,rW⟩,⟨_,_,rfl,_,_,⟨d_,rfl,d'⟩,rfl⟩⟩:=h;exact ⟨⟨dp,d_⟩,Z,rW,d'⟩
end az
theorem xv {w:World} {cs:List Value} {a:az} (h:az.rep.has w cs a):cs=a.cells:=aVP (show cs=a.cells∧a.ok from h)
open Tryz

structure bd where
 id:Int
 owner:Int
 kind:Int
 spot:az
 dk:Int
 load:Int
 deriving DecidableEq,Inhabited
namespace bd
def cells (a:bd):List Value:= [.int .i64 (a.id), .int .i64 (a.owner), .int .i64 (a.kind), .int .i64 (a.spot.x), .int .i64 (a.spot.y), .int .i64 (a.dk), .int .i64 (a.load)]
def ok (a:bd):Prop:=(Lit.int .i64 a.id).wf=true∧(Lit.int .i64 a.owner).wf=true∧(Lit.int .i64 a.kind).wf=true∧(Lit.int .i64 a.spot.x).wf=true∧(Lit.int .i64 a.spot.y).wf=true∧(Lit.int .i64 a.dk).wf=true∧(Lit.int .i64 a.load).wf=true
def raw (j:Nat) (u:Value):Prop:=match j with
 | 0=>∃ n:Int,u= .int .i64 n
 | 1=>∃ n:Int,u= .int .i64 n
 | 2=>∃ n:Int,u= .int .i64 n
 | 3=>∃ n:Int,u= .int .i64 n
 | 4=>∃ n:Int,u= .int .i64 n
 | 5=>∃ n:Int,u= .int .i64 n
 | 6=>∃ n:Int,u= .int .i64 n
 | _=>True
theorem ru (a:bd):∀ (j:Nat) u,a.cells[j]? =some u→raw j u:=by
 intro j u hu
 match j,hu with
 | 0,hu=>exact ⟨_,(aTA hu).symm⟩
 | 1,hu=>exact ⟨_,(aTA hu).symm⟩
 | 2,hu=>exact ⟨_,(aTA hu).symm⟩
 | 3,hu=>exact ⟨_,(aTA hu).symm⟩
 | 4,hu=>exact ⟨_,(aTA hu).symm⟩
 | 5,hu=>exact ⟨_,(aTA hu).symm⟩
 | 6,hu=>exact ⟨_,(aTA hu).symm⟩
 | j+7,hu=>exact trivial
theorem rr (a:bd):∀ u∈a.cells,u.oneCell'=true:=by
 intro u hu;unfold cells at hu;simp only [aTZ,aU8,aVV] at hu;rcases hu with rfl | rfl | rfl | rfl | rfl | rfl | rfl<;>rfl
def rep:aa bd:=aa.flat 7 cells ok raw (λ _=>rfl) rr ru
theorem plain:rep.Plain:=aa.n1
def zero:Value:= .agg #[.int .i64 0, .int .i64 0, .int .i64 0, .int .i64 0, .int .i64 0, .int .i64 0, .int .i64 0]
theorem ix:∀ (j:Nat) u,zero.cells[j]? =some u→rep.raw j u:=by
 intro j u hu;have hu:(#[(.int .i64 0:Value),(.int .i64 0:Value),(.int .i64 0:Value),(.int .i64 0:Value),(.int .i64 0:Value),(.int .i64 0:Value),(.int .i64 0:Value)]:Array Value)[j]? =some u:=hu
 match j,hu with
 | 0,hu=>exact ⟨_,(aTA hu).symm⟩
 | 1,hu=>exact ⟨_,(aTA hu).symm⟩
 | 2,hu=>exact ⟨_,(aTA hu).symm⟩
 | 3,hu=>exact ⟨_,(aTA hu).symm⟩
 | 4,hu=>exact ⟨_,(aTA hu).symm⟩
 | 5,hu=>exact ⟨_,(aTA hu).symm⟩
 | 6,hu=>exact ⟨_,(aTA hu).symm⟩
 | j+7,hu=>cases hu
theorem info:(prog.info? 57).map (λ i=>(i.zero,i.size,i.bytes))=some (some zero,7,56):=by kernel_rfl
theorem at_ {by_:Nat} {w:World} {A:Option Addr} {c:Nat} {l:List bd} (h:rep.aG by_ w A c l) (aK:0<l.length):
  ∃ b o,A=some ⟨b,o,none⟩∧∀ (i:Nat) (a:bd),l[i]? =some a→w.cell? ⟨b,o+i * 7,none⟩=some (.int .i64 (a.id))∧w.cell? ⟨b,o+i * 7+1,none⟩=some (.int .i64 (a.owner))∧w.cell? ⟨b,o+i * 7+2,none⟩=some (.int .i64 (a.kind))∧w.cell? ⟨b,o+i * 7+3,none⟩=some (.int .i64 (a.spot.x))∧w.cell? ⟨b,o+i * 7+4,none⟩=some (.int .i64 (a.spot.y))∧w.cell? ⟨b,o+i * 7+5,none⟩=some (.int .i64 (a.dk))∧w.cell? ⟨b,o+i * 7+6,none⟩=some (.int .i64 (a.load)):=by
 obtain ⟨b,o,e,hc⟩:=h.at_ aK;refine ⟨b,o,e,λ i a ha=> ?_⟩;obtain ⟨es,⟨rfl,_⟩,aA⟩:=hc i a ha;exact ⟨aA 0 _ Z,aA 1 _ Z,aA 2 _ Z,aA 3 _ Z,aA 4 _ Z,aA 5 _ Z,aA 6 _ Z⟩
theorem k_ {by_:Nat} {w:World} {A:Option Addr} {c:Nat} {l:List bd} (h:rep.aG by_ w A c l):∀ a∈l,a.ok:=aa.aG.y7 (R:=rep) (Q:=ok) (fun {w cs a} (h:rep.has w cs a)=>(show cs=a.cells∧a.ok from h).2) h
theorem gV {w:World} {g:Nat} {t:TypeId} {aD:Nat×Nat} {a:bd} (h:aR w g a.cells t aD):w.cell? ⟨g,0,none⟩=some (.int .i64 (a.id))∧w.cell? ⟨g,1,none⟩=some (.int .i64 (a.owner))∧w.cell? ⟨g,2,none⟩=some (.int .i64 (a.kind))∧w.cell? ⟨g,3,none⟩=some (.int .i64 (a.spot.x))∧w.cell? ⟨g,4,none⟩=some (.int .i64 (a.spot.y))∧w.cell? ⟨g,5,none⟩=some (.int .i64 (a.dk))∧w.cell? ⟨g,6,none⟩=some (.int .i64 (a.load)):=
 ⟨h.cell 0,h.cell 1,h.cell 2,h.cell 3,h.cell 4,h.cell 5,h.cell 6⟩
def sh:gK:=(.cons (.int .i64) (.cons (.int .i64) (.cons (.int .i64) (.cons (.cons (.int .i64) (.cons (.int .i64) .nil)) (.cons (.int .i64) (.cons (.int .i64) .nil))))))
theorem opens (w:World) (cs:List Value) (h:sh.jn w cs):∃ a,rep.has w cs a:=by
 obtain ⟨_,_,rfl,_,_,⟨dp,rfl,rW⟩,⟨_,_,rfl,_,_,⟨d_,rfl,d'⟩,⟨_,_,rfl,_,_,⟨eU,rfl,eu⟩,⟨_,_,rfl,_,_,⟨_,_,rfl,_,_,⟨jj,rfl,kg⟩,⟨_,_,rfl,_,_,⟨qk,rfl,Mn⟩,rfl⟩⟩,⟨_,_,rfl,_,_,⟨pg,rfl,Yw⟩,⟨_,_,rfl,_,_,⟨ql,rfl,Yx⟩,rfl⟩⟩⟩⟩⟩⟩:=h;exact ⟨⟨dp,d_,eU,⟨jj,qk⟩,pg,ql⟩,Z,rW,d',eu,kg,Mn,Yw,Yx⟩
end bd
theorem jI {w:World} {cs:List Value} {a:bd} (h:bd.rep.has w cs a):cs=a.cells:=aVP (show cs=a.cells∧a.ok from h)
open Tryz

structure aI where
 wide:Int
 high:Int
 a8:List Int
 deriving DecidableEq,Inhabited
structure ak where
 field:aI
 a7:List az
 bp:List Int
 bM:List Int
 aq:List bd
 next:Int
 now:Int
 deriving DecidableEq,Inhabited
namespace aI
def Sa (p:Int):Bool:=c9 p 0 3
def bn (f:aI):Int :=
 if c9 f.wide 1 40 && c9 f.high 1 40 then (if decide ((f.a8.length:Int)=f.wide * f.high) && f.a8.all Sa then 0 else 4) else 1
def fu (f:aI) (c:az):Bool:=c9 c.x 0 (f.wide - 1) && c9 c.y 0 (f.high - 1)
def place (f:aI) (c:az):Int:=f.a8.getD (c.y * f.wide+c.x).toNat 0
def ground (f:aI) (c:az):Bool:=f.fu c && f.place c != 1
theorem ks {f:aI} (h:f.bn=0):1≤f.wide∧f.wide≤40∧1≤f.high∧f.high≤40∧(f.a8.length:Int)=f.wide * f.high∧∀ p∈f.a8,0≤p∧p≤3:=by
 unfold bn at h;split at h
 ·rename_i τ
  rw [aTM] at τ;have a:=kR τ.1;have b:=kR τ.2;split at h
  ·rename_i ae
   rw [aTM,aUp] at ae;exact ⟨a.1,a.2,b.1,b.2,by simpa using ae.1,λ p hp=>kR (ae.2 p hp)⟩
  ·cases h
 ·cases h
theorem adq {f:aI} (h:(c9 f.wide 1 40 && c9 f.high 1 40)=false):f.bn=1:=by unfold bn;rw [h];rfl
theorem idx {f:aI} (h:f.bn=0) {c:az} (hc:f.fu c=true):0≤c.y * f.wide+c.x∧c.y * f.wide+c.x<(f.a8.length:Int)∧0≤c.x∧c.x<f.wide∧0≤c.y∧c.y<f.high:=by
 obtain ⟨g1,g2,g3,g4,g5,_⟩:=ks h;unfold fu at hc;rw [aTM] at hc;have a:=kR hc.1;have b:=kR hc.2;have aY:0≤c.y * f.wide:=aW5 b.1 (by omega);have bb:c.y * f.wide≤(f.high - 1) * f.wide:=Int.mul_le_mul_of_nonneg_right b.2 (by omega);have cP:(f.high - 1) * f.wide=f.wide * f.high - f.wide:=by rw [Int.sub_mul,Int.one_mul,Int.mul_comm]
 rw [g5];omega
theorem eZ {f:aI} (h:f.bn=0):f.a8.length≤1600:=by
 obtain ⟨g1,g2,g3,g4,g5,_⟩:=ks h;have bb:f.wide * f.high≤40 * 40:=aWi g2 g4 (by omega) (by omega);omega
end aI
namespace aI
def dY (f:aI) (c:az):Int:=if f.bn≠0 then f.bn else if f.fu c then 0 else 7
def nj (f:aI) (c:az):Int:=if f.bn≠0 then 0 else if f.fu c then f.place c else 0
theorem U3 {f:aI} {c:az} (h:f.bn≠0):f.dY c=f.bn∧f.nj c=0:=by unfold dY nj;rw [aTO h,aTO h];exact ⟨Z,Z⟩
theorem KD {f:aI} {c:az} (h:f.bn=0) (ae:f.fu c=false):f.dY c=7∧f.nj c=0:=by unfold dY nj;simp [h,ae]
theorem mK {f:aI} {c:az} (h:f.bn=0) (ae:f.fu c=true):f.dY c=0∧f.nj c=f.place c:=by unfold dY nj;simp [h,ae]
theorem aAk {f:aI} {c:az} (h:c.x<0∨f.wide≤c.x∨c.y<0∨f.high≤c.y):f.fu c=false:=by
 unfold fu;rcases h with h | h | h | h
 ·rw [p1 (.inl h)];rfl
 ·rw [p1 (n:=c.x) (.inr (by omega))];rfl
 ·rw [p1 (n:=c.y) (.inl h),aX0]
 ·rw [p1 (n:=c.y) (.inr (by omega)),aX0]
theorem aAj {f:aI} {c:az} (τ:0≤c.x) (ae:c.x<f.wide) (aw:0≤c.y) (aU:c.y<f.high):f.fu c=true:=by
 unfold fu;rw [o2 τ (by omega),o2 aw (by omega)];rfl
end aI
def aOP (k:Int):Option (Int×Int×Int×Int):=if k=1 then some (10,1,1,5) else if k=2 then some (20,2,4,12) else none
namespace ak
def xV (W:ak) (i:Nat):Bool:=W.field.ground (W.a7.getD i default) && !(W.a7.take i).contains (W.a7.getD i default) && c9 (W.bp.getD i 0) 0 1000000
def oj (W:ak):Bool:=decide (W.bp.length=W.a7.length) && (List.range W.a7.length).all W.xV
def xW (W:ak) (i:Nat):Bool:=c9 (W.bM.getD i 0) 0 1000000 && (decide (W.bM.getD i 0≤0) || W.field.a8.getD i 0 == 3)
def o' (W:ak):Bool:=decide (W.bM.length=W.field.a8.length) && (List.range W.bM.length).all W.xW
def jW (W:ak) (i:Nat):Int:=if i=0 then 0 else (W.aq.getD (i - 1) default).id
def kS (k:Int):Int:=if k=1 then 10 else if k=2 then 20 else 0
def BO (k:Int):Int:=if k=1 then 5 else 0
def M7 (W:ak) (hZ F':Int) (t:bd):Bool :=
 c9 t.kind 1 2 && c9 t.id hZ F' && c9 t.owner 0 ((W.a7.length:Int) - 1) && W.field.ground t.spot && c9 t.dk 1 (kS t.kind) && c9 t.load 0 (BO t.kind)
def jx (W:ak) (k:Nat):List az:=(W.aq.take k).map (·.spot)
def xX (W:ak) (i:Nat):Bool:=W.M7 (wrap64 (W.jW i+1)) (wrap64 (W.next - 1)) (W.aq.getD i default) && !(W.jx i).contains (W.aq.getD i default).spot
def kC (W:ak):Bool:=(List.range W.aq.length).all W.xX && (c9 W.next 1 1000000 && c9 W.now 0 1000000)
def bn (W:ak):Int :=
 if W.field.bn≠0 then W.field.bn else if 8<W.a7.length∨100<W.aq.length then 2 else if W.oj && W.o' && W.kC then 0 else 4
structure b_ where
 P:Option Addr
 B:Option Addr
 S:Option Addr
 M:Option Addr
 T:Option Addr
 p:Nat
 b:Nat
 s:Nat
 m:Nat
 t:Nat
def HT (A:Option Addr) (c:Nat) (f:aI):List Value:= [.int .i64 f.wide, .int .i64 f.high, .slice A f.a8.length c]
def cells (h:b_) (W:ak):List Value :=
 [.int .i64 W.field.wide, .int .i64 W.field.high, .slice h.P W.field.a8.length h.p, .slice h.B W.a7.length h.b, .slice h.S W.bp.length h.s, .slice h.M W.bM.length h.m, .slice h.T W.aq.length h.t, .int .i64 W.next, .int .i64 W.now]
theorem asa (h:b_) (W:ak):(cells h W).toArray=#[.int .i64 W.field.wide, .int .i64 W.field.high, .slice h.P W.field.a8.length h.p, .slice h.B W.a7.length h.b, .slice h.S W.bp.length h.s, .slice h.M W.bM.length h.m, .slice h.T W.aq.length h.t, .int .i64 W.next, .int .i64 W.now]:=rfl
structure Has (w:World) (h:b_) (W:ak):Prop where
 P:bW.aG 8 w h.P h.p W.field.a8
 B:az.rep.aG 16 w h.B h.b W.a7
 S:bW.aG 8 w h.S h.s W.bp
 M:bW.aG 8 w h.M h.m W.bM
 T:bd.rep.aG 56 w h.T h.t W.aq
 nums:e_ W.field.wide∧e_ W.field.high∧e_ W.next∧e_ W.now
theorem Has.keep {w w':World} {h:b_} {W:ak} (hw:Has w h W) (γ:Below w.heap.size w w'):Has w' h W :=
 ⟨hw.P.keep γ,hw.B.keep γ,hw.S.keep γ,hw.M.keep γ,hw.T.keep γ,hw.nums⟩
def av9:gK:= .cons (.int .i64) (.cons (.int .i64) (.cons (.slice (.int .i64) 8) .nil))
def sh:gK:= .cons av9 (.cons (.slice az.sh 16) (.cons (.slice (.int .i64) 8) (.cons (.slice (.int .i64) 8) (.cons (.slice bd.sh 56) (.cons (.int .i64) (.cons (.int .i64) .nil))))))
theorem opens (w:World) (cs:List Value) (h:sh.jn w cs):∃ h W,cs=cells h W∧Has w h W:=by
 obtain ⟨_,_,rfl,_,_,⟨_,_,rfl,_,_,⟨dp,rfl,rW⟩,_,_,rfl,_,_,⟨d_,rfl,d'⟩,_,_,rfl,_,_,cq,rfl⟩,_,_,rfl,_,_,bj,_,_,rfl,_,_,hS,_,_,rfl,_,_,n2,_,_,rfl,_,_,cr,_,_,rfl,_,_,⟨eU,rfl,eu⟩,_,_,rfl,_,_,⟨jj,rfl,kg⟩,rfl⟩:=h;obtain ⟨fe,arz,lP,rfl,AH⟩:=aa.I2 (R:=bW) ZI rfl (by decide) cq;obtain ⟨gq,Vo,aAA,rfl,aZ⟩:=aa.I2 (R:=az.rep) az.opens rfl (by decide) bj;obtain ⟨gu,arA,aAE,rfl,gb⟩:=aa.I2 (R:=bW) ZI rfl (by decide) hS;obtain ⟨fF,ary,aAD,rfl,k8⟩:=aa.I2 (R:=bW) ZI rfl (by decide) n2;obtain ⟨fk,fH,xL,rfl,rk⟩:=aa.I2 (R:=bd.rep) bd.opens rfl (by decide) cr;exact ⟨⟨fe,gq,gu,fF,fk,arz,Vo,arA,ary,fH⟩,⟨⟨dp,d_,lP⟩,aAA,aAE,aAD,xL,eU,jj⟩,Z,AH,aZ,gb,k8,rk,rW,d',eu,kg⟩
theorem afb {w:World} {g:Nat} {t:TypeId} {aD:Nat×Nat} {A:Option Addr} {c:Nat} {f:aI} (h:aR w g (HT A c f) t aD):
  w.cell? ⟨g,0,none⟩=some (.int .i64 f.wide)∧w.cell? ⟨g,1,none⟩=some (.int .i64 f.high)∧w.cell? ⟨g,2,none⟩=some (.slice A f.a8.length c):=⟨h.cell 0,h.cell 1,h.cell 2⟩
theorem tl {w:World} {g:Nat} {t:TypeId} {aD:Nat×Nat} {a:b_} {W:ak} (h:aR w g (cells a W) t aD):
  w.cell? ⟨g,0,none⟩=some (.int .i64 W.field.wide)∧w.cell? ⟨g,1,none⟩=some (.int .i64 W.field.high)∧w.cell? ⟨g,2,none⟩=some (.slice a.P W.field.a8.length a.p)∧
  w.cell? ⟨g,3,none⟩=some (.slice a.B W.a7.length a.b)∧w.cell? ⟨g,4,none⟩=some (.slice a.S W.bp.length a.s)∧w.cell? ⟨g,5,none⟩=some (.slice a.M W.bM.length a.m)∧w.cell? ⟨g,6,none⟩=some (.slice a.T W.aq.length a.t)∧
  w.cell? ⟨g,7,none⟩=some (.int .i64 W.next)∧w.cell? ⟨g,8,none⟩=some (.int .i64 W.now):=⟨h.cell 0,h.cell 1,h.cell 2,h.cell 3,h.cell 4,h.cell 5,h.cell 6,h.cell 7,h.cell 8⟩
end ak
open Tryz

theorem aI.ke {f:aI} {c:az} (h:f.ground c=true):f.fu c=true:=by
 unfold aI.ground at h;rw [aTM] at h;exact h.1
namespace ak
theorem ado {W:ak} (h:W.field.bn≠0):W.bn=W.field.bn:=by unfold bn;rw [aTO h]
theorem adp {W:ak} (h:W.field.bn=0) (ae:8<W.a7.length∨100<W.aq.length):W.bn=2:=by unfold bn;rw [aTL (by simpa using h),aTO ae]
theorem Vs {W:ak} (h:W.field.bn=0) (ae:¬ (8<W.a7.length∨100<W.aq.length)):W.bn=if W.oj && W.o' && W.kC then 0 else 4:=by unfold bn;rw [aTL (by simpa using h),aTL ae]
end ak
theorem ak.aDp {W:ak} (h:¬ W.bp.length=W.a7.length):W.oj=false:=by unfold ak.oj;rw [aT4 h];rfl
theorem ak.Zp {W:ak} {k:Nat} (au:k<W.a7.length) (h:W.xV k=false):W.oj=false:=by
 unfold ak.oj;rw [aW1];right;rw [aWD];exact ⟨k,aUi.2 au,by rw [h];simp⟩
theorem ak.akG {W:ak} (h:W.bp.length=W.a7.length) (ha:∀ k,k<W.a7.length→W.xV k=true):W.oj=true:=by
 unfold ak.oj;rw [aT3 h,aWF,aUp];exact λ k au=>ha k (aUi.1 au)
theorem ak.aB1 {W:ak} (h:¬ W.bM.length=W.field.a8.length):W.o'=false:=by unfold ak.o';rw [aT4 h];rfl
theorem ak.aj4 {W:ak} {k:Nat} (au:k<W.bM.length) (h:W.xW k=false):W.o'=false:=by
 unfold ak.o';rw [aW1];right;rw [aWD];exact ⟨k,aUi.2 au,by rw [h];simp⟩
theorem ak.aj5 {W:ak} (h:W.bM.length=W.field.a8.length) (ha:∀ k,k<W.bM.length→W.xW k=true):W.o'=true:=by
 unfold ak.o';rw [aT3 h,aWF,aUp];exact λ k au=>ha k (aUi.1 au)
theorem ak.uy {W:ak} {k:Nat} (au:k<W.aq.length) (h:W.xX k=false):W.kC=false:=by
 unfold ak.kC;rw [aW1];left;rw [aWD];exact ⟨k,aUi.2 au,by rw [h];simp⟩
def hq (id:Int) (t:bd):Bool:=t.id == id
def qP (p:az) (t:bd):Bool:=decide (t.spot=p)
def aHF (W:ak) (p:bd→Bool):Int:=if W.bn=0 then max (fP p W.aq) 0 else 0
def am1 (W:ak) (p:bd→Bool):Bool:=decide (W.bn=0) && decide (0≤fP p W.aq)
def aCg (c:az) (r:Int) (t:bd):Bool:=c9 c.x (t.spot.x - r) (t.spot.x+r) && c9 c.y (t.spot.y - r) (t.spot.y+r)
def aQJ (W:ak) (c:az) (r:Int):List Int:=(W.aq.filter (aCg c r)).map (·.id)
def aQI (W:ak) (r:Int):Int:=if W.bn≠0 then W.bn else if c9 r 0 12 then 0 else 1
theorem WT {W:ak} (h:W.bn=0):W.field.bn=0∧W.a7.length≤8∧W.aq.length≤100∧W.oj=true∧W.o'=true∧W.kC=true:=by
 by_cases τ:W.field.bn=0
 ·by_cases ae:8<W.a7.length∨100<W.aq.length
  ·rw [ak.adp τ ae] at h;cases h
  ·rw [ak.Vs τ ae] at h;split at h
   ·rename_i aw
    rw [aTM,aTM] at aw;exact ⟨τ,by omega,by omega,aw.1.1,aw.1.2,aw.2⟩
   ·cases h
 ·rw [ak.ado τ] at h;exact absurd h τ
theorem QA {W:ak} (h:W.bn=0) {k:Nat} {t:bd} (aJ:W.aq[k]? =some t):W.field.ground t.spot=true∧c9 t.kind 1 2=true∧c9 t.owner 0 ((W.a7.length:Int) - 1)=true∧c9 t.dk 1 (ak.kS t.kind)=true∧c9 t.load 0 (ak.BO t.kind)=true∧(W.jx k).contains t.spot=false∧c9 t.id (wrap64 (W.jW k+1)) (wrap64 (W.next - 1))=true:=by
 obtain ⟨aK,_,_,_,_,cb⟩:=WT h;unfold ak.kC at cb;rw [aTM,aUp] at cb;have au:=(aTC.1 aJ).1;have ej:=cb.1 k (aUi.2 au);unfold ak.xX ak.M7 at ej;rw [aTB,aJ] at ej;simp only [aUM,aTM,aUT] at ej;obtain ⟨⟨⟨⟨⟨⟨cF,a2⟩,a3⟩,a4⟩,a5⟩,Hn⟩,Pp⟩:=ej;exact ⟨a4,cF,a3,a5,Hn,Pp,a2⟩
open Tryz

theorem aj8 {W:ak} (h:W.bn=0):1≤W.next∧W.next≤1000000∧0≤W.now∧W.now≤1000000:=by
 obtain ⟨_,_,_,_,_,cb⟩:=WT h;unfold ak.kC at cb;rw [aTM,aTM] at cb;have a:=kR cb.2.1;have b:=kR cb.2.2;exact ⟨a.1,a.2,b.1,b.2⟩
theorem wrap_small {x:Int} (τ: -1000≤x) (ae:x≤2000000):wrap64 x=x:=by
 have h:=aWV x;unfold wrap64;first | (rw [h];omega) | omega
theorem azT {W:ak} (h:W.bn=0):∀ (k:Nat) (t:bd),W.aq[k]? =some t→W.jW k<t.id∧t.id<W.next∧0≤W.jW k:=by
 obtain ⟨qa,qb,_,_⟩:=aj8 h;intro k;induction k with
 | zero =>
  intro t aJ;have ej:=kR (QA h aJ).2.2.2.2.2.2;have e:W.jW 0=0:=rfl;rw [e] at ej ⊢;rw [wrap_small (by omega) (by omega),wrap_small (by omega) (by omega)] at ej;omega
 | succ k bK =>
  intro t aJ;have bA:=(aTC.1 aJ).1;obtain ⟨u,hu⟩:=gH (l:=W.aq) (i:=k) (by omega);have fq:=bK u hu;have ej:=kR (QA h aJ).2.2.2.2.2.2;have e:W.jW (k+1)=u.id:=by
   unfold ak.jW;rw [aTL (by omega),aTB,aXl,hu];rfl
  rw [e] at ej ⊢;rw [wrap_small (by omega) (by omega),wrap_small (by omega) (by omega)] at ej;omega
open Tryz
structure Pn (f:aI) (lI:Nat) (t:bd):Prop where
 kind:t.kind=1∨t.kind=2
 owner:0≤t.owner∧t.owner<(lI:Int)
 ground:f.ground t.spot=true
 dk:1≤t.dk∧t.dk≤ak.kS t.kind
 load:0≤t.load∧t.load≤ak.BO t.kind
structure Good (W:ak):Prop where
 field:W.field.bn=0
 lI:W.a7.length≤8
 ek:W.aq.length≤100
 sl:W.bp.length=W.a7.length
 a7:∀ (i:Nat) c,W.a7[i]? =some c→W.field.ground c=true∧(W.a7.take i).contains c=false
 bp:∀ (i:Nat) s,W.bp[i]? =some s→0≤s∧s≤1000000
 DR:W.bM.length=W.field.a8.length
 bM:∀ (i:Nat) m,W.bM[i]? =some m→0≤m∧m≤1000000∧(m≤0∨W.field.a8.getD i 0=3)
 aq:∀ (i:Nat) t,W.aq[i]? =some t→Pn W.field W.a7.length t
 ids:∀ (i:Nat) t,W.aq[i]? =some t→W.jW i<t.id∧t.id<W.next∧0≤W.jW i
 jx:∀ (i:Nat) t,W.aq[i]? =some t→(W.jx i).contains t.spot=false
 next:1≤W.next∧W.next≤1000000
 now:0≤W.now∧W.now≤1000000
theorem Good.BQ {W:ak} (h:W.bn=0):Good W:=by
 obtain ⟨aK,fq,xo,hp,hm,aJ⟩:=WT h;obtain ⟨qa,qb,oe,r8⟩:=aj8 h;unfold ak.oj at hp;unfold ak.o' at hm;rw [aTM,aUp] at hp hm;have uj:W.bp.length=W.a7.length:=by simpa using hp.1
 have It:W.bM.length=W.field.a8.length:=by simpa using hm.1
 refine ⟨aK,fq,xo,uj,λ i c hc=> ?_,λ i s hs=> ?_,It,λ i m ar=> ?_,λ i t ar=> ?_,λ i t ar=>azT h i t ar,λ i t ar=>(QA h ar).2.2.2.2.2.1,⟨qa,qb⟩,⟨oe,r8⟩⟩
 ·have bA:=(aTC.1 hc).1;have:=hp.2 i (aUi.2 bA);unfold ak.xV at this;rw [aTB,hc] at this;simp only [aUM,aTM,aUT] at this;exact ⟨this.1.1,this.1.2⟩
 ·have bA:=(aTC.1 hs).1;have:=hp.2 i (aUi.2 (by omega));unfold ak.xV at this;rw [aTM] at this;have ae:=kR this.2;rw [aTB,hs] at ae;exact ae
 ·have bA:=(aTC.1 ar).1;have:=hm.2 i (aUi.2 bA);unfold ak.xW at this;rw [aTB,ar,aTM,aUr] at this;have ae:=kR this.1;refine ⟨ae.1,ae.2, ?_⟩;rcases this.2 with aw | aw
  ·exact .inl (by simpa using aw)
  ·exact .inr (by simpa using aw)
 ·obtain ⟨cF,a2,a3,a4,a5,_,_⟩:=QA h ar;have dH:=kR a2;have gy:=kR a3;have y9:=kR a4;have Hs:=kR a5;exact ⟨by omega,⟨gy.1,by omega⟩,cF,y9,Hs⟩
theorem Good.bn {W:ak} (h:Good W):W.bn=0:=by
 have hp:W.oj=true:=ak.akG h.sl λ k au=>by
  obtain ⟨c,hc⟩:=gH au;obtain ⟨s,hs⟩:=gH (l:=W.bp) (i:=k) (by rw [h.sl];exact au);unfold ak.xV;rw [aTB,hc,aTB,hs];have τ:=h.a7 k c hc;have ae:=h.bp k s hs;simp only [aUM];rw [τ.1,τ.2,o2 ae.1 ae.2];rfl
 have hm:W.o'=true:=ak.aj5 h.DR λ k au=>by
  obtain ⟨m,hm⟩:=gH au;have τ:=h.bM k m hm;unfold ak.xW;rw [aTB,hm];simp only [aUM];rw [o2 τ.1 τ.2.1,aWF,aUr];rcases τ.2.2 with aw | aw
  ·exact .inl (by simpa using aw)
  ·exact .inr (by simpa using aw)
 have aJ:W.kC=true:=by
  unfold ak.kC;rw [o2 h.next.1 h.next.2,o2 h.now.1 h.now.2,Bool.and_true,Bool.and_true,aUp];intro k au;obtain ⟨t,aJ⟩:=gH (aUi.1 au);have τ:=h.aq k t aJ;have ae:=h.ids k t aJ;have aw:=h.jx k t aJ;have hn:=h.next;unfold ak.xX ak.M7;rw [aTB,aJ];simp only [aUM];have d':c9 t.kind 1 2=true:=by
   rcases τ.kind with h | h
   ·exact o2 (by omega) (by omega)
   ·exact o2 (by omega) (by omega)
  have eu:c9 t.id (W.jW k+1) (W.next - 1)=true:=o2 (by omega) (by omega);have kg:c9 t.owner 0 ((W.a7.length:Int) - 1)=true:=o2 τ.owner.1 (by have:=τ.owner.2;omega);rw [wrap_small (by omega) (by omega),wrap_small (by omega) (by omega),d',eu,kg,aw,τ.ground,o2 τ.dk.1 τ.dk.2,o2 τ.load.1 τ.load.2];rfl
 rw [ak.Vs h.field (by have:=h.lI;have:=h.ek;omega),hp,hm,aJ];rfl
open Tryz
structure bO (w:World) (aE:Nat) (a:ak.b_) (W:ak):Prop where
 P:bW.aH 3 8 w aE (aa.aj a.P) a.P a.p W.field.a8
 B:az.rep.aH 55 16 w aE (aa.aj a.B) a.B a.b W.a7
 S:bW.aH 3 8 w aE (aa.aj a.S) a.S a.s W.bp
 M:bW.aH 3 8 w aE (aa.aj a.M) a.M a.m W.bM
 T:bd.rep.aH 57 56 w aE (aa.aj a.T) a.T a.t W.aq
 apart:(aa.aj a.P++aa.aj a.B++aa.aj a.S++aa.aj a.M++aa.aj a.T).Nodup
 nums:e_ W.field.wide∧e_ W.field.high∧e_ W.next∧e_ W.now
theorem bO.has {w:World} {B:Nat} {a:ak.b_} {W:ak} (h:bO w B a W):ak.Has w a W:=⟨h.P.has,h.B.has,h.S.has,h.M.has,h.T.has,h.nums⟩
theorem bO.later {w w':World} {B:Nat} {a:ak.b_} {W:ak} (h:bO w B a W) (γ:Below w.heap.size w w'):bO w' B a W:=⟨h.P.later γ,h.B.later γ,h.S.later γ,h.M.later γ,h.T.later γ,h.apart,h.nums⟩
def bO.cM (a:ak.b_):List Nat:=aa.aj a.P++aa.aj a.B++aa.aj a.S++aa.aj a.M++aa.aj a.T
theorem bO.lt {w:World} {B:Nat} {a:ak.b_} {W:ak} (h:bO w B a W):∀ g∈bO.cM a,B≤g∧g<w.heap.size:=by
 intro g aM;unfold bO.cM at aM;simp only [aTP] at aM;rcases aM with (((aM | aM) | aM) | aM) | aM
 ·exact h.P.lt g aM
 ·exact h.B.lt g aM
 ·exact h.S.lt g aM
 ·exact h.M.lt g aM
 ·exact h.T.lt g aM
theorem bO.other {w:World} {B:Nat} {a:ak.b_} {W:ak} (h:bO w B a W) {p:Addr} (hp:p.block∉bO.cM a) (u:Value):bO (w.setCell p u) B a W:=by
 unfold bO.cM at hp;simp only [aTP,not_or] at hp;exact ⟨h.P.other hp.1.1.1.1 u,h.B.other hp.1.1.1.2 u,h.S.other hp.1.1.2 u,h.M.other hp.1.2 u,h.T.other hp.2 u,h.apart,h.nums⟩
theorem IZ {w:World} {B:Nat} {A:Option Addr} {α:Type} {R:aa α} {E by_ c:Nat} {l:List α} (h:R.aH E by_ w B (aa.aj A) A c l) {g:Nat} (aM:g<B):g∉aa.aj A:=λ hm=>by have:=h.lt g hm;omega
theorem Ee {w:World} {g:Nat} {dp d_ eU jj qk pg ql q5 m5:Value} {t:TypeId} {aD:Nat×Nat} (h:aR w g [dp,d_,eU,jj,qk,pg,ql,q5,m5] t aD):w.cell? ⟨g,0,none⟩=some dp∧w.cell? ⟨g,1,none⟩=some d_∧w.cell? ⟨g,2,none⟩=some eU∧w.cell? ⟨g,3,none⟩=some jj∧w.cell? ⟨g,4,none⟩=some qk∧w.cell? ⟨g,5,none⟩=some pg∧w.cell? ⟨g,6,none⟩=some ql∧w.cell? ⟨g,7,none⟩=some q5∧w.cell? ⟨g,8,none⟩=some m5 :=
 ⟨h.cell 0,h.cell 1,h.cell 2,h.cell 3,h.cell 4,h.cell 5,h.cell 6,h.cell 7,h.cell 8⟩
theorem Ps {cz iE:List Nat} {n m:Nat} (τ:cz.Nodup∧∀ g∈cz,g<n) (ae:iE.Nodup) (aw:∀ g∈iE,n≤g∧g<m) (aNT:n≤m):(cz++iE).Nodup∧∀ g∈cz++iE,g<m:=by
 refine ⟨aUu.2 ⟨τ.1,ae,λ a ha b γ e=> ?_⟩,λ g aM=> ?_⟩
 ·have:=τ.2 a ha;have:=(aw b γ).1;omega
 ·rcases aTP.1 aM with aM | aM
  ·have:=τ.2 g aM;omega
  ·exact (aw g aM).2
theorem vg (A:Option Addr):(aa.aj A).Nodup:=by cases A<;>simp [aa.aj]
theorem aCi {w:World} {g:Nat} {z0 mv z2 z3 z4 z5 aIa aIb aIc:Value} {t:TypeId} {aD:Nat×Nat} (h:aR w g [z0,mv,z2,z3,z4,z5,aIa,aIb,aIc] t aD) (dp d_ eU jj qk pg ql q5 m5:Value):aR (((((((((w.setCell ⟨g,0,none⟩ dp).setCell ⟨g,1,none⟩ d_).setCell ⟨g,2,none⟩ eU).setCell ⟨g,3,none⟩ jj).setCell ⟨g,4,none⟩ qk).setCell ⟨g,5,none⟩ pg).setCell ⟨g,6,none⟩ ql).setCell ⟨g,7,none⟩ q5).setCell ⟨g,8,none⟩ m5) g [dp,d_,eU,jj,qk,pg,ql,q5,m5] t aD :=
 (((((((((h.set 0 dp).set 1 d_).set 2 eU).set 3 jj).set 4 qk).set 5 pg).set 6 ql).set 7 q5).set 8 m5)
theorem bO.nine {w:World} {aE:Nat} {a:ak.b_} {W:ak} {g:Nat} (h:bO w aE a W) (aM:g∉bO.cM a) (dp d_ eU jj qk pg ql q5 m5:Value):bO (((((((((w.setCell ⟨g,0,none⟩ dp).setCell ⟨g,1,none⟩ d_).setCell ⟨g,2,none⟩ eU).setCell ⟨g,3,none⟩ jj).setCell ⟨g,4,none⟩ qk).setCell ⟨g,5,none⟩ pg).setCell ⟨g,6,none⟩ ql).setCell ⟨g,7,none⟩ q5).setCell ⟨g,8,none⟩ m5) aE a W :=
 (((((((((h.other (p:=⟨g,0,none⟩) aM dp).other (p:=⟨g,1,none⟩) aM d_).other (p:=⟨g,2,none⟩) aM eU).other (p:=⟨g,3,none⟩) aM jj).other (p:=⟨g,4,none⟩) aM qk).other (p:=⟨g,5,none⟩) aM pg).other (p:=⟨g,6,none⟩) aM ql).other (p:=⟨g,7,none⟩) aM q5).other (p:=⟨g,8,none⟩) aM m5)
theorem aq2 {w0 w:World} {aE g:Nat} (h:Below aE w0 w) (aM:aE≤g) (dp d_ eU jj qk pg ql q5 m5:Value):Below aE w0 (((((((((w.setCell ⟨g,0,none⟩ dp).setCell ⟨g,1,none⟩ d_).setCell ⟨g,2,none⟩ eU).setCell ⟨g,3,none⟩ jj).setCell ⟨g,4,none⟩ qk).setCell ⟨g,5,none⟩ pg).setCell ⟨g,6,none⟩ ql).setCell ⟨g,7,none⟩ q5).setCell ⟨g,8,none⟩ m5):=
 (((((((((h.setCell (p:=⟨g,0,none⟩) aM dp).setCell (p:=⟨g,1,none⟩) aM d_).setCell (p:=⟨g,2,none⟩) aM eU).setCell (p:=⟨g,3,none⟩) aM jj).setCell (p:=⟨g,4,none⟩) aM qk).setCell (p:=⟨g,5,none⟩) aM pg).setCell (p:=⟨g,6,none⟩) aM ql).setCell (p:=⟨g,7,none⟩) aM q5).setCell (p:=⟨g,8,none⟩) aM m5)
def ab4 (w l0:World) (dv:Option Addr) (oh:Nat) (W:ak) (fF:Option Addr) (fX:Nat) (fk:Option Addr) (fK qb:Nat):Prop :=
 ∃ (eV:Option Addr) (mL:Nat) (eB:Option Addr) (mZ oe r8:Nat),aR l0 w.heap.size [.int .i64 W.field.wide, .int .i64 W.field.high, .slice dv W.field.a8.length oh, .slice eV W.a7.length mL, .slice eB W.bp.length mZ, .slice fF W.bM.length fX, .slice fk W.aq.length fK, .int .i64 W.next, .int .i64 W.now] 28 (0,0)∧
  aR l0 (w.heap.size+1) [.int .i64 0, .int .i64 0, .slice none 0 0, .slice none 0 0, .slice none 0 0, .slice none 0 0, .slice none 0 0, .int .i64 0, .int .i64 0] 28 (0,0)∧bW.aH 3 8 l0 w.heap.size (aa.aj dv) dv oh W.field.a8∧az.rep.aH 55 16 l0 qb (aa.aj eV) eV mL W.a7∧bW.aH 3 8 l0 oe (aa.aj eB) eB mZ W.bp∧
  (∀ g∈aa.aj eV,qb≤g∧g<oe)∧(∀ g∈aa.aj eB,oe≤g∧g<r8)∧Below w.heap.size w l0∧qb≤oe∧oe≤r8∧r8=l0.heap.size
open Tryz
open Tryz

namespace aa
variable {α:Type} {R:aa α}
theorem avR {β:Type} {size:Nat} {X:List (List β)} {i:Nat} {es:List β} (zw:∀ x∈X,x.length=size) (ar:i<X.length):(X.set i es).flatten=X.flatten.take (i * size)++es++X.flatten.drop (i * size+size):=by
 rw [aWd,aTO ar,aV5,aUw,Qp i zw,Wv (i+1) zw,aVj,aTX]
theorem aF6 {β:Type} {cur es:List β} {p n k:Nat} (au:es.length=k) (τ:p+k≤n) (ae:n≤cur.length):(cur.take p++es++cur.drop (p+k)).take n=(cur.take n).take p++es++(cur.take n).drop (p+k):=by
 apply aUS;intro j;subst au;simp only [aUf,List.getElem?_append,aTE,aTD,aUy]
 grind
theorem aH.als {E by_ B c i g:Nat} {f:List Nat} {l:List α} {w:World} {q':α} {es:List Value} {cur:Array Value} (h:R.aH E by_ w B f (some ⟨g,0,none⟩) c l) (hp:R.re) (ar:i<l.length) (I:∀ w,R.has w es q') (uh:w.heap[g]? =some (.cells cur E (0,0))):
  R.aH E by_ (w.setRow g (cur.toList.take (i * R.size)++es++cur.toList.drop (i * R.size+es.length)).toArray) B f (some ⟨g,0,none⟩) c (l.set i q')∧i * R.size+es.length≤cur.toList.length:=by
 obtain ⟨γ,ps,rfl,hn,cc,dD⟩:=h;have Il:es.length=R.size:=R.len (I w);have aC:=R9 dD;have n_:ps.length=l.length:=dD.length;obtain ⟨fB,Md⟩:=cc;obtain ⟨g',cap,C1,hv,awD,fI,Dv,rO,jL,Mc,bQ⟩:=Md.resolve_left (λ bG=>nomatch bG.1);injection hv with oZ IA azE
 injection oZ with oZ
 injection oZ with oZ aOk aOl
 subst oZ azE;rw [fI] at uh;injection uh with uh
 injection uh with uh
 subst uh;have hle:i * R.size+R.size≤l.length * R.size:=by rw [← aVj];exact aUk _ ar
 have aNr:l.length * R.size≤c * R.size:=aUk _ Dv;have uj:C1.toList.length=c * R.size:=by rw [aVB,jL]
 obtain ⟨x,hx,Me⟩:=dD.at_ (cA (l:=l) (u:=q') ar);have jg:x.1= []:=hp.2 Me;have XF:∀ y∈ps,∀ q∈y.1,q≠g:=λ y aF q I e=>by
  obtain ⟨b,Ft⟩:=dD.left y aF;rw [hp.2 Ft] at I;simp at I
 have aY:(ps.set i (x.1,es)).map (·.1)=ps.map (·.1):=by
  rw [aUY];have:(ps.map (·.1))[i]? =some x.1:=by rw [aTY,hx];rfl
  obtain ⟨ae,aw⟩:=aTC.1 this
  conv=>lhs;rw [← aw]
  exact aVr _
 have bb:(ps.set i (x.1,es)).map (·.2)=(ps.map (·.2)).set i es:=by rw [aUY]
 have agG:=avR (es:=es) aC (by rw [aUz];omega:i<(ps.map (·.2)).length);rw [Il];refine ⟨⟨by rw [aTH];exact γ,ps.set i (x.1,es),by rw [aY],hn,⟨?_, .inr ⟨g,c,(C1.toList.take (i * R.size)++es++C1.toList.drop (i * R.size+R.size)).toArray,by rw [aTH],awD, ?_,by rw [aTH];exact Dv,rO, ?_, ?_, ?_⟩⟩, ?_⟩,by omega⟩
 ·rw [bb,agG,aTH];simp only [aTE,aTD,aTW,fB,Il];omega
 ·exact aR.setRow (cur:=C1.toList) (by simpa [aR] using fI) _
 ·rw [aVe];simp only [aTE,aTD,aTW,uj,Il];omega
 ·rw [aTH,bb,agG,← Mc];exact aF6 Il hle (by omega)
 ·intro j u hu;rw [aWZ] at hu;by_cases τ:j<i * R.size
  ·refine bQ j u ?_;rw [aTX,aTR (by rw [aTD];omega),aUf,aTO τ] at hu;rw [← aUI];exact hu
  ·by_cases ae:j<i * R.size+R.size
   ·rw [aTX,aTU (by rw [aTD];omega),aTR (by rw [aTD];omega),aTD] at hu;have aA:j % R.size=j - i * R.size:=by
     have aw:j=R.size * i+(j - i * R.size):=by rw [aUU];omega
     have bz:(j - i * R.size) % R.size=j - i * R.size:=aU0 (by omega)
     conv=>lhs;rw [aw,aV9,bz]
    rw [aA];exact R.wb (I w) _ u (by rw [aUJ (by omega)] at hu;exact hu)
   ·refine bQ j u ?_;rw [aTU (by simp only [aTE,aTD];omega),aUy] at hu;rw [← aUI];rw [show i * R.size+R.size+(j - (List.take (i * R.size) C1.toList++es).length)=j from by simp only [aTE,aTD];omega] at hu;exact hu
 ·have Xq:dm (λ x a=>R.own (w.setRow g (C1.toList.take (i * R.size)++es++C1.toList.drop (i * R.size+R.size)).toArray) B x.1 x.2 a) ps l:=dD.imp λ y a aF ID=>R.r_ ID λ q I=>(Mod.setRow w g _).block q (R.vY ID q I).2 (by simpa using XF y aF q I);exact Xq.Z5 (P:=λ (x:List Nat×List Value) a=>R.own _ B x.1 x.2 a) (by rw [jg];exact hp.1 (I _))
end aa
section
variable {P:Program} {n:Nat} {E cO:List (Nat×Value)} {a:Act} {w w' w0 aS:World} {Q:Exit→Act→World→Prop} {ops:Array Oper} {v:Value}
variable {d:Option Nat} {ty:TypeId} {pos:String} {af:Array Edge} {g:Option (Nat×Bool)} {x y z:Operand} {t:TypeId} {rest:List Oper}
theorem Gn {α:Type} {R:aa α} {e by_ B i:Nat} {A:Option Addr} {c:Nat} {l:List α} {q':α} {p:Addr} {es:List Value} (h:R.aH e by_ w B (aa.aj A) A c l) (hR:R.re) (ar:i<l.length) (hx:ev E x=some (.pointer (some p))) (hp:p=⟨eV A,kz A+i * R.size,none⟩) (aF:ev E y=some v) (hc:v.cells=es.toArray)
  (I:∀ w,R.has w es q') (hs:eK P t es.length)
  (au:∀ aS,Mod (aa.aj A) w aS→R.aH e by_ aS B (aa.aj A) A c (l.set i q')→cy P n ops Q rest E aS):cy P n ops Q (⟨none, .store t x y,ty,pos,af,none⟩::rest) E w:=by
 obtain ⟨b,rfl⟩:=h.block (by omega);have L1:p=⟨b,i * R.size,none⟩:=by rw [hp];simp [eV,kz]
 subst L1;obtain ⟨_,ps,_,_,cc,_⟩:=id h;obtain ⟨cur,uh,_,_⟩:=cc.adk;obtain ⟨vL,hle⟩:=aa.aH.als (q':=q') h hR ar I uh;have hY:=ZS (P:=P) (w:=w) (b:=b) (p:=i * R.size) (cur:=cur.toList) (e:=e) (by simpa [aR] using uh) hc hs (aUp.2 (R.one (I w))) hle;refine us (λ n a ha=> ?_) (au _ (Mod.setRow w b _) vL);simp only [execOp,ha.ev hx,ha.ev aF,Instr.storeAt,Instr.sureAddr,aTQ,aTV,aTJ,hY]
def akC (A:Option Addr) (aKT:Nat):Option Addr:=A
theorem ZW {A:Option Addr} {len cap e s:Nat} {k:IntKind} (ar m:Nat) {i:Int} (aJ:P.underlying t=some (.slice e)) (hs:eK P e s) (hx:ev E x=some (.slice A len cap)) (aF:ev E y=some (.int k i)) (τ:i=(ar:Int)) (ae:ar≤cap) (hm:m=ar):cQ P E ⟨d, .slice t x none (some y) none,ty,pos,af,g⟩ w (.slice (akC A ar) m cap) w:=λ n a ha=>by
 subst τ;subst hm;have τ:P.underlying t=some (.slice (P.elem t)):=by simp [Program.elem,aJ]
 have ia:P.elem t=e:=by simp [Program.elem,aJ]
 have aw:=run_slice_h (P:=P) (w:=w) t A len cap τ k (m:Int) (by omega) (by omega);have aU:=aWj (P:=P) (w:=w) t (.slice A len cap) none (some (.int k (m:Int))) none τ;rw [ia,hs w] at aw;simp only [execOp,ha.ev hx,ha.ev aF,Option.map,aU,aw,aTQ,aTJ,aTV,sliced,aUx,Nat.sub_zero];unfold akC;cases A with
 | none=>simp
 | some a=>simp [Addr.add]
end
open Tryz
section
variable {P:Program} {n:Nat} {E:List (Nat×Value)} {w:World} {Q:Exit→Act→World→Prop} {ops:Array Oper} {aT:Nat→Nat}
def abd (P:Program) (ops:Array Oper) (Q:Exit→Act→World→Prop) (aT:Nat→Nat) (aI9 aJa:List Nat):Exit→Act→World→Prop :=
 hz (λ a w=>uD P ops (hz (Q .normal)) aT aI9 a w∧uD P ops (hz (Q .normal)) aT aJa a w)
theorem aEf {id:Nat} (ll:List (Nat×Nat)) (bV:List Nat) (i:Nat) (Ao:List Nat) (j:Nat) (Es:List Nat) (hm:P.follows .mixedOrders=true)
  (bj:(Region.noSelect ops && (bV.length+(Ao.length+1)== ops.size) && (Ao.length == Es.length) && Nat.blt 1 (nA ll i) && Nat.blt 1 (nA ll j) && Fh ops (nA ll) bV (Array.replicate ops.size false) && (Region.ready .any ops (zY bV (Array.replicate ops.size false))== [i,j]) && kd ops (nA ll) Ao ((zY bV (Array.replicate ops.size false)).setIfInBounds i true) && kd ops (nA ll) Es ((zY bV (Array.replicate ops.size false)).setIfInBounds j true))=true)
  (h:fM P n ops (abd P ops Q (nA ll) (i::Ao) (j::Es)) (nA ll) bV E w):W P n (.region id ops true) Q E w:=λ a ha=>by
 simp only [aTM,aUC,aXk] at bj;obtain ⟨⟨⟨⟨⟨⟨⟨⟨hs,aC⟩,hlen⟩,ar⟩,aA⟩,τ⟩,hr⟩,ae⟩,aw⟩:=bj;refine aYA (aXq hm (Q:=hz (Q .normal)) ?_) (λ e a w I=>by cases e<;>first | exact I | exact I.elim);have:=U0 (P:=P) hs (Q:=hz (Q .normal)) (λ _ _ _ h=>h) (m:=Ao.length+1) bV (Array.replicate ops.size false) a w (by simp) τ (h a ha) (λ a w0 fI=>by
  have fI:uD P ops (hz (Q .normal)) (nA ll) (i::Ao) a w0∧uD P ops (hz (Q .normal)) (nA ll) (j::Es) a w0:=fI w0 (Ext.bg w0);refine ⟨λ aK=>(by rw [hr] at aK;cases aK),λ q I=> ?_⟩;rw [hr] at I;have I:q=i∨q=j:=by simpa using I
  rcases I with rfl | rfl
  ·obtain ⟨⟨o,cc,h⟩,_⟩:=fI;rcases h with ⟨au,_⟩ | ⟨au,_⟩ | ⟨au,h⟩
   ·omega
   ·omega
   ·exact ⟨o,cc, .inr ⟨au,λ w hw=>aV7 (λ a' w' aw=>⟨aw.1,EX hs (λ _ _ _ h=>h) Ao _ _ _ (by simp [Z3]) ae aw.2⟩) (h w hw)⟩⟩
  ·obtain ⟨_,⟨o,cc,h⟩⟩:=fI;rcases h with ⟨au,_⟩ | ⟨au,_⟩ | ⟨au,h⟩
   ·omega
   ·omega
   ·exact ⟨o,cc, .inr ⟨au,λ w hw=>aV7 (λ a' w' bz=>⟨bz.1,by rw [hlen];exact EX hs (λ _ _ _ h=>h) Es _ _ _ (by simp [Z3]) aw bz.2⟩) (h w hw)⟩⟩)
 rw [aC] at this;exact CT _ _ _ _ this _ (aUb _ w).drew
theorem avN {Ao Es:List Nat} (τ:fM P n ops Q aT Ao E w) (ae:fM P n ops Q aT Es E w):N n (abd P ops Q aT Ao Es) E w:=λ a ha=>⟨τ a ha,ae a ha⟩
end
open Tryz
section
def kc (ro:Option Nat):Fence:= {Fence.wide with round:=ro}
section
variable {P:Program} {ro:Option Nat} {m:Nat} {ops:Array Oper} {Q:Exit→Act→World→Prop} {w:World}
theorem adi {f:FuncId} {args:Array Value} {R:Ending→World→Prop} (h:Calls P f args w R):CallsIn (kc ro) m P f args w R:=(callsIn_wide (n:=m)).2 h
theorem aEA {row:String} {args:Array Value} {R:Value→World→Prop} (h:Rows P row args w R):RowsIn (kc ro) m P row args w R:=λ c cs _ =>
 let ⟨v,w',r,s⟩:=h c cs;⟨v,w',r,stepsIn_wide.2 s⟩
def DU (o:Oper):Bool:=match o.op with
 | .defer _=>false
 | _=>true
theorem aks {o:Oper} {a:Act} {K:Act→World→Prop} (hd:DU o=true) (h:o.wp P a w K Q):o.wpIn (kc ro) m P a w K Q:=by
 refine ⟨λ _ _=>trivial, ?_⟩;have hs:o.semAt (kc ro).round a.eval=execOp a.eval o:=aWK _ _ _ (λ c e=>by simp [DU,e] at hd);rw [hs];unfold Oper.wp at h;generalize (execOp a.eval o).run P w=r at *
 cases r with
 | ok x w' =>
  cases x<;>simp only [Oper.upon] at h<;>simp only [Oper.uponIn] <;>
   first
    | exact h
    | exact h.elim
    | exact ⟨λ h=>by simp [kc,Fence.wide] at h,adi h⟩
    | exact ⟨λ h=>by simp [kc,Fence.wide] at h,aEA h⟩
 | halt x w'=>cases x<;>simp only [Oper.upon] at h<;>simp only [Oper.uponIn]<;>first | exact h | exact h.elim
theorem YM:∀ (l:List Oper) {a:Act} {w:World},l.all DU=true→wpList P ops Q l a w→(∀ c a w,¬ Q (.panic c) a w)→¬ LetsOut Q→wpListIn (kc ro) m P ops Q l a w
 | [],a,w,_,h,_,_=>by unfold wpList at h;unfold wpListIn;exact h
 | o::rest,a,w,hd,h,hp,cc=>by
  rw [List.all_cons,aTM] at hd;unfold wpList at h;unfold wpListIn;split at h
  ·rename_i hw
   rw [aTO hw];rcases h with h | ⟨h,x⟩
   ·exact Oper.wpIn_mono (λ a w h=>YM rest hd.2 h hp cc) (aks hd.1 h)
   ·exact (cc x).elim
  ·rename_i hw
   rw [aTL hw];exact ⟨λ _ _=>trivial,YM rest hd.2 h hp cc⟩
theorem aHG {i:Nat} {K:Act→World→Prop} {a:Act} {w:World} (hd:ops.toList.all DU=true) (cc:¬ LetsOut Q) (h:wpOp P ops Q i K a w):wpOpIn (kc ro) m P ops Q i K a w:=by
 unfold wpOp at h;unfold wpOpIn;split at h
 ·rename_i ar;simp only [ar];exact h
 ·rename_i o ar
  simp only [ar];have axT:DU o=true:=aUp.1 hd o (by rw [aYz];exact aYt ar);split at h
  ·rename_i hw
   rw [aTO hw];rcases h with h | ⟨h,x⟩
   ·exact aks axT h
   ·exact (cc x).elim
  ·rename_i hw
   rw [aTL hw];exact ⟨λ _ _=>trivial,h⟩
theorem acB (hd:ops.toList.all DU=true) (cc:¬ LetsOut Q):∀ (f:Nat) (l:Array Bool) {a:Act} {w:World},wpAny P .any ops Q f l a w→wpAnyIn (kc ro) m P .any ops Q f l a w
 | 0,l,a,w,h=>h
 | f+1,l,a,w,h=>⟨h.1,λ i ar=>wpOpIn_mono (λ a w h=>acB hd cc f _ h) (aHG hd cc (h.2 i ar))⟩
end
theorem akc {K:Act→World→Prop}:∀ c a w,¬ hz K (.panic c) a w:=λ _ _ _ h=>h
theorem akb {K:Act→World→Prop}:¬ LetsOut (hz K):=λ ⟨_,_,h⟩=>h
theorem aka {K:Exit→Act→World→Prop}:∀ e a w,hz (K .normal) e a w→K e a w:=λ e a w h=>by cases e<;>first | exact h | exact h.elim
namespace Rd
section
variable {P:Program} {ro:Option Nat} {m n:Nat} {ops:Array Oper} {Q:Exit→Act→World→Prop} {w w0:World} {E cO:List (Nat×Value)} {id Rw:Nat} {c:Operand} {x y:Code} {i j:Int} {bV:List Nat} {v:Value}
def W (ro:Option Nat) (m:Nat) (P:Program) (n:Nat) (c:Code) (Q:Exit→Act→World→Prop) (E:List (Nat×Value)) (w:World):Prop:=∀ a,eD n E a→c.wpIn (kc ro) m P Q a w
abbrev M (n:Nat) (Q:Exit→Act→World→Prop) (E:List (Nat×Value)) (w:World):Prop:=N n (hz (Q .normal)) E w
abbrev rp (ro:Option Nat) (m:Nat) (P:Program) (y:Code) (Q:Exit→Act→World→Prop):Exit→Act→World→Prop:=Exit.then (λ a w=>y.wpIn (kc ro) m P Q a w) Q
theorem ay (h:W ro m P n x (rp ro m P y Q) E w):W ro m P n (.seq x y) Q E w:=λ a ha=>wpIn_seq (h a ha)
theorem ei (h:M n Q E w):W ro m P n .skip Q E w:=λ a ha=>wpIn_skip (h a ha)
theorem rt (h:T n Q E w):W ro m P n .ret Q E w:=λ a ha=>wpIn_ret (h a ha)
theorem cV (h:X n Q id E w):W ro m P n (.exit id) Q E w:=λ a ha=>wpIn_exit (h a ha)
theorem bu (h:W ro m P n x (Exit.inBlock id Q) E w):W ro m P n (.block id x) Q E w:=λ a ha=>wpIn_block (h a ha)
theorem rg {l:List Oper} (h:cy P n l.toArray (hz (Q .normal)) l E w) (hd:l.all DU=true:=by kernel_rfl):W ro m P n (.region id l.toArray false) Q E w:=λ a ha=>Go.wpIn_mono (aX2 (YM l hd (h a ha) akc akb)) aka
theorem dn {b:Bool} (hc:ev E c=some (.bool b)) (τ:b=true→W ro m P n x Q E w) (ae:b=false→W ro m P n y Q E w):W ro m P n (.cond c x y) Q E w :=
 λ a ha=>wpIn_cond_split (ha.ev hc) (λ h=>τ h a ha) (λ h=>ae h a ha)
theorem df (hc:ev E c=some (.bool (decide (i<j)))) (τ:i<j→W ro m P n x Q E w) (ae:¬ i<j→W ro m P n y Q E w):W ro m P n (.cond c x y) Q E w:=dn hc (λ h=>τ (aUK h)) (λ h=>ae (aVH h))
theorem ee (hc:ev E c=some (.bool (i != j))) (τ:¬ i=j→W ro m P n x Q E w) (ae:i=j→W ro m P n y Q E w):W ro m P n (.cond c x y) Q E w:=dn hc (λ h=>τ (by simpa using h)) (λ h=>ae (by simpa using h))
theorem aP (h:W ro m P n y Q E w):M n (rp ro m P y Q) E w:=h
theorem ne {fn:Func} {R:Ending→World→Prop} (h:T n (bodyPost P fn R) E w):M n (bodyPost P fn R) E w:=λ a ha=>h a ha
theorem bU (h:M n Q E w):M n (Exit.inBlock id Q) E w:=h
theorem cU (h:X n Q id E w):X n (rp ro m P y Q) id E w:=h
theorem cT (h:M n Q E w):X n (Exit.inBlock id Q) id E w:=λ a ha=>by simp only [Exit.inBlock,aVo];exact h a ha
theorem bP (h:T n Q E w):T n (rp ro m P y Q) E w:=h
theorem dx {c:Code} (iz:Nat→List (Nat×Value)→World→Prop) (k:Nat) (cO:List (Nat×Value)) (aK:iz k cO w) (hs:Sub cO E)
  (round:∀ k E w,iz k E w→W ro m P n c (Exit.then (OT n iz k) Q) E w):W ro m P n (.loop c) Q E w:=λ a ha=>by
 intro b IG cs azk γ hr;have key:∀ k a w,(∃ E,iz k E w∧eD n E a)→∃ e a' w',Q e a' w'∧ArrivesIn (Machine.fenced P (kc ro)) P (lone (b.atR a (.code c:: .inLoop c::IG)) cs w) b IG cs e a' w':=by
  intro k;induction k using Nat.strongRecOn with
  | _ k bK =>
   intro a w ⟨E,oU,ha⟩;obtain ⟨e,cF,aS,I,pT⟩:=round k E w oU a ha b (.inLoop c::IG) cs azk γ hr;cases e with
   | normal =>
    obtain ⟨m',bA,W2⟩:=I;obtain ⟨bb,a2,cS,vK,Xt⟩:=bK m' bA cF aS W2;exact ⟨bb,a2,cS,vK, .of_steps (StepsIn.trans pT (.one (fenced_calm γ hr Z) stepR_inLoop)) Xt⟩
   | exit id=>exact ⟨_,cF,aS,I, .pass (x:= .inLoop c) rfl (λ _ _=> .inl (by simp)) pT⟩
   | goto l=>exact ⟨_,cF,aS,I, .pass (x:= .inLoop c) rfl (λ _ _=> .inl (by simp)) pT⟩
   | ret=>exact ⟨_,cF,aS,I, .pass (x:= .inLoop c) rfl (λ _ _=> .inl (by simp)) pT⟩
   | panic asg=>exact ⟨_,cF,aS,I, .pass (x:= .inLoop c) rfl (λ _ _=> .inl (by simp)) pT⟩
   | outgrown=>exact ⟨_,cF,aS,I, .pass (x:= .inLoop c) rfl (λ _ _=> .inl (by simp)) pT⟩
 obtain ⟨e,a',w',I,pT⟩:=key k a w ⟨cO,aK,ha.sub hs⟩;exact ⟨e,a',w',I, .of_steps (.one (fenced_calm γ hr Z) stepR_loop) pT⟩
theorem cD {iz:Nat→List (Nat×Value)→World→Prop} {k:Nat} (k':Nat) (cO:List (Nat×Value)) (h:iz k' cO w) (hm:k'<k) (hs:Sub cO E):M n (Exit.then (OT n iz k) Q) E w :=
 λ a ha=>⟨k',hm,cO,h,ha.sub hs⟩
theorem rd (ll:List (Nat×Nat)) (bV:List Nat) (hm:P.follows .mixedOrders=true) (bj:(Region.noSelect ops && (bV.length == ops.size) && kd ops (nA ll) bV (Array.replicate ops.size false))=true)
  (h:fM P n ops (hz (Q .normal)) (nA ll) bV E w) (hd:ops.toList.all DU=true:=by kernel_rfl):W ro m P n (.region id ops true) Q E w:=λ a ha=>by
 simp only [aTM,aUC] at bj;obtain ⟨⟨hs,aC⟩,bj⟩:=bj;refine Go.wpIn_mono (wpIn_region_any hm (Q:=hz (Q .normal)) (acB hd akb _ _ ?_)) aka;have:=EX (P:=P) hs (Q:=hz (Q .normal)) akc bV (Array.replicate ops.size false) a w (by simp) bj (h a ha);rw [aC] at this;exact CT _ _ _ _ this _ (aUb _ w).drew
theorem acA {l:List Value} (aC:Nat.ble l.length n=true):eD n (CU 0 l) {tmps:=l.toArray++Array.replicate (n - l.toArray.size) undef,defers:= []}:=by
 refine ⟨Z, ?_,λ t v hv=> ?_⟩
 ·have:=aVq aC;simp only [aXB,aYy,aVe];omega
 ·obtain ⟨j,e,aA⟩:=U1 l 0 t v hv;have bA:=(aTC.1 aA).1;rw [aX1 (by simp;omega)];simpa [show t=j by omega] using aA
theorem b' {f:FuncId} {fn:Func} {c:Code} {l:List Value} {R:Ending→World→Prop} (hf:P.funcs[f]? =some fn) (γ:fn.body=some c) (hn:fn.ntmps=n) (aC:Nat.ble l.length n=true)
  (h:W none m P n c (bodyPostM (kc none) m P fn R) (CU 0 l) w):Calls P f l.toArray w R:=by
 have τ:CallsIn (kc none) m P f l.toArray w R:=callsIn_of_wp_marks hf γ trivial (by rw [hn];exact h _ (acA aC)) rfl;exact (callsIn_wide (n:=m)).1 τ
theorem ar4 {f:FuncId} {fn:Func} {c:Code} {l:List Value} {R:Ending→World→Prop} (hf:P.funcs[f]? =some fn) (γ:fn.body=some c) (hn:fn.ntmps=n) (aC:Nat.ble l.length n=true)
  (h:W none m P n c (bodyPost P fn R) (CU 0 l) w):CallsIn (kc none) m P f l.toArray w R :=
 callsIn_of_wp hf γ trivial (by rw [hn];exact h _ (acA aC)) rfl
theorem aV {fn:Func} {R:Ending→World→Prop} {vs:List Value} (h:wR P E w fn.results.toList vs) (hR:R (.returned (q0 vs)) w):T n (bodyPostM (kc none) m P fn R) E w :=
 λ a ha=>by
  show LeavesInM _ _ _ _ _ _ a.defers _ _;rw [ha.d];exact ⟨_,ZQ h ha,hR⟩
end
end Rd
namespace oL
section
variable {P:Program} {ro:Option Nat} {m n:Nat} {ops:Array Oper} {Q:Exit→Act→World→Prop} {w w' w0:World} {E cO:List (Nat×Value)} {id:Nat} {v:Value}
variable {d:Option Nat} {ty:TypeId} {pos:String} {af:Array Edge} {g:Option (Nat×Bool)} {x y z:Operand} {t:TypeId} {rest:List Oper}
def cy (ro:Option Nat) (m:Nat) (P:Program) (n:Nat) (ops:Array Oper) (Q:Exit→Act→World→Prop) (l:List Oper) (E:List (Nat×Value)) (w:World):Prop:=∀ a,eD n E a→wpListIn (kc ro) m P ops Q l a w
theorem rg {l:List Oper} (h:cy ro m P n l.toArray Q l E w):Rd.W ro m P n (.region id l.toArray false) Q E w:=λ a ha=>aX2 (h a ha)
theorem nl (h:Rd.M n Q E w):cy ro m P n ops Q [] E w:=h
theorem iV {d:Nat} {op:Op} (hr:cQ P E ⟨some d,op,ty,pos,af,none⟩ w v w') (hd:Nat.blt d n=true) (h:cy ro m P n ops Q rest ((d,v)::E) w'):cy ro m P n ops Q (⟨some d,op,ty,pos,af,none⟩::rest) E w:=λ a ha=>by
 have kQ:=hr n a ha;unfold wpListIn;rw [aTO (by simp [Region.wanted])];refine ⟨λ _ _=>trivial, ?_⟩;have hs:(⟨some d,op,ty,pos,af,none⟩:Oper).semAt (kc ro).round a.eval=execOp a.eval ⟨some d,op,ty,pos,af,none⟩:=aWK _ _ _ (λ c e=>by
  have e:op= .defer c:=e;subst e;simp only [execOp,aTQ,aTV] at kQ;revert kQ;generalize (resolve a.eval c ty).run P w=r;cases r<;>simp [Result.andThen])
 rw [hs,kQ];exact h _ (ha.put hd v)
theorem aH7 {d:Nat} {l:Nat} {xs:Array Operand} {ts:Array TypeId} {args:List Value} (hx:ev E x=some (.func (.yield l) #[] #[])) (he:gX E xs.toList=some args) (hd:Nat.blt d n=true)
  (h:YieldAt (kc ro) (m - 1) P l args.toArray w λ e w'=>∃ v,e= .returned v∧cy ro m P n ops Q rest ((d,v)::E) w'):cy ro m P n ops Q (⟨some d, .call {callee:= .value x,args:=xs,argTypes:=ts},ty,pos,af,none⟩::rest) E w:=λ a ha=>by
 obtain ⟨fn,tmps,assign,body,aF,hR⟩:=h;unfold wpListIn;rw [aTO (by simp [Region.wanted])];refine ⟨λ _ _=>trivial, ?_⟩;have hs:(⟨some d, .call {callee:= .value x,args:=xs,argTypes:=ts},ty,pos,af,none⟩:Oper).semAt (kc ro).round a.eval=execOp a.eval ⟨some d, .call {callee:= .value x,args:=xs,argTypes:=ts},ty,pos,af,none⟩:=aWK _ _ _ (λ c e=>by cases e);have hm:xs.map a.eval=args.toArray:=by rw [← ha.gX he];apply aVc;simp
 have kQ:(execOp a.eval ⟨some d, .call {callee:= .value x,args:=xs,argTypes:=ts},ty,pos,af,none⟩).run P w= .ok (.round l fn tmps assign body) w:=by
  unfold execOp;simp only [resolve,invoke,Deferred.ofValue,ha.ev hx,callFunc,aTQ,aTV,aTJ,hm,aWv];first
   | exact aF
   | simpa using aF
 rw [hs,kQ];refine ⟨λ h=>by simp [kc,Fence.wide] at h,hR.mono λ e w' he=> ?_⟩;obtain ⟨v,rfl,h⟩:=he;exact h _ (ha.put hd v)
end
end oL
def mark (D:Nat):List Deferred:= [{target:= .collected D,args:=#[]}]
def wd (ds:List Deferred) (a:Act):Act:= {a with defers:=ds}
theorem amY (ds:List Deferred) (a:Act) (d:Option Nat) (v:Value):(wd ds a).put d v=wd ds (a.put d v):=by cases d<;>rfl
theorem aaK (ds:List Deferred) (a:Act):(wd ds a).eval=a.eval:=by funext x;cases x<;>rfl
def Av (w:World) (D:Nat):Prop:=w.heap[D]? =some (.deferred (some []))
theorem Av.lt {D:Nat} {w:World} (h:Av w D):D<w.heap.size:=(aUd.1 h).1
theorem Av.later {D:Nat} {w w':World} (h:Av w D) (x:Ext w w'):Av w' D:=(x.block D h.lt).trans h
def aaw (w:World) (D:Nat):World:=w.putObj D (.deferred none)
theorem Av.un {D:Nat} {w:World} (h:Av w D):Mod [D] w (aaw w D):=by
 have:=Mod.grown (grownBy_putObj' w D (.deferred none));exact this
namespace gU
section
variable {P:Program} {ds:List Deferred} {m n:Nat} {ops:Array Oper} {Q:Exit→Act→World→Prop} {w w' w0:World} {E cO:List (Nat×Value)} {id:Nat} {v:Value}
variable {d:Option Nat} {ty:TypeId} {pos:String} {af:Array Edge} {g:Option (Nat×Bool)} {x y z:Operand} {t:TypeId} {rest:List Oper} {c:Operand} {dC oO:Code} {i j:Int}
def W (ds:List Deferred) (m:Nat) (P:Program) (n:Nat) (c:Code) (Q:Exit→Act→World→Prop) (E:List (Nat×Value)) (w:World):Prop:=∀ a,eD n E a→c.wpIn (kc none) m P Q (wd ds a) w
def N (ds:List Deferred) (n:Nat) (Q:Exit→Act→World→Prop) (E:List (Nat×Value)) (w:World):Prop:=∀ a,eD n E a→Q .normal (wd ds a) w
def T (ds:List Deferred) (n:Nat) (Q:Exit→Act→World→Prop) (E:List (Nat×Value)) (w:World):Prop:=∀ a,eD n E a→Q .ret (wd ds a) w
def cy (ds:List Deferred) (m:Nat) (P:Program) (n:Nat) (ops:Array Oper) (Q:Exit→Act→World→Prop) (l:List Oper) (E:List (Nat×Value)) (w:World):Prop:=∀ a,eD n E a→wpListIn (kc none) m P ops Q l (wd ds a) w
theorem ay (h:W ds m P n dC (Rd.rp none m P oO Q) E w):W ds m P n (.seq dC oO) Q E w:=λ a ha=>wpIn_seq (h a ha)
theorem ei (h:N ds n Q E w):W ds m P n .skip Q E w:=λ a ha=>wpIn_skip (h a ha)
theorem rt (h:T ds n Q E w):W ds m P n .ret Q E w:=λ a ha=>wpIn_ret (h a ha)
theorem rg {l:List Oper} (h:cy ds m P n l.toArray Q l E w):W ds m P n (.region id l.toArray false) Q E w:=λ a ha=>aX2 (h a ha)
theorem nl (h:N ds n Q E w):cy ds m P n ops Q [] E w:=h
theorem aP (h:W ds m P n oO Q E w):N ds n (Rd.rp none m P oO Q) E w:=h
theorem bU (h:N ds n Q E w):N ds n (Exit.inBlock id Q) E w:=h
theorem bP (h:T ds n Q E w):T ds n (Rd.rp none m P oO Q) E w:=h
theorem dn {b:Bool} (hc:ev E c=some (.bool b)) (τ:b=true→W ds m P n dC Q E w) (ae:b=false→W ds m P n oO Q E w):W ds m P n (.cond c dC oO) Q E w :=
 λ a ha=>wpIn_cond_split (by rw [aaK];exact ha.ev hc) (λ h=>τ h a ha) (λ h=>ae h a ha)
theorem ee (hc:ev E c=some (.bool (i != j))) (τ:¬ i=j→W ds m P n dC Q E w) (ae:i=j→W ds m P n oO Q E w):W ds m P n (.cond c dC oO) Q E w:=dn hc (λ h=>τ (by simpa using h)) (λ h=>ae (by simpa using h))
theorem aCj {o:Oper} {a:Act} {v:Value} (h:(execOp a.eval o).run P w= .ok (.value v) w'):∀ c,o.op≠ .defer c:=λ c e=>by
 unfold execOp at h;rw [e] at h;simp only [aTQ,aTV] at h;revert h;generalize (resolve a.eval c o.type).run P w=r;cases r<;>simp [Result.andThen]
theorem iV {d:Nat} {op:Op} (hr:cQ P E ⟨some d,op,ty,pos,af,none⟩ w v w') (hd:Nat.blt d n=true) (h:cy ds m P n ops Q rest ((d,v)::E) w'):cy ds m P n ops Q (⟨some d,op,ty,pos,af,none⟩::rest) E w:=λ a ha=>by
 have kQ:=hr n a ha;unfold wpListIn;rw [aTO (by simp [Region.wanted])];refine ⟨λ _ _=>trivial, ?_⟩;rw [aaK,aWK _ _ _ (aCj kQ),kQ];show wpListIn _ _ _ _ _ _ _ _;rw [amY];exact h _ (ha.put hd v)
theorem ca {d:Nat} {f:FuncId} (hf:Enters P f) {xs:Array Operand} {ts:Array TypeId} {args:List Value} (he:gX E xs.toList=some args) (hd:Nat.blt d n=true)
  (h:Calls P f args.toArray w λ e w'=>∃ v,e= .returned v∧cy ds m P n ops Q rest ((d,v)::E) w'):cy ds m P n ops Q (⟨some d, .call {callee:= .value (.func f),args:=xs,argTypes:=ts},ty,pos,af,none⟩::rest) E w:=λ a ha=>by
 unfold wpListIn;rw [aTO (by simp [Region.wanted])];refine ⟨λ _ _=>trivial, ?_⟩;rw [aaK,aWK _ _ _ (λ c e=>by cases e),Nl hf ha he];refine ⟨λ h=>by simp [kc,Fence.wide] at h,CallsIn.mono (adi h) λ e w' fI=> ?_⟩;obtain ⟨v,rfl,h⟩:=fI;show wpListIn _ _ _ _ _ _ _ _;rw [amY];exact h _ (ha.put hd v)
theorem aV {D:Nat} {fn:Func} {R:Ending→World→Prop} {vs:List Value} (hK:Av w D) (h:wR P E (aaw w D) fn.results.toList vs) (hR:R (.returned (q0 vs)) (aaw w D)):T (mark D) n (bodyPostM (kc none) m P fn R) E w :=
 λ a ha=>by
  have hr:=ZQ (a:=a) h ha;exact ⟨by simp, .inl ⟨D,_,rfl,run_takeDeferred hK,_,hr,hR⟩⟩
end
end gU
def AN (b c:Nat) (W iQ:World):Prop:=iQ.heap[b]? =W.heap[b]? ∧iQ.heap[c]? =W.heap[c]?
theorem AN.nL {b c:Nat} {X Y aE:World} (h:AN b c X Y) (k:AN b c Y aE):AN b c X aE:=⟨k.1.trans h.1,k.2.trans h.2⟩
theorem Mod.ajc {S:List Nat} {W iQ:World} {B:Nat} (h:Mod S W iQ) (hS:∀ q∈S,q<W.heap.size→∃ cur e aD,W.heap[q]? =some (.cells cur e aD)):KeepsFrom B W iQ :=
 ⟨h.size,λ k o _ au cc=>by
  by_cases hm:k∈S
  ·obtain ⟨cur,e,aD,hc⟩:=hS k hm (aUd.1 au).1;rw [hc] at au;injection au with au
   subst au;exact nomatch cc
  ·exact (h.block k (aUd.1 au).1 hm).trans au⟩
theorem Mod.aAs {S:List Nat} {W X Y:World} {b c:Nat} (h:Mod S W X) (k:Mod S W Y) (γ:b<W.heap.size∧c<W.heap.size) (τ:b∉S) (ae:c∉S):AN b c X Y :=
 ⟨(k.block b γ.1 τ).trans (h.block b γ.1 τ).symm,(k.block c γ.2 ae).trans (h.block c γ.2 ae).symm⟩
def yZ (B:Nat) (w0 w:World):Prop:=KeepsFrom B w0 w
theorem yZ.bg (B:Nat) (w:World):yZ B w w:=KeepsFrom.refl B w
theorem yZ.later {B:Nat} {w0 w w':World} (h:yZ B w0 w) (x:Ext w w'):yZ B w0 w':=KeepsFrom.trans h ((Mod.bt (S:= []) x).ajc λ q I=>nomatch I)
theorem yZ.mod {B:Nat} {w0 w w':World} {S:List Nat} (h:yZ B w0 w) (m:Mod S w w') (hS:∀ q∈S,∃ cur e aD,w.heap[q]? =some (.cells cur e aD)):yZ B w0 w':=KeepsFrom.trans h (m.ajc λ q I _=>hS q I)
theorem aa.aH.PL {α:Type} {R:aa α} {e by_ B c:Nat} {A:Option Addr} {l:List α} {w:World} (h:R.aH e by_ w B (aa.aj A) A c l):∀ q∈aa.aj A,∃ cur e aD,w.heap[q]? =some (.cells cur e aD):=by
 obtain ⟨_,ps,_,_,⟨_,cc⟩,_⟩:=h;rcases cc with ⟨τ,_⟩ | ⟨g,cap,cur,τ,_,ae,_⟩
 ·injection τ with τ;subst τ;intro q I;exact nomatch I
 ·injection τ with τ;subst τ;intro q I
  obtain rfl:=aTz.1 I;exact ⟨_,_,_,ae⟩
structure EI {α:Type} (B:Nat) (j8:List α→World→Prop) (pre:List α) (w:World):Prop where
 UW:AbidesFrom B j8
 at_:j8 pre w
theorem EI.later {α:Type} {B:Nat} {j8:List α→World→Prop} {pre:List α} {w w':World} (h:EI B j8 pre w) (x:Ext w w'):EI B j8 pre w' :=
 ⟨h.UW,h.UW _ _ _ none h.at_ ⟨x.os,x.tape,x.output,x.size,λ k au _=>x.block k au⟩ λ r e=>nomatch e⟩
theorem aR.RA {b:Nat} {cs:List Value} {e:TypeId} {aD:Nat×Nat} {w w':World} (h:aR w b cs e aD) (k:w'.heap[b]? =w.heap[b]?):aR w' b cs e aD:=k.trans h
theorem aH8 {F:Fence} {m:Nat} {P:Program} {l:Nat} {args:Array Value} {W:World} {R R':Ending→World→Prop} (h:YieldAt F m P l args W R) (hr:∀ e w,R e w→R' e w):YieldAt F m P l args W R':=by
 obtain ⟨fn,tmps,assign,body,aF,hR⟩:=h;exact ⟨fn,tmps,assign,body,aF,hR.mono hr⟩
theorem aH9 {P Q:Prop} {e:Ending} (h:(e= .returned (.bool true)∧P)∨(e= .returned (.bool false)∧Q)):∃ b,e= .returned (.bool b)∧(b=true→P)∧(b=false→Q):=by
 rcases h with ⟨h,p⟩ | ⟨h,q⟩
 ·exact ⟨true,h,λ _=>p,(λ h=>nomatch h)⟩
 ·exact ⟨false,h,(λ h=>nomatch h),λ _=>q⟩
theorem avH {q k:Nat} (au:k<q):(List.finRange q).take k++ [⟨k,au⟩]=(List.finRange q).take (k+1):=by
 rw [aT5 (by simpa using au)];simp
section
variable {P:Program} {n:Nat} {E cO:List (Nat×Value)} {w:World} {d:Option Nat} {ty:TypeId} {pos:String} {af:Array Edge} {g:Option (Nat×Bool)} {x y z u:Operand} {t:TypeId}
theorem aEO {A:Option Addr} {len cap e s:Nat} {k:IntKind} (lo:Nat) {i:Int} (aJ:P.underlying t=some (.slice e)) (hs:eK P e s) (hx:ev E x=some (.slice A len cap)) (aF:ev E y=some (.int k i)) (τ:i=(lo:Int)) (ae:lo≤len):
  cQ P E ⟨d, .slice t x (some y) none none,ty,pos,af,g⟩ w (.slice (eB A cap lo s) (len - lo) (cap - lo)) w:=λ n a ha=>by
 subst τ;have gR:P.underlying t=some (.slice (P.elem t)):=by simp [Program.elem,aJ]
 have ia:P.elem t=e:=by simp [Program.elem,aJ]
 have aw:=run_slice_l (P:=P) (w:=w) t A len cap gR k (lo:Int) (by omega) (by omega);have aU:=aWj (P:=P) (w:=w) t (.slice A len cap) (some (.int k (lo:Int))) none none gR;rw [ia,hs w] at aw;simp only [execOp,ha.ev hx,ha.ev aF,Option.map,aU,aw,aTQ,aTJ,aTV,sliced,aUx,eB]
theorem aEN {A:Option Addr} {len cap e s:Nat} {k k' eu:IntKind} (lo ar n:Nat) {i j ob:Int} (aJ:P.underlying t=some (.slice e)) (hs:eK P e s) (hx:ev E x=some (.slice A len cap)) (aF:ev E y=some (.int k i)) (bG:ev E z=some (.int k' j)) (hu:ev E u=some (.int eu ob)) (xz:i=(lo:Int)) (FD:j=(ar:Int)) (ax8:ob=(ar:Int)) (τ:lo≤ar) (ae:ar≤cap) (hn:n=ar - lo):
  cQ P E ⟨d, .slice t x (some y) (some z) (some u),ty,pos,af,g⟩ w (.slice (eB A ar lo s) n n) w:=λ hT a ha=>by
 subst xz;subst FD;subst ax8;subst hn;have gR:P.underlying t=some (.slice (P.elem t)):=by simp [Program.elem,aJ]
 have ia:P.elem t=e:=by simp [Program.elem,aJ]
 have aw:=run_slice_lhm (P:=P) (w:=w) t A len cap gR k k' eu (lo:Int) (ar:Int) (ar:Int) (by omega) (by omega) (by omega) (by omega);have aU:=aWj (P:=P) (w:=w) t (.slice A len cap) (some (.int k (lo:Int))) (some (.int k' (ar:Int))) (some (.int eu (ar:Int))) gR;rw [ia,hs w] at aw;simp only [execOp,ha.ev hx,ha.ev aF,ha.ev bG,ha.ev hu,Option.map,aU,aw,aTQ,aTJ,aTV,sliced,aUx,eB]
end
theorem aa.aG.chunk {α:Type} {R:aa α} {by_ c:Nat} {A:Option Addr} {l:List α} {w:World} (h:R.aG by_ w A c l) (lo ar:Nat) (τ:lo<ar) (ae:ar≤l.length):R.aG by_ w (eB A ar lo R.size) (ar - lo) ((l.drop lo).take (ar - lo)):=by
 have hs:=h.sub lo ar (by omega) ae;have hc:=h.1;have rO:=h.2.1;have e:eB A ar lo R.size=eB A c lo R.size:=by unfold eB;rw [aTL (by omega),aTL (by omega)]
 rw [e];obtain ⟨g1,g2,g3,g4,g5⟩:=hs;refine ⟨by rw [aTD];omega,by omega,g3,λ hn=> ?_,g5⟩;have:=g4 hn;omega
namespace Rd
theorem bg {α:Type} {P:Program} {m n:Nat} {Q:Exit→Act→World→Prop} {w w0:World} {E:List (Nat×Value)} {tt p:Nat} {ty:TypeId} {pos:String} {af:Array Edge} {id:Nat} {body:Code} {g:Operand} {gf:Nat} {lb:List Value} {enc:α→Value} {dH gy:Nat} {S aqj:List α→Prop} {ab9:Nat}
  (aM:ev E g=some (.func (.func gf) #[] lb.toArray)) (hf:Enters P gf) (azr:SeqStopsK (kc none) (m - 1) P gf lb.toArray (λ x=>#[enc x]) (AN dH gy) S aqj ab9 w0) (bF:dH<w.heap.size) (dZ:gy<w.heap.size) (cN:Ext w0 w) (τ:1≤m) (hp:Nat.blt p n=true) (aJ:Nat.blt tt n=true)
  (iz:List α→World→Prop) (oU:∀ s W iQ S,iz s W→Mod S W iQ→(∀ q∈S,w.heap.size≤q∧∀ cur e aD,W.heap[q]? ≠some (.cells cur e aD))→iz s iQ) (aK:iz [] w)
  (axz:∀ (l:Nat) (pre:List α) (x:α) (iQ:World),iz pre iQ→pre.length<ab9→W (some l) (m - 1 - 1) P n body (ownPostG w.heap.size (AN dH gy) iz (λ _ _ _=>False) (pre++ [x]) iQ) ((tt,enc x)::(p,enc x)::E) iQ)
  (axU:∀ (D:Nat) (xs:List α) (iQ:World),w.heap.size≤D→S xs→iz xs iQ→Av iQ D→gU.N (mark D) n Q E iQ):
  W none m P n (.rangeFunc g #[p] (.region id #[⟨some tt, .assign (.tmp p),ty,pos,af,none⟩] false) body) Q E w:=λ a ha=>by
 have awK:∀ {β:Type} (j8:β→World→Prop),(∀ s W iQ S,j8 s W→Mod S W iQ→(∀ q∈S,w.heap.size≤q∧∀ cur e aD,W.heap[q]? ≠some (.cells cur e aD))→j8 s iQ)→OwnFrom w.heap.size j8:=λ j8 sR s X Y row hs Dn hr =>
  sR s X Y row.toList hs (Mod.grown Dn) λ q I=>by
   cases row with
   | none=>exact nomatch I
   | some r =>
    obtain rfl:=aTz.1 I;obtain ⟨bj,o,cc,hc⟩:=hr _ rfl;exact ⟨bj,λ cur e aD h=>by rw [h] at cc;injection cc with cc;subst cc;exact nomatch hc⟩
 obtain ⟨fn,XK,LM,agF⟩:=hf;obtain ⟨sK,axv⟩:∃ c,fn.body=some c:=by
  cases h:fn.body with
  | none=>rw [h] at agF;simp at agF
  | some c=>exact ⟨c,rfl⟩
 refine wpIn_rangeFunc_ownH (F:=kc none) Z τ (gf:=gf) (lb:=lb.toArray) (ha.ev aM) trivial (enters_of XK LM axv) azr (λ h k=>h.nL k) ?_ cN (λ x=>Z) iz (λ _ _ _=>False) (awK iz oU) (λ c s A B row hs aM hr=>hs.elim) aK
  (λ x a' _=>eD n ((tt,enc x)::(p,enc x)::E) a') (λ x a' s A B row hs aM hr=>hs) ?_ ?_ ?_ ?_
 ·intro iQ l o I0 aC b4 _ _;have hm:=Mod.grown (grownBy_putObj' iQ l I0);exact ⟨hm.block dH (by have:=(aUd.1 b4).1;omega) (by simp;omega),hm.block gy (by have:=(aUd.1 b4).1;omega) (by simp;omega)⟩
 ·intro l pre x iQ K ar hK;have hA:eD n ((p,enc x)::E) {tmps:=(#[p].zip #[enc x]).foldl (λ t (p,v)=>t.setIfInBounds p v) a.tmps,defers:= []}:=by
   have:=ha.put hp (enc x);have e:({tmps:=(#[p].zip #[enc x]).foldl (λ t (p,v)=>t.setIfInBounds p v) a.tmps,defers:= []}:Act)=a.put (some p) (enc x):=by
    simp [Act.put,ha.d]
   rw [e];exact this
  have ae:W (some l) (m - 1 - 1) P n (.region id [(⟨some tt, .assign (.tmp p),ty,pos,af,none⟩:Oper)].toArray false) (Exit.then K (λ _ _ _=>False)) ((p,enc x)::E) iQ:=by
   refine oL.rg (oL.iV (v:=enc x) (w':=iQ) (fG ?_) aJ (oL.nl λ a' rK=>hK a' iQ (KeepsFrom.refl _ _) ⟨Z,Z⟩ ar rK));show look ((p,enc x)::E) p=_;simp [look]
  exact ae _ hA
 ·intro l pre x a' iQ _ _ ar hx hlen;exact axz l pre x iQ ar hlen a' hx
 ·intro D xs iQ vD hS ar hK;have:=axU D xs iQ vD hS ar hK a ha;have e:({a with defers:= {target:= .collected D,args:=#[]}::a.defers}:Act)=wd (mark D) a:=by simp [wd,mark,ha.d]
  rw [e];exact this
 ·intro D c pre iQ _ _ h _;exact h.elim
end Rd
end
end Go.Proofs.YtmeeljmapailnaaGreat
