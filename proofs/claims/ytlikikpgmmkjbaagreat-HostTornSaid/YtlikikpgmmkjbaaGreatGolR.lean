import Derived.Test.YtlikikpgmmkjbaaGreatGra
import Derived.RangeFuncNested
import Derived.OrdersIn
import Derived.LoopNIn
set_option linter.unusedVariables false
set_option linter.unusedSimpArgs false
set_option maxRecDepth 100000
set_option maxHeartbeats 4000000
open Go.RowKit
namespace Go.Proofs.YtlikikpgmmkjbaaGreat
open Tryz
open Tryz
abbrev aSb:=@List.not_mem_nil
abbrev aSV:=@or_false
abbrev aTk:=@Int.mul_le_mul
abbrev aTM:=@List.all_eq_false
abbrev aTP:=@Bool.true_and
abbrev aTS:=@Go.Oper.semAt_eq
abbrev aT5:=@Go.IntKind.wrap_i64
abbrev aUd:=@Bool.and_eq_false_iff
abbrev aUk:=@Int.mul_nonneg
abbrev aUx:=@Nat.add_sub_cancel
abbrev aUD:=@List.set_eq_take_append_cons_drop
abbrev aVb:=@Bool.and_false
abbrev aVd:=@Go.wpIn_region_lit
abbrev aVF:=@List.getElem?_append

structure ax where
 x:Int
 y:Int
 deriving DecidableEq,Inhabited
namespace ax
def cells (a:ax):List Value:= [.int .i64 (a.x), .int .i64 (a.y)]
def ok (a:ax):Prop:=(Lit.int .i64 a.x).wf=true∧(Lit.int .i64 a.y).wf=true
def raw (j:Nat) (u:Value):Prop:=match j with
 | 0=>∃ n:Int,u= .int .i64 n
 | 1=>∃ n:Int,u= .int .i64 n
 | _=>True
theorem qZ (a:ax):∀ (j:Nat) u,a.cells[j]? =some u→raw j u:=by
 intro j u hu
 match j,hu with
 | 0,hu=>exact ⟨_,(aQL hu).symm⟩
 | 1,hu=>exact ⟨_,(aQL hu).symm⟩
 | j+2,hu=>exact trivial
theorem qY (a:ax):∀ u∈a.cells,u.oneCell'=true:=by
 intro u hu;unfold cells at hu;simp only [aQ7,aSb,aSV] at hu;rcases hu with rfl | rfl<;>rfl
def rep:τ ax:=τ.flat 2 cells ok raw (λ _=>rfl) qY qZ
theorem plain:rep.Plain:=τ.ou
def zero:Value:= .agg #[.int .i64 0, .int .i64 0]
theorem iC:∀ (j:Nat) u,zero.cells[j]? =some u→rep.raw j u:=by
 intro j u hu;have hu:(#[(.int .i64 0:Value),(.int .i64 0:Value)]:Array Value)[j]? =some u:=hu
 match j,hu with
 | 0,hu=>exact ⟨_,(aQL hu).symm⟩
 | 1,hu=>exact ⟨_,(aQL hu).symm⟩
 | j+2,hu=>cases hu
theorem info:(prog.info? 49).map (λ i=>(i.zero,i.size,i.bytes))=some (some zero,2,16):=by kernel_rfl
theorem at_ {by_:Nat} {w:World} {A:Option Addr} {c:Nat} {l:List ax} (h:rep.aI by_ w A c l) (aF:0<l.length):
  ∃ b o,A=some ⟨b,o,none⟩∧∀ (i:Nat) (a:ax),l[i]? =some a→w.cell? ⟨b,o+i * 2,none⟩=some (.int .i64 (a.x))∧w.cell? ⟨b,o+i * 2+1,none⟩=some (.int .i64 (a.y)):=by
 obtain ⟨b,o,e,hc⟩:=h.at_ aF;refine ⟨b,o,e,λ i a ha=> ?_⟩;obtain ⟨es,⟨rfl,_⟩,ay⟩:=hc i a ha;exact ⟨ay 0 _ Z,ay 1 _ Z⟩
theorem oh {by_:Nat} {w:World} {A:Option Addr} {c:Nat} {l:List ax} (h:rep.aI by_ w A c l):∀ a∈l,a.ok:=τ.aI.zL (R:=rep) (Q:=ok) (fun {w cs a} (h:rep.has w cs a)=>(show cs=a.cells∧a.ok from h).2) h
theorem fl {w:World} {g:Nat} {t:TypeId} {aA:Nat×Nat} {a:ax} (h:aQ w g a.cells t aA):w.cell? ⟨g,0,none⟩=some (.int .i64 (a.x))∧w.cell? ⟨g,1,none⟩=some (.int .i64 (a.y)):=
 ⟨h.cell 0,h.cell 1⟩
def sh:gi:=(.cons (.int .i64) (.cons (.int .i64) .nil))
theorem opens (w:World) (cs:List Value) (h:sh.iH w cs):∃ a,rep.has w cs a:=by
 obtain ⟨_,_,rfl,_,_,⟨dc,rfl,yC⟩,⟨_,_,rfl,_,_,⟨e2,rfl,dJ⟩,rfl⟩⟩:=h;exact ⟨⟨dc,e2⟩,Z,yC,dJ⟩
end ax
theorem wV {w:World} {cs:List Value} {a:ax} (h:ax.rep.has w cs a):cs=a.cells:=aSO (show cs=a.cells∧a.ok from h)
open Tryz

structure bg where
 id:Int
 owner:Int
 kind:Int
 spot:ax
 cY:Int
 load:Int
 deriving DecidableEq,Inhabited
namespace bg
def cells (a:bg):List Value:= [.int .i64 (a.id), .int .i64 (a.owner), .int .i64 (a.kind), .int .i64 (a.spot.x), .int .i64 (a.spot.y), .int .i64 (a.cY), .int .i64 (a.load)]
def ok (a:bg):Prop:=(Lit.int .i64 a.id).wf=true∧(Lit.int .i64 a.owner).wf=true∧(Lit.int .i64 a.kind).wf=true∧(Lit.int .i64 a.spot.x).wf=true∧(Lit.int .i64 a.spot.y).wf=true∧(Lit.int .i64 a.cY).wf=true∧(Lit.int .i64 a.load).wf=true
def raw (j:Nat) (u:Value):Prop:=match j with
 | 0=>∃ n:Int,u= .int .i64 n
 | 1=>∃ n:Int,u= .int .i64 n
 | 2=>∃ n:Int,u= .int .i64 n
 | 3=>∃ n:Int,u= .int .i64 n
 | 4=>∃ n:Int,u= .int .i64 n
 | 5=>∃ n:Int,u= .int .i64 n
 | 6=>∃ n:Int,u= .int .i64 n
 | _=>True
theorem qZ (a:bg):∀ (j:Nat) u,a.cells[j]? =some u→raw j u:=by
 intro j u hu
 match j,hu with
 | 0,hu=>exact ⟨_,(aQL hu).symm⟩
 | 1,hu=>exact ⟨_,(aQL hu).symm⟩
 | 2,hu=>exact ⟨_,(aQL hu).symm⟩
 | 3,hu=>exact ⟨_,(aQL hu).symm⟩
 | 4,hu=>exact ⟨_,(aQL hu).symm⟩
 | 5,hu=>exact ⟨_,(aQL hu).symm⟩
 | 6,hu=>exact ⟨_,(aQL hu).symm⟩
 | j+7,hu=>exact trivial
theorem qY (a:bg):∀ u∈a.cells,u.oneCell'=true:=by
 intro u hu;unfold cells at hu;simp only [aQ7,aSb,aSV] at hu;rcases hu with rfl | rfl | rfl | rfl | rfl | rfl | rfl<;>rfl
def rep:τ bg:=τ.flat 7 cells ok raw (λ _=>rfl) qY qZ
theorem plain:rep.Plain:=τ.ou
def zero:Value:= .agg #[.int .i64 0, .int .i64 0, .int .i64 0, .int .i64 0, .int .i64 0, .int .i64 0, .int .i64 0]
theorem iC:∀ (j:Nat) u,zero.cells[j]? =some u→rep.raw j u:=by
 intro j u hu;have hu:(#[(.int .i64 0:Value),(.int .i64 0:Value),(.int .i64 0:Value),(.int .i64 0:Value),(.int .i64 0:Value),(.int .i64 0:Value),(.int .i64 0:Value)]:Array Value)[j]? =some u:=hu
 match j,hu with
 | 0,hu=>exact ⟨_,(aQL hu).symm⟩
 | 1,hu=>exact ⟨_,(aQL hu).symm⟩
 | 2,hu=>exact ⟨_,(aQL hu).symm⟩
 | 3,hu=>exact ⟨_,(aQL hu).symm⟩
 | 4,hu=>exact ⟨_,(aQL hu).symm⟩
 | 5,hu=>exact ⟨_,(aQL hu).symm⟩
 | 6,hu=>exact ⟨_,(aQL hu).symm⟩
 | j+7,hu=>cases hu
theorem info:(prog.info? 66).map (λ i=>(i.zero,i.size,i.bytes))=some (some zero,7,56):=by kernel_rfl
theorem at_ {by_:Nat} {w:World} {A:Option Addr} {c:Nat} {l:List bg} (h:rep.aI by_ w A c l) (aF:0<l.length):
  ∃ b o,A=some ⟨b,o,none⟩∧∀ (i:Nat) (a:bg),l[i]? =some a→w.cell? ⟨b,o+i * 7,none⟩=some (.int .i64 (a.id))∧w.cell? ⟨b,o+i * 7+1,none⟩=some (.int .i64 (a.owner))∧w.cell? ⟨b,o+i * 7+2,none⟩=some (.int .i64 (a.kind))∧w.cell? ⟨b,o+i * 7+3,none⟩=some (.int .i64 (a.spot.x))∧w.cell? ⟨b,o+i * 7+4,none⟩=some (.int .i64 (a.spot.y))∧w.cell? ⟨b,o+i * 7+5,none⟩=some (.int .i64 (a.cY))∧w.cell? ⟨b,o+i * 7+6,none⟩=some (.int .i64 (a.load)):=by
 obtain ⟨b,o,e,hc⟩:=h.at_ aF;refine ⟨b,o,e,λ i a ha=> ?_⟩;obtain ⟨es,⟨rfl,_⟩,ay⟩:=hc i a ha;exact ⟨ay 0 _ Z,ay 1 _ Z,ay 2 _ Z,ay 3 _ Z,ay 4 _ Z,ay 5 _ Z,ay 6 _ Z⟩
theorem oh {by_:Nat} {w:World} {A:Option Addr} {c:Nat} {l:List bg} (h:rep.aI by_ w A c l):∀ a∈l,a.ok:=τ.aI.zL (R:=rep) (Q:=ok) (fun {w cs a} (h:rep.has w cs a)=>(show cs=a.cells∧a.ok from h).2) h
theorem fl {w:World} {g:Nat} {t:TypeId} {aA:Nat×Nat} {a:bg} (h:aQ w g a.cells t aA):w.cell? ⟨g,0,none⟩=some (.int .i64 (a.id))∧w.cell? ⟨g,1,none⟩=some (.int .i64 (a.owner))∧w.cell? ⟨g,2,none⟩=some (.int .i64 (a.kind))∧w.cell? ⟨g,3,none⟩=some (.int .i64 (a.spot.x))∧w.cell? ⟨g,4,none⟩=some (.int .i64 (a.spot.y))∧w.cell? ⟨g,5,none⟩=some (.int .i64 (a.cY))∧w.cell? ⟨g,6,none⟩=some (.int .i64 (a.load)):=
 ⟨h.cell 0,h.cell 1,h.cell 2,h.cell 3,h.cell 4,h.cell 5,h.cell 6⟩
def sh:gi:=(.cons (.int .i64) (.cons (.int .i64) (.cons (.int .i64) (.cons (.cons (.int .i64) (.cons (.int .i64) .nil)) (.cons (.int .i64) (.cons (.int .i64) .nil))))))
theorem opens (w:World) (cs:List Value) (h:sh.iH w cs):∃ a,rep.has w cs a:=by
 obtain ⟨_,_,rfl,_,_,⟨dc,rfl,yC⟩,⟨_,_,rfl,_,_,⟨e2,rfl,dJ⟩,⟨_,_,rfl,_,_,⟨ft,rfl,eO⟩,⟨_,_,rfl,_,_,⟨_,_,rfl,_,_,⟨jl,rfl,j_⟩,⟨_,_,rfl,_,_,⟨rJ,rfl,axb⟩,rfl⟩⟩,⟨_,_,rfl,_,_,⟨qw,rfl,axc⟩,⟨_,_,rfl,_,_,⟨rK,rfl,axd⟩,rfl⟩⟩⟩⟩⟩⟩:=h;exact ⟨⟨dc,e2,ft,⟨jl,rJ⟩,qw,rK⟩,Z,yC,dJ,eO,j_,axb,axc,axd⟩
end bg
theorem jf {w:World} {cs:List Value} {a:bg} (h:bg.rep.has w cs a):cs=a.cells:=aSO (show cs=a.cells∧a.ok from h)
open Tryz

structure aE where
 wide:Int
 high:Int
 aW:List Int
 deriving DecidableEq,Inhabited
structure ag where
 field:aE
 aU:List ax
 bj:List Int
 br:List Int
 ak:List bg
 next:Int
 now:Int
 deriving DecidableEq,Inhabited
namespace aE
def QG (p:Int):Bool:=cL p 0 3
def bn (f:aE):Int :=
 if cL f.wide 1 40 && cL f.high 1 40 then (if decide ((f.aW.length:Int)=f.wide * f.high) && f.aW.all QG then 0 else 4) else 1
def fe (f:aE) (c:ax):Bool:=cL c.x 0 (f.wide - 1) && cL c.y 0 (f.high - 1)
def place (f:aE) (c:ax):Int:=f.aW.getD (c.y * f.wide+c.x).toNat 0
def ground (f:aE) (c:ax):Bool:=f.fe c && f.place c != 1
theorem j5 {f:aE} (h:f.bn=0):1≤f.wide∧f.wide≤40∧1≤f.high∧f.high≤40∧(f.aW.length:Int)=f.wide * f.high∧∀ p∈f.aW,0≤p∧p≤3:=by
 unfold bn at h;split at h
 ·rename_i γ
  rw [aQT] at γ;have a:=kv γ.1;have b:=kv γ.2;split at h
  ·rename_i ab
   rw [aQT,aRD] at ab;exact ⟨a.1,a.2,b.1,b.2,by simpa using ab.1,λ p hp=>kv (ab.2 p hp)⟩
  ·cases h
 ·cases h
theorem ab6 {f:aE} (h:(cL f.wide 1 40 && cL f.high 1 40)=false):f.bn=1:=by unfold bn;rw [h];rfl
theorem idx {f:aE} (h:f.bn=0) {c:ax} (hc:f.fe c=true):0≤c.y * f.wide+c.x∧c.y * f.wide+c.x<(f.aW.length:Int)∧0≤c.x∧c.x<f.wide∧0≤c.y∧c.y<f.high:=by
 obtain ⟨g1,g2,g3,g4,g5,_⟩:=j5 h;unfold fe at hc;rw [aQT] at hc;have a:=kv hc.1;have b:=kv hc.2;have a_:0≤c.y * f.wide:=aUk b.1 (by omega);have bh:c.y * f.wide≤(f.high - 1) * f.wide:=Int.mul_le_mul_of_nonneg_right b.2 (by omega);have cD:(f.high - 1) * f.wide=f.wide * f.high - f.wide:=by rw [Int.sub_mul,Int.one_mul,Int.mul_comm]
 rw [g5];omega
theorem d_ {f:aE} (h:f.bn=0):f.aW.length≤1600:=by
 obtain ⟨g1,g2,g3,g4,g5,_⟩:=j5 h;have bh:f.wide * f.high≤40 * 40:=aTk g2 g4 (by omega) (by omega);omega
end aE
namespace aE
def dD (f:aE) (c:ax):Int:=if f.bn≠0 then f.bn else if f.fe c then 0 else 7
def mS (f:aE) (c:ax):Int:=if f.bn≠0 then 0 else if f.fe c then f.place c else 0
theorem S4 {f:aE} {c:ax} (h:f.bn≠0):f.dD c=f.bn∧f.mS c=0:=by unfold dD mS;rw [aQZ h,aQZ h];exact ⟨Z,Z⟩
theorem Jm {f:aE} {c:ax} (h:f.bn=0) (ab:f.fe c=false):f.dD c=7∧f.mS c=0:=by unfold dD mS;simp [h,ab]
theorem ma {f:aE} {c:ax} (h:f.bn=0) (ab:f.fe c=true):f.dD c=0∧f.mS c=f.place c:=by unfold dD mS;simp [h,ab]
theorem aw4 {f:aE} {c:ax} (h:c.x<0∨f.wide≤c.x∨c.y<0∨f.high≤c.y):f.fe c=false:=by
 unfold fe;rcases h with h | h | h | h
 ·rw [pF (.inl h)];rfl
 ·rw [pF (n:=c.x) (.inr (by omega))];rfl
 ·rw [pF (n:=c.y) (.inl h),aVb]
 ·rw [pF (n:=c.y) (.inr (by omega)),aVb]
theorem aw3 {f:aE} {c:ax} (γ:0≤c.x) (ab:c.x<f.wide) (aw:0≤c.y) (aX:c.y<f.high):f.fe c=true:=by
 unfold fe;rw [oB γ (by omega),oB aw (by omega)];rfl
end aE
def aKJ (k:Int):Option (Int×Int×Int×Int):=if k=1 then some (10,1,1,5) else if k=2 then some (20,2,4,12) else none
namespace ag
def xe (W:ag) (i:Nat):Bool:=W.field.ground (W.aU.getD i default) && !(W.aU.take i).contains (W.aU.getD i default) && cL (W.bj.getD i 0) 0 1000000
def nU (W:ag):Bool:=decide (W.bj.length=W.aU.length) && (List.range W.aU.length).all W.xe
def xf (W:ag) (i:Nat):Bool:=cL (W.br.getD i 0) 0 1000000 && (decide (W.br.getD i 0≤0) || W.field.aW.getD i 0 == 3)
def oJ (W:ag):Bool:=decide (W.br.length=W.field.aW.length) && (List.range W.br.length).all W.xf
def jt (W:ag) (i:Nat):Int:=if i=0 then 0 else (W.ak.getD (i - 1) default).id
def ju (k:Int):Int:=if k=1 then 10 else if k=2 then 20 else 0
def AG (k:Int):Int:=if k=1 then 5 else 0
def LR (W:ag) (ie EX:Int) (t:bg):Bool :=
 cL t.kind 1 2 && cL t.id ie EX && cL t.owner 0 ((W.aU.length:Int) - 1) && W.field.ground t.spot && cL t.cY 1 (ju t.kind) && cL t.load 0 (AG t.kind)
def iO (W:ag) (k:Nat):List ax:=(W.ak.take k).map (·.spot)
def xg (W:ag) (i:Nat):Bool:=W.LR (wrap64 (W.jt i+1)) (wrap64 (W.next - 1)) (W.ak.getD i default) && !(W.iO i).contains (W.ak.getD i default).spot
def kd (W:ag):Bool:=(List.range W.ak.length).all W.xg && (cL W.next 1 1000000 && cL W.now 0 1000000)
def bn (W:ag):Int :=
 if W.field.bn≠0 then W.field.bn else if 8<W.aU.length∨100<W.ak.length then 2 else if W.nU && W.oJ && W.kd then 0 else 4
structure cc where
 P:Option Addr
 B:Option Addr
 S:Option Addr
 M:Option Addr
 T:Option Addr
 p:Nat
 b:Nat
 s:Nat
 m:Nat
 t:Nat
def GB (A:Option Addr) (c:Nat) (f:aE):List Value:= [.int .i64 f.wide, .int .i64 f.high, .slice A f.aW.length c]
def cells (h:cc) (W:ag):List Value :=
 [.int .i64 W.field.wide, .int .i64 W.field.high, .slice h.P W.field.aW.length h.p, .slice h.B W.aU.length h.b, .slice h.S W.bj.length h.s, .slice h.M W.br.length h.m, .slice h.T W.ak.length h.t, .int .i64 W.next, .int .i64 W.now]
theorem api (h:cc) (W:ag):(cells h W).toArray=#[.int .i64 W.field.wide, .int .i64 W.field.high, .slice h.P W.field.aW.length h.p, .slice h.B W.aU.length h.b, .slice h.S W.bj.length h.s, .slice h.M W.br.length h.m, .slice h.T W.ak.length h.t, .int .i64 W.next, .int .i64 W.now]:=rfl
structure Has (w:World) (h:cc) (W:ag):Prop where
 P:bK.aI 8 w h.P h.p W.field.aW
 B:ax.rep.aI 16 w h.B h.b W.aU
 S:bK.aI 8 w h.S h.s W.bj
 M:bK.aI 8 w h.M h.m W.br
 T:bg.rep.aI 56 w h.T h.t W.ak
 nums:eP W.field.wide∧eP W.field.high∧eP W.next∧eP W.now
theorem Has.keep {w w':World} {h:cc} {W:ag} (hw:Has w h W) (Φ:Below w.heap.size w w'):Has w' h W :=
 ⟨hw.P.keep Φ,hw.B.keep Φ,hw.S.keep Φ,hw.M.keep Φ,hw.T.keep Φ,hw.nums⟩
def ata:gi:= .cons (.int .i64) (.cons (.int .i64) (.cons (.slice (.int .i64) 8) .nil))
def sh:gi:= .cons ata (.cons (.slice ax.sh 16) (.cons (.slice (.int .i64) 8) (.cons (.slice (.int .i64) 8) (.cons (.slice bg.sh 56) (.cons (.int .i64) (.cons (.int .i64) .nil))))))
theorem opens (w:World) (cs:List Value) (h:sh.iH w cs):∃ h W,cs=cells h W∧Has w h W:=by
 obtain ⟨_,_,rfl,_,_,⟨_,_,rfl,_,_,⟨dc,rfl,yC⟩,_,_,rfl,_,_,⟨e2,rfl,dJ⟩,_,_,rfl,_,_,ck,rfl⟩,_,_,rfl,_,_,bc,_,_,rfl,_,_,hS,_,_,rfl,_,_,mi,_,_,rfl,_,_,b4,_,_,rfl,_,_,⟨ft,rfl,eO⟩,_,_,rfl,_,_,⟨jl,rfl,j_⟩,rfl⟩:=h;obtain ⟨eX,aoN,lP,rfl,zA⟩:=τ.HF (R:=bK) XK rfl (by decide) ck;obtain ⟨fU,Tn,WB,rfl,aL⟩:=τ.HF (R:=ax.rep) ax.opens rfl (by decide) bc;obtain ⟨fV,aoO,axt,rfl,fi⟩:=τ.HF (R:=bK) XK rfl (by decide) hS;obtain ⟨fw,aoM,ahQ,rfl,kJ⟩:=τ.HF (R:=bK) XK rfl (by decide) mi;obtain ⟨e5,fx,tN,rfl,qN⟩:=τ.HF (R:=bg.rep) bg.opens rfl (by decide) b4;exact ⟨⟨eX,fU,fV,fw,e5,aoN,Tn,aoO,aoM,fx⟩,⟨⟨dc,e2,lP⟩,WB,axt,ahQ,tN,ft,jl⟩,Z,zA,aL,fi,kJ,qN,yC,dJ,eO,j_⟩
theorem adP {w:World} {g:Nat} {t:TypeId} {aA:Nat×Nat} {A:Option Addr} {c:Nat} {f:aE} (h:aQ w g (GB A c f) t aA):
  w.cell? ⟨g,0,none⟩=some (.int .i64 f.wide)∧w.cell? ⟨g,1,none⟩=some (.int .i64 f.high)∧w.cell? ⟨g,2,none⟩=some (.slice A f.aW.length c):=⟨h.cell 0,h.cell 1,h.cell 2⟩
theorem sJ {w:World} {g:Nat} {t:TypeId} {aA:Nat×Nat} {a:cc} {W:ag} (h:aQ w g (cells a W) t aA):
  w.cell? ⟨g,0,none⟩=some (.int .i64 W.field.wide)∧w.cell? ⟨g,1,none⟩=some (.int .i64 W.field.high)∧w.cell? ⟨g,2,none⟩=some (.slice a.P W.field.aW.length a.p)∧
  w.cell? ⟨g,3,none⟩=some (.slice a.B W.aU.length a.b)∧w.cell? ⟨g,4,none⟩=some (.slice a.S W.bj.length a.s)∧w.cell? ⟨g,5,none⟩=some (.slice a.M W.br.length a.m)∧w.cell? ⟨g,6,none⟩=some (.slice a.T W.ak.length a.t)∧
  w.cell? ⟨g,7,none⟩=some (.int .i64 W.next)∧w.cell? ⟨g,8,none⟩=some (.int .i64 W.now):=⟨h.cell 0,h.cell 1,h.cell 2,h.cell 3,h.cell 4,h.cell 5,h.cell 6,h.cell 7,h.cell 8⟩
end ag
open Tryz

theorem aE.jO {f:aE} {c:ax} (h:f.ground c=true):f.fe c=true:=by
 unfold aE.ground at h;rw [aQT] at h;exact h.1
namespace ag
theorem ab4 {W:ag} (h:W.field.bn≠0):W.bn=W.field.bn:=by unfold bn;rw [aQZ h]
theorem ab5 {W:ag} (h:W.field.bn=0) (ab:8<W.aU.length∨100<W.ak.length):W.bn=2:=by unfold bn;rw [aQV (by simpa using h),aQZ ab]
theorem Tv {W:ag} (h:W.field.bn=0) (ab:¬ (8<W.aU.length∨100<W.ak.length)):W.bn=if W.nU && W.oJ && W.kd then 0 else 4:=by unfold bn;rw [aQV (by simpa using h),aQV ab]
end ag
theorem ag.azY {W:ag} (h:¬ W.bj.length=W.aU.length):W.nU=false:=by unfold ag.nU;rw [aRm h];rfl
theorem ag.Xs {W:ag} {k:Nat} (av:k<W.aU.length) (h:W.xe k=false):W.nU=false:=by
 unfold ag.nU;rw [aUd];right;rw [aTM];exact ⟨k,aRt.2 av,by rw [h];simp⟩
theorem ag.ai7 {W:ag} (h:W.bj.length=W.aU.length) (ha:∀ k,k<W.aU.length→W.xe k=true):W.nU=true:=by
 unfold ag.nU;rw [aRi h,aTP,aRD];exact λ k av=>ha k (aRt.1 av)
theorem ag.ayG {W:ag} (h:¬ W.br.length=W.field.aW.length):W.oJ=false:=by unfold ag.oJ;rw [aRm h];rfl
theorem ag.aix {W:ag} {k:Nat} (av:k<W.br.length) (h:W.xf k=false):W.oJ=false:=by
 unfold ag.oJ;rw [aUd];right;rw [aTM];exact ⟨k,aRt.2 av,by rw [h];simp⟩
theorem ag.aiy {W:ag} (h:W.br.length=W.field.aW.length) (ha:∀ k,k<W.br.length→W.xf k=true):W.oJ=true:=by
 unfold ag.oJ;rw [aRi h,aTP,aRD];exact λ k av=>ha k (aRt.1 av)
theorem ag.ua {W:ag} {k:Nat} (av:k<W.ak.length) (h:W.xg k=false):W.kd=false:=by
 unfold ag.kd;rw [aUd];left;rw [aTM];exact ⟨k,aRt.2 av,by rw [h];simp⟩
def gT (id:Int) (t:bg):Bool:=t.id == id
def ql (p:ax) (t:bg):Bool:=decide (t.spot=p)
def aD1 (W:ag) (p:bg→Bool):Int:=if W.bn=0 then max (gb p W.ak) 0 else 0
def alq (W:ag) (p:bg→Bool):Bool:=decide (W.bn=0) && decide (0≤gb p W.ak)
def ayW (c:ax) (r:Int) (t:bg):Bool:=cL c.x (t.spot.x - r) (t.spot.x+r) && cL c.y (t.spot.y - r) (t.spot.y+r)
def aM4 (W:ag) (c:ax) (r:Int):List Int:=(W.ak.filter (ayW c r)).map (·.id)
def aM3 (W:ag) (r:Int):Int:=if W.bn≠0 then W.bn else if cL r 0 12 then 0 else 1
theorem UR {W:ag} (h:W.bn=0):W.field.bn=0∧W.aU.length≤8∧W.ak.length≤100∧W.nU=true∧W.oJ=true∧W.kd=true:=by
 by_cases γ:W.field.bn=0
 ·by_cases ab:8<W.aU.length∨100<W.ak.length
  ·rw [ag.ab5 γ ab] at h;cases h
  ·rw [ag.Tv γ ab] at h;split at h
   ·rename_i aw
    rw [aQT,aQT] at aw;exact ⟨γ,by omega,by omega,aw.1.1,aw.1.2,aw.2⟩
   ·cases h
 ·rw [ag.ab4 γ] at h;exact absurd h γ
theorem O8 {W:ag} (h:W.bn=0) {k:Nat} {t:bg} (aD:W.ak[k]? =some t):W.field.ground t.spot=true∧cL t.kind 1 2=true∧cL t.owner 0 ((W.aU.length:Int) - 1)=true∧cL t.cY 1 (ag.ju t.kind)=true∧cL t.load 0 (ag.AG t.kind)=true∧(W.iO k).contains t.spot=false∧cL t.id (wrap64 (W.jt k+1)) (wrap64 (W.next - 1))=true:=by
 obtain ⟨aF,_,_,_,_,cb⟩:=UR h;unfold ag.kd at cb;rw [aQT,aRD] at cb;have av:=(aQM.1 aD).1;have d':=cb.1 k (aRt.2 av);unfold ag.xg ag.LR at d';rw [aQK,aD] at d';simp only [aRU,aQT,aR4] at d';obtain ⟨⟨⟨⟨⟨⟨cj,a2⟩,a3⟩,a4⟩,a5⟩,Gc⟩,NQ⟩:=d';exact ⟨a4,cj,a3,a5,Gc,NQ,a2⟩
open Tryz

theorem aiA {W:ag} (h:W.bn=0):1≤W.next∧W.next≤1000000∧0≤W.now∧W.now≤1000000:=by
 obtain ⟨_,_,_,_,_,cb⟩:=UR h;unfold ag.kd at cb;rw [aQT,aQT] at cb;have a:=kv cb.2.1;have b:=kv cb.2.2;exact ⟨a.1,a.2,b.1,b.2⟩
theorem wrap_small {x:Int} (γ: -1000≤x) (ab:x≤2000000):wrap64 x=x:=by
 have h:=aT5 x;unfold wrap64;first | (rw [h];omega) | omega
theorem awF {W:ag} (h:W.bn=0):∀ (k:Nat) (t:bg),W.ak[k]? =some t→W.jt k<t.id∧t.id<W.next∧0≤W.jt k:=by
 obtain ⟨EW,tY,_,_⟩:=aiA h;intro k;induction k with
 | zero =>
  intro t aD;have d':=kv (O8 h aD).2.2.2.2.2.2;have e:W.jt 0=0:=rfl;rw [e] at d' ⊢;rw [wrap_small (by omega) (by omega),wrap_small (by omega) (by omega)] at d';omega
 | succ k bt =>
  intro t aD;have bA:=(aQM.1 aD).1;obtain ⟨u,hu⟩:=hG (l:=W.ak) (i:=k) (by omega);have gI:=bt u hu;have d':=kv (O8 h aD).2.2.2.2.2.2;have e:W.jt (k+1)=u.id:=by
   unfold ag.jt;rw [aQV (by omega),aQK,aUx,hu];rfl
  rw [e] at d' ⊢;rw [wrap_small (by omega) (by omega),wrap_small (by omega) (by omega)] at d';omega
open Tryz
structure NN (f:aE) (jU:Nat) (t:bg):Prop where
 kind:t.kind=1∨t.kind=2
 owner:0≤t.owner∧t.owner<(jU:Int)
 ground:f.ground t.spot=true
 cY:1≤t.cY∧t.cY≤ag.ju t.kind
 load:0≤t.load∧t.load≤ag.AG t.kind
structure Good (W:ag):Prop where
 field:W.field.bn=0
 jU:W.aU.length≤8
 eg:W.ak.length≤100
 sl:W.bj.length=W.aU.length
 aU:∀ (i:Nat) c,W.aU[i]? =some c→W.field.ground c=true∧(W.aU.take i).contains c=false
 bj:∀ (i:Nat) s,W.bj[i]? =some s→0≤s∧s≤1000000
 xd:W.br.length=W.field.aW.length
 br:∀ (i:Nat) m,W.br[i]? =some m→0≤m∧m≤1000000∧(m≤0∨W.field.aW.getD i 0=3)
 ak:∀ (i:Nat) t,W.ak[i]? =some t→NN W.field W.aU.length t
 ids:∀ (i:Nat) t,W.ak[i]? =some t→W.jt i<t.id∧t.id<W.next∧0≤W.jt i
 iO:∀ (i:Nat) t,W.ak[i]? =some t→(W.iO i).contains t.spot=false
 next:1≤W.next∧W.next≤1000000
 now:0≤W.now∧W.now≤1000000
theorem Good.vy {W:ag} (h:W.bn=0):Good W:=by
 obtain ⟨aF,gI,wO,hp,hm,aD⟩:=UR h;obtain ⟨EW,tY,pM,rD⟩:=aiA h;unfold ag.nU at hp;unfold ag.oJ at hm;rw [aQT,aRD] at hp hm;have sg:W.bj.length=W.aU.length:=by simpa using hp.1
 have Ew:W.br.length=W.field.aW.length:=by simpa using hm.1
 refine ⟨aF,gI,wO,sg,λ i c hc=> ?_,λ i s hs=> ?_,Ew,λ i m ar=> ?_,λ i t ar=> ?_,λ i t ar=>awF h i t ar,λ i t ar=>(O8 h ar).2.2.2.2.2.1,⟨EW,tY⟩,⟨pM,rD⟩⟩
 ·have bA:=(aQM.1 hc).1;have:=hp.2 i (aRt.2 bA);unfold ag.xe at this;rw [aQK,hc] at this;simp only [aRU,aQT,aR4] at this;exact ⟨this.1.1,this.1.2⟩
 ·have bA:=(aQM.1 hs).1;have:=hp.2 i (aRt.2 (by omega));unfold ag.xe at this;rw [aQT] at this;have ab:=kv this.2;rw [aQK,hs] at ab;exact ab
 ·have bA:=(aQM.1 ar).1;have:=hm.2 i (aRt.2 bA);unfold ag.xf at this;rw [aQK,ar,aQT,aRv] at this;have ab:=kv this.1;refine ⟨ab.1,ab.2, ?_⟩;rcases this.2 with aw | aw
  ·exact .inl (by simpa using aw)
  ·exact .inr (by simpa using aw)
 ·obtain ⟨cj,a2,a3,a4,a5,_,_⟩:=O8 h ar;have eZ:=kv a2;have gm:=kv a3;have zM:=kv a4;have Jo:=kv a5;exact ⟨by omega,⟨gm.1,by omega⟩,cj,zM,Jo⟩
theorem Good.bn {W:ag} (h:Good W):W.bn=0:=by
 have hp:W.nU=true:=ag.ai7 h.sl λ k av=>by
  obtain ⟨c,hc⟩:=hG av;obtain ⟨s,hs⟩:=hG (l:=W.bj) (i:=k) (by rw [h.sl];exact av);unfold ag.xe;rw [aQK,hc,aQK,hs];have γ:=h.aU k c hc;have ab:=h.bj k s hs;simp only [aRU];rw [γ.1,γ.2,oB ab.1 ab.2];rfl
 have hm:W.oJ=true:=ag.aiy h.xd λ k av=>by
  obtain ⟨m,hm⟩:=hG av;have γ:=h.br k m hm;unfold ag.xf;rw [aQK,hm];simp only [aRU];rw [oB γ.1 γ.2.1,aTP,aRv];rcases γ.2.2 with aw | aw
  ·exact .inl (by simpa using aw)
  ·exact .inr (by simpa using aw)
 have aD:W.kd=true:=by
  unfold ag.kd;rw [oB h.next.1 h.next.2,oB h.now.1 h.now.2,Bool.and_true,Bool.and_true,aRD];intro k av;obtain ⟨t,aD⟩:=hG (aRt.1 av);have γ:=h.ak k t aD;have ab:=h.ids k t aD;have aw:=h.iO k t aD;have hn:=h.next;unfold ag.xg ag.LR;rw [aQK,aD];simp only [aRU];have dJ:cL t.kind 1 2=true:=by
   rcases γ.kind with h | h
   ·exact oB (by omega) (by omega)
   ·exact oB (by omega) (by omega)
  have eO:cL t.id (W.jt k+1) (W.next - 1)=true:=oB (by omega) (by omega);have j_:cL t.owner 0 ((W.aU.length:Int) - 1)=true:=oB γ.owner.1 (by have:=γ.owner.2;omega);rw [wrap_small (by omega) (by omega),wrap_small (by omega) (by omega),dJ,eO,j_,aw,γ.ground,oB γ.cY.1 γ.cY.2,oB γ.load.1 γ.load.2];rfl
 rw [ag.Tv h.field (by have:=h.jU;have:=h.eg;omega),hp,hm,aD];rfl
open Tryz
structure bq (w:World) (aC:Nat) (a:ag.cc) (W:ag):Prop where
 P:bK.aG 3 8 w aC (τ.ae a.P) a.P a.p W.field.aW
 B:ax.rep.aG 49 16 w aC (τ.ae a.B) a.B a.b W.aU
 S:bK.aG 3 8 w aC (τ.ae a.S) a.S a.s W.bj
 M:bK.aG 3 8 w aC (τ.ae a.M) a.M a.m W.br
 T:bg.rep.aG 66 56 w aC (τ.ae a.T) a.T a.t W.ak
 apart:(τ.ae a.P++τ.ae a.B++τ.ae a.S++τ.ae a.M++τ.ae a.T).Nodup
 nums:eP W.field.wide∧eP W.field.high∧eP W.next∧eP W.now
theorem bq.has {w:World} {B:Nat} {a:ag.cc} {W:ag} (h:bq w B a W):ag.Has w a W:=⟨h.P.has,h.B.has,h.S.has,h.M.has,h.T.has,h.nums⟩
theorem bq.later {w w':World} {B:Nat} {a:ag.cc} {W:ag} (h:bq w B a W) (Φ:Below w.heap.size w w'):bq w' B a W:=⟨h.P.later Φ,h.B.later Φ,h.S.later Φ,h.M.later Φ,h.T.later Φ,h.apart,h.nums⟩
def bq.b_ (a:ag.cc):List Nat:=τ.ae a.P++τ.ae a.B++τ.ae a.S++τ.ae a.M++τ.ae a.T
theorem bq.lt {w:World} {B:Nat} {a:ag.cc} {W:ag} (h:bq w B a W):∀ g∈bq.b_ a,B≤g∧g<w.heap.size:=by
 intro g aM;unfold bq.b_ at aM;simp only [aQ0] at aM;rcases aM with (((aM | aM) | aM) | aM) | aM
 ·exact h.P.lt g aM
 ·exact h.B.lt g aM
 ·exact h.S.lt g aM
 ·exact h.M.lt g aM
 ·exact h.T.lt g aM
theorem bq.other {w:World} {B:Nat} {a:ag.cc} {W:ag} (h:bq w B a W) {p:Addr} (hp:p.block∉bq.b_ a) (u:Value):bq (w.setCell p u) B a W:=by
 unfold bq.b_ at hp;simp only [aQ0,not_or] at hp;exact ⟨h.P.other hp.1.1.1.1 u,h.B.other hp.1.1.1.2 u,h.S.other hp.1.1.2 u,h.M.other hp.1.2 u,h.T.other hp.2 u,h.apart,h.nums⟩
theorem HC {w:World} {B:Nat} {A:Option Addr} {α:Type} {R:τ α} {E by_ c:Nat} {l:List α} (h:R.aG E by_ w B (τ.ae A) A c l) {g:Nat} (aM:g<B):g∉τ.ae A:=λ hm=>by have:=h.lt g hm;omega
theorem C4 {w:World} {g:Nat} {dc e2 ft jl rJ qw rK sK vK:Value} {t:TypeId} {aA:Nat×Nat} (h:aQ w g [dc,e2,ft,jl,rJ,qw,rK,sK,vK] t aA):w.cell? ⟨g,0,none⟩=some dc∧w.cell? ⟨g,1,none⟩=some e2∧w.cell? ⟨g,2,none⟩=some ft∧w.cell? ⟨g,3,none⟩=some jl∧w.cell? ⟨g,4,none⟩=some rJ∧w.cell? ⟨g,5,none⟩=some qw∧w.cell? ⟨g,6,none⟩=some rK∧w.cell? ⟨g,7,none⟩=some sK∧w.cell? ⟨g,8,none⟩=some vK :=
 ⟨h.cell 0,h.cell 1,h.cell 2,h.cell 3,h.cell 4,h.cell 5,h.cell 6,h.cell 7,h.cell 8⟩
theorem NT {er js:List Nat} {n m:Nat} (γ:er.Nodup∧∀ g∈er,g<n) (ab:js.Nodup) (aw:∀ g∈js,n≤g∧g<m) (aJU:n≤m):(er++js).Nodup∧∀ g∈er++js,g<m:=by
 refine ⟨aRA.2 ⟨γ.1,ab,λ a ha b Φ e=> ?_⟩,λ g aM=> ?_⟩
 ·have:=γ.2 a ha;have:=(aw b Φ).1;omega
 ·rcases aQ0.1 aM with aM | aM
  ·have:=γ.2 g aM;omega
  ·exact (aw g aM).2
theorem uS (A:Option Addr):(τ.ae A).Nodup:=by cases A<;>simp [τ.ae]
theorem ayY {w:World} {g:Nat} {z0 kE z2 z3 z4 z5 aEu aEv aEw:Value} {t:TypeId} {aA:Nat×Nat} (h:aQ w g [z0,kE,z2,z3,z4,z5,aEu,aEv,aEw] t aA) (dc e2 ft jl rJ qw rK sK vK:Value):aQ (((((((((w.setCell ⟨g,0,none⟩ dc).setCell ⟨g,1,none⟩ e2).setCell ⟨g,2,none⟩ ft).setCell ⟨g,3,none⟩ jl).setCell ⟨g,4,none⟩ rJ).setCell ⟨g,5,none⟩ qw).setCell ⟨g,6,none⟩ rK).setCell ⟨g,7,none⟩ sK).setCell ⟨g,8,none⟩ vK) g [dc,e2,ft,jl,rJ,qw,rK,sK,vK] t aA :=
 (((((((((h.set 0 dc).set 1 e2).set 2 ft).set 3 jl).set 4 rJ).set 5 qw).set 6 rK).set 7 sK).set 8 vK)
theorem bq.nine {w:World} {aC:Nat} {a:ag.cc} {W:ag} {g:Nat} (h:bq w aC a W) (aM:g∉bq.b_ a) (dc e2 ft jl rJ qw rK sK vK:Value):bq (((((((((w.setCell ⟨g,0,none⟩ dc).setCell ⟨g,1,none⟩ e2).setCell ⟨g,2,none⟩ ft).setCell ⟨g,3,none⟩ jl).setCell ⟨g,4,none⟩ rJ).setCell ⟨g,5,none⟩ qw).setCell ⟨g,6,none⟩ rK).setCell ⟨g,7,none⟩ sK).setCell ⟨g,8,none⟩ vK) aC a W :=
 (((((((((h.other (p:=⟨g,0,none⟩) aM dc).other (p:=⟨g,1,none⟩) aM e2).other (p:=⟨g,2,none⟩) aM ft).other (p:=⟨g,3,none⟩) aM jl).other (p:=⟨g,4,none⟩) aM rJ).other (p:=⟨g,5,none⟩) aM qw).other (p:=⟨g,6,none⟩) aM rK).other (p:=⟨g,7,none⟩) aM sK).other (p:=⟨g,8,none⟩) aM vK)
theorem aor {w0 w:World} {aC g:Nat} (h:Below aC w0 w) (aM:aC≤g) (dc e2 ft jl rJ qw rK sK vK:Value):Below aC w0 (((((((((w.setCell ⟨g,0,none⟩ dc).setCell ⟨g,1,none⟩ e2).setCell ⟨g,2,none⟩ ft).setCell ⟨g,3,none⟩ jl).setCell ⟨g,4,none⟩ rJ).setCell ⟨g,5,none⟩ qw).setCell ⟨g,6,none⟩ rK).setCell ⟨g,7,none⟩ sK).setCell ⟨g,8,none⟩ vK):=
 (((((((((h.setCell (p:=⟨g,0,none⟩) aM dc).setCell (p:=⟨g,1,none⟩) aM e2).setCell (p:=⟨g,2,none⟩) aM ft).setCell (p:=⟨g,3,none⟩) aM jl).setCell (p:=⟨g,4,none⟩) aM rJ).setCell (p:=⟨g,5,none⟩) aM qw).setCell (p:=⟨g,6,none⟩) aM rK).setCell (p:=⟨g,7,none⟩) aM sK).setCell (p:=⟨g,8,none⟩) aM vK)
def aaf (w lL:World) (di:Option Addr) (nT:Nat) (W:ag) (fw:Option Addr) (fN:Nat) (e5:Option Addr) (fA tY:Nat):Prop :=
 ∃ (eM:Option Addr) (mb:Nat) (e1:Option Addr) (mD pM rD:Nat),aQ lL w.heap.size [.int .i64 W.field.wide, .int .i64 W.field.high, .slice di W.field.aW.length nT, .slice eM W.aU.length mb, .slice e1 W.bj.length mD, .slice fw W.br.length fN, .slice e5 W.ak.length fA, .int .i64 W.next, .int .i64 W.now] 28 (0,0)∧
  aQ lL (w.heap.size+1) [.int .i64 0, .int .i64 0, .slice none 0 0, .slice none 0 0, .slice none 0 0, .slice none 0 0, .slice none 0 0, .int .i64 0, .int .i64 0] 28 (0,0)∧bK.aG 3 8 lL w.heap.size (τ.ae di) di nT W.field.aW∧ax.rep.aG 49 16 lL tY (τ.ae eM) eM mb W.aU∧bK.aG 3 8 lL pM (τ.ae e1) e1 mD W.bj∧
  (∀ g∈τ.ae eM,tY≤g∧g<pM)∧(∀ g∈τ.ae e1,pM≤g∧g<rD)∧Below w.heap.size w lL∧tY≤pM∧pM≤rD∧rD=lL.heap.size
open Tryz
open Tryz

namespace τ
variable {α:Type} {R:τ α}
theorem asO {β:Type} {size:Nat} {X:List (List β)} {i:Nat} {es:List β} (BU:∀ x∈X,x.length=size) (ar:i<X.length):(X.set i es).flatten=X.flatten.take (i * size)++es++X.flatten.drop (i * size+size):=by
 rw [aUD,aQZ ar,aS2,aRB,O0 i BU,Uw (i+1) BU,aSq,aRp]
theorem aCl {β:Type} {cur es:List β} {p n k:Nat} (av:es.length=k) (γ:p+k≤n) (ab:n≤cur.length):(cur.take p++es++cur.drop (p+k)).take n=(cur.take n).take p++es++(cur.take n).drop (p+k):=by
 apply aSm;intro j;subst av;simp only [aRq,aVF,aQU,aQP,aRR]
 grind
theorem aG.ajS {E by_ B c i g:Nat} {f:List Nat} {l:List α} {w:World} {q':α} {es:List Value} {cur:Array Value} (h:R.aG E by_ w B f (some ⟨g,0,none⟩) c l) (hp:R.v7) (ar:i<l.length) (I:∀ w,R.has w es q') (tH:w.heap[g]? =some (.cells cur E (0,0))):
  R.aG E by_ (w.setRow g (cur.toList.take (i * R.size)++es++cur.toList.drop (i * R.size+es.length)).toArray) B f (some ⟨g,0,none⟩) c (l.set i q')∧i * R.size+es.length≤cur.toList.length:=by
 obtain ⟨Φ,ps,rfl,hn,b1,dE⟩:=h;have G4:es.length=R.size:=R.len (I w);have az:=QE dE;have tK:ps.length=l.length:=dE.length;obtain ⟨jS,KZ⟩:=b1;obtain ⟨g',cap,BF,hv,atF,fM,Ce,rh,f_,KY,bC⟩:=KZ.resolve_left (λ bB=>nomatch bB.1);injection hv with oy Ck awu
 injection oy with oy
 injection oy with oy aKb aKc
 subst oy awu;rw [fM] at tH;injection tH with tH
 injection tH with tH
 subst tH;have hle:i * R.size+R.size≤l.length * R.size:=by rw [← aSq];exact aRx _ ar
 have VW:l.length * R.size≤c * R.size:=aRx _ Ce;have sg:BF.toList.length=c * R.size:=by rw [aSp,f_]
 obtain ⟨x,hx,K1⟩:=dE.at_ (df (l:=l) (u:=q') ar);have iL:x.1= []:=hp.2 K1;have VC:∀ y∈ps,∀ q∈y.1,q≠g:=λ y aK q I e=>by
  obtain ⟨b,Ek⟩:=dE.left y aK;rw [hp.2 Ek] at I;simp at I
 have a_:(ps.set i (x.1,es)).map (·.1)=ps.map (·.1):=by
  rw [aRY];have:(ps.map (·.1))[i]? =some x.1:=by rw [aQ4,hx];rfl
  obtain ⟨ab,aw⟩:=aQM.1 this
  conv=>lhs;rw [← aw]
  exact aSy _
 have bh:(ps.set i (x.1,es)).map (·.2)=(ps.map (·.2)).set i es:=by rw [aRY]
 have afm:=asO (es:=es) az (by rw [aRz];omega:i<(ps.map (·.2)).length);rw [G4];refine ⟨⟨by rw [aQS];exact Φ,ps.set i (x.1,es),by rw [a_],hn,⟨?_, .inr ⟨g,c,(BF.toList.take (i * R.size)++es++BF.toList.drop (i * R.size+R.size)).toArray,by rw [aQS],atF, ?_,by rw [aQS];exact Ce,rh, ?_, ?_, ?_⟩⟩, ?_⟩,by omega⟩
 ·rw [bh,afm,aQS];simp only [aQU,aQP,aQ6,jS,G4];omega
 ·exact aQ.setRow (cur:=BF.toList) (by simpa [aQ] using fM) _
 ·rw [aSc];simp only [aQU,aQP,aQ6,sg,G4];omega
 ·rw [aQS,bh,afm,← KY];exact aCl G4 hle (by omega)
 ·intro j u hu;rw [aUb] at hu;by_cases γ:j<i * R.size
  ·refine bC j u ?_;rw [aRp,aQ5 (by rw [aQP];omega),aRq,aQZ γ] at hu;rw [← aRT];exact hu
  ·by_cases ab:j<i * R.size+R.size
   ·rw [aRp,aQ8 (by rw [aQP];omega),aQ5 (by rw [aQP];omega),aQP] at hu;have ay:j % R.size=j - i * R.size:=by
     have aw:j=R.size * i+(j - i * R.size):=by rw [aR3];omega
     have bF:(j - i * R.size) % R.size=j - i * R.size:=aR5 (by omega)
     conv=>lhs;rw [aw,aTu,bF]
    rw [ay];exact R.vD (I w) _ u (by rw [aSd (by omega)] at hu;exact hu)
   ·refine bC j u ?_;rw [aQ8 (by simp only [aQU,aQP];omega),aRR] at hu;rw [← aRT];rw [show i * R.size+R.size+(j - (List.take (i * R.size) BF.toList++es).length)=j from by simp only [aQU,aQP];omega] at hu;exact hu
 ·have Vn:c0 (λ x a=>R.own (w.setRow g (BF.toList.take (i * R.size)++es++BF.toList.drop (i * R.size+R.size)).toArray) B x.1 x.2 a) ps l:=dE.imp λ y a aK P6=>R.sy P6 λ q I=>(Mod.setRow w g _).block q (R.vz P6 q I).2 (by simpa using VC y aK q I);exact Vn.X0 (P:=λ (x:List Nat×List Value) a=>R.own _ B x.1 x.2 a) (by rw [iL];exact hp.1 (I _))
end τ
section
variable {P:Program} {n:Nat} {E cR:List (Nat×Value)} {a:Act} {w w' w0 aP:World} {Q:Exit→Act→World→Prop} {ops:Array Oper} {v:Value}
variable {d:Option Nat} {ty:TypeId} {pos:String} {af:Array Edge} {g:Option (Nat×Bool)} {x y z:Operand} {t:TypeId} {rest:List Oper}
theorem Md {α:Type} {R:τ α} {e by_ B i:Nat} {A:Option Addr} {c:Nat} {l:List α} {q':α} {p:Addr} {es:List Value} (h:R.aG e by_ w B (τ.ae A) A c l) (hR:R.v7) (ar:i<l.length) (hx:ev E x=some (.pointer (some p))) (hp:p=⟨eM A,kb A+i * R.size,none⟩) (aK:ev E y=some v) (hc:v.cells=es.toArray)
  (I:∀ w,R.has w es q') (hs:eF P t es.length)
  (av:∀ aP,Mod (τ.ae A) w aP→R.aG e by_ aP B (τ.ae A) A c (l.set i q')→cE P n ops Q rest E aP):cE P n ops Q (⟨none, .store t x y,ty,pos,af,none⟩::rest) E w:=by
 obtain ⟨b,rfl⟩:=h.block (by omega);have KN:p=⟨b,i * R.size,none⟩:=by rw [hp];simp [eM,kb]
 subst KN;obtain ⟨_,ps,_,_,b1,_⟩:=id h;obtain ⟨cur,tH,_,_⟩:=b1.ab1;obtain ⟨rr,hle⟩:=τ.aG.ajS (q':=q') h hR ar I tH;have hQ:=XQ (P:=P) (w:=w) (b:=b) (p:=i * R.size) (cur:=cur.toList) (e:=e) (by simpa [aQ] using tH) hc hs (aRD.2 (R.one (I w))) hle;refine us (λ n a ha=> ?_) (av _ (Mod.setRow w b _) rr);simp only [execOp,ha.ev hx,ha.ev aK,Instr.storeAt,Instr.sureAddr,aQY,aQ3,aQR,hQ]
def Xr (A:Option Addr) (aGO:Nat):Option Addr:=A
theorem XS {A:Option Addr} {len cap e s:Nat} {k:IntKind} (ar m:Nat) {i:Int} (aD:P.underlying t=some (.slice e)) (hs:eF P e s) (hx:ev E x=some (.slice A len cap)) (aK:ev E y=some (.int k i)) (γ:i=(ar:Int)) (ab:ar≤cap) (hm:m=ar):cN P E ⟨d, .slice t x none (some y) none,ty,pos,af,g⟩ w (.slice (Xr A ar) m cap) w:=λ n a ha=>by
 subst γ;subst hm;have γ:P.underlying t=some (.slice (P.elem t)):=by simp [Program.elem,aD]
 have mC:P.elem t=e:=by simp [Program.elem,aD]
 have aw:=run_slice_h (P:=P) (w:=w) t A len cap γ k (m:Int) (by omega) (by omega);have aX:=aTl (P:=P) (w:=w) t (.slice A len cap) none (some (.int k (m:Int))) none γ;rw [mC,hs w] at aw;simp only [execOp,ha.ev hx,ha.ev aK,Option.map,aX,aw,aQY,aQR,aQ3,sliced,aRI,Nat.sub_zero];unfold Xr;cases A with
 | none=>simp
 | some a=>simp [Addr.add]
end
theorem τ.aI.pre {α:Type} {R:τ α} {by_ c:Nat} {A:Option Addr} {l:List α} {w:World} (h:R.aI by_ w A c l) (k:Nat):R.aI by_ w (Xr A k) c (l.take k):=h.H0 k
open Tryz
section
variable {P:Program} {n:Nat} {E:List (Nat×Value)} {w:World} {Q:Exit→Act→World→Prop} {ops:Array Oper} {aZ:Nat→Nat}
def Zg (P:Program) (ops:Array Oper) (Q:Exit→Act→World→Prop) (aZ:Nat→Nat) (aFo aFp:List Nat):Exit→Act→World→Prop :=
 gW (λ a w=>uo P ops (gW (Q .normal)) aZ aFo a w∧uo P ops (gW (Q .normal)) aZ aFp a w)
theorem ajt {id:Nat} (mq:List (Nat×Nat)) (bZ:List Nat) (i:Nat) (ze:List Nat) (j:Nat) (Dh:List Nat) (hm:P.follows .mixedOrders=true)
  (bc:(Region.noSelect ops && (bZ.length+(ze.length+1)== ops.size) && (ze.length == Dh.length) && Nat.blt 1 (oC mq i) && Nat.blt 1 (oC mq j) && Ea ops (oC mq) bZ (Array.replicate ops.size false) && (Region.ready .any ops (yZ bZ (Array.replicate ops.size false))== [i,j]) && j4 ops (oC mq) ze ((yZ bZ (Array.replicate ops.size false)).setIfInBounds i true) && j4 ops (oC mq) Dh ((yZ bZ (Array.replicate ops.size false)).setIfInBounds j true))=true)
  (h:jG P n ops (Zg P ops Q (oC mq) (i::ze) (j::Dh)) (oC mq) bZ E w):W P n (.region id ops true) Q E w:=λ a ha=>by
 simp only [aQT,aRK,aUv] at bc;obtain ⟨⟨⟨⟨⟨⟨⟨⟨hs,az⟩,hlen⟩,ar⟩,ay⟩,γ⟩,hr⟩,ab⟩,aw⟩:=bc;refine wp_mono (aUE hm (Q:=gW (Q .normal)) ?_) (λ e a w I=>by cases e<;>first | exact I | exact I.elim);have:=S1 (P:=P) hs (Q:=gW (Q .normal)) (λ _ _ _ h=>h) (m:=ze.length+1) bZ (Array.replicate ops.size false) a w (by simp) γ (h a ha) (λ a w0 fM=>by
  have fM:uo P ops (gW (Q .normal)) (oC mq) (i::ze) a w0∧uo P ops (gW (Q .normal)) (oC mq) (j::Dh) a w0:=fM w0 (Ext.bI w0);refine ⟨λ aF=>(by rw [hr] at aF;cases aF),λ q I=> ?_⟩;rw [hr] at I;have I:q=i∨q=j:=by simpa using I
  rcases I with rfl | rfl
  ·obtain ⟨⟨o,b1,h⟩,_⟩:=fM;rcases h with ⟨av,_⟩ | ⟨av,_⟩ | ⟨av,h⟩
   ·omega
   ·omega
   ·exact ⟨o,b1, .inr ⟨av,λ w hw=>aS4 (λ a' w' aw=>⟨aw.1,DU hs (λ _ _ _ h=>h) ze _ _ _ (by simp [XY]) ab aw.2⟩) (h w hw)⟩⟩
  ·obtain ⟨_,⟨o,b1,h⟩⟩:=fM;rcases h with ⟨av,_⟩ | ⟨av,_⟩ | ⟨av,h⟩
   ·omega
   ·omega
   ·exact ⟨o,b1, .inr ⟨av,λ w hw=>aS4 (λ a' w' bF=>⟨bF.1,by rw [hlen];exact DU hs (λ _ _ _ h=>h) Dh _ _ _ (by simp [XY]) aw bF.2⟩) (h w hw)⟩⟩)
 rw [az] at this;exact Bx _ _ _ _ this _ (aRe _ w).drew
theorem adT {ze Dh:List Nat} (γ:jG P n ops Q aZ ze E w) (ab:jG P n ops Q aZ Dh E w):N n (Zg P ops Q aZ ze Dh) E w:=λ a ha=>⟨γ a ha,ab a ha⟩
end
open Tryz
section
def jM (ro:Option Nat):Fence:= {Fence.wide with round:=ro}
section
variable {P:Program} {ro:Option Nat} {m:Nat} {ops:Array Oper} {Q:Exit→Act→World→Prop} {w:World}
theorem abZ {f:FuncId} {args:Array Value} {R:Ending→World→Prop} (h:Calls P f args w R):CallsIn (jM ro) m P f args w R:=(callsIn_wide (n:=m)).2 h
theorem aA5 {row:String} {args:Array Value} {R:Value→World→Prop} (h:Rows P row args w R):RowsIn (jM ro) m P row args w R:=λ c cs _ =>
 let ⟨v,w',r,s⟩:=h c cs;⟨v,w',r,stepsIn_wide.2 s⟩
def CB (o:Oper):Bool:=match o.op with
 | .defer _=>false
 | _=>true
theorem aiU {o:Oper} {a:Act} {K:Act→World→Prop} (hd:CB o=true) (h:o.wp P a w K Q):o.wpIn (jM ro) m P a w K Q:=by
 refine ⟨λ _ _=>trivial, ?_⟩;have hs:o.semAt (jM ro).round a.eval=execOp a.eval o:=aTS _ _ _ (λ c e=>by simp [CB,e] at hd);rw [hs];unfold Oper.wp at h;generalize (execOp a.eval o).run P w=r at *
 cases r with
 | ok x w' =>
  cases x<;>simp only [Oper.upon] at h<;>simp only [Oper.uponIn] <;>
   first
    | exact h
    | exact h.elim
    | exact ⟨λ h=>by simp [jM,Fence.wide] at h,abZ h⟩
    | exact ⟨λ h=>by simp [jM,Fence.wide] at h,aA5 h⟩
 | halt x w'=>cases x<;>simp only [Oper.upon] at h<;>simp only [Oper.uponIn]<;>first | exact h | exact h.elim
theorem WK:∀ (l:List Oper) {a:Act} {w:World},l.all CB=true→wpList P ops Q l a w→(∀ c a w,¬ Q (.panic c) a w)→¬ LetsOut Q→wpListIn (jM ro) m P ops Q l a w
 | [],a,w,_,h,_,_=>by unfold wpList at h;unfold wpListIn;exact h
 | o::rest,a,w,hd,h,hp,b1=>by
  rw [List.all_cons,aQT] at hd;unfold wpList at h;unfold wpListIn;split at h
  ·rename_i hw
   rw [aQZ hw];rcases h with h | ⟨h,x⟩
   ·exact Oper.wpIn_mono (λ a w h=>WK rest hd.2 h hp b1) (aiU hd.1 h)
   ·exact (b1 x).elim
  ·rename_i hw
   rw [aQV hw];exact ⟨λ _ _=>trivial,WK rest hd.2 h hp b1⟩
theorem aD2 {i:Nat} {K:Act→World→Prop} {a:Act} {w:World} (hd:ops.toList.all CB=true) (b1:¬ LetsOut Q) (h:wpOp P ops Q i K a w):wpOpIn (jM ro) m P ops Q i K a w:=by
 unfold wpOp at h;unfold wpOpIn;split at h
 ·rename_i ar;simp only [ar];exact h
 ·rename_i o ar
  simp only [ar];have auO:CB o=true:=aRD.1 hd o (by rw [Array.mem_toList_iff];exact Array.mem_of_getElem? ar);split at h
  ·rename_i hw
   rw [aQZ hw];rcases h with h | ⟨h,x⟩
   ·exact aiU auO h
   ·exact (b1 x).elim
  ·rename_i hw
   rw [aQV hw];exact ⟨λ _ _=>trivial,h⟩
theorem abe (hd:ops.toList.all CB=true) (b1:¬ LetsOut Q):∀ (f:Nat) (l:Array Bool) {a:Act} {w:World},wpAny P .any ops Q f l a w→wpAnyIn (jM ro) m P .any ops Q f l a w
 | 0,l,a,w,h=>h
 | f+1,l,a,w,h=>⟨h.1,λ i ar=>wpOpIn_mono (λ a w h=>abe hd b1 f _ h) (aD2 hd b1 (h.2 i ar))⟩
end
theorem aiE {K:Act→World→Prop}:∀ c a w,¬ gW K (.panic c) a w:=λ _ _ _ h=>h
theorem aiD {K:Act→World→Prop}:¬ LetsOut (gW K):=λ ⟨_,_,h⟩=>h
theorem aiC {K:Exit→Act→World→Prop}:∀ e a w,gW (K .normal) e a w→K e a w:=λ e a w h=>by cases e<;>first | exact h | exact h.elim
namespace Rd
section
variable {P:Program} {ro:Option Nat} {m n:Nat} {ops:Array Oper} {Q:Exit→Act→World→Prop} {w w0:World} {E cR:List (Nat×Value)} {id P7:Nat} {c:Operand} {x y:Code} {i j:Int} {bZ:List Nat} {v:Value}
def W (ro:Option Nat) (m:Nat) (P:Program) (n:Nat) (c:Code) (Q:Exit→Act→World→Prop) (E:List (Nat×Value)) (w:World):Prop:=∀ a,ek n E a→c.wpIn (jM ro) m P Q a w
abbrev M (n:Nat) (Q:Exit→Act→World→Prop) (E:List (Nat×Value)) (w:World):Prop:=N n (gW (Q .normal)) E w
abbrev qU (ro:Option Nat) (m:Nat) (P:Program) (y:Code) (Q:Exit→Act→World→Prop):Exit→Act→World→Prop:=Exit.then (λ a w=>y.wpIn (jM ro) m P Q a w) Q
theorem aB (h:W ro m P n x (qU ro m P y Q) E w):W ro m P n (.seq x y) Q E w:=λ a ha=>wpIn_seq (h a ha)
theorem e6 (h:M n Q E w):W ro m P n .skip Q E w:=λ a ha=>wpIn_skip (h a ha)
theorem rt (h:T n Q E w):W ro m P n .ret Q E w:=λ a ha=>wpIn_ret (h a ha)
theorem dN (h:X n Q id E w):W ro m P n (.exit id) Q E w:=λ a ha=>wpIn_exit (h a ha)
theorem bR (h:W ro m P n x (Exit.inBlock id Q) E w):W ro m P n (.block id x) Q E w:=λ a ha=>wpIn_block (h a ha)
theorem rg {l:List Oper} (h:cE P n l.toArray (gW (Q .normal)) l E w) (hd:l.all CB=true:=by kernel_rfl):W ro m P n (.region id l.toArray false) Q E w:=λ a ha=>Go.wpIn_mono (aVd (WK l hd (h a ha) aiE aiD)) aiC
theorem dT {b:Bool} (hc:ev E c=some (.bool b)) (γ:b=true→W ro m P n x Q E w) (ab:b=false→W ro m P n y Q E w):W ro m P n (.cond c x y) Q E w :=
 λ a ha=>wpIn_cond_split (ha.ev hc) (λ h=>γ h a ha) (λ h=>ab h a ha)
theorem ef (hc:ev E c=some (.bool (decide (i<j)))) (γ:i<j→W ro m P n x Q E w) (ab:¬ i<j→W ro m P n y Q E w):W ro m P n (.cond c x y) Q E w:=dT hc (λ h=>γ (aR2 h)) (λ h=>ab (aTc h))
theorem eH (hc:ev E c=some (.bool (i != j))) (γ:¬ i=j→W ro m P n x Q E w) (ab:i=j→W ro m P n y Q E w):W ro m P n (.cond c x y) Q E w:=dT hc (λ h=>γ (by simpa using h)) (λ h=>ab (by simpa using h))
theorem aV (h:W ro m P n y Q E w):M n (qU ro m P y Q) E w:=h
theorem ne {fn:Func} {R:Ending→World→Prop} (h:T n (bodyPost P fn R) E w):M n (bodyPost P fn R) E w:=λ a ha=>h a ha
theorem bX (h:M n Q E w):M n (Exit.inBlock id Q) E w:=h
theorem dL (h:X n Q id E w):X n (qU ro m P y Q) id E w:=h
theorem dK (h:M n Q E w):X n (Exit.inBlock id Q) id E w:=λ a ha=>by simp only [Exit.inBlock,aSk];exact h a ha
theorem bN (h:T n Q E w):T n (qU ro m P y Q) E w:=h
theorem fg {c:Code} (kl:Nat→List (Nat×Value)→World→Prop) (k:Nat) (cR:List (Nat×Value)) (aF:kl k cR w) (hs:Sub cR E)
  (round:∀ k E w,kl k E w→W ro m P n c (Exit.then (NA n kl k) Q) E w):W ro m P n (.loop c) Q E w:=λ a ha=>by
 intro b Hi cs awc Φ hr;have key:∀ k a w,(∃ E,kl k E w∧ek n E a)→∃ e a' w',Q e a' w'∧ArrivesIn (Machine.fenced P (jM ro)) P (lone (b.atR a (.code c:: .inLoop c::Hi)) cs w) b Hi cs e a' w':=by
  intro k;induction k using Nat.strongRecOn with
  | _ k bt =>
   intro a w ⟨E,kP,ha⟩;obtain ⟨e,cj,aP,I,pq⟩:=round k E w kP a ha b (.inLoop c::Hi) cs awc Φ hr;cases e with
   | normal =>
    obtain ⟨m',bA,U1⟩:=I;obtain ⟨bh,a2,cr,w1,Vp⟩:=bt m' bA cj aP U1;exact ⟨bh,a2,cr,w1, .of_steps (StepsIn.trans pq (.one (fenced_calm Φ hr Z) stepR_inLoop)) Vp⟩
   | exit id=>exact ⟨_,cj,aP,I, .pass (x:= .inLoop c) rfl (λ _ _=> .inl (by simp)) pq⟩
   | goto l=>exact ⟨_,cj,aP,I, .pass (x:= .inLoop c) rfl (λ _ _=> .inl (by simp)) pq⟩
   | ret=>exact ⟨_,cj,aP,I, .pass (x:= .inLoop c) rfl (λ _ _=> .inl (by simp)) pq⟩
   | panic apn=>exact ⟨_,cj,aP,I, .pass (x:= .inLoop c) rfl (λ _ _=> .inl (by simp)) pq⟩
   | outgrown=>exact ⟨_,cj,aP,I, .pass (x:= .inLoop c) rfl (λ _ _=> .inl (by simp)) pq⟩
 obtain ⟨e,a',w',I,pq⟩:=key k a w ⟨cR,aF,ha.sub hs⟩;exact ⟨e,a',w',I, .of_steps (.one (fenced_calm Φ hr Z) stepR_loop) pq⟩
theorem c' {kl:Nat→List (Nat×Value)→World→Prop} {k:Nat} (k':Nat) (cR:List (Nat×Value)) (h:kl k' cR w) (hm:k'<k) (hs:Sub cR E):M n (Exit.then (NA n kl k) Q) E w :=
 λ a ha=>⟨k',hm,cR,h,ha.sub hs⟩
theorem rd (mq:List (Nat×Nat)) (bZ:List Nat) (hm:P.follows .mixedOrders=true) (bc:(Region.noSelect ops && (bZ.length == ops.size) && j4 ops (oC mq) bZ (Array.replicate ops.size false))=true)
  (h:jG P n ops (gW (Q .normal)) (oC mq) bZ E w) (hd:ops.toList.all CB=true:=by kernel_rfl):W ro m P n (.region id ops true) Q E w:=λ a ha=>by
 simp only [aQT,aRK] at bc;obtain ⟨⟨hs,az⟩,bc⟩:=bc;refine Go.wpIn_mono (wpIn_region_any hm (Q:=gW (Q .normal)) (abe hd aiD _ _ ?_)) aiC;have:=DU (P:=P) hs (Q:=gW (Q .normal)) aiE bZ (Array.replicate ops.size false) a w (by simp) bc (h a ha);rw [az] at this;exact Bx _ _ _ _ this _ (aRe _ w).drew
theorem abc {l:List Value} (az:Nat.ble l.length n=true):ek n (By 0 l) {tmps:=l.toArray++Array.replicate (n - l.toArray.size) undef,defers:= []}:=by
 refine ⟨Z, ?_,λ t v hv=> ?_⟩
 ·have:=aSR az;simp only [aTN,aVH,aSc];omega
 ·obtain ⟨j,e,ay⟩:=S2 l 0 t v hv;have bA:=(aQM.1 ay).1;rw [aVc (by simp;omega)];simpa [show t=j by omega] using ay
theorem cd {f:FuncId} {fn:Func} {c:Code} {l:List Value} {R:Ending→World→Prop} (hf:P.funcs[f]? =some fn) (Φ:fn.body=some c) (hn:fn.ntmps=n) (az:Nat.ble l.length n=true)
  (h:W none m P n c (bodyPostM (jM none) m P fn R) (By 0 l) w):Calls P f l.toArray w R:=by
 have γ:CallsIn (jM none) m P f l.toArray w R:=callsIn_of_wp_marks hf Φ trivial (by rw [hn];exact h _ (abc az)) rfl;exact (callsIn_wide (n:=m)).1 γ
theorem apd {f:FuncId} {fn:Func} {c:Code} {l:List Value} {R:Ending→World→Prop} (hf:P.funcs[f]? =some fn) (Φ:fn.body=some c) (hn:fn.ntmps=n) (az:Nat.ble l.length n=true)
  (h:W none m P n c (bodyPost P fn R) (By 0 l) w):CallsIn (jM none) m P f l.toArray w R :=
 callsIn_of_wp hf Φ trivial (by rw [hn];exact h _ (abc az)) rfl
theorem bb {fn:Func} {R:Ending→World→Prop} {vs:List Value} (h:wm P E w fn.results.toList vs) (hR:R (.returned (ub vs)) w):T n (bodyPostM (jM none) m P fn R) E w :=
 λ a ha=>by
  show LeavesInM _ _ _ _ _ _ a.defers _ _;rw [ha.d];exact ⟨_,XP h ha,hR⟩
end
end Rd
namespace oe
section
variable {P:Program} {ro:Option Nat} {m n:Nat} {ops:Array Oper} {Q:Exit→Act→World→Prop} {w w' w0:World} {E cR:List (Nat×Value)} {id:Nat} {v:Value}
variable {d:Option Nat} {ty:TypeId} {pos:String} {af:Array Edge} {g:Option (Nat×Bool)} {x y z:Operand} {t:TypeId} {rest:List Oper}
def cE (ro:Option Nat) (m:Nat) (P:Program) (n:Nat) (ops:Array Oper) (Q:Exit→Act→World→Prop) (l:List Oper) (E:List (Nat×Value)) (w:World):Prop:=∀ a,ek n E a→wpListIn (jM ro) m P ops Q l a w
theorem rg {l:List Oper} (h:cE ro m P n l.toArray Q l E w):Rd.W ro m P n (.region id l.toArray false) Q E w:=λ a ha=>aVd (h a ha)
theorem nl (h:Rd.M n Q E w):cE ro m P n ops Q [] E w:=h
theorem h6 {d:Nat} {op:Op} (hr:cN P E ⟨some d,op,ty,pos,af,none⟩ w v w') (hd:Nat.blt d n=true) (h:cE ro m P n ops Q rest ((d,v)::E) w'):cE ro m P n ops Q (⟨some d,op,ty,pos,af,none⟩::rest) E w:=λ a ha=>by
 have jR:=hr n a ha;unfold wpListIn;rw [aQZ (by simp [Region.wanted])];refine ⟨λ _ _=>trivial, ?_⟩;have hs:(⟨some d,op,ty,pos,af,none⟩:Oper).semAt (jM ro).round a.eval=execOp a.eval ⟨some d,op,ty,pos,af,none⟩:=aTS _ _ _ (λ c e=>by
  have e:op= .defer c:=e;subst e;simp only [execOp,aQY,aQ3] at jR;revert jR;generalize (resolve a.eval c ty).run P w=r;cases r<;>simp [Result.andThen])
 rw [hs,jR];exact h _ (ha.put hd v)
theorem aEr {d:Nat} {l:Nat} {xs:Array Operand} {ts:Array TypeId} {args:List Value} (hx:ev E x=some (.func (.yield l) #[] #[])) (he:g_ E xs.toList=some args) (hd:Nat.blt d n=true)
  (h:YieldAt (jM ro) (m - 1) P l args.toArray w λ e w'=>∃ v,e= .returned v∧cE ro m P n ops Q rest ((d,v)::E) w'):cE ro m P n ops Q (⟨some d, .call {callee:= .value x,args:=xs,argTypes:=ts},ty,pos,af,none⟩::rest) E w:=λ a ha=>by
 obtain ⟨fn,tmps,assign,body,aK,hR⟩:=h;unfold wpListIn;rw [aQZ (by simp [Region.wanted])];refine ⟨λ _ _=>trivial, ?_⟩;have hs:(⟨some d, .call {callee:= .value x,args:=xs,argTypes:=ts},ty,pos,af,none⟩:Oper).semAt (jM ro).round a.eval=execOp a.eval ⟨some d, .call {callee:= .value x,args:=xs,argTypes:=ts},ty,pos,af,none⟩:=aTS _ _ _ (λ c e=>by cases e);have hm:xs.map a.eval=args.toArray:=by rw [← ha.g_ he];apply aSh;simp
 have jR:(execOp a.eval ⟨some d, .call {callee:= .value x,args:=xs,argTypes:=ts},ty,pos,af,none⟩).run P w= .ok (.round l fn tmps assign body) w:=by
  unfold execOp;simp only [resolve,invoke,Deferred.ofValue,ha.ev hx,callFunc,aQY,aQ3,aQR,hm,aTE];first
   | exact aK
   | simpa using aK
 rw [hs,jR];refine ⟨λ h=>by simp [jM,Fence.wide] at h,hR.mono λ e w' he=> ?_⟩;obtain ⟨v,rfl,h⟩:=he;exact h _ (ha.put hd v)
end
end oe
def mark (D:Nat):List Deferred:= [{target:= .collected D,args:=#[]}]
def wd (ds:List Deferred) (a:Act):Act:= {a with defers:=ds}
theorem aln (ds:List Deferred) (a:Act) (d:Option Nat) (v:Value):(wd ds a).put d v=wd ds (a.put d v):=by cases d<;>rfl
theorem YL (ds:List Deferred) (a:Act):(wd ds a).eval=a.eval:=by funext x;cases x<;>rfl
def zl (w:World) (D:Nat):Prop:=w.heap[D]? =some (.deferred (some []))
theorem zl.lt {D:Nat} {w:World} (h:zl w D):D<w.heap.size:=(aRl.1 h).1
theorem zl.later {D:Nat} {w w':World} (h:zl w D) (x:Ext w w'):zl w' D:=(x.block D h.lt).trans h
def Yp (w:World) (D:Nat):World:=w.putObj D (.deferred none)
theorem zl.un {D:Nat} {w:World} (h:zl w D):Mod [D] w (Yp w D):=by
 have:=Mod.grown (grownBy_putObj' w D (.deferred none));exact this
namespace gz
section
variable {P:Program} {ds:List Deferred} {m n:Nat} {ops:Array Oper} {Q:Exit→Act→World→Prop} {w w' w0:World} {E cR:List (Nat×Value)} {id:Nat} {v:Value}
variable {d:Option Nat} {ty:TypeId} {pos:String} {af:Array Edge} {g:Option (Nat×Bool)} {x y z:Operand} {t:TypeId} {rest:List Oper} {c:Operand} {dH tr:Code} {i j:Int}
def W (ds:List Deferred) (m:Nat) (P:Program) (n:Nat) (c:Code) (Q:Exit→Act→World→Prop) (E:List (Nat×Value)) (w:World):Prop:=∀ a,ek n E a→c.wpIn (jM none) m P Q (wd ds a) w
def N (ds:List Deferred) (n:Nat) (Q:Exit→Act→World→Prop) (E:List (Nat×Value)) (w:World):Prop:=∀ a,ek n E a→Q .normal (wd ds a) w
def T (ds:List Deferred) (n:Nat) (Q:Exit→Act→World→Prop) (E:List (Nat×Value)) (w:World):Prop:=∀ a,ek n E a→Q .ret (wd ds a) w
def cE (ds:List Deferred) (m:Nat) (P:Program) (n:Nat) (ops:Array Oper) (Q:Exit→Act→World→Prop) (l:List Oper) (E:List (Nat×Value)) (w:World):Prop:=∀ a,ek n E a→wpListIn (jM none) m P ops Q l (wd ds a) w
theorem aB (h:W ds m P n dH (Rd.qU none m P tr Q) E w):W ds m P n (.seq dH tr) Q E w:=λ a ha=>wpIn_seq (h a ha)
theorem e6 (h:N ds n Q E w):W ds m P n .skip Q E w:=λ a ha=>wpIn_skip (h a ha)
theorem rt (h:T ds n Q E w):W ds m P n .ret Q E w:=λ a ha=>wpIn_ret (h a ha)
theorem rg {l:List Oper} (h:cE ds m P n l.toArray Q l E w):W ds m P n (.region id l.toArray false) Q E w:=λ a ha=>aVd (h a ha)
theorem nl (h:N ds n Q E w):cE ds m P n ops Q [] E w:=h
theorem aV (h:W ds m P n tr Q E w):N ds n (Rd.qU none m P tr Q) E w:=h
theorem bX (h:N ds n Q E w):N ds n (Exit.inBlock id Q) E w:=h
theorem bN (h:T ds n Q E w):T ds n (Rd.qU none m P tr Q) E w:=h
theorem dT {b:Bool} (hc:ev E c=some (.bool b)) (γ:b=true→W ds m P n dH Q E w) (ab:b=false→W ds m P n tr Q E w):W ds m P n (.cond c dH tr) Q E w :=
 λ a ha=>wpIn_cond_split (by rw [YL];exact ha.ev hc) (λ h=>γ h a ha) (λ h=>ab h a ha)
theorem eH (hc:ev E c=some (.bool (i != j))) (γ:¬ i=j→W ds m P n dH Q E w) (ab:i=j→W ds m P n tr Q E w):W ds m P n (.cond c dH tr) Q E w:=dT hc (λ h=>γ (by simpa using h)) (λ h=>ab (by simpa using h))
theorem ayZ {o:Oper} {a:Act} {v:Value} (h:(execOp a.eval o).run P w= .ok (.value v) w'):∀ c,o.op≠ .defer c:=λ c e=>by
 unfold execOp at h;rw [e] at h;simp only [aQY,aQ3] at h;revert h;generalize (resolve a.eval c o.type).run P w=r;cases r<;>simp [Result.andThen]
theorem h6 {d:Nat} {op:Op} (hr:cN P E ⟨some d,op,ty,pos,af,none⟩ w v w') (hd:Nat.blt d n=true) (h:cE ds m P n ops Q rest ((d,v)::E) w'):cE ds m P n ops Q (⟨some d,op,ty,pos,af,none⟩::rest) E w:=λ a ha=>by
 have jR:=hr n a ha;unfold wpListIn;rw [aQZ (by simp [Region.wanted])];refine ⟨λ _ _=>trivial, ?_⟩;rw [YL,aTS _ _ _ (ayZ jR),jR];show wpListIn _ _ _ _ _ _ _ _;rw [aln];exact h _ (ha.put hd v)
theorem ca {d:Nat} {f:FuncId} (hf:Enters P f) {xs:Array Operand} {ts:Array TypeId} {args:List Value} (he:g_ E xs.toList=some args) (hd:Nat.blt d n=true)
  (h:Calls P f args.toArray w λ e w'=>∃ v,e= .returned v∧cE ds m P n ops Q rest ((d,v)::E) w'):cE ds m P n ops Q (⟨some d, .call {callee:= .value (.func f),args:=xs,argTypes:=ts},ty,pos,af,none⟩::rest) E w:=λ a ha=>by
 unfold wpListIn;rw [aQZ (by simp [Region.wanted])];refine ⟨λ _ _=>trivial, ?_⟩;rw [YL,aTS _ _ _ (λ c e=>by cases e),L5 hf ha he];refine ⟨λ h=>by simp [jM,Fence.wide] at h,CallsIn.mono (abZ h) λ e w' fM=> ?_⟩;obtain ⟨v,rfl,h⟩:=fM;show wpListIn _ _ _ _ _ _ _ _;rw [aln];exact h _ (ha.put hd v)
theorem bb {D:Nat} {fn:Func} {R:Ending→World→Prop} {vs:List Value} (hK:zl w D) (h:wm P E (Yp w D) fn.results.toList vs) (hR:R (.returned (ub vs)) (Yp w D)):T (mark D) n (bodyPostM (jM none) m P fn R) E w :=
 λ a ha=>by
  have hr:=XP (a:=a) h ha;exact ⟨by simp, .inl ⟨D,_,rfl,run_takeDeferred hK,_,hr,hR⟩⟩
end
end gz
def zF (b c:Nat) (W h':World):Prop:=h'.heap[b]? =W.heap[b]? ∧h'.heap[c]? =W.heap[c]?
theorem zF.t_ {b c:Nat} {X Y aC:World} (h:zF b c X Y) (k:zF b c Y aC):zF b c X aC:=⟨k.1.trans h.1,k.2.trans h.2⟩
theorem Mod.ahK {S:List Nat} {W h':World} {B:Nat} (h:Mod S W h') (hS:∀ q∈S,q<W.heap.size→∃ cur e aA,W.heap[q]? =some (.cells cur e aA)):KeepsFrom B W h' :=
 ⟨h.size,λ k o _ av b1=>by
  by_cases hm:k∈S
  ·obtain ⟨cur,e,aA,hc⟩:=hS k hm (aRl.1 av).1;rw [hc] at av;injection av with av
   subst av;exact nomatch b1
  ·exact (h.block k (aRl.1 av).1 hm).trans av⟩
theorem Mod.axg {S:List Nat} {W X Y:World} {b c:Nat} (h:Mod S W X) (k:Mod S W Y) (Φ:b<W.heap.size∧c<W.heap.size) (γ:b∉S) (ab:c∉S):zF b c X Y :=
 ⟨(k.block b Φ.1 γ).trans (h.block b Φ.1 γ).symm,(k.block c Φ.2 ab).trans (h.block c Φ.2 ab).symm⟩
def xY (B:Nat) (w0 w:World):Prop:=KeepsFrom B w0 w
theorem xY.bI (B:Nat) (w:World):xY B w w:=KeepsFrom.refl B w
theorem xY.later {B:Nat} {w0 w w':World} (h:xY B w0 w) (x:Ext w w'):xY B w0 w':=KeepsFrom.trans h ((Mod.bD (S:= []) x).ahK λ q I=>nomatch I)
theorem xY.mod {B:Nat} {w0 w w':World} {S:List Nat} (h:xY B w0 w) (m:Mod S w w') (hS:∀ q∈S,∃ cur e aA,w.heap[q]? =some (.cells cur e aA)):xY B w0 w':=KeepsFrom.trans h (m.ahK λ q I _=>hS q I)
theorem τ.aG.Oj {α:Type} {R:τ α} {e by_ B c:Nat} {A:Option Addr} {l:List α} {w:World} (h:R.aG e by_ w B (τ.ae A) A c l):∀ q∈τ.ae A,∃ cur e aA,w.heap[q]? =some (.cells cur e aA):=by
 obtain ⟨_,ps,_,_,⟨_,b1⟩,_⟩:=h;rcases b1 with ⟨γ,_⟩ | ⟨g,cap,cur,γ,_,ab,_⟩
 ·injection γ with γ;subst γ;intro q I;exact nomatch I
 ·injection γ with γ;subst γ;intro q I
  obtain rfl:=aQJ.1 I;exact ⟨_,_,_,ab⟩
structure DB {α:Type} (B:Nat) (iX:List α→World→Prop) (pre:List α) (w:World):Prop where
 SX:AbidesFrom B iX
 at_:iX pre w
theorem DB.later {α:Type} {B:Nat} {iX:List α→World→Prop} {pre:List α} {w w':World} (h:DB B iX pre w) (x:Ext w w'):DB B iX pre w' :=
 ⟨h.SX,h.SX _ _ _ none h.at_ ⟨x.os,x.tape,x.output,x.size,λ k av _=>x.block k av⟩ λ r e=>nomatch e⟩
theorem aQ.Qb {b:Nat} {cs:List Value} {e:TypeId} {aA:Nat×Nat} {w w':World} (h:aQ w b cs e aA) (k:w'.heap[b]? =w.heap[b]?):aQ w' b cs e aA:=k.trans h
theorem aEs {F:Fence} {m:Nat} {P:Program} {l:Nat} {args:Array Value} {W:World} {R R':Ending→World→Prop} (h:YieldAt F m P l args W R) (hr:∀ e w,R e w→R' e w):YieldAt F m P l args W R':=by
 obtain ⟨fn,tmps,assign,body,aK,hR⟩:=h;exact ⟨fn,tmps,assign,body,aK,hR.mono hr⟩
theorem aEt {P Q:Prop} {e:Ending} (h:(e= .returned (.bool true)∧P)∨(e= .returned (.bool false)∧Q)):∃ b,e= .returned (.bool b)∧(b=true→P)∧(b=false→Q):=by
 rcases h with ⟨h,p⟩ | ⟨h,q⟩
 ·exact ⟨true,h,λ _=>p,(λ h=>nomatch h)⟩
 ·exact ⟨false,h,(λ h=>nomatch h),λ _=>q⟩
theorem asG {q k:Nat} (av:k<q):(List.finRange q).take k++ [⟨k,av⟩]=(List.finRange q).take (k+1):=by
 rw [aRh (by simpa using av)];simp
section
variable {P:Program} {n:Nat} {E cR:List (Nat×Value)} {w:World} {d:Option Nat} {ty:TypeId} {pos:String} {af:Array Edge} {g:Option (Nat×Bool)} {x y z u:Operand} {t:TypeId}
theorem aBg {A:Option Addr} {len cap e s:Nat} {k:IntKind} (lo:Nat) {i:Int} (aD:P.underlying t=some (.slice e)) (hs:eF P e s) (hx:ev E x=some (.slice A len cap)) (aK:ev E y=some (.int k i)) (γ:i=(lo:Int)) (ab:lo≤len):
  cN P E ⟨d, .slice t x (some y) none none,ty,pos,af,g⟩ w (.slice (e1 A cap lo s) (len - lo) (cap - lo)) w:=λ n a ha=>by
 subst γ;have la:P.underlying t=some (.slice (P.elem t)):=by simp [Program.elem,aD]
 have mC:P.elem t=e:=by simp [Program.elem,aD]
 have aw:=run_slice_l (P:=P) (w:=w) t A len cap la k (lo:Int) (by omega) (by omega);have aX:=aTl (P:=P) (w:=w) t (.slice A len cap) (some (.int k (lo:Int))) none none la;rw [mC,hs w] at aw;simp only [execOp,ha.ev hx,ha.ev aK,Option.map,aX,aw,aQY,aQR,aQ3,sliced,aRI,e1]
theorem aBf {A:Option Addr} {len cap e s:Nat} {k k' eO:IntKind} (lo ar n:Nat) {i j Wt:Int} (aD:P.underlying t=some (.slice e)) (hs:eF P e s) (hx:ev E x=some (.slice A len cap)) (aK:ev E y=some (.int k i)) (bB:ev E z=some (.int k' j)) (hu:ev E u=some (.int eO Wt)) (Aj:i=(lo:Int)) (Eu:j=(ar:Int)) (au1:Wt=(ar:Int)) (γ:lo≤ar) (ab:ar≤cap) (hn:n=ar - lo):
  cN P E ⟨d, .slice t x (some y) (some z) (some u),ty,pos,af,g⟩ w (.slice (e1 A ar lo s) n n) w:=λ h4 a ha=>by
 subst Aj;subst Eu;subst au1;subst hn;have la:P.underlying t=some (.slice (P.elem t)):=by simp [Program.elem,aD]
 have mC:P.elem t=e:=by simp [Program.elem,aD]
 have aw:=run_slice_lhm (P:=P) (w:=w) t A len cap la k k' eO (lo:Int) (ar:Int) (ar:Int) (by omega) (by omega) (by omega) (by omega);have aX:=aTl (P:=P) (w:=w) t (.slice A len cap) (some (.int k (lo:Int))) (some (.int k' (ar:Int))) (some (.int eO (ar:Int))) la;rw [mC,hs w] at aw;simp only [execOp,ha.ev hx,ha.ev aK,ha.ev bB,ha.ev hu,Option.map,aX,aw,aQY,aQR,aQ3,sliced,aRI,e1]
end
theorem τ.aI.chunk {α:Type} {R:τ α} {by_ c:Nat} {A:Option Addr} {l:List α} {w:World} (h:R.aI by_ w A c l) (lo ar:Nat) (γ:lo<ar) (ab:ar≤l.length):R.aI by_ w (e1 A ar lo R.size) (ar - lo) ((l.drop lo).take (ar - lo)):=by
 have hs:=h.sub lo ar (by omega) ab;have hc:=h.1;have rh:=h.2.1;have e:e1 A ar lo R.size=e1 A c lo R.size:=by unfold e1;rw [aQV (by omega),aQV (by omega)]
 rw [e];obtain ⟨g1,g2,g3,g4,g5⟩:=hs;refine ⟨by rw [aQP];omega,by omega,g3,λ hn=> ?_,g5⟩;have:=g4 hn;omega
namespace Rd
theorem bI {α:Type} {P:Program} {m n:Nat} {Q:Exit→Act→World→Prop} {w w0:World} {E:List (Nat×Value)} {tt p:Nat} {ty:TypeId} {pos:String} {af:Array Edge} {id:Nat} {body:Code} {g:Operand} {gf:Nat} {lb:List Value} {enc:α→Value} {eZ gm:Nat} {S anG:List α→Prop} {aam:Nat}
  (aM:ev E g=some (.func (.func gf) #[] lb.toArray)) (hf:Enters P gf) (awi:SeqStopsK (jM none) (m - 1) P gf lb.toArray (λ x=>#[enc x]) (zF eZ gm) S anG aam w0) (bu:eZ<w.heap.size) (dF:gm<w.heap.size) (cx:Ext w0 w) (γ:1≤m) (hp:Nat.blt p n=true) (aD:Nat.blt tt n=true)
  (kl:List α→World→Prop) (kP:∀ s W h' S,kl s W→Mod S W h'→(∀ q∈S,w.heap.size≤q∧∀ cur e aA,W.heap[q]? ≠some (.cells cur e aA))→kl s h') (aF:kl [] w)
  (auy:∀ (l:Nat) (pre:List α) (x:α) (h':World),kl pre h'→pre.length<aam→W (some l) (m - 1 - 1) P n body (ownPostG w.heap.size (zF eZ gm) kl (λ _ _ _=>False) (pre++ [x]) h') ((tt,enc x)::(p,enc x)::E) h')
  (auP:∀ (D:Nat) (xs:List α) (h':World),w.heap.size≤D→S xs→kl xs h'→zl h' D→gz.N (mark D) n Q E h'):
  W none m P n (.rangeFunc g #[p] (.region id #[⟨some tt, .assign (.tmp p),ty,pos,af,none⟩] false) body) Q E w:=λ a ha=>by
 have atN:∀ {β:Type} (iX:β→World→Prop),(∀ s W h' S,iX s W→Mod S W h'→(∀ q∈S,w.heap.size≤q∧∀ cur e aA,W.heap[q]? ≠some (.cells cur e aA))→iX s h')→OwnFrom w.heap.size iX:=λ iX yu s X Y row hs B4 hr =>
  yu s X Y row.toList hs (Mod.grown B4) λ q I=>by
   cases row with
   | none=>exact nomatch I
   | some r =>
    obtain rfl:=aQJ.1 I;obtain ⟨bc,o,b1,hc⟩:=hr _ rfl;exact ⟨bc,λ cur e aA h=>by rw [h] at b1;injection b1 with b1;subst b1;exact nomatch hc⟩
 obtain ⟨fn,VG,Kw,VH⟩:=hf;obtain ⟨r6,aut⟩:∃ c,fn.body=some c:=by
  cases h:fn.body with
  | none=>rw [h] at VH;simp at VH
  | some c=>exact ⟨c,rfl⟩
 refine wpIn_rangeFunc_ownH (F:=jM none) Z γ (gf:=gf) (lb:=lb.toArray) (ha.ev aM) trivial (enters_of VG Kw aut) awi (λ h k=>h.t_ k) ?_ cx (λ x=>Z) kl (λ _ _ _=>False) (atN kl kP) (λ c s A B row hs aM hr=>hs.elim) aF
  (λ x a' _=>ek n ((tt,enc x)::(p,enc x)::E) a') (λ x a' s A B row hs aM hr=>hs) ?_ ?_ ?_ ?_
 ·intro h' l o HD az bP _ _;have hm:=Mod.grown (grownBy_putObj' h' l HD);exact ⟨hm.block eZ (by have:=(aRl.1 bP).1;omega) (by simp;omega),hm.block gm (by have:=(aRl.1 bP).1;omega) (by simp;omega)⟩
 ·intro l pre x h' K ar hK;have hA:ek n ((p,enc x)::E) {tmps:=(#[p].zip #[enc x]).foldl (λ t (p,v)=>t.setIfInBounds p v) a.tmps,defers:= []}:=by
   have:=ha.put hp (enc x);have e:({tmps:=(#[p].zip #[enc x]).foldl (λ t (p,v)=>t.setIfInBounds p v) a.tmps,defers:= []}:Act)=a.put (some p) (enc x):=by
    simp [Act.put,ha.d]
   rw [e];exact this
  have ab:W (some l) (m - 1 - 1) P n (.region id [(⟨some tt, .assign (.tmp p),ty,pos,af,none⟩:Oper)].toArray false) (Exit.then K (λ _ _ _=>False)) ((p,enc x)::E) h':=by
   refine oe.rg (oe.h6 (v:=enc x) (w':=h') (eY ?_) aD (oe.nl λ a' q_=>hK a' h' (KeepsFrom.refl _ _) ⟨Z,Z⟩ ar q_));show look ((p,enc x)::E) p=_;simp [look]
  exact ab _ hA
 ·intro l pre x a' h' _ _ ar hx hlen;exact auy l pre x h' ar hlen a' hx
 ·intro D xs h' u_ hS ar hK;have:=auP D xs h' u_ hS ar hK a ha;have e:({a with defers:= {target:= .collected D,args:=#[]}::a.defers}:Act)=wd (mark D) a:=by simp [wd,mark,ha.d]
  rw [e];exact this
 ·intro D c pre h' _ _ h _;exact h.elim
end Rd
end
end Go.Proofs.YtlikikpgmmkjbaaGreat
