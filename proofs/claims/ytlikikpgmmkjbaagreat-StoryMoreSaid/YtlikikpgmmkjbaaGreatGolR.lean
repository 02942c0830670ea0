import Derived.Test.YtlikikpgmmkjbaaGreatGra
import Derived.Test.YtlikikpgmmkjbaaGreatBas
import Derived.Test.YtlikikpgmmkjbaaGreatProg
import Derived.Test.YtlikikpgmmkjbaaGreatGol
import Derived.RangeFuncNested
import Derived.RangeFuncLeaves
import Derived.OrdersIn
import Derived.TacticsIn
import Derived.LoopNIn
set_option linter.unusedVariables false
set_option linter.unusedSimpArgs false
set_option maxRecDepth 100000
set_option maxHeartbeats 4000000
namespace Go.Proofs.YtlikikpgmmkjbaaGreat
end Go.Proofs.YtlikikpgmmkjbaaGreat
set_option linter.unusedVariables false
set_option linter.unusedSimpArgs false
namespace Go.Proofs.YtlikikpgmmkjbaaGreat
open Go.RowKit

structure Cel where
 x:Int
 y:Int
 deriving DecidableEq,Inhabited
namespace Cel
def cells (a:Cel):List Value:= [.int .i64 (a.x), .int .i64 (a.y)]
def ok (a:Cel):Prop:=(Lit.int .i64 a.x).wf=true∧(Lit.int .i64 a.y).wf=true
def raw (j:Nat) (u:Value):Prop:=match j with
 | 0=>∃ n:Int,u= .int .i64 n
 | 1=>∃ n:Int,u= .int .i64 n
 | _=>True
theorem cells_raw (a:Cel):∀ (j:Nat) u,a.cells[j]? =some u→raw j u:=by
 intro j u hu
 match j,hu with
 | 0,hu=>exact ⟨_,(Option.some.inj hu).symm⟩
 | 1,hu=>exact ⟨_,(Option.some.inj hu).symm⟩
 | j+2,hu=>exact trivial
theorem cells_one (a:Cel):∀ u∈a.cells,u.oneCell'=true:=by
 intro u hu
 unfold cells at hu
 simp only [List.mem_cons,List.not_mem_nil,or_false] at hu
 rcases hu with rfl | rfl<;>rfl
def rep:Rep Cel:=Rep.flat 2 cells ok raw (λ _=>rfl) cells_one cells_raw
theorem plain:rep.Plain:=Rep.flat_plain
def zero:Value:= .agg #[.int .i64 0, .int .i64 0]
theorem zero_raw:∀ (j:Nat) u,zero.cells[j]? =some u→rep.raw j u:=by
 intro j u hu
 have hu:(#[(.int .i64 0:Value),(.int .i64 0:Value)]:Array Value)[j]? =some u:=hu
 match j,hu with
 | 0,hu=>exact ⟨_,(Option.some.inj hu).symm⟩
 | 1,hu=>exact ⟨_,(Option.some.inj hu).symm⟩
 | j+2,hu=>cases hu
theorem info:(Tryz.prog.info? 49).map (λ i=>(i.zero,i.size,i.bytes))=some (some zero,2,16):=by kernel_rfl
theorem at_ {by_:Nat} {w:World} {A:Option Addr} {c:Nat} {l:List Cel} (h:rep.SHas by_ w A c l) (h0:0<l.length):
  ∃ b o,A=some ⟨b,o,none⟩∧∀ (i:Nat) (a:Cel),l[i]? =some a→w.cell? ⟨b,o+i * 2,none⟩=some (.int .i64 (a.x))∧w.cell? ⟨b,o+i * 2+1,none⟩=some (.int .i64 (a.y)):=by
 obtain ⟨b,o,e,hc⟩:=h.at_ h0
 refine ⟨b,o,e,λ i a ha=> ?_⟩
 obtain ⟨es,⟨rfl,_⟩,hj⟩:=hc i a ha
 exact ⟨hj 0 _ rfl,hj 1 _ rfl⟩
theorem all_ok {by_:Nat} {w:World} {A:Option Addr} {c:Nat} {l:List Cel} (h:rep.SHas by_ w A c l):∀ a∈l,a.ok:=Rep.SHas.all_ (R:=rep) (Q:=ok) (fun {w cs a} (h:rep.has w cs a)=>(show cs=a.cells∧a.ok from h).2) h
theorem blk {w:World} {g:Nat} {t:TypeId} {fr:Nat×Nat} {a:Cel} (h:Blk w g a.cells t fr):w.cell? ⟨g,0,none⟩=some (.int .i64 (a.x))∧w.cell? ⟨g,1,none⟩=some (.int .i64 (a.y)):=
 ⟨h.cell 0,h.cell 1⟩
def sh:Sh:=(.cons (.int .i64) (.cons (.int .i64) .nil))
theorem opens (w:World) (cs:List Value) (h:sh.Ok w cs):∃ a,rep.has w cs a:=by
 obtain ⟨_,_,rfl,_,_,⟨x0,rfl,k0⟩,⟨_,_,rfl,_,_,⟨x1,rfl,k1⟩,rfl⟩⟩:=h
 exact ⟨⟨x0,x1⟩,rfl,k0,k1⟩
end Cel
theorem hcC {w:World} {cs:List Value} {a:Cel} (h:Cel.rep.has w cs a):cs=a.cells:=And.left (show cs=a.cells∧a.ok from h)
end Go.Proofs.YtlikikpgmmkjbaaGreat
set_option linter.unusedVariables false
set_option linter.unusedSimpArgs false
namespace Go.Proofs.YtlikikpgmmkjbaaGreat
open Go.RowKit

structure Trp where
 id:Int
 owner:Int
 kind:Int
 spot:Cel
 life:Int
 load:Int
 deriving DecidableEq,Inhabited
namespace Trp
def cells (a:Trp):List Value:= [.int .i64 (a.id), .int .i64 (a.owner), .int .i64 (a.kind), .int .i64 (a.spot.x), .int .i64 (a.spot.y), .int .i64 (a.life), .int .i64 (a.load)]
def ok (a:Trp):Prop:=(Lit.int .i64 a.id).wf=true∧(Lit.int .i64 a.owner).wf=true∧(Lit.int .i64 a.kind).wf=true∧(Lit.int .i64 a.spot.x).wf=true∧(Lit.int .i64 a.spot.y).wf=true∧(Lit.int .i64 a.life).wf=true∧(Lit.int .i64 a.load).wf=true
def raw (j:Nat) (u:Value):Prop:=match j with
 | 0=>∃ n:Int,u= .int .i64 n
 | 1=>∃ n:Int,u= .int .i64 n
 | 2=>∃ n:Int,u= .int .i64 n
 | 3=>∃ n:Int,u= .int .i64 n
 | 4=>∃ n:Int,u= .int .i64 n
 | 5=>∃ n:Int,u= .int .i64 n
 | 6=>∃ n:Int,u= .int .i64 n
 | _=>True
theorem cells_raw (a:Trp):∀ (j:Nat) u,a.cells[j]? =some u→raw j u:=by
 intro j u hu
 match j,hu with
 | 0,hu=>exact ⟨_,(Option.some.inj hu).symm⟩
 | 1,hu=>exact ⟨_,(Option.some.inj hu).symm⟩
 | 2,hu=>exact ⟨_,(Option.some.inj hu).symm⟩
 | 3,hu=>exact ⟨_,(Option.some.inj hu).symm⟩
 | 4,hu=>exact ⟨_,(Option.some.inj hu).symm⟩
 | 5,hu=>exact ⟨_,(Option.some.inj hu).symm⟩
 | 6,hu=>exact ⟨_,(Option.some.inj hu).symm⟩
 | j+7,hu=>exact trivial
theorem cells_one (a:Trp):∀ u∈a.cells,u.oneCell'=true:=by
 intro u hu
 unfold cells at hu
 simp only [List.mem_cons,List.not_mem_nil,or_false] at hu
 rcases hu with rfl | rfl | rfl | rfl | rfl | rfl | rfl<;>rfl
def rep:Rep Trp:=Rep.flat 7 cells ok raw (λ _=>rfl) cells_one cells_raw
theorem plain:rep.Plain:=Rep.flat_plain
def zero:Value:= .agg #[.int .i64 0, .int .i64 0, .int .i64 0, .int .i64 0, .int .i64 0, .int .i64 0, .int .i64 0]
theorem zero_raw:∀ (j:Nat) u,zero.cells[j]? =some u→rep.raw j u:=by
 intro j u hu
 have hu:(#[(.int .i64 0:Value),(.int .i64 0:Value),(.int .i64 0:Value),(.int .i64 0:Value),(.int .i64 0:Value),(.int .i64 0:Value),(.int .i64 0:Value)]:Array Value)[j]? =some u:=hu
 match j,hu with
 | 0,hu=>exact ⟨_,(Option.some.inj hu).symm⟩
 | 1,hu=>exact ⟨_,(Option.some.inj hu).symm⟩
 | 2,hu=>exact ⟨_,(Option.some.inj hu).symm⟩
 | 3,hu=>exact ⟨_,(Option.some.inj hu).symm⟩
 | 4,hu=>exact ⟨_,(Option.some.inj hu).symm⟩
 | 5,hu=>exact ⟨_,(Option.some.inj hu).symm⟩
 | 6,hu=>exact ⟨_,(Option.some.inj hu).symm⟩
 | j+7,hu=>cases hu
theorem info:(Tryz.prog.info? 66).map (λ i=>(i.zero,i.size,i.bytes))=some (some zero,7,56):=by kernel_rfl
theorem at_ {by_:Nat} {w:World} {A:Option Addr} {c:Nat} {l:List Trp} (h:rep.SHas by_ w A c l) (h0:0<l.length):
  ∃ b o,A=some ⟨b,o,none⟩∧∀ (i:Nat) (a:Trp),l[i]? =some a→w.cell? ⟨b,o+i * 7,none⟩=some (.int .i64 (a.id))∧w.cell? ⟨b,o+i * 7+1,none⟩=some (.int .i64 (a.owner))∧w.cell? ⟨b,o+i * 7+2,none⟩=some (.int .i64 (a.kind))∧w.cell? ⟨b,o+i * 7+3,none⟩=some (.int .i64 (a.spot.x))∧w.cell? ⟨b,o+i * 7+4,none⟩=some (.int .i64 (a.spot.y))∧w.cell? ⟨b,o+i * 7+5,none⟩=some (.int .i64 (a.life))∧w.cell? ⟨b,o+i * 7+6,none⟩=some (.int .i64 (a.load)):=by
 obtain ⟨b,o,e,hc⟩:=h.at_ h0
 refine ⟨b,o,e,λ i a ha=> ?_⟩
 obtain ⟨es,⟨rfl,_⟩,hj⟩:=hc i a ha
 exact ⟨hj 0 _ rfl,hj 1 _ rfl,hj 2 _ rfl,hj 3 _ rfl,hj 4 _ rfl,hj 5 _ rfl,hj 6 _ rfl⟩
theorem all_ok {by_:Nat} {w:World} {A:Option Addr} {c:Nat} {l:List Trp} (h:rep.SHas by_ w A c l):∀ a∈l,a.ok:=Rep.SHas.all_ (R:=rep) (Q:=ok) (fun {w cs a} (h:rep.has w cs a)=>(show cs=a.cells∧a.ok from h).2) h
theorem blk {w:World} {g:Nat} {t:TypeId} {fr:Nat×Nat} {a:Trp} (h:Blk w g a.cells t fr):w.cell? ⟨g,0,none⟩=some (.int .i64 (a.id))∧w.cell? ⟨g,1,none⟩=some (.int .i64 (a.owner))∧w.cell? ⟨g,2,none⟩=some (.int .i64 (a.kind))∧w.cell? ⟨g,3,none⟩=some (.int .i64 (a.spot.x))∧w.cell? ⟨g,4,none⟩=some (.int .i64 (a.spot.y))∧w.cell? ⟨g,5,none⟩=some (.int .i64 (a.life))∧w.cell? ⟨g,6,none⟩=some (.int .i64 (a.load)):=
 ⟨h.cell 0,h.cell 1,h.cell 2,h.cell 3,h.cell 4,h.cell 5,h.cell 6⟩
def sh:Sh:=(.cons (.int .i64) (.cons (.int .i64) (.cons (.int .i64) (.cons (.cons (.int .i64) (.cons (.int .i64) .nil)) (.cons (.int .i64) (.cons (.int .i64) .nil))))))
theorem opens (w:World) (cs:List Value) (h:sh.Ok w cs):∃ a,rep.has w cs a:=by
 obtain ⟨_,_,rfl,_,_,⟨x0,rfl,k0⟩,⟨_,_,rfl,_,_,⟨x1,rfl,k1⟩,⟨_,_,rfl,_,_,⟨x2,rfl,k2⟩,⟨_,_,rfl,_,_,⟨_,_,rfl,_,_,⟨x3,rfl,k3⟩,⟨_,_,rfl,_,_,⟨x4,rfl,k4⟩,rfl⟩⟩,⟨_,_,rfl,_,_,⟨x5,rfl,k5⟩,⟨_,_,rfl,_,_,⟨x6,rfl,k6⟩,rfl⟩⟩⟩⟩⟩⟩:=h
 exact ⟨⟨x0,x1,x2,⟨x3,x4⟩,x5,x6⟩,rfl,k0,k1,k2,k3,k4,k5,k6⟩
end Trp
theorem hcT {w:World} {cs:List Value} {a:Trp} (h:Trp.rep.has w cs a):cs=a.cells:=And.left (show cs=a.cells∧a.ok from h)
end Go.Proofs.YtlikikpgmmkjbaaGreat
set_option linter.unusedVariables false
set_option linter.unusedSimpArgs false
namespace Go.Proofs.YtlikikpgmmkjbaaGreat
open Go.RowKit

structure Fld where
 wide:Int
 high:Int
 places:List Int
 deriving DecidableEq,Inhabited
structure Wd where
 field:Fld
 bases:List Cel
 stocks:List Int
 mines:List Int
 troops:List Trp
 next:Int
 now:Int
 deriving DecidableEq,Inhabited
namespace Fld
def placeOk (p:Int):Bool:=inB p 0 3
def chk (f:Fld):Int :=
 if inB f.wide 1 40 && inB f.high 1 40 then (if decide ((f.places.length:Int)=f.wide * f.high) && f.places.all placeOk then 0 else 4) else 1
def isIn (f:Fld) (c:Cel):Bool:=inB c.x 0 (f.wide - 1) && inB c.y 0 (f.high - 1)
def place (f:Fld) (c:Cel):Int:=f.places.getD (c.y * f.wide+c.x).toNat 0
def ground (f:Fld) (c:Cel):Bool:=f.isIn c && f.place c != 1
theorem good {f:Fld} (h:f.chk=0):1≤f.wide∧f.wide≤40∧1≤f.high∧f.high≤40∧(f.places.length:Int)=f.wide * f.high∧∀ p∈f.places,0≤p∧p≤3:=by
 unfold chk at h
 split at h
 ·rename_i h1
  rw [Bool.and_eq_true] at h1
  have a:=inB_true h1.1
  have b:=inB_true h1.2
  split at h
  ·rename_i h2
   rw [Bool.and_eq_true,List.all_eq_true] at h2
   exact ⟨a.1,a.2,b.1,b.2,by simpa using h2.1,λ p hp=>inB_true (h2.2 p hp)⟩
  ·cases h
 ·cases h
theorem chk_one {f:Fld} (h:(inB f.wide 1 40 && inB f.high 1 40)=false):f.chk=1:=by unfold chk;rw [h];rfl
theorem idx {f:Fld} (h:f.chk=0) {c:Cel} (hc:f.isIn c=true):0≤c.y * f.wide+c.x∧c.y * f.wide+c.x<(f.places.length:Int)∧0≤c.x∧c.x<f.wide∧0≤c.y∧c.y<f.high:=by
 obtain ⟨g1,g2,g3,g4,g5,_⟩:=good h
 unfold isIn at hc
 rw [Bool.and_eq_true] at hc
 have a:=inB_true hc.1
 have b:=inB_true hc.2
 have e1:0≤c.y * f.wide:=Int.mul_nonneg b.1 (by omega)
 have e2:c.y * f.wide≤(f.high - 1) * f.wide:=Int.mul_le_mul_of_nonneg_right b.2 (by omega)
 have e3:(f.high - 1) * f.wide=f.wide * f.high - f.wide:=by rw [Int.sub_mul,Int.one_mul,Int.mul_comm]
 rw [g5]
 omega
theorem len_le {f:Fld} (h:f.chk=0):f.places.length≤1600:=by
 obtain ⟨g1,g2,g3,g4,g5,_⟩:=good h
 have e2:f.wide * f.high≤40 * 40:=Int.mul_le_mul g2 g4 (by omega) (by omega)
 omega
end Fld
namespace Fld
def atE (f:Fld) (c:Cel):Int:=if f.chk≠0 then f.chk else if f.isIn c then 0 else 7
def atV (f:Fld) (c:Cel):Int:=if f.chk≠0 then 0 else if f.isIn c then f.place c else 0
theorem at_bad {f:Fld} {c:Cel} (h:f.chk≠0):f.atE c=f.chk∧f.atV c=0:=by unfold atE atV;rw [if_pos h,if_pos h];exact ⟨rfl,rfl⟩
theorem at_out {f:Fld} {c:Cel} (h:f.chk=0) (h2:f.isIn c=false):f.atE c=7∧f.atV c=0:=by unfold atE atV;simp [h,h2]
theorem at_in {f:Fld} {c:Cel} (h:f.chk=0) (h2:f.isIn c=true):f.atE c=0∧f.atV c=f.place c:=by unfold atE atV;simp [h,h2]
theorem isIn_out {f:Fld} {c:Cel} (h:c.x<0∨f.wide≤c.x∨c.y<0∨f.high≤c.y):f.isIn c=false:=by
 unfold isIn
 rcases h with h | h | h | h
 ·rw [inB_not (.inl h)];rfl
 ·rw [inB_not (n:=c.x) (.inr (by omega))];rfl
 ·rw [inB_not (n:=c.y) (.inl h),Bool.and_false]
 ·rw [inB_not (n:=c.y) (.inr (by omega)),Bool.and_false]
theorem isIn_mk {f:Fld} {c:Cel} (h1:0≤c.x) (h2:c.x<f.wide) (h3:0≤c.y) (h4:c.y<f.high):f.isIn c=true:=by
 unfold isIn
 rw [inB_mk h1 (by omega),inB_mk h3 (by omega)];rfl
end Fld
def kindOf (k:Int):Option (Int×Int×Int×Int):=if k=1 then some (10,1,1,5) else if k=2 then some (20,2,4,12) else none
namespace Wd
def okBase (W:Wd) (i:Nat):Bool:=W.field.ground (W.bases.getD i default) && !(W.bases.take i).contains (W.bases.getD i default) && inB (W.stocks.getD i 0) 0 1000000
def players (W:Wd):Bool:=decide (W.stocks.length=W.bases.length) && (List.range W.bases.length).all W.okBase
def okMine (W:Wd) (i:Nat):Bool:=inB (W.mines.getD i 0) 0 1000000 && (decide (W.mines.getD i 0≤0) || W.field.places.getD i 0 == 3)
def minesOk (W:Wd):Bool:=decide (W.mines.length=W.field.places.length) && (List.range W.mines.length).all W.okMine
def lastId (W:Wd) (i:Nat):Int:=if i=0 then 0 else (W.troops.getD (i - 1) default).id
def lifeOf (k:Int):Int:=if k=1 then 10 else if k=2 then 20 else 0
def mostOf (k:Int):Int:=if k=1 then 5 else 0
def okOne (W:Wd) (lx nx:Int) (t:Trp):Bool :=
 inB t.kind 1 2 && inB t.id lx nx && inB t.owner 0 ((W.bases.length:Int) - 1) && W.field.ground t.spot && inB t.life 1 (lifeOf t.kind) && inB t.load 0 (mostOf t.kind)
def spots (W:Wd) (k:Nat):List Cel:=(W.troops.take k).map (·.spot)
def okTroop (W:Wd) (i:Nat):Bool:=W.okOne (wrap64 (W.lastId i+1)) (wrap64 (W.next - 1)) (W.troops.getD i default) && !(W.spots i).contains (W.troops.getD i default).spot
def troopsOk (W:Wd):Bool:=(List.range W.troops.length).all W.okTroop && (inB W.next 1 1000000 && inB W.now 0 1000000)
def chk (W:Wd):Int :=
 if W.field.chk≠0 then W.field.chk else if 8<W.bases.length∨100<W.troops.length then 2 else if W.players && W.minesOk && W.troopsOk then 0 else 4
structure At where
 P:Option Addr
 B:Option Addr
 S:Option Addr
 M:Option Addr
 T:Option Addr
 p:Nat
 b:Nat
 s:Nat
 m:Nat
 t:Nat
def fcells (A:Option Addr) (c:Nat) (f:Fld):List Value:= [.int .i64 f.wide, .int .i64 f.high, .slice A f.places.length c]
def cells (h:At) (W:Wd):List Value :=
 [.int .i64 W.field.wide, .int .i64 W.field.high, .slice h.P W.field.places.length h.p, .slice h.B W.bases.length h.b, .slice h.S W.stocks.length h.s, .slice h.M W.mines.length h.m, .slice h.T W.troops.length h.t, .int .i64 W.next, .int .i64 W.now]
theorem cells_eq (h:At) (W:Wd):(cells h W).toArray=#[.int .i64 W.field.wide, .int .i64 W.field.high, .slice h.P W.field.places.length h.p, .slice h.B W.bases.length h.b, .slice h.S W.stocks.length h.s, .slice h.M W.mines.length h.m, .slice h.T W.troops.length h.t, .int .i64 W.next, .int .i64 W.now]:=rfl
structure Has (w:World) (h:At) (W:Wd):Prop where
 P:repI.SHas 8 w h.P h.p W.field.places
 B:Cel.rep.SHas 16 w h.B h.b W.bases
 S:repI.SHas 8 w h.S h.s W.stocks
 M:repI.SHas 8 w h.M h.m W.mines
 T:Trp.rep.SHas 56 w h.T h.t W.troops
 nums:okI W.field.wide∧okI W.field.high∧okI W.next∧okI W.now
theorem Has.keep {w w':World} {h:At} {W:Wd} (hw:Has w h W) (hb:Below w.heap.size w w'):Has w' h W :=
 ⟨hw.P.keep hb,hw.B.keep hb,hw.S.keep hb,hw.M.keep hb,hw.T.keep hb,hw.nums⟩
def fsh:Sh:= .cons (.int .i64) (.cons (.int .i64) (.cons (.slice (.int .i64) 8) .nil))
def sh:Sh:= .cons fsh (.cons (.slice Cel.sh 16) (.cons (.slice (.int .i64) 8) (.cons (.slice (.int .i64) 8) (.cons (.slice Trp.sh 56) (.cons (.int .i64) (.cons (.int .i64) .nil))))))
theorem opens (w:World) (cs:List Value) (h:sh.Ok w cs):∃ h W,cs=cells h W∧Has w h W:=by
 obtain ⟨_,_,rfl,_,_,⟨_,_,rfl,_,_,⟨x0,rfl,k0⟩,_,_,rfl,_,_,⟨x1,rfl,k1⟩,_,_,rfl,_,_,hP,rfl⟩,_,_,rfl,_,_,hB,_,_,rfl,_,_,hS,_,_,rfl,_,_,hM,_,_,rfl,_,_,hT,_,_,rfl,_,_,⟨x2,rfl,k2⟩,_,_,rfl,_,_,⟨x3,rfl,k3⟩,rfl⟩:=h
 obtain ⟨aP,cP,lP,rfl,HP⟩:=Rep.opens_slice (R:=repI) repI_opens rfl (by decide) hP
 obtain ⟨aB,cB,lB,rfl,HB⟩:=Rep.opens_slice (R:=Cel.rep) Cel.opens rfl (by decide) hB
 obtain ⟨aS,cS,lS,rfl,HS⟩:=Rep.opens_slice (R:=repI) repI_opens rfl (by decide) hS
 obtain ⟨aM,cM,lM,rfl,HM⟩:=Rep.opens_slice (R:=repI) repI_opens rfl (by decide) hM
 obtain ⟨aT,cT,lT,rfl,HT⟩:=Rep.opens_slice (R:=Trp.rep) Trp.opens rfl (by decide) hT
 exact ⟨⟨aP,aB,aS,aM,aT,cP,cB,cS,cM,cT⟩,⟨⟨x0,x1,lP⟩,lB,lS,lM,lT,x2,x3⟩,rfl,HP,HB,HS,HM,HT,k0,k1,k2,k3⟩
theorem fblk {w:World} {g:Nat} {t:TypeId} {fr:Nat×Nat} {A:Option Addr} {c:Nat} {f:Fld} (h:Blk w g (fcells A c f) t fr):
  w.cell? ⟨g,0,none⟩=some (.int .i64 f.wide)∧w.cell? ⟨g,1,none⟩=some (.int .i64 f.high)∧w.cell? ⟨g,2,none⟩=some (.slice A f.places.length c):=⟨h.cell 0,h.cell 1,h.cell 2⟩
theorem wblk {w:World} {g:Nat} {t:TypeId} {fr:Nat×Nat} {a:At} {W:Wd} (h:Blk w g (cells a W) t fr):
  w.cell? ⟨g,0,none⟩=some (.int .i64 W.field.wide)∧w.cell? ⟨g,1,none⟩=some (.int .i64 W.field.high)∧w.cell? ⟨g,2,none⟩=some (.slice a.P W.field.places.length a.p)∧
  w.cell? ⟨g,3,none⟩=some (.slice a.B W.bases.length a.b)∧w.cell? ⟨g,4,none⟩=some (.slice a.S W.stocks.length a.s)∧w.cell? ⟨g,5,none⟩=some (.slice a.M W.mines.length a.m)∧w.cell? ⟨g,6,none⟩=some (.slice a.T W.troops.length a.t)∧
  w.cell? ⟨g,7,none⟩=some (.int .i64 W.next)∧w.cell? ⟨g,8,none⟩=some (.int .i64 W.now):=⟨h.cell 0,h.cell 1,h.cell 2,h.cell 3,h.cell 4,h.cell 5,h.cell 6,h.cell 7,h.cell 8⟩
end Wd
end Go.Proofs.YtlikikpgmmkjbaaGreat
set_option linter.unusedVariables false
set_option linter.unusedSimpArgs false
namespace Go.Proofs.YtlikikpgmmkjbaaGreat
open Go.RowKit

theorem Fld.ground_in {f:Fld} {c:Cel} (h:f.ground c=true):f.isIn c=true:=by
 unfold Fld.ground at h
 rw [Bool.and_eq_true] at h
 exact h.1
namespace Wd
theorem chk_field {W:Wd} (h:W.field.chk≠0):W.chk=W.field.chk:=by unfold chk;rw [if_pos h]
theorem chk_large {W:Wd} (h:W.field.chk=0) (h2:8<W.bases.length∨100<W.troops.length):W.chk=2:=by unfold chk;rw [if_neg (by simpa using h),if_pos h2]
theorem chk_all {W:Wd} (h:W.field.chk=0) (h2:¬ (8<W.bases.length∨100<W.troops.length)):W.chk=if W.players && W.minesOk && W.troopsOk then 0 else 4:=by unfold chk;rw [if_neg (by simpa using h),if_neg h2]
end Wd
theorem Wd.players_no {W:Wd} (h:¬ W.stocks.length=W.bases.length):W.players=false:=by unfold Wd.players;rw [decide_eq_false h];rfl
theorem Wd.players_bad {W:Wd} {k:Nat} (hk:k<W.bases.length) (h:W.okBase k=false):W.players=false:=by
 unfold Wd.players
 rw [Bool.and_eq_false_iff];right
 rw [List.all_eq_false]
 exact ⟨k,List.mem_range.2 hk,by rw [h];simp⟩
theorem Wd.players_ok {W:Wd} (h:W.stocks.length=W.bases.length) (ha:∀ k,k<W.bases.length→W.okBase k=true):W.players=true:=by
 unfold Wd.players
 rw [decide_eq_true h,Bool.true_and,List.all_eq_true]
 exact λ k hk=>ha k (List.mem_range.1 hk)
theorem Wd.mines_no {W:Wd} (h:¬ W.mines.length=W.field.places.length):W.minesOk=false:=by unfold Wd.minesOk;rw [decide_eq_false h];rfl
theorem Wd.mines_bad {W:Wd} {k:Nat} (hk:k<W.mines.length) (h:W.okMine k=false):W.minesOk=false:=by
 unfold Wd.minesOk
 rw [Bool.and_eq_false_iff];right
 rw [List.all_eq_false]
 exact ⟨k,List.mem_range.2 hk,by rw [h];simp⟩
theorem Wd.mines_ok {W:Wd} (h:W.mines.length=W.field.places.length) (ha:∀ k,k<W.mines.length→W.okMine k=true):W.minesOk=true:=by
 unfold Wd.minesOk
 rw [decide_eq_true h,Bool.true_and,List.all_eq_true]
 exact λ k hk=>ha k (List.mem_range.1 hk)
theorem Wd.troops_bad {W:Wd} {k:Nat} (hk:k<W.troops.length) (h:W.okTroop k=false):W.troopsOk=false:=by
 unfold Wd.troopsOk
 rw [Bool.and_eq_false_iff];left
 rw [List.all_eq_false]
 exact ⟨k,List.mem_range.2 hk,by rw [h];simp⟩
def isId (id:Int) (t:Trp):Bool:=t.id == id
def isAt (p:Cel) (t:Trp):Bool:=decide (t.spot=p)
def whichI (W:Wd) (p:Trp→Bool):Int:=if W.chk=0 then max (idxI p W.troops) 0 else 0
def whichB (W:Wd) (p:Trp→Bool):Bool:=decide (W.chk=0) && decide (0≤idxI p W.troops)
def nearT (c:Cel) (r:Int) (t:Trp):Bool:=inB c.x (t.spot.x - r) (t.spot.x+r) && inB c.y (t.spot.y - r) (t.spot.y+r)
def nearIds (W:Wd) (c:Cel) (r:Int):List Int:=(W.troops.filter (nearT c r)).map (·.id)
def nearE (W:Wd) (r:Int):Int:=if W.chk≠0 then W.chk else if inB r 0 12 then 0 else 1
theorem good_spots {W:Wd} (h:W.chk=0):W.field.chk=0∧W.bases.length≤8∧W.troops.length≤100∧W.players=true∧W.minesOk=true∧W.troopsOk=true:=by
 by_cases h1:W.field.chk=0
 ·by_cases h2:8<W.bases.length∨100<W.troops.length
  ·rw [Wd.chk_large h1 h2] at h;cases h
  ·rw [Wd.chk_all h1 h2] at h
   split at h
   ·rename_i h3
    rw [Bool.and_eq_true,Bool.and_eq_true] at h3
    exact ⟨h1,by omega,by omega,h3.1.1,h3.1.2,h3.2⟩
   ·cases h
 ·rw [Wd.chk_field h1] at h;exact absurd h h1
theorem good_troop {W:Wd} (h:W.chk=0) {k:Nat} {t:Trp} (ht:W.troops[k]? =some t):W.field.ground t.spot=true∧inB t.kind 1 2=true∧inB t.owner 0 ((W.bases.length:Int) - 1)=true∧inB t.life 1 (Wd.lifeOf t.kind)=true∧inB t.load 0 (Wd.mostOf t.kind)=true∧(W.spots k).contains t.spot=false∧inB t.id (wrap64 (W.lastId k+1)) (wrap64 (W.next - 1))=true:=by
 obtain ⟨h0,_,_,_,_,h6⟩:=good_spots h
 unfold Wd.troopsOk at h6
 rw [Bool.and_eq_true,List.all_eq_true] at h6
 have hk:=(List.getElem?_eq_some_iff.1 ht).1
 have h7:=h6.1 k (List.mem_range.2 hk)
 unfold Wd.okTroop Wd.okOne at h7
 rw [List.getD_eq_getElem?_getD,ht] at h7
 simp only [Option.getD_some,Bool.and_eq_true,Bool.not_eq_true'] at h7
 obtain ⟨⟨⟨⟨⟨⟨a1,a2⟩,a3⟩,a4⟩,a5⟩,a6⟩,a7⟩:=h7
 exact ⟨a4,a1,a3,a5,a6,a7,a2⟩
end Go.Proofs.YtlikikpgmmkjbaaGreat
set_option linter.unusedVariables false
set_option linter.unusedSimpArgs false
namespace Go.Proofs.YtlikikpgmmkjbaaGreat
open Go.RowKit

theorem next_ok {W:Wd} (h:W.chk=0):1≤W.next∧W.next≤1000000∧0≤W.now∧W.now≤1000000:=by
 obtain ⟨_,_,_,_,_,h6⟩:=good_spots h
 unfold Wd.troopsOk at h6
 rw [Bool.and_eq_true,Bool.and_eq_true] at h6
 have a:=inB_true h6.2.1
 have b:=inB_true h6.2.2
 exact ⟨a.1,a.2,b.1,b.2⟩
theorem wrap_small {x:Int} (h1: -1000≤x) (h2:x≤2000000):wrap64 x=x:=by
 have h:=IntKind.wrap_i64 x
 unfold wrap64
 first | (rw [h];omega) | omega
theorem id_step {W:Wd} (h:W.chk=0):∀ (k:Nat) (t:Trp),W.troops[k]? =some t→W.lastId k<t.id∧t.id<W.next∧0≤W.lastId k:=by
 obtain ⟨n1,n2,_,_⟩:=next_ok h
 intro k
 induction k with
 | zero =>
  intro t ht
  have h7:=inB_true (good_troop h ht).2.2.2.2.2.2
  have e:W.lastId 0=0:=rfl
  rw [e] at h7 ⊢
  rw [wrap_small (by omega) (by omega),wrap_small (by omega) (by omega)] at h7
  omega
 | succ k ih =>
  intro t ht
  have hlt:=(List.getElem?_eq_some_iff.1 ht).1
  obtain ⟨u,hu⟩:=get_of (l:=W.troops) (i:=k) (by omega)
  have h8:=ih u hu
  have h7:=inB_true (good_troop h ht).2.2.2.2.2.2
  have e:W.lastId (k+1)=u.id:=by
   unfold Wd.lastId
   rw [if_neg (by omega),List.getD_eq_getElem?_getD,Nat.add_sub_cancel,hu];rfl
  rw [e] at h7 ⊢
  rw [wrap_small (by omega) (by omega),wrap_small (by omega) (by omega)] at h7
  omega
end Go.Proofs.YtlikikpgmmkjbaaGreat
set_option linter.unusedVariables false
set_option linter.unusedSimpArgs false
namespace Go.Proofs.YtlikikpgmmkjbaaGreat
open Go.RowKit
structure TroopOk (f:Fld) (nb:Nat) (t:Trp):Prop where
 kind:t.kind=1∨t.kind=2
 owner:0≤t.owner∧t.owner<(nb:Int)
 ground:f.ground t.spot=true
 life:1≤t.life∧t.life≤Wd.lifeOf t.kind
 load:0≤t.load∧t.load≤Wd.mostOf t.kind
structure Good (W:Wd):Prop where
 field:W.field.chk=0
 nb:W.bases.length≤8
 nt:W.troops.length≤100
 sl:W.stocks.length=W.bases.length
 bases:∀ (i:Nat) c,W.bases[i]? =some c→W.field.ground c=true∧(W.bases.take i).contains c=false
 stocks:∀ (i:Nat) s,W.stocks[i]? =some s→0≤s∧s≤1000000
 ml:W.mines.length=W.field.places.length
 mines:∀ (i:Nat) m,W.mines[i]? =some m→0≤m∧m≤1000000∧(m≤0∨W.field.places.getD i 0=3)
 troops:∀ (i:Nat) t,W.troops[i]? =some t→TroopOk W.field W.bases.length t
 ids:∀ (i:Nat) t,W.troops[i]? =some t→W.lastId i<t.id∧t.id<W.next∧0≤W.lastId i
 spots:∀ (i:Nat) t,W.troops[i]? =some t→(W.spots i).contains t.spot=false
 next:1≤W.next∧W.next≤1000000
 now:0≤W.now∧W.now≤1000000
theorem Good.of_chk {W:Wd} (h:W.chk=0):Good W:=by
 obtain ⟨h0,h8,h100,hp,hm,ht⟩:=good_spots h
 obtain ⟨n1,n2,n3,n4⟩:=next_ok h
 unfold Wd.players at hp
 unfold Wd.minesOk at hm
 rw [Bool.and_eq_true,List.all_eq_true] at hp hm
 have hsl:W.stocks.length=W.bases.length:=by simpa using hp.1
 have hml:W.mines.length=W.field.places.length:=by simpa using hm.1
 refine ⟨h0,h8,h100,hsl,λ i c hc=> ?_,λ i s hs=> ?_,hml,λ i m hi=> ?_,λ i t hi=> ?_,λ i t hi=>id_step h i t hi,λ i t hi=>(good_troop h hi).2.2.2.2.2.1,⟨n1,n2⟩,⟨n3,n4⟩⟩
 ·have hlt:=(List.getElem?_eq_some_iff.1 hc).1
  have:=hp.2 i (List.mem_range.2 hlt)
  unfold Wd.okBase at this
  rw [List.getD_eq_getElem?_getD,hc] at this
  simp only [Option.getD_some,Bool.and_eq_true,Bool.not_eq_true'] at this
  exact ⟨this.1.1,this.1.2⟩
 ·have hlt:=(List.getElem?_eq_some_iff.1 hs).1
  have:=hp.2 i (List.mem_range.2 (by omega))
  unfold Wd.okBase at this
  rw [Bool.and_eq_true] at this
  have h2:=inB_true this.2
  rw [List.getD_eq_getElem?_getD,hs] at h2
  exact h2
 ·have hlt:=(List.getElem?_eq_some_iff.1 hi).1
  have:=hm.2 i (List.mem_range.2 hlt)
  unfold Wd.okMine at this
  rw [List.getD_eq_getElem?_getD,hi,Bool.and_eq_true,Bool.or_eq_true] at this
  have h2:=inB_true this.1
  refine ⟨h2.1,h2.2, ?_⟩
  rcases this.2 with h3 | h3
  ·exact .inl (by simpa using h3)
  ·exact .inr (by simpa using h3)
 ·obtain ⟨a1,a2,a3,a4,a5,_,_⟩:=good_troop h hi
  have b2:=inB_true a2
  have b3:=inB_true a3
  have b4:=inB_true a4
  have b5:=inB_true a5
  exact ⟨by omega,⟨b3.1,by omega⟩,a1,b4,b5⟩
theorem Good.chk {W:Wd} (h:Good W):W.chk=0:=by
 have hp:W.players=true:=Wd.players_ok h.sl λ k hk=>by
  obtain ⟨c,hc⟩:=get_of hk
  obtain ⟨s,hs⟩:=get_of (l:=W.stocks) (i:=k) (by rw [h.sl];exact hk)
  unfold Wd.okBase
  rw [List.getD_eq_getElem?_getD,hc,List.getD_eq_getElem?_getD,hs]
  have h1:=h.bases k c hc
  have h2:=h.stocks k s hs
  simp only [Option.getD_some]
  rw [h1.1,h1.2,inB_mk h2.1 h2.2];rfl
 have hm:W.minesOk=true:=Wd.mines_ok h.ml λ k hk=>by
  obtain ⟨m,hm⟩:=get_of hk
  have h1:=h.mines k m hm
  unfold Wd.okMine
  rw [List.getD_eq_getElem?_getD,hm]
  simp only [Option.getD_some]
  rw [inB_mk h1.1 h1.2.1,Bool.true_and,Bool.or_eq_true]
  rcases h1.2.2 with h3 | h3
  ·exact .inl (by simpa using h3)
  ·exact .inr (by simpa using h3)
 have ht:W.troopsOk=true:=by
  unfold Wd.troopsOk
  rw [inB_mk h.next.1 h.next.2,inB_mk h.now.1 h.now.2,Bool.and_true,Bool.and_true,List.all_eq_true]
  intro k hk
  obtain ⟨t,ht⟩:=get_of (List.mem_range.1 hk)
  have h1:=h.troops k t ht
  have h2:=h.ids k t ht
  have h3:=h.spots k t ht
  have hn:=h.next
  unfold Wd.okTroop Wd.okOne
  rw [List.getD_eq_getElem?_getD,ht]
  simp only [Option.getD_some]
  have k1:inB t.kind 1 2=true:=by
   rcases h1.kind with h | h
   ·exact inB_mk (by omega) (by omega)
   ·exact inB_mk (by omega) (by omega)
  have k2:inB t.id (W.lastId k+1) (W.next - 1)=true:=inB_mk (by omega) (by omega)
  have k3:inB t.owner 0 ((W.bases.length:Int) - 1)=true:=inB_mk h1.owner.1 (by have:=h1.owner.2;omega)
  rw [wrap_small (by omega) (by omega),wrap_small (by omega) (by omega),k1,k2,k3,h3,h1.ground,inB_mk h1.life.1 h1.life.2,inB_mk h1.load.1 h1.load.2]
  rfl
 rw [Wd.chk_all h.field (by have:=h.nb;have:=h.nt;omega),hp,hm,ht]
 rfl
end Go.Proofs.YtlikikpgmmkjbaaGreat
set_option linter.unusedVariables false
set_option linter.unusedSimpArgs false
namespace Go.Proofs.YtlikikpgmmkjbaaGreat
open Go.RowKit
structure WOwn (w:World) (Z:Nat) (a:Wd.At) (W:Wd):Prop where
 P:repI.SOwn 3 8 w Z (Rep.blkOf a.P) a.P a.p W.field.places
 B:Cel.rep.SOwn 49 16 w Z (Rep.blkOf a.B) a.B a.b W.bases
 S:repI.SOwn 3 8 w Z (Rep.blkOf a.S) a.S a.s W.stocks
 M:repI.SOwn 3 8 w Z (Rep.blkOf a.M) a.M a.m W.mines
 T:Trp.rep.SOwn 66 56 w Z (Rep.blkOf a.T) a.T a.t W.troops
 apart:(Rep.blkOf a.P++Rep.blkOf a.B++Rep.blkOf a.S++Rep.blkOf a.M++Rep.blkOf a.T).Nodup
 nums:okI W.field.wide∧okI W.field.high∧okI W.next∧okI W.now
theorem WOwn.has {w:World} {B:Nat} {a:Wd.At} {W:Wd} (h:WOwn w B a W):Wd.Has w a W:=⟨h.P.has,h.B.has,h.S.has,h.M.has,h.T.has,h.nums⟩
theorem WOwn.later {w w':World} {B:Nat} {a:Wd.At} {W:Wd} (h:WOwn w B a W) (hb:Below w.heap.size w w'):WOwn w' B a W:=⟨h.P.later hb,h.B.later hb,h.S.later hb,h.M.later hb,h.T.later hb,h.apart,h.nums⟩
def WOwn.foot (a:Wd.At):List Nat:=Rep.blkOf a.P++Rep.blkOf a.B++Rep.blkOf a.S++Rep.blkOf a.M++Rep.blkOf a.T
theorem WOwn.lt {w:World} {B:Nat} {a:Wd.At} {W:Wd} (h:WOwn w B a W):∀ g∈WOwn.foot a,B≤g∧g<w.heap.size:=by
 intro g hg
 unfold WOwn.foot at hg
 simp only [List.mem_append] at hg
 rcases hg with (((hg | hg) | hg) | hg) | hg
 ·exact h.P.lt g hg
 ·exact h.B.lt g hg
 ·exact h.S.lt g hg
 ·exact h.M.lt g hg
 ·exact h.T.lt g hg
theorem WOwn.other {w:World} {B:Nat} {a:Wd.At} {W:Wd} (h:WOwn w B a W) {p:Addr} (hp:p.block∉WOwn.foot a) (u:Value):WOwn (w.setCell p u) B a W:=by
 unfold WOwn.foot at hp
 simp only [List.mem_append,not_or] at hp
 exact ⟨h.P.other hp.1.1.1.1 u,h.B.other hp.1.1.1.2 u,h.S.other hp.1.1.2 u,h.M.other hp.1.2 u,h.T.other hp.2 u,h.apart,h.nums⟩
theorem nin {w:World} {B:Nat} {A:Option Addr} {α:Type} {R:Rep α} {E by_ c:Nat} {l:List α} (h:R.SOwn E by_ w B (Rep.blkOf A) A c l) {g:Nat} (hg:g<B):g∉Rep.blkOf A:=λ hm=>by have:=h.lt g hm;omega
theorem wcells {w:World} {g:Nat} {x0 x1 x2 x3 x4 x5 x6 x7 x8:Value} {t:TypeId} {fr:Nat×Nat} (h:Blk w g [x0,x1,x2,x3,x4,x5,x6,x7,x8] t fr):w.cell? ⟨g,0,none⟩=some x0∧w.cell? ⟨g,1,none⟩=some x1∧w.cell? ⟨g,2,none⟩=some x2∧w.cell? ⟨g,3,none⟩=some x3∧w.cell? ⟨g,4,none⟩=some x4∧w.cell? ⟨g,5,none⟩=some x5∧w.cell? ⟨g,6,none⟩=some x6∧w.cell? ⟨g,7,none⟩=some x7∧w.cell? ⟨g,8,none⟩=some x8 :=
 ⟨h.cell 0,h.cell 1,h.cell 2,h.cell 3,h.cell 4,h.cell 5,h.cell 6,h.cell 7,h.cell 8⟩
theorem app_nodup {l1 l2:List Nat} {n m:Nat} (h1:l1.Nodup∧∀ g∈l1,g<n) (h2:l2.Nodup) (h3:∀ g∈l2,n≤g∧g<m) (hnm:n≤m):(l1++l2).Nodup∧∀ g∈l1++l2,g<m:=by
 refine ⟨List.nodup_append.2 ⟨h1.1,h2,λ a ha b hb e=> ?_⟩,λ g hg=> ?_⟩
 ·have:=h1.2 a ha
  have:=(h3 b hb).1
  omega
 ·rcases List.mem_append.1 hg with hg | hg
  ·have:=h1.2 g hg;omega
  ·exact (h3 g hg).2
theorem blk_nodup (A:Option Addr):(Rep.blkOf A).Nodup:=by cases A<;>simp [Rep.blkOf]
theorem nine_blk {w:World} {g:Nat} {z0 z1 z2 z3 z4 z5 z6 z7 z8:Value} {t:TypeId} {fr:Nat×Nat} (h:Blk w g [z0,z1,z2,z3,z4,z5,z6,z7,z8] t fr) (x0 x1 x2 x3 x4 x5 x6 x7 x8:Value):Blk (((((((((w.setCell ⟨g,0,none⟩ x0).setCell ⟨g,1,none⟩ x1).setCell ⟨g,2,none⟩ x2).setCell ⟨g,3,none⟩ x3).setCell ⟨g,4,none⟩ x4).setCell ⟨g,5,none⟩ x5).setCell ⟨g,6,none⟩ x6).setCell ⟨g,7,none⟩ x7).setCell ⟨g,8,none⟩ x8) g [x0,x1,x2,x3,x4,x5,x6,x7,x8] t fr :=
 (((((((((h.set 0 x0).set 1 x1).set 2 x2).set 3 x3).set 4 x4).set 5 x5).set 6 x6).set 7 x7).set 8 x8)
theorem WOwn.nine {w:World} {Z:Nat} {a:Wd.At} {W:Wd} {g:Nat} (h:WOwn w Z a W) (hg:g∉WOwn.foot a) (x0 x1 x2 x3 x4 x5 x6 x7 x8:Value):WOwn (((((((((w.setCell ⟨g,0,none⟩ x0).setCell ⟨g,1,none⟩ x1).setCell ⟨g,2,none⟩ x2).setCell ⟨g,3,none⟩ x3).setCell ⟨g,4,none⟩ x4).setCell ⟨g,5,none⟩ x5).setCell ⟨g,6,none⟩ x6).setCell ⟨g,7,none⟩ x7).setCell ⟨g,8,none⟩ x8) Z a W :=
 (((((((((h.other (p:=⟨g,0,none⟩) hg x0).other (p:=⟨g,1,none⟩) hg x1).other (p:=⟨g,2,none⟩) hg x2).other (p:=⟨g,3,none⟩) hg x3).other (p:=⟨g,4,none⟩) hg x4).other (p:=⟨g,5,none⟩) hg x5).other (p:=⟨g,6,none⟩) hg x6).other (p:=⟨g,7,none⟩) hg x7).other (p:=⟨g,8,none⟩) hg x8)
theorem below_nine {w0 w:World} {Z g:Nat} (h:Below Z w0 w) (hg:Z≤g) (x0 x1 x2 x3 x4 x5 x6 x7 x8:Value):Below Z w0 (((((((((w.setCell ⟨g,0,none⟩ x0).setCell ⟨g,1,none⟩ x1).setCell ⟨g,2,none⟩ x2).setCell ⟨g,3,none⟩ x3).setCell ⟨g,4,none⟩ x4).setCell ⟨g,5,none⟩ x5).setCell ⟨g,6,none⟩ x6).setCell ⟨g,7,none⟩ x7).setCell ⟨g,8,none⟩ x8):=
 (((((((((h.setCell (p:=⟨g,0,none⟩) hg x0).setCell (p:=⟨g,1,none⟩) hg x1).setCell (p:=⟨g,2,none⟩) hg x2).setCell (p:=⟨g,3,none⟩) hg x3).setCell (p:=⟨g,4,none⟩) hg x4).setCell (p:=⟨g,5,none⟩) hg x5).setCell (p:=⟨g,6,none⟩) hg x6).setCell (p:=⟨g,7,none⟩) hg x7).setCell (p:=⟨g,8,none⟩) hg x8)
def Half (w wx:World) (pA:Option Addr) (pC:Nat) (W:Wd) (aM:Option Addr) (kM:Nat) (aT:Option Addr) (kT n2:Nat):Prop :=
 ∃ (bA:Option Addr) (bC:Nat) (sA:Option Addr) (sC n3 n4:Nat),Blk wx w.heap.size [.int .i64 W.field.wide, .int .i64 W.field.high, .slice pA W.field.places.length pC, .slice bA W.bases.length bC, .slice sA W.stocks.length sC, .slice aM W.mines.length kM, .slice aT W.troops.length kT, .int .i64 W.next, .int .i64 W.now] 28 (0,0)∧
  Blk wx (w.heap.size+1) [.int .i64 0, .int .i64 0, .slice none 0 0, .slice none 0 0, .slice none 0 0, .slice none 0 0, .slice none 0 0, .int .i64 0, .int .i64 0] 28 (0,0)∧repI.SOwn 3 8 wx w.heap.size (Rep.blkOf pA) pA pC W.field.places∧Cel.rep.SOwn 49 16 wx n2 (Rep.blkOf bA) bA bC W.bases∧repI.SOwn 3 8 wx n3 (Rep.blkOf sA) sA sC W.stocks∧
  (∀ g∈Rep.blkOf bA,n2≤g∧g<n3)∧(∀ g∈Rep.blkOf sA,n3≤g∧g<n4)∧Below w.heap.size w wx∧n2≤n3∧n3≤n4∧n4=wx.heap.size
end Go.Proofs.YtlikikpgmmkjbaaGreat
namespace Go.Proofs.YtlikikpgmmkjbaaGreat
end Go.Proofs.YtlikikpgmmkjbaaGreat
set_option linter.unusedVariables false
set_option linter.unusedSimpArgs false
namespace Go.Proofs.YtlikikpgmmkjbaaGreat
open Go.RowKit

namespace Rep
variable {α:Type} {R:Rep α}
theorem flatten_set {β:Type} {size:Nat} {X:List (List β)} {i:Nat} {es:List β} (hX:∀ x∈X,x.length=size) (hi:i<X.length):(X.set i es).flatten=X.flatten.take (i * size)++es++X.flatten.drop (i * size+size):=by
 rw [List.set_eq_take_append_cons_drop,if_pos hi,List.flatten_append,List.flatten_cons,flatten_take i hX,flatten_drop (i+1) hX,Nat.succ_mul,List.append_assoc]
theorem take_mid {β:Type} {cur es:List β} {p n k:Nat} (hk:es.length=k) (h1:p+k≤n) (h2:n≤cur.length):(cur.take p++es++cur.drop (p+k)).take n=(cur.take n).take p++es++(cur.take n).drop (p+k):=by
 apply List.ext_getElem?
 intro j
 subst hk
 simp only [List.getElem?_take,List.getElem?_append,List.length_append,List.length_take,List.getElem?_drop]
 grind
theorem SOwn.setE {E by_ B c i g:Nat} {f:List Nat} {l:List α} {w:World} {q':α} {es:List Value} {cur:Array Value} (h:R.SOwn E by_ w B f (some ⟨g,0,none⟩) c l) (hp:R.Bare) (hi:i<l.length) (hq:∀ w,R.has w es q') (hcur:w.heap[g]? =some (.cells cur E (0,0))):
  R.SOwn E by_ (w.setRow g (cur.toList.take (i * R.size)++es++cur.toList.drop (i * R.size+es.length)).toArray) B f (some ⟨g,0,none⟩) c (l.set i q')∧i * R.size+es.length≤cur.toList.length:=by
 obtain ⟨hb,ps,rfl,hn,ho,hall⟩:=h
 have hel:es.length=R.size:=R.len (hq w)
 have hl:=olens hall
 have hpl:ps.length=l.length:=hall.length
 obtain ⟨hx1,hx2⟩:=ho
 obtain ⟨g',cap,cur',hv,hBg,hh,hnc,hcm,hsz,htk,hG⟩:=hx2.resolve_left (λ hz=>nomatch hz.1)
 injection hv with hv1 hv2 hv3
 injection hv1 with hv1
 injection hv1 with hv1 hv4 hv5
 subst hv1 hv3
 rw [hh] at hcur
 injection hcur with hcur
 injection hcur with hcur
 subst hcur
 have hle:i * R.size+R.size≤l.length * R.size:=by rw [← Nat.succ_mul];exact Nat.mul_le_mul_right _ hi
 have hle2:l.length * R.size≤c * R.size:=Nat.mul_le_mul_right _ hnc
 have hsl:cur'.toList.length=c * R.size:=by rw [Array.length_toList,hsz]
 obtain ⟨x,hx,hxo⟩:=hall.at_ (get_d (l:=l) (u:=q') hi)
 have hx0:x.1= []:=hp.2 hxo
 have hdiff:∀ y∈ps,∀ q∈y.1,q≠g:=λ y hy q hq e=>by
  obtain ⟨b,hb'⟩:=hall.left y hy
  rw [hp.2 hb'] at hq
  simp at hq
 have e1:(ps.set i (x.1,es)).map (·.1)=ps.map (·.1):=by
  rw [List.map_set]
  have:(ps.map (·.1))[i]? =some x.1:=by rw [List.getElem?_map,hx];rfl
  obtain ⟨h2,h3⟩:=List.getElem?_eq_some_iff.1 this
  conv=>lhs;rw [← h3]
  exact List.set_getElem_self _
 have e2:(ps.set i (x.1,es)).map (·.2)=(ps.map (·.2)).set i es:=by rw [List.map_set]
 have hfs:=flatten_set (es:=es) hl (by rw [List.length_map];omega:i<(ps.map (·.2)).length)
 rw [hel]
 refine ⟨⟨by rw [List.length_set];exact hb,ps.set i (x.1,es),by rw [e1],hn,⟨?_, .inr ⟨g,c,(cur'.toList.take (i * R.size)++es++cur'.toList.drop (i * R.size+R.size)).toArray,by rw [List.length_set],hBg, ?_,by rw [List.length_set];exact hnc,hcm, ?_, ?_, ?_⟩⟩, ?_⟩,by omega⟩
 ·rw [e2,hfs,List.length_set]
  simp only [List.length_append,List.length_take,List.length_drop,hx1,hel]
  omega
 ·exact Blk.setRow (cur:=cur'.toList) (by simpa [Blk] using hh) _
 ·rw [List.size_toArray]
  simp only [List.length_append,List.length_take,List.length_drop,hsl,hel]
  omega
 ·rw [List.length_set,e2,hfs,← htk]
  exact take_mid hel hle (by omega)
 ·intro j u hu
  rw [List.getElem?_toArray] at hu
  by_cases h1:j<i * R.size
  ·refine hG j u ?_
   rw [List.append_assoc,List.getElem?_append_left (by rw [List.length_take];omega),List.getElem?_take,if_pos h1] at hu
   rw [← Array.getElem?_toList];exact hu
  ·by_cases h2:j<i * R.size+R.size
   ·rw [List.append_assoc,List.getElem?_append_right (by rw [List.length_take];omega),List.getElem?_append_left (by rw [List.length_take];omega),List.length_take] at hu
    have hj:j % R.size=j - i * R.size:=by
     have h3:j=R.size * i+(j - i * R.size):=by rw [Nat.mul_comm];omega
     have h5:(j - i * R.size) % R.size=j - i * R.size:=Nat.mod_eq_of_lt (by omega)
     conv=>lhs;rw [h3,Nat.mul_add_mod,h5]
    rw [hj]
    exact R.raw_ (hq w) _ u (by rw [Nat.min_eq_left (by omega)] at hu;exact hu)
   ·refine hG j u ?_
    rw [List.getElem?_append_right (by simp only [List.length_append,List.length_take];omega),List.getElem?_drop] at hu
    rw [← Array.getElem?_toList]
    rw [show i * R.size+R.size+(j - (List.take (i * R.size) cur'.toList++es).length)=j from by simp only [List.length_append,List.length_take];omega] at hu
    exact hu
 ·have hall2:All2 (λ x a=>R.own (w.setRow g (cur'.toList.take (i * R.size)++es++cur'.toList.drop (i * R.size+R.size)).toArray) B x.1 x.2 a) ps l:=hall.imp λ y a hy hyo=>R.okeep hyo λ q hq=>(Mod.setRow w g _).block q (R.olt hyo q hq).2 (by simpa using hdiff y hy q hq)
  exact hall2.set_ (P:=λ (x:List Nat×List Value) a=>R.own _ B x.1 x.2 a) (by rw [hx0];exact hp.1 (hq _))
end Rep
section
variable {P:Program} {n:Nat} {E E':List (Nat×Value)} {a:Act} {w w' w0 w1:World} {Q:Exit→Act→World→Prop} {ops:Array Oper} {v:Value}
variable {d:Option Nat} {ty:TypeId} {pos:String} {af:Array Edge} {g:Option (Nat×Bool)} {x y z:Operand} {t:TypeId} {rest:List Oper}
theorem soE {α:Type} {R:Rep α} {e by_ B i:Nat} {A:Option Addr} {c:Nat} {l:List α} {q':α} {p:Addr} {es:List Value} (h:R.SOwn e by_ w B (Rep.blkOf A) A c l) (hR:R.Bare) (hi:i<l.length) (hx:ev E x=some (.pointer (some p))) (hp:p=⟨bA A,oA A+i * R.size,none⟩) (hy:ev E y=some v) (hc:v.cells=es.toArray)
  (hq:∀ w,R.has w es q') (hs:Sz P t es.length)
  (hk:∀ w1,Mod (Rep.blkOf A) w w1→R.SOwn e by_ w1 B (Rep.blkOf A) A c (l.set i q')→WL P n ops Q rest E w1):WL P n ops Q (⟨none, .store t x y,ty,pos,af,none⟩::rest) E w:=by
 obtain ⟨b,rfl⟩:=h.block (by omega)
 have hp':p=⟨b,i * R.size,none⟩:=by rw [hp];simp [bA,oA]
 subst hp'
 obtain ⟨_,ps,_,_,ho,_⟩:=id h
 obtain ⟨cur,hcur,_,_⟩:=ho.cells_at
 obtain ⟨hset,hle⟩:=Rep.SOwn.setE (q':=q') h hR hi hq hcur
 have hst:=run_storeVar (P:=P) (w:=w) (b:=b) (p:=i * R.size) (cur:=cur.toList) (e:=e) (by simpa [Blk] using hcur) hc hs (List.all_eq_true.2 (R.one (hq w))) hle
 refine us (λ n a ha=> ?_) (hk _ (Mod.setRow w b _) hset)
 simp only [execOp,ha.ev hx,ha.ev hy,Instr.storeAt,Instr.sureAddr,Sem.run_bind,Sem.run_pure,Result.andThen_ok,hst]
def pfx (A:Option Addr) (_hi:Nat):Option Addr:=A
theorem sP {A:Option Addr} {len cap e s:Nat} {k:IntKind} (hi m:Nat) {i:Int} (ht:P.underlying t=some (.slice e)) (hs:Sz P e s) (hx:ev E x=some (.slice A len cap)) (hy:ev E y=some (.int k i)) (h1:i=(hi:Int)) (h2:hi≤cap) (hm:m=hi):Runs P E ⟨d, .slice t x none (some y) none,ty,pos,af,g⟩ w (.slice (pfx A hi) m cap) w:=λ n a ha=>by
 subst h1;subst hm
 have h1:P.underlying t=some (.slice (P.elem t)):=by simp [Program.elem,ht]
 have q2:P.elem t=e:=by simp [Program.elem,ht]
 have h3:=run_slice_h (P:=P) (w:=w) t A len cap h1 k (m:Int) (by omega) (by omega)
 have h4:=run_sliceAt_slice (P:=P) (w:=w) t (.slice A len cap) none (some (.int k (m:Int))) none h1
 rw [q2,hs w] at h3
 simp only [execOp,ha.ev hx,ha.ev hy,Option.map,h4,h3,Sem.run_bind,Result.andThen_ok,Sem.run_pure,sliced,Int.toNat_natCast,Nat.sub_zero]
 unfold pfx
 cases A with
 | none=>simp
 | some a=>simp [Addr.add]
end
theorem Rep.SHas.pre {α:Type} {R:Rep α} {by_ c:Nat} {A:Option Addr} {l:List α} {w:World} (h:R.SHas by_ w A c l) (k:Nat):R.SHas by_ w (pfx A k) c (l.take k):=h.take_ k
end Go.Proofs.YtlikikpgmmkjbaaGreat
namespace Go.Proofs.YtlikikpgmmkjbaaGreat
open Go.RowKit
section
variable {P:Program} {n:Nat} {E:List (Nat×Value)} {w:World} {Q:Exit→Act→World→Prop} {ops:Array Oper} {kd:Nat→Nat}
def AQ2 (P:Program) (ops:Array Oper) (Q:Exit→Act→World→Prop) (kd:Nat→Nat) (τ1 τ2:List Nat):Exit→Act→World→Prop :=
 nrm (λ a w=>wpFlow P ops (nrm (Q .normal)) kd τ1 a w∧wpFlow P ops (nrm (Q .normal)) kd τ2 a w)
theorem rF {id:Nat} (ks:List (Nat×Nat)) (τ:List Nat) (i:Nat) (τi:List Nat) (j:Nat) (τj:List Nat) (hm:P.follows .mixedOrders=true)
  (hB:(Region.noSelect ops && (τ.length+(τi.length+1)== ops.size) && (τi.length == τj.length) && Nat.blt 1 (kds ks i) && Nat.blt 1 (kds ks j) && flow1B ops (kds ks) τ (Array.replicate ops.size false) && (Region.ready .any ops (setAll τ (Array.replicate ops.size false))== [i,j]) && flowB ops (kds ks) τi ((setAll τ (Array.replicate ops.size false)).setIfInBounds i true) && flowB ops (kds ks) τj ((setAll τ (Array.replicate ops.size false)).setIfInBounds j true))=true)
  (h:FL P n ops (AQ2 P ops Q (kds ks) (i::τi) (j::τj)) (kds ks) τ E w):W P n (.region id ops true) Q E w:=λ a ha=>by
 simp only [Bool.and_eq_true,beq_iff_eq,Nat.blt_eq] at hB
 obtain ⟨⟨⟨⟨⟨⟨⟨⟨hs,hl⟩,hlen⟩,hi⟩,hj⟩,h1⟩,hr⟩,h2⟩,h3⟩:=hB
 refine wp_mono (wp_region_any hm (Q:=nrm (Q .normal)) ?_) (λ e a w hq=>by cases e<;>first | exact hq | exact hq.elim)
 have:=any_of_flow1 (P:=P) hs (Q:=nrm (Q .normal)) (λ _ _ _ h=>h) (m:=τi.length+1) τ (Array.replicate ops.size false) a w (by simp) h1 (h a ha) (λ a w0 hh=>by
  have hh:wpFlow P ops (nrm (Q .normal)) (kds ks) (i::τi) a w0∧wpFlow P ops (nrm (Q .normal)) (kds ks) (j::τj) a w0:=hh w0 (Ext.rf w0)
  refine ⟨λ h0=>(by rw [hr] at h0;cases h0),λ q hq=> ?_⟩
  rw [hr] at hq
  have hq:q=i∨q=j:=by simpa using hq
  rcases hq with rfl | rfl
  ·obtain ⟨⟨o,ho,h⟩,_⟩:=hh
   rcases h with ⟨hk,_⟩ | ⟨hk,_⟩ | ⟨hk,h⟩
   ·omega
   ·omega
   ·exact ⟨o,ho, .inr ⟨hk,λ w hw=>wpOp_mono (λ a' w' h3=>⟨h3.1,any_of_flow hs (λ _ _ _ h=>h) τi _ _ _ (by simp [setAll_size]) h2 h3.2⟩) (h w hw)⟩⟩
  ·obtain ⟨_,⟨o,ho,h⟩⟩:=hh
   rcases h with ⟨hk,_⟩ | ⟨hk,_⟩ | ⟨hk,h⟩
   ·omega
   ·omega
   ·exact ⟨o,ho, .inr ⟨hk,λ w hw=>wpOp_mono (λ a' w' h5=>⟨h5.1,by rw [hlen];exact any_of_flow hs (λ _ _ _ h=>h) τj _ _ _ (by simp [setAll_size]) h3 h5.2⟩) (h w hw)⟩⟩)
 rw [hl] at this
 exact any_of_F _ _ _ _ this _ (Below.refl _ w).drew
theorem fk {τi τj:List Nat} (h1:FL P n ops Q kd τi E w) (h2:FL P n ops Q kd τj E w):N n (AQ2 P ops Q kd τi τj) E w:=λ a ha=>⟨h1 a ha,h2 a ha⟩
end
end Go.Proofs.YtlikikpgmmkjbaaGreat
namespace Go.Proofs.YtlikikpgmmkjbaaGreat
section
open Go.RowKit
def fen (ro:Option Nat):Fence:= {Fence.wide with round:=ro}
section
variable {P:Program} {ro:Option Nat} {m:Nat} {ops:Array Oper} {Q:Exit→Act→World→Prop} {w:World}
theorem calls_fen {f:FuncId} {args:Array Value} {R:Ending→World→Prop} (h:Calls P f args w R):CallsIn (fen ro) m P f args w R:=(callsIn_wide (n:=m)).2 h
theorem rows_fen {row:String} {args:Array Value} {R:Value→World→Prop} (h:Rows P row args w R):RowsIn (fen ro) m P row args w R:=λ c cs _ =>
 let ⟨v,w',r,s⟩:=h c cs;⟨v,w',r,stepsIn_wide.2 s⟩
def noDefer (o:Oper):Bool:=match o.op with
 | .defer _=>false
 | _=>true
theorem op_in {o:Oper} {a:Act} {K:Act→World→Prop} (hd:noDefer o=true) (h:o.wp P a w K Q):o.wpIn (fen ro) m P a w K Q:=by
 refine ⟨λ _ _=>trivial, ?_⟩
 have hs:o.semAt (fen ro).round a.eval=execOp a.eval o:=Oper.semAt_eq _ _ _ (λ c e=>by simp [noDefer,e] at hd)
 rw [hs]
 unfold Oper.wp at h
 generalize (execOp a.eval o).run P w=r at *
 cases r with
 | ok x w' =>
  cases x<;>simp only [Oper.upon] at h<;>simp only [Oper.uponIn] <;>
   first
    | exact h
    | exact h.elim
    | exact ⟨λ h=>by simp [fen,Fence.wide] at h,calls_fen h⟩
    | exact ⟨λ h=>by simp [fen,Fence.wide] at h,rows_fen h⟩
 | halt x w'=>cases x<;>simp only [Oper.upon] at h<;>simp only [Oper.uponIn]<;>first | exact h | exact h.elim
theorem list_in:∀ (l:List Oper) {a:Act} {w:World},l.all noDefer=true→wpList P ops Q l a w→(∀ c a w,¬ Q (.panic c) a w)→¬ LetsOut Q→wpListIn (fen ro) m P ops Q l a w
 | [],a,w,_,h,_,_=>by unfold wpList at h;unfold wpListIn;exact h
 | o::rest,a,w,hd,h,hp,ho=>by
  rw [List.all_cons,Bool.and_eq_true] at hd
  unfold wpList at h
  unfold wpListIn
  split at h
  ·rename_i hw
   rw [if_pos hw]
   rcases h with h | ⟨h,x⟩
   ·exact Oper.wpIn_mono (λ a w h=>list_in rest hd.2 h hp ho) (op_in hd.1 h)
   ·exact (ho x).elim
  ·rename_i hw
   rw [if_neg hw]
   exact ⟨λ _ _=>trivial,list_in rest hd.2 h hp ho⟩
theorem wop_in {i:Nat} {K:Act→World→Prop} {a:Act} {w:World} (hd:ops.toList.all noDefer=true) (ho:¬ LetsOut Q) (h:wpOp P ops Q i K a w):wpOpIn (fen ro) m P ops Q i K a w:=by
 unfold wpOp at h
 unfold wpOpIn
 split at h
 ·rename_i hi;simp only [hi];exact h
 ·rename_i o hi
  simp only [hi]
  have hdo:noDefer o=true:=List.all_eq_true.1 hd o (by rw [Array.mem_toList_iff];exact Array.mem_of_getElem? hi)
  split at h
  ·rename_i hw
   rw [if_pos hw]
   rcases h with h | ⟨h,x⟩
   ·exact op_in hdo h
   ·exact (ho x).elim
  ·rename_i hw
   rw [if_neg hw]
   exact ⟨λ _ _=>trivial,h⟩
theorem any_in (hd:ops.toList.all noDefer=true) (ho:¬ LetsOut Q):∀ (f:Nat) (l:Array Bool) {a:Act} {w:World},wpAny P .any ops Q f l a w→wpAnyIn (fen ro) m P .any ops Q f l a w
 | 0,l,a,w,h=>h
 | f+1,l,a,w,h=>⟨h.1,λ i hi=>wpOpIn_mono (λ a w h=>any_in hd ho f _ h) (wop_in hd ho (h.2 i hi))⟩
end
theorem nrm_np {K:Act→World→Prop}:∀ c a w,¬ nrm K (.panic c) a w:=λ _ _ _ h=>h
theorem nrm_no {K:Act→World→Prop}:¬ LetsOut (nrm K):=λ ⟨_,_,h⟩=>h
theorem nrm_mono {K:Exit→Act→World→Prop}:∀ e a w,nrm (K .normal) e a w→K e a w:=λ e a w h=>by cases e<;>first | exact h | exact h.elim
namespace Rd
section
variable {P:Program} {ro:Option Nat} {m n:Nat} {ops:Array Oper} {Q:Exit→Act→World→Prop} {w w0:World} {E E':List (Nat×Value)} {id id':Nat} {c:Operand} {x y:Code} {i j:Int} {τ:List Nat} {v:Value}
def W (ro:Option Nat) (m:Nat) (P:Program) (n:Nat) (c:Code) (Q:Exit→Act→World→Prop) (E:List (Nat×Value)) (w:World):Prop:=∀ a,Agr n E a→c.wpIn (fen ro) m P Q a w
abbrev M (n:Nat) (Q:Exit→Act→World→Prop) (E:List (Nat×Value)) (w:World):Prop:=N n (nrm (Q .normal)) E w
abbrev Th (ro:Option Nat) (m:Nat) (P:Program) (y:Code) (Q:Exit→Act→World→Prop):Exit→Act→World→Prop:=Exit.then (λ a w=>y.wpIn (fen ro) m P Q a w) Q
theorem sq (h:W ro m P n x (Th ro m P y Q) E w):W ro m P n (.seq x y) Q E w:=λ a ha=>wpIn_seq (h a ha)
theorem sk (h:M n Q E w):W ro m P n .skip Q E w:=λ a ha=>wpIn_skip (h a ha)
theorem rt (h:T n Q E w):W ro m P n .ret Q E w:=λ a ha=>wpIn_ret (h a ha)
theorem xt (h:X n Q id E w):W ro m P n (.exit id) Q E w:=λ a ha=>wpIn_exit (h a ha)
theorem bk (h:W ro m P n x (Exit.inBlock id Q) E w):W ro m P n (.block id x) Q E w:=λ a ha=>wpIn_block (h a ha)
theorem rg {l:List Oper} (h:WL P n l.toArray (nrm (Q .normal)) l E w) (hd:l.all noDefer=true:=by kernel_rfl):W ro m P n (.region id l.toArray false) Q E w:=λ a ha=>Go.wpIn_mono (wpIn_region_lit (list_in l hd (h a ha) nrm_np nrm_no)) nrm_mono
theorem cb {b:Bool} (hc:ev E c=some (.bool b)) (h1:b=true→W ro m P n x Q E w) (h2:b=false→W ro m P n y Q E w):W ro m P n (.cond c x y) Q E w :=
 λ a ha=>wpIn_cond_split (ha.ev hc) (λ h=>h1 h a ha) (λ h=>h2 h a ha)
theorem clt (hc:ev E c=some (.bool (decide (i<j)))) (h1:i<j→W ro m P n x Q E w) (h2:¬ i<j→W ro m P n y Q E w):W ro m P n (.cond c x y) Q E w:=cb hc (λ h=>h1 (of_decide_eq_true h)) (λ h=>h2 (of_decide_eq_false h))
theorem cne (hc:ev E c=some (.bool (i != j))) (h1:¬ i=j→W ro m P n x Q E w) (h2:i=j→W ro m P n y Q E w):W ro m P n (.cond c x y) Q E w:=cb hc (λ h=>h1 (by simpa using h)) (λ h=>h2 (by simpa using h))
theorem nT (h:W ro m P n y Q E w):M n (Th ro m P y Q) E w:=h
theorem ne {fn:Func} {R:Ending→World→Prop} (h:T n (bodyPost P fn R) E w):M n (bodyPost P fn R) E w:=λ a ha=>h a ha
theorem nB (h:M n Q E w):M n (Exit.inBlock id Q) E w:=h
theorem xT (h:X n Q id E w):X n (Th ro m P y Q) id E w:=h
theorem xB (h:M n Q E w):X n (Exit.inBlock id Q) id E w:=λ a ha=>by simp only [Exit.inBlock,if_true];exact h a ha
theorem tT (h:T n Q E w):T n (Th ro m P y Q) E w:=h
theorem lp {c:Code} (I:Nat→List (Nat×Value)→World→Prop) (k:Nat) (E':List (Nat×Value)) (h0:I k E' w) (hs:Sub E' E)
  (round:∀ k E w,I k E w→W ro m P n c (Exit.then (LI n I k) Q) E w):W ro m P n (.loop c) Q E w:=λ a ha=>by
 intro b kk cs hro hb hr
 have key:∀ k a w,(∃ E,I k E w∧Agr n E a)→∃ e a' w',Q e a' w'∧ArrivesIn (Machine.fenced P (fen ro)) P (lone (b.atR a (.code c:: .inLoop c::kk)) cs w) b kk cs e a' w':=by
  intro k
  induction k using Nat.strongRecOn with
  | _ k ih =>
   intro a w ⟨E,hI,ha⟩
   obtain ⟨e,a1,w1,hq,harr⟩:=round k E w hI a ha b (.inLoop c::kk) cs hro hb hr
   cases e with
   | normal =>
    obtain ⟨m',hlt,hI1⟩:=hq
    obtain ⟨e2,a2,w2,hq2,harr2⟩:=ih m' hlt a1 w1 hI1
    exact ⟨e2,a2,w2,hq2, .of_steps (StepsIn.trans harr (.one (fenced_calm hb hr rfl) stepR_inLoop)) harr2⟩
   | exit id=>exact ⟨_,a1,w1,hq, .pass (x:= .inLoop c) rfl (λ _ _=> .inl (by simp)) harr⟩
   | goto l=>exact ⟨_,a1,w1,hq, .pass (x:= .inLoop c) rfl (λ _ _=> .inl (by simp)) harr⟩
   | ret=>exact ⟨_,a1,w1,hq, .pass (x:= .inLoop c) rfl (λ _ _=> .inl (by simp)) harr⟩
   | panic ch=>exact ⟨_,a1,w1,hq, .pass (x:= .inLoop c) rfl (λ _ _=> .inl (by simp)) harr⟩
   | outgrown=>exact ⟨_,a1,w1,hq, .pass (x:= .inLoop c) rfl (λ _ _=> .inl (by simp)) harr⟩
 obtain ⟨e,a',w',hq,harr⟩:=key k a w ⟨E',h0,ha.sub hs⟩
 exact ⟨e,a',w',hq, .of_steps (.one (fenced_calm hb hr rfl) stepR_loop) harr⟩
theorem nI {I:Nat→List (Nat×Value)→World→Prop} {k:Nat} (k':Nat) (E':List (Nat×Value)) (h:I k' E' w) (hm:k'<k) (hs:Sub E' E):M n (Exit.then (LI n I k) Q) E w :=
 λ a ha=>⟨k',hm,E',h,ha.sub hs⟩
theorem rd (ks:List (Nat×Nat)) (τ:List Nat) (hm:P.follows .mixedOrders=true) (hB:(Region.noSelect ops && (τ.length == ops.size) && flowB ops (kds ks) τ (Array.replicate ops.size false))=true)
  (h:FL P n ops (nrm (Q .normal)) (kds ks) τ E w) (hd:ops.toList.all noDefer=true:=by kernel_rfl):W ro m P n (.region id ops true) Q E w:=λ a ha=>by
 simp only [Bool.and_eq_true,beq_iff_eq] at hB
 obtain ⟨⟨hs,hl⟩,hB⟩:=hB
 refine Go.wpIn_mono (wpIn_region_any hm (Q:=nrm (Q .normal)) (any_in hd nrm_no _ _ ?_)) nrm_mono
 have:=any_of_flow (P:=P) hs (Q:=nrm (Q .normal)) nrm_np τ (Array.replicate ops.size false) a w (by simp) hB (h a ha)
 rw [hl] at this
 exact any_of_F _ _ _ _ this _ (Below.refl _ w).drew
theorem agr0 {l:List Value} (hl:Nat.ble l.length n=true):Agr n (argEnv 0 l) {tmps:=l.toArray++Array.replicate (n - l.toArray.size) undef,defers:= []}:=by
 refine ⟨rfl, ?_,λ t v hv=> ?_⟩
 ·have:=Nat.le_of_ble_eq_true hl
  simp only [Array.size_append,Array.size_replicate,List.size_toArray];omega
 ·obtain ⟨j,e,hj⟩:=argEnv_look l 0 t v hv
  have hlt:=(List.getElem?_eq_some_iff.1 hj).1
  rw [Array.getElem?_append_left (by simp;omega)]
  simpa [show t=j by omega] using hj
theorem calls_W {f:FuncId} {fn:Func} {c:Code} {l:List Value} {R:Ending→World→Prop} (hf:P.funcs[f]? =some fn) (hb:fn.body=some c) (hn:fn.ntmps=n) (hl:Nat.ble l.length n=true)
  (h:W none m P n c (bodyPostM (fen none) m P fn R) (argEnv 0 l) w):Calls P f l.toArray w R:=by
 have h1:CallsIn (fen none) m P f l.toArray w R:=callsIn_of_wp_marks hf hb trivial (by rw [hn];exact h _ (agr0 hl)) rfl
 exact (callsIn_wide (n:=m)).1 h1
theorem calls_I {f:FuncId} {fn:Func} {c:Code} {l:List Value} {R:Ending→World→Prop} (hf:P.funcs[f]? =some fn) (hb:fn.body=some c) (hn:fn.ntmps=n) (hl:Nat.ble l.length n=true)
  (h:W none m P n c (bodyPost P fn R) (argEnv 0 l) w):CallsIn (fen none) m P f l.toArray w R :=
 callsIn_of_wp hf hb trivial (by rw [hn];exact h _ (agr0 hl)) rfl
theorem tR {fn:Func} {R:Ending→World→Prop} {vs:List Value} (h:Res P E w fn.results.toList vs) (hR:R (.returned (tup vs)) w):T n (bodyPostM (fen none) m P fn R) E w :=
 λ a ha=>by
  show LeavesInM _ _ _ _ _ _ a.defers _ _
  rw [ha.d]
  exact ⟨_,run_results h ha,hR⟩
end
end Rd
namespace Ri
section
variable {P:Program} {ro:Option Nat} {m n:Nat} {ops:Array Oper} {Q:Exit→Act→World→Prop} {w w' w0:World} {E E':List (Nat×Value)} {id:Nat} {v:Value}
variable {d:Option Nat} {ty:TypeId} {pos:String} {af:Array Edge} {g:Option (Nat×Bool)} {x y z:Operand} {t:TypeId} {rest:List Oper}
def WL (ro:Option Nat) (m:Nat) (P:Program) (n:Nat) (ops:Array Oper) (Q:Exit→Act→World→Prop) (l:List Oper) (E:List (Nat×Value)) (w:World):Prop:=∀ a,Agr n E a→wpListIn (fen ro) m P ops Q l a w
theorem rg {l:List Oper} (h:WL ro m P n l.toArray Q l E w):Rd.W ro m P n (.region id l.toArray false) Q E w:=λ a ha=>wpIn_region_lit (h a ha)
theorem nl (h:Rd.M n Q E w):WL ro m P n ops Q [] E w:=h
theorem vl {d:Nat} {op:Op} (hr:Runs P E ⟨some d,op,ty,pos,af,none⟩ w v w') (hd:Nat.blt d n=true) (h:WL ro m P n ops Q rest ((d,v)::E) w'):WL ro m P n ops Q (⟨some d,op,ty,pos,af,none⟩::rest) E w:=λ a ha=>by
 have hrun:=hr n a ha
 unfold wpListIn
 rw [if_pos (by simp [Region.wanted])]
 refine ⟨λ _ _=>trivial, ?_⟩
 have hs:(⟨some d,op,ty,pos,af,none⟩:Oper).semAt (fen ro).round a.eval=execOp a.eval ⟨some d,op,ty,pos,af,none⟩:=Oper.semAt_eq _ _ _ (λ c e=>by
  have e:op= .defer c:=e
  subst e
  simp only [execOp,Sem.run_bind,Sem.run_pure] at hrun
  revert hrun
  generalize (resolve a.eval c ty).run P w=r
  cases r<;>simp [Result.andThen])
 rw [hs,hrun]
 exact h _ (ha.put hd v)
theorem yd {d:Nat} {l:Nat} {xs:Array Operand} {ts:Array TypeId} {args:List Value} (hx:ev E x=some (.func (.yield l) #[] #[])) (he:evs E xs.toList=some args) (hd:Nat.blt d n=true)
  (h:YieldAt (fen ro) (m - 1) P l args.toArray w λ e w'=>∃ v,e= .returned v∧WL ro m P n ops Q rest ((d,v)::E) w'):WL ro m P n ops Q (⟨some d, .call {callee:= .value x,args:=xs,argTypes:=ts},ty,pos,af,none⟩::rest) E w:=λ a ha=>by
 obtain ⟨fn,tmps,assign,body,hy,hR⟩:=h
 unfold wpListIn
 rw [if_pos (by simp [Region.wanted])]
 refine ⟨λ _ _=>trivial, ?_⟩
 have hs:(⟨some d, .call {callee:= .value x,args:=xs,argTypes:=ts},ty,pos,af,none⟩:Oper).semAt (fen ro).round a.eval=execOp a.eval ⟨some d, .call {callee:= .value x,args:=xs,argTypes:=ts},ty,pos,af,none⟩:=Oper.semAt_eq _ _ _ (λ c e=>by cases e)
 have hm:xs.map a.eval=args.toArray:=by rw [← ha.evs he];apply Array.ext';simp
 have hrun:(execOp a.eval ⟨some d, .call {callee:= .value x,args:=xs,argTypes:=ts},ty,pos,af,none⟩).run P w= .ok (.round l fn tmps assign body) w:=by
  unfold execOp
  simp only [resolve,invoke,Deferred.ofValue,ha.ev hx,callFunc,Sem.run_bind,Sem.run_pure,Result.andThen_ok,hm,Array.empty_append]
  first
   | exact hy
   | simpa using hy
 rw [hs,hrun]
 refine ⟨λ h=>by simp [fen,Fence.wide] at h,hR.mono λ e w' he=> ?_⟩
 obtain ⟨v,rfl,h⟩:=he
 exact h _ (ha.put hd v)
end
end Ri
def mark (D:Nat):List Deferred:= [{target:= .collected D,args:=#[]}]
def wd (ds:List Deferred) (a:Act):Act:= {a with defers:=ds}
theorem wd_put (ds:List Deferred) (a:Act) (d:Option Nat) (v:Value):(wd ds a).put d v=wd ds (a.put d v):=by cases d<;>rfl
theorem wd_eval (ds:List Deferred) (a:Act):(wd ds a).eval=a.eval:=by funext x;cases x<;>rfl
def DMark (w:World) (D:Nat):Prop:=w.heap[D]? =some (.deferred (some []))
theorem DMark.lt {D:Nat} {w:World} (h:DMark w D):D<w.heap.size:=(Array.getElem?_eq_some_iff.1 h).1
theorem DMark.later {D:Nat} {w w':World} (h:DMark w D) (x:Ext w w'):DMark w' D:=(x.block D h.lt).trans h
def unmark (w:World) (D:Nat):World:=w.putObj D (.deferred none)
theorem DMark.un {D:Nat} {w:World} (h:DMark w D):Mod [D] w (unmark w D):=by
 have:=Mod.grown (grownBy_putObj' w D (.deferred none))
 exact this
namespace Rt
section
variable {P:Program} {ds:List Deferred} {m n:Nat} {ops:Array Oper} {Q:Exit→Act→World→Prop} {w w' w0:World} {E E':List (Nat×Value)} {id:Nat} {v:Value}
variable {d:Option Nat} {ty:TypeId} {pos:String} {af:Array Edge} {g:Option (Nat×Bool)} {x y z:Operand} {t:TypeId} {rest:List Oper} {c:Operand} {cx cy:Code} {i j:Int}
def W (ds:List Deferred) (m:Nat) (P:Program) (n:Nat) (c:Code) (Q:Exit→Act→World→Prop) (E:List (Nat×Value)) (w:World):Prop:=∀ a,Agr n E a→c.wpIn (fen none) m P Q (wd ds a) w
def N (ds:List Deferred) (n:Nat) (Q:Exit→Act→World→Prop) (E:List (Nat×Value)) (w:World):Prop:=∀ a,Agr n E a→Q .normal (wd ds a) w
def T (ds:List Deferred) (n:Nat) (Q:Exit→Act→World→Prop) (E:List (Nat×Value)) (w:World):Prop:=∀ a,Agr n E a→Q .ret (wd ds a) w
def WL (ds:List Deferred) (m:Nat) (P:Program) (n:Nat) (ops:Array Oper) (Q:Exit→Act→World→Prop) (l:List Oper) (E:List (Nat×Value)) (w:World):Prop:=∀ a,Agr n E a→wpListIn (fen none) m P ops Q l (wd ds a) w
theorem sq (h:W ds m P n cx (Rd.Th none m P cy Q) E w):W ds m P n (.seq cx cy) Q E w:=λ a ha=>wpIn_seq (h a ha)
theorem sk (h:N ds n Q E w):W ds m P n .skip Q E w:=λ a ha=>wpIn_skip (h a ha)
theorem rt (h:T ds n Q E w):W ds m P n .ret Q E w:=λ a ha=>wpIn_ret (h a ha)
theorem rg {l:List Oper} (h:WL ds m P n l.toArray Q l E w):W ds m P n (.region id l.toArray false) Q E w:=λ a ha=>wpIn_region_lit (h a ha)
theorem nl (h:N ds n Q E w):WL ds m P n ops Q [] E w:=h
theorem nT (h:W ds m P n cy Q E w):N ds n (Rd.Th none m P cy Q) E w:=h
theorem nB (h:N ds n Q E w):N ds n (Exit.inBlock id Q) E w:=h
theorem tT (h:T ds n Q E w):T ds n (Rd.Th none m P cy Q) E w:=h
theorem cb {b:Bool} (hc:ev E c=some (.bool b)) (h1:b=true→W ds m P n cx Q E w) (h2:b=false→W ds m P n cy Q E w):W ds m P n (.cond c cx cy) Q E w :=
 λ a ha=>wpIn_cond_split (by rw [wd_eval];exact ha.ev hc) (λ h=>h1 h a ha) (λ h=>h2 h a ha)
theorem cne (hc:ev E c=some (.bool (i != j))) (h1:¬ i=j→W ds m P n cx Q E w) (h2:i=j→W ds m P n cy Q E w):W ds m P n (.cond c cx cy) Q E w:=cb hc (λ h=>h1 (by simpa using h)) (λ h=>h2 (by simpa using h))
theorem nodef_of_value {o:Oper} {a:Act} {v:Value} (h:(execOp a.eval o).run P w= .ok (.value v) w'):∀ c,o.op≠ .defer c:=λ c e=>by
 unfold execOp at h
 rw [e] at h
 simp only [Sem.run_bind,Sem.run_pure] at h
 revert h
 generalize (resolve a.eval c o.type).run P w=r
 cases r<;>simp [Result.andThen]
theorem vl {d:Nat} {op:Op} (hr:Runs P E ⟨some d,op,ty,pos,af,none⟩ w v w') (hd:Nat.blt d n=true) (h:WL ds m P n ops Q rest ((d,v)::E) w'):WL ds m P n ops Q (⟨some d,op,ty,pos,af,none⟩::rest) E w:=λ a ha=>by
 have hrun:=hr n a ha
 unfold wpListIn
 rw [if_pos (by simp [Region.wanted])]
 refine ⟨λ _ _=>trivial, ?_⟩
 rw [wd_eval,Oper.semAt_eq _ _ _ (nodef_of_value hrun),hrun]
 show wpListIn _ _ _ _ _ _ _ _
 rw [wd_put]
 exact h _ (ha.put hd v)
theorem ca {d:Nat} {f:FuncId} (hf:Enters P f) {xs:Array Operand} {ts:Array TypeId} {args:List Value} (he:evs E xs.toList=some args) (hd:Nat.blt d n=true)
  (h:Calls P f args.toArray w λ e w'=>∃ v,e= .returned v∧WL ds m P n ops Q rest ((d,v)::E) w'):WL ds m P n ops Q (⟨some d, .call {callee:= .value (.func f),args:=xs,argTypes:=ts},ty,pos,af,none⟩::rest) E w:=λ a ha=>by
 unfold wpListIn
 rw [if_pos (by simp [Region.wanted])]
 refine ⟨λ _ _=>trivial, ?_⟩
 rw [wd_eval,Oper.semAt_eq _ _ _ (λ c e=>by cases e),run_call hf ha he]
 refine ⟨λ h=>by simp [fen,Fence.wide] at h,CallsIn.mono (calls_fen h) λ e w' hh=> ?_⟩
 obtain ⟨v,rfl,h⟩:=hh
 show wpListIn _ _ _ _ _ _ _ _
 rw [wd_put]
 exact h _ (ha.put hd v)
theorem tR {D:Nat} {fn:Func} {R:Ending→World→Prop} {vs:List Value} (hK:DMark w D) (h:Res P E (unmark w D) fn.results.toList vs) (hR:R (.returned (tup vs)) (unmark w D)):T (mark D) n (bodyPostM (fen none) m P fn R) E w :=
 λ a ha=>by
  have hr:=run_results (a:=a) h ha
  exact ⟨by simp, .inl ⟨D,_,rfl,run_takeDeferred hK,_,hr,hR⟩⟩
end
end Rt
def Keep2 (b c:Nat) (W W':World):Prop:=W'.heap[b]? =W.heap[b]? ∧W'.heap[c]? =W.heap[c]?
theorem Keep2.tr {b c:Nat} {X Y Z:World} (h:Keep2 b c X Y) (k:Keep2 b c Y Z):Keep2 b c X Z:=⟨k.1.trans h.1,k.2.trans h.2⟩
theorem Mod.keepsFrom {S:List Nat} {W W':World} {B:Nat} (h:Mod S W W') (hS:∀ q∈S,q<W.heap.size→∃ cur e fr,W.heap[q]? =some (.cells cur e fr)):KeepsFrom B W W' :=
 ⟨h.size,λ k o _ hk ho=>by
  by_cases hm:k∈S
  ·obtain ⟨cur,e,fr,hc⟩:=hS k hm (Array.getElem?_eq_some_iff.1 hk).1
   rw [hc] at hk
   injection hk with hk
   subst hk
   exact nomatch ho
  ·exact (h.block k (Array.getElem?_eq_some_iff.1 hk).1 hm).trans hk⟩
theorem Mod.keep22 {S:List Nat} {W X Y:World} {b c:Nat} (h:Mod S W X) (k:Mod S W Y) (hb:b<W.heap.size∧c<W.heap.size) (h1:b∉S) (h2:c∉S):Keep2 b c X Y :=
 ⟨(k.block b hb.1 h1).trans (h.block b hb.1 h1).symm,(k.block c hb.2 h2).trans (h.block c hb.2 h2).symm⟩
def KF (B:Nat) (w0 w:World):Prop:=KeepsFrom B w0 w
theorem KF.rf (B:Nat) (w:World):KF B w w:=KeepsFrom.refl B w
theorem KF.later {B:Nat} {w0 w w':World} (h:KF B w0 w) (x:Ext w w'):KF B w0 w':=KeepsFrom.trans h ((Mod.of_ext (S:= []) x).keepsFrom λ q hq=>nomatch hq)
theorem KF.mod {B:Nat} {w0 w w':World} {S:List Nat} (h:KF B w0 w) (m:Mod S w w') (hS:∀ q∈S,∃ cur e fr,w.heap[q]? =some (.cells cur e fr)):KF B w0 w':=KeepsFrom.trans h (m.keepsFrom λ q hq _=>hS q hq)
theorem Rep.SOwn.cellsAt {α:Type} {R:Rep α} {e by_ B c:Nat} {A:Option Addr} {l:List α} {w:World} (h:R.SOwn e by_ w B (Rep.blkOf A) A c l):∀ q∈Rep.blkOf A,∃ cur e fr,w.heap[q]? =some (.cells cur e fr):=by
 obtain ⟨_,ps,_,_,⟨_,ho⟩,_⟩:=h
 rcases ho with ⟨h1,_⟩ | ⟨g,cap,cur,h1,_,h2,_⟩
 ·injection h1 with h1;subst h1;intro q hq;exact nomatch hq
 ·injection h1 with h1;subst h1;intro q hq
  obtain rfl:=List.mem_singleton.1 hq
  exact ⟨_,_,_,h2⟩
structure JAt {α:Type} (B:Nat) (J:List α→World→Prop) (pre:List α) (w:World):Prop where
 ab:AbidesFrom B J
 at_:J pre w
theorem JAt.later {α:Type} {B:Nat} {J:List α→World→Prop} {pre:List α} {w w':World} (h:JAt B J pre w) (x:Ext w w'):JAt B J pre w' :=
 ⟨h.ab,h.ab _ _ _ none h.at_ ⟨x.os,x.tape,x.output,x.size,λ k hk _=>x.block k hk⟩ λ r e=>nomatch e⟩
theorem Blk.keepc {b:Nat} {cs:List Value} {e:TypeId} {fr:Nat×Nat} {w w':World} (h:Blk w b cs e fr) (k:w'.heap[b]? =w.heap[b]?):Blk w' b cs e fr:=k.trans h
theorem ymono {F:Fence} {m:Nat} {P:Program} {l:Nat} {args:Array Value} {W:World} {R R':Ending→World→Prop} (h:YieldAt F m P l args W R) (hr:∀ e w,R e w→R' e w):YieldAt F m P l args W R':=by
 obtain ⟨fn,tmps,assign,body,hy,hR⟩:=h
 exact ⟨fn,tmps,assign,body,hy,hR.mono hr⟩
theorem yres {P Q:Prop} {e:Ending} (h:(e= .returned (.bool true)∧P)∨(e= .returned (.bool false)∧Q)):∃ b,e= .returned (.bool b)∧(b=true→P)∧(b=false→Q):=by
 rcases h with ⟨h,p⟩ | ⟨h,q⟩
 ·exact ⟨true,h,λ _=>p,(λ h=>nomatch h)⟩
 ·exact ⟨false,h,(λ h=>nomatch h),λ _=>q⟩
theorem fin_take {q k:Nat} (hk:k<q):(List.finRange q).take k++ [⟨k,hk⟩]=(List.finRange q).take (k+1):=by
 rw [List.take_succ_eq_append_getElem (by simpa using hk)]
 simp
section
variable {P:Program} {n:Nat} {E E':List (Nat×Value)} {w:World} {d:Option Nat} {ty:TypeId} {pos:String} {af:Array Edge} {g:Option (Nat×Bool)} {x y z u:Operand} {t:TypeId}
theorem sL {A:Option Addr} {len cap e s:Nat} {k:IntKind} (lo:Nat) {i:Int} (ht:P.underlying t=some (.slice e)) (hs:Sz P e s) (hx:ev E x=some (.slice A len cap)) (hy:ev E y=some (.int k i)) (h1:i=(lo:Int)) (h2:lo≤len):
  Runs P E ⟨d, .slice t x (some y) none none,ty,pos,af,g⟩ w (.slice (sA A cap lo s) (len - lo) (cap - lo)) w:=λ n a ha=>by
 subst h1
 have q1:P.underlying t=some (.slice (P.elem t)):=by simp [Program.elem,ht]
 have q2:P.elem t=e:=by simp [Program.elem,ht]
 have h3:=run_slice_l (P:=P) (w:=w) t A len cap q1 k (lo:Int) (by omega) (by omega)
 have h4:=run_sliceAt_slice (P:=P) (w:=w) t (.slice A len cap) (some (.int k (lo:Int))) none none q1
 rw [q2,hs w] at h3
 simp only [execOp,ha.ev hx,ha.ev hy,Option.map,h4,h3,Sem.run_bind,Result.andThen_ok,Sem.run_pure,sliced,Int.toNat_natCast,sA]
theorem sJ {A:Option Addr} {len cap e s:Nat} {k k' k2:IntKind} (lo hi n:Nat) {i j j2:Int} (ht:P.underlying t=some (.slice e)) (hs:Sz P e s) (hx:ev E x=some (.slice A len cap)) (hy:ev E y=some (.int k i)) (hz:ev E z=some (.int k' j)) (hu:ev E u=some (.int k2 j2)) (hi1:i=(lo:Int)) (hi2:j=(hi:Int)) (hi3:j2=(hi:Int)) (h1:lo≤hi) (h2:hi≤cap) (hn:n=hi - lo):
  Runs P E ⟨d, .slice t x (some y) (some z) (some u),ty,pos,af,g⟩ w (.slice (sA A hi lo s) n n) w:=λ n' a ha=>by
 subst hi1;subst hi2;subst hi3;subst hn
 have q1:P.underlying t=some (.slice (P.elem t)):=by simp [Program.elem,ht]
 have q2:P.elem t=e:=by simp [Program.elem,ht]
 have h3:=run_slice_lhm (P:=P) (w:=w) t A len cap q1 k k' k2 (lo:Int) (hi:Int) (hi:Int) (by omega) (by omega) (by omega) (by omega)
 have h4:=run_sliceAt_slice (P:=P) (w:=w) t (.slice A len cap) (some (.int k (lo:Int))) (some (.int k' (hi:Int))) (some (.int k2 (hi:Int))) q1
 rw [q2,hs w] at h3
 simp only [execOp,ha.ev hx,ha.ev hy,ha.ev hz,ha.ev hu,Option.map,h4,h3,Sem.run_bind,Result.andThen_ok,Sem.run_pure,sliced,Int.toNat_natCast,sA]
end
theorem Rep.SHas.chunk {α:Type} {R:Rep α} {by_ c:Nat} {A:Option Addr} {l:List α} {w:World} (h:R.SHas by_ w A c l) (lo hi:Nat) (h1:lo<hi) (h2:hi≤l.length):R.SHas by_ w (sA A hi lo R.size) (hi - lo) ((l.drop lo).take (hi - lo)):=by
 have hs:=h.sub lo hi (by omega) h2
 have hc:=h.1
 have hcm:=h.2.1
 have e:sA A hi lo R.size=sA A c lo R.size:=by unfold sA;rw [if_neg (by omega),if_neg (by omega)]
 rw [e]
 obtain ⟨g1,g2,g3,g4,g5⟩:=hs
 refine ⟨by rw [List.length_take];omega,by omega,g3,λ hn=> ?_,g5⟩
 have:=g4 hn
 omega
namespace Rd
theorem rf {α:Type} {P:Program} {m n:Nat} {Q:Exit→Act→World→Prop} {w w0:World} {E:List (Nat×Value)} {tt p:Nat} {ty:TypeId} {pos:String} {af:Array Edge} {id:Nat} {body:Code} {g:Operand} {gf:Nat} {lb:List Value} {enc:α→Value} {b2 b3:Nat} {S Sp:List α→Prop} {N0:Nat}
  (hg:ev E g=some (.func (.func gf) #[] lb.toArray)) (hf:Enters P gf) (hseq:SeqStopsK (fen none) (m - 1) P gf lb.toArray (λ x=>#[enc x]) (Keep2 b2 b3) S Sp N0 w0) (hb2:b2<w.heap.size) (hb3:b3<w.heap.size) (hb0:Ext w0 w) (h1:1≤m) (hp:Nat.blt p n=true) (ht:Nat.blt tt n=true)
  (I:List α→World→Prop) (hI:∀ s W W' S,I s W→Mod S W W'→(∀ q∈S,w.heap.size≤q∧∀ cur e fr,W.heap[q]? ≠some (.cells cur e fr))→I s W') (h0:I [] w)
  (hbody:∀ (l:Nat) (pre:List α) (x:α) (W':World),I pre W'→pre.length<N0→W (some l) (m - 1 - 1) P n body (ownPostG w.heap.size (Keep2 b2 b3) I (λ _ _ _=>False) (pre++ [x]) W') ((tt,enc x)::(p,enc x)::E) W')
  (hdone:∀ (D:Nat) (xs:List α) (W':World),w.heap.size≤D→S xs→I xs W'→DMark W' D→Rt.N (mark D) n Q E W'):
  W none m P n (.rangeFunc g #[p] (.region id #[⟨some tt, .assign (.tmp p),ty,pos,af,none⟩] false) body) Q E w:=λ a ha=>by
 have hOf:∀ {β:Type} (J:β→World→Prop),(∀ s W W' S,J s W→Mod S W W'→(∀ q∈S,w.heap.size≤q∧∀ cur e fr,W.heap[q]? ≠some (.cells cur e fr))→J s W')→OwnFrom w.heap.size J:=λ J hJ s X Y row hs hgr hr =>
  hJ s X Y row.toList hs (Mod.grown hgr) λ q hq=>by
   cases row with
   | none=>exact nomatch hq
   | some r =>
    obtain rfl:=List.mem_singleton.1 hq
    obtain ⟨hB,o,ho,hc⟩:=hr _ rfl
    exact ⟨hB,λ cur e fr h=>by rw [h] at ho;injection ho with ho;subst ho;exact nomatch hc⟩
 obtain ⟨fn,hf1,hf2,hf3⟩:=hf
 obtain ⟨bc,hbc⟩:∃ c,fn.body=some c:=by
  cases h:fn.body with
  | none=>rw [h] at hf3;simp at hf3
  | some c=>exact ⟨c,rfl⟩
 refine wpIn_rangeFunc_ownH (F:=fen none) rfl h1 (gf:=gf) (lb:=lb.toArray) (ha.ev hg) trivial (enters_of hf1 hf2 hbc) hseq (λ h k=>h.tr k) ?_ hb0 (λ x=>rfl) I (λ _ _ _=>False) (hOf I hI) (λ c s A B row hs hg hr=>hs.elim) h0
  (λ x a' _=>Agr n ((tt,enc x)::(p,enc x)::E) a') (λ x a' s A B row hs hg hr=>hs) ?_ ?_ ?_ ?_
 ·intro W' l o o' hl hW _ _
  have hm:=Mod.grown (grownBy_putObj' W' l o')
  exact ⟨hm.block b2 (by have:=(Array.getElem?_eq_some_iff.1 hW).1;omega) (by simp;omega),hm.block b3 (by have:=(Array.getElem?_eq_some_iff.1 hW).1;omega) (by simp;omega)⟩
 ·intro l pre x W' K hi hK
  have hA:Agr n ((p,enc x)::E) {tmps:=(#[p].zip #[enc x]).foldl (λ t (p,v)=>t.setIfInBounds p v) a.tmps,defers:= []}:=by
   have:=ha.put hp (enc x)
   have e:({tmps:=(#[p].zip #[enc x]).foldl (λ t (p,v)=>t.setIfInBounds p v) a.tmps,defers:= []}:Act)=a.put (some p) (enc x):=by
    simp [Act.put,ha.d]
   rw [e];exact this
  have h2:W (some l) (m - 1 - 1) P n (.region id [(⟨some tt, .assign (.tmp p),ty,pos,af,none⟩:Oper)].toArray false) (Exit.then K (λ _ _ _=>False)) ((p,enc x)::E) W':=by
   refine Ri.rg (Ri.vl (v:=enc x) (w':=W') (as_ ?_) ht (Ri.nl λ a' ha'=>hK a' W' (KeepsFrom.refl _ _) ⟨rfl,rfl⟩ hi ha'))
   show look ((p,enc x)::E) p=_
   simp [look]
  exact h2 _ hA
 ·intro l pre x a' W' _ _ hi hx hlen
  exact hbody l pre x W' hi hlen a' hx
 ·intro D xs W' hD hS hi hK
  have:=hdone D xs W' hD hS hi hK a ha
  have e:({a with defers:= {target:= .collected D,args:=#[]}::a.defers}:Act)=wd (mark D) a:=by simp [wd,mark,ha.d]
  rw [e];exact this
 ·intro D c pre W' _ _ h _
  exact h.elim
end Rd
end
end Go.Proofs.YtlikikpgmmkjbaaGreat
