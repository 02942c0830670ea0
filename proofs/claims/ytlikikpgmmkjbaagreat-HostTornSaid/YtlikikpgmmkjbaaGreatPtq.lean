import Derived.Test.YtlikikpgmmkjbaaGreatEqI
set_option linter.unusedVariables false
set_option linter.unusedSimpArgs false
set_option maxRecDepth 100000
set_option maxHeartbeats 4000000
open Go.RowKit
namespace Go.Proofs.YtlikikpgmmkjbaaGreat
open Tryz
open Tryz
abbrev aQO:=@Go.Lib.hid
abbrev aSE:=@Int.lt_or_le
abbrev aUW:=@Go.bodyPost_ret

def aE.pe (p:Int):Bool:= !aE.QG p
theorem aok {p:Int}:(p<0→aE.pe p=true)∧(4≤p→aE.pe p=true)∧(0≤p→p<4→aE.pe p=false):=by
 unfold aE.pe aE.QG;refine ⟨λ h=>by rw [pF (.inl h)];rfl,λ h=>by rw [pF (.inr (by omega))];rfl,λ γ ab=>by rw [oB γ (by omega)];rfl⟩
theorem asE (p:Int) (w:World):Calls prog 124 #[.int .i64 p] w λ e w'=>e= .returned (.bool (aE.pe p))∧Below w.heap.size w w':=by
 obtain ⟨ko,eZ,gm⟩:=aok (p:=p);rcases aSE p 0 with h | h
 ·have Φ:=ko h;have hd:decide (p<0)=true:=by simpa using h
  rw [Φ];clear ko eZ gm Φ;go_enter func124,ntmps124;go_wp2
  go_ret;exact ⟨Z,aRe _ _⟩
 ·rcases aSE p 4 with aX | aX
  ·have Φ:=gm h aX;have hd:decide (p<0)=false:=by simpa using h
   rw [Φ];clear ko eZ gm Φ;go_enter func124,ntmps124;go_wp2
   go_ret;exact ⟨hW (by simp<;>omega),aRe _ _⟩
  ·have Φ:=eZ aX;have hd:decide (p<0)=false:=by simpa using h
   rw [Φ];clear ko eZ gm Φ;go_enter func124,ntmps124;go_wp2
   go_ret;exact ⟨hW (by simp<;>omega),aRe _ _⟩
theorem awP  (A:Option Addr) (c:Nat) (l:List Int) (w:World) (az:bK.aI 8 w A c l):
  Calls prog 157 #[.slice A l.length c, .func (.func 124) #[] #[]] w λ e w'=>e= .returned (.int .i64 (gb (aE.pe) l))∧Below w.heap.size w w':=by
 obtain ⟨n,hn⟩:∃ n,l.length=n:=⟨_,rfl⟩;have hle:n≤9223372036854775807:=by have:=az.1;have:=az.2.1;omega
 rw [hn];have p7:=aQO az;have ew:=aQO hn;clear az hn;go_enter func157,ntmps157;go_wp2_with fail
 go_loopw [5,8] (λ _ gU wr=>∃ k:Nat,k≤n∧gU= .int .i64 (k:Int)∧Hid (∀ j (ay:j<k) (rk:j<l.length),(aE.pe) l[j]=false)∧Below w.heap.size w wr) (λ _ gU _=>n - (intOf gU).toNat)
 case atStart=>exact ⟨0,aRE _,rfl,(λ j ay=>by omega),aRe _ _⟩
 case round =>
  obtain ⟨k,av,rfl,hO,Φ⟩:=hrel;by_cases bA:k<n
  ·have iJ:k<l.length:=by rw [ew.out];exact bA
   obtain ⟨b,o,rfl,jg⟩:=E5 (p7.out.keep Φ) (by omega);obtain ⟨x,ru⟩:∃ x,l[k]'iJ=x:=⟨_,rfl⟩;have mB:=jg k x (by rw [aQN iJ,ru]);have wh:=aQO ru

   have hc:=asE x wr;clear jg ru;cases ix:(aE.pe) x with
   | true =>
    have kR:gb (aE.pe) l=(k:Int):=EC iJ (by rw [wh.out];exact ix) λ j ay=>hO.out j ay (by omega);rw [ix] at hc;have qM:=aQO kR;clear kR ix;go_wp2_with (go_at_call 124;refine hc.mono ?_;rintro e w' ⟨rfl,bu⟩)
    go_ret;exact ⟨by rw [qM.out];rfl,Φ.trans (bu.mono Φ.size)⟩
   | false =>
    rw [ix] at hc;have oZ:Hid (∀ j (ay:j<k+1) (rk:j<l.length),(aE.pe) l[j]=false):=by
     intro j ay rk;by_cases h:j<k
     ·exact hO.out j h rk
     ·obtain rfl:j=k:=by omega
      rw [wh.out];exact ix
    clear ix;go_wp2_with (go_at_call 124;refine hc.mono ?_;rintro e w' ⟨rfl,bu⟩)
    go_roundw
    case rel=>exact ⟨k+1,by omega,by go_num,oZ,Φ.trans (bu.mono Φ.size)⟩
    case measure=>simp [intOf];omega
  ·have kR:gb (aE.pe) l= -1:=EB λ j ay=>hO.out j (by have:=ew.out;omega) ay;have qM:=aQO kR;clear kR;go_wp2_with fail
   go_ret;exact ⟨by rw [qM.out];rfl,Φ⟩
theorem aur  (A:Option Addr) (c:Nat) (l:List Int) (w:World) (az:bK.aI 8 w A c l):
  Calls prog 123 #[.slice A l.length c, .func (.func 124) #[] #[]] w λ e w'=>e= .returned (.bool (l.any (aE.pe)))∧Below w.heap.size w w':=by
 have hc:=awP  A c l w az ;rw [← K4];generalize gb (aE.pe) l=r at *
 generalize l.length=n at *
 clear az ;go_enter func123,ntmps123;go_wp2_with (go_at_call 157;refine hc.mono ?_;rintro e w' ⟨rfl,bu⟩)
 go_ret;exact ⟨Z,bu⟩
theorem RH (n lo ar:Int) (w:World):Calls prog 127 #[.int .i64 n, .int .i64 lo, .int .i64 ar] w λ e w'=>e= .returned (.bool (cL n lo ar))∧w=w':=by
 rcases aSE n lo with h | h
 ·rw [pF (.inl h)];go_enter func127,ntmps127;go_wp2
  go_ret;exact ⟨Z,Z⟩
 ·rcases aSE ar n with aX | aX
  ·rw [pF (.inr aX)];go_enter func127,ntmps127;go_wp2
   go_ret;exact ⟨hW (by simp<;>omega),Z⟩
  ·rw [oB h aX];go_enter func127,ntmps127;go_wp2
   go_ret;exact ⟨hW (by simp<;>omega),Z⟩
theorem aj1 (n:Int) (w:World):Calls prog 122 #[.int .i64 n] w λ e w'=>e= .returned (.bool (cL n 1 40))∧w=w':=by
 rcases aSE n 1 with h | h
 ·rw [pF (.inl h)];go_enter func122,ntmps122;go_wp2
  go_ret;exact ⟨Z,Z⟩
 ·rcases aSE 40 n with aX | aX
  ·rw [pF (.inr aX)];go_enter func122,ntmps122;go_wp2
   go_ret;exact ⟨hW (by simp<;>omega),Z⟩
  ·rw [oB h aX];go_enter func122,ntmps122;go_wp2
   go_ret;exact ⟨hW (by simp<;>omega),Z⟩
open Tryz

theorem aE.apw {f:aE} (γ:cL f.wide 1 40=true) (ab:cL f.high 1 40=true) (aw:¬ (f.aW.length:Int)=f.wide * f.high):f.bn=4:=by
 unfold aE.bn;rw [γ,ab,aRm aw];rfl
theorem aE.aps {f:aE} (γ:cL f.wide 1 40=true) (ab:cL f.high 1 40=true) (aw:(f.aW.length:Int)=f.wide * f.high):f.bn=if f.aW.any aE.pe then 4 else 0:=by
 unfold aE.bn;rw [γ,ab,aRi aw];have:f.aW.all aE.QG= !f.aW.any aE.pe:=by
  rw [List.all_eq_not_any_not];rfl
 rw [this];cases f.aW.any aE.pe<;>rfl
theorem adZ (f:aE) (A:Option Addr) (c:Nat) (w:World) (ck:bK.aI 8 w A c f.aW):
  Calls prog 88 #[.agg #[.int .i64 f.wide, .int .i64 f.high, .slice A f.aW.length c]] w λ e w'=>e= .returned (.int .i64 f.bn)∧Below w.heap.size w w':=by
 have Φ:=k5 w (.cells #[.int .i64 f.wide, .int .i64 f.high, .slice A f.aW.length c] 24);have fc:=aj1 f.wide;have gq:=aj1 f.high;have hle:f.aW.length≤9223372036854775807:=by have:=ck.1;have:=ck.2.1;omega
 cases γ:cL f.wide 1 40 with
 | false =>
  rw [γ] at fc;rw [aE.ab6 (by rw [γ];rfl)];clear γ gq ck;go_enter func88,ntmps88;go_wp2_with (go_at_call 122;refine (fc _).mono ?_;rintro e w' ⟨rfl,rfl⟩)
  go_ret;exact ⟨Z,Φ⟩
 | true =>
  rw [γ] at fc;cases ab:cL f.high 1 40 with
  | false =>
   rw [ab] at gq;rw [aE.ab6 (by rw [γ,ab];rfl)];clear γ ab ck;go_enter func88,ntmps88;go_wp2_with fail
   refine (fc _).mono ?_;rintro e w' ⟨rfl,rfl⟩;go_wp2_with fail
   refine (gq _).mono ?_;rintro e w' ⟨rfl,rfl⟩;go_wp2_with fail
   go_ret;exact ⟨Z,Φ⟩
  | true =>
   rw [ab] at gq;have hw:=kv γ;have fM:=kv ab;have Cb:0≤f.wide * f.high:=aUk (by omega) (by omega);have G_:f.wide * f.high≤40 * 40:=aTk hw.2 fM.2 (by omega) (by omega);by_cases aw:(f.aW.length:Int)=f.wide * f.high
   ·have hc:=aur A c f.aW _ (ck.keep Φ);have hd:((f.aW.length:Int)== f.wide * f.high)=true:=by simpa using aw
    have G0:((f.aW.length:Int) != f.wide * f.high)=false:=by simpa using aw
    rw [aE.aps γ ab aw];clear γ ab aw ck;generalize f.aW.any aE.pe=r at *
    generalize f.aW.length=n at *
    cases r with
    | true =>
     go_enter func88,ntmps88;go_wp2_with fail
     refine (fc _).mono ?_;rintro e w' ⟨rfl,rfl⟩;go_wp2_with fail
     refine (gq _).mono ?_;rintro e w' ⟨rfl,rfl⟩;go_wp2_with fail
     refine hc.mono ?_;rintro e w' ⟨rfl,bu⟩;go_wp2_with fail
     go_ret;exact ⟨Z,Φ.trans (bu.mono Φ.size)⟩
    | false =>
     go_enter func88,ntmps88;go_wp2_with fail
     refine (fc _).mono ?_;rintro e w' ⟨rfl,rfl⟩;go_wp2_with fail
     refine (gq _).mono ?_;rintro e w' ⟨rfl,rfl⟩;go_wp2_with fail
     refine hc.mono ?_;rintro e w' ⟨rfl,bu⟩;go_wp2_with fail
     go_ret;exact ⟨Z,Φ.trans (bu.mono Φ.size)⟩
   ·have hd:((f.aW.length:Int)== f.wide * f.high)=false:=by simpa using aw
    have G0:((f.aW.length:Int) != f.wide * f.high)=true:=by simpa using aw
    rw [aE.apw γ ab aw];clear γ ab aw ck;generalize f.aW.length=n at *
    go_enter func88,ntmps88;go_wp2_with fail
    refine (fc _).mono ?_;rintro e w' ⟨rfl,rfl⟩;go_wp2_with fail
    refine (gq _).mono ?_;rintro e w' ⟨rfl,rfl⟩;go_wp2_with fail
    go_ret;exact ⟨Z,Φ⟩
theorem ahN (w:World):Calls prog 128 #[.int .i64 1] w λ e w'=>e= .returned (.tuple #[.agg #[.int .i64 10, .int .i64 1, .int .i64 1, .int .i64 5], .int .i64 0])∧Below w.heap.size w w':=by
 go_enter func128,ntmps128;go_wp2
 refine aUW (v:= .tuple #[.agg #[.int .i64 10, .int .i64 1, .int .i64 1, .int .i64 5], .int .i64 0]) (by simp [results,results128,go_sem]) Z ⟨Z,(aRe _ _).alloc (aQW _) _⟩
theorem ahO (w:World):Calls prog 128 #[.int .i64 2] w λ e w'=>e= .returned (.tuple #[.agg #[.int .i64 20, .int .i64 2, .int .i64 4, .int .i64 12], .int .i64 0])∧Below w.heap.size w w':=by
 go_enter func128,ntmps128;go_wp2
 refine aUW (v:= .tuple #[.agg #[.int .i64 20, .int .i64 2, .int .i64 4, .int .i64 12], .int .i64 0]) (by simp [results,results128,go_sem]) Z ⟨Z,(aRe _ _).alloc (aQW _) _⟩
theorem ahP (k:Int) (w:World) (h:cL k 1 2=false):Calls prog 128 #[.int .i64 k] w λ e w'=>e= .returned (.tuple #[.agg #[.int .i64 0, .int .i64 0, .int .i64 0, .int .i64 0], .int .i64 1])∧Below w.heap.size w w':=by
 have c8:=awT h;have γ:(k == 1)=false:=by simp;omega
 have ab:(k == 2)=false:=by simp;omega
 clear h c8;go_enter func128,ntmps128;go_wp2
 refine aUW (v:= .tuple #[.agg #[.int .i64 0, .int .i64 0, .int .i64 0, .int .i64 0], .int .i64 1]) (by simp [results,results128,go_sem]) Z ⟨Z,(aRe _ _).alloc (aQW _) _⟩
open Tryz

theorem XM {k k':IntKind} {a b a' pc:Int} (γ:a=a') (ab:b=pc):Ending.returned (.tuple #[.int k a, .int k' b])= .returned (.tuple #[.int k a', .int k' pc]):=by rw [γ,ab]
def Zq (f:aE) (c:ax) (w:World) (e:Ending) (w':World):Prop:=e= .returned (.tuple #[.int .i64 (f.mS c), .int .i64 (f.dD c)])∧Below w.heap.size w w'
theorem Ux (f:aE) (p:ax) (A:Option Addr) (c:Nat) (w:World) (ck:bK.aI 8 w A c f.aW):
  Calls prog 158 #[.agg #[.int .i64 f.wide, .int .i64 f.high, .slice A f.aW.length c], .agg #[.int .i64 p.x, .int .i64 p.y]] w (Zq f p w):=by
 have hA:=aQ.new w (ag.GB A c f) 24 (0,0);have Φ:=k5 w (.cells (ag.GB A c f).toArray 24 (0,0));have bc:=aQ.new (w.alloc (.cells (ag.GB A c f).toArray 24 (0,0))) p.cells 49 (0,0);have cK:=k5 (w.alloc (.cells (ag.GB A c f).toArray 24 (0,0))) (.cells p.cells.toArray 49 (0,0));have je:=hA.later cK;have px:=Φ.trans (cK.mono Φ.size);have hc:=adZ f A c _ (ck.keep px);have J7:=ck.keep px;obtain ⟨aP,o3⟩:∃ aP,Hid ((w.alloc (.cells (ag.GB A c f).toArray 24 (0,0))).alloc (.cells p.cells.toArray 49 (0,0))=aP):=⟨_,aQO rfl⟩;rw [o3.out] at je bc hc px J7;rw [World.size_alloc] at bc;clear hA Φ cK ck;have hQ:∀ K:World→Prop,K aP→K ((w.alloc (.cells #[.int .i64 f.wide, .int .i64 f.high, .slice A f.aW.length c] 24)).alloc (.cells #[.int .i64 p.x, .int .i64 p.y] 49)):=λ K h=>by
  have:=o3.out;rw [← this] at h;exact h
 by_cases aF:f.bn=0
 ·have qi:=aE.d_ aF;obtain ⟨g1,g2,g3,g4,_,_⟩:=aE.j5 aF;rw [aF] at hc;by_cases dn:0≤p.x∧p.x<f.wide∧0≤p.y∧p.y<f.high
  ·obtain ⟨i1,i2,i3,i4⟩:=dn;have hIn:=aE.aw3 i1 i2 i3 i4;obtain ⟨a_,bh⟩:=aE.ma aF hIn;obtain ⟨e2,ft,_⟩:=aE.idx aF hIn;have uz:0≤p.y * f.wide:=aUk i3 (by omega);have MI:p.y * f.wide≤1600:=by omega
   obtain ⟨b,o,rfl,jg⟩:=E5 J7 (by omega);have hce:=jg (p.y * f.wide+p.x).toNat (f.place p) (by
    unfold aE.place;rw [aQK,aQN (show (p.y * f.wide+p.x).toNat<f.aW.length by omega)];rfl)
   have amM:=aQO hce;have il:=aQO (And.intro a_ bh);have qL:=aQO je;have aL:=aQO bc;have d1:decide (p.x<0)=false:=by simpa using i1
   have d2:decide (p.y<0)=false:=by simpa using i3
   clear aF hIn a_ bh jg hce J7 je bc;go_enter func158,ntmps158;go_wp2_with fail
   refine hQ (λ W=>Calls _ _ _ W _) ?_;refine hc.mono ?_;rintro e cr ⟨rfl,bu⟩;obtain ⟨mB,la,mC⟩:=ag.adP (qL.out.later bu);obtain ⟨CF,r1⟩:=ax.fl (aL.out.later bu);have aJb:=cell_later bu amM.out;go_wp2_with fail
   go_ret2
   exact ⟨XM il.out.2.symm il.out.1.symm,px.trans (bu.mono px.size)⟩
  ·have Ha:p.x<0∨f.wide≤p.x∨p.y<0∨f.high≤p.y:=by omega
   have il:=aQO (aE.Jm aF (aE.aw4 Ha));have qL:=aQO je;have aL:=aQO bc;clear aF J7 je bc dn;have amW:=aQO Ha;clear Ha;go_enter func158,ntmps158;go_wp2_with fail
   refine hQ (λ W=>Calls _ _ _ W _) ?_;refine hc.mono ?_;rintro e cr ⟨rfl,bu⟩;obtain ⟨mB,la,mC⟩:=ag.adP (qL.out.later bu);obtain ⟨CF,r1⟩:=ax.fl (aL.out.later bu);have key:decide (p.x<0)=true∨(decide (p.x<0)=false∧decide (f.wide≤p.x)=true)∨(decide (p.x<0)=false∧decide (f.wide≤p.x)=false∧decide (p.y<0)=true)∨(decide (p.x<0)=false∧decide (f.wide≤p.x)=false∧decide (p.y<0)=false∧decide (f.high≤p.y)=true):=by
    have:=amW.out;by_cases dJ:p.x<0
    ·simp [dJ]
    by_cases eO:f.wide≤p.x
    ·simp [dJ,eO]
    by_cases j_:p.y<0
    ·simp [dJ,eO,j_]
    ·simp [dJ,eO,j_];omega
   rcases key with h | ⟨h,ab⟩ | ⟨h,ab,aw⟩ | ⟨h,ab,aw,aX⟩
   all_goals
    go_wp2_with fail
    go_ret2
    exact ⟨XM il.out.2.symm il.out.1.symm,px.trans (bu.mono px.size)⟩
 ·obtain ⟨a_,bh⟩:=aE.S4 (c:=p) aF;have il:=aQO (And.intro a_ bh);have fb:(f.bn == 0)=false:=by simpa using aF
  have aJT:(f.bn != 0)=true:=by simpa using aF
  clear a_ bh aF J7 je bc;generalize f.bn=k at *
  go_enter func158,ntmps158;go_wp2_with fail
  refine hQ (λ W=>Calls _ _ _ W _) ?_;refine hc.mono ?_;rintro e cr ⟨rfl,bu⟩;go_wp2_with fail
  go_ret2
  exact ⟨XM il.out.2.symm il.out.1.symm,px.trans (bu.mono px.size)⟩
theorem J1 (f:aE) (p:ax) (A:Option Addr) (c:Nat) (w:World) (ck:bK.aI 8 w A c f.aW) (aF:f.bn=0):
  Calls prog 125 #[.agg #[.int .i64 f.wide, .int .i64 f.high, .slice A f.aW.length c], .agg #[.int .i64 p.x, .int .i64 p.y]] w λ e w'=>e= .returned (.bool (f.ground p))∧Below w.heap.size w w':=by
 have Φ:=k5 w (.cells #[.int .i64 f.wide, .int .i64 f.high, .slice A f.aW.length c] 24);have cK:=k5 (w.alloc (.cells #[.int .i64 f.wide, .int .i64 f.high, .slice A f.aW.length c] 24)) (.cells #[.int .i64 p.x, .int .i64 p.y] 49);have px:=Φ.trans (cK.mono Φ.size);have hc:=Ux f p A c _ (ck.keep px);unfold Zq at hc;clear Φ cK ck;cases dn:f.fe p with
 | true =>
  obtain ⟨a_,bh⟩:=aE.ma aF dn;rw [a_,bh] at hc;have aM:f.ground p=(f.place p != 1):=by unfold aE.ground;rw [dn];rfl
  rw [aM];clear a_ bh dn aM aF;generalize f.place p=v at *
  generalize f.aW.length=n at *
  cases hv:v != 1 with
  | true =>
   have Ck:(v == 1)=false:=by simpa using hv
   go_enter func125,ntmps125;go_wp2_with fail
   refine hc.mono ?_;rintro e cr ⟨rfl,bu⟩;go_wp2_with fail
   go_ret;exact ⟨hW (by simp),px.trans (bu.mono px.size)⟩
  | false =>
   have Ck:(v == 1)=true:=by simpa using hv
   go_enter func125,ntmps125;go_wp2_with fail
   refine hc.mono ?_;rintro e cr ⟨rfl,bu⟩;go_wp2_with fail
   go_ret;exact ⟨hW (by simp),px.trans (bu.mono px.size)⟩
 | false =>
  obtain ⟨a_,bh⟩:=aE.Jm aF dn;rw [a_,bh] at hc;have aM:f.ground p=false:=by unfold aE.ground;rw [dn];rfl
  rw [aM];clear a_ bh dn aM aF;generalize f.aW.length=n at *
  go_enter func125,ntmps125;go_wp2_with fail
  refine hc.mono ?_;rintro e cr ⟨rfl,bu⟩;go_wp2_with fail
  go_ret;exact ⟨Z,px.trans (bu.mono px.size)⟩
open Tryz

def ax.is (p x:ax):Bool:=decide (x=p)
theorem ax.aw6 {p x:ax} (h:ax.is p x=true):x=p:=by simpa [ax.is] using h
theorem ax.aw5 {p x:ax} (h:ax.is p x=false):((p.x == x.x)=false)∨((p.x == x.x)=true∧(p.y == x.y)=false):=by
 have:¬ x=p:=by simpa [ax.is] using h
 obtain ⟨a,b⟩:=p;obtain ⟨c,d⟩:=x;simp at this ⊢;omega
theorem awN (p:ax) (A:Option Addr) (c:Nat) (l:List ax) (w:World) (az:ax.rep.aI 16 w A c l):
  Calls prog 159 #[.slice A l.length c, .agg #[.int .i64 p.x, .int .i64 p.y]] w λ e w'=>e= .returned (.int .i64 (gb (ax.is p) l))∧Below w.heap.size w w':=by
 obtain ⟨n,hn⟩:∃ n,l.length=n:=⟨_,rfl⟩;have hle:n≤9223372036854775807:=by have:=az.1;have:=az.2.1;omega
 rw [hn];have cx:=k5 w (.cells #[.int .i64 p.x, .int .i64 p.y] 49);have aL:=aQO (aQ.new w p.cells 49 (0,0));have p7:=aQO (az.keep cx);have ew:=aQO hn;clear az hn;go_enter func159,ntmps159;go_wp2_with fail
 obtain ⟨w0,iW⟩:∃ w0,Hid (w0=w.alloc (.cells #[.int .i64 p.x, .int .i64 p.y] 49)):=⟨_,aQO rfl⟩;rw [← iW.out] at cx ⊢;have aL:Hid (aQ w0 w.heap.size p.cells 49 (0,0)):=by rw [iW.out];exact aL
 have p7:Hid (ax.rep.aI 16 w0 A c l):=by rw [iW.out];exact p7
 go_loopw [5,8] (λ _ gU wr=>∃ k m:Nat,k≤n∧gU= .int .i64 (k:Int)∧Hid (∀ j (ay:j<k) (rk:j<l.length),(ax.is p) l[j]=false)∧Hid (wr=w0.drewN m)) (λ _ gU _=>n - (intOf gU).toNat)
 case atStart=>exact ⟨0,0,aRE _,rfl,(λ j ay=>by omega),rfl⟩
 case round =>
  obtain ⟨k,m,av,rfl,hO,Bi⟩:=hrel;by_cases bA:k<n
  ·have iJ:k<l.length:=by rw [ew.out];exact bA
   have aeB:ax.rep.aI 16 wr A c l:=by rw [Bi.out];exact p7.out.drewN m
   have aeu:aQ wr w.heap.size p.cells 49 (0,0):=by rw [Bi.out];exact aL.out.drewN m
   have BX:Below w.heap.size w wr:=by rw [Bi.out];exact below_drewN cx m
   obtain ⟨b,o,rfl,jg⟩:=ax.at_ aeB (by omega);obtain ⟨x,ru⟩:∃ x,l[k]'iJ=x:=⟨_,rfl⟩;obtain ⟨mB,la⟩:=jg k x (by rw [aQN iJ,ru]);obtain ⟨CF,r1⟩:=ax.fl aeu;have wh:=aQO ru;have pB:(k:Int)<(n:Int):=by omega
   have pz:(0:Int)≤(k:Int):=by omega
   clear jg ru aeB aeu;cases ix:(ax.is p) x with
   | true =>
    have kR:gb (ax.is p) l=(k:Int):=EC iJ (by rw [wh.out];exact ix) λ j ay=>hO.out j ay (by omega);have qM:=aQO kR;have awA:=ax.aw6 ix;subst awA;clear kR ix;go_wp2_with fail
    go_quiet (fail)
    go_wp2_with fail
    go_ret;exact ⟨by rw [qM.out];rfl,below_drewN BX _⟩
   | false =>
    have oZ:Hid (∀ j (ay:j<k+1) (rk:j<l.length),(ax.is p) l[j]=false):=by
     intro j ay rk;by_cases h:j<k
     ·exact hO.out j h rk
     ·obtain rfl:j=k:=by omega
      rw [wh.out];exact ix
    have fb:=ax.aw5 ix;clear ix;rcases fb with γ | ⟨γ,ab⟩
    all_goals
     go_wp2_with fail
     go_quiet (fail)
     go_wp2_with fail
     go_roundw
     case rel=>exact ⟨k+1,_,by omega,by go_num,oZ,by show _=_;rw [Bi.out];simp;rfl⟩
     case measure=>simp [intOf];omega
  ·have kR:gb (ax.is p) l= -1:=EB λ j ay=>hO.out j (by have:=ew.out;omega) ay;have qM:=aQO kR;have awz:=Bi.out;subst awz;clear kR;go_wp2_with fail
   go_ret;exact ⟨by rw [qM.out];rfl,below_drewN cx _⟩
theorem aup (p:ax) (A:Option Addr) (c:Nat) (l:List ax) (w:World) (az:ax.rep.aI 16 w A c l):
  Calls prog 126 #[.slice A l.length c, .agg #[.int .i64 p.x, .int .i64 p.y]] w λ e w'=>e= .returned (.bool (l.contains p))∧Below w.heap.size w w':=by
 have cx:=k5 w (.cells #[.int .i64 p.x, .int .i64 p.y] 49);have hc:=awN p A c l _ (az.keep cx);have po:l.contains p=decide (0≤gb (ax.is p) l):=by
  rw [K4,List.contains_eq_any_beq];congr 1
  funext x
  unfold ax.is;by_cases h:x=p
  ·simp [h]
  ·simp [h,aTx h]
 rw [po];generalize gb (ax.is p) l=r at *
 generalize l.length=n at *
 clear az po;go_enter func126,ntmps126;go_wp2_with (go_at_call 159;refine hc.mono ?_;rintro e w' ⟨rfl,bu⟩)
 go_ret;exact ⟨Z,cx.trans (bu.mono cx.size)⟩
open Tryz
section
theorem bq.Ow {w:World} {aC:Nat} {a:ag.cc} {W:ag} (h:bq w aC a W):
  (∀ x∈τ.ae a.M,x∉τ.ae a.P∧x∉τ.ae a.B∧x∉τ.ae a.S∧x∉τ.ae a.T)∧
  (∀ x∈τ.ae a.T,x∉τ.ae a.P∧x∉τ.ae a.B∧x∉τ.ae a.S∧x∉τ.ae a.M)∧
  (∀ x∈τ.ae a.S,x∉τ.ae a.P∧x∉τ.ae a.B∧x∉τ.ae a.M∧x∉τ.ae a.T):=by
 have hn:=h.apart;rw [aRA,aRA,aRA,aRA] at hn;obtain ⟨⟨⟨⟨_,_,EW⟩,_,tY⟩,_,pM⟩,_,rD⟩:=hn;refine ⟨λ x hx=>⟨λ hp=> ?_,λ hp=> ?_,λ hp=> ?_,λ hp=> ?_⟩,λ x hx=>⟨λ hp=> ?_,λ hp=> ?_,λ hp=> ?_,λ hp=> ?_⟩,λ x hx=>⟨λ hp=> ?_,λ hp=> ?_,λ hp=> ?_,λ hp=> ?_⟩⟩
 ·exact pM x (by simp [hp]) x hx Z
 ·exact pM x (by simp [hp]) x hx Z
 ·exact pM x (by simp [hp]) x hx Z
 ·exact rD x (by simp [hx]) x hp Z
 ·exact rD x (by simp [hp]) x hx Z
 ·exact rD x (by simp [hp]) x hx Z
 ·exact rD x (by simp [hp]) x hx Z
 ·exact rD x (by simp [hp]) x hx Z
 ·exact tY x (by simp [hp]) x hx Z
 ·exact tY x (by simp [hp]) x hx Z
 ·exact pM x (by simp [hx]) x hp Z
 ·exact rD x (by simp [hx]) x hp Z
theorem u6 {a:ag.cc} {g:Nat}:g∈bq.b_ a↔g∈τ.ae a.P∨g∈τ.ae a.B∨g∈τ.ae a.S∨g∈τ.ae a.M∨g∈τ.ae a.T:=by
 unfold bq.b_;simp only [aQ0];constructor
 ·rintro ((((h | h) | h) | h) | h)<;>simp [h]
 ·rintro (h | h | h | h | h)<;>simp [h]
namespace ag
def kA (k:Int):Int:=if k=1 then 5 else if k=2 then 12 else 0
end ag
theorem bq.mod {w aP:World} {aC:Nat} {a:ag.cc} {W:ag} {S:List Nat} (h:bq w aC a W) (m:Mod S w aP) (hd:∀ x∈bq.b_ a,x∉S):bq aP aC a W :=
 ⟨h.P.mod m λ x hx=>hd x (u6.2 (.inl hx)),h.B.mod m λ x hx=>hd x (u6.2 (.inr (.inl hx))),h.S.mod m λ x hx=>hd x (u6.2 (.inr (.inr (.inl hx)))),h.M.mod m λ x hx=>hd x (u6.2 (.inr (.inr (.inr (.inl hx))))),h.T.mod m λ x hx=>hd x (u6.2 (.inr (.inr (.inr (.inr hx))))),h.apart,h.nums⟩
theorem q6 {a:ag.cc} {q:Nat} (h:q∈τ.ae a.T):q∈bq.b_ a:=u6.2 (.inr (.inr (.inr (.inr h))))
theorem Eb {a:ag.cc} {q:Nat} (h:q∈τ.ae a.S):q∈bq.b_ a:=u6.2 (.inr (.inr (.inl h)))
theorem GF {a:ag.cc} {q:Nat} (h:q∈τ.ae a.M):q∈bq.b_ a:=u6.2 (.inr (.inr (.inr (.inl h))))
theorem Uz {a:ag.cc} {q:Nat} (h:q∈τ.ae a.B):q∈bq.b_ a:=u6.2 (.inr (.inl h))
theorem UA {a:ag.cc} {q:Nat} (h:q∈τ.ae a.P):q∈bq.b_ a:=u6.2 (.inl h)
theorem bq.ajY {w aP:World} {aC:Nat} {a:ag.cc} {W:ag} {l:List Int} (h:bq w aC a W) (m:Mod (τ.ae a.S) w aP) (hS:bK.aG 3 8 aP aC (τ.ae a.S) a.S a.s l):bq aP aC a {W with bj:=l}:=by
 obtain ⟨d1,d2,d3⟩:=h.Ow;exact ⟨h.P.mod m λ x hx hs=>(d3 x hs).1 hx,h.B.mod m λ x hx hs=>(d3 x hs).2.1 hx,hS,h.M.mod m λ x hx hs=>(d3 x hs).2.2.1 hx,h.T.mod m λ x hx hs=>(d3 x hs).2.2.2 hx,h.apart,h.nums⟩
theorem bq.swapT {w aP:World} {aC:Nat} {a:ag.cc} {W:ag} {l:List bg} {A:Option Addr} {c:Nat} (h:bq w aC a W) (m:Mod (τ.ae a.T) w aP) (b4:bg.rep.aG 66 56 aP aC (τ.ae A) A c l) (I:∀ q∈τ.ae A,q∈τ.ae a.T∨w.heap.size≤q):
  bq aP aC {a with T:=A,t:=c} {W with ak:=l}:=by
 obtain ⟨d1,d2,d3⟩:=h.Ow;refine ⟨h.P.mod m λ x hx hs=>(d2 x hs).1 hx,h.B.mod m λ x hx hs=>(d2 x hs).2.1 hx,h.S.mod m λ x hx hs=>(d2 x hs).2.2.1 hx,h.M.mod m λ x hx hs=>(d2 x hs).2.2.2 hx,b4, ?_,h.nums⟩;have hn:=h.apart;rw [aRA] at hn ⊢;refine ⟨hn.1,uS A,λ x hx y aK e=> ?_⟩;subst e;rcases I x aK with aK | aK
 ·exact hn.2.2 x hx x aK Z
 ·have hf:x∈bq.b_ a:=by unfold bq.b_;rw [aQ0];exact .inl hx
  have:=(h.lt x hf).2;omega
theorem bq.ajX {w:World} {aC:Nat} {a:ag.cc} {W V:ag} (h:bq w aC a W) (γ:V.field.aW=W.field.aW) (ab:V.aU=W.aU) (aw:V.bj=W.bj) (aX:V.br=W.br) (bF:V.ak=W.ak) (hn:eP V.field.wide∧eP V.field.high∧eP V.next∧eP V.now):bq w aC a V :=
 ⟨by rw [γ];exact h.P,by rw [ab];exact h.B,by rw [aw];exact h.S,by rw [aX];exact h.M,by rw [bF];exact h.T,h.apart,hn⟩
theorem ad4 {w:World} {aC:Nat} {a:ag.cc} {W:ag} {A:Option Addr} {c q:Nat} (h:q∈bq.b_ {a with T:=A,t:=c}):q∈bq.b_ a∨q∈τ.ae A:=by
 rcases u6.1 h with h | h | h | h | h
 ·exact .inl (UA h)
 ·exact .inl (Uz h)
 ·exact .inl (Eb h)
 ·exact .inl (GF h)
 ·exact .inr h
def HR (k:Int):Int:=if k=1 then 1 else if k=2 then 2 else 0
def tG (k:Int):Int:=if k=1 then 1 else if k=2 then 4 else 0
def Hh (k:Int):Int:=if k=1 then 0 else if k=2 then 0 else 1
theorem Wy (k:Int) (w:World):Calls prog 128 #[.int .i64 k] w λ e w'=>e= .returned (.tuple #[.agg #[.int .i64 (ag.ju k), .int .i64 (HR k), .int .i64 (tG k), .int .i64 (ag.kA k)], .int .i64 (Hh k)])∧Ext w w':=by
 by_cases γ:k=1
 ·subst γ;exact ahN w
 ·by_cases ab:k=2
  ·subst ab;exact ahO w
  ·have:=ahP k w (pF (by omega));simpa [ag.ju,HR,tG,ag.kA,Hh,γ,ab] using this
theorem bq.down {w:World} {aC r5:Nat} {a:ag.cc} {W:ag} (h:bq w aC a W) (bB:r5≤aC):bq w r5 a W:=⟨h.P.down bB,h.B.down bB,h.S.down bB,h.M.down bB,h.T.down bB,h.apart,h.nums⟩
def ag.zero:ag:=⟨⟨0,0, []⟩, [], [], [], [],0,0⟩
theorem bq.zero (w:World) (aC:Nat):bq w aC ⟨none,none,none,none,none,0,0,0,0,0⟩ ag.zero:=⟨τ.aG.nil w,τ.aG.nil w,τ.aG.nil w,τ.aG.nil w,τ.aG.nil w,by simp [τ.ae],bM.2 (by decide),bM.2 (by decide),bM.2 (by decide),bM.2 (by decide)⟩
theorem S3 {f:aE} {c:ax} (h:f.bn=0) (he:f.dD c=0):f.fe c=true:=by
 cases ar:f.fe c with
 | true=>rfl
 | false=>rw [(aE.Jm h ar).1] at he;omega
theorem sa (f:aE) (p:ax) (A:Option Addr) (c:Nat) (w:World) (ck:bK.aI 8 w A c f.aW):
  Calls prog 158 #[.agg #[.int .i64 f.wide, .int .i64 f.high, .slice A f.aW.length c], .agg #[.int .i64 p.x, .int .i64 p.y]] w λ e w'=>e= .returned (.tuple #[.int .i64 (f.mS p), .int .i64 (f.dD p)])∧Below w.heap.size w w':=Ux f p A c w ck
theorem bq.Xe {w:World} {aC:Nat} {P B S M T:Option Addr} {p b s m t:Nat} {W:ag} (ck:bK.aG 3 8 w aC (τ.ae P) P p W.field.aW) (bc:ax.rep.aG 49 16 w aC (τ.ae B) B b W.aU) (hS:bK.aG 3 8 w aC (τ.ae S) S s W.bj) (mi:bK.aG 3 8 w aC (τ.ae M) M m W.br) (b4:bg.rep.aG 66 56 w aC (τ.ae T) T t W.ak)
  (γ:∀ q∈τ.ae B,q∈τ.ae P→False) (ab:∀ q∈τ.ae S,q∈τ.ae P→False) (aw:∀ q∈τ.ae S,q∈τ.ae B→False) (aX:∀ q∈τ.ae M,q∈τ.ae P→False) (bF:∀ q∈τ.ae M,q∈τ.ae B→False) (cb:∀ q∈τ.ae M,q∈τ.ae S→False)
  (d':∀ q∈τ.ae T,q∈τ.ae P→False) (gI:∀ q∈τ.ae T,q∈τ.ae B→False) (yr:∀ q∈τ.ae T,q∈τ.ae S→False) (O_:∀ q∈τ.ae T,q∈τ.ae M→False) (hn:eP W.field.wide∧eP W.field.high∧eP W.next∧eP W.now):
  bq w aC ⟨P,B,S,M,T,p,b,s,m,t⟩ W:=by
 refine ⟨ck,bc,hS,mi,b4, ?_,hn⟩;have a_:=uS P;have bh:=uS B;have cD:=uS S;have jr:=uS M;have JE:=uS T;simp only [aRA,aQ0]
 grind
theorem bq.ayX {w:World} {aC:Nat} {a:ag.cc} {W:ag} {A:Option Addr} {c:Nat} {p:List bg} (h:bq w aC a W) (b4:bg.rep.aG 66 56 w aC (τ.ae A) A c p) (γ:∀ q∈τ.ae A,q∈bq.b_ a→False):bq w aC {a with T:=A,t:=c} {W with ak:=p}:=by
 refine ⟨h.P,h.B,h.S,h.M,b4, ?_,h.nums⟩;have hn:=h.apart;have a_:=uS A;have f1:∀ q∈τ.ae A,(q∈τ.ae a.P→False)∧(q∈τ.ae a.B→False)∧(q∈τ.ae a.S→False)∧(q∈τ.ae a.M→False):=λ q I=>⟨λ h=>γ q I (UA h),λ h=>γ q I (Uz h),λ h=>γ q I (Eb h),λ h=>γ q I (GF h)⟩;simp only [aRA,aQ0] at hn ⊢
 grind
theorem as1 {a:ag.cc} {A:Option Addr} {c q:Nat} (h:q∈bq.b_ {a with T:=A,t:=c}):q∈bq.b_ a∨q∈τ.ae A:=by
 rcases u6.1 h with h | h | h | h | h
 ·exact .inl (UA h)
 ·exact .inl (Uz h)
 ·exact .inl (Eb h)
 ·exact .inl (GF h)
 ·exact .inr h
structure aGy (a:ag.cc):Prop where
 r4:∀ q∈τ.ae a.P,q∈τ.ae a.S→False
 aGw:∀ q∈τ.ae a.P,q∈τ.ae a.M→False
 aGv:∀ q∈τ.ae a.P,q∈τ.ae a.B→False
 aGx:∀ q∈τ.ae a.P,q∈τ.ae a.T→False
 aGE:∀ q∈τ.ae a.S,q∈τ.ae a.M→False
 aGD:∀ q∈τ.ae a.S,q∈τ.ae a.B→False
 ST:∀ q∈τ.ae a.S,q∈τ.ae a.T→False
 aGq:∀ q∈τ.ae a.M,q∈τ.ae a.B→False
 aai:∀ q∈τ.ae a.M,q∈τ.ae a.T→False
 aFx:∀ q∈τ.ae a.B,q∈τ.ae a.T→False
end
section
def pP (f:aE) (c:ax):Int:=if f.fe c then tq (f.place c) else 0
theorem acb {f:aE} {c:ax} (hf:f.bn=0) (hc:f.fe c=true):(uY (f.place c)== 0)=f.ground c∧(f.ground c=true→tq (f.place c)=f.gu c):=by
 obtain ⟨_,_,_,_,_,g6⟩:=aE.j5 hf;have hp:=g6 (f.place c) (by unfold aE.place;exact jj (aE.ya hf hc).1);unfold aE.ground;rw [hc];have:f.place c=0∨f.place c=1∨f.place c=2∨f.place c=3:=by omega
 unfold aE.gu uY tq;rcases this with h | h | h | h<;>rw [h]<;>simp
theorem azO {f:aE} {c:ax} (hf:f.bn=0) (h:¬ f.dD c=0):pP f c=0∧f.ground c=false:=by
 have hc:f.fe c=false:=by
  cases hc:f.fe c with
  | false=>rfl
  | true=>exact absurd (aE.ma hf hc).1 h
 unfold pP aE.ground;rw [hc];exact ⟨Z,Z⟩
theorem azN {f:aE} {c:ax} (hf:f.bn=0) (h:f.dD c=0):pP f c=tq (f.mS c)∧f.ground c=(uY (f.mS c)== 0):=by
 have hc:=S3 hf h;rw [(aE.ma hf hc).2];unfold pP;rw [hc];exact ⟨Z,(acb hf hc).1.symm⟩
theorem ai0 {f:aE} {c:ax} (hf:f.bn=0) (h:f.ground c=true):pP f c=f.gu c:=by
 have hc:=aE.jO h;unfold pP;rw [aQZ hc];exact (acb hf hc).2 h
theorem asF (p:Int) (w:World):
  Calls prog 199 #[.int .i64 p] w (λ e w'=>e= .returned (.tuple #[.int .i64 (tq p), .int .i64 (uY p)])∧Ext w w'):=by
 refine cd (n:=12) func199 Z Z Z ?_;refine aj<|va Z<|va Z<|ai<|aB<|aj<|vm Z<|ai<|bR<|aB<|aj<|J (beq Z Z)<|va Z<|ai<| ?_;refine jI Z (λ jQ=> ?_) (λ jQ=> ?_)
 ·have aKC:(p == 0)=true:=by simpa using jQ
  refine bs<| ?_;refine jI Z (λ Ve=> ?_) (λ Ve=> ?_)
  ·have aKF:(p == 0)=true:=by simpa using Ve
   refine aj<|va Z<|va Z<|ai<|rt<|ej<|bN<|bb (.tmp Z (.tmp Z .nil))<| ?_;exact ⟨by simp_all [tq,uY,ub],(Ext.bI w)⟩
  ·have aKG:(p == 0)=false:=by simpa using Ve
   refine aj<|J (beq Z Z)<|va Z<|ai<| ?_;refine jI Z (λ mj=> ?_) (λ mj=> ?_)
   ·have aKH:(p == 2)=true:=by simpa using mj
    refine aj<|va Z<|va Z<|ai<|rt<|ej<|bN<|bb (.tmp Z (.tmp Z .nil))<| ?_;exact ⟨by simp_all [tq,uY,ub],(Ext.bI w)⟩
   ·have aKI:(p == 2)=false:=by simpa using mj
    refine aj<|J (beq Z Z)<|va Z<|ai<| ?_;refine jI Z (λ ly=> ?_) (λ ly=> ?_)
    ·have aKv:(p == 1)=true:=by simpa using ly
     refine aj<|va Z<|va Z<|ai<|rt<|ej<|bN<|bb (.tmp Z (.tmp Z .nil))<| ?_;exact ⟨by simp_all [tq,uY,ub],(Ext.bI w)⟩
    ·have aKw:(p == 1)=false:=by simpa using ly
     refine e6<|bX<|aV<|aj<|va Z<|va Z<|ai<|rt<|bb (.tmp Z (.tmp Z .nil))<| ?_;exact ⟨by simp_all [tq,uY,ub],(Ext.bI w)⟩
 ·have aKx:(p == 0)=false:=by simpa using jQ
  refine rg<|J (beq Z Z)<|va Z<|ai<| ?_;refine jI Z (λ Vb=> ?_) (λ Vb=> ?_)
  ·have aKy:(p == 3)=true:=by simpa using Vb
   refine aj<|va Z<|va Z<|ai<|rt<|ej<|bN<|bb (.tmp Z (.tmp Z .nil))<| ?_;exact ⟨by simp_all [tq,uY,ub],(Ext.bI w)⟩
  ·have aKz:(p == 3)=false:=by simpa using Vb
   refine aj<|J (beq Z Z)<|va Z<|ai<| ?_;refine jI Z (λ pn=> ?_) (λ pn=> ?_)
   ·have aKA:(p == 2)=true:=by simpa using pn
    refine aj<|va Z<|va Z<|ai<|rt<|ej<|bN<|bb (.tmp Z (.tmp Z .nil))<| ?_;exact ⟨by simp_all [tq,uY,ub],(Ext.bI w)⟩
   ·have aKB:(p == 2)=false:=by simpa using pn
    refine aj<|J (beq Z Z)<|va Z<|ai<| ?_;refine jI Z (λ nJ=> ?_) (λ nJ=> ?_)
    ·have aKD:(p == 1)=true:=by simpa using nJ
     refine aj<|va Z<|va Z<|ai<|rt<|ej<|bN<|bb (.tmp Z (.tmp Z .nil))<| ?_;exact ⟨by simp_all [tq,uY,ub],(Ext.bI w)⟩
    ·have aKE:(p == 1)=false:=by simpa using nJ
     refine e6<|bX<|aV<|aj<|va Z<|va Z<|ai<|rt<|bb (.tmp Z (.tmp Z .nil))<| ?_;exact ⟨by simp_all [tq,uY,ub],(Ext.bI w)⟩
theorem rE (w0:World) (f:aE) (P F A:Option Addr) (b' fE c b:Nat) (a8:List Int) (l:List b9) (bp:ax) (p:ax) (w:World) (iL:Ext w0 w) (hf:f.bn=0) (ck:bK.aI 8 w0 P b' f.aW) (aL:aQ w b [.int .i64 f.wide, .int .i64 f.high, .slice P f.aW.length b', .int .i64 bp.x, .int .i64 bp.y, .slice F a8.length fE, .slice A l.length c] 265 (0,0)) (hp: -500≤p.x∧p.x≤500∧ -500≤p.y∧p.y≤500):
  Calls prog 166 #[.pointer (some ⟨b,0,none⟩), .agg #[.int .i64 p.x, .int .i64 p.y]] w (λ e w'=>e= .returned (.int .i64 (p.y * f.wide+p.x))∧Ext w w'):=by
 have xl:=aL.lt;obtain ⟨g1,g2,g3,g4,g5,g6⟩:=aE.j5 hf;have mB:=iL.size;refine cd (n:=16) func166 Z Z Z ?_;refine aj<|cB Z Z Z Z λ cO bJ ba eb aa=> ?_;have:=ba.size;have bk:=κ iL ba;have eh:=aa.lt;refine va Z<|ai<|aB<| ?_;refine rd [(1,0),(6,0),(9,0)] [0,1,2,3,4,5,6,7,8,9,10,11] (by kernel_rfl) (by kernel_rfl) ?_;refine aq Z (λ _=>au iw Z)<|bE Z (λ _ x=>ao Z ((aa.later x).one bd Z))<|aq Z (λ _=>aH Z)<|aq Z (λ _=>bY Z)<|aq Z (λ _=>au adr Z)<|aq Z (λ _=>au JM Z)<| ?_;have aL:=aL.later ba;refine bE Z (λ _ x=>ao Z ((aL.later x).one bd Z))<|aq Z (λ _=>yc Z Z (bG ((by have:=aTk (show p.y≤500 by omega) g2 (by omega) (by omega);have:=aTk (show -p.y≤500 by omega) g2 (by omega) (by omega);rw [Int.neg_mul] at this;omega))))<|aq Z (λ _=>au iv Z)<|bE Z (λ _ x=>ao Z ((aa.later x).one bd Z))<|aq Z (λ _=>bad Z Z (bG ((by have:=aTk (show p.y≤500 by omega) g2 (by omega) (by omega);have:=aTk (show -p.y≤500 by omega) g2 (by omega) (by omega);rw [Int.neg_mul] at this;omega))))<|aq Z (λ _=>eY Z)<|fn λ eA cF=> ?_;have:=cF.size;have bO:=κ bk cF;refine aV<|rt<|bb (.tmp Z .nil)<| ?_;exact ⟨Z,κ ba cF⟩
theorem Xq (w0:World) (f:aE) (P F A:Option Addr) (b' fE c b:Nat) (a8:List Int) (l:List b9) (bp:ax) (p:ax) (w:World) (iL:Ext w0 w) (hf:f.bn=0) (ck:bK.aI 8 w0 P b' f.aW) (aL:aQ w b [.int .i64 f.wide, .int .i64 f.high, .slice P f.aW.length b', .int .i64 bp.x, .int .i64 bp.y, .slice F a8.length fE, .slice A l.length c] 265 (0,0)):
  Calls prog 164 #[.pointer (some ⟨b,0,none⟩), .agg #[.int .i64 p.x, .int .i64 p.y]] w (λ e w'=>e= .returned (.tuple #[.int .i64 (pP f p), .bool (f.ground p)])∧Ext w w'):=by
 have xl:=aL.lt;obtain ⟨g1,g2,g3,g4,g5,g6⟩:=aE.j5 hf;have mB:=iL.size;refine cd (n:=28) func164 Z Z Z ?_;refine aj<|cB Z Z Z Z λ cO bJ ba eb aa=> ?_;have:=ba.size;have bk:=κ iL ba;have eh:=aa.lt;refine va Z<|va Z<|ai<|aB<| ?_;refine rd [(3,0),(4,0),(5,0)] [0,1,2,3,4,5,6,7,8,9,10] (by kernel_rfl) (by kernel_rfl) ?_;refine aq Z (λ _=>aH Z)<|aq Z (λ _=>bY Z)<|aq Z (λ _=>au adr Z)<| ?_;have aL:=aL.later ba;refine bE Z (λ _ x=>ao Z ((aL.later x).par [.int .i64 f.wide, .int .i64 f.high, .slice P f.aW.length b'] kN kO Z))<|bE Z (λ _ x=>ao Z ((aa.later x).all cf bS))<|pk Z Z q4 Z (λ _ x=>sa f p _ _ _ (ck.keep (κ bk x))) Z<|aq Z (λ _=>aH Z)<|aq Z (λ _=>ex Z Z)<|aq Z (λ _=>ex Z Z)<|aq Z (λ _=>eY Z)<|aq Z (λ _=>eY Z)<|fn λ eA cF=> ?_;have:=cF.size;have bO:=κ bk cF;refine aV<|aB<|aj<|vm Z<|J (bne Z Z)<|ai<| ?_;refine eH Z (λ ks=> ?_) (λ ks=> ?_)
 ·have KO:=azO hf ks;refine aj<|va Z<|va Z<|ai<|rt<|bN<|bb (.tmp Z (.tmp Z .nil))<| ?_;exact ⟨by rw [KO.1,KO.2];rfl,κ ba cF⟩
 ·have KO:=azN hf ks;refine bs<|aj<|vm Z<|ca ar6 Z Z ((asF (f.mS p) _).mono ?_);rintro e CY ⟨rfl,dm⟩;refine ⟨_,Z, ?_⟩;have:=dm.size;have n7:=κ bO dm;refine vm Z<|J (ex Z Z)<|J (ex Z Z)<|va Z<|va Z<|ai<|aj<|vm Z<|vm Z<|J (beq Z Z)<|va Z<|va Z<|ai<|rt<|bb (.tmp Z (.tmp Z .nil))<| ?_;exact ⟨by rw [KO.1,KO.2];rfl,κ (κ ba cF) dm⟩
theorem ajd (p:ax) (w:World) (hp: -100000≤p.x∧p.x≤100000∧ -100000≤p.y∧p.y≤100000):
  Calls prog 165 #[.agg #[.int .i64 p.x, .int .i64 p.y]] w (λ e w'=>e= .returned (.agg #[.int .i64 p.x, .int .i64 (p.y - 1), .int .i64 (p.x - 1), .int .i64 p.y, .int .i64 (p.x+1), .int .i64 p.y, .int .i64 p.x, .int .i64 (p.y+1)])∧Ext w w'):=by
 refine cd (n:=28) func165 Z Z Z ?_;refine aj<|cB Z Z Z Z λ cO bJ ba eb aa=> ?_;have:=ba.size;have bk:=κ (Ext.bI w) ba;have eh:=aa.lt;refine al Z ar8 Z Z λ eA cC bm hT ah=> ?_;have:=bm.size;have bO:=κ bk bm;have hI:=ah.lt;refine ai<|aj<|J (au iv Z)<| ?_;have aa:=aa.later bm;refine J (ao Z (aa.one bd Z))<|J (au iw Z)<|J (ao Z (aa.one bd Z))<|J (lV Z Z (bG (by omega)))<|J (v:= .agg #[.int .i64 p.x, .int .i64 (p.y - 1)]) (cG Z (by kernel_rfl))<|J (au iv Z)<|J (ao Z (aa.one bd Z))<|J (lV Z Z (bG (by omega)))<|J (au iw Z)<|J (ao Z (aa.one bd Z))<|J (v:= .agg #[.int .i64 (p.x - 1), .int .i64 p.y]) (cG Z (by kernel_rfl))<|J (au iv Z)<|J (ao Z (aa.one bd Z))<|J (bad Z Z (bG (by omega)))<|J (au iw Z)<|J (ao Z (aa.one bd Z))<|J (v:= .agg #[.int .i64 (p.x+1), .int .i64 p.y]) (cG Z (by kernel_rfl))<|J (au iv Z)<|J (ao Z (aa.one bd Z))<|J (au iw Z)<|J (ao Z (aa.one bd Z))<|J (bad Z Z (bG (by omega)))<|J (v:= .agg #[.int .i64 p.x, .int .i64 (p.y+1)]) (cG Z (by kernel_rfl))<|J (v:= .agg #[.int .i64 p.x, .int .i64 (p.y - 1), .int .i64 (p.x - 1), .int .i64 p.y, .int .i64 (p.x+1), .int .i64 p.y, .int .i64 p.x, .int .i64 (p.y+1)]) (cG Z (by kernel_rfl))<| ?_;refine st (new:= [.int .i64 p.x, .int .i64 (p.y - 1), .int .i64 (p.x - 1), .int .i64 p.y, .int .i64 (p.x+1), .int .i64 p.y, .int .i64 p.x, .int .i64 (p.y+1)]) Z Z ah Z adB Z Z Z λ hj EM ah=> ?_;have:=EM.size;have cV:=Ext.mod bO EM bw;refine ai<|rt<|bb (.cell Z (ah.all ar9 adB) .nil)<| ?_;exact ⟨Z,cV⟩
end
section
theorem q5 {P:Program} {n:Nat} {ops:Array Oper} {Q:Exit→Act→World→Prop} {aZ:Nat→Nat} {bZ:List Nat} {E:List (Nat×Value)} {w0:World} {i d:Nat} {op:Op} {ty:TypeId} {pos:String} {af:Array Edge} {j:Nat} {q:Bool} {u:Value} {c9:Oper} {jq:Nat} (ar:ops[i]? =some ⟨some d,op,ty,pos,af,some (j,q)⟩) (av:Nat.ble (aZ i) 1=true) (ay:ops[j]? =some c9) (mX:c9.dst=some jq) (Φ:look E jq=some (h0 false u)) (hd:Nat.blt d n=true)
  (h:jG P n ops Q aZ bZ ((d,undef)::E) w0):jG P n ops Q aZ (i::bZ) E w0:=λ a ha=>by
 have γ:=ha.g _ _ Φ;simp only [h0,aRr,aRZ] at γ;have hw:Region.wanted ⟨some d,op,ty,pos,af,some (j,q)⟩ (yielded ops a.tmps)=false:=by simp [Region.wanted,yielded,ay,mX,γ,undef]
 have av:=aSR av;rcases aRG 0 (aZ i) with aF | aF
 ·exact ⟨_,ar, .inr (.inl ⟨by omega,undef, .inr ⟨hw,rfl⟩,h _ (ha.put hd _)⟩)⟩
 ·exact ⟨_,ar, .inl ⟨by omega,undef, .inr ⟨hw,rfl⟩,h _ (ha.put hd _)⟩⟩
end
section
theorem Xt (w0:World) (f:aE) (P F A:Option Addr) (b' fE c b:Nat) (a8:List Int) (l:List b9) (bp:ax) (p:ax) (d:Int) (w:World) (iL:Ext w0 w) (hf:f.bn=0) (ck:bK.aI 8 w0 P b' f.aW) (aL:aQ w b [.int .i64 f.wide, .int .i64 f.high, .slice P f.aW.length b', .int .i64 bp.x, .int .i64 bp.y, .slice F a8.length fE, .slice A l.length c] 265 (0,0)) (Φ:w0.heap.size≤b) (s0:b9.rep.aG 313 32 w w0.heap.size (τ.ae A) A c l) (PA:∀ q∈τ.ae A,q=b→False) (ea:∀ y∈l,y.ok) (az:l.length≤1000000) (hp: -500≤p.x∧p.x≤500∧ -500≤p.y∧p.y≤500) (aD: -500≤bp.x∧bp.x≤500∧ -500≤bp.y∧bp.y≤500) (hd:0≤d∧d≤100000):
  Calls prog 197 #[.pointer (some ⟨b,0,none⟩), .agg #[.int .i64 p.x, .int .i64 p.y], .int .i64 d] w (λ e w'=>∃ bH bV,e= .returned (.tuple #[])∧aQ w' b [.int .i64 f.wide, .int .i64 f.high, .slice P f.aW.length b', .int .i64 bp.x, .int .i64 bp.y, .slice F a8.length fE, .slice bH ((ct.push b9.all l ⟨p,d,d+aE.kr bp p⟩).length) bV] 265 (0,0)∧b9.rep.aG 313 32 w' w0.heap.size (τ.ae bH) bH bV (ct.push b9.all l ⟨p,d,d+aE.kr bp p⟩)∧(∀ q∈τ.ae bH,q=b→False)∧(∀ q∈τ.ae bH,q∈τ.ae A∨w.heap.size≤q)∧Mod (b::τ.ae A) w w'):=by
 have xl:=aL.lt;obtain ⟨g1,g2,g3,g4,g5,g6⟩:=aE.j5 hf;have mB:=iL.size;have aCH:=λ q I=>(s0.lt q I).2;have pD:=s0.has.d_;have yB:∀ q∈b::τ.ae A,w0.heap.size≤q:=λ q I=>(aQ7.1 I).elim (λ h=>by omega) λ h=>(s0.lt q h).1;have aJ6:=iP (bp.x - p.x);have aJ7:=iP (bp.y - p.y);refine cd (n:=32) func197 Z Z Z ?_;refine aj<|cB Z Z Z Z λ cO bJ ba eb aa=> ?_;have:=ba.size;have bk:=(Mod.bI (b::τ.ae A) w).trans (Mod.bD ba);have eh:=aa.lt;refine ai<|aB<| ?_;refine rd [(0,0),(4,0),(5,0)] [0,1,2,3,4,5,6,7,8,9,10,11,12] (by kernel_rfl) (by kernel_rfl) ?_;refine bE Z (λ _ x=>ao Z ((aa.later x).all cf bS))<|aq Z (λ _=>aH Z)<|aq Z (λ _=>bY Z)<|aq Z (λ _=>au adC Z)<| ?_;have aL:=aL.later ba;refine bE Z (λ _ x=>ao Z ((aL.later x).par [.int .i64 bp.x, .int .i64 bp.y] cf bS Z))<|pk Z Z adD Z (λ _ x=>abg p bp _ (by omega) (by omega)) Z<|aq Z (λ _=>aH Z)<|aq Z (λ _=>ex Z Z)<|aq Z (λ _=>ex Z Z)<|aq Z (λ _=>ex Z Z)<|aq Z (λ _=>eY Z)<|aq Z (λ _=>eY Z)<|aq Z (λ _=>eY Z)<|fn λ eA cF=> ?_;have:=cF.size;have bO:=bk.trans (Mod.bD cF);refine aV<| ?_;refine rd [(4,0),(12,3)] [0,1,2,3,4,5,6,7,8,9,10,11,12] (by kernel_rfl) (by kernel_rfl) ?_;refine aq Z (λ _=>aH Z)<|aq Z (λ _=>bY Z)<|aq Z (λ _=>au D9 Z)<|aq Z (λ _=>Qv (λ w=>by kernel_rfl) Z)<| ?_;have aa:=aa.later cF;refine bE Z (λ _ x=>ao Z ((aa.later x).all cf bS))<|aq Z (λ _=>aH Z)<|aq Z (λ _=>aH Z)<|aq Z (λ _=>aH Z)<|aq Z (λ _=>yc Z Z (bG (by omega)))<|aq Z (λ _=>bad Z Z (bG (by omega)))<|q7 (v:= .agg #[.int .i64 p.x, .int .i64 p.y, .int .i64 d, .int .i64 (d+(2 * (cn (bp.x - p.x)+cn (bp.y - p.y))))]) Z Z (λ _=>cG Z (by kernel_rfl)) Z<|aq Z (λ _=>Qv (λ w=>by kernel_rfl) Z)<| ?_;have s0:=s0.later (κ ba cF);have aL:=aL.later cF;refine eo Z Z Z λ uj kV Q hK=>ca asa Z Z ((aEf b A c w0.heap.size l (.int .i64 f.wide) (.int .i64 f.high) (.slice P f.aW.length b') (.int .i64 bp.x) (.int .i64 bp.y) (.slice F a8.length fE) ((⟨⟨p.x,p.y⟩,d,d+(2 * (cn (bp.x - p.x)+cn (bp.y - p.y)))⟩:b9)) _ (aL.later kV) (s0.later kV) ea PA ⟨bM.2 (by dsimp only;omega),bM.2 (by dsimp only;omega),bM.2 (by dsimp only;omega),bM.2 (by dsimp only;omega)⟩ az (by have:=kV.size;omega)).mono ?_);rintro e hj ⟨alR,aoE,rfl,Sl,Nu,afo,WW⟩;refine ⟨_,Z,hK _ _ ?_⟩;have:=kV.size;have jB:=bO.trans (Mod.bD kV);have:=WW.size;have cV:=jB.md WW (λ q I=> .inl I);have uh:=λ q I=>(Nu.lt q I).2;refine fn λ H9 ux=> ?_;have:=ux.size;have uA:=cV.trans (Mod.bD ux);refine ne<|bb .nil<| ?_;have Nu:=Nu.later ux;have Sl:=Sl.later ux;exact ⟨alR,aoE,Z,Sl,Nu,λ q I Φ=>by exfalso;(exact aQ2 (afo q I) (λ ahe=>by (exact PA q ahe Φ)) (λ ahe=>by omega)),λ q I=>(afo q I).imp id λ h=>by omega,uA⟩
end
end Go.Proofs.YtlikikpgmmkjbaaGreat
