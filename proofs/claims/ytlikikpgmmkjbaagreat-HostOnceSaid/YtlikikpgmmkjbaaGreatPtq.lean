import Derived.Test.YtlikikpgmmkjbaaGreatEqI
set_option linter.unusedVariables false
set_option linter.unusedSimpArgs false
set_option maxRecDepth 100000
set_option maxHeartbeats 4000000
open Go.RowKit
namespace Go.Proofs.YtlikikpgmmkjbaaGreat
open Tryz
open Tryz
abbrev aTs:=@Int.lt_or_le
abbrev aVC:=@Go.bodyPost_ret

def aE.pL (p:Int):Bool:= !aE.RA p
theorem api {p:Int}:(p<0→aE.pL p=true)∧(4≤p→aE.pL p=true)∧(0≤p→p<4→aE.pL p=false):=by
 unfold aE.pL aE.RA;refine ⟨λ h=>by rw [p4 (.inl h)];rfl,λ h=>by rw [p4 (.inr (by omega))];rfl,λ τ aa=>by rw [o3 τ (by omega)];rfl⟩
theorem atN (p:Int) (w:World):Calls prog 124 #[.int .i64 p] w λ e w'=>e= .returned (.bool (aE.pL p))∧Below w.heap.size w w':=by
 obtain ⟨mI,fz,gR⟩:=api (p:=p);rcases aTs p 0 with h | h
 ·have Φ:=mI h;have hd:decide (p<0)=true:=by simpa using h
  rw [Φ];clear mI fz gR Φ;go_enter func124,ntmps124;go_wp2
  go_ret;exact ⟨Z,aR8 _ _⟩
 ·rcases aTs p 4 with a1 | a1
  ·have Φ:=gR h a1;have hd:decide (p<0)=false:=by simpa using h
   rw [Φ];clear mI fz gR Φ;go_enter func124,ntmps124;go_wp2
   go_ret;exact ⟨h4 (by simp<;>omega),aR8 _ _⟩
  ·have Φ:=fz a1;have hd:decide (p<0)=false:=by simpa using h
   rw [Φ];clear mI fz gR Φ;go_enter func124,ntmps124;go_wp2
   go_ret;exact ⟨h4 (by simp<;>omega),aR8 _ _⟩
theorem aya  (A:Option Addr) (c:Nat) (l:List Int) (w:World) (az:bP.aJ 8 w A c l):
  Calls prog 157 #[.slice A l.length c, .func (.func 124) #[] #[]] w λ e w'=>e= .returned (.int .i64 (fT (aE.pL) l))∧Below w.heap.size w w':=by
 obtain ⟨n,hn⟩:∃ n,l.length=n:=⟨_,rfl⟩;have hle:n≤9223372036854775807:=by have:=az.1;have:=az.2.1;omega
 rw [hn];have qD:=aRF az;have fe:=aRF hn;clear az hn;go_enter func157,ntmps157;go_wp2_with fail
 go_loopw [5,8] (λ _ hi wr=>∃ k:Nat,k≤n∧hi= .int .i64 (k:Int)∧Hid (∀ j (ay:j<k) (r6:j<l.length),(aE.pL) l[j]=false)∧Below w.heap.size w wr) (λ _ hi _=>n - (intOf hi).toNat)
 case atStart=>exact ⟨0,aSo _,rfl,(λ j ay=>by omega),aR8 _ _⟩
 case round =>
  obtain ⟨k,ar,rfl,hY,Φ⟩:=hrel;by_cases bw:k<n
  ·have ja:k<l.length:=by rw [fe.out];exact bw
   obtain ⟨b,o,rfl,jA⟩:=FU (qD.out.keep Φ) (by omega);obtain ⟨x,se⟩:∃ x,l[k]'ja=x:=⟨_,rfl⟩;have mX:=jA k x (by rw [aRD ja,se]);have w8:=aRF se

   have hc:=atN x wr;clear jA se;cases jz:(aE.pL) x with
   | true =>
    have k9:fT (aE.pL) l=(k:Int):=Fo ja (by rw [w8.out];exact jz) λ j ay=>hY.out j ay (by omega);rw [jz] at hc;have rz:=aRF k9;clear k9 jz;go_wp2_with (go_at_call 124;refine hc.mono ?_;rintro e w' ⟨rfl,bx⟩)
    go_ret;exact ⟨by rw [rz.out];rfl,Φ.trans (bx.mono Φ.size)⟩
   | false =>
    rw [jz] at hc;have px:Hid (∀ j (ay:j<k+1) (r6:j<l.length),(aE.pL) l[j]=false):=by
     intro j ay r6;by_cases h:j<k
     ·exact hY.out j h r6
     ·obtain rfl:j=k:=by omega
      rw [w8.out];exact jz
    clear jz;go_wp2_with (go_at_call 124;refine hc.mono ?_;rintro e w' ⟨rfl,bx⟩)
    go_roundw
    case rel=>exact ⟨k+1,by omega,by go_num,px,Φ.trans (bx.mono Φ.size)⟩
    case measure=>simp [intOf];omega
  ·have k9:fT (aE.pL) l= -1:=Fm λ j ay=>hY.out j (by have:=fe.out;omega) ay;have rz:=aRF k9;clear k9;go_wp2_with fail
   go_ret;exact ⟨by rw [rz.out];rfl,Φ⟩
theorem avD  (A:Option Addr) (c:Nat) (l:List Int) (w:World) (az:bP.aJ 8 w A c l):
  Calls prog 123 #[.slice A l.length c, .func (.func 124) #[] #[]] w λ e w'=>e= .returned (.bool (l.any (aE.pL)))∧Below w.heap.size w w':=by
 have hc:=aya  A c l w az ;rw [← LV];generalize fT (aE.pL) l=r at *
 generalize l.length=n at *
 clear az ;go_enter func123,ntmps123;go_wp2_with (go_at_call 157;refine hc.mono ?_;rintro e w' ⟨rfl,bx⟩)
 go_ret;exact ⟨Z,bx⟩
theorem SI (n lo aq:Int) (w:World):Calls prog 127 #[.int .i64 n, .int .i64 lo, .int .i64 aq] w λ e w'=>e= .returned (.bool (cO n lo aq))∧w=w':=by
 rcases aTs n lo with h | h
 ·rw [p4 (.inl h)];go_enter func127,ntmps127;go_wp2
  go_ret;exact ⟨Z,Z⟩
 ·rcases aTs aq n with a1 | a1
  ·rw [p4 (.inr a1)];go_enter func127,ntmps127;go_wp2
   go_ret;exact ⟨h4 (by simp<;>omega),Z⟩
  ·rw [o3 h a1];go_enter func127,ntmps127;go_wp2
   go_ret;exact ⟨h4 (by simp<;>omega),Z⟩
theorem akU (n:Int) (w:World):Calls prog 122 #[.int .i64 n] w λ e w'=>e= .returned (.bool (cO n 1 40))∧w=w':=by
 rcases aTs n 1 with h | h
 ·rw [p4 (.inl h)];go_enter func122,ntmps122;go_wp2
  go_ret;exact ⟨Z,Z⟩
 ·rcases aTs 40 n with a1 | a1
  ·rw [p4 (.inr a1)];go_enter func122,ntmps122;go_wp2
   go_ret;exact ⟨h4 (by simp<;>omega),Z⟩
  ·rw [o3 h a1];go_enter func122,ntmps122;go_wp2
   go_ret;exact ⟨h4 (by simp<;>omega),Z⟩
open Tryz

theorem aE.aqx {f:aE} (τ:cO f.wide 1 40=true) (aa:cO f.high 1 40=true) (aw:¬ (f.aZ.length:Int)=f.wide * f.high):f.bo=4:=by
 unfold aE.bo;rw [τ,aa,aSk aw];rfl
theorem aE.aqu {f:aE} (τ:cO f.wide 1 40=true) (aa:cO f.high 1 40=true) (aw:(f.aZ.length:Int)=f.wide * f.high):f.bo=if f.aZ.any aE.pL then 4 else 0:=by
 unfold aE.bo;rw [τ,aa,aSe aw];have:f.aZ.all aE.RA= !f.aZ.any aE.pL:=by
  rw [List.all_eq_not_any_not];rfl
 rw [this];cases f.aZ.any aE.pL<;>rfl
theorem aeN (f:aE) (A:Option Addr) (c:Nat) (w:World) (ck:bP.aJ 8 w A c f.aZ):
  Calls prog 88 #[.agg #[.int .i64 f.wide, .int .i64 f.high, .slice A f.aZ.length c]] w λ e w'=>e= .returned (.int .i64 f.bo)∧Below w.heap.size w w':=by
 have Φ:=lx w (.cells #[.int .i64 f.wide, .int .i64 f.high, .slice A f.aZ.length c] 24);have fj:=akU f.wide;have gC:=akU f.high;have hle:f.aZ.length≤9223372036854775807:=by have:=ck.1;have:=ck.2.1;omega
 cases τ:cO f.wide 1 40 with
 | false =>
  rw [τ] at fj;rw [aE.acS (by rw [τ];rfl)];clear τ gC ck;go_enter func88,ntmps88;go_wp2_with (go_at_call 122;refine (fj _).mono ?_;rintro e w' ⟨rfl,rfl⟩)
  go_ret;exact ⟨Z,Φ⟩
 | true =>
  rw [τ] at fj;cases aa:cO f.high 1 40 with
  | false =>
   rw [aa] at gC;rw [aE.acS (by rw [τ,aa];rfl)];clear τ aa ck;go_enter func88,ntmps88;go_wp2_with fail
   refine (fj _).mono ?_;rintro e w' ⟨rfl,rfl⟩;go_wp2_with fail
   refine (gC _).mono ?_;rintro e w' ⟨rfl,rfl⟩;go_wp2_with fail
   go_ret;exact ⟨Z,Φ⟩
  | true =>
   rw [aa] at gC;have hw:=kO τ;have fC:=kO aa;have A':0≤f.wide * f.high:=aU3 (by omega) (by omega);have HY:f.wide * f.high≤40 * 40:=aUd hw.2 fC.2 (by omega) (by omega);by_cases aw:(f.aZ.length:Int)=f.wide * f.high
   ·have hc:=avD A c f.aZ _ (ck.keep Φ);have hd:((f.aZ.length:Int)== f.wide * f.high)=true:=by simpa using aw
    have HO:((f.aZ.length:Int) != f.wide * f.high)=false:=by simpa using aw
    rw [aE.aqu τ aa aw];clear τ aa aw ck;generalize f.aZ.any aE.pL=r at *
    generalize f.aZ.length=n at *
    cases r with
    | true =>
     go_enter func88,ntmps88;go_wp2_with fail
     refine (fj _).mono ?_;rintro e w' ⟨rfl,rfl⟩;go_wp2_with fail
     refine (gC _).mono ?_;rintro e w' ⟨rfl,rfl⟩;go_wp2_with fail
     refine hc.mono ?_;rintro e w' ⟨rfl,bx⟩;go_wp2_with fail
     go_ret;exact ⟨Z,Φ.trans (bx.mono Φ.size)⟩
    | false =>
     go_enter func88,ntmps88;go_wp2_with fail
     refine (fj _).mono ?_;rintro e w' ⟨rfl,rfl⟩;go_wp2_with fail
     refine (gC _).mono ?_;rintro e w' ⟨rfl,rfl⟩;go_wp2_with fail
     refine hc.mono ?_;rintro e w' ⟨rfl,bx⟩;go_wp2_with fail
     go_ret;exact ⟨Z,Φ.trans (bx.mono Φ.size)⟩
   ·have hd:((f.aZ.length:Int)== f.wide * f.high)=false:=by simpa using aw
    have HO:((f.aZ.length:Int) != f.wide * f.high)=true:=by simpa using aw
    rw [aE.aqx τ aa aw];clear τ aa aw ck;generalize f.aZ.length=n at *
    go_enter func88,ntmps88;go_wp2_with fail
    refine (fj _).mono ?_;rintro e w' ⟨rfl,rfl⟩;go_wp2_with fail
    refine (gC _).mono ?_;rintro e w' ⟨rfl,rfl⟩;go_wp2_with fail
    go_ret;exact ⟨Z,Φ⟩
theorem aiF (w:World):Calls prog 128 #[.int .i64 1] w λ e w'=>e= .returned (.tuple #[.agg #[.int .i64 10, .int .i64 1, .int .i64 1, .int .i64 5], .int .i64 0])∧Below w.heap.size w w':=by
 go_enter func128,ntmps128;go_wp2
 refine aVC (v:= .tuple #[.agg #[.int .i64 10, .int .i64 1, .int .i64 1, .int .i64 5], .int .i64 0]) (by simp [results,results128,go_sem]) Z ⟨Z,(aR8 _ _).alloc (aRN _) _⟩
theorem aiG (w:World):Calls prog 128 #[.int .i64 2] w λ e w'=>e= .returned (.tuple #[.agg #[.int .i64 20, .int .i64 2, .int .i64 4, .int .i64 12], .int .i64 0])∧Below w.heap.size w w':=by
 go_enter func128,ntmps128;go_wp2
 refine aVC (v:= .tuple #[.agg #[.int .i64 20, .int .i64 2, .int .i64 4, .int .i64 12], .int .i64 0]) (by simp [results,results128,go_sem]) Z ⟨Z,(aR8 _ _).alloc (aRN _) _⟩
theorem aiH (k:Int) (w:World) (h:cO k 1 2=false):Calls prog 128 #[.int .i64 k] w λ e w'=>e= .returned (.tuple #[.agg #[.int .i64 0, .int .i64 0, .int .i64 0, .int .i64 0], .int .i64 1])∧Below w.heap.size w w':=by
 have cI:=aye h;have τ:(k == 1)=false:=by simp;omega
 have aa:(k == 2)=false:=by simp;omega
 clear h cI;go_enter func128,ntmps128;go_wp2
 refine aVC (v:= .tuple #[.agg #[.int .i64 0, .int .i64 0, .int .i64 0, .int .i64 0], .int .i64 1]) (by simp [results,results128,go_sem]) Z ⟨Z,(aR8 _ _).alloc (aRN _) _⟩
open Tryz

theorem YT {k k':IntKind} {a b a' rH:Int} (τ:a=a') (aa:b=rH):Ending.returned (.tuple #[.int k a, .int k' b])= .returned (.tuple #[.int k a', .int k' rH]):=by rw [τ,aa]
def aaj (f:aE) (c:ax) (w:World) (e:Ending) (w':World):Prop:=e= .returned (.tuple #[.int .i64 (f.nr c), .int .i64 (f.dI c)])∧Below w.heap.size w w'
theorem Vu (f:aE) (p:ax) (A:Option Addr) (c:Nat) (w:World) (ck:bP.aJ 8 w A c f.aZ):
  Calls prog 158 #[.agg #[.int .i64 f.wide, .int .i64 f.high, .slice A f.aZ.length c], .agg #[.int .i64 p.x, .int .i64 p.y]] w (aaj f p w):=by
 have hA:=aR.new w (ah.Hq A c f) 24 (0,0);have Φ:=lx w (.cells (ah.Hq A c f).toArray 24 (0,0));have aX:=aR.new (w.alloc (.cells (ah.Hq A c f).toArray 24 (0,0))) p.cells 49 (0,0);have cT:=lx (w.alloc (.cells (ah.Hq A c f).toArray 24 (0,0))) (.cells p.cells.toArray 49 (0,0));have kl:=hA.later cT;have p0:=Φ.trans (cT.mono Φ.size);have hc:=aeN f A c _ (ck.keep p0);have K0:=ck.keep p0;obtain ⟨aP,pB⟩:∃ aP,Hid ((w.alloc (.cells (ah.Hq A c f).toArray 24 (0,0))).alloc (.cells p.cells.toArray 49 (0,0))=aP):=⟨_,aRF rfl⟩;rw [pB.out] at kl aX hc p0 K0;rw [World.size_alloc] at aX;clear hA Φ cT ck;have hP:∀ K:World→Prop,K aP→K ((w.alloc (.cells #[.int .i64 f.wide, .int .i64 f.high, .slice A f.aZ.length c] 24)).alloc (.cells #[.int .i64 p.x, .int .i64 p.y] 49)):=λ K h=>by
  have:=pB.out;rw [← this] at h;exact h
 by_cases aH:f.bo=0
 ·have ny:=aE.ez aH;obtain ⟨g1,g2,g3,g4,_,_⟩:=aE.jM aH;rw [aH] at hc;by_cases dp:0≤p.x∧p.x<f.wide∧0≤p.y∧p.y<f.high
  ·obtain ⟨i1,i2,i3,i4⟩:=dp;have hIn:=aE.ayn i1 i2 i3 i4;obtain ⟨a_,bj⟩:=aE.mH aH hIn;obtain ⟨fw,fa,_⟩:=aE.idx aH hIn;have DU:0≤p.y * f.wide:=aU3 i3 (by omega);have NC:p.y * f.wide≤1600:=by omega
   obtain ⟨b,o,rfl,jA⟩:=FU K0 (by omega);have hce:=jA (p.y * f.wide+p.x).toNat (f.place p) (by
    unfold aE.place;rw [aRB,aRD (show (p.y * f.wide+p.x).toNat<f.aZ.length by omega)];rfl)
   have anJ:=aRF hce;have jm:=aRF (And.intro a_ bj);have ue:=aRF kl;have aN:=aRF aX;have d1:decide (p.x<0)=false:=by simpa using i1
   have d2:decide (p.y<0)=false:=by simpa using i3
   clear aH hIn a_ bj jA hce K0 kl aX;go_enter func158,ntmps158;go_wp2_with fail
   refine hP (λ W=>Calls _ _ _ W _) ?_;refine hc.mono ?_;rintro e cH ⟨rfl,bx⟩;obtain ⟨mX,lH,mY⟩:=ah.aeE (ue.out.later bx);obtain ⟨Dp,r1⟩:=ax.ft (aN.out.later bx);have aJ2:=cell_later bx anJ.out;go_wp2_with fail
   go_ret2
   exact ⟨YT jm.out.2.symm jm.out.1.symm,p0.trans (bx.mono p0.size)⟩
  ·have H0:p.x<0∨f.wide≤p.x∨p.y<0∨f.high≤p.y:=by omega
   have jm:=aRF (aE.Kf aH (aE.ayo H0));have ue:=aRF kl;have aN:=aRF aX;clear aH K0 kl aX dp;have anT:=aRF H0;clear H0;go_enter func158,ntmps158;go_wp2_with fail
   refine hP (λ W=>Calls _ _ _ W _) ?_;refine hc.mono ?_;rintro e cH ⟨rfl,bx⟩;obtain ⟨mX,lH,mY⟩:=ah.aeE (ue.out.later bx);obtain ⟨Dp,r1⟩:=ax.ft (aN.out.later bx);have key:decide (p.x<0)=true∨(decide (p.x<0)=false∧decide (f.wide≤p.x)=true)∨(decide (p.x<0)=false∧decide (f.wide≤p.x)=false∧decide (p.y<0)=true)∨(decide (p.x<0)=false∧decide (f.wide≤p.x)=false∧decide (p.y<0)=false∧decide (f.high≤p.y)=true):=by
    have:=anT.out;by_cases dO:p.x<0
    ·simp [dO]
    by_cases dY:f.wide≤p.x
    ·simp [dO,dY]
    by_cases kP:p.y<0
    ·simp [dO,dY,kP]
    ·simp [dO,dY,kP];omega
   rcases key with h | ⟨h,aa⟩ | ⟨h,aa,aw⟩ | ⟨h,aa,aw,a1⟩
   all_goals
    go_wp2_with fail
    go_ret2
    exact ⟨YT jm.out.2.symm jm.out.1.symm,p0.trans (bx.mono p0.size)⟩
 ·obtain ⟨a_,bj⟩:=aE.T7 (c:=p) aH;have jm:=aRF (And.intro a_ bj);have fh:(f.bo == 0)=false:=by simpa using aH
  have aKR:(f.bo != 0)=true:=by simpa using aH
  clear a_ bj aH K0 kl aX;generalize f.bo=k at *
  go_enter func158,ntmps158;go_wp2_with fail
  refine hP (λ W=>Calls _ _ _ W _) ?_;refine hc.mono ?_;rintro e cH ⟨rfl,bx⟩;go_wp2_with fail
  go_ret2
  exact ⟨YT jm.out.2.symm jm.out.1.symm,p0.trans (bx.mono p0.size)⟩
theorem KT (f:aE) (p:ax) (A:Option Addr) (c:Nat) (w:World) (ck:bP.aJ 8 w A c f.aZ) (aH:f.bo=0):
  Calls prog 125 #[.agg #[.int .i64 f.wide, .int .i64 f.high, .slice A f.aZ.length c], .agg #[.int .i64 p.x, .int .i64 p.y]] w λ e w'=>e= .returned (.bool (f.ground p))∧Below w.heap.size w w':=by
 have Φ:=lx w (.cells #[.int .i64 f.wide, .int .i64 f.high, .slice A f.aZ.length c] 24);have cT:=lx (w.alloc (.cells #[.int .i64 f.wide, .int .i64 f.high, .slice A f.aZ.length c] 24)) (.cells #[.int .i64 p.x, .int .i64 p.y] 49);have p0:=Φ.trans (cT.mono Φ.size);have hc:=Vu f p A c _ (ck.keep p0);unfold aaj at hc;clear Φ cT ck;cases dp:f.fk p with
 | true =>
  obtain ⟨a_,bj⟩:=aE.mH aH dp;rw [a_,bj] at hc;have aK:f.ground p=(f.place p != 1):=by unfold aE.ground;rw [dp];rfl
  rw [aK];clear a_ bj dp aK aH;generalize f.place p=v at *
  generalize f.aZ.length=n at *
  cases hv:v != 1 with
  | true =>
   have C7:(v == 1)=false:=by simpa using hv
   go_enter func125,ntmps125;go_wp2_with fail
   refine hc.mono ?_;rintro e cH ⟨rfl,bx⟩;go_wp2_with fail
   go_ret;exact ⟨h4 (by simp),p0.trans (bx.mono p0.size)⟩
  | false =>
   have C7:(v == 1)=true:=by simpa using hv
   go_enter func125,ntmps125;go_wp2_with fail
   refine hc.mono ?_;rintro e cH ⟨rfl,bx⟩;go_wp2_with fail
   go_ret;exact ⟨h4 (by simp),p0.trans (bx.mono p0.size)⟩
 | false =>
  obtain ⟨a_,bj⟩:=aE.Kf aH dp;rw [a_,bj] at hc;have aK:f.ground p=false:=by unfold aE.ground;rw [dp];rfl
  rw [aK];clear a_ bj dp aK aH;generalize f.aZ.length=n at *
  go_enter func125,ntmps125;go_wp2_with fail
  refine hc.mono ?_;rintro e cH ⟨rfl,bx⟩;go_wp2_with fail
  go_ret;exact ⟨Z,p0.trans (bx.mono p0.size)⟩
open Tryz

def ax.is (p x:ax):Bool:=decide (x=p)
theorem ax.ayq {p x:ax} (h:ax.is p x=true):x=p:=by simpa [ax.is] using h
theorem ax.ayp {p x:ax} (h:ax.is p x=false):((p.x == x.x)=false)∨((p.x == x.x)=true∧(p.y == x.y)=false):=by
 have:¬ x=p:=by simpa [ax.is] using h
 obtain ⟨a,b⟩:=p;obtain ⟨c,d⟩:=x;simp at this ⊢;omega
theorem ax6 (p:ax) (A:Option Addr) (c:Nat) (l:List ax) (w:World) (az:ax.rep.aJ 16 w A c l):
  Calls prog 159 #[.slice A l.length c, .agg #[.int .i64 p.x, .int .i64 p.y]] w λ e w'=>e= .returned (.int .i64 (fT (ax.is p) l))∧Below w.heap.size w w':=by
 obtain ⟨n,hn⟩:∃ n,l.length=n:=⟨_,rfl⟩;have hle:n≤9223372036854775807:=by have:=az.1;have:=az.2.1;omega
 rw [hn];have cF:=lx w (.cells #[.int .i64 p.x, .int .i64 p.y] 49);have aN:=aRF (aR.new w p.cells 49 (0,0));have qD:=aRF (az.keep cF);have fe:=aRF hn;clear az hn;go_enter func159,ntmps159;go_wp2_with fail
 obtain ⟨w0,jo⟩:∃ w0,Hid (w0=w.alloc (.cells #[.int .i64 p.x, .int .i64 p.y] 49)):=⟨_,aRF rfl⟩;rw [← jo.out] at cF ⊢;have aN:Hid (aR w0 w.heap.size p.cells 49 (0,0)):=by rw [jo.out];exact aN
 have qD:Hid (ax.rep.aJ 16 w0 A c l):=by rw [jo.out];exact qD
 go_loopw [5,8] (λ _ hi wr=>∃ k m:Nat,k≤n∧hi= .int .i64 (k:Int)∧Hid (∀ j (ay:j<k) (r6:j<l.length),(ax.is p) l[j]=false)∧Hid (wr=w0.drewN m)) (λ _ hi _=>n - (intOf hi).toNat)
 case atStart=>exact ⟨0,0,aSo _,rfl,(λ j ay=>by omega),rfl⟩
 case round =>
  obtain ⟨k,m,ar,rfl,hY,Cc⟩:=hrel;by_cases bw:k<n
  ·have ja:k<l.length:=by rw [fe.out];exact bw
   have afp:ax.rep.aJ 16 wr A c l:=by rw [Cc.out];exact qD.out.drewN m
   have afi:aR wr w.heap.size p.cells 49 (0,0):=by rw [Cc.out];exact aN.out.drewN m
   have CV:Below w.heap.size w wr:=by rw [Cc.out];exact below_drewN cF m
   obtain ⟨b,o,rfl,jA⟩:=ax.at_ afp (by omega);obtain ⟨x,se⟩:∃ x,l[k]'ja=x:=⟨_,rfl⟩;obtain ⟨mX,lH⟩:=jA k x (by rw [aRD ja,se]);obtain ⟨Dp,r1⟩:=ax.ft afi;have w8:=aRF se;have ob:(k:Int)<(n:Int):=by omega
   have oY:(0:Int)≤(k:Int):=by omega
   clear jA se afp afi;cases jz:(ax.is p) x with
   | true =>
    have k9:fT (ax.is p) l=(k:Int):=Fo ja (by rw [w8.out];exact jz) λ j ay=>hY.out j ay (by omega);have rz:=aRF k9;have axS:=ax.ayq jz;subst axS;clear k9 jz;go_wp2_with fail
    go_quiet (fail)
    go_wp2_with fail
    go_ret;exact ⟨by rw [rz.out];rfl,below_drewN CV _⟩
   | false =>
    have px:Hid (∀ j (ay:j<k+1) (r6:j<l.length),(ax.is p) l[j]=false):=by
     intro j ay r6;by_cases h:j<k
     ·exact hY.out j h r6
     ·obtain rfl:j=k:=by omega
      rw [w8.out];exact jz
    have fh:=ax.ayp jz;clear jz;rcases fh with τ | ⟨τ,aa⟩
    all_goals
     go_wp2_with fail
     go_quiet (fail)
     go_wp2_with fail
     go_roundw
     case rel=>exact ⟨k+1,_,by omega,by go_num,px,by show _=_;rw [Cc.out];simp;rfl⟩
     case measure=>simp [intOf];omega
  ·have k9:fT (ax.is p) l= -1:=Fm λ j ay=>hY.out j (by have:=fe.out;omega) ay;have rz:=aRF k9;have axP:=Cc.out;subst axP;clear k9;go_wp2_with fail
   go_ret;exact ⟨by rw [rz.out];rfl,below_drewN cF _⟩
theorem avB (p:ax) (A:Option Addr) (c:Nat) (l:List ax) (w:World) (az:ax.rep.aJ 16 w A c l):
  Calls prog 126 #[.slice A l.length c, .agg #[.int .i64 p.x, .int .i64 p.y]] w λ e w'=>e= .returned (.bool (l.contains p))∧Below w.heap.size w w':=by
 have cF:=lx w (.cells #[.int .i64 p.x, .int .i64 p.y] 49);have hc:=ax6 p A c l _ (az.keep cF);have pX:l.contains p=decide (0≤fT (ax.is p) l):=by
  rw [LV,List.contains_eq_any_beq];congr 1
  funext x
  unfold ax.is;by_cases h:x=p
  ·simp [h]
  ·simp [h,aUi h]
 rw [pX];generalize fT (ax.is p) l=r at *
 generalize l.length=n at *
 clear az pX;go_enter func126,ntmps126;go_wp2_with (go_at_call 159;refine hc.mono ?_;rintro e w' ⟨rfl,bx⟩)
 go_ret;exact ⟨Z,cF.trans (bx.mono cF.size)⟩
open Tryz
section
theorem bq.Ps {w:World} {aC:Nat} {a:ah.b5} {W:ah} (h:bq w aC a W):
  (∀ x∈κ.ae a.M,x∉κ.ae a.P∧x∉κ.ae a.B∧x∉κ.ae a.S∧x∉κ.ae a.T)∧
  (∀ x∈κ.ae a.T,x∉κ.ae a.P∧x∉κ.ae a.B∧x∉κ.ae a.S∧x∉κ.ae a.M)∧
  (∀ x∈κ.ae a.S,x∉κ.ae a.P∧x∉κ.ae a.B∧x∉κ.ae a.M∧x∉κ.ae a.T):=by
 have hn:=h.apart;rw [aSt,aSt,aSt,aSt] at hn;obtain ⟨⟨⟨⟨_,_,FL⟩,_,uY⟩,_,qa⟩,_,sr⟩:=hn;refine ⟨λ x hx=>⟨λ hp=> ?_,λ hp=> ?_,λ hp=> ?_,λ hp=> ?_⟩,λ x hx=>⟨λ hp=> ?_,λ hp=> ?_,λ hp=> ?_,λ hp=> ?_⟩,λ x hx=>⟨λ hp=> ?_,λ hp=> ?_,λ hp=> ?_,λ hp=> ?_⟩⟩
 ·exact qa x (by simp [hp]) x hx Z
 ·exact qa x (by simp [hp]) x hx Z
 ·exact qa x (by simp [hp]) x hx Z
 ·exact sr x (by simp [hx]) x hp Z
 ·exact sr x (by simp [hp]) x hx Z
 ·exact sr x (by simp [hp]) x hx Z
 ·exact sr x (by simp [hp]) x hx Z
 ·exact sr x (by simp [hp]) x hx Z
 ·exact uY x (by simp [hp]) x hx Z
 ·exact uY x (by simp [hp]) x hx Z
 ·exact qa x (by simp [hx]) x hp Z
 ·exact sr x (by simp [hx]) x hp Z
theorem vW {a:ah.b5} {g:Nat}:g∈bq.bX a↔g∈κ.ae a.P∨g∈κ.ae a.B∨g∈κ.ae a.S∨g∈κ.ae a.M∨g∈κ.ae a.T:=by
 unfold bq.bX;simp only [aRR];constructor
 ·rintro ((((h | h) | h) | h) | h)<;>simp [h]
 ·rintro (h | h | h | h | h)<;>simp [h]
namespace ah
def kU (k:Int):Int:=if k=1 then 5 else if k=2 then 12 else 0
end ah
theorem bq.mod {w aP:World} {aC:Nat} {a:ah.b5} {W:ah} {S:List Nat} (h:bq w aC a W) (m:Mod S w aP) (hd:∀ x∈bq.bX a,x∉S):bq aP aC a W :=
 ⟨h.P.mod m λ x hx=>hd x (vW.2 (.inl hx)),h.B.mod m λ x hx=>hd x (vW.2 (.inr (.inl hx))),h.S.mod m λ x hx=>hd x (vW.2 (.inr (.inr (.inl hx)))),h.M.mod m λ x hx=>hd x (vW.2 (.inr (.inr (.inr (.inl hx))))),h.T.mod m λ x hx=>hd x (vW.2 (.inr (.inr (.inr (.inr hx))))),h.apart,h.nums⟩
theorem rR {a:ah.b5} {q:Nat} (h:q∈κ.ae a.T):q∈bq.bX a:=vW.2 (.inr (.inr (.inr (.inr h))))
theorem EN {a:ah.b5} {q:Nat} (h:q∈κ.ae a.S):q∈bq.bX a:=vW.2 (.inr (.inr (.inl h)))
theorem Hu {a:ah.b5} {q:Nat} (h:q∈κ.ae a.M):q∈bq.bX a:=vW.2 (.inr (.inr (.inr (.inl h))))
theorem Vw {a:ah.b5} {q:Nat} (h:q∈κ.ae a.B):q∈bq.bX a:=vW.2 (.inr (.inl h))
theorem Vx {a:ah.b5} {q:Nat} (h:q∈κ.ae a.P):q∈bq.bX a:=vW.2 (.inl h)
theorem bq.akR {w aP:World} {aC:Nat} {a:ah.b5} {W:ah} {l:List Int} (h:bq w aC a W) (m:Mod (κ.ae a.S) w aP) (hS:bP.aD 3 8 aP aC (κ.ae a.S) a.S a.s l):bq aP aC a {W with bk:=l}:=by
 obtain ⟨d1,d2,d3⟩:=h.Ps;exact ⟨h.P.mod m λ x hx hs=>(d3 x hs).1 hx,h.B.mod m λ x hx hs=>(d3 x hs).2.1 hx,hS,h.M.mod m λ x hx hs=>(d3 x hs).2.2.1 hx,h.T.mod m λ x hx hs=>(d3 x hs).2.2.2 hx,h.apart,h.nums⟩
theorem bq.swapT {w aP:World} {aC:Nat} {a:ah.b5} {W:ah} {l:List bf} {A:Option Addr} {c:Nat} (h:bq w aC a W) (m:Mod (κ.ae a.T) w aP) (b8:bf.rep.aD 66 56 aP aC (κ.ae A) A c l) (I:∀ q∈κ.ae A,q∈κ.ae a.T∨w.heap.size≤q):
  bq aP aC {a with T:=A,t:=c} {W with ak:=l}:=by
 obtain ⟨d1,d2,d3⟩:=h.Ps;refine ⟨h.P.mod m λ x hx hs=>(d2 x hs).1 hx,h.B.mod m λ x hx hs=>(d2 x hs).2.1 hx,h.S.mod m λ x hx hs=>(d2 x hs).2.2.1 hx,h.M.mod m λ x hx hs=>(d2 x hs).2.2.2 hx,b8, ?_,h.nums⟩;have hn:=h.apart;rw [aSt] at hn ⊢;refine ⟨hn.1,vK A,λ x hx y aL e=> ?_⟩;subst e;rcases I x aL with aL | aL
 ·exact hn.2.2 x hx x aL Z
 ·have hf:x∈bq.bX a:=by unfold bq.bX;rw [aRR];exact .inl hx
  have:=(h.lt x hf).2;omega
theorem bq.akQ {w:World} {aC:Nat} {a:ah.b5} {W V:ah} (h:bq w aC a W) (τ:V.field.aZ=W.field.aZ) (aa:V.aW=W.aW) (aw:V.bk=W.bk) (a1:V.br=W.br) (bK:V.ak=W.ak) (hn:fO V.field.wide∧fO V.field.high∧fO V.next∧fO V.now):bq w aC a V :=
 ⟨by rw [τ];exact h.P,by rw [aa];exact h.B,by rw [aw];exact h.S,by rw [a1];exact h.M,by rw [bK];exact h.T,h.apart,hn⟩
theorem aeR {w:World} {aC:Nat} {a:ah.b5} {W:ah} {A:Option Addr} {c q:Nat} (h:q∈bq.bX {a with T:=A,t:=c}):q∈bq.bX a∨q∈κ.ae A:=by
 rcases vW.1 h with h | h | h | h | h
 ·exact .inl (Vx h)
 ·exact .inl (Vw h)
 ·exact .inl (EN h)
 ·exact .inl (Hu h)
 ·exact .inr h
def IM (k:Int):Int:=if k=1 then 1 else if k=2 then 2 else 0
def uM (k:Int):Int:=if k=1 then 1 else if k=2 then 4 else 0
def H9 (k:Int):Int:=if k=1 then 0 else if k=2 then 0 else 1
theorem XJ (k:Int) (w:World):Calls prog 128 #[.int .i64 k] w λ e w'=>e= .returned (.tuple #[.agg #[.int .i64 (ah.j_ k), .int .i64 (IM k), .int .i64 (uM k), .int .i64 (ah.kU k)], .int .i64 (H9 k)])∧Ext w w':=by
 by_cases τ:k=1
 ·subst τ;exact aiF w
 ·by_cases aa:k=2
  ·subst aa;exact aiG w
  ·have:=aiH k w (p4 (by omega));simpa [ah.j_,IM,uM,ah.kU,H9,τ,aa] using this
theorem bq.down {w:World} {aC sW:Nat} {a:ah.b5} {W:ah} (h:bq w aC a W) (bs:sW≤aC):bq w sW a W:=⟨h.P.down bs,h.B.down bs,h.S.down bs,h.M.down bs,h.T.down bs,h.apart,h.nums⟩
def ah.zero:ah:=⟨⟨0,0, []⟩, [], [], [], [],0,0⟩
theorem bq.zero (w:World) (aC:Nat):bq w aC ⟨none,none,none,none,none,0,0,0,0,0⟩ ah.zero:=⟨κ.aD.nil w,κ.aD.nil w,κ.aD.nil w,κ.aD.nil w,κ.aD.nil w,by simp [κ.ae],bI.2 (by decide),bI.2 (by decide),bI.2 (by decide),bI.2 (by decide)⟩
theorem T6 {f:aE} {c:ax} (h:f.bo=0) (he:f.dI c=0):f.fk c=true:=by
 cases aq:f.fk c with
 | true=>rfl
 | false=>rw [(aE.Kf h aq).1] at he;omega
theorem s5 (f:aE) (p:ax) (A:Option Addr) (c:Nat) (w:World) (ck:bP.aJ 8 w A c f.aZ):
  Calls prog 158 #[.agg #[.int .i64 f.wide, .int .i64 f.high, .slice A f.aZ.length c], .agg #[.int .i64 p.x, .int .i64 p.y]] w λ e w'=>e= .returned (.tuple #[.int .i64 (f.nr p), .int .i64 (f.dI p)])∧Below w.heap.size w w':=Vu f p A c w ck
theorem bq.Yn {w:World} {aC:Nat} {P B S M T:Option Addr} {p b s m t:Nat} {W:ah} (ck:bP.aD 3 8 w aC (κ.ae P) P p W.field.aZ) (aX:ax.rep.aD 49 16 w aC (κ.ae B) B b W.aW) (hS:bP.aD 3 8 w aC (κ.ae S) S s W.bk) (pS:bP.aD 3 8 w aC (κ.ae M) M m W.br) (b8:bf.rep.aD 66 56 w aC (κ.ae T) T t W.ak)
  (τ:∀ q∈κ.ae B,q∈κ.ae P→False) (aa:∀ q∈κ.ae S,q∈κ.ae P→False) (aw:∀ q∈κ.ae S,q∈κ.ae B→False) (a1:∀ q∈κ.ae M,q∈κ.ae P→False) (bK:∀ q∈κ.ae M,q∈κ.ae B→False) (b_:∀ q∈κ.ae M,q∈κ.ae S→False)
  (ed:∀ q∈κ.ae T,q∈κ.ae P→False) (gh:∀ q∈κ.ae T,q∈κ.ae B→False) (zh:∀ q∈κ.ae T,q∈κ.ae S→False) (P8:∀ q∈κ.ae T,q∈κ.ae M→False) (hn:fO W.field.wide∧fO W.field.high∧fO W.next∧fO W.now):
  bq w aC ⟨P,B,S,M,T,p,b,s,m,t⟩ W:=by
 refine ⟨ck,aX,hS,pS,b8, ?_,hn⟩;have a_:=vK P;have bj:=vK B;have cV:=vK S;have jK:=vK M;have Kv:=vK T;simp only [aSt,aRR]
 grind
theorem bq.aAg {w:World} {aC:Nat} {a:ah.b5} {W:ah} {A:Option Addr} {c:Nat} {p:List bf} (h:bq w aC a W) (b8:bf.rep.aD 66 56 w aC (κ.ae A) A c p) (τ:∀ q∈κ.ae A,q∈bq.bX a→False):bq w aC {a with T:=A,t:=c} {W with ak:=p}:=by
 refine ⟨h.P,h.B,h.S,h.M,b8, ?_,h.nums⟩;have hn:=h.apart;have a_:=vK A;have f1:∀ q∈κ.ae A,(q∈κ.ae a.P→False)∧(q∈κ.ae a.B→False)∧(q∈κ.ae a.S→False)∧(q∈κ.ae a.M→False):=λ q I=>⟨λ h=>τ q I (Vx h),λ h=>τ q I (Vw h),λ h=>τ q I (EN h),λ h=>τ q I (Hu h)⟩;simp only [aSt,aRR] at hn ⊢
 grind
theorem aud {a:ah.b5} {A:Option Addr} {c q:Nat} (h:q∈bq.bX {a with T:=A,t:=c}):q∈bq.bX a∨q∈κ.ae A:=by
 rcases vW.1 h with h | h | h | h | h
 ·exact .inl (Vx h)
 ·exact .inl (Vw h)
 ·exact .inl (EN h)
 ·exact .inl (Hu h)
 ·exact .inr h
structure aHA (a:ah.b5):Prop where
 sU:∀ q∈κ.ae a.P,q∈κ.ae a.S→False
 aHy:∀ q∈κ.ae a.P,q∈κ.ae a.M→False
 aHx:∀ q∈κ.ae a.P,q∈κ.ae a.B→False
 aHz:∀ q∈κ.ae a.P,q∈κ.ae a.T→False
 aHG:∀ q∈κ.ae a.S,q∈κ.ae a.M→False
 aHF:∀ q∈κ.ae a.S,q∈κ.ae a.B→False
 ST:∀ q∈κ.ae a.S,q∈κ.ae a.T→False
 aHt:∀ q∈κ.ae a.M,q∈κ.ae a.B→False
 abe:∀ q∈κ.ae a.M,q∈κ.ae a.T→False
 aGH:∀ q∈κ.ae a.B,q∈κ.ae a.T→False
end
section
def qe (f:aE) (c:ax):Int:=if f.fk c then uA (f.place c) else 0
theorem acX {f:aE} {c:ax} (hf:f.bo=0) (hc:f.fk c=true):(vP (f.place c)== 0)=f.ground c∧(f.ground c=true→uA (f.place c)=f.gD c):=by
 obtain ⟨_,_,_,_,_,g6⟩:=aE.jM hf;have hp:=g6 (f.place c) (by unfold aE.place;exact ih (aE.y1 hf hc).1);unfold aE.ground;rw [hc];have:f.place c=0∨f.place c=1∨f.place c=2∨f.place c=3:=by omega
 unfold aE.gD vP uA;rcases this with h | h | h | h<;>rw [h]<;>simp
theorem aA9 {f:aE} {c:ax} (hf:f.bo=0) (h:¬ f.dI c=0):qe f c=0∧f.ground c=false:=by
 have hc:f.fk c=false:=by
  cases hc:f.fk c with
  | false=>rfl
  | true=>exact absurd (aE.mH hf hc).1 h
 unfold qe aE.ground;rw [hc];exact ⟨Z,Z⟩
theorem aA8 {f:aE} {c:ax} (hf:f.bo=0) (h:f.dI c=0):qe f c=uA (f.nr c)∧f.ground c=(vP (f.nr c)== 0):=by
 have hc:=T6 hf h;rw [(aE.mH hf hc).2];unfold qe;rw [hc];exact ⟨Z,(acX hf hc).1.symm⟩
theorem ajR {f:aE} {c:ax} (hf:f.bo=0) (h:f.ground c=true):qe f c=f.gD c:=by
 have hc:=aE.j8 h;unfold qe;rw [aRP hc];exact (acX hf hc).2 h
theorem atO (p:Int) (w:World):
  Calls prog 199 #[.int .i64 p] w (λ e w'=>e= .returned (.tuple #[.int .i64 (uA p), .int .i64 (vP p)])∧Ext w w'):=by
 refine ch (n:=12) func199 Z Z Z ?_;refine aj<|va Z<|va Z<|ai<|aA<|aj<|vm Z<|ai<|bM<|aA<|aj<|J (beq Z Z)<|va Z<|ai<| ?_;refine i' Z (λ mo=> ?_) (λ mo=> ?_)
 ·have aLw:(p == 0)=true:=by simpa using mo
  refine bt<| ?_;refine i' Z (λ Wi=> ?_) (λ Wi=> ?_)
  ·have aLz:(p == 0)=true:=by simpa using Wi
   refine aj<|va Z<|va Z<|ai<|rt<|e_<|bT<|bb (.tmp Z (.tmp Z .nil))<| ?_;exact ⟨by simp_all [uA,vP,u3],(Ext.bF w)⟩
  ·have aLA:(p == 0)=false:=by simpa using Wi
   refine aj<|J (beq Z Z)<|va Z<|ai<| ?_;refine i' Z (λ pV=> ?_) (λ pV=> ?_)
   ·have aLB:(p == 2)=true:=by simpa using pV
    refine aj<|va Z<|va Z<|ai<|rt<|e_<|bT<|bb (.tmp Z (.tmp Z .nil))<| ?_;exact ⟨by simp_all [uA,vP,u3],(Ext.bF w)⟩
   ·have aLC:(p == 2)=false:=by simpa using pV
    refine aj<|J (beq Z Z)<|va Z<|ai<| ?_;refine i' Z (λ lY=> ?_) (λ lY=> ?_)
    ·have aLp:(p == 1)=true:=by simpa using lY
     refine aj<|va Z<|va Z<|ai<|rt<|e_<|bT<|bb (.tmp Z (.tmp Z .nil))<| ?_;exact ⟨by simp_all [uA,vP,u3],(Ext.bF w)⟩
    ·have aLq:(p == 1)=false:=by simpa using lY
     refine e9<|b0<|aV<|aj<|va Z<|va Z<|ai<|rt<|bb (.tmp Z (.tmp Z .nil))<| ?_;exact ⟨by simp_all [uA,vP,u3],(Ext.bF w)⟩
 ·have aLr:(p == 0)=false:=by simpa using mo
  refine rg<|J (beq Z Z)<|va Z<|ai<| ?_;refine i' Z (λ Wb=> ?_) (λ Wb=> ?_)
  ·have aLs:(p == 3)=true:=by simpa using Wb
   refine aj<|va Z<|va Z<|ai<|rt<|e_<|bT<|bb (.tmp Z (.tmp Z .nil))<| ?_;exact ⟨by simp_all [uA,vP,u3],(Ext.bF w)⟩
  ·have aLt:(p == 3)=false:=by simpa using Wb
   refine aj<|J (beq Z Z)<|va Z<|ai<| ?_;refine i' Z (λ pU=> ?_) (λ pU=> ?_)
   ·have aLu:(p == 2)=true:=by simpa using pU
    refine aj<|va Z<|va Z<|ai<|rt<|e_<|bT<|bb (.tmp Z (.tmp Z .nil))<| ?_;exact ⟨by simp_all [uA,vP,u3],(Ext.bF w)⟩
   ·have aLv:(p == 2)=false:=by simpa using pU
    refine aj<|J (beq Z Z)<|va Z<|ai<| ?_;refine i' Z (λ n_=> ?_) (λ n_=> ?_)
    ·have aLx:(p == 1)=true:=by simpa using n_
     refine aj<|va Z<|va Z<|ai<|rt<|e_<|bT<|bb (.tmp Z (.tmp Z .nil))<| ?_;exact ⟨by simp_all [uA,vP,u3],(Ext.bF w)⟩
    ·have aLy:(p == 1)=false:=by simpa using n_
     refine e9<|b0<|aV<|aj<|va Z<|va Z<|ai<|rt<|bb (.tmp Z (.tmp Z .nil))<| ?_;exact ⟨by simp_all [uA,vP,u3],(Ext.bF w)⟩
theorem su (w0:World) (f:aE) (P F A:Option Addr) (cg fI c b:Nat) (a8:List Int) (l:List cc) (bn:ax) (p:ax) (w:World) (hQ:Ext w0 w) (hf:f.bo=0) (ck:bP.aJ 8 w0 P cg f.aZ) (aN:aR w b [.int .i64 f.wide, .int .i64 f.high, .slice P f.aZ.length cg, .int .i64 bn.x, .int .i64 bn.y, .slice F a8.length fI, .slice A l.length c] 265 (0,0)) (hp: -500≤p.x∧p.x≤500∧ -500≤p.y∧p.y≤500):
  Calls prog 166 #[.pointer (some ⟨b,0,none⟩), .agg #[.int .i64 p.x, .int .i64 p.y]] w (λ e w'=>e= .returned (.int .i64 (p.y * f.wide+p.x))∧Ext w w'):=by
 have yb:=aN.lt;obtain ⟨g1,g2,g3,g4,g5,g6⟩:=aE.jM hf;have mX:=hQ.size;refine ch (n:=16) func166 Z Z Z ?_;refine aj<|cB Z Z Z Z λ cv bJ a7 ee ab=> ?_;have:=a7.size;have bg:=γ hQ a7;have ei:=ab.lt;refine va Z<|ai<|aA<| ?_;refine rd [(1,0),(6,0),(9,0)] [0,1,2,3,4,5,6,7,8,9,10,11] (by kernel_rfl) (by kernel_rfl) ?_;refine au Z (λ _=>av iM Z)<|bH Z (λ _ x=>ao Z ((ab.later x).one bc Z))<|au Z (λ _=>aM Z)<|au Z (λ _=>b3 Z)<|au Z (λ _=>av aec Z)<|au Z (λ _=>av U5 Z)<| ?_;have aN:=aN.later a7;refine bH Z (λ _ x=>ao Z ((aN.later x).one bc Z))<|au Z (λ _=>Cx Z Z (bE ((by have:=aUd (show p.y≤500 by omega) g2 (by omega) (by omega);have:=aUd (show -p.y≤500 by omega) g2 (by omega) (by omega);rw [Int.neg_mul] at this;omega))))<|au Z (λ _=>av iL Z)<|bH Z (λ _ x=>ao Z ((ab.later x).one bc Z))<|au Z (λ _=>bad Z Z (bE ((by have:=aUd (show p.y≤500 by omega) g2 (by omega) (by omega);have:=aUd (show -p.y≤500 by omega) g2 (by omega) (by omega);rw [Int.neg_mul] at this;omega))))<|au Z (λ _=>fg Z)<|fn λ eK cG=> ?_;have:=cG.size;have bQ:=γ bg cG;refine aV<|rt<|bb (.tmp Z .nil)<| ?_;exact ⟨Z,γ a7 cG⟩
theorem Yz (w0:World) (f:aE) (P F A:Option Addr) (cg fI c b:Nat) (a8:List Int) (l:List cc) (bn:ax) (p:ax) (w:World) (hQ:Ext w0 w) (hf:f.bo=0) (ck:bP.aJ 8 w0 P cg f.aZ) (aN:aR w b [.int .i64 f.wide, .int .i64 f.high, .slice P f.aZ.length cg, .int .i64 bn.x, .int .i64 bn.y, .slice F a8.length fI, .slice A l.length c] 265 (0,0)):
  Calls prog 164 #[.pointer (some ⟨b,0,none⟩), .agg #[.int .i64 p.x, .int .i64 p.y]] w (λ e w'=>e= .returned (.tuple #[.int .i64 (qe f p), .bool (f.ground p)])∧Ext w w'):=by
 have yb:=aN.lt;obtain ⟨g1,g2,g3,g4,g5,g6⟩:=aE.jM hf;have mX:=hQ.size;refine ch (n:=28) func164 Z Z Z ?_;refine aj<|cB Z Z Z Z λ cv bJ a7 ee ab=> ?_;have:=a7.size;have bg:=γ hQ a7;have ei:=ab.lt;refine va Z<|va Z<|ai<|aA<| ?_;refine rd [(3,0),(4,0),(5,0)] [0,1,2,3,4,5,6,7,8,9,10] (by kernel_rfl) (by kernel_rfl) ?_;refine au Z (λ _=>aM Z)<|au Z (λ _=>b3 Z)<|au Z (λ _=>av aec Z)<| ?_;have aN:=aN.later a7;refine bH Z (λ _ x=>ao Z ((aN.later x).par [.int .i64 f.wide, .int .i64 f.high, .slice P f.aZ.length cg] lS lT Z))<|bH Z (λ _ x=>ao Z ((ab.later x).all cj bU))<|pR Z Z rP Z (λ _ x=>s5 f p _ _ _ (ck.keep (γ bg x))) Z<|au Z (λ _=>aM Z)<|au Z (λ _=>ex Z Z)<|au Z (λ _=>ex Z Z)<|au Z (λ _=>fg Z)<|au Z (λ _=>fg Z)<|fn λ eK cG=> ?_;have:=cG.size;have bQ:=γ bg cG;refine aV<|aA<|aj<|vm Z<|J (bne Z Z)<|ai<| ?_;refine e1 Z (λ kL=> ?_) (λ kL=> ?_)
 ·have LD:=aA9 hf kL;refine aj<|va Z<|va Z<|ai<|rt<|bT<|bb (.tmp Z (.tmp Z .nil))<| ?_;exact ⟨by rw [LD.1,LD.2];rfl,γ a7 cG⟩
 ·have LD:=aA8 hf kL;refine bt<|aj<|vm Z<|ca atg Z Z ((atO (f.nr p) _).mono ?_);rintro e BG ⟨rfl,c'⟩;refine ⟨_,Z, ?_⟩;have:=c'.size;have nd:=γ bQ c';refine vm Z<|J (ex Z Z)<|J (ex Z Z)<|va Z<|va Z<|ai<|aj<|vm Z<|vm Z<|J (beq Z Z)<|va Z<|va Z<|ai<|rt<|bb (.tmp Z (.tmp Z .nil))<| ?_;exact ⟨by rw [LD.1,LD.2];rfl,γ (γ a7 cG) c'⟩
theorem aj4 (p:ax) (w:World) (hp: -100000≤p.x∧p.x≤100000∧ -100000≤p.y∧p.y≤100000):
  Calls prog 165 #[.agg #[.int .i64 p.x, .int .i64 p.y]] w (λ e w'=>e= .returned (.agg #[.int .i64 p.x, .int .i64 (p.y - 1), .int .i64 (p.x - 1), .int .i64 p.y, .int .i64 (p.x+1), .int .i64 p.y, .int .i64 p.x, .int .i64 (p.y+1)])∧Ext w w'):=by
 refine ch (n:=28) func165 Z Z Z ?_;refine aj<|cB Z Z Z Z λ cv bJ a7 ee ab=> ?_;have:=a7.size;have bg:=γ (Ext.bF w) a7;have ei:=ab.lt;refine al Z ath Z Z λ eK cw bl ie ag=> ?_;have:=bl.size;have bQ:=γ bg bl;have h3:=ag.lt;refine ai<|aj<|J (av iL Z)<| ?_;have ab:=ab.later bl;refine J (ao Z (ab.one bc Z))<|J (av iM Z)<|J (ao Z (ab.one bc Z))<|J (mm Z Z (bE (by omega)))<|J (v:= .agg #[.int .i64 p.x, .int .i64 (p.y - 1)]) (cK Z (by kernel_rfl))<|J (av iL Z)<|J (ao Z (ab.one bc Z))<|J (mm Z Z (bE (by omega)))<|J (av iM Z)<|J (ao Z (ab.one bc Z))<|J (v:= .agg #[.int .i64 (p.x - 1), .int .i64 p.y]) (cK Z (by kernel_rfl))<|J (av iL Z)<|J (ao Z (ab.one bc Z))<|J (bad Z Z (bE (by omega)))<|J (av iM Z)<|J (ao Z (ab.one bc Z))<|J (v:= .agg #[.int .i64 (p.x+1), .int .i64 p.y]) (cK Z (by kernel_rfl))<|J (av iL Z)<|J (ao Z (ab.one bc Z))<|J (av iM Z)<|J (ao Z (ab.one bc Z))<|J (bad Z Z (bE (by omega)))<|J (v:= .agg #[.int .i64 p.x, .int .i64 (p.y+1)]) (cK Z (by kernel_rfl))<|J (v:= .agg #[.int .i64 p.x, .int .i64 (p.y - 1), .int .i64 (p.x - 1), .int .i64 p.y, .int .i64 (p.x+1), .int .i64 p.y, .int .i64 p.x, .int .i64 (p.y+1)]) (cK Z (by kernel_rfl))<| ?_;refine st (new:= [.int .i64 p.x, .int .i64 (p.y - 1), .int .i64 (p.x - 1), .int .i64 p.y, .int .i64 (p.x+1), .int .i64 p.y, .int .i64 p.x, .int .i64 (p.y+1)]) Z Z ag Z aep Z Z Z λ h6 FC ag=> ?_;have:=FC.size;have df:=Ext.mod bQ FC bu;refine ai<|rt<|bb (.cell Z (ag.all ati aep) .nil)<| ?_;exact ⟨Z,df⟩
end
section
theorem rQ {P:Program} {n:Nat} {ops:Array Oper} {Q:Exit→Act→World→Prop} {aS:Nat→Nat} {bO:List Nat} {E:List (Nat×Value)} {w0:World} {i d:Nat} {op:Op} {ty:TypeId} {pos:String} {af:Array Edge} {j:Nat} {q:Bool} {u:Value} {cR:Oper} {jJ:Nat} (aq:ops[i]? =some ⟨some d,op,ty,pos,af,some (j,q)⟩) (ar:Nat.ble (aS i) 1=true) (ay:ops[j]? =some cR) (nx:cR.dst=some jJ) (Φ:look E jJ=some (ia false u)) (hd:Nat.blt d n=true)
  (h:j1 P n ops Q aS bO ((d,undef)::E) w0):j1 P n ops Q aS (i::bO) E w0:=λ a ha=>by
 have τ:=ha.g _ _ Φ;simp only [ia,aSq,aS0] at τ;have hw:Region.wanted ⟨some d,op,ty,pos,af,some (j,q)⟩ (yielded ops a.tmps)=false:=by simp [Region.wanted,yielded,ay,nx,τ,undef]
 have ar:=aTK ar;rcases aSA 0 (aS i) with aH | aH
 ·exact ⟨_,aq, .inr (.inl ⟨by omega,undef, .inr ⟨hw,rfl⟩,h _ (ha.put hd _)⟩)⟩
 ·exact ⟨_,aq, .inl ⟨by omega,undef, .inr ⟨hw,rfl⟩,h _ (ha.put hd _)⟩⟩
end
section
theorem YC (w0:World) (f:aE) (P F A:Option Addr) (cg fI c b:Nat) (a8:List Int) (l:List cc) (bn:ax) (p:ax) (d:Int) (w:World) (hQ:Ext w0 w) (hf:f.bo=0) (ck:bP.aJ 8 w0 P cg f.aZ) (aN:aR w b [.int .i64 f.wide, .int .i64 f.high, .slice P f.aZ.length cg, .int .i64 bn.x, .int .i64 bn.y, .slice F a8.length fI, .slice A l.length c] 265 (0,0)) (Φ:w0.heap.size≤b) (ug:cc.rep.aD 313 32 w w0.heap.size (κ.ae A) A c l) (Qv:∀ q∈κ.ae A,q=b→False) (eh:∀ y∈l,y.ok) (az:l.length≤1000000) (hp: -500≤p.x∧p.x≤500∧ -500≤p.y∧p.y≤500) (aG: -500≤bn.x∧bn.x≤500∧ -500≤bn.y∧bn.y≤500) (hd:0≤d∧d≤100000):
  Calls prog 197 #[.pointer (some ⟨b,0,none⟩), .agg #[.int .i64 p.x, .int .i64 p.y], .int .i64 d] w (λ e w'=>∃ bG b4,e= .returned (.tuple #[])∧aR w' b [.int .i64 f.wide, .int .i64 f.high, .slice P f.aZ.length cg, .int .i64 bn.x, .int .i64 bn.y, .slice F a8.length fI, .slice bG ((cr.push cc.all l ⟨p,d,d+aE.kJ bn p⟩).length) b4] 265 (0,0)∧cc.rep.aD 313 32 w' w0.heap.size (κ.ae bG) bG b4 (cr.push cc.all l ⟨p,d,d+aE.kJ bn p⟩)∧(∀ q∈κ.ae bG,q=b→False)∧(∀ q∈κ.ae bG,q∈κ.ae A∨w.heap.size≤q)∧Mod (b::κ.ae A) w w'):=by
 have yb:=aN.lt;obtain ⟨g1,g2,g3,g4,g5,g6⟩:=aE.jM hf;have mX:=hQ.size;have aDR:=λ q I=>(ug.lt q I).2;have oc:=ug.has.ez;have zo:∀ q∈b::κ.ae A,w0.heap.size≤q:=λ q I=>(aRW.1 I).elim (λ h=>by omega) λ h=>(ug.lt q h).1;have aK3:=jh (bn.x - p.x);have aK4:=jh (bn.y - p.y);refine ch (n:=32) func197 Z Z Z ?_;refine aj<|cB Z Z Z Z λ cv bJ a7 ee ab=> ?_;have:=a7.size;have bg:=(Mod.bF (b::κ.ae A) w).trans (Mod.bC a7);have ei:=ab.lt;refine ai<|aA<| ?_;refine rd [(0,0),(4,0),(5,0)] [0,1,2,3,4,5,6,7,8,9,10,11,12] (by kernel_rfl) (by kernel_rfl) ?_;refine bH Z (λ _ x=>ao Z ((ab.later x).all cj bU))<|au Z (λ _=>aM Z)<|au Z (λ _=>b3 Z)<|au Z (λ _=>av aeq Z)<| ?_;have aN:=aN.later a7;refine bH Z (λ _ x=>ao Z ((aN.later x).par [.int .i64 bn.x, .int .i64 bn.y] cj bU Z))<|pR Z Z aer Z (λ _ x=>ab7 p bn _ (by omega) (by omega)) Z<|au Z (λ _=>aM Z)<|au Z (λ _=>ex Z Z)<|au Z (λ _=>ex Z Z)<|au Z (λ _=>ex Z Z)<|au Z (λ _=>fg Z)<|au Z (λ _=>fg Z)<|au Z (λ _=>fg Z)<|fn λ eK cG=> ?_;have:=cG.size;have bQ:=bg.trans (Mod.bC cG);refine aV<| ?_;refine rd [(4,0),(12,3)] [0,1,2,3,4,5,6,7,8,9,10,11,12] (by kernel_rfl) (by kernel_rfl) ?_;refine au Z (λ _=>aM Z)<|au Z (λ _=>b3 Z)<|au Z (λ _=>av EJ Z)<|au Z (λ _=>Ro (λ w=>by kernel_rfl) Z)<| ?_;have ab:=ab.later cG;refine bH Z (λ _ x=>ao Z ((ab.later x).all cj bU))<|au Z (λ _=>aM Z)<|au Z (λ _=>aM Z)<|au Z (λ _=>aM Z)<|au Z (λ _=>Cx Z Z (bE (by omega)))<|au Z (λ _=>bad Z Z (bE (by omega)))<|rS (v:= .agg #[.int .i64 p.x, .int .i64 p.y, .int .i64 d, .int .i64 (d+(2 * (cp (bn.x - p.x)+cp (bn.y - p.y))))]) Z Z (λ _=>cK Z (by kernel_rfl)) Z<|au Z (λ _=>Ro (λ w=>by kernel_rfl) Z)<| ?_;have ug:=ug.later (γ a7 cG);have aN:=aN.later cG;refine eP Z Z Z λ tK lJ Q hK=>ca atj Z Z ((aFi b A c w0.heap.size l (.int .i64 f.wide) (.int .i64 f.high) (.slice P f.aZ.length cg) (.int .i64 bn.x) (.int .i64 bn.y) (.slice F a8.length fI) ((⟨⟨p.x,p.y⟩,d,d+(2 * (cp (bn.x - p.x)+cp (bn.y - p.y)))⟩:cc)) _ (aN.later lJ) (ug.later lJ) eh Qv ⟨bI.2 (by dsimp only;omega),bI.2 (by dsimp only;omega),bI.2 (by dsimp only;omega),bI.2 (by dsimp only;omega)⟩ az (by have:=lJ.size;omega)).mono ?_);rintro e h6 ⟨amK,apF,rfl,Ts,Oo,agb,X6⟩;refine ⟨_,Z,hK _ _ ?_⟩;have:=lJ.size;have jj:=bQ.trans (Mod.bC lJ);have:=X6.size;have df:=jj.md X6 (λ q I=> .inl I);have u7:=λ q I=>(Oo.lt q I).2;refine fn λ F7 vo=> ?_;have:=vo.size;have sF:=df.trans (Mod.bC vo);refine ne<|bb .nil<| ?_;have Oo:=Oo.later vo;have Ts:=Ts.later vo;exact ⟨amK,apF,Z,Ts,Oo,λ q I Φ=>by exfalso;(exact aRO (agb q I) (λ ah4=>by (exact Qv q ah4 Φ)) (λ ah4=>by omega)),λ q I=>(agb q I).imp id λ h=>by omega,sF⟩
end
end Go.Proofs.YtlikikpgmmkjbaaGreat
