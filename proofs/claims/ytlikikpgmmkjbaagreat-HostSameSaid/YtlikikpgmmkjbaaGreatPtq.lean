import Derived.Test.YtlikikpgmmkjbaaGreatEqI
set_option linter.unusedVariables false
set_option linter.unusedSimpArgs false
set_option maxRecDepth 100000
set_option maxHeartbeats 4000000
open Go.RowKit
namespace Go.Proofs.YtlikikpgmmkjbaaGreat
open Tryz
open Tryz
abbrev aRV:=@Go.Lib.hid
abbrev aTG:=@Int.lt_or_le
abbrev aVP:=@Go.bodyPost_ret

def aD.pJ (p:Int):Bool:= !aD.Rr p
theorem apB {p:Int}:(p<0→aD.pJ p=true)∧(4≤p→aD.pJ p=true)∧(0≤p→p<4→aD.pJ p=false):=by
 unfold aD.pJ aD.Rr;refine ⟨λ h=>by rw [p0 (.inl h)];rfl,λ h=>by rw [p0 (.inr (by omega))];rfl,λ κ aa=>by rw [oX κ (by omega)];rfl⟩
theorem atV (p:Int) (w:World):Calls prog 124 #[.int .i64 p] w λ e w'=>e= .returned (.bool (aD.pJ p))∧Below w.heap.size w w':=by
 obtain ⟨kH,eZ,gT⟩:=apB (p:=p);rcases aTG p 0 with h | h
 ·have Φ:=kH h;have hd:decide (p<0)=true:=by simpa using h
  rw [Φ];clear kH eZ gT Φ;go_enter func124,ntmps124;go_wp2
  go_ret;exact ⟨Z,aSm _ _⟩
 ·rcases aTG p 4 with a6 | a6
  ·have Φ:=gT h a6;have hd:decide (p<0)=false:=by simpa using h
   rw [Φ];clear kH eZ gT Φ;go_enter func124,ntmps124;go_wp2
   go_ret;exact ⟨h4 (by simp<;>omega),aSm _ _⟩
  ·have Φ:=eZ a6;have hd:decide (p<0)=false:=by simpa using h
   rw [Φ];clear kH eZ gT Φ;go_enter func124,ntmps124;go_wp2
   go_ret;exact ⟨h4 (by simp<;>omega),aSm _ _⟩
theorem ax7  (A:Option Addr) (c:Nat) (l:List Int) (w:World) (aB:bQ.aJ 8 w A c l):
  Calls prog 157 #[.slice A l.length c, .func (.func 124) #[] #[]] w λ e w'=>e= .returned (.int .i64 (gm (aD.pJ) l))∧Below w.heap.size w w':=by
 obtain ⟨n,hn⟩:∃ n,l.length=n:=⟨_,rfl⟩;have hle:n≤9223372036854775807:=by have:=aB.1;have:=aB.2.1;omega
 rw [hn];have qs:=aRV aB;have fa:=aRV hn;clear aB hn;go_enter func157,ntmps157;go_wp2_with fail
 go_loopw [5,8] (λ _ hh wr=>∃ k:Nat,k≤n∧hh= .int .i64 (k:Int)∧Hid (∀ j (ay:j<k) (rS:j<l.length),(aD.pJ) l[j]=false)∧Below w.heap.size w wr) (λ _ hh _=>n - (intOf hh).toNat)
 case atStart=>exact ⟨0,aSG _,rfl,(λ j ay=>by omega),aSm _ _⟩
 case round =>
  obtain ⟨k,av,rfl,hY,Φ⟩:=hrel;by_cases bC:k<n
  ·have i_:k<l.length:=by rw [fa.out];exact bC
   obtain ⟨b,o,rfl,jE⟩:=FF (qs.out.keep Φ) (by omega);obtain ⟨x,rW⟩:∃ x,l[k]'i_=x:=⟨_,rfl⟩;have mT:=jE k x (by rw [aRT i_,rW]);have wT:=aRV rW

   have hc:=atV x wr;clear jE rW;cases jC:(aD.pJ) x with
   | true =>
    have k7:gm (aD.pJ) l=(k:Int):=Fa i_ (by rw [wT.out];exact jC) λ j ay=>hY.out j ay (by omega);rw [jC] at hc;have ra:=aRV k7;clear k7 jC;go_wp2_with (go_at_call 124;refine hc.mono ?_;rintro e w' ⟨rfl,bw⟩)
    go_ret;exact ⟨by rw [ra.out];rfl,Φ.trans (bw.mono Φ.size)⟩
   | false =>
    rw [jC] at hc;have pn:Hid (∀ j (ay:j<k+1) (rS:j<l.length),(aD.pJ) l[j]=false):=by
     intro j ay rS;by_cases h:j<k
     ·exact hY.out j h rS
     ·obtain rfl:j=k:=by omega
      rw [wT.out];exact jC
    clear jC;go_wp2_with (go_at_call 124;refine hc.mono ?_;rintro e w' ⟨rfl,bw⟩)
    go_roundw
    case rel=>exact ⟨k+1,by omega,by go_num,pn,Φ.trans (bw.mono Φ.size)⟩
    case measure=>simp [intOf];omega
  ·have k7:gm (aD.pJ) l= -1:=E' λ j ay=>hY.out j (by have:=fa.out;omega) ay;have ra:=aRV k7;clear k7;go_wp2_with fail
   go_ret;exact ⟨by rw [ra.out];rfl,Φ⟩
theorem avC  (A:Option Addr) (c:Nat) (l:List Int) (w:World) (aB:bQ.aJ 8 w A c l):
  Calls prog 123 #[.slice A l.length c, .func (.func 124) #[] #[]] w λ e w'=>e= .returned (.bool (l.any (aD.pJ)))∧Below w.heap.size w w':=by
 have hc:=ax7  A c l w aB ;rw [← LM];generalize gm (aD.pJ) l=r at *
 generalize l.length=n at *
 clear aB ;go_enter func123,ntmps123;go_wp2_with (go_at_call 157;refine hc.mono ?_;rintro e w' ⟨rfl,bw⟩)
 go_ret;exact ⟨Z,bw⟩
theorem Sx (n lo ar:Int) (w:World):Calls prog 127 #[.int .i64 n, .int .i64 lo, .int .i64 ar] w λ e w'=>e= .returned (.bool (cO n lo ar))∧w=w':=by
 rcases aTG n lo with h | h
 ·rw [p0 (.inl h)];go_enter func127,ntmps127;go_wp2
  go_ret;exact ⟨Z,Z⟩
 ·rcases aTG ar n with a6 | a6
  ·rw [p0 (.inr a6)];go_enter func127,ntmps127;go_wp2
   go_ret;exact ⟨h4 (by simp<;>omega),Z⟩
  ·rw [oX h a6];go_enter func127,ntmps127;go_wp2
   go_ret;exact ⟨h4 (by simp<;>omega),Z⟩
theorem ak9 (n:Int) (w:World):Calls prog 122 #[.int .i64 n] w λ e w'=>e= .returned (.bool (cO n 1 40))∧w=w':=by
 rcases aTG n 1 with h | h
 ·rw [p0 (.inl h)];go_enter func122,ntmps122;go_wp2
  go_ret;exact ⟨Z,Z⟩
 ·rcases aTG 40 n with a6 | a6
  ·rw [p0 (.inr a6)];go_enter func122,ntmps122;go_wp2
   go_ret;exact ⟨h4 (by simp<;>omega),Z⟩
  ·rw [oX h a6];go_enter func122,ntmps122;go_wp2
   go_ret;exact ⟨h4 (by simp<;>omega),Z⟩
open Tryz

theorem aD.aqO {f:aD} (κ:cO f.wide 1 40=true) (aa:cO f.high 1 40=true) (aw:¬ (f.aS.length:Int)=f.wide * f.high):f.bp=4:=by
 unfold aD.bp;rw [κ,aa,aSt aw];rfl
theorem aD.aqK {f:aD} (κ:cO f.wide 1 40=true) (aa:cO f.high 1 40=true) (aw:(f.aS.length:Int)=f.wide * f.high):f.bp=if f.aS.any aD.pJ then 4 else 0:=by
 unfold aD.bp;rw [κ,aa,aSo aw];have:f.aS.all aD.Rr= !f.aS.any aD.pJ:=by
  rw [List.all_eq_not_any_not];rfl
 rw [this];cases f.aS.any aD.pJ<;>rfl
theorem ae4 (f:aD) (A:Option Addr) (c:Nat) (w:World) (cj:bQ.aJ 8 w A c f.aS):
  Calls prog 88 #[.agg #[.int .i64 f.wide, .int .i64 f.high, .slice A f.aS.length c]] w λ e w'=>e= .returned (.int .i64 f.bp)∧Below w.heap.size w w':=by
 have Φ:=lr w (.cells #[.int .i64 f.wide, .int .i64 f.high, .slice A f.aS.length c] 24);have fh:=ak9 f.wide;have gD:=ak9 f.high;have hle:f.aS.length≤9223372036854775807:=by have:=cj.1;have:=cj.2.1;omega
 cases κ:cO f.wide 1 40 with
 | false =>
  rw [κ] at fh;rw [aD.ade (by rw [κ];rfl)];clear κ gD cj;go_enter func88,ntmps88;go_wp2_with (go_at_call 122;refine (fh _).mono ?_;rintro e w' ⟨rfl,rfl⟩)
  go_ret;exact ⟨Z,Φ⟩
 | true =>
  rw [κ] at fh;cases aa:cO f.high 1 40 with
  | false =>
   rw [aa] at gD;rw [aD.ade (by rw [κ,aa];rfl)];clear κ aa cj;go_enter func88,ntmps88;go_wp2_with fail
   refine (fh _).mono ?_;rintro e w' ⟨rfl,rfl⟩;go_wp2_with fail
   refine (gD _).mono ?_;rintro e w' ⟨rfl,rfl⟩;go_wp2_with fail
   go_ret;exact ⟨Z,Φ⟩
  | true =>
   rw [aa] at gD;have hw:=kO κ;have fS:=kO aa;have E4:0≤f.wide * f.high:=aVd (by omega) (by omega);have HM:f.wide * f.high≤40 * 40:=aUm hw.2 fS.2 (by omega) (by omega);by_cases aw:(f.aS.length:Int)=f.wide * f.high
   ·have hc:=avC A c f.aS _ (cj.keep Φ);have hd:((f.aS.length:Int)== f.wide * f.high)=true:=by simpa using aw
    have HC:((f.aS.length:Int) != f.wide * f.high)=false:=by simpa using aw
    rw [aD.aqK κ aa aw];clear κ aa aw cj;generalize f.aS.any aD.pJ=r at *
    generalize f.aS.length=n at *
    cases r with
    | true =>
     go_enter func88,ntmps88;go_wp2_with fail
     refine (fh _).mono ?_;rintro e w' ⟨rfl,rfl⟩;go_wp2_with fail
     refine (gD _).mono ?_;rintro e w' ⟨rfl,rfl⟩;go_wp2_with fail
     refine hc.mono ?_;rintro e w' ⟨rfl,bw⟩;go_wp2_with fail
     go_ret;exact ⟨Z,Φ.trans (bw.mono Φ.size)⟩
    | false =>
     go_enter func88,ntmps88;go_wp2_with fail
     refine (fh _).mono ?_;rintro e w' ⟨rfl,rfl⟩;go_wp2_with fail
     refine (gD _).mono ?_;rintro e w' ⟨rfl,rfl⟩;go_wp2_with fail
     refine hc.mono ?_;rintro e w' ⟨rfl,bw⟩;go_wp2_with fail
     go_ret;exact ⟨Z,Φ.trans (bw.mono Φ.size)⟩
   ·have hd:((f.aS.length:Int)== f.wide * f.high)=false:=by simpa using aw
    have HC:((f.aS.length:Int) != f.wide * f.high)=true:=by simpa using aw
    rw [aD.aqO κ aa aw];clear κ aa aw cj;generalize f.aS.length=n at *
    go_enter func88,ntmps88;go_wp2_with fail
    refine (fh _).mono ?_;rintro e w' ⟨rfl,rfl⟩;go_wp2_with fail
    refine (gD _).mono ?_;rintro e w' ⟨rfl,rfl⟩;go_wp2_with fail
    go_ret;exact ⟨Z,Φ⟩
theorem aiW (w:World):Calls prog 128 #[.int .i64 1] w λ e w'=>e= .returned (.tuple #[.agg #[.int .i64 10, .int .i64 1, .int .i64 1, .int .i64 5], .int .i64 0])∧Below w.heap.size w w':=by
 go_enter func128,ntmps128;go_wp2
 refine aVP (v:= .tuple #[.agg #[.int .i64 10, .int .i64 1, .int .i64 1, .int .i64 5], .int .i64 0]) (by simp [results,results128,go_sem]) Z ⟨Z,(aSm _ _).alloc (aR3 _) _⟩
theorem aiX (w:World):Calls prog 128 #[.int .i64 2] w λ e w'=>e= .returned (.tuple #[.agg #[.int .i64 20, .int .i64 2, .int .i64 4, .int .i64 12], .int .i64 0])∧Below w.heap.size w w':=by
 go_enter func128,ntmps128;go_wp2
 refine aVP (v:= .tuple #[.agg #[.int .i64 20, .int .i64 2, .int .i64 4, .int .i64 12], .int .i64 0]) (by simp [results,results128,go_sem]) Z ⟨Z,(aSm _ _).alloc (aR3 _) _⟩
theorem aiY (k:Int) (w:World) (h:cO k 1 2=false):Calls prog 128 #[.int .i64 k] w λ e w'=>e= .returned (.tuple #[.agg #[.int .i64 0, .int .i64 0, .int .i64 0, .int .i64 0], .int .i64 1])∧Below w.heap.size w w':=by
 have c6:=ayb h;have κ:(k == 1)=false:=by simp;omega
 have aa:(k == 2)=false:=by simp;omega
 clear h c6;go_enter func128,ntmps128;go_wp2
 refine aVP (v:= .tuple #[.agg #[.int .i64 0, .int .i64 0, .int .i64 0, .int .i64 0], .int .i64 1]) (by simp [results,results128,go_sem]) Z ⟨Z,(aSm _ _).alloc (aR3 _) _⟩
open Tryz

theorem YS {k k':IntKind} {a b a' pH:Int} (κ:a=a') (aa:b=pH):Ending.returned (.tuple #[.int k a, .int k' b])= .returned (.tuple #[.int k a', .int k' pH]):=by rw [κ,aa]
def aau (f:aD) (c:ax) (w:World) (e:Ending) (w':World):Prop:=e= .returned (.tuple #[.int .i64 (f.nn c), .int .i64 (f.dD c)])∧Below w.heap.size w w'
theorem Vu (f:aD) (p:ax) (A:Option Addr) (c:Nat) (w:World) (cj:bQ.aJ 8 w A c f.aS):
  Calls prog 158 #[.agg #[.int .i64 f.wide, .int .i64 f.high, .slice A f.aS.length c], .agg #[.int .i64 p.x, .int .i64 p.y]] w (aau f p w):=by
 have hA:=aP.new w (ah.Hd A c f) 24 (0,0);have Φ:=lr w (.cells (ah.Hd A c f).toArray 24 (0,0));have bg:=aP.new (w.alloc (.cells (ah.Hd A c f).toArray 24 (0,0))) p.cells 49 (0,0);have cQ:=lr (w.alloc (.cells (ah.Hd A c f).toArray 24 (0,0))) (.cells p.cells.toArray 49 (0,0));have km:=hA.later cQ;have pT:=Φ.trans (cQ.mono Φ.size);have hc:=ae4 f A c _ (cj.keep pT);have KL:=cj.keep pT;obtain ⟨aW,px⟩:∃ aW,Hid ((w.alloc (.cells (ah.Hd A c f).toArray 24 (0,0))).alloc (.cells p.cells.toArray 49 (0,0))=aW):=⟨_,aRV rfl⟩;rw [px.out] at km bg hc pT KL;rw [World.size_alloc] at bg;clear hA Φ cQ cj;have iu:∀ K:World→Prop,K aW→K ((w.alloc (.cells #[.int .i64 f.wide, .int .i64 f.high, .slice A f.aS.length c] 24)).alloc (.cells #[.int .i64 p.x, .int .i64 p.y] 49)):=λ K h=>by
  have:=px.out;rw [← this] at h;exact h
 by_cases aG:f.bp=0
 ·have qE:=aD.dU aG;obtain ⟨g1,g2,g3,g4,_,_⟩:=aD.jN aG;rw [aG] at hc;by_cases dv:0≤p.x∧p.x<f.wide∧0≤p.y∧p.y<f.high
  ·obtain ⟨i1,i2,i3,i4⟩:=dv;have hIn:=aD.ayk i1 i2 i3 i4;obtain ⟨bc,bl⟩:=aD.mG aG hIn;obtain ⟨eL,e9,_⟩:=aD.idx aG hIn;have uT:0≤p.y * f.wide:=aVd i3 (by omega);have Nt:p.y * f.wide≤1600:=by omega
   obtain ⟨b,o,rfl,jE⟩:=FF KL (by omega);have hce:=jE (p.y * f.wide+p.x).toNat (f.place p) (by
    unfold aD.place;rw [aRQ,aRT (show (p.y * f.wide+p.x).toNat<f.aS.length by omega)];rfl)
   have anZ:=aRV hce;have jq:=aRV (And.intro bc bl);have tD:=aRV km;have aM:=aRV bg;have d1:decide (p.x<0)=false:=by simpa using i1
   have d2:decide (p.y<0)=false:=by simpa using i3
   clear aG hIn bc bl jE hce KL km bg;go_enter func158,ntmps158;go_wp2_with fail
   refine iu (λ W=>Calls _ _ _ W _) ?_;refine hc.mono ?_;rintro e cF ⟨rfl,bw⟩;obtain ⟨mT,lF,mU⟩:=ah.aeW (tD.out.later bw);obtain ⟨De,r1⟩:=ax.ft (aM.out.later bw);have aKk:=cell_later bw anZ.out;go_wp2_with fail
   go_ret2
   exact ⟨YS jq.out.2.symm jq.out.1.symm,pT.trans (bw.mono pT.size)⟩
  ·have HO:p.x<0∨f.wide≤p.x∨p.y<0∨f.high≤p.y:=by omega
   have jq:=aRV (aD.J7 aG (aD.ayl HO));have tD:=aRV km;have aM:=aRV bg;clear aG KL km bg dv;have an9:=aRV HO;clear HO;go_enter func158,ntmps158;go_wp2_with fail
   refine iu (λ W=>Calls _ _ _ W _) ?_;refine hc.mono ?_;rintro e cF ⟨rfl,bw⟩;obtain ⟨mT,lF,mU⟩:=ah.aeW (tD.out.later bw);obtain ⟨De,r1⟩:=ax.ft (aM.out.later bw);have key:decide (p.x<0)=true∨(decide (p.x<0)=false∧decide (f.wide≤p.x)=true)∨(decide (p.x<0)=false∧decide (f.wide≤p.x)=false∧decide (p.y<0)=true)∨(decide (p.x<0)=false∧decide (f.wide≤p.x)=false∧decide (p.y<0)=false∧decide (f.high≤p.y)=true):=by
    have:=an9.out;by_cases ec:p.x<0
    ·simp [ec]
    by_cases eD:f.wide≤p.x
    ·simp [ec,eD]
    by_cases kP:p.y<0
    ·simp [ec,eD,kP]
    ·simp [ec,eD,kP];omega
   rcases key with h | ⟨h,aa⟩ | ⟨h,aa,aw⟩ | ⟨h,aa,aw,a6⟩
   all_goals
    go_wp2_with fail
    go_ret2
    exact ⟨YS jq.out.2.symm jq.out.1.symm,pT.trans (bw.mono pT.size)⟩
 ·obtain ⟨bc,bl⟩:=aD.TZ (c:=p) aG;have jq:=aRV (And.intro bc bl);have ff:(f.bp == 0)=false:=by simpa using aG
  have aK2:(f.bp != 0)=true:=by simpa using aG
  clear bc bl aG KL km bg;generalize f.bp=k at *
  go_enter func158,ntmps158;go_wp2_with fail
  refine iu (λ W=>Calls _ _ _ W _) ?_;refine hc.mono ?_;rintro e cF ⟨rfl,bw⟩;go_wp2_with fail
  go_ret2
  exact ⟨YS jq.out.2.symm jq.out.1.symm,pT.trans (bw.mono pT.size)⟩
theorem KF (f:aD) (p:ax) (A:Option Addr) (c:Nat) (w:World) (cj:bQ.aJ 8 w A c f.aS) (aG:f.bp=0):
  Calls prog 125 #[.agg #[.int .i64 f.wide, .int .i64 f.high, .slice A f.aS.length c], .agg #[.int .i64 p.x, .int .i64 p.y]] w λ e w'=>e= .returned (.bool (f.ground p))∧Below w.heap.size w w':=by
 have Φ:=lr w (.cells #[.int .i64 f.wide, .int .i64 f.high, .slice A f.aS.length c] 24);have cQ:=lr (w.alloc (.cells #[.int .i64 f.wide, .int .i64 f.high, .slice A f.aS.length c] 24)) (.cells #[.int .i64 p.x, .int .i64 p.y] 49);have pT:=Φ.trans (cQ.mono Φ.size);have hc:=Vu f p A c _ (cj.keep pT);unfold aau at hc;clear Φ cQ cj;cases dv:f.fi p with
 | true =>
  obtain ⟨bc,bl⟩:=aD.mG aG dv;rw [bc,bl] at hc;have aO:f.ground p=(f.place p != 1):=by unfold aD.ground;rw [dv];rfl
  rw [aO];clear bc bl dv aO aG;generalize f.place p=v at *
  generalize f.aS.length=n at *
  cases hv:v != 1 with
  | true =>
   have CX:(v == 1)=false:=by simpa using hv
   go_enter func125,ntmps125;go_wp2_with fail
   refine hc.mono ?_;rintro e cF ⟨rfl,bw⟩;go_wp2_with fail
   go_ret;exact ⟨h4 (by simp),pT.trans (bw.mono pT.size)⟩
  | false =>
   have CX:(v == 1)=true:=by simpa using hv
   go_enter func125,ntmps125;go_wp2_with fail
   refine hc.mono ?_;rintro e cF ⟨rfl,bw⟩;go_wp2_with fail
   go_ret;exact ⟨h4 (by simp),pT.trans (bw.mono pT.size)⟩
 | false =>
  obtain ⟨bc,bl⟩:=aD.J7 aG dv;rw [bc,bl] at hc;have aO:f.ground p=false:=by unfold aD.ground;rw [dv];rfl
  rw [aO];clear bc bl dv aO aG;generalize f.aS.length=n at *
  go_enter func125,ntmps125;go_wp2_with fail
  refine hc.mono ?_;rintro e cF ⟨rfl,bw⟩;go_wp2_with fail
  go_ret;exact ⟨Z,pT.trans (bw.mono pT.size)⟩
open Tryz

def ax.is (p x:ax):Bool:=decide (x=p)
theorem ax.ayn {p x:ax} (h:ax.is p x=true):x=p:=by simpa [ax.is] using h
theorem ax.aym {p x:ax} (h:ax.is p x=false):((p.x == x.x)=false)∨((p.x == x.x)=true∧(p.y == x.y)=false):=by
 have:¬ x=p:=by simpa [ax.is] using h
 obtain ⟨a,b⟩:=p;obtain ⟨c,d⟩:=x;simp at this ⊢;omega
theorem ax5 (p:ax) (A:Option Addr) (c:Nat) (l:List ax) (w:World) (aB:ax.rep.aJ 16 w A c l):
  Calls prog 159 #[.slice A l.length c, .agg #[.int .i64 p.x, .int .i64 p.y]] w λ e w'=>e= .returned (.int .i64 (gm (ax.is p) l))∧Below w.heap.size w w':=by
 obtain ⟨n,hn⟩:∃ n,l.length=n:=⟨_,rfl⟩;have hle:n≤9223372036854775807:=by have:=aB.1;have:=aB.2.1;omega
 rw [hn];have cC:=lr w (.cells #[.int .i64 p.x, .int .i64 p.y] 49);have aM:=aRV (aP.new w p.cells 49 (0,0));have qs:=aRV (aB.keep cC);have fa:=aRV hn;clear aB hn;go_enter func159,ntmps159;go_wp2_with fail
 obtain ⟨w0,js⟩:∃ w0,Hid (w0=w.alloc (.cells #[.int .i64 p.x, .int .i64 p.y] 49)):=⟨_,aRV rfl⟩;rw [← js.out] at cC ⊢;have aM:Hid (aP w0 w.heap.size p.cells 49 (0,0)):=by rw [js.out];exact aM
 have qs:Hid (ax.rep.aJ 16 w0 A c l):=by rw [js.out];exact qs
 go_loopw [5,8] (λ _ hh wr=>∃ k m:Nat,k≤n∧hh= .int .i64 (k:Int)∧Hid (∀ j (ay:j<k) (rS:j<l.length),(ax.is p) l[j]=false)∧Hid (wr=w0.drewN m)) (λ _ hh _=>n - (intOf hh).toNat)
 case atStart=>exact ⟨0,0,aSG _,rfl,(λ j ay=>by omega),rfl⟩
 case round =>
  obtain ⟨k,m,av,rfl,hY,BT⟩:=hrel;by_cases bC:k<n
  ·have i_:k<l.length:=by rw [fa.out];exact bC
   have afE:ax.rep.aJ 16 wr A c l:=by rw [BT.out];exact qs.out.drewN m
   have afx:aP wr w.heap.size p.cells 49 (0,0):=by rw [BT.out];exact aM.out.drewN m
   have CD:Below w.heap.size w wr:=by rw [BT.out];exact below_drewN cC m
   obtain ⟨b,o,rfl,jE⟩:=ax.at_ afE (by omega);obtain ⟨x,rW⟩:∃ x,l[k]'i_=x:=⟨_,rfl⟩;obtain ⟨mT,lF⟩:=jE k x (by rw [aRT i_,rW]);obtain ⟨De,r1⟩:=ax.ft afx;have wT:=aRV rW;have pX:(k:Int)<(n:Int):=by omega
   have pV:(0:Int)≤(k:Int):=by omega
   clear jE rW afE afx;cases jC:(ax.is p) x with
   | true =>
    have k7:gm (ax.is p) l=(k:Int):=Fa i_ (by rw [wT.out];exact jC) λ j ay=>hY.out j ay (by omega);have ra:=aRV k7;have axR:=ax.ayn jC;subst axR;clear k7 jC;go_wp2_with fail
    go_quiet (fail)
    go_wp2_with fail
    go_ret;exact ⟨by rw [ra.out];rfl,below_drewN CD _⟩
   | false =>
    have pn:Hid (∀ j (ay:j<k+1) (rS:j<l.length),(ax.is p) l[j]=false):=by
     intro j ay rS;by_cases h:j<k
     ·exact hY.out j h rS
     ·obtain rfl:j=k:=by omega
      rw [wT.out];exact jC
    have ff:=ax.aym jC;clear jC;rcases ff with κ | ⟨κ,aa⟩
    all_goals
     go_wp2_with fail
     go_quiet (fail)
     go_wp2_with fail
     go_roundw
     case rel=>exact ⟨k+1,_,by omega,by go_num,pn,by show _=_;rw [BT.out];simp;rfl⟩
     case measure=>simp [intOf];omega
  ·have k7:gm (ax.is p) l= -1:=E' λ j ay=>hY.out j (by have:=fa.out;omega) ay;have ra:=aRV k7;have axP:=BT.out;subst axP;clear k7;go_wp2_with fail
   go_ret;exact ⟨by rw [ra.out];rfl,below_drewN cC _⟩
theorem avA (p:ax) (A:Option Addr) (c:Nat) (l:List ax) (w:World) (aB:ax.rep.aJ 16 w A c l):
  Calls prog 126 #[.slice A l.length c, .agg #[.int .i64 p.x, .int .i64 p.y]] w λ e w'=>e= .returned (.bool (l.contains p))∧Below w.heap.size w w':=by
 have cC:=lr w (.cells #[.int .i64 p.x, .int .i64 p.y] 49);have hc:=ax5 p A c l _ (aB.keep cC);have pQ:l.contains p=decide (0≤gm (ax.is p) l):=by
  rw [LM,List.contains_eq_any_beq];congr 1
  funext x
  unfold ax.is;by_cases h:x=p
  ·simp [h]
  ·simp [h,aUx h]
 rw [pQ];generalize gm (ax.is p) l=r at *
 generalize l.length=n at *
 clear aB pQ;go_enter func126,ntmps126;go_wp2_with (go_at_call 159;refine hc.mono ?_;rintro e w' ⟨rfl,bw⟩)
 go_ret;exact ⟨Z,cC.trans (bw.mono cC.size)⟩
open Tryz
section
theorem bq.Pg {w:World} {aC:Nat} {a:ah.bZ} {W:ah} (h:bq w aC a W):
  (∀ x∈τ.ag a.M,x∉τ.ag a.P∧x∉τ.ag a.B∧x∉τ.ag a.S∧x∉τ.ag a.T)∧
  (∀ x∈τ.ag a.T,x∉τ.ag a.P∧x∉τ.ag a.B∧x∉τ.ag a.S∧x∉τ.ag a.M)∧
  (∀ x∈τ.ag a.S,x∉τ.ag a.P∧x∉τ.ag a.B∧x∉τ.ag a.M∧x∉τ.ag a.T):=by
 have hn:=h.apart;rw [aSI,aSI,aSI,aSI] at hn;obtain ⟨⟨⟨⟨_,_,Fy⟩,_,uA⟩,_,p8⟩,_,r5⟩:=hn;refine ⟨λ x hx=>⟨λ hp=> ?_,λ hp=> ?_,λ hp=> ?_,λ hp=> ?_⟩,λ x hx=>⟨λ hp=> ?_,λ hp=> ?_,λ hp=> ?_,λ hp=> ?_⟩,λ x hx=>⟨λ hp=> ?_,λ hp=> ?_,λ hp=> ?_,λ hp=> ?_⟩⟩
 ·exact p8 x (by simp [hp]) x hx Z
 ·exact p8 x (by simp [hp]) x hx Z
 ·exact p8 x (by simp [hp]) x hx Z
 ·exact r5 x (by simp [hx]) x hp Z
 ·exact r5 x (by simp [hp]) x hx Z
 ·exact r5 x (by simp [hp]) x hx Z
 ·exact r5 x (by simp [hp]) x hx Z
 ·exact r5 x (by simp [hp]) x hx Z
 ·exact uA x (by simp [hp]) x hx Z
 ·exact uA x (by simp [hp]) x hx Z
 ·exact p8 x (by simp [hx]) x hp Z
 ·exact r5 x (by simp [hx]) x hp Z
theorem vz {a:ah.bZ} {g:Nat}:g∈bq.b1 a↔g∈τ.ag a.P∨g∈τ.ag a.B∨g∈τ.ag a.S∨g∈τ.ag a.M∨g∈τ.ag a.T:=by
 unfold bq.b1;simp only [aR6];constructor
 ·rintro ((((h | h) | h) | h) | h)<;>simp [h]
 ·rintro (h | h | h | h | h)<;>simp [h]
namespace ah
def kT (k:Int):Int:=if k=1 then 5 else if k=2 then 12 else 0
end ah
theorem bq.mod {w aW:World} {aC:Nat} {a:ah.bZ} {W:ah} {S:List Nat} (h:bq w aC a W) (m:Mod S w aW) (hd:∀ x∈bq.b1 a,x∉S):bq aW aC a W :=
 ⟨h.P.mod m λ x hx=>hd x (vz.2 (.inl hx)),h.B.mod m λ x hx=>hd x (vz.2 (.inr (.inl hx))),h.S.mod m λ x hx=>hd x (vz.2 (.inr (.inr (.inl hx)))),h.M.mod m λ x hx=>hd x (vz.2 (.inr (.inr (.inr (.inl hx))))),h.T.mod m λ x hx=>hd x (vz.2 (.inr (.inr (.inr (.inr hx))))),h.apart,h.nums⟩
theorem rE {a:ah.bZ} {q:Nat} (h:q∈τ.ag a.T):q∈bq.b1 a:=vz.2 (.inr (.inr (.inr (.inr h))))
theorem EJ {a:ah.bZ} {q:Nat} (h:q∈τ.ag a.S):q∈bq.b1 a:=vz.2 (.inr (.inr (.inl h)))
theorem Hh {a:ah.bZ} {q:Nat} (h:q∈τ.ag a.M):q∈bq.b1 a:=vz.2 (.inr (.inr (.inr (.inl h))))
theorem Vw {a:ah.bZ} {q:Nat} (h:q∈τ.ag a.B):q∈bq.b1 a:=vz.2 (.inr (.inl h))
theorem Vx {a:ah.bZ} {q:Nat} (h:q∈τ.ag a.P):q∈bq.b1 a:=vz.2 (.inl h)
theorem bq.ak6 {w aW:World} {aC:Nat} {a:ah.bZ} {W:ah} {l:List Int} (h:bq w aC a W) (m:Mod (τ.ag a.S) w aW) (hS:bQ.aF 3 8 aW aC (τ.ag a.S) a.S a.s l):bq aW aC a {W with bh:=l}:=by
 obtain ⟨d1,d2,d3⟩:=h.Pg;exact ⟨h.P.mod m λ x hx hs=>(d3 x hs).1 hx,h.B.mod m λ x hx hs=>(d3 x hs).2.1 hx,hS,h.M.mod m λ x hx hs=>(d3 x hs).2.2.1 hx,h.T.mod m λ x hx hs=>(d3 x hs).2.2.2 hx,h.apart,h.nums⟩
theorem bq.swapT {w aW:World} {aC:Nat} {a:ah.bZ} {W:ah} {l:List bf} {A:Option Addr} {c:Nat} (h:bq w aC a W) (m:Mod (τ.ag a.T) w aW) (b6:bf.rep.aF 66 56 aW aC (τ.ag A) A c l) (I:∀ q∈τ.ag A,q∈τ.ag a.T∨w.heap.size≤q):
  bq aW aC {a with T:=A,t:=c} {W with ao:=l}:=by
 obtain ⟨d1,d2,d3⟩:=h.Pg;refine ⟨h.P.mod m λ x hx hs=>(d2 x hs).1 hx,h.B.mod m λ x hx hs=>(d2 x hs).2.1 hx,h.S.mod m λ x hx hs=>(d2 x hs).2.2.1 hx,h.M.mod m λ x hx hs=>(d2 x hs).2.2.2 hx,b6, ?_,h.nums⟩;have hn:=h.apart;rw [aSI] at hn ⊢;refine ⟨hn.1,vd A,λ x hx y aK e=> ?_⟩;subst e;rcases I x aK with aK | aK
 ·exact hn.2.2 x hx x aK Z
 ·have hf:x∈bq.b1 a:=by unfold bq.b1;rw [aR6];exact .inl hx
  have:=(h.lt x hf).2;omega
theorem bq.ak5 {w:World} {aC:Nat} {a:ah.bZ} {W V:ah} (h:bq w aC a W) (κ:V.field.aS=W.field.aS) (aa:V.aU=W.aU) (aw:V.bh=W.bh) (a6:V.br=W.br) (bL:V.ao=W.ao) (hn:fN V.field.wide∧fN V.field.high∧fN V.next∧fN V.now):bq w aC a V :=
 ⟨by rw [κ];exact h.P,by rw [aa];exact h.B,by rw [aw];exact h.S,by rw [a6];exact h.M,by rw [bL];exact h.T,h.apart,hn⟩
theorem ae8 {w:World} {aC:Nat} {a:ah.bZ} {W:ah} {A:Option Addr} {c q:Nat} (h:q∈bq.b1 {a with T:=A,t:=c}):q∈bq.b1 a∨q∈τ.ag A:=by
 rcases vz.1 h with h | h | h | h | h
 ·exact .inl (Vx h)
 ·exact .inl (Vw h)
 ·exact .inl (EJ h)
 ·exact .inl (Hh h)
 ·exact .inr h
def Iy (k:Int):Int:=if k=1 then 1 else if k=2 then 2 else 0
def ud (k:Int):Int:=if k=1 then 1 else if k=2 then 4 else 0
def HU (k:Int):Int:=if k=1 then 0 else if k=2 then 0 else 1
theorem XE (k:Int) (w:World):Calls prog 128 #[.int .i64 k] w λ e w'=>e= .returned (.tuple #[.agg #[.int .i64 (ah.ka k), .int .i64 (Iy k), .int .i64 (ud k), .int .i64 (ah.kT k)], .int .i64 (HU k)])∧Ext w w':=by
 by_cases κ:k=1
 ·subst κ;exact aiW w
 ·by_cases aa:k=2
  ·subst aa;exact aiX w
  ·have:=aiY k w (p0 (by omega));simpa [ah.ka,Iy,ud,ah.kT,HU,κ,aa] using this
theorem bq.down {w:World} {aC sC:Nat} {a:ah.bZ} {W:ah} (h:bq w aC a W) (bE:sC≤aC):bq w sC a W:=⟨h.P.down bE,h.B.down bE,h.S.down bE,h.M.down bE,h.T.down bE,h.apart,h.nums⟩
def ah.zero:ah:=⟨⟨0,0, []⟩, [], [], [], [],0,0⟩
theorem bq.zero (w:World) (aC:Nat):bq w aC ⟨none,none,none,none,none,0,0,0,0,0⟩ ah.zero:=⟨τ.aF.nil w,τ.aF.nil w,τ.aF.nil w,τ.aF.nil w,τ.aF.nil w,by simp [τ.ag],bG.2 (by decide),bG.2 (by decide),bG.2 (by decide),bG.2 (by decide)⟩
theorem TX {f:aD} {c:ax} (h:f.bp=0) (he:f.dD c=0):f.fi c=true:=by
 cases ar:f.fi c with
 | true=>rfl
 | false=>rw [(aD.J7 h ar).1] at he;omega
theorem sJ (f:aD) (p:ax) (A:Option Addr) (c:Nat) (w:World) (cj:bQ.aJ 8 w A c f.aS):
  Calls prog 158 #[.agg #[.int .i64 f.wide, .int .i64 f.high, .slice A f.aS.length c], .agg #[.int .i64 p.x, .int .i64 p.y]] w λ e w'=>e= .returned (.tuple #[.int .i64 (f.nn p), .int .i64 (f.dD p)])∧Below w.heap.size w w':=Vu f p A c w cj
theorem bq.Yj {w:World} {aC:Nat} {P B S M T:Option Addr} {p b s m t:Nat} {W:ah} (cj:bQ.aF 3 8 w aC (τ.ag P) P p W.field.aS) (bg:ax.rep.aF 49 16 w aC (τ.ag B) B b W.aU) (hS:bQ.aF 3 8 w aC (τ.ag S) S s W.bh) (pO:bQ.aF 3 8 w aC (τ.ag M) M m W.br) (b6:bf.rep.aF 66 56 w aC (τ.ag T) T t W.ao)
  (κ:∀ q∈τ.ag B,q∈τ.ag P→False) (aa:∀ q∈τ.ag S,q∈τ.ag P→False) (aw:∀ q∈τ.ag S,q∈τ.ag B→False) (a6:∀ q∈τ.ag M,q∈τ.ag P→False) (bL:∀ q∈τ.ag M,q∈τ.ag B→False) (ch:∀ q∈τ.ag M,q∈τ.ag S→False)
  (ef:∀ q∈τ.ag T,q∈τ.ag P→False) (gB:∀ q∈τ.ag T,q∈τ.ag B→False) (yR:∀ q∈τ.ag T,q∈τ.ag S→False) (PY:∀ q∈τ.ag T,q∈τ.ag M→False) (hn:fN W.field.wide∧fN W.field.high∧fN W.next∧fN W.now):
  bq w aC ⟨P,B,S,M,T,p,b,s,m,t⟩ W:=by
 refine ⟨cj,bg,hS,pO,b6, ?_,hn⟩;have bc:=vd P;have bl:=vd B;have cH:=vd S;have iq:=vd M;have An:=vd T;simp only [aSI,aR6]
 grind
theorem bq.aAf {w:World} {aC:Nat} {a:ah.bZ} {W:ah} {A:Option Addr} {c:Nat} {p:List bf} (h:bq w aC a W) (b6:bf.rep.aF 66 56 w aC (τ.ag A) A c p) (κ:∀ q∈τ.ag A,q∈bq.b1 a→False):bq w aC {a with T:=A,t:=c} {W with ao:=p}:=by
 refine ⟨h.P,h.B,h.S,h.M,b6, ?_,h.nums⟩;have hn:=h.apart;have bc:=vd A;have f1:∀ q∈τ.ag A,(q∈τ.ag a.P→False)∧(q∈τ.ag a.B→False)∧(q∈τ.ag a.S→False)∧(q∈τ.ag a.M→False):=λ q I=>⟨λ h=>κ q I (Vx h),λ h=>κ q I (Vw h),λ h=>κ q I (EJ h),λ h=>κ q I (Hh h)⟩;simp only [aSI,aR6] at hn ⊢
 grind
theorem aud {a:ah.bZ} {A:Option Addr} {c q:Nat} (h:q∈bq.b1 {a with T:=A,t:=c}):q∈bq.b1 a∨q∈τ.ag A:=by
 rcases vz.1 h with h | h | h | h | h
 ·exact .inl (Vx h)
 ·exact .inl (Vw h)
 ·exact .inl (EJ h)
 ·exact .inl (Hh h)
 ·exact .inr h
structure aHL (a:ah.bZ):Prop where
 sB:∀ q∈τ.ag a.P,q∈τ.ag a.S→False
 aHJ:∀ q∈τ.ag a.P,q∈τ.ag a.M→False
 aHI:∀ q∈τ.ag a.P,q∈τ.ag a.B→False
 aHK:∀ q∈τ.ag a.P,q∈τ.ag a.T→False
 aHR:∀ q∈τ.ag a.S,q∈τ.ag a.M→False
 aHQ:∀ q∈τ.ag a.S,q∈τ.ag a.B→False
 ST:∀ q∈τ.ag a.S,q∈τ.ag a.T→False
 aHD:∀ q∈τ.ag a.M,q∈τ.ag a.B→False
 abn:∀ q∈τ.ag a.M,q∈τ.ag a.T→False
 aGI:∀ q∈τ.ag a.B,q∈τ.ag a.T→False
end
section
def qa (f:aD) (c:ax):Int:=if f.fi c then tT (f.place c) else 0
theorem adj {f:aD} {c:ax} (hf:f.bp=0) (hc:f.fi c=true):(vn (f.place c)== 0)=f.ground c∧(f.ground c=true→tT (f.place c)=f.gF c):=by
 obtain ⟨_,_,_,_,_,g6⟩:=aD.jN hf;have hp:=g6 (f.place c) (by unfold aD.place;exact jd (aD.yy hf hc).1);unfold aD.ground;rw [hc];have:f.place c=0∨f.place c=1∨f.place c=2∨f.place c=3:=by omega
 unfold aD.gF vn tT;rcases this with h | h | h | h<;>rw [h]<;>simp
theorem aA6 {f:aD} {c:ax} (hf:f.bp=0) (h:¬ f.dD c=0):qa f c=0∧f.ground c=false:=by
 have hc:f.fi c=false:=by
  cases hc:f.fi c with
  | false=>rfl
  | true=>exact absurd (aD.mG hf hc).1 h
 unfold qa aD.ground;rw [hc];exact ⟨Z,Z⟩
theorem aA5 {f:aD} {c:ax} (hf:f.bp=0) (h:f.dD c=0):qa f c=tT (f.nn c)∧f.ground c=(vn (f.nn c)== 0):=by
 have hc:=TX hf h;rw [(aD.mG hf hc).2];unfold qa;rw [hc];exact ⟨Z,(adj hf hc).1.symm⟩
theorem aj6 {f:aD} {c:ax} (hf:f.bp=0) (h:f.ground c=true):qa f c=f.gF c:=by
 have hc:=aD.j8 h;unfold qa;rw [aR5 hc];exact (adj hf hc).2 h
theorem atW (p:Int) (w:World):
  Calls prog 199 #[.int .i64 p] w (λ e w'=>e= .returned (.tuple #[.int .i64 (tT p), .int .i64 (vn p)])∧Ext w w'):=by
 refine cd (n:=12) func199 Z Z Z ?_;refine aj<|va Z<|va Z<|ai<|az<|aj<|vm Z<|ai<|bS<|az<|aj<|J (beq Z Z)<|va Z<|ai<| ?_;refine jA Z (λ j_=> ?_) (λ j_=> ?_)
 ·have aLL:(p == 0)=true:=by simpa using j_
  refine bt<| ?_;refine jA Z (λ Wb=> ?_) (λ Wb=> ?_)
  ·have aLO:(p == 0)=true:=by simpa using Wb
   refine aj<|va Z<|va Z<|ai<|rt<|eF<|bO<|a8 (.tmp Z (.tmp Z .nil))<| ?_;exact ⟨by simp_all [tT,vn,uE],(Ext.bI w)⟩
  ·have aLP:(p == 0)=false:=by simpa using Wb
   refine aj<|J (beq Z Z)<|va Z<|ai<| ?_;refine jA Z (λ mK=> ?_) (λ mK=> ?_)
   ·have aLQ:(p == 2)=true:=by simpa using mK
    refine aj<|va Z<|va Z<|ai<|rt<|eF<|bO<|a8 (.tmp Z (.tmp Z .nil))<| ?_;exact ⟨by simp_all [tT,vn,uE],(Ext.bI w)⟩
   ·have aLR:(p == 2)=false:=by simpa using mK
    refine aj<|J (beq Z Z)<|va Z<|ai<| ?_;refine jA Z (λ lX=> ?_) (λ lX=> ?_)
    ·have aLE:(p == 1)=true:=by simpa using lX
     refine aj<|va Z<|va Z<|ai<|rt<|eF<|bO<|a8 (.tmp Z (.tmp Z .nil))<| ?_;exact ⟨by simp_all [tT,vn,uE],(Ext.bI w)⟩
    ·have aLF:(p == 1)=false:=by simpa using lX
     refine fo<|bY<|aV<|aj<|va Z<|va Z<|ai<|rt<|a8 (.tmp Z (.tmp Z .nil))<| ?_;exact ⟨by simp_all [tT,vn,uE],(Ext.bI w)⟩
 ·have aLG:(p == 0)=false:=by simpa using j_
  refine rg<|J (beq Z Z)<|va Z<|ai<| ?_;refine jA Z (λ V_=> ?_) (λ V_=> ?_)
  ·have aLH:(p == 3)=true:=by simpa using V_
   refine aj<|va Z<|va Z<|ai<|rt<|eF<|bO<|a8 (.tmp Z (.tmp Z .nil))<| ?_;exact ⟨by simp_all [tT,vn,uE],(Ext.bI w)⟩
  ·have aLI:(p == 3)=false:=by simpa using V_
   refine aj<|J (beq Z Z)<|va Z<|ai<| ?_;refine jA Z (λ pP=> ?_) (λ pP=> ?_)
   ·have aLJ:(p == 2)=true:=by simpa using pP
    refine aj<|va Z<|va Z<|ai<|rt<|eF<|bO<|a8 (.tmp Z (.tmp Z .nil))<| ?_;exact ⟨by simp_all [tT,vn,uE],(Ext.bI w)⟩
   ·have aLK:(p == 2)=false:=by simpa using pP
    refine aj<|J (beq Z Z)<|va Z<|ai<| ?_;refine jA Z (λ ly=> ?_) (λ ly=> ?_)
    ·have aLM:(p == 1)=true:=by simpa using ly
     refine aj<|va Z<|va Z<|ai<|rt<|eF<|bO<|a8 (.tmp Z (.tmp Z .nil))<| ?_;exact ⟨by simp_all [tT,vn,uE],(Ext.bI w)⟩
    ·have aLN:(p == 1)=false:=by simpa using ly
     refine fo<|bY<|aV<|aj<|va Z<|va Z<|ai<|rt<|a8 (.tmp Z (.tmp Z .nil))<| ?_;exact ⟨by simp_all [tT,vn,uE],(Ext.bI w)⟩
theorem r6 (w0:World) (f:aD) (P F A:Option Addr) (cc fJ c b:Nat) (a_:List Int) (l:List cb) (bo:ax) (p:ax) (w:World) (jb:Ext w0 w) (hf:f.bp=0) (cj:bQ.aJ 8 w0 P cc f.aS) (aM:aP w b [.int .i64 f.wide, .int .i64 f.high, .slice P f.aS.length cc, .int .i64 bo.x, .int .i64 bo.y, .slice F a_.length fJ, .slice A l.length c] 265 (0,0)) (hp: -500≤p.x∧p.x≤500∧ -500≤p.y∧p.y≤500):
  Calls prog 166 #[.pointer (some ⟨b,0,none⟩), .agg #[.int .i64 p.x, .int .i64 p.y]] w (λ e w'=>e= .returned (.int .i64 (p.y * f.wide+p.x))∧Ext w w'):=by
 have xR:=aM.lt;obtain ⟨g1,g2,g3,g4,g5,g6⟩:=aD.jN hf;have mT:=jb.size;refine cd (n:=16) func166 Z Z Z ?_;refine aj<|cw Z Z Z Z λ cI bJ a7 dY ab=> ?_;have:=a7.size;have bk:=γ jb a7;have ed:=ab.lt;refine va Z<|ai<|az<| ?_;refine rd [(1,0),(6,0),(9,0)] [0,1,2,3,4,5,6,7,8,9,10,11] (by kernel_rfl) (by kernel_rfl) ?_;refine aq Z (λ _=>au iK Z)<|bA Z (λ _ x=>ak Z ((ab.later x).one ba Z))<|aq Z (λ _=>aH Z)<|aq Z (λ _=>b3 Z)<|aq Z (λ _=>au aev Z)<|aq Z (λ _=>au Kp Z)<| ?_;have aM:=aM.later a7;refine bA Z (λ _ x=>ak Z ((aM.later x).one ba Z))<|aq Z (λ _=>Ce Z Z (bH ((by have:=aUm (show p.y≤500 by omega) g2 (by omega) (by omega);have:=aUm (show -p.y≤500 by omega) g2 (by omega) (by omega);rw [Int.neg_mul] at this;omega))))<|aq Z (λ _=>au iJ Z)<|bA Z (λ _ x=>ak Z ((ab.later x).one ba Z))<|aq Z (λ _=>bad Z Z (bH ((by have:=aUm (show p.y≤500 by omega) g2 (by omega) (by omega);have:=aUm (show -p.y≤500 by omega) g2 (by omega) (by omega);rw [Int.neg_mul] at this;omega))))<|aq Z (λ _=>ew Z)<|fn λ er cD=> ?_;have:=cD.size;have bK:=γ bk cD;refine aV<|rt<|a8 (.tmp Z .nil)<| ?_;exact ⟨Z,γ a7 cD⟩
theorem Yv (w0:World) (f:aD) (P F A:Option Addr) (cc fJ c b:Nat) (a_:List Int) (l:List cb) (bo:ax) (p:ax) (w:World) (jb:Ext w0 w) (hf:f.bp=0) (cj:bQ.aJ 8 w0 P cc f.aS) (aM:aP w b [.int .i64 f.wide, .int .i64 f.high, .slice P f.aS.length cc, .int .i64 bo.x, .int .i64 bo.y, .slice F a_.length fJ, .slice A l.length c] 265 (0,0)):
  Calls prog 164 #[.pointer (some ⟨b,0,none⟩), .agg #[.int .i64 p.x, .int .i64 p.y]] w (λ e w'=>e= .returned (.tuple #[.int .i64 (qa f p), .bool (f.ground p)])∧Ext w w'):=by
 have xR:=aM.lt;obtain ⟨g1,g2,g3,g4,g5,g6⟩:=aD.jN hf;have mT:=jb.size;refine cd (n:=28) func164 Z Z Z ?_;refine aj<|cw Z Z Z Z λ cI bJ a7 dY ab=> ?_;have:=a7.size;have bk:=γ jb a7;have ed:=ab.lt;refine va Z<|va Z<|ai<|az<| ?_;refine rd [(3,0),(4,0),(5,0)] [0,1,2,3,4,5,6,7,8,9,10] (by kernel_rfl) (by kernel_rfl) ?_;refine aq Z (λ _=>aH Z)<|aq Z (λ _=>b3 Z)<|aq Z (λ _=>au aev Z)<| ?_;have aM:=aM.later a7;refine bA Z (λ _ x=>ak Z ((aM.later x).par [.int .i64 f.wide, .int .i64 f.high, .slice P f.aS.length cc] k5 k6 Z))<|bA Z (λ _ x=>ak Z ((ab.later x).all cg bT))<|pN Z Z rB Z (λ _ x=>sJ f p _ _ _ (cj.keep (γ bk x))) Z<|aq Z (λ _=>aH Z)<|aq Z (λ _=>ex Z Z)<|aq Z (λ _=>ex Z Z)<|aq Z (λ _=>ew Z)<|aq Z (λ _=>ew Z)<|fn λ er cD=> ?_;have:=cD.size;have bK:=γ bk cD;refine aV<|az<|aj<|vm Z<|J (bne Z Z)<|ai<| ?_;refine ey Z (λ kM=> ?_) (λ kM=> ?_)
 ·have Lt:=aA6 hf kM;refine aj<|va Z<|va Z<|ai<|rt<|bO<|a8 (.tmp Z (.tmp Z .nil))<| ?_;exact ⟨by rw [Lt.1,Lt.2];rfl,γ a7 cD⟩
 ·have Lt:=aA5 hf kM;refine bt<|aj<|vm Z<|ca ato Z Z ((atW (f.nn p) _).mono ?_);rintro e Bk ⟨rfl,dm⟩;refine ⟨_,Z, ?_⟩;have:=dm.size;have m_:=γ bK dm;refine vm Z<|J (ex Z Z)<|J (ex Z Z)<|va Z<|va Z<|ai<|aj<|vm Z<|vm Z<|J (beq Z Z)<|va Z<|va Z<|ai<|rt<|a8 (.tmp Z (.tmp Z .nil))<| ?_;exact ⟨by rw [Lt.1,Lt.2];rfl,γ (γ a7 cD) dm⟩
theorem akk (p:ax) (w:World) (hp: -100000≤p.x∧p.x≤100000∧ -100000≤p.y∧p.y≤100000):
  Calls prog 165 #[.agg #[.int .i64 p.x, .int .i64 p.y]] w (λ e w'=>e= .returned (.agg #[.int .i64 p.x, .int .i64 (p.y - 1), .int .i64 (p.x - 1), .int .i64 p.y, .int .i64 (p.x+1), .int .i64 p.y, .int .i64 p.x, .int .i64 (p.y+1)])∧Ext w w'):=by
 refine cd (n:=28) func165 Z Z Z ?_;refine aj<|cw Z Z Z Z λ cI bJ a7 dY ab=> ?_;have:=a7.size;have bk:=γ (Ext.bI w) a7;have ed:=ab.lt;refine al Z atq Z Z λ er cu bj ht ae=> ?_;have:=bj.size;have bK:=γ bk bj;have hk:=ae.lt;refine ai<|aj<|J (au iJ Z)<| ?_;have ab:=ab.later bj;refine J (ak Z (ab.one ba Z))<|J (au iK Z)<|J (ak Z (ab.one ba Z))<|J (mi Z Z (bH (by omega)))<|J (v:= .agg #[.int .i64 p.x, .int .i64 (p.y - 1)]) (cE Z (by kernel_rfl))<|J (au iJ Z)<|J (ak Z (ab.one ba Z))<|J (mi Z Z (bH (by omega)))<|J (au iK Z)<|J (ak Z (ab.one ba Z))<|J (v:= .agg #[.int .i64 (p.x - 1), .int .i64 p.y]) (cE Z (by kernel_rfl))<|J (au iJ Z)<|J (ak Z (ab.one ba Z))<|J (bad Z Z (bH (by omega)))<|J (au iK Z)<|J (ak Z (ab.one ba Z))<|J (v:= .agg #[.int .i64 (p.x+1), .int .i64 p.y]) (cE Z (by kernel_rfl))<|J (au iJ Z)<|J (ak Z (ab.one ba Z))<|J (au iK Z)<|J (ak Z (ab.one ba Z))<|J (bad Z Z (bH (by omega)))<|J (v:= .agg #[.int .i64 p.x, .int .i64 (p.y+1)]) (cE Z (by kernel_rfl))<|J (v:= .agg #[.int .i64 p.x, .int .i64 (p.y - 1), .int .i64 (p.x - 1), .int .i64 p.y, .int .i64 (p.x+1), .int .i64 p.y, .int .i64 p.x, .int .i64 (p.y+1)]) (cE Z (by kernel_rfl))<| ?_;refine st (new:= [.int .i64 p.x, .int .i64 (p.y - 1), .int .i64 (p.x - 1), .int .i64 p.y, .int .i64 (p.x+1), .int .i64 p.y, .int .i64 p.x, .int .i64 (p.y+1)]) Z Z ae Z aeI Z Z Z λ hD Fp ae=> ?_;have:=Fp.size;have cZ:=Ext.mod bK Fp bs;refine ai<|rt<|a8 (.cell Z (ae.all atr aeI) .nil)<| ?_;exact ⟨Z,cZ⟩
end
section
theorem rD {P:Program} {n:Nat} {ops:Array Oper} {Q:Exit→Act→World→Prop} {aZ:Nat→Nat} {b5:List Nat} {E:List (Nat×Value)} {w0:World} {i d:Nat} {op:Op} {ty:TypeId} {pos:String} {af:Array Edge} {j:Nat} {q:Bool} {u:Value} {de:Oper} {jM:Nat} (ar:ops[i]? =some ⟨some d,op,ty,pos,af,some (j,q)⟩) (av:Nat.ble (aZ i) 1=true) (ay:ops[j]? =some de) (nx:de.dst=some jM) (Φ:look E jM=some (h' false u)) (hd:Nat.blt d n=true)
  (h:j0 P n ops Q aZ b5 ((d,undef)::E) w0):j0 P n ops Q aZ (i::b5) E w0:=λ a ha=>by
 have κ:=ha.g _ _ Φ;simp only [h',aSK,aTf] at κ;have hw:Region.wanted ⟨some d,op,ty,pos,af,some (j,q)⟩ (yielded ops a.tmps)=false:=by simp [Region.wanted,yielded,ay,nx,κ,undef]
 have av:=aTS av;rcases aSU 0 (aZ i) with aG | aG
 ·exact ⟨_,ar, .inr (.inl ⟨by omega,undef, .inr ⟨hw,rfl⟩,h _ (ha.put hd _)⟩)⟩
 ·exact ⟨_,ar, .inl ⟨by omega,undef, .inr ⟨hw,rfl⟩,h _ (ha.put hd _)⟩⟩
end
section
theorem Yy (w0:World) (f:aD) (P F A:Option Addr) (cc fJ c b:Nat) (a_:List Int) (l:List cb) (bo:ax) (p:ax) (d:Int) (w:World) (jb:Ext w0 w) (hf:f.bp=0) (cj:bQ.aJ 8 w0 P cc f.aS) (aM:aP w b [.int .i64 f.wide, .int .i64 f.high, .slice P f.aS.length cc, .int .i64 bo.x, .int .i64 bo.y, .slice F a_.length fJ, .slice A l.length c] 265 (0,0)) (Φ:w0.heap.size≤b) (tF:cb.rep.aF 313 32 w w0.heap.size (τ.ag A) A c l) (Ql:∀ q∈τ.ag A,q=b→False) (dM:∀ y∈l,y.ok) (aB:l.length≤1000000) (hp: -500≤p.x∧p.x≤500∧ -500≤p.y∧p.y≤500) (aE: -500≤bo.x∧bo.x≤500∧ -500≤bo.y∧bo.y≤500) (hd:0≤d∧d≤100000):
  Calls prog 197 #[.pointer (some ⟨b,0,none⟩), .agg #[.int .i64 p.x, .int .i64 p.y], .int .i64 d] w (λ e w'=>∃ bM b8,e= .returned (.tuple #[])∧aP w' b [.int .i64 f.wide, .int .i64 f.high, .slice P f.aS.length cc, .int .i64 bo.x, .int .i64 bo.y, .slice F a_.length fJ, .slice bM ((ct.push cb.all l ⟨p,d,d+aD.kL bo p⟩).length) b8] 265 (0,0)∧cb.rep.aF 313 32 w' w0.heap.size (τ.ag bM) bM b8 (ct.push cb.all l ⟨p,d,d+aD.kL bo p⟩)∧(∀ q∈τ.ag bM,q=b→False)∧(∀ q∈τ.ag bM,q∈τ.ag A∨w.heap.size≤q)∧Mod (b::τ.ag A) w w'):=by
 have xR:=aM.lt;obtain ⟨g1,g2,g3,g4,g5,g6⟩:=aD.jN hf;have mT:=jb.size;have aDL:=λ q I=>(tF.lt q I).2;have oT:=tF.has.dU;have yZ:∀ q∈b::τ.ag A,w0.heap.size≤q:=λ q I=>(aSc.1 I).elim (λ h=>by omega) λ h=>(tF.lt q h).1;have aLf:=jg (bo.x - p.x);have aLg:=jg (bo.y - p.y);refine cd (n:=32) func197 Z Z Z ?_;refine aj<|cw Z Z Z Z λ cI bJ a7 dY ab=> ?_;have:=a7.size;have bk:=(Mod.bI (b::τ.ag A) w).trans (Mod.bz a7);have ed:=ab.lt;refine ai<|az<| ?_;refine rd [(0,0),(4,0),(5,0)] [0,1,2,3,4,5,6,7,8,9,10,11,12] (by kernel_rfl) (by kernel_rfl) ?_;refine bA Z (λ _ x=>ak Z ((ab.later x).all cg bT))<|aq Z (λ _=>aH Z)<|aq Z (λ _=>b3 Z)<|aq Z (λ _=>au aeJ Z)<| ?_;have aM:=aM.later a7;refine bA Z (λ _ x=>ak Z ((aM.later x).par [.int .i64 bo.x, .int .i64 bo.y] cg bT Z))<|pN Z Z aeK Z (λ _ x=>acq p bo _ (by omega) (by omega)) Z<|aq Z (λ _=>aH Z)<|aq Z (λ _=>ex Z Z)<|aq Z (λ _=>ex Z Z)<|aq Z (λ _=>ex Z Z)<|aq Z (λ _=>ew Z)<|aq Z (λ _=>ew Z)<|aq Z (λ _=>ew Z)<|fn λ er cD=> ?_;have:=cD.size;have bK:=bk.trans (Mod.bz cD);refine aV<| ?_;refine rd [(4,0),(12,3)] [0,1,2,3,4,5,6,7,8,9,10,11,12] (by kernel_rfl) (by kernel_rfl) ?_;refine aq Z (λ _=>aH Z)<|aq Z (λ _=>b3 Z)<|aq Z (λ _=>au EG Z)<|aq Z (λ _=>Rg (λ w=>by kernel_rfl) Z)<| ?_;have ab:=ab.later cD;refine bA Z (λ _ x=>ak Z ((ab.later x).all cg bT))<|aq Z (λ _=>aH Z)<|aq Z (λ _=>aH Z)<|aq Z (λ _=>aH Z)<|aq Z (λ _=>Ce Z Z (bH (by omega)))<|aq Z (λ _=>bad Z Z (bH (by omega)))<|rF (v:= .agg #[.int .i64 p.x, .int .i64 p.y, .int .i64 d, .int .i64 (d+(2 * (cp (bo.x - p.x)+cp (bo.y - p.y))))]) Z Z (λ _=>cE Z (by kernel_rfl)) Z<|aq Z (λ _=>Rg (λ w=>by kernel_rfl) Z)<| ?_;have tF:=tF.later (γ a7 cD);have aM:=aM.later cD;refine eo Z Z Z λ wg mX Q hK=>ca ats Z Z ((aFn b A c w0.heap.size l (.int .i64 f.wide) (.int .i64 f.high) (.slice P f.aS.length cc) (.int .i64 bo.x) (.int .i64 bo.y) (.slice F a_.length fJ) ((⟨⟨p.x,p.y⟩,d,d+(2 * (cp (bo.x - p.x)+cp (bo.y - p.y)))⟩:cb)) _ (aM.later mX) (tF.later mX) dM Ql ⟨bG.2 (by dsimp only;omega),bG.2 (by dsimp only;omega),bG.2 (by dsimp only;omega),bG.2 (by dsimp only;omega)⟩ aB (by have:=mX.size;omega)).mono ?_);rintro e hD ⟨amX,apW,rfl,Ti,Od,agt,X1⟩;refine ⟨_,Z,hK _ _ ?_⟩;have:=mX.size;have kB:=bK.trans (Mod.bz mX);have:=X1.size;have cZ:=kB.md X1 (λ q I=> .inl I);have uI:=λ q I=>(Od.lt q I).2;refine fn λ FR uR=> ?_;have:=uR.size;have sj:=cZ.trans (Mod.bz uR);refine ne<|a8 .nil<| ?_;have Od:=Od.later uR;have Ti:=Ti.later uR;exact ⟨amX,apW,Z,Ti,Od,λ q I Φ=>by exfalso;(exact aR4 (agt q I) (λ aio=>by (exact Ql q aio Φ)) (λ aio=>by omega)),λ q I=>(agt q I).imp id λ h=>by omega,sj⟩
end
end Go.Proofs.YtlikikpgmmkjbaaGreat
