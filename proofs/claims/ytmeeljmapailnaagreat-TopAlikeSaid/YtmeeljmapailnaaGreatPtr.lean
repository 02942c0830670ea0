import Derived.Test.YtmeeljmapailnaaGreatEqI
set_option linter.unusedVariables false
set_option linter.unusedSimpArgs false
set_option maxRecDepth 100000
set_option maxHeartbeats 4000000
open Go.RowKit
namespace Go.Proofs.YtmeeljmapailnaaGreat
open Tryz
open Tryz
abbrev aTG:=@Go.Lib.hid
abbrev aVz:=@Int.lt_or_le
abbrev aXK:=@Go.bodyPost_ret

def aI.pI (p:Int):Bool:= !aI.Sa p
theorem aqT {p:Int}:(p<0→aI.pI p=true)∧(4≤p→aI.pI p=true)∧(0≤p→p<4→aI.pI p=false):=by
 unfold aI.pI aI.Sa;refine ⟨λ h=>by rw [p1 (.inl h)];rfl,λ h=>by rw [p1 (.inr (by omega))];rfl,λ τ ae=>by rw [o2 τ (by omega)];rfl⟩
theorem avF (p:Int) (w:World):Calls prog 110 #[.int .i64 p] w λ e w'=>e= .returned (.bool (aI.pI p))∧Below w.heap.size w w':=by
 obtain ⟨hL,dH,gy⟩:=aqT (p:=p);rcases aVz p 0 with h | h
 ·have γ:=hL h;have hd:decide (p<0)=true:=by simpa using h
  rw [γ];clear hL dH gy γ;go_enter func110,ntmps110;go_wp2
  go_ret;exact ⟨Z,aUb _ _⟩
 ·rcases aVz p 4 with aU | aU
  ·have γ:=gy h aU;have hd:decide (p<0)=false:=by simpa using h
   rw [γ];clear hL dH gy γ;go_enter func110,ntmps110;go_wp2
   go_ret;exact ⟨iq (by simp<;>omega),aUb _ _⟩
  ·have γ:=dH aU;have hd:decide (p<0)=false:=by simpa using h
   rw [γ];clear hL dH gy γ;go_enter func110,ntmps110;go_wp2
   go_ret;exact ⟨iq (by simp<;>omega),aUb _ _⟩
theorem az6  (A:Option Addr) (c:Nat) (l:List Int) (w:World) (aC:bW.aG 8 w A c l):
  Calls prog 145 #[.slice A l.length c, .func (.func 110) #[] #[]] w λ e w'=>e= .returned (.int .i64 (fP (aI.pI) l))∧Below w.heap.size w w':=by
 obtain ⟨n,hn⟩:∃ n,l.length=n:=⟨_,rfl⟩;have hle:n≤9223372036854775807:=by have:=aC.1;have:=aC.2.1;omega
 rw [hn];have qB:=aTG aC;have eJ:=aTG hn;clear aC hn;go_enter func145,ntmps145;go_wp2_with fail
 go_loopw [5,8] (λ _ ht wr=>∃ k:Nat,k≤n∧ht= .int .i64 (k:Int)∧Hid (∀ j (aA:j<k) (rR:j<l.length),(aI.pI) l[j]=false)∧Below w.heap.size w wr) (λ _ ht _=>n - (intOf ht).toNat)
 case atStart=>exact ⟨0,aUv _,rfl,(λ j aA=>by omega),aUb _ _⟩
 case round =>
  obtain ⟨k,au,rfl,ig,γ⟩:=hrel;by_cases bA:k<n
  ·have js:k<l.length:=by rw [eJ.out];exact bA
   obtain ⟨b,o,rfl,jJ⟩:=Gg (qB.out.keep γ) (by omega);obtain ⟨x,rV⟩:∃ x,l[k]'js=x:=⟨_,rfl⟩;have ux:=jJ k x (by rw [aTF js,rV]);have wK:=aTG rV

   have hc:=avF x wr;clear jJ rV;cases jH:(aI.pI) x with
   | true =>
    have lh:fP (aI.pI) l=(k:Int):=FO js (by rw [wK.out];exact jH) λ j aA=>ig.out j aA (by omega);rw [jH] at hc;have rj:=aTG lh;clear lh jH;go_wp2_with (go_at_call 110;refine hc.mono ?_;rintro e w' ⟨rfl,bF⟩)
    go_ret;exact ⟨by rw [rj.out];rfl,γ.trans (bF.mono γ.size)⟩
   | false =>
    rw [jH] at hc;have pz:Hid (∀ j (aA:j<k+1) (rR:j<l.length),(aI.pI) l[j]=false):=by
     intro j aA rR;by_cases h:j<k
     ·exact ig.out j h rR
     ·obtain rfl:j=k:=by omega
      rw [wK.out];exact jH
    clear jH;go_wp2_with (go_at_call 110;refine hc.mono ?_;rintro e w' ⟨rfl,bF⟩)
    go_roundw
    case rel=>exact ⟨k+1,by omega,by go_num,pz,γ.trans (bF.mono γ.size)⟩
    case measure=>simp [intOf];omega
  ·have lh:fP (aI.pI) l= -1:=FN λ j aA=>ig.out j (by have:=eJ.out;omega) aA;have rj:=aTG lh;clear lh;go_wp2_with fail
   go_ret;exact ⟨by rw [rj.out];rfl,γ⟩
theorem axt  (A:Option Addr) (c:Nat) (l:List Int) (w:World) (aC:bW.aG 8 w A c l):
  Calls prog 109 #[.slice A l.length c, .func (.func 110) #[] #[]] w λ e w'=>e= .returned (.bool (l.any (aI.pI)))∧Below w.heap.size w w':=by
 have hc:=az6  A c l w aC ;rw [← Mi];generalize fP (aI.pI) l=r at *
 generalize l.length=n at *
 clear aC ;go_enter func109,ntmps109;go_wp2_with (go_at_call 145;refine hc.mono ?_;rintro e w' ⟨rfl,bF⟩)
 go_ret;exact ⟨Z,bF⟩
theorem Tk (n lo ar:Int) (w:World):Calls prog 113 #[.int .i64 n, .int .i64 lo, .int .i64 ar] w λ e w'=>e= .returned (.bool (c9 n lo ar))∧w=w':=by
 rcases aVz n lo with h | h
 ·rw [p1 (.inl h)];go_enter func113,ntmps113;go_wp2
  go_ret;exact ⟨Z,Z⟩
 ·rcases aVz ar n with aU | aU
  ·rw [p1 (.inr aU)];go_enter func113,ntmps113;go_wp2
   go_ret;exact ⟨iq (by simp<;>omega),Z⟩
  ·rw [o2 h aU];go_enter func113,ntmps113;go_wp2
   go_ret;exact ⟨iq (by simp<;>omega),Z⟩
theorem alC (n:Int) (w:World):Calls prog 108 #[.int .i64 n] w λ e w'=>e= .returned (.bool (c9 n 1 40))∧w=w':=by
 rcases aVz n 1 with h | h
 ·rw [p1 (.inl h)];go_enter func108,ntmps108;go_wp2
  go_ret;exact ⟨Z,Z⟩
 ·rcases aVz 40 n with aU | aU
  ·rw [p1 (.inr aU)];go_enter func108,ntmps108;go_wp2
   go_ret;exact ⟨iq (by simp<;>omega),Z⟩
  ·rw [o2 h aU];go_enter func108,ntmps108;go_wp2
   go_ret;exact ⟨iq (by simp<;>omega),Z⟩
open Tryz

theorem aI.aso {f:aI} (τ:c9 f.wide 1 40=true) (ae:c9 f.high 1 40=true) (aw:¬ (f.a8.length:Int)=f.wide * f.high):f.bn=4:=by
 unfold aI.bn;rw [τ,ae,aT4 aw];rfl
theorem aI.asl {f:aI} (τ:c9 f.wide 1 40=true) (ae:c9 f.high 1 40=true) (aw:(f.a8.length:Int)=f.wide * f.high):f.bn=if f.a8.any aI.pI then 4 else 0:=by
 unfold aI.bn;rw [τ,ae,aT3 aw];have:f.a8.all aI.Sa= !f.a8.any aI.pI:=by
  rw [List.all_eq_not_any_not];rfl
 rw [this];cases f.a8.any aI.pI<;>rfl
theorem afj (f:aI) (A:Option Addr) (c:Nat) (w:World) (cq:bW.aG 8 w A c f.a8):
  Calls prog 64 #[.agg #[.int .i64 f.wide, .int .i64 f.high, .slice A f.a8.length c]] w λ e w'=>e= .returned (.int .i64 f.bn)∧Below w.heap.size w w':=by
 have γ:=lA w (.cells #[.int .i64 f.wide, .int .i64 f.high, .slice A f.a8.length c] 24);have ft:=alC f.wide;have gM:=alC f.high;cases τ:c9 f.wide 1 40 with
 | false =>
  rw [τ] at ft;rw [aI.adq (by rw [τ];rfl)];clear τ gM cq;go_enter func64,ntmps64;go_wp2_with (go_at_call 108;refine (ft _).mono ?_;rintro e w' ⟨rfl,rfl⟩)
  go_ret;exact ⟨Z,γ⟩
 | true =>
  rw [τ] at ft;cases ae:c9 f.high 1 40 with
  | false =>
   rw [ae] at gM;rw [aI.adq (by rw [τ,ae];rfl)];clear τ ae cq;go_enter func64,ntmps64;go_wp2_with fail
   refine (ft _).mono ?_;rintro e w' ⟨rfl,rfl⟩;go_wp2_with fail
   refine (gM _).mono ?_;rintro e w' ⟨rfl,rfl⟩;go_wp2_with fail
   go_ret;exact ⟨Z,γ⟩
  | true =>
   rw [ae] at gM;have hw:=kR τ;have fI:=kR ae;have Br:0≤f.wide * f.high:=aW5 (by omega) (by omega);have Is:f.wide * f.high≤40 * 40:=aWi hw.2 fI.2 (by omega) (by omega);by_cases aw:(f.a8.length:Int)=f.wide * f.high
   ·have hc:=axt A c f.a8 _ (cq.keep γ);have hd:((f.a8.length:Int)== f.wide * f.high)=true:=by simpa using aw
    have Ii:((f.a8.length:Int) != f.wide * f.high)=false:=by simpa using aw
    rw [aI.asl τ ae aw];clear τ ae aw cq;generalize f.a8.any aI.pI=r at *
    generalize f.a8.length=n at *
    cases r with
    | true =>
     go_enter func64,ntmps64;go_wp2_with fail
     refine (ft _).mono ?_;rintro e w' ⟨rfl,rfl⟩;go_wp2_with fail
     refine (gM _).mono ?_;rintro e w' ⟨rfl,rfl⟩;go_wp2_with fail
     refine hc.mono ?_;rintro e w' ⟨rfl,bF⟩;go_wp2_with fail
     go_ret;exact ⟨Z,γ.trans (bF.mono γ.size)⟩
    | false =>
     go_enter func64,ntmps64;go_wp2_with fail
     refine (ft _).mono ?_;rintro e w' ⟨rfl,rfl⟩;go_wp2_with fail
     refine (gM _).mono ?_;rintro e w' ⟨rfl,rfl⟩;go_wp2_with fail
     refine hc.mono ?_;rintro e w' ⟨rfl,bF⟩;go_wp2_with fail
     go_ret;exact ⟨Z,γ.trans (bF.mono γ.size)⟩
   ·have hd:((f.a8.length:Int)== f.wide * f.high)=false:=by simpa using aw
    have Ii:((f.a8.length:Int) != f.wide * f.high)=true:=by simpa using aw
    rw [aI.aso τ ae aw];clear τ ae aw cq;generalize f.a8.length=n at *
    go_enter func64,ntmps64;go_wp2_with fail
    refine (ft _).mono ?_;rintro e w' ⟨rfl,rfl⟩;go_wp2_with fail
    refine (gM _).mono ?_;rintro e w' ⟨rfl,rfl⟩;go_wp2_with fail
    go_ret;exact ⟨Z,γ⟩
theorem aje (w:World):Calls prog 11 #[.int .i64 1] w λ e w'=>e= .returned (.tuple #[.agg #[.int .i64 10, .int .i64 1, .int .i64 1, .int .i64 5], .int .i64 0])∧Below w.heap.size w w':=by
 go_enter func11,ntmps11;go_wp2
 refine aXK (v:= .tuple #[.agg #[.int .i64 10, .int .i64 1, .int .i64 1, .int .i64 5], .int .i64 0]) (by simp [results,results11,go_sem]) Z ⟨Z,(aUb _ _).alloc (aTK _) _⟩
theorem ajf (w:World):Calls prog 11 #[.int .i64 2] w λ e w'=>e= .returned (.tuple #[.agg #[.int .i64 20, .int .i64 2, .int .i64 4, .int .i64 12], .int .i64 0])∧Below w.heap.size w w':=by
 go_enter func11,ntmps11;go_wp2
 refine aXK (v:= .tuple #[.agg #[.int .i64 20, .int .i64 2, .int .i64 4, .int .i64 12], .int .i64 0]) (by simp [results,results11,go_sem]) Z ⟨Z,(aUb _ _).alloc (aTK _) _⟩
theorem ajg (k:Int) (w:World) (h:c9 k 1 2=false):Calls prog 11 #[.int .i64 k] w λ e w'=>e= .returned (.tuple #[.agg #[.int .i64 0, .int .i64 0, .int .i64 0, .int .i64 0], .int .i64 1])∧Below w.heap.size w w':=by
 have c7:=aAa h;have τ:(k == 1)=false:=by simp;omega
 have ae:(k == 2)=false:=by simp;omega
 clear h c7;go_enter func11,ntmps11;go_wp2
 refine aXK (v:= .tuple #[.agg #[.int .i64 0, .int .i64 0, .int .i64 0, .int .i64 0], .int .i64 1]) (by simp [results,results11,go_sem]) Z ⟨Z,(aUb _ _).alloc (aTK _) _⟩
open Tryz

theorem ZK {k k':IntKind} {a b a' pG:Int} (τ:a=a') (ae:b=pG):Ending.returned (.tuple #[.int k a, .int k' b])= .returned (.tuple #[.int k a', .int k' pG]):=by rw [τ,ae]
def abi (f:aI) (c:az) (w:World) (e:Ending) (w':World):Prop:=e= .returned (.tuple #[.int .i64 (f.nj c), .int .i64 (f.dY c)])∧Below w.heap.size w w'
theorem Ww (f:aI) (p:az) (A:Option Addr) (c:Nat) (w:World) (cq:bW.aG 8 w A c f.a8):
  Calls prog 143 #[.agg #[.int .i64 f.wide, .int .i64 f.high, .slice A f.a8.length c], .agg #[.int .i64 p.x, .int .i64 p.y]] w (abi f p w):=by
 have hA:=aR.new w (ak.HT A c f) 24 (0,0);have γ:=lA w (.cells (ak.HT A c f).toArray 24 (0,0));have bj:=aR.new (w.alloc (.cells (ak.HT A c f).toArray 24 (0,0))) p.cells 55 (0,0);have c8:=lA (w.alloc (.cells (ak.HT A c f).toArray 24 (0,0))) (.cells p.cells.toArray 55 (0,0));have jU:=hA.later c8;have pV:=γ.trans (c8.mono γ.size);have hc:=afj f A c _ (cq.keep pV);have Lk:=cq.keep pV;obtain ⟨aS,pA⟩:∃ aS,Hid ((w.alloc (.cells (ak.HT A c f).toArray 24 (0,0))).alloc (.cells p.cells.toArray 55 (0,0))=aS):=⟨_,aTG rfl⟩;rw [pA.out] at jU bj hc pV Lk;rw [World.size_alloc] at bj;clear hA γ c8 cq;have hY:∀ K:World→Prop,K aS→K ((w.alloc (.cells #[.int .i64 f.wide, .int .i64 f.high, .slice A f.a8.length c] 24)).alloc (.cells #[.int .i64 p.x, .int .i64 p.y] 55)):=λ K h=>by
  have:=pA.out;rw [← this] at h;exact h
 by_cases aK:f.bn=0
 ·have qO:=aI.eZ aK;obtain ⟨g1,g2,g3,g4,_,_⟩:=aI.ks aK;rw [aK] at hc;by_cases dE:0≤p.x∧p.x<f.wide∧0≤p.y∧p.y<f.high
  ·obtain ⟨i1,i2,i3,i4⟩:=dE;have hIn:=aI.aAj i1 i2 i3 i4;obtain ⟨aY,bb⟩:=aI.mK aK hIn;obtain ⟨d_,eU,_⟩:=aI.idx aK hIn;have nR:0≤p.y * f.wide:=aW5 i3 (by omega);have N6:p.y * f.wide≤1600:=by omega
   obtain ⟨b,o,rfl,jJ⟩:=Gg Lk (by omega);have hce:=jJ (p.y * f.wide+p.x).toNat (f.place p) (by
    unfold aI.place;rw [aTB,aTF (show (p.y * f.wide+p.x).toNat<f.a8.length by omega)];rfl)
   have aoF:=aTG hce;have i_:=aTG (And.intro aY bb);have rh:=aTG jU;have aZ:=aTG bj;have d1:decide (p.x<0)=false:=by simpa using i1
   have d2:decide (p.y<0)=false:=by simpa using i3
   clear aK hIn aY bb jJ hce Lk jU bj;go_enter func143,ntmps143;go_wp2_with fail
   refine hY (λ W=>Calls _ _ _ W _) ?_;refine hc.mono ?_;rintro e cS ⟨rfl,bF⟩;obtain ⟨ux,gR,ia⟩:=ak.afb (rh.out.later bF);obtain ⟨r0,r1⟩:=az.gV (aZ.out.later bF);have aM6:=cell_later bF aoF.out;go_wp2_with fail
   go_ret2
   exact ⟨ZK i_.out.2.symm i_.out.1.symm,pV.trans (bF.mono pV.size)⟩
  ·have Iv:p.x<0∨f.wide≤p.x∨p.y<0∨f.high≤p.y:=by omega
   have i_:=aTG (aI.KD aK (aI.aAk Iv));have rh:=aTG jU;have aZ:=aTG bj;clear aK Lk jU bj dE;have aoP:=aTG Iv;clear Iv;go_enter func143,ntmps143;go_wp2_with fail
   refine hY (λ W=>Calls _ _ _ W _) ?_;refine hc.mono ?_;rintro e cS ⟨rfl,bF⟩;obtain ⟨ux,gR,ia⟩:=ak.afb (rh.out.later bF);obtain ⟨r0,r1⟩:=az.gV (aZ.out.later bF);have key:decide (p.x<0)=true∨(decide (p.x<0)=false∧decide (f.wide≤p.x)=true)∨(decide (p.x<0)=false∧decide (f.wide≤p.x)=false∧decide (p.y<0)=true)∨(decide (p.x<0)=false∧decide (f.wide≤p.x)=false∧decide (p.y<0)=false∧decide (f.high≤p.y)=true):=by
    have:=aoP.out;by_cases d':p.x<0
    ·simp [d']
    by_cases eu:f.wide≤p.x
    ·simp [d',eu]
    by_cases kg:p.y<0
    ·simp [d',eu,kg]
    ·simp [d',eu,kg];omega
   rcases key with h | ⟨h,ae⟩ | ⟨h,ae,aw⟩ | ⟨h,ae,aw,aU⟩
   all_goals
    go_wp2_with fail
    go_ret2
    exact ⟨ZK i_.out.2.symm i_.out.1.symm,pV.trans (bF.mono pV.size)⟩
 ·obtain ⟨aY,bb⟩:=aI.U3 (c:=p) aK;have i_:=aTG (And.intro aY bb);have aNS:(f.bn != 0)=true:=by simpa using aK
  clear aY bb aK Lk jU bj;generalize f.bn=k at *
  go_enter func143,ntmps143;go_wp2_with fail
  refine hY (λ W=>Calls _ _ _ W _) ?_;refine hc.mono ?_;rintro e cS ⟨rfl,bF⟩;go_wp2_with fail
  go_ret2
  exact ⟨ZK i_.out.2.symm i_.out.1.symm,pV.trans (bF.mono pV.size)⟩
theorem Le (f:aI) (p:az) (A:Option Addr) (c:Nat) (w:World) (cq:bW.aG 8 w A c f.a8) (aK:f.bn=0):
  Calls prog 111 #[.agg #[.int .i64 f.wide, .int .i64 f.high, .slice A f.a8.length c], .agg #[.int .i64 p.x, .int .i64 p.y]] w λ e w'=>e= .returned (.bool (f.ground p))∧Below w.heap.size w w':=by
 have γ:=lA w (.cells #[.int .i64 f.wide, .int .i64 f.high, .slice A f.a8.length c] 24);have c8:=lA (w.alloc (.cells #[.int .i64 f.wide, .int .i64 f.high, .slice A f.a8.length c] 24)) (.cells #[.int .i64 p.x, .int .i64 p.y] 55);have pV:=γ.trans (c8.mono γ.size);have hc:=Ww f p A c _ (cq.keep pV);unfold abi at hc;clear γ c8 cq;cases dE:f.fu p with
 | true =>
  obtain ⟨aY,bb⟩:=aI.mK aK dE;rw [aY,bb] at hc;have aM:f.ground p=(f.place p != 1):=by unfold aI.ground;rw [dE];rfl
  rw [aM];clear aY bb dE aM aK;generalize f.place p=v at *
  generalize f.a8.length=n at *
  cases hv:v != 1 with
  | true =>
   go_enter func111,ntmps111;go_wp2_with fail
   refine hc.mono ?_;rintro e cS ⟨rfl,bF⟩;go_wp2_with fail
   go_ret;exact ⟨iq (by simp),pV.trans (bF.mono pV.size)⟩
  | false =>
   go_enter func111,ntmps111;go_wp2_with fail
   refine hc.mono ?_;rintro e cS ⟨rfl,bF⟩;go_wp2_with fail
   go_ret;exact ⟨iq (by simp),pV.trans (bF.mono pV.size)⟩
 | false =>
  obtain ⟨aY,bb⟩:=aI.KD aK dE;rw [aY,bb] at hc;have aM:f.ground p=false:=by unfold aI.ground;rw [dE];rfl
  rw [aM];clear aY bb dE aM aK;generalize f.a8.length=n at *
  go_enter func111,ntmps111;go_wp2_with fail
  refine hc.mono ?_;rintro e cS ⟨rfl,bF⟩;go_wp2_with fail
  go_ret;exact ⟨Z,pV.trans (bF.mono pV.size)⟩
open Tryz

def az.is (p x:az):Bool:=decide (x=p)
theorem az.aAm {p x:az} (h:az.is p x=true):x=p:=by simpa [az.is] using h
theorem az.aAl {p x:az} (h:az.is p x=false):((p.x == x.x)=false)∨((p.x == x.x)=true∧(p.y == x.y)=false):=by
 have:¬ x=p:=by simpa [az.is] using h
 obtain ⟨a,b⟩:=p;obtain ⟨c,d⟩:=x;simp at this ⊢;omega
theorem az2 (p:az) (A:Option Addr) (c:Nat) (l:List az) (w:World) (aC:az.rep.aG 16 w A c l):
  Calls prog 146 #[.slice A l.length c, .agg #[.int .i64 p.x, .int .i64 p.y]] w λ e w'=>e= .returned (.int .i64 (fP (az.is p) l))∧Below w.heap.size w w':=by
 obtain ⟨n,hn⟩:∃ n,l.length=n:=⟨_,rfl⟩;have hle:n≤9223372036854775807:=by have:=aC.1;have:=aC.2.1;omega
 rw [hn];have cN:=lA w (.cells #[.int .i64 p.x, .int .i64 p.y] 55);have aZ:=aTG (aR.new w p.cells 55 (0,0));have qB:=aTG (aC.keep cN);have eJ:=aTG hn;clear aC hn;go_enter func146,ntmps146;go_wp2_with fail
 obtain ⟨w0,jE⟩:∃ w0,Hid (w0=w.alloc (.cells #[.int .i64 p.x, .int .i64 p.y] 55)):=⟨_,aTG rfl⟩;rw [← jE.out] at cN ⊢;have aZ:Hid (aR w0 w.heap.size p.cells 55 (0,0)):=by rw [jE.out];exact aZ
 have qB:Hid (az.rep.aG 16 w0 A c l):=by rw [jE.out];exact qB
 go_loopw [5,8] (λ _ ht wr=>∃ k m:Nat,k≤n∧ht= .int .i64 (k:Int)∧Hid (∀ j (aA:j<k) (rR:j<l.length),(az.is p) l[j]=false)∧Hid (wr=w0.drewN m)) (λ _ ht _=>n - (intOf ht).toNat)
 case atStart=>exact ⟨0,0,aUv _,rfl,(λ j aA=>by omega),rfl⟩
 case round =>
  obtain ⟨k,m,au,rfl,ig,CC⟩:=hrel;by_cases bA:k<n
  ·have js:k<l.length:=by rw [eJ.out];exact bA
   have afU:az.rep.aG 16 wr A c l:=by rw [CC.out];exact qB.out.drewN m
   have afN:aR wr w.heap.size p.cells 55 (0,0):=by rw [CC.out];exact aZ.out.drewN m
   have Fw:Below w.heap.size w wr:=by rw [CC.out];exact below_drewN cN m
   obtain ⟨b,o,rfl,jJ⟩:=az.at_ afU (by omega);obtain ⟨x,rV⟩:∃ x,l[k]'js=x:=⟨_,rfl⟩;obtain ⟨ux,gR⟩:=jJ k x (by rw [aTF js,rV]);obtain ⟨r0,r1⟩:=az.gV afN;have wK:=aTG rV;have pY:(k:Int)<(n:Int):=by omega
   have oX:(0:Int)≤(k:Int):=by omega
   clear jJ rV afU afN;cases jH:(az.is p) x with
   | true =>
    have lh:fP (az.is p) l=(k:Int):=FO js (by rw [wK.out];exact jH) λ j aA=>ig.out j aA (by omega);have rj:=aTG lh;have azL:=az.aAm jH;subst azL;clear lh jH;go_wp2_with fail
    go_quiet (fail)
    go_wp2_with fail
    go_ret;exact ⟨by rw [rj.out];rfl,below_drewN Fw _⟩
   | false =>
    have pz:Hid (∀ j (aA:j<k+1) (rR:j<l.length),(az.is p) l[j]=false):=by
     intro j aA rR;by_cases h:j<k
     ·exact ig.out j h rR
     ·obtain rfl:j=k:=by omega
      rw [wK.out];exact jH
    have eY:=az.aAl jH;clear jH;rcases eY with τ | ⟨τ,ae⟩
    all_goals
     go_wp2_with fail
     go_quiet (fail)
     go_wp2_with fail
     go_roundw
     case rel=>exact ⟨k+1,_,by omega,by go_num,pz,by show _=_;rw [CC.out];simp;rfl⟩
     case measure=>simp [intOf];omega
  ·have lh:fP (az.is p) l= -1:=FN λ j aA=>ig.out j (by have:=eJ.out;omega) aA;have rj:=aTG lh;have azK:=CC.out;subst azK;clear lh;go_wp2_with fail
   go_ret;exact ⟨by rw [rj.out];rfl,below_drewN cN _⟩
theorem axr (p:az) (A:Option Addr) (c:Nat) (l:List az) (w:World) (aC:az.rep.aG 16 w A c l):
  Calls prog 112 #[.slice A l.length c, .agg #[.int .i64 p.x, .int .i64 p.y]] w λ e w'=>e= .returned (.bool (l.contains p))∧Below w.heap.size w w':=by
 have cN:=lA w (.cells #[.int .i64 p.x, .int .i64 p.y] 55);have hc:=az2 p A c l _ (aC.keep cN);have pS:l.contains p=decide (0≤fP (az.is p) l):=by
  rw [Mi,List.contains_eq_any_beq];congr 1
  funext x
  unfold az.is;by_cases h:x=p
  ·simp [h]
  ·simp [h,aWp h]
 rw [pS];generalize fP (az.is p) l=r at *
 generalize l.length=n at *
 clear aC pS;go_enter func112,ntmps112;go_wp2_with (go_at_call 146;refine hc.mono ?_;rintro e w' ⟨rfl,bF⟩)
 go_ret;exact ⟨Z,cN.trans (bF.mono cN.size)⟩
open Tryz
section
theorem bO.PW {w:World} {aE:Nat} {a:ak.b_} {W:ak} (h:bO w aE a W):
  (∀ x∈aa.aj a.M,x∉aa.aj a.P∧x∉aa.aj a.B∧x∉aa.aj a.S∧x∉aa.aj a.T)∧
  (∀ x∈aa.aj a.T,x∉aa.aj a.P∧x∉aa.aj a.B∧x∉aa.aj a.S∧x∉aa.aj a.M)∧
  (∀ x∈aa.aj a.S,x∉aa.aj a.P∧x∉aa.aj a.B∧x∉aa.aj a.M∧x∉aa.aj a.T):=by
 have hn:=h.apart;rw [aUu,aUu,aUu,aUu] at hn;obtain ⟨⟨⟨⟨_,_,qa⟩,_,qb⟩,_,oe⟩,_,r8⟩:=hn;refine ⟨λ x hx=>⟨λ hp=> ?_,λ hp=> ?_,λ hp=> ?_,λ hp=> ?_⟩,λ x hx=>⟨λ hp=> ?_,λ hp=> ?_,λ hp=> ?_,λ hp=> ?_⟩,λ x hx=>⟨λ hp=> ?_,λ hp=> ?_,λ hp=> ?_,λ hp=> ?_⟩⟩
 ·exact oe x (by simp [hp]) x hx Z
 ·exact oe x (by simp [hp]) x hx Z
 ·exact oe x (by simp [hp]) x hx Z
 ·exact r8 x (by simp [hx]) x hp Z
 ·exact r8 x (by simp [hp]) x hx Z
 ·exact r8 x (by simp [hp]) x hx Z
 ·exact r8 x (by simp [hp]) x hx Z
 ·exact r8 x (by simp [hp]) x hx Z
 ·exact qb x (by simp [hp]) x hx Z
 ·exact qb x (by simp [hp]) x hx Z
 ·exact oe x (by simp [hx]) x hp Z
 ·exact r8 x (by simp [hx]) x hp Z
theorem vy {a:ak.b_} {g:Nat}:g∈bO.cM a↔g∈aa.aj a.P∨g∈aa.aj a.B∨g∈aa.aj a.S∨g∈aa.aj a.M∨g∈aa.aj a.T:=by
 unfold bO.cM;simp only [aTP];constructor
 ·rintro ((((h | h) | h) | h) | h)<;>simp [h]
 ·rintro (h | h | h | h | h)<;>simp [h]
namespace ak
def kW (k:Int):Int:=if k=1 then 5 else if k=2 then 12 else 0
end ak
theorem bO.mod {w aS:World} {aE:Nat} {a:ak.b_} {W:ak} {S:List Nat} (h:bO w aE a W) (m:Mod S w aS) (hd:∀ x∈bO.cM a,x∉S):bO aS aE a W :=
 ⟨h.P.mod m λ x hx=>hd x (vy.2 (.inl hx)),h.B.mod m λ x hx=>hd x (vy.2 (.inr (.inl hx))),h.S.mod m λ x hx=>hd x (vy.2 (.inr (.inr (.inl hx)))),h.M.mod m λ x hx=>hd x (vy.2 (.inr (.inr (.inr (.inl hx))))),h.T.mod m λ x hx=>hd x (vy.2 (.inr (.inr (.inr (.inr hx))))),h.apart,h.nums⟩
theorem rF {a:ak.b_} {q:Nat} (h:q∈aa.aj a.T):q∈bO.cM a:=vy.2 (.inr (.inr (.inr (.inr h))))
theorem Fi {a:ak.b_} {q:Nat} (h:q∈aa.aj a.S):q∈bO.cM a:=vy.2 (.inr (.inr (.inl h)))
theorem HW {a:ak.b_} {q:Nat} (h:q∈aa.aj a.M):q∈bO.cM a:=vy.2 (.inr (.inr (.inr (.inl h))))
theorem Wz {a:ak.b_} {q:Nat} (h:q∈aa.aj a.B):q∈bO.cM a:=vy.2 (.inr (.inl h))
theorem WA {a:ak.b_} {q:Nat} (h:q∈aa.aj a.P):q∈bO.cM a:=vy.2 (.inl h)
theorem bO.alz {w aS:World} {aE:Nat} {a:ak.b_} {W:ak} {l:List Int} (h:bO w aE a W) (m:Mod (aa.aj a.S) w aS) (hS:bW.aH 3 8 aS aE (aa.aj a.S) a.S a.s l):bO aS aE a {W with bp:=l}:=by
 obtain ⟨d1,d2,d3⟩:=h.PW;exact ⟨h.P.mod m λ x hx hs=>(d3 x hs).1 hx,h.B.mod m λ x hx hs=>(d3 x hs).2.1 hx,hS,h.M.mod m λ x hx hs=>(d3 x hs).2.2.1 hx,h.T.mod m λ x hx hs=>(d3 x hs).2.2.2 hx,h.apart,h.nums⟩
theorem bO.swapT {w aS:World} {aE:Nat} {a:ak.b_} {W:ak} {l:List bd} {A:Option Addr} {c:Nat} (h:bO w aE a W) (m:Mod (aa.aj a.T) w aS) (cr:bd.rep.aH 57 56 aS aE (aa.aj A) A c l) (I:∀ q∈aa.aj A,q∈aa.aj a.T∨w.heap.size≤q):
  bO aS aE {a with T:=A,t:=c} {W with aq:=l}:=by
 obtain ⟨d1,d2,d3⟩:=h.PW;refine ⟨h.P.mod m λ x hx hs=>(d2 x hs).1 hx,h.B.mod m λ x hx hs=>(d2 x hs).2.1 hx,h.S.mod m λ x hx hs=>(d2 x hs).2.2.1 hx,h.M.mod m λ x hx hs=>(d2 x hs).2.2.2 hx,cr, ?_,h.nums⟩;have hn:=h.apart;rw [aUu] at hn ⊢;refine ⟨hn.1,vg A,λ x hx y aF e=> ?_⟩;subst e;rcases I x aF with aF | aF
 ·exact hn.2.2 x hx x aF Z
 ·have hf:x∈bO.cM a:=by unfold bO.cM;rw [aTP];exact .inl hx
  have:=(h.lt x hf).2;omega
theorem bO.aly {w:World} {aE:Nat} {a:ak.b_} {W V:ak} (h:bO w aE a W) (τ:V.field.a8=W.field.a8) (ae:V.a7=W.a7) (aw:V.bp=W.bp) (aU:V.bM=W.bM) (bz:V.aq=W.aq) (hn:e_ V.field.wide∧e_ V.field.high∧e_ V.next∧e_ V.now):bO w aE a V :=
 ⟨by rw [τ];exact h.P,by rw [ae];exact h.B,by rw [aw];exact h.S,by rw [aU];exact h.M,by rw [bz];exact h.T,h.apart,hn⟩
theorem afl {w:World} {aE:Nat} {a:ak.b_} {W:ak} {A:Option Addr} {c q:Nat} (h:q∈bO.cM {a with T:=A,t:=c}):q∈bO.cM a∨q∈aa.aj A:=by
 rcases vy.1 h with h | h | h | h | h
 ·exact .inl (WA h)
 ·exact .inl (Wz h)
 ·exact .inl (Fi h)
 ·exact .inl (HW h)
 ·exact .inr h
def Jc (k:Int):Int:=if k=1 then 1 else if k=2 then 2 else 0
def uf (k:Int):Int:=if k=1 then 1 else if k=2 then 4 else 0
def IF (k:Int):Int:=if k=1 then 0 else if k=2 then 0 else 1
theorem YC (k:Int) (w:World):Calls prog 11 #[.int .i64 k] w λ e w'=>e= .returned (.tuple #[.agg #[.int .i64 (ak.kS k), .int .i64 (Jc k), .int .i64 (uf k), .int .i64 (ak.kW k)], .int .i64 (IF k)])∧Ext w w':=by
 by_cases τ:k=1
 ·subst τ;exact aje w
 ·by_cases ae:k=2
  ·subst ae;exact ajf w
  ·have:=ajg k w (p1 (by omega));simpa [ak.kS,Jc,uf,ak.kW,IF,τ,ae] using this
theorem bO.down {w:World} {aE sJ:Nat} {a:ak.b_} {W:ak} (h:bO w aE a W) (bG:sJ≤aE):bO w sJ a W:=⟨h.P.down bG,h.B.down bG,h.S.down bG,h.M.down bG,h.T.down bG,h.apart,h.nums⟩
def ak.zero:ak:=⟨⟨0,0, []⟩, [], [], [], [],0,0⟩
theorem bO.zero (w:World) (aE:Nat):bO w aE ⟨none,none,none,none,none,0,0,0,0,0⟩ ak.zero:=⟨aa.aH.nil w,aa.aH.nil w,aa.aH.nil w,aa.aH.nil w,aa.aH.nil w,by simp [aa.aj],bY.2 (by decide),bY.2 (by decide),bY.2 (by decide),bY.2 (by decide)⟩
theorem U2 {f:aI} {c:az} (h:f.bn=0) (he:f.dY c=0):f.fu c=true:=by
 cases ar:f.fu c with
 | true=>rfl
 | false=>rw [(aI.KD h ar).1] at he;omega
theorem sP (f:aI) (p:az) (A:Option Addr) (c:Nat) (w:World) (cq:bW.aG 8 w A c f.a8):
  Calls prog 143 #[.agg #[.int .i64 f.wide, .int .i64 f.high, .slice A f.a8.length c], .agg #[.int .i64 p.x, .int .i64 p.y]] w λ e w'=>e= .returned (.tuple #[.int .i64 (f.nj p), .int .i64 (f.dY p)])∧Below w.heap.size w w':=Ww f p A c w cq
theorem bO.Zb {w:World} {aE:Nat} {P B S M T:Option Addr} {p b s m t:Nat} {W:ak} (cq:bW.aH 3 8 w aE (aa.aj P) P p W.field.a8) (bj:az.rep.aH 55 16 w aE (aa.aj B) B b W.a7) (hS:bW.aH 3 8 w aE (aa.aj S) S s W.bp) (n2:bW.aH 3 8 w aE (aa.aj M) M m W.bM) (cr:bd.rep.aH 57 56 w aE (aa.aj T) T t W.aq)
  (τ:∀ q∈aa.aj B,q∈aa.aj P→False) (ae:∀ q∈aa.aj S,q∈aa.aj P→False) (aw:∀ q∈aa.aj S,q∈aa.aj B→False) (aU:∀ q∈aa.aj M,q∈aa.aj P→False) (bz:∀ q∈aa.aj M,q∈aa.aj B→False) (cb:∀ q∈aa.aj M,q∈aa.aj S→False)
  (ej:∀ q∈aa.aj T,q∈aa.aj P→False) (fq:∀ q∈aa.aj T,q∈aa.aj B→False) (vC:∀ q∈aa.aj T,q∈aa.aj S→False) (Dd:∀ q∈aa.aj T,q∈aa.aj M→False) (hn:e_ W.field.wide∧e_ W.field.high∧e_ W.next∧e_ W.now):
  bO w aE ⟨P,B,S,M,T,p,b,s,m,t⟩ W:=by
 refine ⟨cq,bj,hS,n2,cr, ?_,hn⟩;have aY:=vg P;have bb:=vg B;have cP:=vg S;have jq:=vg M;have E6:=vg T;simp only [aUu,aTP]
 grind
theorem bO.aCh {w:World} {aE:Nat} {a:ak.b_} {W:ak} {A:Option Addr} {c:Nat} {p:List bd} (h:bO w aE a W) (cr:bd.rep.aH 57 56 w aE (aa.aj A) A c p) (τ:∀ q∈aa.aj A,q∈bO.cM a→False):bO w aE {a with T:=A,t:=c} {W with aq:=p}:=by
 refine ⟨h.P,h.B,h.S,h.M,cr, ?_,h.nums⟩;have hn:=h.apart;have aY:=vg A;have f1:∀ q∈aa.aj A,(q∈aa.aj a.P→False)∧(q∈aa.aj a.B→False)∧(q∈aa.aj a.S→False)∧(q∈aa.aj a.M→False):=λ q I=>⟨λ h=>τ q I (WA h),λ h=>τ q I (Wz h),λ h=>τ q I (Fi h),λ h=>τ q I (HW h)⟩;simp only [aUu,aTP] at hn ⊢
 grind
theorem av0 {a:ak.b_} {A:Option Addr} {c q:Nat} (h:q∈bO.cM {a with T:=A,t:=c}):q∈bO.cM a∨q∈aa.aj A:=by
 rcases vy.1 h with h | h | h | h | h
 ·exact .inl (WA h)
 ·exact .inl (Wz h)
 ·exact .inl (Fi h)
 ·exact .inl (HW h)
 ·exact .inr h
structure aKC (a:ak.b_):Prop where
 sI:∀ q∈aa.aj a.P,q∈aa.aj a.S→False
 aKA:∀ q∈aa.aj a.P,q∈aa.aj a.M→False
 aKz:∀ q∈aa.aj a.P,q∈aa.aj a.B→False
 aKB:∀ q∈aa.aj a.P,q∈aa.aj a.T→False
 aKI:∀ q∈aa.aj a.S,q∈aa.aj a.M→False
 aKH:∀ q∈aa.aj a.S,q∈aa.aj a.B→False
 ST:∀ q∈aa.aj a.S,q∈aa.aj a.T→False
 aKl:∀ q∈aa.aj a.M,q∈aa.aj a.B→False
 ab8:∀ q∈aa.aj a.M,q∈aa.aj a.T→False
 aJm:∀ q∈aa.aj a.B,q∈aa.aj a.T→False
end
section
def qf (f:aI) (c:az):Int:=if f.fu c then tV (f.place c) else 0
theorem adw {f:aI} {c:az} (hf:f.bn=0) (hc:f.fu c=true):(vp (f.place c)== 0)=f.ground c∧(f.ground c=true→tV (f.place c)=f.gN c):=by
 obtain ⟨_,_,_,_,_,g6⟩:=aI.ks hf;have hp:=g6 (f.place c) (by unfold aI.place;exact gP (aI.y8 hf hc).1);unfold aI.ground;rw [hc];have:f.place c=0∨f.place c=1∨f.place c=2∨f.place c=3:=by omega
 unfold aI.gN vp tV;rcases this with h | h | h | h<;>rw [h]<;>simp
theorem aC8 {f:aI} {c:az} (hf:f.bn=0) (h:¬ f.dY c=0):qf f c=0∧f.ground c=false:=by
 have hc:f.fu c=false:=by
  cases hc:f.fu c with
  | false=>rfl
  | true=>exact absurd (aI.mK hf hc).1 h
 unfold qf aI.ground;rw [hc];exact ⟨Z,Z⟩
theorem aC7 {f:aI} {c:az} (hf:f.bn=0) (h:f.dY c=0):qf f c=tV (f.nj c)∧f.ground c=(vp (f.nj c)== 0):=by
 have hc:=U2 hf h;rw [(aI.mK hf hc).2];unfold qf;rw [hc];exact ⟨Z,(adw hf hc).1.symm⟩
theorem aky {f:aI} {c:az} (hf:f.bn=0) (h:f.ground c=true):qf f c=f.gN c:=by
 have hc:=aI.ke h;unfold qf;rw [aTO hc];exact (adw hf hc).2 h
theorem avG (p:Int) (w:World):
  Calls prog 171 #[J p] w (λ e w'=>e= .returned (.tuple #[J (tV p),J (vp p)])∧Ext w w'):=by
 refine b' (n:=12) func171 Z Z Z ?_;refine ah<|va Z<|va Z<|ag<|ay<|ah<|vm Z<|ag<|bu<|ay<|ah<|Φ (beq Z Z)<|va Z<|ag<| ?_;refine jo Z (λ gA=> ?_) (λ gA=> ?_)
 ·have aOI:(p == 0)=true:=by simpa using gA
  refine bl<| ?_;refine jo Z (λ Xj=> ?_) (λ Xj=> ?_)
  ·have aOL:(p == 0)=true:=by simpa using Xj
   refine ah<|va Z<|va Z<|ag<|rt<|dV<|bP<|aV (.tmp Z (.tmp Z .nil))<| ?_;exact ⟨by simp_all [tV,vp,q0],(Ext.bg w)⟩
  ·have aOM:(p == 0)=false:=by simpa using Xj
   refine ah<|Φ (beq Z Z)<|va Z<|ag<| ?_;refine jo Z (λ jr=> ?_) (λ jr=> ?_)
   ·have aON:(p == 2)=true:=by simpa using jr
    refine ah<|va Z<|va Z<|ag<|rt<|dV<|bP<|aV (.tmp Z (.tmp Z .nil))<| ?_;exact ⟨by simp_all [tV,vp,q0],(Ext.bg w)⟩
   ·have aOO:(p == 2)=false:=by simpa using jr
    refine ah<|Φ (beq Z Z)<|va Z<|ag<| ?_;refine jo Z (λ kt=> ?_) (λ kt=> ?_)
    ·have aOB:(p == 1)=true:=by simpa using kt
     refine ah<|va Z<|va Z<|ag<|rt<|dV<|bP<|aV (.tmp Z (.tmp Z .nil))<| ?_;exact ⟨by simp_all [tV,vp,q0],(Ext.bg w)⟩
    ·have aOC:(p == 1)=false:=by simpa using kt
     refine ei<|bU<|aP<|ah<|va Z<|va Z<|ag<|rt<|aV (.tmp Z (.tmp Z .nil))<| ?_;exact ⟨by simp_all [tV,vp,q0],(Ext.bg w)⟩
 ·have aOD:(p == 0)=false:=by simpa using gA
  refine rg<|Φ (beq Z Z)<|va Z<|ag<| ?_;refine jo Z (λ Xg=> ?_) (λ Xg=> ?_)
  ·have aOE:(p == 3)=true:=by simpa using Xg
   refine ah<|va Z<|va Z<|ag<|rt<|dV<|bP<|aV (.tmp Z (.tmp Z .nil))<| ?_;exact ⟨by simp_all [tV,vp,q0],(Ext.bg w)⟩
  ·have aOF:(p == 3)=false:=by simpa using Xg
   refine ah<|Φ (beq Z Z)<|va Z<|ag<| ?_;refine jo Z (λ pQ=> ?_) (λ pQ=> ?_)
   ·have aOG:(p == 2)=true:=by simpa using pQ
    refine ah<|va Z<|va Z<|ag<|rt<|dV<|bP<|aV (.tmp Z (.tmp Z .nil))<| ?_;exact ⟨by simp_all [tV,vp,q0],(Ext.bg w)⟩
   ·have aOH:(p == 2)=false:=by simpa using pQ
    refine ah<|Φ (beq Z Z)<|va Z<|ag<| ?_;refine jo Z (λ n3=> ?_) (λ n3=> ?_)
    ·have aOJ:(p == 1)=true:=by simpa using n3
     refine ah<|va Z<|va Z<|ag<|rt<|dV<|bP<|aV (.tmp Z (.tmp Z .nil))<| ?_;exact ⟨by simp_all [tV,vp,q0],(Ext.bg w)⟩
    ·have aOK:(p == 1)=false:=by simpa using n3
     refine ei<|bU<|aP<|ah<|va Z<|va Z<|ag<|rt<|aV (.tmp Z (.tmp Z .nil))<| ?_;exact ⟨by simp_all [tV,vp,q0],(Ext.bg w)⟩
theorem sa (w0:World) (f:aI) (P F A:Option Addr) (ct fN c b:Nat) (a_:List Int) (l:List cp) (bm:az) (p:az) (w:World) (jg:Ext w0 w) (hf:f.bn=0) (cq:bW.aG 8 w0 P ct f.a8) (aZ:aR w b [J f.wide,J f.high, .slice P f.a8.length ct,J bm.x,J bm.y, .slice F a_.length fN, .slice A l.length c] 249 (0,0)) (hp: -500≤p.x∧p.x≤500∧ -500≤p.y∧p.y≤500):
  Calls prog 139 #[.pointer (some ⟨b,0,none⟩), .agg #[J p.x,J p.y]] w (λ e w'=>e= .returned (J (p.y * f.wide+p.x))∧Ext w w'):=by
 obtain ⟨g1,g2,g3,g4,g5,g6⟩:=aI.ks hf;refine b' (n:=16) func139 Z Z Z ?_;refine ah<|ck Z Z Z Z λ cK bR bq dU ai=> ?_;have ba:=ab jg bq;refine va Z<|ag<|ay<| ?_;refine cR [(1,0),(6,0),(9,0)] [0,1,2,3,4,5,6,7,8,9,10,11] ?_;refine aB Z (λ _=>av jd Z)<|bx Z (λ _ x=>ao Z ((ai.later x).one a6 Z))<|a1 Z Z<|aB Z (λ _=>cf Z)<|aB Z (λ _=>av aeJ Z)<|aB Z (λ _=>av K3 Z)<| ?_;have aZ:=aZ.later bq;refine bx Z (λ _ x=>ao Z ((aZ.later x).one a6 Z))<|aB Z (λ _=>w_ Z Z (bf ((by have:=aWi (show p.y≤500 by omega) g2 (by omega) (by omega);have:=aWi (show -p.y≤500 by omega) g2 (by omega) (by omega);rw [Int.neg_mul] at this;omega))))<|aB Z (λ _=>av jb Z)<|bx Z (λ _ x=>ao Z ((ai.later x).one a6 Z))<|aB Z (λ _=>bad Z Z (bf ((by have:=aWi (show p.y≤500 by omega) g2 (by omega) (by omega);have:=aWi (show -p.y≤500 by omega) g2 (by omega) (by omega);rw [Int.neg_mul] at this;omega))))<|aB Z (λ _=>fG Z)<|fn λ ea cZ=> ?_;refine aP<|rt<|aV (.tmp Z .nil)<| ?_;exact ⟨Z,ab bq cZ⟩
theorem Zn (w0:World) (f:aI) (P F A:Option Addr) (ct fN c b:Nat) (a_:List Int) (l:List cp) (bm:az) (p:az) (w:World) (jg:Ext w0 w) (hf:f.bn=0) (cq:bW.aG 8 w0 P ct f.a8) (aZ:aR w b [J f.wide,J f.high, .slice P f.a8.length ct,J bm.x,J bm.y, .slice F a_.length fN, .slice A l.length c] 249 (0,0)):
  Calls prog 137 #[.pointer (some ⟨b,0,none⟩), .agg #[J p.x,J p.y]] w (λ e w'=>e= .returned (.tuple #[J (qf f p), .bool (f.ground p)])∧Ext w w'):=by
 obtain ⟨g1,g2,g3,g4,g5,g6⟩:=aI.ks hf;refine b' (n:=28) func137 Z Z Z ?_;refine ah<|ck Z Z Z Z λ cK bR bq dU ai=> ?_;have ba:=ab jg bq;refine va Z<|va Z<|ag<|ay<| ?_;refine cR [(3,0),(4,0),(5,0)] [0,1,2,3,4,5,6,7,8,9,10] ?_;refine a1 Z Z<|aB Z (λ _=>cf Z)<|aB Z (λ _=>av aeJ Z)<| ?_;have aZ:=aZ.later bq;refine bx Z (λ _ x=>ao Z ((aZ.later x).par [J f.wide,J f.high, .slice P f.a8.length ct] la ld Z))<|bx Z (λ _ x=>ao Z ((ai.later x).all cv b2))<|pO Z Z rC Z (λ _ x=>sP f p _ _ _ (cq.keep (ab ba x))) Z<|a1 Z Z<|aB Z (λ _=>ex Z Z)<|aB Z (λ _=>ex Z Z)<|aB Z (λ _=>fG Z)<|aB Z (λ _=>fG Z)<|fn λ ea cZ=> ?_;have bE:=ab ba cZ;refine aP<|ay<|ah<|vm Z<|Φ (bne Z Z)<|ag<| ?_;refine ee Z (λ kf=> ?_) (λ kf=> ?_)
 ·have L2:=aC8 hf kf;refine ah<|va Z<|va Z<|ag<|rt<|bP<|aV (.tmp Z (.tmp Z .nil))<| ?_;exact ⟨by rw [L2.1,L2.2];rfl,ab bq cZ⟩
 ·have L2:=aC7 hf kf;refine bl<|ah<|vm Z<|ca auN Z Z ((avG (f.nj p) _).mono ?_);rintro e B4 ⟨rfl,eo⟩;refine ⟨_,Z, ?_⟩;refine vm Z<|Φ (ex Z Z)<|Φ (ex Z Z)<|va Z<|va Z<|ag<|ah<|vm Z<|vm Z<|Φ (beq Z Z)<|va Z<|va Z<|ag<|rt<|aV (.tmp Z (.tmp Z .nil))<| ?_;exact ⟨by rw [L2.1,L2.2];rfl,ab (ab bq cZ) eo⟩
theorem akM (p:az) (w:World) (hp: -100000≤p.x∧p.x≤100000∧ -100000≤p.y∧p.y≤100000):
  Calls prog 138 #[.agg #[J p.x,J p.y]] w (λ e w'=>e= .returned (.agg #[J p.x,J (p.y - 1),J (p.x - 1),J p.y,J (p.x+1),J p.y,J p.x,J (p.y+1)])∧Ext w w'):=by
 refine b' (n:=28) func138 Z Z Z ?_;refine ah<|ck Z Z Z Z λ cK bR bq dU ai=> ?_;have ba:=ab (Ext.bg w) bq;have ib:=ai.lt;refine al Z auT Z Z λ ea cC br gO ax=> ?_;have bE:=ab ba br;refine ag<|ah<|Φ (av jb Z)<| ?_;have ai:=ai.later br;refine Φ (ao Z (ai.one a6 Z))<|Φ (av jd Z)<|Φ (ao Z (ai.one a6 Z))<|Φ (gh Z Z (bf (by omega)))<|Φ (v:= .agg #[J p.x,J (p.y - 1)]) (cY Z (by kernel_rfl))<|Φ (av jb Z)<|Φ (ao Z (ai.one a6 Z))<|Φ (gh Z Z (bf (by omega)))<|Φ (av jd Z)<|Φ (ao Z (ai.one a6 Z))<|Φ (v:= .agg #[J (p.x - 1),J p.y]) (cY Z (by kernel_rfl))<|Φ (av jb Z)<|Φ (ao Z (ai.one a6 Z))<|Φ (bad Z Z (bf (by omega)))<|Φ (av jd Z)<|Φ (ao Z (ai.one a6 Z))<|Φ (v:= .agg #[J (p.x+1),J p.y]) (cY Z (by kernel_rfl))<|Φ (av jb Z)<|Φ (ao Z (ai.one a6 Z))<|Φ (av jd Z)<|Φ (ao Z (ai.one a6 Z))<|Φ (bad Z Z (bf (by omega)))<|Φ (v:= .agg #[J p.x,J (p.y+1)]) (cY Z (by kernel_rfl))<|Φ (v:= .agg #[J p.x,J (p.y - 1),J (p.x - 1),J p.y,J (p.x+1),J p.y,J p.x,J (p.y+1)]) (cY Z (by kernel_rfl))<| ?_;refine st (new:= [J p.x,J (p.y - 1),J (p.x - 1),J p.y,J (p.x+1),J p.y,J p.x,J (p.y+1)]) Z Z ax Z aeV Z Z Z λ gJ RP ax=> ?_;have cJ:=Ext.mod bE RP bC;refine ag<|rt<|aV (.cell Z (ax.all au5 aeV) .nil)<| ?_;exact ⟨Z,cJ⟩
end
section
theorem rE {P:Program} {n:Nat} {ops:Array Oper} {Q:Exit→Act→World→Prop} {aT:Nat→Nat} {bV:List Nat} {E:List (Nat×Value)} {w0:World} {i d:Nat} {op:Op} {ty:TypeId} {pos:String} {af:Array Edge} {j:Nat} {q:Bool} {u:Value} {dc:Oper} {ik:Nat} (ar:ops[i]? =some ⟨some d,op,ty,pos,af,some (j,q)⟩) (au:Nat.ble (aT i) 1=true) (aA:ops[j]? =some dc) (mb:dc.dst=some ik) (γ:look E ik=some (fO false u)) (hd:Nat.blt d n=true)
  (h:fM P n ops Q aT bV ((d,undef)::E) w0):fM P n ops Q aT (i::bV) E w0:=λ a ha=>by
 have τ:=ha.g _ _ γ;simp only [fO,aUm,aU5] at τ;have hw:Region.wanted ⟨some d,op,ty,pos,af,some (j,q)⟩ (yielded ops a.tmps)=false:=by simp [Region.wanted,yielded,aA,mb,τ,undef]
 have au:=aVq au;rcases aUt 0 (aT i) with aK | aK
 ·exact ⟨_,ar, .inr (.inl ⟨by omega,undef, .inr ⟨hw,rfl⟩,h _ (ha.put hd _)⟩)⟩
 ·exact ⟨_,ar, .inl ⟨by omega,undef, .inr ⟨hw,rfl⟩,h _ (ha.put hd _)⟩⟩
end
section
theorem Zq (w0:World) (f:aI) (P F A:Option Addr) (ct fN c b:Nat) (a_:List Int) (l:List cp) (bm:az) (p:az) (d:Int) (w:World) (jg:Ext w0 w) (hf:f.bn=0) (cq:bW.aG 8 w0 P ct f.a8) (aZ:aR w b [J f.wide,J f.high, .slice P f.a8.length ct,J bm.x,J bm.y, .slice F a_.length fN, .slice A l.length c] 249 (0,0)) (γ:w0.heap.size≤b) (Cy:cp.rep.aH 304 32 w w0.heap.size (aa.aj A) A c l) (Q4:∀ q∈aa.aj A,q=b→False) (eA:∀ y∈l,y.ok) (aC:l.length≤1000000) (hp: -500≤p.x∧p.x≤500∧ -500≤p.y∧p.y≤500) (aJ: -500≤bm.x∧bm.x≤500∧ -500≤bm.y∧bm.y≤500) (hd:0≤d∧d≤100000):
  Calls prog 169 #[.pointer (some ⟨b,0,none⟩), .agg #[J p.x,J p.y],J d] w (λ e w'=>∃ bL bX,e= .returned (.tuple #[])∧aR w' b [J f.wide,J f.high, .slice P f.a8.length ct,J bm.x,J bm.y, .slice F a_.length fN, .slice bL ((cH.push cp.all l ⟨p,d,d+aI.kb bm p⟩).length) bX] 249 (0,0)∧cp.rep.aH 304 32 w' w0.heap.size (aa.aj bL) bL bX (cH.push cp.all l ⟨p,d,d+aI.kb bm p⟩)∧(∀ q∈aa.aj bL,q=b→False)∧(∀ q∈aa.aj bL,q∈aa.aj A∨w.heap.size≤q)∧Mod (b::aa.aj A) w w'):=by
 have Sg:=aZ.lt;obtain ⟨g1,g2,g3,g4,g5,g6⟩:=aI.ks hf;have aOf:=jy (bm.x - p.x);have aOg:=jy (bm.y - p.y);refine b' (n:=32) func169 Z Z Z ?_;refine ah<|ck Z Z Z Z λ cK bR bq dU ai=> ?_;have ba:=(Mod.bg (b::aa.aj A) w).trans (Mod.bt bq);have ib:=ai.lt;refine ag<|ay<| ?_;refine cR [(0,0),(4,0),(5,0)] [0,1,2,3,4,5,6,7,8,9,10,11,12] ?_;refine bx Z (λ _ x=>ao Z ((ai.later x).all cv b2))<|a1 Z Z<|aB Z (λ _=>cf Z)<|aB Z (λ _=>av aeX Z)<| ?_;have aZ:=aZ.later bq;refine bx Z (λ _ x=>ao Z ((aZ.later x).par [J bm.x,J bm.y] cv b2 Z))<|pO Z Z aeY Z (λ _ x=>acD p bm _ (by omega) (by omega)) Z<|a1 Z Z<|aB Z (λ _=>ex Z Z)<|aB Z (λ _=>ex Z Z)<|aB Z (λ _=>ex Z Z)<|aB Z (λ _=>fG Z)<|aB Z (λ _=>fG Z)<|aB Z (λ _=>fG Z)<|fn λ ea cZ=> ?_;have:=cZ.size;have bE:=ba.trans (Mod.bt cZ);refine aP<| ?_;refine cR [(4,0),(12,3)] [0,1,2,3,4,5,6,7,8,9,10,11,12] ?_;refine a1 Z Z<|aB Z (λ _=>cf Z)<|aB Z (λ _=>av Fc Z)<|aB Z (λ _=>R0 (λ w=>by kernel_rfl) Z)<| ?_;have ai:=ai.later cZ;refine bx Z (λ _ x=>ao Z ((ai.later x).all cv b2))<|a1 Z Z<|a1 Z Z<|a1 Z Z<|aB Z (λ _=>w_ Z Z (bf (by omega)))<|aB Z (λ _=>bad Z Z (bf (by omega)))<|qJ (v:= .agg #[J p.x,J p.y,J d,J (d+(2 * (cE (bm.x - p.x)+cE (bm.y - p.y))))]) Z Z (λ _=>cY Z (by kernel_rfl)) Z<|aB Z (λ _=>R0 (λ w=>by kernel_rfl) Z)<| ?_;have Cy:=Cy.later (ab bq cZ);have aZ:=aZ.later cZ;refine eg Z Z Z λ td ox Q hK=>ca au6 Z Z ((aHS b A c w0.heap.size l (J f.wide) (J f.high) (.slice P f.a8.length ct) (J bm.x) (J bm.y) (.slice F a_.length fN) ((⟨⟨p.x,p.y⟩,d,d+(2 * (cE (bm.x - p.x)+cE (bm.y - p.y)))⟩:cp)) _ (aZ.later ox) (Cy.later ox) eA Q4 ⟨bY.2 (by dsimp only;omega),bY.2 (by dsimp only;omega),bY.2 (by dsimp only;omega),bY.2 (by dsimp only;omega)⟩ aC (by have:=ox.size;omega)).mono ?_);rintro e gJ ⟨ano,aro,rfl,Ua,Uk,agI,MU⟩;refine ⟨_,Z,hK _ _ ?_⟩;have:=ox.size;have jA:=bE.trans (Mod.bt ox);have cJ:=jA.md MU (λ q I=> .inl I);refine fn λ B6 pj=> ?_;have oA:=cJ.trans (Mod.bt pj);refine ne<|aV .nil<| ?_;have Uk:=Uk.later pj;have Ua:=Ua.later pj;exact ⟨ano,aro,Z,Ua,Uk,λ q I γ=>by exfalso;(exact aTT (agI q I) (λ aiC=>by (exact Q4 q aiC γ)) (λ aiC=>by omega)),λ q I=>(agI q I).imp id λ h=>by omega,oA⟩
end
section
theorem aDD (c:az) (w:World):(Instr.index 244 (.agg #[J c.x,J (c.y - 1),J (c.x - 1),J c.y,J (c.x+1),J c.y,J c.x,J (c.y+1)]) (J 0)).run prog w= .ok (.agg #[J c.x,J (c.y - 1)]) w:=by kernel_rfl
theorem aDE (c:az) (w:World):(Instr.index 244 (.agg #[J c.x,J (c.y - 1),J (c.x - 1),J c.y,J (c.x+1),J c.y,J c.x,J (c.y+1)]) (J 1)).run prog w= .ok (.agg #[J (c.x - 1),J c.y]) w:=by kernel_rfl
theorem aDF (c:az) (w:World):(Instr.index 244 (.agg #[J c.x,J (c.y - 1),J (c.x - 1),J c.y,J (c.x+1),J c.y,J c.x,J (c.y+1)]) (J 2)).run prog w= .ok (.agg #[J (c.x+1),J c.y]) w:=by kernel_rfl
theorem aDG (c:az) (w:World):(Instr.index 244 (.agg #[J c.x,J (c.y - 1),J (c.x - 1),J c.y,J (c.x+1),J c.y,J c.x,J (c.y+1)]) (J 3)).run prog w= .ok (.agg #[J c.x,J (c.y+1)]) w:=by kernel_rfl
theorem akN (c:az) (j:Nat) (aA:j<4) {cn:az} (h:(eh c).getD j default=cn) (w:World):(Instr.index 244 (.agg #[J c.x,J (c.y - 1),J (c.x - 1),J c.y,J (c.x+1),J c.y,J c.x,J (c.y+1)]) (J (j:Int))).run prog w= .ok (.agg #[J cn.x,J cn.y]) w:=by
 subst h;have:j=0∨j=1∨j=2∨j=3:=by omega
 rcases this with rfl | rfl | rfl | rfl
 ·exact aDD c w
 ·exact aDE c w
 ·exact aDF c w
 ·exact aDG c w
theorem alE {c:az} {j:Nat} (aA:j<4):c.x - 1≤((eh c).getD j default).x∧((eh c).getD j default).x≤c.x+1∧c.y - 1≤((eh c).getD j default).y∧((eh c).getD j default).y≤c.y+1:=by
 have:j=0∨j=1∨j=2∨j=3:=by omega
 rcases this with rfl | rfl | rfl | rfl<;>simp [eh]<;>omega
theorem akL (w0:World) (f:aI) (P F A:Option Addr) (ct fN c b:Nat) (a_:List Int) (l:List cp) (bm:az) (a dp:az) (w:World) (jg:Ext w0 w) (hf:f.bn=0) (cq:bW.aG 8 w0 P ct f.a8) (aZ:aR w b [J f.wide,J f.high, .slice P f.a8.length ct,J bm.x,J bm.y, .slice F a_.length fN, .slice A l.length c] 249 (0,0)) (γ:w0.heap.size≤b) (cB:bW.aH 3 8 w w0.heap.size (aa.aj F) F fN a_) (Cy:cp.rep.aH 304 32 w w0.heap.size (aa.aj A) A c l) (agz:∀ q∈aa.aj F,q=b→False) (Q4:∀ q∈aa.aj A,q=b→False) (axR:∀ q∈aa.aj A,q∈aa.aj F→False) (hs:sI f a bm a_ l dp []) (hv:wV f bm a_) (dE:f.fu bm=true) (axy:l.length+5 * und a_≤20000):
  Calls prog 170 #[.pointer (some ⟨b,0,none⟩)] w (λ e w'=>∃ Qn bL bX iD,e= .returned (.tuple #[])∧aR w' b [J f.wide,J f.high, .slice P f.a8.length ct,J bm.x,J bm.y, .slice F Qn.length fN, .slice bL ((iD:List cp).length) bX] 249 (0,0)∧bW.aH 3 8 w' w0.heap.size (aa.aj F) F fN Qn∧pE f a bm Qn∧Mod (b::(aa.aj F++aa.aj A)) w w'):=by
 obtain ⟨g1,g2,g3,g4,g5,g6⟩:=aI.ks hf;have DC:∀ q∈b::(aa.aj F++aa.aj A),w0.heap.size≤q:=λ q I=>(aTZ.1 I).elim (λ h=>by omega) λ h=>(aTP.1 h).elim (λ h=>(cB.lt q h).1) λ h=>(Cy.lt q h).1;obtain ⟨_,_,aSf,aSg,aSh,aSi⟩:=aI.idx hf dE;refine b' (n:=108) func170 Z Z Z ?_;refine ah<|vm Z<|vm Z<|Φ (cf Z)<|Φ (av aeX Z)<|Φ (ao Z (aZ.par [J bm.x,J bm.y] cv b2 Z))<|ca mN Z Z ((sa w0 f P F A ct fN c b a_ l bm bm _ (Ext.mod jg (Mod.bg (b::(aa.aj F++aa.aj A)) w) DC) hf cq aZ (by first | omega | (dsimp only;omega))).mono ?_);rintro e cK ⟨rfl,fw⟩;refine ⟨_,Z, ?_⟩;have ba:=(Mod.bg (b::(aa.aj F++aa.aj A)) w).trans (Mod.bt fw);refine va Z<|ag<|bu<| ?_;have aZ:=aZ.later fw;have cB:=cB.later fw;have Cy:=Cy.later fw;refine dx (λ bZ bS aL=>∃ eW:List Int,∃ cz:List cp,∃ cw:Option Addr,∃ c1:Nat,∃ d_:az,bS= [(0, .pointer (some ⟨b,0,none⟩)),(2,J (bm.y * f.wide+bm.x))]∧bZ=(cz.length+5 * und eW)∧Mod (b::(aa.aj F++aa.aj A)) w aL∧aR aL b [J f.wide,J f.high, .slice P f.a8.length ct,J bm.x,J bm.y, .slice F eW.length fN, .slice cw cz.length c1] 249 (0,0)∧bW.aH 3 8 aL w0.heap.size (aa.aj F) F fN eW∧cp.rep.aH 304 32 aL w0.heap.size (aa.aj cw) cw c1 cz∧(sI f a bm eW cz d_ [])∧(wV f bm eW)∧(cz.length+5 * und eW≤20000)∧(∀ q∈aa.aj cw,q∈aa.aj A∨w.heap.size≤q)∧(∀ q∈aa.aj F,q=b→False)∧(∀ q∈aa.aj cw,q=b→False)∧(∀ q∈aa.aj cw,q∈aa.aj F→False)) _ _ ⟨a_,l,A,c,dp,Z,Z,ba,aZ,cB,Cy,hs,hv,axy,λ q I=> .inl I,(λ q I γ=>by (exact agz q I γ)),(λ q I γ=>by (exact Q4 q I γ)),(λ q I γ=>by (exact axR q I γ))⟩ (hB Z) ?_;rintro aPZ aJ9 wq ⟨eW,cz,cw,c1,d_,rfl,rfl,iZ,fj,kJ,oF,ft,oZ,Di,XO,KU,VC,PU⟩;have:=iZ.size;have aQ0:=fj.lt;have Jo:=b7 kJ.lt;have D6:=b7 oF.lt;obtain ⟨aSj,aSk,aSl⟩:=et hf ft.len dE;refine ay<|ay<| ?_;rcases acH (decide (0<(cz.length:Int))) ((decide (f.aD eW bm<0)) || (decide ((cz.getD 0 default).all≤f.aD eW bm))) with bo | ⟨bo,tU⟩ | ⟨bo,tU⟩
 ·have XJ:=aDa ft oZ (by have vC:=aVH bo;omega);refine cR [(3,0),(4,0),(10,0),(13,0),(19,0),(22,0),(26,0),(29,0)] [0,1,2,3,4,5,6,7,8,9,10,11,12,13,14,15,16,17,18,19,20,21,22,23,24,25,26,27,28,29,30,31,32] ?_;refine a1 Z Z<|aB Z (λ _=>cf Z)<|aB Z (λ _=>av Fc Z)<|bx Z (λ _ x=>ao Z ((fj.later x).one pJ Z))<|pO Z Z K0 Z (λ _ x=>NU _ cz.length _ _) Z<|aB Z (λ _=>hM Z Z)<|aB Z (λ _=>hy (gW Z bo))<|di Z Z<|di Z Z<|di Z Z<|jS Z Z<|di Z Z<|di Z Z<|jS Z Z<|di Z Z<|di Z Z<|rE Z Z Z Z Z Z<|rE Z Z Z Z Z Z<|rE Z Z Z Z Z Z<|rE Z Z Z Z Z Z<|rE Z Z Z Z Z Z<|rE Z Z Z Z Z Z<|rE Z Z Z Z Z Z<|rE Z Z Z Z Z Z<| ?_;refine rE Z Z Z Z Z Z<|rE Z Z Z Z Z Z<|rE Z Z Z Z Z Z<|rE Z Z Z Z Z Z<|rE Z Z Z Z Z Z<|rE Z Z Z Z Z Z<|rE Z Z Z Z Z Z<|di Z Z<|aB Z (λ _=>s6 Z Z)<|fn λ B5 qm=> ?_;have m_:=iZ.trans (Mod.bt qm);refine aP<|hj Z<|cV<|cU<|c'<|cT<|ne<|aV .nil<| ?_;have oF:=oF.later qm;have kJ:=kJ.later qm;have fj:=fj.later qm;exact ⟨eW,cw,c1,cz,Z,fj,kJ,XJ,m_⟩
 ·have zq:0<cz.length:=by simpa using bo
  obtain ⟨b8,DB⟩:∃ b8,cz.getD 0 default=b8:=⟨_,rfl⟩;have Rv:b8∈cz:=by rw [← DB];exact gP zq
  obtain ⟨aQK,aQL,aQM,aQN,aQO,aQP,aQQ,aQR,aQS⟩:=ft.node hf dE Rv;have Bv:=aI.ke (ft.all b8 Rv).2;obtain ⟨aTv,aTw,aTx⟩:=et hf ft.len Bv;have rP:f.aD eW bm<0∨b8.all≤f.aD eW bm:=by rw [DB] at tU;rw [aUr,aUa,aUa] at tU;exact tU
  refine cR [(3,0),(4,0),(10,0),(13,0),(19,0),(22,0),(26,0),(29,0)] [0,1,2,3,4,5,6,7,8,9,10,11,12,13,14,15,16,17,18,19,20,21,22,23,24,25,26,27,28,29,30,31,32] ?_;refine a1 Z Z<|aB Z (λ _=>cf Z)<|aB Z (λ _=>av Fc Z)<|bx Z (λ _ x=>ao Z ((fj.later x).one pJ Z))<|pO Z Z K0 Z (λ _ x=>NU _ cz.length _ _) Z<|aB Z (λ _=>hM Z Z)<|aB Z (λ _=>hy (gW Z bo))<|eS Z Z Z<|cd Z Z (λ hc _=>cf Z)<|cd Z Z (λ hc _=>av oQ Z)<|dT Z Z (λ hc _ x=>ao Z ((fj.later x).one fV Z))<|eS Z Z Z<|cd Z Z (λ hc _=>bT ((bm.y * f.wide+bm.x).toNat) underlying22 dI Z Z (kJ.has.bs (aO ((bm.y * f.wide+bm.x).toNat) (by have bc:=(et hf ft.len dE).1;omega))) (by (try simp only [ch] at hc);omega) (by have bc:=(et hf ft.len dE).1;omega))<|dT Z Z (λ hc _ x=>ao Z (aa.aG.eM gI ((kJ.later x).has.cg (aO ((bm.y * f.wide+bm.x).toNat) (by have bc:=(et hf ft.len dE).1;omega))) (Bg hf ft.len dE) Z a6))<|cd Z Z (λ hc _=>blt Z Z)<|eS Z Z Z<|eS Z Z Z<|cd Z Z (λ hc _=>cf (gt hc Z))<|cd Z Z (λ hc _=>av Fc (gt hc Z))<|dT Z Z (λ hc _ x=>ao (gt hc Z) ((fj.later x).one pJ Z))<|cd Z Z (λ hc _=>bT 0 underlying247 oR (gt hc Z) Z (oF.has.bs (aO 0 (by (try simp only [ch] at hc);omega))) Z (by (try simp only [ch] at hc);omega))<|cd Z Z (λ hc _=>av Qh (gt hc Z))<|dT Z Z (λ hc _ x=>ao (gt hc Z) (aa.aG.jT Fy ((oF.later x).has.cg (aO 0 (by (try simp only [ch] at hc);omega))) 3 (cA (l:=cz) (u:=default) (by (try simp only [ch] at hc);omega)) Z a6))<|eS Z Z Z<| ?_;refine cd Z Z (λ hc _=>cf (gt hc Z))<|cd Z Z (λ hc _=>av oQ (gt hc Z))<|dT Z Z (λ hc _ x=>ao (gt hc Z) ((fj.later x).one fV Z))<|eS Z Z Z<|cd Z Z (λ hc _=>bT ((bm.y * f.wide+bm.x).toNat) underlying22 dI (gt hc Z) (gt hc Z) (kJ.has.bs (aO ((bm.y * f.wide+bm.x).toNat) (by have bc:=(et hf ft.len dE).1;omega))) (by (try simp only [ch] at hc);omega) (by have bc:=(et hf ft.len dE).1;omega))<|dT Z Z (λ hc _ x=>ao (gt hc Z) (aa.aG.eM gI ((kJ.later x).has.cg (aO ((bm.y * f.wide+bm.x).toNat) (by have bc:=(et hf ft.len dE).1;omega))) (Bg hf ft.len dE) Z a6))<|cd Z Z (λ hc _=>ble (gt hc Z) (gt hc Z))<|cd Z Z (λ hc _=>fC Z Z Z Z)<|aB Z (λ _=>qg Z (gW Z tU))<|fn λ Gw ph=> ?_;have:=ph.size;have na:=iZ.trans (Mod.bt ph);refine aP<|fH Z<|bl<|bu<|ah<|vm Z<|Φ (cf Z)<|Φ (av Fc Z)<|Φ (R0 (λ w=>by kernel_rfl) Z)<| ?_;have oF:=oF.later ph;have fj:=fj.later ph;have af0:=aHR b cw cz.length c1 w0.heap.size cz (J f.wide) (J f.high) (.slice P f.a8.length ct) (J bm.x) (J bm.y) (.slice F eW.length fN) _ fj oF (λ y aF=>(ft.node hf dE aF).2.2.2.2.2.2.2.2) rfl (λ q I γ=>VC q I γ) zq (by omega);rw [DB] at af0;refine ca au7 Z Z ((af0).mono ?_);rintro e nN ⟨rfl,ri,Ha,BH⟩;refine ⟨_,Z, ?_⟩;have:=BH.size;have fp:=na.md BH (λ q I=>(aTZ.1 I).elim (λ h=> .inl (by rw [h];exact aT1)) (λ h=>(XO q h).imp (λ h=>aTS _ (aWY _ h)) id));refine Φ (ame (λ w=>by kernel_rfl) Z)<|al Z aeC Z Z λ q2 wX cX ajo hI=> ?_;have iM:=fp.trans (Mod.bt cX);refine st (new:= [J b8.cell.x,J b8.cell.y,J b8.a_,J b8.all]) Z Z hI Z oR Z Z Z λ th h_ hI=> ?_;have iY:=iM.md h_ (λ q I=> .inr (by have:=aTz.1 I;omega));refine ag<|ay<|ay<| ?_;refine cR [(3,0),(6,0),(7,0),(9,0)] [0,1,2,3,4,5,6,7,8,9,10] ?_;refine a1 Z Z<|aB Z (λ _=>cf Z)<|aB Z (λ _=>av oQ Z)<| ?_;have ri:=(ri.later cX).mod h_ aQ;refine bx Z (λ _ x=>ao Z ((ri.later x).one fV Z))<|a1 Z Z<|aB Z (λ _=>av V4 Z)<|bx Z (λ _ x=>ao Z ((hI.later x).par [J b8.cell.x,J b8.cell.y] cv b2 Z))<|pO Z Z mN Z (λ _ x=>sa w0 f P F cw ct fN c1 b eW (cH.om cp.all cz) bm b8.cell _ (ab (Ext.mod jg iY DC) x) hf cq (ri.later x) (by first | omega | (dsimp only;omega))) Z<| ?_;have kJ:=(((kJ.later ph).mod BH (λ q I h=>(aTZ.1 h).elim (λ h=>KU q I h) (λ h=>PU q h I))).later cX).mod h_ (b0 Jo);refine aB Z (λ _=>bT ((b8.cell.y * f.wide+b8.cell.x).toNat) underlying22 dI Z Z (kJ.has.bs (aO ((b8.cell.y * f.wide+b8.cell.x).toNat) (by have bc:=(et hf ft.len Bv).1;omega))) (by omega) (by have bc:=(et hf ft.len Bv).1;omega))<|bx Z (λ _ x=>ao Z (aa.aG.eM gI ((kJ.later x).has.cg (aO ((b8.cell.y * f.wide+b8.cell.x).toNat) (by have bc:=(et hf ft.len Bv).1;omega))) (Bg hf ft.len Bv) Z a6))<|aB Z (λ _=>j_ Z Z)<|fn λ Jx lq=> ?_;have qu:=iY.trans (Mod.bt lq);refine aP<| ?_;refine CZ Z (λ pR=> ?_) (λ pR=> ?_)
  ·have au:=pR;refine cV<|cU<|cT<| ?_;have ri:=ri.later lq;have kJ:=kJ.later lq;have Ha:=((Ha.later cX).mod h_ (b0 D6)).later lq;exact cD _ _ ⟨eW,cH.om cp.all cz,cw,c1,d_,Z,Z,qu,(by first | exact ri | (rw [agW];exact ri)),kJ,Ha,ft.aFo zq (by rw [DB];exact au),oZ,by rw [cH.I9];omega,XO,(λ q I γ=>by (exact KU q I γ)),(λ q I γ=>by (exact VC q I γ)),(λ q I γ=>by (exact PU q I γ))⟩ (by first | (rw [cH.I9];omega) | omega) (hB Z)
  ·have au:f.aD eW b8.cell<0:=by omega
   obtain ⟨gM,ahG⟩:=ft.new hf (aI.R8 f bm) zq (by rw [DB];exact au);rw [DB] at gM ahG;have IA:=aG4 ft hf zq DB au oZ rP;refine bl<|ay<| ?_;refine cR [(3,0),(6,0),(7,0),(9,0),(11,3)] [0,1,2,3,4,5,6,7,8,9,10,11] ?_;refine a1 Z Z<|aB Z (λ _=>cf Z)<|aB Z (λ _=>av oQ Z)<| ?_;have ri:=ri.later lq;refine bx Z (λ _ x=>ao Z ((ri.later x).one fV Z))<|a1 Z Z<|aB Z (λ _=>av V4 Z)<| ?_;have hI:=hI.later lq;refine bx Z (λ _ x=>ao Z ((hI.later x).par [J b8.cell.x,J b8.cell.y] cv b2 Z))<|pO Z Z mN Z (λ _ x=>sa w0 f P F cw ct fN c1 b eW (cH.om cp.all cz) bm b8.cell _ (ab (Ext.mod jg qu DC) x) hf cq (ri.later x) (by first | omega | (dsimp only;omega))) Z<|aB Z (λ _=>av aeZ Z)<|bx Z (λ _ x=>ao Z ((hI.later x).one a6 Z))<| ?_;have kJ:=kJ.later lq;refine aB Z (λ _=>bT ((b8.cell.y * f.wide+b8.cell.x).toNat) underlying22 dI Z Z (kJ.has.bs (aO ((b8.cell.y * f.wide+b8.cell.x).toNat) (by have bc:=(et hf ft.len Bv).1;omega))) (by omega) (by have bc:=(et hf ft.len Bv).1;omega))<|eg Z Z Z λ tj fy Q hK=>so (q':=b8.a_) (j:=0) (i:=((b8.cell.y * f.wide+b8.cell.x).toNat)) (kJ.later fy) aa.dj (Bg hf ft.len Bv) Z Z Z Z (λ _ cs h=>by have qe:=(show _∧_ from h).2;obtain rfl:=gI h;exact ⟨rfl,bY.2 (by omega)⟩) Z Z dI λ S9 p_ UG=>hK _ _ ?_;have kn:=qu.trans (Mod.bt fy);have Ch:=kn.md p_ (λ q I=> .inl (aTS _ (aW4 _ I)));refine fn λ Ec iI=> ?_;have px:=Ch.trans (Mod.bt iI);refine aP<|ah<|Φ (av V4 Z)<| ?_;have hI:=hI.later fy;have KV:∀ q∈aa.aj F,q=wX→False:=λ q I γ=>by (have:=Jo q I;omega)
   have hI:=(hI.mod p_ (λ I=>KV _ I rfl)).later iI;refine Φ (ao Z (hI.par [J b8.cell.x,J b8.cell.y] cv b2 Z))<| ?_;have UG:=UG.later iI;have Im:∃ Bd,eW.set (f.at_ b8.cell) b8.a_=Bd:=⟨_,rfl⟩;obtain ⟨Bd,Im⟩:=Im;rw [Im] at gM ahG IA;have agW:Bd.length=eW.length:=by rw [← Im,aTH]
   have iy:bW.aH 3 8 Ec w0.heap.size (aa.aj F) F fN Bd:=by rw [← Im];exact UG
   have ax2:f.aD Bd b8.cell=b8.a_:=by rw [← Im];exact aI.Qw hf ft.len Bv
   refine ca ae0 Z Z ((akM b8.cell _ (by first | omega | (dsimp only;omega))).mono ?_);rintro e NL ⟨rfl,kl⟩;refine ⟨_,Z, ?_⟩;have yz:=px.trans (Mod.bt kl);refine vm Z<|ag<|bu<| ?_;have ri:=((ri.later fy).mod p_ (λ I=>KU _ I rfl)).later (ab iI kl);have Ha:=((((Ha.later cX).mod h_ (b0 D6)).later (ab lq fy)).mod p_ (λ q I h=>PU q I h)).later (ab iI kl);have iy:=iy.later kl;have hI:=hI.later kl;refine dx (λ bZ bS aL=>∃ j:Nat,∃ iE:List cp,∃ dg:Option Addr,∃ c2:Nat,bS= [(0, .pointer (some ⟨b,0,none⟩)),(2,J (bm.y * f.wide+bm.x)),(3, .pointer (some ⟨wX,0,none⟩)),(14, .pointer (some ⟨b,0,none⟩)),(15, .pointer (some ⟨b,0,none⟩)),(16, .pointer (some ⟨b,6,none⟩)),(17, .slice cw cz.length c1),(18,J (cz.length:Int)),(19, .bool (decide (0<(cz.length:Int)))),(20, .bool true),(21, .pointer (some ⟨b,0,none⟩)),(22, .pointer (some ⟨b,0,none⟩)),(23, .pointer (some ⟨b,5,none⟩)),(24, .slice F eW.length fN),(25,J (bm.y * f.wide+bm.x)),(26, .pointer (some ⟨eV F,kz F+((bm.y * f.wide+bm.x).toNat) * 1,none⟩)),(27,J (f.aD eW bm)),(28, .bool (decide (f.aD eW bm<0))),(29, .bool (decide (f.aD eW bm<0))),(30,fO ((decide (f.aD eW bm<0))== false) (.pointer (some ⟨b,0,none⟩))),(31,fO ((decide (f.aD eW bm<0))== false) (.pointer (some ⟨b,0,none⟩))),(32,fO ((decide (f.aD eW bm<0))== false) (.pointer (some ⟨b,6,none⟩))),(33,fO ((decide (f.aD eW bm<0))== false) (.slice cw cz.length c1)),(34,fO ((decide (f.aD eW bm<0))== false) (.pointer (some ⟨eV cw,kz cw+0 * 4,none⟩))),(35,fO ((decide (f.aD eW bm<0))== false) (.pointer (some ⟨eV cw,kz cw+0 * 4+3,none⟩))),(36,fO ((decide (f.aD eW bm<0))== false) (J ((cz.getD 0 default).all))),(37,fO ((decide (f.aD eW bm<0))== false) (.pointer (some ⟨b,0,none⟩))),(38,fO ((decide (f.aD eW bm<0))== false) (.pointer (some ⟨b,0,none⟩))),(39,fO ((decide (f.aD eW bm<0))== false) (.pointer (some ⟨b,5,none⟩))),(40,fO ((decide (f.aD eW bm<0))== false) (.slice F eW.length fN)),(41,fO ((decide (f.aD eW bm<0))== false) (J (bm.y * f.wide+bm.x))),(42,fO ((decide (f.aD eW bm<0))== false) (.pointer (some ⟨eV F,kz F+((bm.y * f.wide+bm.x).toNat) * 1,none⟩))),(43,fO ((decide (f.aD eW bm<0))== false) (J (f.aD eW bm))),(44,fO ((decide (f.aD eW bm<0))== false) (.bool (decide ((cz.getD 0 default).all≤f.aD eW bm)))),(45, .bool ((decide (f.aD eW bm<0)) || (decide ((cz.getD 0 default).all≤f.aD eW bm)))),(46, .bool true),(47, .pointer (some ⟨b,0,none⟩)),(48, .pointer (some ⟨b,0,none⟩)),(49, .pointer (some ⟨b,6,none⟩)),(50, .iface 302 (.pointer (some ⟨b,6,none⟩))),(51, .iface 304 (.agg #[J b8.cell.x,J b8.cell.y,J b8.a_,J b8.all])),(52, .agg #[J b8.cell.x,J b8.cell.y,J b8.a_,J b8.all]),(53, .pointer (some ⟨b,0,none⟩)),(54, .pointer (some ⟨b,0,none⟩)),(55, .pointer (some ⟨b,5,none⟩)),(56, .slice F eW.length fN),(57, .pointer (some ⟨b,0,none⟩)),(58, .pointer (some ⟨wX,0,none⟩)),(59, .agg #[J b8.cell.x,J b8.cell.y]),(60,J (b8.cell.y * f.wide+b8.cell.x)),(61, .pointer (some ⟨eV F,kz F+((b8.cell.y * f.wide+b8.cell.x).toNat) * 1,none⟩)),(62,J (f.aD eW b8.cell)),(63, .bool (decide (0≤f.aD eW b8.cell))),(64, .pointer (some ⟨b,0,none⟩)),(65, .pointer (some ⟨b,0,none⟩)),(66, .pointer (some ⟨b,5,none⟩)),(67, .slice F eW.length fN),(68, .pointer (some ⟨b,0,none⟩)),(69, .pointer (some ⟨wX,0,none⟩)),(70, .agg #[J b8.cell.x,J b8.cell.y]),(71,J (b8.cell.y * f.wide+b8.cell.x)),(72, .pointer (some ⟨wX,2,none⟩)),(73,J b8.a_),(74, .pointer (some ⟨eV F,kz F+((b8.cell.y * f.wide+b8.cell.x).toNat) * 1,none⟩)),(75, .pointer (some ⟨wX,0,none⟩)),(76, .agg #[J b8.cell.x,J b8.cell.y]),(77, .agg #[J b8.cell.x,J (b8.cell.y - 1),J (b8.cell.x - 1),J b8.cell.y,J (b8.cell.x+1),J b8.cell.y,J b8.cell.x,J (b8.cell.y+1)]),(78,J (j:Int))]∧bZ=4 - j∧Mod (b::(aa.aj F++aa.aj A)) w aL∧aR aL wX [J b8.cell.x,J b8.cell.y,J b8.a_,J b8.all] 304 (0,0)∧bW.aH 3 8 aL w0.heap.size (aa.aj F) F fN Bd∧aR aL b [J f.wide,J f.high, .slice P f.a8.length ct,J bm.x,J bm.y, .slice F eW.length fN, .slice dg iE.length c2] 249 (0,0)∧cp.rep.aH 304 32 aL w0.heap.size (aa.aj dg) dg c2 iE∧(j≤4)∧(sI f a bm Bd iE b8.cell (((eh b8.cell).drop j).filter f.ground))∧(iE.length+1≤cz.length+j)∧(∀ q∈aa.aj dg,q∈aa.aj A∨w.heap.size≤q)∧(∀ q∈aa.aj dg,q=wX→False)∧(∀ q∈aa.aj dg,q=b→False)∧(∀ q∈aa.aj dg,q∈aa.aj F→False)) _ _ ⟨0,cH.om cp.all cz,cw,c1,Z,Z,yz,hI,iy,ri,Ha,by omega,gM,by rw [cH.I9];omega,XO,(λ q I γ=>by (have:=D6 q I;omega)),(λ q I γ=>by (exact VC q I γ)),(λ q I γ=>by (exact PU q I γ))⟩ (.cons Z (.cons Z (.cons Z (.cons Z (.cons Z (.cons Z (.cons Z (.cons Z (.cons Z (.cons Z (.cons Z (.cons Z (.cons Z (.cons Z (.cons Z (.cons Z (.cons Z (.cons Z (.cons Z (.cons Z (.cons Z (.cons Z (.cons Z (.cons Z (.cons Z (.cons Z (.cons Z (.cons Z (.cons Z (.cons Z (.cons Z (.cons Z (.cons Z (.cons Z (.cons Z (.cons Z (.cons Z (.cons Z (.cons Z (.cons Z (.cons Z (.cons Z (.cons Z (.cons Z (.cons Z (.cons Z (.cons Z (.cons Z (.cons Z (.cons Z (.cons Z (.cons Z (.cons Z (.cons Z (.cons Z (.cons Z (.cons Z (.cons Z (.cons Z (.cons Z (.cons Z (.cons Z (.cons Z (.cons Z (.cons Z (.cons Z (.cons Z (.cons (bH Z) .nil)))))))))))))))))))))))))))))))))))))))))))))))))))))))))))))))))))) ?_;rintro lU aom q4 ⟨j,iE,dg,c2,rfl,rfl,iw,hI,iy,cW,wJ,aA,gM,kO,LN,A9,xe,nn⟩;have aD0:=hI.lt;have SV:=b7 iy.lt;have aRI:=cW.lt;have aas:=b7 wJ.lt;refine ah<|Φ (blt Z Z)<|ag<|ay<| ?_;refine df Z (λ axg=> ?_) (λ axg=> ?_)
   ·refine bl<|ay<|bu<|ah<| ?_;obtain ⟨cn,jK⟩:∃ cn,(eh b8.cell).getD j default=cn:=⟨_,rfl⟩;have X3:=alE (c:=b8.cell) (j:=j) (by omega);rw [jK] at X3;refine Φ (FP Z Z (akN b8.cell j (by omega) jK _))<|al Z xi Z Z λ GC aLt qs aPx tF=> ?_;have yA:=iw.trans (Mod.bt qs);have aRM:=tF.lt;refine st (new:= [J cn.x,J cn.y]) Z Z tF Z b2 Z Z Z λ Tc p' tF=> ?_;have:=p'.size;have yD:=yA.md p' (λ q I=> .inr (by have:=aTz.1 I;omega));refine ag<|ah<|vm Z<|Φ (ao Z (tF.all cv b2))<| ?_;have cW:=(cW.later qs).mod p' aQ;refine ca V5 Z Z ((Zn w0 f P F dg ct fN c2 b eW iE bm cn _ (Ext.mod jg yD DC) hf cq cW).mono ?_);rintro e Te ⟨rfl,ec⟩;refine ⟨_,Z, ?_⟩;have:=ec.size;have tE:=yD.trans (Mod.bt ec);refine vm Z<|Φ (ex Z Z)<|Φ (ex Z Z)<|va Z<|va Z<|ag<|ay<| ?_;rcases acH (f.ground cn) (decide (f.aD Bd cn<0)) with bo | ⟨bo,tU⟩ | ⟨bo,tU⟩
    ·have L7:=gM.aBf (by omega) (by rw [jK];exact bo);refine cR [(5,0),(7,0),(8,0),(10,0)] [0,1,2,3,4,5,6,7,8,9,10,11,12] ?_;refine aB rfl (λ _=>hy (gW rfl bo))<|a1 rfl rfl<|di rfl rfl<|di rfl rfl<|di rfl rfl<|jS rfl rfl<|di rfl rfl<|jS rfl rfl<|dJ (v:=undef) (args:= []) rfl rfl rfl rfl rfl rfl mN (λ hc=>nomatch hc) (λ hc=>nomatch hc) rfl<|di rfl rfl<|jS rfl rfl<|di rfl rfl<|aB rfl (λ _=>s6 rfl rfl)<|fn λ B8 iX=> ?_;have nc:=tE.trans (Mod.bt iX);refine aP<|hj Z<|ei<|bU<|aP<|rg<|Φ (bad Z Z (bf (by omega)))<|vm Z<|nl<| ?_;have hI:=((hI.later qs).mod p' aQ).later (ab ec iX);have iy:=((iy.later qs).mod p' (λ q I h=>by have γ:=aTz.1 h;exfalso;(have:=SV q I;have:=Jo q I;omega))).later (ab ec iX);have cW:=cW.later (ab ec iX);have wJ:=((wJ.later qs).mod p' (b0 aas)).later (ab ec iX);exact cD _ _ ⟨j+1,iE,dg,c2,Z,Z,nc,hI,iy,cW,wJ,by omega,L7,by omega,LN,(λ q I γ=>by (exact A9 q I γ)),(λ q I γ=>by (exact xe q I γ)),(λ q I γ=>by (exact nn q I γ))⟩ (by omega) (.cons Z (.cons Z (.cons Z (.cons Z (.cons Z (.cons Z (.cons Z (.cons Z (.cons Z (.cons Z (.cons Z (.cons Z (.cons Z (.cons Z (.cons Z (.cons Z (.cons Z (.cons Z (.cons Z (.cons Z (.cons Z (.cons Z (.cons Z (.cons Z (.cons Z (.cons Z (.cons Z (.cons Z (.cons Z (.cons Z (.cons Z (.cons Z (.cons Z (.cons Z (.cons Z (.cons Z (.cons Z (.cons Z (.cons Z (.cons Z (.cons Z (.cons Z (.cons Z (.cons Z (.cons Z (.cons Z (.cons Z (.cons Z (.cons Z (.cons Z (.cons Z (.cons Z (.cons Z (.cons Z (.cons Z (.cons Z (.cons Z (.cons Z (.cons Z (.cons Z (.cons Z (.cons Z (.cons Z (.cons Z (.cons Z (.cons Z (.cons Z (.cons (bH Z) .nil))))))))))))))))))))))))))))))))))))))))))))))))))))))))))))))))))))
    ·have ho:=aI.ke bo;obtain ⟨R2,R3,R4⟩:=et hf gM.len ho;have oY:=f.p3 (c:=cn);have pZ:=aky hf bo;refine cR [(5,0),(7,0),(8,0),(10,0)] [0,1,2,3,4,5,6,7,8,9,10,11,12] ?_;refine aB Z (λ _=>hy (gW Z bo))<|a1 Z Z<|eS Z Z Z<|cd Z Z (λ hc _=>cf Z)<|cd Z Z (λ hc _=>av oQ Z)<| ?_;have cW:=cW.later ec;refine dT Z Z (λ hc _ x=>ao Z ((cW.later x).one fV Z))<|eS Z Z Z<| ?_;have tF:=tF.later ec;refine dT Z Z (λ hc _ x=>ao Z ((tF.later x).all cv b2))<|dJ Z Z Z Z Z Z mN (λ hc=>Z) (λ hc _ x=>sa w0 f P F dg ct fN c2 b eW iE bm cn _ (ab (Ext.mod jg tE DC) x) hf cq (cW.later x) (by first | omega | (dsimp only;omega))) Z<| ?_;have iy:=((iy.later qs).mod p' (λ q I h=>by have γ:=aTz.1 h;exfalso;(have:=SV q I;have:=Jo q I;omega))).later ec;refine cd Z Z (λ hc _=>bT ((cn.y * f.wide+cn.x).toNat) underlying22 dI Z Z (iy.has.bs (aO ((cn.y * f.wide+cn.x).toNat) (by have bc:=(et hf gM.len ho).1;omega))) (by (try simp only [ch] at hc);omega) (by have bc:=(et hf gM.len ho).1;omega))<|dT Z Z (λ hc _ x=>ao Z (aa.aG.eM gI ((iy.later x).has.cg (aO ((cn.y * f.wide+cn.x).toNat) (by have bc:=(et hf gM.len ho).1;omega))) (Bg hf gM.len ho) Z a6))<|cd Z Z (λ hc _=>blt Z Z)<|aB Z (λ _=>qg Z (gW Z tU))<|fn λ GF po=> ?_;have:=po.size;have nT:=tE.trans (Mod.bt po);refine aP<|fH Z<|rg<|vm Z<| ?_;have tF:=tF.later po;refine Φ (ao Z (tF.all cv b2))<|Φ (av aeZ Z)<| ?_;have hI:=((hI.later qs).mod p' aQ).later (ab ec po);refine Φ (ao Z (hI.one a6 Z))<|vm Z<|Φ (bad Z Z (bf (by omega)))<| ?_;have wJ:=((wJ.later qs).mod p' (b0 aas)).later (ab ec po);have cW:=cW.later po;refine ca V6 Z Z ((Zq w0 f P F dg ct fN c2 b eW iE bm cn (b8.a_+(qf f cn)) _ (Ext.mod jg nT DC) hf cq cW γ wJ (λ q I γ=>xe q I γ) (λ y aF=>(gM.node hf dE aF).2.2.2.2.2.2.2.2) (by omega) (by omega) (by omega) (by omega)).mono ?_);rintro e aaH ⟨anw,arx,rfl,aoD,aoT,axQ,Q6,mg⟩;refine ⟨_,Z, ?_⟩;have GY:=nT.md mg (λ q I=>(aTZ.1 I).elim (λ h=> .inl (by rw [h];exact aT1)) (λ h=>(LN q h).imp (λ h=>aTS _ (aWY _ h)) id));have Yd:=gM.aBe (n:=⟨cn,b8.a_+(qf f cn),b8.a_+(qf f cn)+aI.kb bm cn⟩) (aI.R8 f bm) (by omega) (by rw [jK];exact bo) (by rw [jK]) (by rw [jK,ax2,← pZ]) (by rw [jK]);refine nl<|bU<|aP<|rg<|Φ (bad Z Z (bf (by omega)))<|vm Z<|nl<| ?_;have hI:=hI.mod mg (λ I=>(aTZ.1 I).elim (λ h=>by omega) (λ h=>(show ∀ q,q∈aa.aj dg→q=wX→False from λ q h γ=>by (exact A9 q h γ)) _ h rfl));have iy:=(iy.later po).mod mg (λ q I h=>(aTZ.1 h).elim (λ h=>KU q I h) (λ h=>nn q h I));exact cD _ _ ⟨j+1,cH.push cp.all iE ⟨cn,b8.a_+(qf f cn),b8.a_+(qf f cn)+aI.kb bm cn⟩,anw,arx,Z,Z,GY,hI,iy,aoD,aoT,by omega,Yd,by rw [cH.Nc];omega,(λ q I=>(Q6 q I).elim (LN q) (λ h=> .inr (by omega))),(λ q I γ=>by (exact aTT (Q6 q I) (λ ai7=>by (exact A9 q ai7 γ)) (λ ai7=>by omega))),(λ q I γ=>by (exact axQ q I γ)),(λ q I γ=>by (exact aTT (Q6 q I) (λ ai8=>by (exact nn q ai8 γ)) (λ ai8=>by (have:=SV q γ;have:=Jo q γ;omega))))⟩ (by omega) (.cons Z (.cons Z (.cons Z (.cons Z (.cons Z (.cons Z (.cons Z (.cons Z (.cons Z (.cons Z (.cons Z (.cons Z (.cons Z (.cons Z (.cons Z (.cons Z (.cons Z (.cons Z (.cons Z (.cons Z (.cons Z (.cons Z (.cons Z (.cons Z (.cons Z (.cons Z (.cons Z (.cons Z (.cons Z (.cons Z (.cons Z (.cons Z (.cons Z (.cons Z (.cons Z (.cons Z (.cons Z (.cons Z (.cons Z (.cons Z (.cons Z (.cons Z (.cons Z (.cons Z (.cons Z (.cons Z (.cons Z (.cons Z (.cons Z (.cons Z (.cons Z (.cons Z (.cons Z (.cons Z (.cons Z (.cons Z (.cons Z (.cons Z (.cons Z (.cons Z (.cons Z (.cons Z (.cons Z (.cons Z (.cons Z (.cons Z (.cons Z (.cons (bH Z) .nil))))))))))))))))))))))))))))))))))))))))))))))))))))))))))))))))))))
    ·have ho:=aI.ke bo;obtain ⟨R2,R3,R4⟩:=et hf gM.len ho;have L7:=gM.aBd (by omega) (by rw [jK];have vC:=aVH tU;omega) (by rw [jK];exact bo);refine cR [(5,0),(7,0),(8,0),(10,0)] [0,1,2,3,4,5,6,7,8,9,10,11,12] ?_;refine aB Z (λ _=>hy (gW Z bo))<|a1 Z Z<|eS Z Z Z<|cd Z Z (λ hc _=>cf Z)<|cd Z Z (λ hc _=>av oQ Z)<| ?_;have cW:=cW.later ec;refine dT Z Z (λ hc _ x=>ao Z ((cW.later x).one fV Z))<|eS Z Z Z<| ?_;have tF:=tF.later ec;refine dT Z Z (λ hc _ x=>ao Z ((tF.later x).all cv b2))<|dJ Z Z Z Z Z Z mN (λ hc=>Z) (λ hc _ x=>sa w0 f P F dg ct fN c2 b eW iE bm cn _ (ab (Ext.mod jg tE DC) x) hf cq (cW.later x) (by first | omega | (dsimp only;omega))) Z<| ?_;have iy:=((iy.later qs).mod p' (λ q I h=>by have γ:=aTz.1 h;exfalso;(have:=SV q I;have:=Jo q I;omega))).later ec;refine cd Z Z (λ hc _=>bT ((cn.y * f.wide+cn.x).toNat) underlying22 dI Z Z (iy.has.bs (aO ((cn.y * f.wide+cn.x).toNat) (by have bc:=(et hf gM.len ho).1;omega))) (by (try simp only [ch] at hc);omega) (by have bc:=(et hf gM.len ho).1;omega))<|dT Z Z (λ hc _ x=>ao Z (aa.aG.eM gI ((iy.later x).has.cg (aO ((cn.y * f.wide+cn.x).toNat) (by have bc:=(et hf gM.len ho).1;omega))) (Bg hf gM.len ho) Z a6))<|cd Z Z (λ hc _=>blt Z Z)<|aB Z (λ _=>qg Z (gW Z tU))<|fn λ Ti nQ=> ?_;have Cm:=tE.trans (Mod.bt nQ);refine aP<|hj Z<|ei<|bU<|aP<|rg<|Φ (bad Z Z (bf (by omega)))<|vm Z<|nl<| ?_;have hI:=((hI.later qs).mod p' aQ).later (ab ec nQ);have iy:=iy.later nQ;have cW:=cW.later nQ;have wJ:=((wJ.later qs).mod p' (b0 aas)).later (ab ec nQ);exact cD _ _ ⟨j+1,iE,dg,c2,Z,Z,Cm,hI,iy,cW,wJ,by omega,L7,by omega,LN,(λ q I γ=>by (exact A9 q I γ)),(λ q I γ=>by (exact xe q I γ)),(λ q I γ=>by (exact nn q I γ))⟩ (by omega) (.cons Z (.cons Z (.cons Z (.cons Z (.cons Z (.cons Z (.cons Z (.cons Z (.cons Z (.cons Z (.cons Z (.cons Z (.cons Z (.cons Z (.cons Z (.cons Z (.cons Z (.cons Z (.cons Z (.cons Z (.cons Z (.cons Z (.cons Z (.cons Z (.cons Z (.cons Z (.cons Z (.cons Z (.cons Z (.cons Z (.cons Z (.cons Z (.cons Z (.cons Z (.cons Z (.cons Z (.cons Z (.cons Z (.cons Z (.cons Z (.cons Z (.cons Z (.cons Z (.cons Z (.cons Z (.cons Z (.cons Z (.cons Z (.cons Z (.cons Z (.cons Z (.cons Z (.cons Z (.cons Z (.cons Z (.cons Z (.cons Z (.cons Z (.cons Z (.cons Z (.cons Z (.cons Z (.cons Z (.cons Z (.cons Z (.cons Z (.cons Z (.cons (bH Z) .nil))))))))))))))))))))))))))))))))))))))))))))))))))))))))))))))))))))
   ·refine cV<|cU<|c'<|cT<|bU<| ?_;exact cD _ _ ⟨Bd,iE,dg,c2,b8.cell,Z,Z,iw,(by first | exact cW | (rw [agW];exact cW)),iy,wJ,(by have e:j=4:=(by omega);subst e;exact gM),IA,by omega,LN,(λ q I γ=>by (exact KU q I γ)),(λ q I γ=>by (exact xe q I γ)),(λ q I γ=>by (exact nn q I γ))⟩ (by first | (rw [cH.I9];omega) | omega) (hB Z)
 ·have zq:0<cz.length:=by simpa using bo
  have XJ:=aC9 ft oZ zq (by rw [aUl,aUj,aUj] at tU;omega) (by rw [aUl,aUj,aUj] at tU;omega);refine cR [(3,0),(4,0),(10,0),(13,0),(19,0),(22,0),(26,0),(29,0)] [0,1,2,3,4,5,6,7,8,9,10,11,12,13,14,15,16,17,18,19,20,21,22,23,24,25,26,27,28,29,30,31,32] ?_;refine a1 Z Z<|aB Z (λ _=>cf Z)<|aB Z (λ _=>av Fc Z)<|bx Z (λ _ x=>ao Z ((fj.later x).one pJ Z))<|pO Z Z K0 Z (λ _ x=>NU _ cz.length _ _) Z<|aB Z (λ _=>hM Z Z)<|aB Z (λ _=>hy (gW Z bo))<|eS Z Z Z<|cd Z Z (λ hc _=>cf Z)<|cd Z Z (λ hc _=>av oQ Z)<|dT Z Z (λ hc _ x=>ao Z ((fj.later x).one fV Z))<|eS Z Z Z<|cd Z Z (λ hc _=>bT ((bm.y * f.wide+bm.x).toNat) underlying22 dI Z Z (kJ.has.bs (aO ((bm.y * f.wide+bm.x).toNat) (by have bc:=(et hf ft.len dE).1;omega))) (by (try simp only [ch] at hc);omega) (by have bc:=(et hf ft.len dE).1;omega))<|dT Z Z (λ hc _ x=>ao Z (aa.aG.eM gI ((kJ.later x).has.cg (aO ((bm.y * f.wide+bm.x).toNat) (by have bc:=(et hf ft.len dE).1;omega))) (Bg hf ft.len dE) Z a6))<|cd Z Z (λ hc _=>blt Z Z)<|eS Z Z Z<|eS Z Z Z<|cd Z Z (λ hc _=>cf (gt hc Z))<|cd Z Z (λ hc _=>av Fc (gt hc Z))<|dT Z Z (λ hc _ x=>ao (gt hc Z) ((fj.later x).one pJ Z))<|cd Z Z (λ hc _=>bT 0 underlying247 oR (gt hc Z) Z (oF.has.bs (aO 0 (by (try simp only [ch] at hc);omega))) Z (by (try simp only [ch] at hc);omega))<|cd Z Z (λ hc _=>av Qh (gt hc Z))<|dT Z Z (λ hc _ x=>ao (gt hc Z) (aa.aG.jT Fy ((oF.later x).has.cg (aO 0 (by (try simp only [ch] at hc);omega))) 3 (cA (l:=cz) (u:=default) (by (try simp only [ch] at hc);omega)) Z a6))<|eS Z Z Z<| ?_;refine cd Z Z (λ hc _=>cf (gt hc Z))<|cd Z Z (λ hc _=>av oQ (gt hc Z))<|dT Z Z (λ hc _ x=>ao (gt hc Z) ((fj.later x).one fV Z))<|eS Z Z Z<|cd Z Z (λ hc _=>bT ((bm.y * f.wide+bm.x).toNat) underlying22 dI (gt hc Z) (gt hc Z) (kJ.has.bs (aO ((bm.y * f.wide+bm.x).toNat) (by have bc:=(et hf ft.len dE).1;omega))) (by (try simp only [ch] at hc);omega) (by have bc:=(et hf ft.len dE).1;omega))<|dT Z Z (λ hc _ x=>ao (gt hc Z) (aa.aG.eM gI ((kJ.later x).has.cg (aO ((bm.y * f.wide+bm.x).toNat) (by have bc:=(et hf ft.len dE).1;omega))) (Bg hf ft.len dE) Z a6))<|cd Z Z (λ hc _=>ble (gt hc Z) (gt hc Z))<|cd Z Z (λ hc _=>fC Z Z Z Z)<|aB Z (λ _=>qg Z (gW Z tU))<|fn λ amT wz=> ?_;have Ok:=iZ.trans (Mod.bt wz);refine aP<|hj Z<|cV<|cU<|c'<|cT<|ne<|aV .nil<| ?_;have oF:=oF.later wz;have kJ:=kJ.later wz;have fj:=fj.later wz;exact ⟨eW,cw,c1,cz,Z,fj,kJ,XJ,Ok⟩
end
end Go.Proofs.YtmeeljmapailnaaGreat
