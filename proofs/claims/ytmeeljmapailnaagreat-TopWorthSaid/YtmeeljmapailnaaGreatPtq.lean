import Derived.Test.YtmeeljmapailnaaGreatEqI
set_option linter.unusedVariables false
set_option linter.unusedSimpArgs false
set_option maxRecDepth 100000
set_option maxHeartbeats 4000000
open Go.RowKit
namespace Go.Proofs.YtmeeljmapailnaaGreat
open Tryz
open Tryz
abbrev aRY:=@Go.Lib.hid
abbrev aTO:=@Int.lt_or_le
abbrev aVW:=@Go.bodyPost_ret

def aE.pZ (p:Int):Bool:= !aE.R1 p
theorem ap1 {p:Int}:(p<0→aE.pZ p=true)∧(4≤p→aE.pZ p=true)∧(0≤p→p<4→aE.pZ p=false):=by
 unfold aE.pZ aE.R1;refine ⟨λ h=>by rw [qc (.inl h)];rfl,λ h=>by rw [qc (.inr (by omega))];rfl,λ κ ab=>by rw [pj κ (by omega)];rfl⟩
theorem auh (p:Int) (w:World):Calls prog 110 #[.int .i64 p] w λ e w'=>e= .returned (.bool (aE.pZ p))∧Below w.heap.size w w':=by
 obtain ⟨nH,f_,gR⟩:=ap1 (p:=p);rcases aTO p 0 with h | h
 ·have Φ:=nH h;have hd:decide (p<0)=true:=by simpa using h
  rw [Φ];clear nH f_ gR Φ;go_enter func110,ntmps110;go_wp2
  go_ret;exact ⟨Z,aSr _ _⟩
 ·rcases aTO p 4 with a6 | a6
  ·have Φ:=gR h a6;have hd:decide (p<0)=false:=by simpa using h
   rw [Φ];clear nH f_ gR Φ;go_enter func110,ntmps110;go_wp2
   go_ret;exact ⟨iu (by simp<;>omega),aSr _ _⟩
  ·have Φ:=f_ a6;have hd:decide (p<0)=false:=by simpa using h
   rw [Φ];clear nH f_ gR Φ;go_enter func110,ntmps110;go_wp2
   go_ret;exact ⟨iu (by simp<;>omega),aSr _ _⟩
theorem ays  (A:Option Addr) (c:Nat) (l:List Int) (w:World) (ay:bQ.aJ 8 w A c l):
  Calls prog 145 #[.slice A l.length c, .func (.func 110) #[] #[]] w λ e w'=>e= .returned (.int .i64 (gx (aE.pZ) l))∧Below w.heap.size w w':=by
 obtain ⟨n,hn⟩:∃ n,l.length=n:=⟨_,rfl⟩;have hle:n≤9223372036854775807:=by have:=ay.1;have:=ay.2.1;omega
 rw [hn];have qL:=aRY ay;have ff:=aRY hn;clear ay hn;go_enter func145,ntmps145;go_wp2_with fail
 go_loopw [5,8] (λ _ hB wr=>∃ k:Nat,k≤n∧hB= .int .i64 (k:Int)∧Hid (∀ j (az:j<k) (sb:j<l.length),(aE.pZ) l[j]=false)∧Below w.heap.size w wr) (λ _ hB _=>n - (intOf hB).toNat)
 case atStart=>exact ⟨0,aSM _,rfl,(λ j az=>by omega),aSr _ _⟩
 case round =>
  obtain ⟨k,ar,rfl,ie,Φ⟩:=hrel;by_cases bz:k<n
  ·have jg:k<l.length:=by rw [ff.out];exact bz
   obtain ⟨b,o,rfl,j1⟩:=Gw (qL.out.keep Φ) (by omega);obtain ⟨x,oC⟩:∃ x,l[k]'jg=x:=⟨_,rfl⟩;have ni:=j1 k x (by rw [aRX jg,oC]);have xk:=aRY oC

   have hc:=auh x wr;clear j1 oC;cases jZ:(aE.pZ) x with
   | true =>
    have lB:gx (aE.pZ) l=(k:Int):=F9 jg (by rw [xk.out];exact jZ) λ j az=>ie.out j az (by omega);rw [jZ] at hc;have rA:=aRY lB;clear lB jZ;go_wp2_with (go_at_call 110;refine hc.mono ?_;rintro e w' ⟨rfl,bw⟩)
    go_ret;exact ⟨by rw [rA.out];rfl,Φ.trans (bw.mono Φ.size)⟩
   | false =>
    rw [jZ] at hc;have pL:Hid (∀ j (az:j<k+1) (sb:j<l.length),(aE.pZ) l[j]=false):=by
     intro j az sb;by_cases h:j<k
     ·exact ie.out j h sb
     ·obtain rfl:j=k:=by omega
      rw [xk.out];exact jZ
    clear jZ;go_wp2_with (go_at_call 110;refine hc.mono ?_;rintro e w' ⟨rfl,bw⟩)
    go_roundw
    case rel=>exact ⟨k+1,by omega,by go_num,pL,Φ.trans (bw.mono Φ.size)⟩
    case measure=>simp [intOf];omega
  ·have lB:gx (aE.pZ) l= -1:=F8 λ j az=>ie.out j (by have:=ff.out;omega) az;have rA:=aRY lB;clear lB;go_wp2_with fail
   go_ret;exact ⟨by rw [rA.out];rfl,Φ⟩
theorem av4  (A:Option Addr) (c:Nat) (l:List Int) (w:World) (ay:bQ.aJ 8 w A c l):
  Calls prog 109 #[.slice A l.length c, .func (.func 110) #[] #[]] w λ e w'=>e= .returned (.bool (l.any (aE.pZ)))∧Below w.heap.size w w':=by
 have hc:=ays  A c l w ay ;rw [← Mq];generalize gx (aE.pZ) l=r at *
 generalize l.length=n at *
 clear ay ;go_enter func109,ntmps109;go_wp2_with (go_at_call 145;refine hc.mono ?_;rintro e w' ⟨rfl,bw⟩)
 go_ret;exact ⟨Z,bw⟩
theorem S' (n lo aq:Int) (w:World):Calls prog 113 #[.int .i64 n, .int .i64 lo, .int .i64 aq] w λ e w'=>e= .returned (.bool (cN n lo aq))∧w=w':=by
 rcases aTO n lo with h | h
 ·rw [qc (.inl h)];go_enter func113,ntmps113;go_wp2
  go_ret;exact ⟨Z,Z⟩
 ·rcases aTO aq n with a6 | a6
  ·rw [qc (.inr a6)];go_enter func113,ntmps113;go_wp2
   go_ret;exact ⟨iu (by simp<;>omega),Z⟩
  ·rw [pj h a6];go_enter func113,ntmps113;go_wp2
   go_ret;exact ⟨iu (by simp<;>omega),Z⟩
theorem alJ (n:Int) (w:World):Calls prog 108 #[.int .i64 n] w λ e w'=>e= .returned (.bool (cN n 1 40))∧w=w':=by
 rcases aTO n 1 with h | h
 ·rw [qc (.inl h)];go_enter func108,ntmps108;go_wp2
  go_ret;exact ⟨Z,Z⟩
 ·rcases aTO 40 n with a6 | a6
  ·rw [qc (.inr a6)];go_enter func108,ntmps108;go_wp2
   go_ret;exact ⟨iu (by simp<;>omega),Z⟩
  ·rw [pj h a6];go_enter func108,ntmps108;go_wp2
   go_ret;exact ⟨iu (by simp<;>omega),Z⟩
open Tryz

theorem aE.arh {f:aE} (κ:cN f.wide 1 40=true) (ab:cN f.high 1 40=true) (aw:¬ (f.aW.length:Int)=f.wide * f.high):f.bm=4:=by
 unfold aE.bm;rw [κ,ab,aSF aw];rfl
theorem aE.arb {f:aE} (κ:cN f.wide 1 40=true) (ab:cN f.high 1 40=true) (aw:(f.aW.length:Int)=f.wide * f.high):f.bm=if f.aW.any aE.pZ then 4 else 0:=by
 unfold aE.bm;rw [κ,ab,aSw aw];have:f.aW.all aE.R1= !f.aW.any aE.pZ:=by
  rw [List.all_eq_not_any_not];rfl
 rw [this];cases f.aW.any aE.pZ<;>rfl
theorem afm (f:aE) (A:Option Addr) (c:Nat) (w:World) (cj:bQ.aJ 8 w A c f.aW):
  Calls prog 64 #[.agg #[.int .i64 f.wide, .int .i64 f.high, .slice A f.aW.length c]] w λ e w'=>e= .returned (.int .i64 f.bm)∧Below w.heap.size w w':=by
 have Φ:=lN w (.cells #[.int .i64 f.wide, .int .i64 f.high, .slice A f.aW.length c] 24);have fp:=alJ f.wide;have gI:=alJ f.high;have hle:f.aW.length≤9223372036854775807:=by have:=cj.1;have:=cj.2.1;omega
 cases κ:cN f.wide 1 40 with
 | false =>
  rw [κ] at fp;rw [aE.adv (by rw [κ];rfl)];clear κ gI cj;go_enter func64,ntmps64;go_wp2_with (go_at_call 108;refine (fp _).mono ?_;rintro e w' ⟨rfl,rfl⟩)
  go_ret;exact ⟨Z,Φ⟩
 | true =>
  rw [κ] at fp;cases ab:cN f.high 1 40 with
  | false =>
   rw [ab] at gI;rw [aE.adv (by rw [κ,ab];rfl)];clear κ ab cj;go_enter func64,ntmps64;go_wp2_with fail
   refine (fp _).mono ?_;rintro e w' ⟨rfl,rfl⟩;go_wp2_with fail
   refine (gI _).mono ?_;rintro e w' ⟨rfl,rfl⟩;go_wp2_with fail
   go_ret;exact ⟨Z,Φ⟩
  | true =>
   rw [ab] at gI;have hw:=k6 κ;have fV:=k6 ab;have BE:0≤f.wide * f.high:=aVl (by omega) (by omega);have Iv:f.wide * f.high≤40 * 40:=aUu hw.2 fV.2 (by omega) (by omega);by_cases aw:(f.aW.length:Int)=f.wide * f.high
   ·have hc:=av4 A c f.aW _ (cj.keep Φ);have hd:((f.aW.length:Int)== f.wide * f.high)=true:=by simpa using aw
    have Ik:((f.aW.length:Int) != f.wide * f.high)=false:=by simpa using aw
    rw [aE.arb κ ab aw];clear κ ab aw cj;generalize f.aW.any aE.pZ=r at *
    generalize f.aW.length=n at *
    cases r with
    | true =>
     go_enter func64,ntmps64;go_wp2_with fail
     refine (fp _).mono ?_;rintro e w' ⟨rfl,rfl⟩;go_wp2_with fail
     refine (gI _).mono ?_;rintro e w' ⟨rfl,rfl⟩;go_wp2_with fail
     refine hc.mono ?_;rintro e w' ⟨rfl,bw⟩;go_wp2_with fail
     go_ret;exact ⟨Z,Φ.trans (bw.mono Φ.size)⟩
    | false =>
     go_enter func64,ntmps64;go_wp2_with fail
     refine (fp _).mono ?_;rintro e w' ⟨rfl,rfl⟩;go_wp2_with fail
     refine (gI _).mono ?_;rintro e w' ⟨rfl,rfl⟩;go_wp2_with fail
     refine hc.mono ?_;rintro e w' ⟨rfl,bw⟩;go_wp2_with fail
     go_ret;exact ⟨Z,Φ.trans (bw.mono Φ.size)⟩
   ·have hd:((f.aW.length:Int)== f.wide * f.high)=false:=by simpa using aw
    have Ik:((f.aW.length:Int) != f.wide * f.high)=true:=by simpa using aw
    rw [aE.arh κ ab aw];clear κ ab aw cj;generalize f.aW.length=n at *
    go_enter func64,ntmps64;go_wp2_with fail
    refine (fp _).mono ?_;rintro e w' ⟨rfl,rfl⟩;go_wp2_with fail
    refine (gI _).mono ?_;rintro e w' ⟨rfl,rfl⟩;go_wp2_with fail
    go_ret;exact ⟨Z,Φ⟩
theorem ajg (w:World):Calls prog 11 #[.int .i64 1] w λ e w'=>e= .returned (.tuple #[.agg #[.int .i64 10, .int .i64 1, .int .i64 1, .int .i64 5], .int .i64 0])∧Below w.heap.size w w':=by
 go_enter func11,ntmps11;go_wp2
 refine aVW (v:= .tuple #[.agg #[.int .i64 10, .int .i64 1, .int .i64 1, .int .i64 5], .int .i64 0]) (by simp [results,results11,go_sem]) Z ⟨Z,(aSr _ _).alloc (aR7 _) _⟩
theorem ajh (w:World):Calls prog 11 #[.int .i64 2] w λ e w'=>e= .returned (.tuple #[.agg #[.int .i64 20, .int .i64 2, .int .i64 4, .int .i64 12], .int .i64 0])∧Below w.heap.size w w':=by
 go_enter func11,ntmps11;go_wp2
 refine aVW (v:= .tuple #[.agg #[.int .i64 20, .int .i64 2, .int .i64 4, .int .i64 12], .int .i64 0]) (by simp [results,results11,go_sem]) Z ⟨Z,(aSr _ _).alloc (aR7 _) _⟩
theorem aji (k:Int) (w:World) (h:cN k 1 2=false):Calls prog 11 #[.int .i64 k] w λ e w'=>e= .returned (.tuple #[.agg #[.int .i64 0, .int .i64 0, .int .i64 0, .int .i64 0], .int .i64 1])∧Below w.heap.size w w':=by
 have c6:=ayw h;have κ:(k == 1)=false:=by simp;omega
 have ab:(k == 2)=false:=by simp;omega
 clear h c6;go_enter func11,ntmps11;go_wp2
 refine aVW (v:= .tuple #[.agg #[.int .i64 0, .int .i64 0, .int .i64 0, .int .i64 0], .int .i64 1]) (by simp [results,results11,go_sem]) Z ⟨Z,(aSr _ _).alloc (aR7 _) _⟩
open Tryz

theorem Ze {k k':IntKind} {a b a' rJ:Int} (κ:a=a') (ab:b=rJ):Ending.returned (.tuple #[.int k a, .int k' b])= .returned (.tuple #[.int k a', .int k' rJ]):=by rw [κ,ab]
def aaS (f:aE) (c:ax) (w:World) (e:Ending) (w':World):Prop:=e= .returned (.tuple #[.int .i64 (f.nG c), .int .i64 (f.dJ c)])∧Below w.heap.size w w'
theorem VU (f:aE) (p:ax) (A:Option Addr) (c:Nat) (w:World) (cj:bQ.aJ 8 w A c f.aW):
  Calls prog 143 #[.agg #[.int .i64 f.wide, .int .i64 f.high, .slice A f.aW.length c], .agg #[.int .i64 p.x, .int .i64 p.y]] w (aaS f p w):=by
 have hA:=aP.new w (ae.HW A c f) 24 (0,0);have Φ:=lN w (.cells (ae.HW A c f).toArray 24 (0,0));have bf:=aP.new (w.alloc (.cells (ae.HW A c f).toArray 24 (0,0))) p.cells 55 (0,0);have cP:=lN (w.alloc (.cells (ae.HW A c f).toArray 24 (0,0))) (.cells p.cells.toArray 55 (0,0));have kJ:=hA.later cP;have p7:=Φ.trans (cP.mono Φ.size);have hc:=afm f A c _ (cj.keep p7);have Lq:=cj.keep p7;obtain ⟨aT,pP⟩:∃ aT,Hid ((w.alloc (.cells (ae.HW A c f).toArray 24 (0,0))).alloc (.cells p.cells.toArray 55 (0,0))=aT):=⟨_,aRY rfl⟩;rw [pP.out] at kJ bf hc p7 Lq;rw [World.size_alloc] at bf;clear hA Φ cP cj;have iO:∀ K:World→Prop,K aT→K ((w.alloc (.cells #[.int .i64 f.wide, .int .i64 f.high, .slice A f.aW.length c] 24)).alloc (.cells #[.int .i64 p.x, .int .i64 p.y] 55)):=λ K h=>by
  have:=pP.out;rw [← this] at h;exact h
 by_cases aG:f.bm=0
 ·have qY:=aE.eE aG;obtain ⟨g1,g2,g3,g4,_,_⟩:=aE.jY aG;rw [aG] at hc;by_cases dp:0≤p.x∧p.x<f.wide∧0≤p.y∧p.y<f.high
  ·obtain ⟨i1,i2,i3,i4⟩:=dp;have hIn:=aE.ayF i1 i2 i3 i4;obtain ⟨aZ,bh⟩:=aE.m2 aG hIn;obtain ⟨fY,fb,_⟩:=aE.idx aG hIn;have N6:0≤p.y * f.wide:=aVl i3 (by omega);have N7:p.y * f.wide≤1600:=by omega
   obtain ⟨b,o,rfl,j1⟩:=Gw Lq (by omega);have hce:=j1 (p.y * f.wide+p.x).toNat (f.place p) (by
    unfold aE.place;rw [aRU,aRX (show (p.y * f.wide+p.x).toNat<f.aW.length by omega)];rfl)
   have aox:=aRY hce;have jL:=aRY (And.intro aZ bh);have tZ:=aRY kJ;have aN:=aRY bf;have d1:decide (p.x<0)=false:=by simpa using i1
   have d2:decide (p.y<0)=false:=by simpa using i3
   clear aG hIn aZ bh j1 hce Lq kJ bf;go_enter func143,ntmps143;go_wp2_with fail
   refine iO (λ W=>Calls _ _ _ W _) ?_;refine hc.mono ?_;rintro e cB ⟨rfl,bw⟩;obtain ⟨ni,lX,nj⟩:=ae.afd (tZ.out.later bw);obtain ⟨D8,r1⟩:=ax.fy (aN.out.later bw);have aKk:=cell_later bw aox.out;go_wp2_with fail
   go_ret2
   exact ⟨Ze jL.out.2.symm jL.out.1.symm,p7.trans (bw.mono p7.size)⟩
  ·have Ix:p.x<0∨f.wide≤p.x∨p.y<0∨f.high≤p.y:=by omega
   have jL:=aRY (aE.KE aG (aE.ayG Ix));have tZ:=aRY kJ;have aN:=aRY bf;clear aG Lq kJ bf dp;have aoH:=aRY Ix;clear Ix;go_enter func143,ntmps143;go_wp2_with fail
   refine iO (λ W=>Calls _ _ _ W _) ?_;refine hc.mono ?_;rintro e cB ⟨rfl,bw⟩;obtain ⟨ni,lX,nj⟩:=ae.afd (tZ.out.later bw);obtain ⟨D8,r1⟩:=ax.fy (aN.out.later bw);have key:decide (p.x<0)=true∨(decide (p.x<0)=false∧decide (f.wide≤p.x)=true)∨(decide (p.x<0)=false∧decide (f.wide≤p.x)=false∧decide (p.y<0)=true)∨(decide (p.x<0)=false∧decide (f.wide≤p.x)=false∧decide (p.y<0)=false∧decide (f.high≤p.y)=true):=by
    have:=aoH.out;by_cases dU:p.x<0
    ·simp [dU]
    by_cases ez:f.wide≤p.x
    ·simp [dU,ez]
    by_cases k7:p.y<0
    ·simp [dU,ez,k7]
    ·simp [dU,ez,k7];omega
   rcases key with h | ⟨h,ab⟩ | ⟨h,ab,aw⟩ | ⟨h,ab,aw,a6⟩
   all_goals
    go_wp2_with fail
    go_ret2
    exact ⟨Ze jL.out.2.symm jL.out.1.symm,p7.trans (bw.mono p7.size)⟩
 ·obtain ⟨aZ,bh⟩:=aE.Uv (c:=p) aG;have jL:=aRY (And.intro aZ bh);have fl:(f.bm == 0)=false:=by simpa using aG
  have aK4:(f.bm != 0)=true:=by simpa using aG
  clear aZ bh aG Lq kJ bf;generalize f.bm=k at *
  go_enter func143,ntmps143;go_wp2_with fail
  refine iO (λ W=>Calls _ _ _ W _) ?_;refine hc.mono ?_;rintro e cB ⟨rfl,bw⟩;go_wp2_with fail
  go_ret2
  exact ⟨Ze jL.out.2.symm jL.out.1.symm,p7.trans (bw.mono p7.size)⟩
theorem Li (f:aE) (p:ax) (A:Option Addr) (c:Nat) (w:World) (cj:bQ.aJ 8 w A c f.aW) (aG:f.bm=0):
  Calls prog 111 #[.agg #[.int .i64 f.wide, .int .i64 f.high, .slice A f.aW.length c], .agg #[.int .i64 p.x, .int .i64 p.y]] w λ e w'=>e= .returned (.bool (f.ground p))∧Below w.heap.size w w':=by
 have Φ:=lN w (.cells #[.int .i64 f.wide, .int .i64 f.high, .slice A f.aW.length c] 24);have cP:=lN (w.alloc (.cells #[.int .i64 f.wide, .int .i64 f.high, .slice A f.aW.length c] 24)) (.cells #[.int .i64 p.x, .int .i64 p.y] 55);have p7:=Φ.trans (cP.mono Φ.size);have hc:=VU f p A c _ (cj.keep p7);unfold aaS at hc;clear Φ cP cj;cases dp:f.fq p with
 | true =>
  obtain ⟨aZ,bh⟩:=aE.m2 aG dp;rw [aZ,bh] at hc;have aO:f.ground p=(f.place p != 1):=by unfold aE.ground;rw [dp];rfl
  rw [aO];clear aZ bh dp aO aG;generalize f.place p=v at *
  generalize f.aW.length=n at *
  cases hv:v != 1 with
  | true =>
   have DO:(v == 1)=false:=by simpa using hv
   go_enter func111,ntmps111;go_wp2_with fail
   refine hc.mono ?_;rintro e cB ⟨rfl,bw⟩;go_wp2_with fail
   go_ret;exact ⟨iu (by simp),p7.trans (bw.mono p7.size)⟩
  | false =>
   have DO:(v == 1)=true:=by simpa using hv
   go_enter func111,ntmps111;go_wp2_with fail
   refine hc.mono ?_;rintro e cB ⟨rfl,bw⟩;go_wp2_with fail
   go_ret;exact ⟨iu (by simp),p7.trans (bw.mono p7.size)⟩
 | false =>
  obtain ⟨aZ,bh⟩:=aE.KE aG dp;rw [aZ,bh] at hc;have aO:f.ground p=false:=by unfold aE.ground;rw [dp];rfl
  rw [aO];clear aZ bh dp aO aG;generalize f.aW.length=n at *
  go_enter func111,ntmps111;go_wp2_with fail
  refine hc.mono ?_;rintro e cB ⟨rfl,bw⟩;go_wp2_with fail
  go_ret;exact ⟨Z,p7.trans (bw.mono p7.size)⟩
open Tryz

def ax.is (p x:ax):Bool:=decide (x=p)
theorem ax.ayI {p x:ax} (h:ax.is p x=true):x=p:=by simpa [ax.is] using h
theorem ax.ayH {p x:ax} (h:ax.is p x=false):((p.x == x.x)=false)∨((p.x == x.x)=true∧(p.y == x.y)=false):=by
 have:¬ x=p:=by simpa [ax.is] using h
 obtain ⟨a,b⟩:=p;obtain ⟨c,d⟩:=x;simp at this ⊢;omega
theorem ayq (p:ax) (A:Option Addr) (c:Nat) (l:List ax) (w:World) (ay:ax.rep.aJ 16 w A c l):
  Calls prog 146 #[.slice A l.length c, .agg #[.int .i64 p.x, .int .i64 p.y]] w λ e w'=>e= .returned (.int .i64 (gx (ax.is p) l))∧Below w.heap.size w w':=by
 obtain ⟨n,hn⟩:∃ n,l.length=n:=⟨_,rfl⟩;have hle:n≤9223372036854775807:=by have:=ay.1;have:=ay.2.1;omega
 rw [hn];have cH:=lN w (.cells #[.int .i64 p.x, .int .i64 p.y] 55);have aN:=aRY (aP.new w p.cells 55 (0,0));have qL:=aRY (ay.keep cH);have ff:=aRY hn;clear ay hn;go_enter func146,ntmps146;go_wp2_with fail
 obtain ⟨w0,jN⟩:∃ w0,Hid (w0=w.alloc (.cells #[.int .i64 p.x, .int .i64 p.y] 55)):=⟨_,aRY rfl⟩;rw [← jN.out] at cH ⊢;have aN:Hid (aP w0 w.heap.size p.cells 55 (0,0)):=by rw [jN.out];exact aN
 have qL:Hid (ax.rep.aJ 16 w0 A c l):=by rw [jN.out];exact qL
 go_loopw [5,8] (λ _ hB wr=>∃ k m:Nat,k≤n∧hB= .int .i64 (k:Int)∧Hid (∀ j (az:j<k) (sb:j<l.length),(ax.is p) l[j]=false)∧Hid (wr=w0.drewN m)) (λ _ hB _=>n - (intOf hB).toNat)
 case atStart=>exact ⟨0,0,aSM _,rfl,(λ j az=>by omega),rfl⟩
 case round =>
  obtain ⟨k,m,ar,rfl,ie,CP⟩:=hrel;by_cases bz:k<n
  ·have jg:k<l.length:=by rw [ff.out];exact bz
   have afX:ax.rep.aJ 16 wr A c l:=by rw [CP.out];exact qL.out.drewN m
   have afQ:aP wr w.heap.size p.cells 55 (0,0):=by rw [CP.out];exact aN.out.drewN m
   have Du:Below w.heap.size w wr:=by rw [CP.out];exact below_drewN cH m
   obtain ⟨b,o,rfl,j1⟩:=ax.at_ afX (by omega);obtain ⟨x,oC⟩:∃ x,l[k]'jg=x:=⟨_,rfl⟩;obtain ⟨ni,lX⟩:=j1 k x (by rw [aRX jg,oC]);obtain ⟨D8,r1⟩:=ax.fy afQ;have xk:=aRY oC;have p':(k:Int)<(n:Int):=by omega
   have p9:(0:Int)≤(k:Int):=by omega
   clear j1 oC afX afQ;cases jZ:(ax.is p) x with
   | true =>
    have lB:gx (ax.is p) l=(k:Int):=F9 jg (by rw [xk.out];exact jZ) λ j az=>ie.out j az (by omega);have rA:=aRY lB;have ayb:=ax.ayI jZ;subst ayb;clear lB jZ;go_wp2_with fail
    go_quiet (fail)
    go_wp2_with fail
    go_ret;exact ⟨by rw [rA.out];rfl,below_drewN Du _⟩
   | false =>
    have pL:Hid (∀ j (az:j<k+1) (sb:j<l.length),(ax.is p) l[j]=false):=by
     intro j az sb;by_cases h:j<k
     ·exact ie.out j h sb
     ·obtain rfl:j=k:=by omega
      rw [xk.out];exact jZ
    have fl:=ax.ayH jZ;clear jZ;rcases fl with κ | ⟨κ,ab⟩
    all_goals
     go_wp2_with fail
     go_quiet (fail)
     go_wp2_with fail
     go_roundw
     case rel=>exact ⟨k+1,_,by omega,by go_num,pL,by show _=_;rw [CP.out];simp;rfl⟩
     case measure=>simp [intOf];omega
  ·have lB:gx (ax.is p) l= -1:=F8 λ j az=>ie.out j (by have:=ff.out;omega) az;have rA:=aRY lB;have ax9:=CP.out;subst ax9;clear lB;go_wp2_with fail
   go_ret;exact ⟨by rw [rA.out];rfl,below_drewN cH _⟩
theorem av2 (p:ax) (A:Option Addr) (c:Nat) (l:List ax) (w:World) (ay:ax.rep.aJ 16 w A c l):
  Calls prog 112 #[.slice A l.length c, .agg #[.int .i64 p.x, .int .i64 p.y]] w λ e w'=>e= .returned (.bool (l.contains p))∧Below w.heap.size w w':=by
 have cH:=lN w (.cells #[.int .i64 p.x, .int .i64 p.y] 55);have hc:=ayq p A c l _ (ay.keep cH);have p4:l.contains p=decide (0≤gx (ax.is p) l):=by
  rw [Mq,List.contains_eq_any_beq];congr 1
  funext x
  unfold ax.is;by_cases h:x=p
  ·simp [h]
  ·simp [h,aUF h]
 rw [p4];generalize gx (ax.is p) l=r at *
 generalize l.length=n at *
 clear ay p4;go_enter func112,ntmps112;go_wp2_with (go_at_call 146;refine hc.mono ?_;rintro e w' ⟨rfl,bw⟩)
 go_ret;exact ⟨Z,cH.trans (bw.mono cH.size)⟩
open Tryz
section
theorem bo.PT {w:World} {aD:Nat} {a:ae.b2} {W:ae} (h:bo w aD a W):
  (∀ x∈τ.ah a.M,x∉τ.ah a.P∧x∉τ.ah a.B∧x∉τ.ah a.S∧x∉τ.ah a.T)∧
  (∀ x∈τ.ah a.T,x∉τ.ah a.P∧x∉τ.ah a.B∧x∉τ.ah a.S∧x∉τ.ah a.M)∧
  (∀ x∈τ.ah a.S,x∉τ.ah a.P∧x∉τ.ah a.B∧x∉τ.ah a.M∧x∉τ.ah a.T):=by
 have hn:=h.apart;rw [aSN,aSN,aSN,aSN] at hn;obtain ⟨⟨⟨⟨_,_,B4⟩,_,ss⟩,_,qk⟩,_,su⟩:=hn;refine ⟨λ x hx=>⟨λ hp=> ?_,λ hp=> ?_,λ hp=> ?_,λ hp=> ?_⟩,λ x hx=>⟨λ hp=> ?_,λ hp=> ?_,λ hp=> ?_,λ hp=> ?_⟩,λ x hx=>⟨λ hp=> ?_,λ hp=> ?_,λ hp=> ?_,λ hp=> ?_⟩⟩
 ·exact qk x (by simp [hp]) x hx Z
 ·exact qk x (by simp [hp]) x hx Z
 ·exact qk x (by simp [hp]) x hx Z
 ·exact su x (by simp [hx]) x hp Z
 ·exact su x (by simp [hp]) x hx Z
 ·exact su x (by simp [hp]) x hx Z
 ·exact su x (by simp [hp]) x hx Z
 ·exact su x (by simp [hp]) x hx Z
 ·exact ss x (by simp [hp]) x hx Z
 ·exact ss x (by simp [hp]) x hx Z
 ·exact qk x (by simp [hx]) x hp Z
 ·exact su x (by simp [hx]) x hp Z
theorem vV {a:ae.b2} {g:Nat}:g∈bo.bS a↔g∈τ.ah a.P∨g∈τ.ah a.B∨g∈τ.ah a.S∨g∈τ.ah a.M∨g∈τ.ah a.T:=by
 unfold bo.bS;simp only [aSb];constructor
 ·rintro ((((h | h) | h) | h) | h)<;>simp [h]
 ·rintro (h | h | h | h | h)<;>simp [h]
namespace ae
def iR (k:Int):Int:=if k=1 then 5 else if k=2 then 12 else 0
end ae
theorem bo.mod {w aT:World} {aD:Nat} {a:ae.b2} {W:ae} {S:List Nat} (h:bo w aD a W) (m:Mod S w aT) (hd:∀ x∈bo.bS a,x∉S):bo aT aD a W :=
 ⟨h.P.mod m λ x hx=>hd x (vV.2 (.inl hx)),h.B.mod m λ x hx=>hd x (vV.2 (.inr (.inl hx))),h.S.mod m λ x hx=>hd x (vV.2 (.inr (.inr (.inl hx)))),h.M.mod m λ x hx=>hd x (vV.2 (.inr (.inr (.inr (.inl hx))))),h.T.mod m λ x hx=>hd x (vV.2 (.inr (.inr (.inr (.inr hx))))),h.apart,h.nums⟩
theorem rS {a:ae.b2} {q:Nat} (h:q∈τ.ah a.T):q∈bo.bS a:=vV.2 (.inr (.inr (.inr (.inr h))))
theorem FH {a:ae.b2} {q:Nat} (h:q∈τ.ah a.S):q∈bo.bS a:=vV.2 (.inr (.inr (.inl h)))
theorem H0 {a:ae.b2} {q:Nat} (h:q∈τ.ah a.M):q∈bo.bS a:=vV.2 (.inr (.inr (.inr (.inl h))))
theorem VW {a:ae.b2} {q:Nat} (h:q∈τ.ah a.B):q∈bo.bS a:=vV.2 (.inr (.inl h))
theorem VX {a:ae.b2} {q:Nat} (h:q∈τ.ah a.P):q∈bo.bS a:=vV.2 (.inl h)
theorem bo.alG {w aT:World} {aD:Nat} {a:ae.b2} {W:ae} {l:List Int} (h:bo w aD a W) (m:Mod (τ.ah a.S) w aT) (hS:bQ.aF 3 8 aT aD (τ.ah a.S) a.S a.s l):bo aT aD a {W with ba:=l}:=by
 obtain ⟨d1,d2,d3⟩:=h.PT;exact ⟨h.P.mod m λ x hx hs=>(d3 x hs).1 hx,h.B.mod m λ x hx hs=>(d3 x hs).2.1 hx,hS,h.M.mod m λ x hx hs=>(d3 x hs).2.2.1 hx,h.T.mod m λ x hx hs=>(d3 x hs).2.2.2 hx,h.apart,h.nums⟩
theorem bo.swapT {w aT:World} {aD:Nat} {a:ae.b2} {W:ae} {l:List aY} {A:Option Addr} {c:Nat} (h:bo w aD a W) (m:Mod (τ.ah a.T) w aT) (b6:aY.rep.aF 57 56 aT aD (τ.ah A) A c l) (I:∀ q∈τ.ah A,q∈τ.ah a.T∨w.heap.size≤q):
  bo aT aD {a with T:=A,t:=c} {W with ak:=l}:=by
 obtain ⟨d1,d2,d3⟩:=h.PT;refine ⟨h.P.mod m λ x hx hs=>(d2 x hs).1 hx,h.B.mod m λ x hx hs=>(d2 x hs).2.1 hx,h.S.mod m λ x hx hs=>(d2 x hs).2.2.1 hx,h.M.mod m λ x hx hs=>(d2 x hs).2.2.2 hx,b6, ?_,h.nums⟩;have hn:=h.apart;rw [aSN] at hn ⊢;refine ⟨hn.1,vG A,λ x hx y aI e=> ?_⟩;subst e;rcases I x aI with aI | aI
 ·exact hn.2.2 x hx x aI Z
 ·have hf:x∈bo.bS a:=by unfold bo.bS;rw [aSb];exact .inl hx
  have:=(h.lt x hf).2;omega
theorem bo.alF {w:World} {aD:Nat} {a:ae.b2} {W V:ae} (h:bo w aD a W) (κ:V.field.aW=W.field.aW) (ab:V.aV=W.aV) (aw:V.ba=W.ba) (a6:V.bk=W.bk) (bH:V.ak=W.ak) (hn:fQ V.field.wide∧fQ V.field.high∧fQ V.next∧fQ V.now):bo w aD a V :=
 ⟨by rw [κ];exact h.P,by rw [ab];exact h.B,by rw [aw];exact h.S,by rw [a6];exact h.M,by rw [bH];exact h.T,h.apart,hn⟩
theorem afp {w:World} {aD:Nat} {a:ae.b2} {W:ae} {A:Option Addr} {c q:Nat} (h:q∈bo.bS {a with T:=A,t:=c}):q∈bo.bS a∨q∈τ.ah A:=by
 rcases vV.1 h with h | h | h | h | h
 ·exact .inl (VX h)
 ·exact .inl (VW h)
 ·exact .inl (FH h)
 ·exact .inl (H0 h)
 ·exact .inr h
def D9 (k:Int):Int:=if k=1 then 1 else if k=2 then 2 else 0
def r4 (k:Int):Int:=if k=1 then 1 else if k=2 then 4 else 0
def BN (k:Int):Int:=if k=1 then 0 else if k=2 then 0 else 1
theorem MO (k:Int) (w:World):Calls prog 11 #[.int .i64 k] w λ e w'=>e= .returned (.tuple #[.agg #[.int .i64 (ae.jB k), .int .i64 (D9 k), .int .i64 (r4 k), .int .i64 (ae.iR k)], .int .i64 (BN k)])∧Ext w w':=by
 by_cases κ:k=1
 ·subst κ;exact ajg w
 ·by_cases ab:k=2
  ·subst ab;exact ajh w
  ·have:=aji k w (qc (by omega));simpa [ae.jB,D9,r4,ae.iR,BN,κ,ab] using this
theorem bo.down {w:World} {aD sY:Nat} {a:ae.b2} {W:ae} (h:bo w aD a W) (bC:sY≤aD):bo w sY a W:=⟨h.P.down bC,h.B.down bC,h.S.down bC,h.M.down bC,h.T.down bC,h.apart,h.nums⟩
def ae.zero:ae:=⟨⟨0,0, []⟩, [], [], [], [],0,0⟩
theorem bo.zero (w:World) (aD:Nat):bo w aD ⟨none,none,none,none,none,0,0,0,0,0⟩ ae.zero:=⟨τ.aF.nil w,τ.aF.nil w,τ.aF.nil w,τ.aF.nil w,τ.aF.nil w,by simp [τ.ah],bM.2 (by decide),bM.2 (by decide),bM.2 (by decide),bM.2 (by decide)⟩
theorem Uu {f:aE} {c:ax} (h:f.bm=0) (he:f.dJ c=0):f.fq c=true:=by
 cases aq:f.fq c with
 | true=>rfl
 | false=>rw [(aE.KE h aq).1] at he;omega
theorem s6 (f:aE) (p:ax) (A:Option Addr) (c:Nat) (w:World) (cj:bQ.aJ 8 w A c f.aW):
  Calls prog 143 #[.agg #[.int .i64 f.wide, .int .i64 f.high, .slice A f.aW.length c], .agg #[.int .i64 p.x, .int .i64 p.y]] w λ e w'=>e= .returned (.tuple #[.int .i64 (f.nG p), .int .i64 (f.dJ p)])∧Below w.heap.size w w':=VU f p A c w cj
theorem bo.YI {w:World} {aD:Nat} {P B S M T:Option Addr} {p b s m t:Nat} {W:ae} (cj:bQ.aF 3 8 w aD (τ.ah P) P p W.field.aW) (bf:ax.rep.aF 55 16 w aD (τ.ah B) B b W.aV) (hS:bQ.aF 3 8 w aD (τ.ah S) S s W.ba) (m6:bQ.aF 3 8 w aD (τ.ah M) M m W.bk) (b6:aY.rep.aF 57 56 w aD (τ.ah T) T t W.ak)
  (κ:∀ q∈τ.ah B,q∈τ.ah P→False) (ab:∀ q∈τ.ah S,q∈τ.ah P→False) (aw:∀ q∈τ.ah S,q∈τ.ah B→False) (a6:∀ q∈τ.ah M,q∈τ.ah P→False) (bH:∀ q∈τ.ah M,q∈τ.ah B→False) (ch:∀ q∈τ.ah M,q∈τ.ah S→False)
  (dZ:∀ q∈τ.ah T,q∈τ.ah P→False) (gh:∀ q∈τ.ah T,q∈τ.ah B→False) (zA:∀ q∈τ.ah T,q∈τ.ah S→False) (Qx:∀ q∈τ.ah T,q∈τ.ah M→False) (hn:fQ W.field.wide∧fQ W.field.high∧fQ W.next∧fQ W.now):
  bo w aD ⟨P,B,S,M,T,p,b,s,m,t⟩ W:=by
 refine ⟨cj,bf,hS,m6,b6, ?_,hn⟩;have aZ:=vG P;have bh:=vG B;have cF:=vG S;have jd:=vG M;have KV:=vG T;simp only [aSN,aSb]
 grind
theorem bo.aAs {w:World} {aD:Nat} {a:ae.b2} {W:ae} {A:Option Addr} {c:Nat} {p:List aY} (h:bo w aD a W) (b6:aY.rep.aF 57 56 w aD (τ.ah A) A c p) (κ:∀ q∈τ.ah A,q∈bo.bS a→False):bo w aD {a with T:=A,t:=c} {W with ak:=p}:=by
 refine ⟨h.P,h.B,h.S,h.M,b6, ?_,h.nums⟩;have hn:=h.apart;have aZ:=vG A;have f1:∀ q∈τ.ah A,(q∈τ.ah a.P→False)∧(q∈τ.ah a.B→False)∧(q∈τ.ah a.S→False)∧(q∈τ.ah a.M→False):=λ q I=>⟨λ h=>κ q I (VX h),λ h=>κ q I (VW h),λ h=>κ q I (FH h),λ h=>κ q I (H0 h)⟩;simp only [aSN,aSb] at hn ⊢
 grind
theorem auG {a:ae.b2} {A:Option Addr} {c q:Nat} (h:q∈bo.bS {a with T:=A,t:=c}):q∈bo.bS a∨q∈τ.ah A:=by
 rcases vV.1 h with h | h | h | h | h
 ·exact .inl (VX h)
 ·exact .inl (VW h)
 ·exact .inl (FH h)
 ·exact .inl (H0 h)
 ·exact .inr h
structure aHR (a:ae.b2):Prop where
 sX:∀ q∈τ.ah a.P,q∈τ.ah a.S→False
 aHP:∀ q∈τ.ah a.P,q∈τ.ah a.M→False
 aHO:∀ q∈τ.ah a.P,q∈τ.ah a.B→False
 aHQ:∀ q∈τ.ah a.P,q∈τ.ah a.T→False
 aHX:∀ q∈τ.ah a.S,q∈τ.ah a.M→False
 aHW:∀ q∈τ.ah a.S,q∈τ.ah a.B→False
 ST:∀ q∈τ.ah a.S,q∈τ.ah a.T→False
 aHJ:∀ q∈τ.ah a.M,q∈τ.ah a.B→False
 abL:∀ q∈τ.ah a.M,q∈τ.ah a.T→False
 aGP:∀ q∈τ.ah a.B,q∈τ.ah a.T→False
end
section
def qo (f:aE) (c:ax):Int:=if f.fq c then uv (f.place c) else 0
theorem adA {f:aE} {c:ax} (hf:f.bm=0) (hc:f.fq c=true):(vM (f.place c)== 0)=f.ground c∧(f.ground c=true→uv (f.place c)=f.gJ c):=by
 obtain ⟨_,_,_,_,_,g6⟩:=aE.jY hf;have hp:=g6 (f.place c) (by unfold aE.place;exact jC (aE.zf hf hc).1);unfold aE.ground;rw [hc];have:f.place c=0∨f.place c=1∨f.place c=2∨f.place c=3:=by omega
 unfold aE.gJ vM uv;rcases this with h | h | h | h<;>rw [h]<;>simp
theorem aBh {f:aE} {c:ax} (hf:f.bm=0) (h:¬ f.dJ c=0):qo f c=0∧f.ground c=false:=by
 have hc:f.fq c=false:=by
  cases hc:f.fq c with
  | false=>rfl
  | true=>exact absurd (aE.m2 hf hc).1 h
 unfold qo aE.ground;rw [hc];exact ⟨Z,Z⟩
theorem aBg {f:aE} {c:ax} (hf:f.bm=0) (h:f.dJ c=0):qo f c=uv (f.nG c)∧f.ground c=(vM (f.nG c)== 0):=by
 have hc:=Uu hf h;rw [(aE.m2 hf hc).2];unfold qo;rw [hc];exact ⟨Z,(adA hf hc).1.symm⟩
theorem akD {f:aE} {c:ax} (hf:f.bm=0) (h:f.ground c=true):qo f c=f.gJ c:=by
 have hc:=aE.ky h;unfold qo;rw [aR8 hc];exact (adA hf hc).2 h
theorem aui (p:Int) (w:World):
  Calls prog 171 #[.int .i64 p] w (λ e w'=>e= .returned (.tuple #[.int .i64 (uv p), .int .i64 (vM p)])∧Ext w w'):=by
 refine cl (n:=12) func171 Z Z Z ?_;refine aj<|va Z<|va Z<|ai<|aA<|aj<|vm Z<|ai<|bL<|aA<|aj<|J (beq Z Z)<|va Z<|ai<| ?_;refine ka Z (λ ow=> ?_) (λ ow=> ?_)
 ·have aLM:(p == 0)=true:=by simpa using ow
  refine bu<| ?_;refine ka Z (λ WE=> ?_) (λ WE=> ?_)
  ·have aLP:(p == 0)=true:=by simpa using WE
   refine aj<|va Z<|va Z<|ai<|rt<|e_<|bT<|bd (.tmp Z (.tmp Z .nil))<| ?_;exact ⟨by simp_all [uv,vM,uW],(Ext.bN w)⟩
  ·have aLQ:(p == 0)=false:=by simpa using WE
   refine aj<|J (beq Z Z)<|va Z<|ai<| ?_;refine ka Z (λ r0=> ?_) (λ r0=> ?_)
   ·have aLR:(p == 2)=true:=by simpa using r0
    refine aj<|va Z<|va Z<|ai<|rt<|e_<|bT<|bd (.tmp Z (.tmp Z .nil))<| ?_;exact ⟨by simp_all [uv,vM,uW],(Ext.bN w)⟩
   ·have aLS:(p == 2)=false:=by simpa using r0
    refine aj<|J (beq Z Z)<|va Z<|ai<| ?_;refine ka Z (λ mh=> ?_) (λ mh=> ?_)
    ·have aLF:(p == 1)=true:=by simpa using mh
     refine aj<|va Z<|va Z<|ai<|rt<|e_<|bT<|bd (.tmp Z (.tmp Z .nil))<| ?_;exact ⟨by simp_all [uv,vM,uW],(Ext.bN w)⟩
    ·have aLG:(p == 1)=false:=by simpa using mh
     refine fI<|bY<|aU<|aj<|va Z<|va Z<|ai<|rt<|bd (.tmp Z (.tmp Z .nil))<| ?_;exact ⟨by simp_all [uv,vM,uW],(Ext.bN w)⟩
 ·have aLH:(p == 0)=false:=by simpa using ow
  refine rg<|J (beq Z Z)<|va Z<|ai<| ?_;refine ka Z (λ WA=> ?_) (λ WA=> ?_)
  ·have aLI:(p == 3)=true:=by simpa using WA
   refine aj<|va Z<|va Z<|ai<|rt<|e_<|bT<|bd (.tmp Z (.tmp Z .nil))<| ?_;exact ⟨by simp_all [uv,vM,uW],(Ext.bN w)⟩
  ·have aLJ:(p == 3)=false:=by simpa using WA
   refine aj<|J (beq Z Z)<|va Z<|ai<| ?_;refine ka Z (λ p3=> ?_) (λ p3=> ?_)
   ·have aLK:(p == 2)=true:=by simpa using p3
    refine aj<|va Z<|va Z<|ai<|rt<|e_<|bT<|bd (.tmp Z (.tmp Z .nil))<| ?_;exact ⟨by simp_all [uv,vM,uW],(Ext.bN w)⟩
   ·have aLL:(p == 2)=false:=by simpa using p3
    refine aj<|J (beq Z Z)<|va Z<|ai<| ?_;refine ka Z (λ ox=> ?_) (λ ox=> ?_)
    ·have aLN:(p == 1)=true:=by simpa using ox
     refine aj<|va Z<|va Z<|ai<|rt<|e_<|bT<|bd (.tmp Z (.tmp Z .nil))<| ?_;exact ⟨by simp_all [uv,vM,uW],(Ext.bN w)⟩
    ·have aLO:(p == 1)=false:=by simpa using ox
     refine fI<|bY<|aU<|aj<|va Z<|va Z<|ai<|rt<|bd (.tmp Z (.tmp Z .nil))<| ?_;exact ⟨by simp_all [uv,vM,uW],(Ext.bN w)⟩
theorem sv (w0:World) (f:aE) (P F A:Option Addr) (cc fM c b:Nat) (a_:List Int) (l:List cb) (bq:ax) (p:ax) (w:World) (jh:Ext w0 w) (hf:f.bm=0) (cj:bQ.aJ 8 w0 P cc f.aW) (aN:aP w b [.int .i64 f.wide, .int .i64 f.high, .slice P f.aW.length cc, .int .i64 bq.x, .int .i64 bq.y, .slice F a_.length fM, .slice A l.length c] 249 (0,0)) (hp: -500≤p.x∧p.x≤500∧ -500≤p.y∧p.y≤500):
  Calls prog 139 #[.pointer (some ⟨b,0,none⟩), .agg #[.int .i64 p.x, .int .i64 p.y]] w (λ e w'=>e= .returned (.int .i64 (p.y * f.wide+p.x))∧Ext w w'):=by
 have yp:=aN.lt;obtain ⟨g1,g2,g3,g4,g5,g6⟩:=aE.jY hf;have ni:=jh.size;refine cl (n:=16) func139 Z Z Z ?_;refine aj<|cA Z Z Z Z λ cC bF a8 ef aa=> ?_;have:=a8.size;have bj:=γ jh a8;have ei:=aa.lt;refine va Z<|ai<|aA<| ?_;refine rd [(1,0),(6,0),(9,0)] [0,1,2,3,4,5,6,7,8,9,10,11] (by kernel_rfl) (by kernel_rfl) ?_;refine au Z (λ _=>av jf Z)<|bJ Z (λ _ x=>ao Z ((aa.later x).one bc Z))<|au Z (λ _=>aK Z)<|au Z (λ _=>b0 Z)<|au Z (λ _=>av aeN Z)<|au Z (λ _=>av Vv Z)<| ?_;have aN:=aN.later a8;refine bJ Z (λ _ x=>ao Z ((aN.later x).one bc Z))<|au Z (λ _=>C8 Z Z (bD ((by have:=aUu (show p.y≤500 by omega) g2 (by omega) (by omega);have:=aUu (show -p.y≤500 by omega) g2 (by omega) (by omega);rw [Int.neg_mul] at this;omega))))<|au Z (λ _=>av je Z)<|bJ Z (λ _ x=>ao Z ((aa.later x).one bc Z))<|au Z (λ _=>bad Z Z (bD ((by have:=aUu (show p.y≤500 by omega) g2 (by omega) (by omega);have:=aUu (show -p.y≤500 by omega) g2 (by omega) (by omega);rw [Int.neg_mul] at this;omega))))<|au Z (λ _=>fF Z)<|fn λ ew cz=> ?_;have:=cz.size;have bO:=γ bj cz;refine aU<|rt<|bd (.tmp Z .nil)<| ?_;exact ⟨Z,γ a8 cz⟩
theorem YU (w0:World) (f:aE) (P F A:Option Addr) (cc fM c b:Nat) (a_:List Int) (l:List cb) (bq:ax) (p:ax) (w:World) (jh:Ext w0 w) (hf:f.bm=0) (cj:bQ.aJ 8 w0 P cc f.aW) (aN:aP w b [.int .i64 f.wide, .int .i64 f.high, .slice P f.aW.length cc, .int .i64 bq.x, .int .i64 bq.y, .slice F a_.length fM, .slice A l.length c] 249 (0,0)):
  Calls prog 137 #[.pointer (some ⟨b,0,none⟩), .agg #[.int .i64 p.x, .int .i64 p.y]] w (λ e w'=>e= .returned (.tuple #[.int .i64 (qo f p), .bool (f.ground p)])∧Ext w w'):=by
 have yp:=aN.lt;obtain ⟨g1,g2,g3,g4,g5,g6⟩:=aE.jY hf;have ni:=jh.size;refine cl (n:=28) func137 Z Z Z ?_;refine aj<|cA Z Z Z Z λ cC bF a8 ef aa=> ?_;have:=a8.size;have bj:=γ jh a8;have ei:=aa.lt;refine va Z<|va Z<|ai<|aA<| ?_;refine rd [(3,0),(4,0),(5,0)] [0,1,2,3,4,5,6,7,8,9,10] (by kernel_rfl) (by kernel_rfl) ?_;refine au Z (λ _=>aK Z)<|au Z (λ _=>b0 Z)<|au Z (λ _=>av aeN Z)<| ?_;have aN:=aN.later a8;refine bJ Z (λ _ x=>ao Z ((aN.later x).par [.int .i64 f.wide, .int .i64 f.high, .slice P f.aW.length cc] l_ l' Z))<|bJ Z (λ _ x=>ao Z ((aa.later x).all cm bU))<|p2 Z Z rQ Z (λ _ x=>s6 f p _ _ _ (cj.keep (γ bj x))) Z<|au Z (λ _=>aK Z)<|au Z (λ _=>ex Z Z)<|au Z (λ _=>ex Z Z)<|au Z (λ _=>fF Z)<|au Z (λ _=>fF Z)<|fn λ ew cz=> ?_;have:=cz.size;have bO:=γ bj cz;refine aU<|aA<|aj<|vm Z<|J (bne Z Z)<|ai<| ?_;refine eV Z (λ jx=> ?_) (λ jx=> ?_)
 ·have Mb:=aBh hf jx;refine aj<|va Z<|va Z<|ai<|rt<|bT<|bd (.tmp Z (.tmp Z .nil))<| ?_;exact ⟨by rw [Mb.1,Mb.2];rfl,γ a8 cz⟩
 ·have Mb:=aBg hf jx;refine bu<|aj<|vm Z<|ca atO Z Z ((aui (f.nG p) _).mono ?_);rintro e Ai ⟨rfl,dv⟩;refine ⟨_,Z, ?_⟩;have:=dv.size;have kC:=γ bO dv;refine vm Z<|J (ex Z Z)<|J (ex Z Z)<|va Z<|va Z<|ai<|aj<|vm Z<|vm Z<|J (beq Z Z)<|va Z<|va Z<|ai<|rt<|bd (.tmp Z (.tmp Z .nil))<| ?_;exact ⟨by rw [Mb.1,Mb.2];rfl,γ (γ a8 cz) dv⟩
theorem akS (p:ax) (w:World) (hp: -100000≤p.x∧p.x≤100000∧ -100000≤p.y∧p.y≤100000):
  Calls prog 138 #[.agg #[.int .i64 p.x, .int .i64 p.y]] w (λ e w'=>e= .returned (.agg #[.int .i64 p.x, .int .i64 (p.y - 1), .int .i64 (p.x - 1), .int .i64 p.y, .int .i64 (p.x+1), .int .i64 p.y, .int .i64 p.x, .int .i64 (p.y+1)])∧Ext w w'):=by
 refine cl (n:=28) func138 Z Z Z ?_;refine aj<|cA Z Z Z Z λ cC bF a8 ef aa=> ?_;have:=a8.size;have bj:=γ (Ext.bN w) a8;have ei:=aa.lt;refine al Z atP Z Z λ ew cu bl il ag=> ?_;have:=bl.size;have bO:=γ bj bl;have hW:=ag.lt;refine ai<|aj<|J (av je Z)<| ?_;have aa:=aa.later bl;refine J (ao Z (aa.one bc Z))<|J (av jf Z)<|J (ao Z (aa.one bc Z))<|J (mJ Z Z (bD (by omega)))<|J (v:= .agg #[.int .i64 p.x, .int .i64 (p.y - 1)]) (cI Z (by kernel_rfl))<|J (av je Z)<|J (ao Z (aa.one bc Z))<|J (mJ Z Z (bD (by omega)))<|J (av jf Z)<|J (ao Z (aa.one bc Z))<|J (v:= .agg #[.int .i64 (p.x - 1), .int .i64 p.y]) (cI Z (by kernel_rfl))<|J (av je Z)<|J (ao Z (aa.one bc Z))<|J (bad Z Z (bD (by omega)))<|J (av jf Z)<|J (ao Z (aa.one bc Z))<|J (v:= .agg #[.int .i64 (p.x+1), .int .i64 p.y]) (cI Z (by kernel_rfl))<|J (av je Z)<|J (ao Z (aa.one bc Z))<|J (av jf Z)<|J (ao Z (aa.one bc Z))<|J (bad Z Z (bD (by omega)))<|J (v:= .agg #[.int .i64 p.x, .int .i64 (p.y+1)]) (cI Z (by kernel_rfl))<|J (v:= .agg #[.int .i64 p.x, .int .i64 (p.y - 1), .int .i64 (p.x - 1), .int .i64 p.y, .int .i64 (p.x+1), .int .i64 p.y, .int .i64 p.x, .int .i64 (p.y+1)]) (cI Z (by kernel_rfl))<| ?_;refine st (new:= [.int .i64 p.x, .int .i64 (p.y - 1), .int .i64 (p.x - 1), .int .i64 p.y, .int .i64 (p.x+1), .int .i64 p.y, .int .i64 p.x, .int .i64 (p.y+1)]) Z Z ag Z aeZ Z Z Z λ hX DY ag=> ?_;have:=DY.size;have cY:=Ext.mod bO DY bt;refine ai<|rt<|bd (.cell Z (ag.all atQ aeZ) .nil)<| ?_;exact ⟨Z,cY⟩
end
section
theorem rR {P:Program} {n:Nat} {ops:Array Oper} {Q:Exit→Act→World→Prop} {a7:Nat→Nat} {b1:List Nat} {E:List (Nat×Value)} {w0:World} {i d:Nat} {op:Op} {ty:TypeId} {pos:String} {af:Array Edge} {j:Nat} {q:Bool} {u:Value} {dg:Oper} {kb:Nat} (aq:ops[i]? =some ⟨some d,op,ty,pos,af,some (j,q)⟩) (ar:Nat.ble (a7 i) 1=true) (az:ops[j]? =some dg) (nM:dg.dst=some kb) (Φ:look E kb=some (ix false u)) (hd:Nat.blt d n=true)
  (h:kq P n ops Q a7 b1 ((d,undef)::E) w0):kq P n ops Q a7 (i::b1) E w0:=λ a ha=>by
 have κ:=ha.g _ _ Φ;simp only [ix,aSG,aTm] at κ;have hw:Region.wanted ⟨some d,op,ty,pos,af,some (j,q)⟩ (yielded ops a.tmps)=false:=by simp [Region.wanted,yielded,az,nM,κ,undef]
 have ar:=aTZ ar;rcases aSZ 0 (a7 i) with aG | aG
 ·exact ⟨_,aq, .inr (.inl ⟨by omega,undef, .inr ⟨hw,rfl⟩,h _ (ha.put hd _)⟩)⟩
 ·exact ⟨_,aq, .inl ⟨by omega,undef, .inr ⟨hw,rfl⟩,h _ (ha.put hd _)⟩⟩
end
section
theorem YX (w0:World) (f:aE) (P F A:Option Addr) (cc fM c b:Nat) (a_:List Int) (l:List cb) (bq:ax) (p:ax) (d:Int) (w:World) (jh:Ext w0 w) (hf:f.bm=0) (cj:bQ.aJ 8 w0 P cc f.aW) (aN:aP w b [.int .i64 f.wide, .int .i64 f.high, .slice P f.aW.length cc, .int .i64 bq.x, .int .i64 bq.y, .slice F a_.length fM, .slice A l.length c] 249 (0,0)) (Φ:w0.heap.size≤b) (ua:cb.rep.aF 304 32 w w0.heap.size (τ.ah A) A c l) (QW:∀ q∈τ.ah A,q=b→False) (eh:∀ y∈l,y.ok) (ay:l.length≤1000000) (hp: -500≤p.x∧p.x≤500∧ -500≤p.y∧p.y≤500) (aC: -500≤bq.x∧bq.x≤500∧ -500≤bq.y∧bq.y≤500) (hd:0≤d∧d≤100000):
  Calls prog 169 #[.pointer (some ⟨b,0,none⟩), .agg #[.int .i64 p.x, .int .i64 p.y], .int .i64 d] w (λ e w'=>∃ bK b5,e= .returned (.tuple #[])∧aP w' b [.int .i64 f.wide, .int .i64 f.high, .slice P f.aW.length cc, .int .i64 bq.x, .int .i64 bq.y, .slice F a_.length fM, .slice bK ((cr.push cb.all l ⟨p,d,d+aE.k4 bq p⟩).length) b5] 249 (0,0)∧cb.rep.aF 304 32 w' w0.heap.size (τ.ah bK) bK b5 (cr.push cb.all l ⟨p,d,d+aE.k4 bq p⟩)∧(∀ q∈τ.ah bK,q=b→False)∧(∀ q∈τ.ah bK,q∈τ.ah A∨w.heap.size≤q)∧Mod (b::τ.ah A) w w'):=by
 have yp:=aN.lt;obtain ⟨g1,g2,g3,g4,g5,g6⟩:=aE.jY hf;have ni:=jh.size;have aD4:=λ q I=>(ua.lt q I).2;have oA:=ua.has.eE;have zH:∀ q∈b::τ.ah A,w0.heap.size≤q:=λ q I=>(aSh.1 I).elim (λ h=>by omega) λ h=>(ua.lt q h).1;have aLh:=jF (bq.x - p.x);have aLi:=jF (bq.y - p.y);refine cl (n:=32) func169 Z Z Z ?_;refine aj<|cA Z Z Z Z λ cC bF a8 ef aa=> ?_;have:=a8.size;have bj:=(Mod.bN (b::τ.ah A) w).trans (Mod.bE a8);have ei:=aa.lt;refine ai<|aA<| ?_;refine rd [(0,0),(4,0),(5,0)] [0,1,2,3,4,5,6,7,8,9,10,11,12] (by kernel_rfl) (by kernel_rfl) ?_;refine bJ Z (λ _ x=>ao Z ((aa.later x).all cm bU))<|au Z (λ _=>aK Z)<|au Z (λ _=>b0 Z)<|au Z (λ _=>av ae0 Z)<| ?_;have aN:=aN.later a8;refine bJ Z (λ _ x=>ao Z ((aN.later x).par [.int .i64 bq.x, .int .i64 bq.y] cm bU Z))<|p2 Z Z ae1 Z (λ _ x=>acH p bq _ (by omega) (by omega)) Z<|au Z (λ _=>aK Z)<|au Z (λ _=>ex Z Z)<|au Z (λ _=>ex Z Z)<|au Z (λ _=>ex Z Z)<|au Z (λ _=>fF Z)<|au Z (λ _=>fF Z)<|au Z (λ _=>fF Z)<|fn λ ew cz=> ?_;have:=cz.size;have bO:=bj.trans (Mod.bE cz);refine aU<| ?_;refine rd [(4,0),(12,3)] [0,1,2,3,4,5,6,7,8,9,10,11,12] (by kernel_rfl) (by kernel_rfl) ?_;refine au Z (λ _=>aK Z)<|au Z (λ _=>b0 Z)<|au Z (λ _=>av FC Z)<|au Z (λ _=>RP (λ w=>by kernel_rfl) Z)<| ?_;have aa:=aa.later cz;refine bJ Z (λ _ x=>ao Z ((aa.later x).all cm bU))<|au Z (λ _=>aK Z)<|au Z (λ _=>aK Z)<|au Z (λ _=>aK Z)<|au Z (λ _=>C8 Z Z (bD (by omega)))<|au Z (λ _=>bad Z Z (bD (by omega)))<|rT (v:= .agg #[.int .i64 p.x, .int .i64 p.y, .int .i64 d, .int .i64 (d+(2 * (cn (bq.x - p.x)+cn (bq.y - p.y))))]) Z Z (λ _=>cI Z (by kernel_rfl)) Z<|au Z (λ _=>RP (λ w=>by kernel_rfl) Z)<| ?_;have ua:=ua.later (γ a8 cz);have aN:=aN.later cz;refine eK Z Z Z λ wP nt Q hK=>ca atS Z Z ((aFw b A c w0.heap.size l (.int .i64 f.wide) (.int .i64 f.high) (.slice P f.aW.length cc) (.int .i64 bq.x) (.int .i64 bq.y) (.slice F a_.length fM) ((⟨⟨p.x,p.y⟩,d,d+(2 * (cn (bq.x - p.x)+cn (bq.y - p.y)))⟩:cb)) _ (aN.later nt) (ua.later nt) eh QW ⟨bM.2 (by dsimp only;omega),bM.2 (by dsimp only;omega),bM.2 (by dsimp only;omega),bM.2 (by dsimp only;omega)⟩ ay (by have:=nt.size;omega)).mono ?_);rintro e hX ⟨anE,aqm,rfl,TT,OU,agL,Yo⟩;refine ⟨_,Z,hK _ _ ?_⟩;have:=nt.size;have kU:=bO.trans (Mod.bE nt);have:=Yo.size;have cY:=kU.md Yo (λ q I=> .inl I);have uZ:=λ q I=>(OU.lt q I).2;refine fn λ GH vn=> ?_;have:=vn.size;have sJ:=cY.trans (Mod.bE vn);refine ne<|bd .nil<| ?_;have OU:=OU.later vn;have TT:=TT.later vn;exact ⟨anE,aqm,Z,TT,OU,λ q I Φ=>by exfalso;(exact aR9 (agL q I) (λ aiB=>by (exact QW q aiB Φ)) (λ aiB=>by omega)),λ q I=>(agL q I).imp id λ h=>by omega,sJ⟩
end
end Go.Proofs.YtmeeljmapailnaaGreat
