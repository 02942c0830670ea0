import Derived.Test.YtlikikpgmmkjbaaGreatEqI
set_option linter.unusedVariables false
set_option linter.unusedSimpArgs false
set_option maxRecDepth 100000
set_option maxHeartbeats 4000000
open Go.RowKit
namespace Go.Proofs.YtlikikpgmmkjbaaGreat
open Tryz
open Tryz
abbrev aUl:=@Go.Lib.hid
abbrev aWa:=@Int.lt_or_le
abbrev aYj:=@Go.bodyPost_ret

def aE.pK (p:Int):Bool:= !aE.Sq p
theorem aqb {p:Int}:(p<0→aE.pK p=true)∧(4≤p→aE.pK p=true)∧(0≤p→p<4→aE.pK p=false):=by
 unfold aE.pK aE.Sq;refine ⟨λ h=>by rw [p4 (.inl h)];rfl,λ h=>by rw [p4 (.inr (by omega))];rfl,λ γ aa=>by rw [o6 γ (by omega)];rfl⟩
theorem au0 (p:Int) (w:World):Calls prog 124 #[.int .i64 p] w λ e w'=>e= .returned (.bool (aE.pK p))∧Below w.heap.size w w':=by
 obtain ⟨hX,dW,gd⟩:=aqb (p:=p);rcases aWa p 0 with h | h
 ·have Φ:=hX h;have hd:decide (p<0)=true:=by simpa using h
  rw [Φ];clear hX dW gd Φ;go_enter func124,ntmps124;go_wp2
  go_ret;exact ⟨Z,aUN _ _⟩
 ·rcases aWa p 4 with aV | aV
  ·have Φ:=gd h aV;have hd:decide (p<0)=false:=by simpa using h
   rw [Φ];clear hX dW gd Φ;go_enter func124,ntmps124;go_wp2
   go_ret;exact ⟨ib (by simp<;>omega),aUN _ _⟩
  ·have Φ:=dW aV;have hd:decide (p<0)=false:=by simpa using h
   rw [Φ];clear hX dW gd Φ;go_enter func124,ntmps124;go_wp2
   go_ret;exact ⟨ib (by simp<;>omega),aUN _ _⟩
theorem azA  (A:Option Addr) (c:Nat) (l:List Int) (w:World) (aB:bS.aK 8 w A c l):
  Calls prog 157 #[.slice A l.length c, .func (.func 124) #[] #[]] w λ e w'=>e= .returned (.int .i64 (gA (aE.pK) l))∧Below w.heap.size w w':=by
 obtain ⟨n,hn⟩:∃ n,l.length=n:=⟨_,rfl⟩;have hle:n≤9223372036854775807:=by have:=aB.1;have:=aB.2.1;omega
 rw [hn];have qy:=aUl aB;have fk:=aUl hn;clear aB hn;go_enter func157,ntmps157;go_wp2_with fail
 go_loopw [5,8] (λ _ hG wr=>∃ k:Nat,k≤n∧hG= .int .i64 (k:Int)∧Hid (∀ j (aA:j<k) (o2:j<l.length),(aE.pK) l[j]=false)∧Below w.heap.size w wr) (λ _ hG _=>n - (intOf hG).toNat)
 case atStart=>exact ⟨0,aU6 _,rfl,(λ j aA=>by omega),aUN _ _⟩
 case round =>
  obtain ⟨k,aw,rfl,h4,Φ⟩:=hrel;by_cases bE:k<n
  ·have jf:k<l.length:=by rw [fk.out];exact bE
   obtain ⟨b,o,rfl,jI⟩:=Gu (qy.out.keep Φ) (by omega);obtain ⟨x,r_⟩:∃ x,l[k]'jf=x:=⟨_,rfl⟩;have nb:=jI k x (by rw [aUk jf,r_]);have xe:=aUl r_

   have hc:=au0 x wr;clear jI r_;cases jG:(aE.pK) x with
   | true =>
    have lf:gA (aE.pK) l=(k:Int):=F0 jf (by rw [xe.out];exact jG) λ j aA=>h4.out j aA (by omega);rw [jG] at hc;have rr:=aUl lf;clear lf jG;go_wp2_with (go_at_call 124;refine hc.mono ?_;rintro e w' ⟨rfl,bz⟩)
    go_ret;exact ⟨by rw [rr.out];rfl,Φ.trans (bz.mono Φ.size)⟩
   | false =>
    rw [jG] at hc;have pq:Hid (∀ j (aA:j<k+1) (o2:j<l.length),(aE.pK) l[j]=false):=by
     intro j aA o2;by_cases h:j<k
     ·exact h4.out j h o2
     ·obtain rfl:j=k:=by omega
      rw [xe.out];exact jG
    clear jG;go_wp2_with (go_at_call 124;refine hc.mono ?_;rintro e w' ⟨rfl,bz⟩)
    go_roundw
    case rel=>exact ⟨k+1,by omega,by go_num,pq,Φ.trans (bz.mono Φ.size)⟩
    case measure=>simp [intOf];omega
  ·have lf:gA (aE.pK) l= -1:=FZ λ j aA=>h4.out j (by have:=fk.out;omega) aA;have rr:=aUl lf;clear lf;go_wp2_with fail
   go_ret;exact ⟨by rw [rr.out];rfl,Φ⟩
theorem awP  (A:Option Addr) (c:Nat) (l:List Int) (w:World) (aB:bS.aK 8 w A c l):
  Calls prog 123 #[.slice A l.length c, .func (.func 124) #[] #[]] w λ e w'=>e= .returned (.bool (l.any (aE.pK)))∧Below w.heap.size w w':=by
 have hc:=azA  A c l w aB ;rw [← MB];generalize gA (aE.pK) l=r at *
 generalize l.length=n at *
 clear aB ;go_enter func123,ntmps123;go_wp2_with (go_at_call 157;refine hc.mono ?_;rintro e w' ⟨rfl,bz⟩)
 go_ret;exact ⟨Z,bz⟩
theorem Ty (n lo aq:Int) (w:World):Calls prog 127 #[.int .i64 n, .int .i64 lo, .int .i64 aq] w λ e w'=>e= .returned (.bool (cR n lo aq))∧w=w':=by
 rcases aWa n lo with h | h
 ·rw [p4 (.inl h)];go_enter func127,ntmps127;go_wp2
  go_ret;exact ⟨Z,Z⟩
 ·rcases aWa aq n with aV | aV
  ·rw [p4 (.inr aV)];go_enter func127,ntmps127;go_wp2
   go_ret;exact ⟨ib (by simp<;>omega),Z⟩
  ·rw [o6 h aV];go_enter func127,ntmps127;go_wp2
   go_ret;exact ⟨ib (by simp<;>omega),Z⟩
theorem alM (n:Int) (w:World):Calls prog 122 #[.int .i64 n] w λ e w'=>e= .returned (.bool (cR n 1 40))∧w=w':=by
 rcases aWa n 1 with h | h
 ·rw [p4 (.inl h)];go_enter func122,ntmps122;go_wp2
  go_ret;exact ⟨Z,Z⟩
 ·rcases aWa 40 n with aV | aV
  ·rw [p4 (.inr aV)];go_enter func122,ntmps122;go_wp2
   go_ret;exact ⟨ib (by simp<;>omega),Z⟩
  ·rw [o6 h aV];go_enter func122,ntmps122;go_wp2
   go_ret;exact ⟨ib (by simp<;>omega),Z⟩
open Tryz

theorem aE.ars {f:aE} (γ:cR f.wide 1 40=true) (aa:cR f.high 1 40=true) (av:¬ (f.aY.length:Int)=f.wide * f.high):f.bq=4:=by
 unfold aE.bq;rw [γ,aa,aUU av];rfl
theorem aE.arn {f:aE} (γ:cR f.wide 1 40=true) (aa:cR f.high 1 40=true) (av:(f.aY.length:Int)=f.wide * f.high):f.bq=if f.aY.any aE.pK then 4 else 0:=by
 unfold aE.bq;rw [γ,aa,aUL av];have:f.aY.all aE.Sq= !f.aY.any aE.pK:=by
  rw [List.all_eq_not_any_not];rfl
 rw [this];cases f.aY.any aE.pK<;>rfl
theorem afT (f:aE) (A:Option Addr) (c:Nat) (w:World) (cn:bS.aK 8 w A c f.aY):
  Calls prog 88 #[.agg #[.int .i64 f.wide, .int .i64 f.high, .slice A f.aY.length c]] w λ e w'=>e= .returned (.int .i64 f.bq)∧Below w.heap.size w w':=by
 have Φ:=lA w (.cells #[.int .i64 f.wide, .int .i64 f.high, .slice A f.aY.length c] 24);have fg:=alM f.wide;have gI:=alM f.high;have hle:f.aY.length≤9223372036854775807:=by have:=cn.1;have:=cn.2.1;omega
 cases γ:cR f.wide 1 40 with
 | false =>
  rw [γ] at fg;rw [aE.adX (by rw [γ];rfl)];clear γ gI cn;go_enter func88,ntmps88;go_wp2_with (go_at_call 122;refine (fg _).mono ?_;rintro e w' ⟨rfl,rfl⟩)
  go_ret;exact ⟨Z,Φ⟩
 | true =>
  rw [γ] at fg;cases aa:cR f.high 1 40 with
  | false =>
   rw [aa] at gI;rw [aE.adX (by rw [γ,aa];rfl)];clear γ aa cn;go_enter func88,ntmps88;go_wp2_with fail
   refine (fg _).mono ?_;rintro e w' ⟨rfl,rfl⟩;go_wp2_with fail
   refine (gI _).mono ?_;rintro e w' ⟨rfl,rfl⟩;go_wp2_with fail
   go_ret;exact ⟨Z,Φ⟩
  | true =>
   rw [aa] at gI;have hw:=kR γ;have fp:=kR aa;have FQ:0≤f.wide * f.high:=aXN (by omega) (by omega);have Dv:f.wide * f.high≤40 * 40:=aWU hw.2 fp.2 (by omega) (by omega);by_cases av:(f.aY.length:Int)=f.wide * f.high
   ·have hc:=awP A c f.aY _ (cn.keep Φ);have hd:((f.aY.length:Int)== f.wide * f.high)=true:=by simpa using av
    have Iu:((f.aY.length:Int) != f.wide * f.high)=false:=by simpa using av
    rw [aE.arn γ aa av];clear γ aa av cn;generalize f.aY.any aE.pK=r at *
    generalize f.aY.length=n at *
    cases r with
    | true =>
     go_enter func88,ntmps88;go_wp2_with fail
     refine (fg _).mono ?_;rintro e w' ⟨rfl,rfl⟩;go_wp2_with fail
     refine (gI _).mono ?_;rintro e w' ⟨rfl,rfl⟩;go_wp2_with fail
     refine hc.mono ?_;rintro e w' ⟨rfl,bz⟩;go_wp2_with fail
     go_ret;exact ⟨Z,Φ.trans (bz.mono Φ.size)⟩
    | false =>
     go_enter func88,ntmps88;go_wp2_with fail
     refine (fg _).mono ?_;rintro e w' ⟨rfl,rfl⟩;go_wp2_with fail
     refine (gI _).mono ?_;rintro e w' ⟨rfl,rfl⟩;go_wp2_with fail
     refine hc.mono ?_;rintro e w' ⟨rfl,bz⟩;go_wp2_with fail
     go_ret;exact ⟨Z,Φ.trans (bz.mono Φ.size)⟩
   ·have hd:((f.aY.length:Int)== f.wide * f.high)=false:=by simpa using av
    have Iu:((f.aY.length:Int) != f.wide * f.high)=true:=by simpa using av
    rw [aE.ars γ aa av];clear γ aa av cn;generalize f.aY.length=n at *
    go_enter func88,ntmps88;go_wp2_with fail
    refine (fg _).mono ?_;rintro e w' ⟨rfl,rfl⟩;go_wp2_with fail
    refine (gI _).mono ?_;rintro e w' ⟨rfl,rfl⟩;go_wp2_with fail
    go_ret;exact ⟨Z,Φ⟩
theorem ajx (w:World):Calls prog 128 #[.int .i64 1] w λ e w'=>e= .returned (.tuple #[.agg #[.int .i64 10, .int .i64 1, .int .i64 1, .int .i64 5], .int .i64 0])∧Below w.heap.size w w':=by
 go_enter func128,ntmps128;go_wp2
 refine aYj (v:= .tuple #[.agg #[.int .i64 10, .int .i64 1, .int .i64 1, .int .i64 5], .int .i64 0]) (by simp [results,results128,go_sem]) Z ⟨Z,(aUN _ _).alloc (aUu _) _⟩
theorem ajy (w:World):Calls prog 128 #[.int .i64 2] w λ e w'=>e= .returned (.tuple #[.agg #[.int .i64 20, .int .i64 2, .int .i64 4, .int .i64 12], .int .i64 0])∧Below w.heap.size w w':=by
 go_enter func128,ntmps128;go_wp2
 refine aYj (v:= .tuple #[.agg #[.int .i64 20, .int .i64 2, .int .i64 4, .int .i64 12], .int .i64 0]) (by simp [results,results128,go_sem]) Z ⟨Z,(aUN _ _).alloc (aUu _) _⟩
theorem ajz (k:Int) (w:World) (h:cR k 1 2=false):Calls prog 128 #[.int .i64 k] w λ e w'=>e= .returned (.tuple #[.agg #[.int .i64 0, .int .i64 0, .int .i64 0, .int .i64 0], .int .i64 1])∧Below w.heap.size w w':=by
 have dk:=azE h;have γ:(k == 1)=false:=by simp;omega
 have aa:(k == 2)=false:=by simp;omega
 clear h dk;go_enter func128,ntmps128;go_wp2
 refine aYj (v:= .tuple #[.agg #[.int .i64 0, .int .i64 0, .int .i64 0, .int .i64 0], .int .i64 1]) (by simp [results,results128,go_sem]) Z ⟨Z,(aUN _ _).alloc (aUu _) _⟩
open Tryz

theorem Zz {k k':IntKind} {a b a' rH:Int} (γ:a=a') (aa:b=rH):Ending.returned (.tuple #[.int k a, .int k' b])= .returned (.tuple #[.int k a', .int k' rH]):=by rw [γ,aa]
def abh (f:aE) (c:ay) (w:World) (e:Ending) (w':World):Prop:=e= .returned (.tuple #[.int .i64 (f.ny c), .int .i64 (f.dU c)])∧Below w.heap.size w w'
theorem Wl (f:aE) (p:ay) (A:Option Addr) (c:Nat) (w:World) (cn:bS.aK 8 w A c f.aY):
  Calls prog 158 #[.agg #[.int .i64 f.wide, .int .i64 f.high, .slice A f.aY.length c], .agg #[.int .i64 p.x, .int .i64 p.y]] w (abh f p w):=by
 have hA:=aN.new w (aj.H3 A c f) 24 (0,0);have Φ:=lA w (.cells (aj.H3 A c f).toArray 24 (0,0));have ba:=aN.new (w.alloc (.cells (aj.H3 A c f).toArray 24 (0,0))) p.cells 49 (0,0);have cV:=lA (w.alloc (.cells (aj.H3 A c f).toArray 24 (0,0))) (.cells p.cells.toArray 49 (0,0));have kn:=hA.later cV;have nE:=Φ.trans (cV.mono Φ.size);have hc:=afT f A c _ (cn.keep nE);have LJ:=cn.keep nE;obtain ⟨aP,pz⟩:∃ aP,Hid ((w.alloc (.cells (aj.H3 A c f).toArray 24 (0,0))).alloc (.cells p.cells.toArray 49 (0,0))=aP):=⟨_,aUl rfl⟩;rw [pz.out] at kn ba hc nE LJ;rw [World.size_alloc] at ba;clear hA Φ cV cn;have hh:∀ K:World→Prop,K aP→K ((w.alloc (.cells #[.int .i64 f.wide, .int .i64 f.high, .slice A f.aY.length c] 24)).alloc (.cells #[.int .i64 p.x, .int .i64 p.y] 49)):=λ K h=>by
  have:=pz.out;rw [← this] at h;exact h
 by_cases aI:f.bq=0
 ·have qP:=aE.dT aI;obtain ⟨g1,g2,g3,g4,_,_⟩:=aE.km aI;rw [aI] at hc;by_cases dJ:0≤p.x∧p.x<f.wide∧0≤p.y∧p.y<f.high
  ·obtain ⟨i1,i2,i3,i4⟩:=dJ;have hIn:=aE.azM i1 i2 i3 i4;obtain ⟨a8,bl⟩:=aE.mO aI hIn;obtain ⟨eH,e3,_⟩:=aE.idx aI hIn;have vk:0≤p.y * f.wide:=aXN i3 (by omega);have Ow:p.y * f.wide≤1600:=by omega
   obtain ⟨b,o,rfl,jI⟩:=Gu LJ (by omega);have hce:=jI (p.y * f.wide+p.x).toNat (f.place p) (by
    unfold aE.place;rw [aUi,aUk (show (p.y * f.wide+p.x).toNat<f.aY.length by omega)];rfl)
   have aox:=aUl hce;have jv:=aUl (And.intro a8 bl);have tY:=aUl kn;have aJ:=aUl ba;have d1:decide (p.x<0)=false:=by simpa using i1
   have d2:decide (p.y<0)=false:=by simpa using i3
   clear aI hIn a8 bl jI hce LJ kn ba;go_enter func158,ntmps158;go_wp2_with fail
   refine hh (λ W=>Calls _ _ _ W _) ?_;refine hc.mono ?_;rintro e cE ⟨rfl,bz⟩;obtain ⟨nb,lM,nQ⟩:=aj.afL (tY.out.later bz);obtain ⟨D3,r1⟩:=ay.fB (aJ.out.later bz);have aLH:=cell_later bz aox.out;go_wp2_with fail
   go_ret2
   exact ⟨Zz jv.out.2.symm jv.out.1.symm,nE.trans (bz.mono nE.size)⟩
  ·have IF:p.x<0∨f.wide≤p.x∨p.y<0∨f.high≤p.y:=by omega
   have jv:=aUl (aE.KX aI (aE.azN IF));have tY:=aUl kn;have aJ:=aUl ba;clear aI LJ kn ba dJ;have aoI:=aUl IF;clear IF;go_enter func158,ntmps158;go_wp2_with fail
   refine hh (λ W=>Calls _ _ _ W _) ?_;refine hc.mono ?_;rintro e cE ⟨rfl,bz⟩;obtain ⟨nb,lM,nQ⟩:=aj.afL (tY.out.later bz);obtain ⟨D3,r1⟩:=ay.fB (aJ.out.later bz);have key:decide (p.x<0)=true∨(decide (p.x<0)=false∧decide (f.wide≤p.x)=true)∨(decide (p.x<0)=false∧decide (f.wide≤p.x)=false∧decide (p.y<0)=true)∨(decide (p.x<0)=false∧decide (f.wide≤p.x)=false∧decide (p.y<0)=false∧decide (f.high≤p.y)=true):=by
    have:=aoI.out;by_cases dF:p.x<0
    ·simp [dF]
    by_cases dt:f.wide≤p.x
    ·simp [dF,dt]
    by_cases jj:p.y<0
    ·simp [dF,dt,jj]
    ·simp [dF,dt,jj];omega
   rcases key with h | ⟨h,aa⟩ | ⟨h,aa,av⟩ | ⟨h,aa,av,aV⟩
   all_goals
    go_wp2_with fail
    go_ret2
    exact ⟨Zz jv.out.2.symm jv.out.1.symm,nE.trans (bz.mono nE.size)⟩
 ·obtain ⟨a8,bl⟩:=aE.UX (c:=p) aI;have jv:=aUl (And.intro a8 bl);have dY:(f.bq == 0)=false:=by simpa using aI
  have aMv:(f.bq != 0)=true:=by simpa using aI
  clear a8 bl aI LJ kn ba;generalize f.bq=k at *
  go_enter func158,ntmps158;go_wp2_with fail
  refine hh (λ W=>Calls _ _ _ W _) ?_;refine hc.mono ?_;rintro e cE ⟨rfl,bz⟩;go_wp2_with fail
  go_ret2
  exact ⟨Zz jv.out.2.symm jv.out.1.symm,nE.trans (bz.mono nE.size)⟩
theorem LA (f:aE) (p:ay) (A:Option Addr) (c:Nat) (w:World) (cn:bS.aK 8 w A c f.aY) (aI:f.bq=0):
  Calls prog 125 #[.agg #[.int .i64 f.wide, .int .i64 f.high, .slice A f.aY.length c], .agg #[.int .i64 p.x, .int .i64 p.y]] w λ e w'=>e= .returned (.bool (f.ground p))∧Below w.heap.size w w':=by
 have Φ:=lA w (.cells #[.int .i64 f.wide, .int .i64 f.high, .slice A f.aY.length c] 24);have cV:=lA (w.alloc (.cells #[.int .i64 f.wide, .int .i64 f.high, .slice A f.aY.length c] 24)) (.cells #[.int .i64 p.x, .int .i64 p.y] 49);have nE:=Φ.trans (cV.mono Φ.size);have hc:=Wl f p A c _ (cn.keep nE);unfold abh at hc;clear Φ cV cn;cases dJ:f.fr p with
 | true =>
  obtain ⟨a8,bl⟩:=aE.mO aI dJ;rw [a8,bl] at hc;have aS:f.ground p=(f.place p != 1):=by unfold aE.ground;rw [dJ];rfl
  rw [aS];clear a8 bl dJ aS aI;generalize f.place p=v at *
  generalize f.aY.length=n at *
  cases hv:v != 1 with
  | true =>
   have DD:(v == 1)=false:=by simpa using hv
   go_enter func125,ntmps125;go_wp2_with fail
   refine hc.mono ?_;rintro e cE ⟨rfl,bz⟩;go_wp2_with fail
   go_ret;exact ⟨ib (by simp),nE.trans (bz.mono nE.size)⟩
  | false =>
   have DD:(v == 1)=true:=by simpa using hv
   go_enter func125,ntmps125;go_wp2_with fail
   refine hc.mono ?_;rintro e cE ⟨rfl,bz⟩;go_wp2_with fail
   go_ret;exact ⟨ib (by simp),nE.trans (bz.mono nE.size)⟩
 | false =>
  obtain ⟨a8,bl⟩:=aE.KX aI dJ;rw [a8,bl] at hc;have aS:f.ground p=false:=by unfold aE.ground;rw [dJ];rfl
  rw [aS];clear a8 bl dJ aS aI;generalize f.aY.length=n at *
  go_enter func125,ntmps125;go_wp2_with fail
  refine hc.mono ?_;rintro e cE ⟨rfl,bz⟩;go_wp2_with fail
  go_ret;exact ⟨Z,nE.trans (bz.mono nE.size)⟩
open Tryz

def ay.is (p x:ay):Bool:=decide (x=p)
theorem ay.azP {p x:ay} (h:ay.is p x=true):x=p:=by simpa [ay.is] using h
theorem ay.azO {p x:ay} (h:ay.is p x=false):((p.x == x.x)=false)∨((p.x == x.x)=true∧(p.y == x.y)=false):=by
 have:¬ x=p:=by simpa [ay.is] using h
 obtain ⟨a,b⟩:=p;obtain ⟨c,d⟩:=x;simp at this ⊢;omega
theorem azy (p:ay) (A:Option Addr) (c:Nat) (l:List ay) (w:World) (aB:ay.rep.aK 16 w A c l):
  Calls prog 159 #[.slice A l.length c, .agg #[.int .i64 p.x, .int .i64 p.y]] w λ e w'=>e= .returned (.int .i64 (gA (ay.is p) l))∧Below w.heap.size w w':=by
 obtain ⟨n,hn⟩:∃ n,l.length=n:=⟨_,rfl⟩;have hle:n≤9223372036854775807:=by have:=aB.1;have:=aB.2.1;omega
 rw [hn];have cK:=lA w (.cells #[.int .i64 p.x, .int .i64 p.y] 49);have aJ:=aUl (aN.new w p.cells 49 (0,0));have qy:=aUl (aB.keep cK);have fk:=aUl hn;clear aB hn;go_enter func159,ntmps159;go_wp2_with fail
 obtain ⟨w0,jx⟩:∃ w0,Hid (w0=w.alloc (.cells #[.int .i64 p.x, .int .i64 p.y] 49)):=⟨_,aUl rfl⟩;rw [← jx.out] at cK ⊢;have aJ:Hid (aN w0 w.heap.size p.cells 49 (0,0)):=by rw [jx.out];exact aJ
 have qy:Hid (ay.rep.aK 16 w0 A c l):=by rw [jx.out];exact qy
 go_loopw [5,8] (λ _ hG wr=>∃ k m:Nat,k≤n∧hG= .int .i64 (k:Int)∧Hid (∀ j (aA:j<k) (o2:j<l.length),(ay.is p) l[j]=false)∧Hid (wr=w0.drewN m)) (λ _ hG _=>n - (intOf hG).toNat)
 case atStart=>exact ⟨0,0,aU6 _,rfl,(λ j aA=>by omega),rfl⟩
 case round =>
  obtain ⟨k,m,aw,rfl,h4,Cv⟩:=hrel;by_cases bE:k<n
  ·have jf:k<l.length:=by rw [fk.out];exact bE
   have agy:ay.rep.aK 16 wr A c l:=by rw [Cv.out];exact qy.out.drewN m
   have agq:aN wr w.heap.size p.cells 49 (0,0):=by rw [Cv.out];exact aJ.out.drewN m
   have Df:Below w.heap.size w wr:=by rw [Cv.out];exact below_drewN cK m
   obtain ⟨b,o,rfl,jI⟩:=ay.at_ agy (by omega);obtain ⟨x,r_⟩:∃ x,l[k]'jf=x:=⟨_,rfl⟩;obtain ⟨nb,lM⟩:=jI k x (by rw [aUk jf,r_]);obtain ⟨D3,r1⟩:=ay.fB agq;have xe:=aUl r_;have p1:(k:Int)<(n:Int):=by omega
   have pZ:(0:Int)≤(k:Int):=by omega
   clear jI r_ agy agq;cases jG:(ay.is p) x with
   | true =>
    have lf:gA (ay.is p) l=(k:Int):=F0 jf (by rw [xe.out];exact jG) λ j aA=>h4.out j aA (by omega);have rr:=aUl lf;have azj:=ay.azP jG;subst azj;clear lf jG;go_wp2_with fail
    go_quiet (fail)
    go_wp2_with fail
    go_ret;exact ⟨by rw [rr.out];rfl,below_drewN Df _⟩
   | false =>
    have pq:Hid (∀ j (aA:j<k+1) (o2:j<l.length),(ay.is p) l[j]=false):=by
     intro j aA o2;by_cases h:j<k
     ·exact h4.out j h o2
     ·obtain rfl:j=k:=by omega
      rw [xe.out];exact jG
    have dY:=ay.azO jG;clear jG;rcases dY with γ | ⟨γ,aa⟩
    all_goals
     go_wp2_with fail
     go_quiet (fail)
     go_wp2_with fail
     go_roundw
     case rel=>exact ⟨k+1,_,by omega,by go_num,pq,by show _=_;rw [Cv.out];simp;rfl⟩
     case measure=>simp [intOf];omega
  ·have lf:gA (ay.is p) l= -1:=FZ λ j aA=>h4.out j (by have:=fk.out;omega) aA;have rr:=aUl lf;have azh:=Cv.out;subst azh;clear lf;go_wp2_with fail
   go_ret;exact ⟨by rw [rr.out];rfl,below_drewN cK _⟩
theorem awN (p:ay) (A:Option Addr) (c:Nat) (l:List ay) (w:World) (aB:ay.rep.aK 16 w A c l):
  Calls prog 126 #[.slice A l.length c, .agg #[.int .i64 p.x, .int .i64 p.y]] w λ e w'=>e= .returned (.bool (l.contains p))∧Below w.heap.size w w':=by
 have cK:=lA w (.cells #[.int .i64 p.x, .int .i64 p.y] 49);have hc:=azy p A c l _ (aB.keep cK);have pV:l.contains p=decide (0≤gA (ay.is p) l):=by
  rw [MB,List.contains_eq_any_beq];congr 1
  funext x
  unfold ay.is;by_cases h:x=p
  ·simp [h]
  ·simp [h,aW4 h]
 rw [pV];generalize gA (ay.is p) l=r at *
 generalize l.length=n at *
 clear aB pV;go_enter func126,ntmps126;go_wp2_with (go_at_call 159;refine hc.mono ?_;rintro e w' ⟨rfl,bz⟩)
 go_ret;exact ⟨Z,cK.trans (bz.mono cK.size)⟩
open Tryz
section
theorem bj.Qh {w:World} {ax:Nat} {a:aj.cq} {W:aj} (h:bj w ax a W):
  (∀ x∈κ.ae a.M,x∉κ.ae a.P∧x∉κ.ae a.B∧x∉κ.ae a.S∧x∉κ.ae a.T)∧
  (∀ x∈κ.ae a.T,x∉κ.ae a.P∧x∉κ.ae a.B∧x∉κ.ae a.S∧x∉κ.ae a.M)∧
  (∀ x∈κ.ae a.S,x∉κ.ae a.P∧x∉κ.ae a.B∧x∉κ.ae a.M∧x∉κ.ae a.T):=by
 have hn:=h.apart;rw [aU5,aU5,aU5,aU5] at hn;obtain ⟨⟨⟨⟨_,_,Gm⟩,_,uY⟩,_,qb⟩,_,sq⟩:=hn;refine ⟨λ x hx=>⟨λ hp=> ?_,λ hp=> ?_,λ hp=> ?_,λ hp=> ?_⟩,λ x hx=>⟨λ hp=> ?_,λ hp=> ?_,λ hp=> ?_,λ hp=> ?_⟩,λ x hx=>⟨λ hp=> ?_,λ hp=> ?_,λ hp=> ?_,λ hp=> ?_⟩⟩
 ·exact qb x (by simp [hp]) x hx Z
 ·exact qb x (by simp [hp]) x hx Z
 ·exact qb x (by simp [hp]) x hx Z
 ·exact sq x (by simp [hx]) x hp Z
 ·exact sq x (by simp [hp]) x hx Z
 ·exact sq x (by simp [hp]) x hx Z
 ·exact sq x (by simp [hp]) x hx Z
 ·exact sq x (by simp [hp]) x hx Z
 ·exact uY x (by simp [hp]) x hx Z
 ·exact uY x (by simp [hp]) x hx Z
 ·exact qb x (by simp [hx]) x hp Z
 ·exact sq x (by simp [hx]) x hp Z
theorem vU {a:aj.cq} {g:Nat}:g∈bj.bV a↔g∈κ.ae a.P∨g∈κ.ae a.B∨g∈κ.ae a.S∨g∈κ.ae a.M∨g∈κ.ae a.T:=by
 unfold bj.bV;simp only [aUy];constructor
 ·rintro ((((h | h) | h) | h) | h)<;>simp [h]
 ·rintro (h | h | h | h | h)<;>simp [h]
namespace aj
def kW (k:Int):Int:=if k=1 then 5 else if k=2 then 12 else 0
end aj
theorem bj.mod {w aP:World} {ax:Nat} {a:aj.cq} {W:aj} {S:List Nat} (h:bj w ax a W) (m:Mod S w aP) (hd:∀ x∈bj.bV a,x∉S):bj aP ax a W :=
 ⟨h.P.mod m λ x hx=>hd x (vU.2 (.inl hx)),h.B.mod m λ x hx=>hd x (vU.2 (.inr (.inl hx))),h.S.mod m λ x hx=>hd x (vU.2 (.inr (.inr (.inl hx)))),h.M.mod m λ x hx=>hd x (vU.2 (.inr (.inr (.inr (.inl hx))))),h.T.mod m λ x hx=>hd x (vU.2 (.inr (.inr (.inr (.inr hx))))),h.apart,h.nums⟩
theorem qG {a:aj.cq} {q:Nat} (h:q∈κ.ae a.T):q∈bj.bV a:=vU.2 (.inr (.inr (.inr (.inr h))))
theorem C9 {a:aj.cq} {q:Nat} (h:q∈κ.ae a.S):q∈bj.bV a:=vU.2 (.inr (.inr (.inl h)))
theorem Ft {a:aj.cq} {q:Nat} (h:q∈κ.ae a.M):q∈bj.bV a:=vU.2 (.inr (.inr (.inr (.inl h))))
theorem QM {a:aj.cq} {q:Nat} (h:q∈κ.ae a.B):q∈bj.bV a:=vU.2 (.inr (.inl h))
theorem QN {a:aj.cq} {q:Nat} (h:q∈κ.ae a.P):q∈bj.bV a:=vU.2 (.inl h)
theorem bj.alJ {w aP:World} {ax:Nat} {a:aj.cq} {W:aj} {l:List Int} (h:bj w ax a W) (m:Mod (κ.ae a.S) w aP) (hS:bS.aD 3 8 aP ax (κ.ae a.S) a.S a.s l):bj aP ax a {W with bg:=l}:=by
 obtain ⟨d1,d2,d3⟩:=h.Qh;exact ⟨h.P.mod m λ x hx hs=>(d3 x hs).1 hx,h.B.mod m λ x hx hs=>(d3 x hs).2.1 hx,hS,h.M.mod m λ x hx hs=>(d3 x hs).2.2.1 hx,h.T.mod m λ x hx hs=>(d3 x hs).2.2.2 hx,h.apart,h.nums⟩
theorem bj.swapT {w aP:World} {ax:Nat} {a:aj.cq} {W:aj} {l:List bd} {A:Option Addr} {c:Nat} (h:bj w ax a W) (m:Mod (κ.ae a.T) w aP) (b7:bd.rep.aD 66 56 aP ax (κ.ae A) A c l) (I:∀ q∈κ.ae A,q∈κ.ae a.T∨w.heap.size≤q):
  bj aP ax {a with T:=A,t:=c} {W with ao:=l}:=by
 obtain ⟨d1,d2,d3⟩:=h.Qh;refine ⟨h.P.mod m λ x hx hs=>(d2 x hs).1 hx,h.B.mod m λ x hx hs=>(d2 x hs).2.1 hx,h.S.mod m λ x hx hs=>(d2 x hs).2.2.1 hx,h.M.mod m λ x hx hs=>(d2 x hs).2.2.2 hx,b7, ?_,h.nums⟩;have hn:=h.apart;rw [aU5] at hn ⊢;refine ⟨hn.1,vG A,λ x hx y aH e=> ?_⟩;subst e;rcases I x aH with aH | aH
 ·exact hn.2.2 x hx x aH Z
 ·have hf:x∈bj.bV a:=by unfold bj.bV;rw [aUy];exact .inl hx
  have:=(h.lt x hf).2;omega
theorem bj.alI {w:World} {ax:Nat} {a:aj.cq} {W V:aj} (h:bj w ax a W) (γ:V.field.aY=W.field.aY) (aa:V.aZ=W.aZ) (av:V.bg=W.bg) (aV:V.bs=W.bs) (bJ:V.ao=W.ao) (hn:fK V.field.wide∧fK V.field.high∧fK V.next∧fK V.now):bj w ax a V :=
 ⟨by rw [γ];exact h.P,by rw [aa];exact h.B,by rw [av];exact h.S,by rw [aV];exact h.M,by rw [bJ];exact h.T,h.apart,hn⟩
theorem afV {w:World} {ax:Nat} {a:aj.cq} {W:aj} {A:Option Addr} {c q:Nat} (h:q∈bj.bV {a with T:=A,t:=c}):q∈bj.bV a∨q∈κ.ae A:=by
 rcases vU.1 h with h | h | h | h | h
 ·exact .inl (QN h)
 ·exact .inl (QM h)
 ·exact .inl (C9 h)
 ·exact .inl (Ft h)
 ·exact .inr h
def Jo (k:Int):Int:=if k=1 then 1 else if k=2 then 2 else 0
def uG (k:Int):Int:=if k=1 then 1 else if k=2 then 4 else 0
def IN (k:Int):Int:=if k=1 then 0 else if k=2 then 0 else 1
theorem Yk (k:Int) (w:World):Calls prog 128 #[.int .i64 k] w λ e w'=>e= .returned (.tuple #[.agg #[.int .i64 (aj.kb k), .int .i64 (Jo k), .int .i64 (uG k), .int .i64 (aj.kW k)], .int .i64 (IN k)])∧Ext w w':=by
 by_cases γ:k=1
 ·subst γ;exact ajx w
 ·by_cases aa:k=2
  ·subst aa;exact ajy w
  ·have:=ajz k w (p4 (by omega));simpa [aj.kb,Jo,uG,aj.kW,IN,γ,aa] using this
theorem bj.down {w:World} {ax sR:Nat} {a:aj.cq} {W:aj} (h:bj w ax a W) (bB:sR≤ax):bj w sR a W:=⟨h.P.down bB,h.B.down bB,h.S.down bB,h.M.down bB,h.T.down bB,h.apart,h.nums⟩
def aj.zero:aj:=⟨⟨0,0, []⟩, [], [], [], [],0,0⟩
theorem bj.zero (w:World) (ax:Nat):bj w ax ⟨none,none,none,none,none,0,0,0,0,0⟩ aj.zero:=⟨κ.aD.nil w,κ.aD.nil w,κ.aD.nil w,κ.aD.nil w,κ.aD.nil w,by simp [κ.ae],bN.2 (by decide),bN.2 (by decide),bN.2 (by decide),bN.2 (by decide)⟩
theorem UW {f:aE} {c:ay} (h:f.bq=0) (he:f.dU c=0):f.fr c=true:=by
 cases aq:f.fr c with
 | true=>rfl
 | false=>rw [(aE.KX h aq).1] at he;omega
theorem sZ (f:aE) (p:ay) (A:Option Addr) (c:Nat) (w:World) (cn:bS.aK 8 w A c f.aY):
  Calls prog 158 #[.agg #[.int .i64 f.wide, .int .i64 f.high, .slice A f.aY.length c], .agg #[.int .i64 p.x, .int .i64 p.y]] w λ e w'=>e= .returned (.tuple #[.int .i64 (f.ny p), .int .i64 (f.dU p)])∧Below w.heap.size w w':=Wl f p A c w cn
theorem bj.Y5 {w:World} {ax:Nat} {P B S M T:Option Addr} {p b s m t:Nat} {W:aj} (cn:bS.aD 3 8 w ax (κ.ae P) P p W.field.aY) (ba:ay.rep.aD 49 16 w ax (κ.ae B) B b W.aZ) (hS:bS.aD 3 8 w ax (κ.ae S) S s W.bg) (ml:bS.aD 3 8 w ax (κ.ae M) M m W.bs) (b7:bd.rep.aD 66 56 w ax (κ.ae T) T t W.ao)
  (γ:∀ q∈κ.ae B,q∈κ.ae P→False) (aa:∀ q∈κ.ae S,q∈κ.ae P→False) (av:∀ q∈κ.ae S,q∈κ.ae B→False) (aV:∀ q∈κ.ae M,q∈κ.ae P→False) (bJ:∀ q∈κ.ae M,q∈κ.ae B→False) (cg:∀ q∈κ.ae M,q∈κ.ae S→False)
  (ef:∀ q∈κ.ae T,q∈κ.ae P→False) (gz:∀ q∈κ.ae T,q∈κ.ae B→False) (s3:∀ q∈κ.ae T,q∈κ.ae S→False) (QW:∀ q∈κ.ae T,q∈κ.ae M→False) (hn:fK W.field.wide∧fK W.field.high∧fK W.next∧fK W.now):
  bj w ax ⟨P,B,S,M,T,p,b,s,m,t⟩ W:=by
 refine ⟨cn,ba,hS,ml,b7, ?_,hn⟩;have a8:=vG P;have bl:=vG B;have cZ:=vG S;have jP:=vG M;have Le:=vG T;simp only [aU5,aUy]
 grind
theorem bj.aBB {w:World} {ax:Nat} {a:aj.cq} {W:aj} {A:Option Addr} {c:Nat} {p:List bd} (h:bj w ax a W) (b7:bd.rep.aD 66 56 w ax (κ.ae A) A c p) (γ:∀ q∈κ.ae A,q∈bj.bV a→False):bj w ax {a with T:=A,t:=c} {W with ao:=p}:=by
 refine ⟨h.P,h.B,h.S,h.M,b7, ?_,h.nums⟩;have hn:=h.apart;have a8:=vG A;have f1:∀ q∈κ.ae A,(q∈κ.ae a.P→False)∧(q∈κ.ae a.B→False)∧(q∈κ.ae a.S→False)∧(q∈κ.ae a.M→False):=λ q I=>⟨λ h=>γ q I (QN h),λ h=>γ q I (QM h),λ h=>γ q I (C9 h),λ h=>γ q I (Ft h)⟩;simp only [aU5,aUy] at hn ⊢
 grind
theorem avj {a:aj.cq} {A:Option Addr} {c q:Nat} (h:q∈bj.bV {a with T:=A,t:=c}):q∈bj.bV a∨q∈κ.ae A:=by
 rcases vU.1 h with h | h | h | h | h
 ·exact .inl (QN h)
 ·exact .inl (QM h)
 ·exact .inl (C9 h)
 ·exact .inl (Ft h)
 ·exact .inr h
structure api (a:aj.cq):Prop where
 rB:∀ q∈κ.ae a.P,q∈κ.ae a.S→False
 apf:∀ q∈κ.ae a.P,q∈κ.ae a.M→False
 ape:∀ q∈κ.ae a.P,q∈κ.ae a.B→False
 hJ:∀ q∈κ.ae a.P,q∈κ.ae a.T→False
 apt:∀ q∈κ.ae a.S,q∈κ.ae a.M→False
 aps:∀ q∈κ.ae a.S,q∈κ.ae a.B→False
 ST:∀ q∈κ.ae a.S,q∈κ.ae a.T→False
 aoY:∀ q∈κ.ae a.M,q∈κ.ae a.B→False
 Uw:∀ q∈κ.ae a.M,q∈κ.ae a.T→False
 an1:∀ q∈κ.ae a.B,q∈κ.ae a.T→False
theorem bj.aCn {w:World} {ax:Nat} {a:aj.cq} {W:aj} (h:bj w ax a W):api a:=by
 have hn:=h.apart;simp only [aU5,aUy] at hn
 constructor<;>grind
theorem bj.xv {w:World} {ax:Nat} {a:aj.cq} {W:aj} (h:bj w ax a W):a.p≤9223372036854775807∧a.s≤9223372036854775807∧a.m≤9223372036854775807∧a.b≤9223372036854775807∧a.t≤9223372036854775807:=⟨h.P.has.2.1,h.S.has.2.1,h.M.has.2.1,h.B.has.2.1,h.T.has.2.1⟩
end
section
def qe (f:aE) (c:ay):Int:=if f.fr c then uw (f.place c) else 0
theorem ad1 {f:aE} {c:ay} (hf:f.bq=0) (hc:f.fr c=true):(vM (f.place c)== 0)=f.ground c∧(f.ground c=true→uw (f.place c)=f.gN c):=by
 obtain ⟨_,_,_,_,_,g6⟩:=aE.km hf;have hp:=g6 (f.place c) (by unfold aE.place;exact jT (aE.yX hf hc).1);unfold aE.ground;rw [hc];have:f.place c=0∨f.place c=1∨f.place c=2∨f.place c=3:=by omega
 unfold aE.gN vM uw;rcases this with h | h | h | h<;>rw [h]<;>simp
theorem aCs {f:aE} {c:ay} (hf:f.bq=0) (h:¬ f.dU c=0):qe f c=0∧f.ground c=false:=by
 have hc:f.fr c=false:=by
  cases hc:f.fr c with
  | false=>rfl
  | true=>exact absurd (aE.mO hf hc).1 h
 unfold qe aE.ground;rw [hc];exact ⟨Z,Z⟩
theorem aCr {f:aE} {c:ay} (hf:f.bq=0) (h:f.dU c=0):qe f c=uw (f.ny c)∧f.ground c=(vM (f.ny c)== 0):=by
 have hc:=UW hf h;rw [(aE.mO hf hc).2];unfold qe;rw [hc];exact ⟨Z,(ad1 hf hc).1.symm⟩
theorem akJ {f:aE} {c:ay} (hf:f.bq=0) (h:f.ground c=true):qe f c=f.gN c:=by
 have hc:=aE.j_ h;unfold qe;rw [aUz hc];exact (ad1 hf hc).2 h
theorem au1 (p:Int) (w:World):
  Calls prog 199 #[.int .i64 p] w (λ e w'=>e= .returned (.tuple #[.int .i64 (uw p), .int .i64 (vM p)])∧Ext w w'):=by
 refine cl (n:=12) func199 Z Z Z ?_;refine ai<|va Z<|va Z<|ag<|az<|ai<|vm Z<|ag<|bA<|az<|ai<|J (beq Z Z)<|va Z<|ag<| ?_;refine kj Z (λ j'=> ?_) (λ j'=> ?_)
 ·have aNc:(p == 0)=true:=by simpa using j'
  refine bt<| ?_;refine kj Z (λ W5=> ?_) (λ W5=> ?_)
  ·have aNf:(p == 0)=true:=by simpa using W5
   refine ai<|va Z<|va Z<|ag<|rt<|eK<|bT<|bb (.tmp Z (.tmp Z .nil))<| ?_;exact ⟨by simp_all [uw,vM,u1],(Ext.bK w)⟩
  ·have aNg:(p == 0)=false:=by simpa using W5
   refine ai<|J (beq Z Z)<|va Z<|ag<| ?_;refine kj Z (λ mT=> ?_) (λ mT=> ?_)
   ·have aNh:(p == 2)=true:=by simpa using mT
    refine ai<|va Z<|va Z<|ag<|rt<|eK<|bT<|bb (.tmp Z (.tmp Z .nil))<| ?_;exact ⟨by simp_all [uw,vM,u1],(Ext.bK w)⟩
   ·have aNi:(p == 2)=false:=by simpa using mT
    refine ai<|J (beq Z Z)<|va Z<|ag<| ?_;refine kj Z (λ lZ=> ?_) (λ lZ=> ?_)
    ·have aM5:(p == 1)=true:=by simpa using lZ
     refine ai<|va Z<|va Z<|ag<|rt<|eK<|bT<|bb (.tmp Z (.tmp Z .nil))<| ?_;exact ⟨by simp_all [uw,vM,u1],(Ext.bK w)⟩
    ·have aM6:(p == 1)=false:=by simpa using lZ
     refine fv<|bX<|aT<|ai<|va Z<|va Z<|ag<|rt<|bb (.tmp Z (.tmp Z .nil))<| ?_;exact ⟨by simp_all [uw,vM,u1],(Ext.bK w)⟩
 ·have aM7:(p == 0)=false:=by simpa using j'
  refine rg<|J (beq Z Z)<|va Z<|ag<| ?_;refine kj Z (λ W1=> ?_) (λ W1=> ?_)
  ·have aM8:(p == 3)=true:=by simpa using W1
   refine ai<|va Z<|va Z<|ag<|rt<|eK<|bT<|bb (.tmp Z (.tmp Z .nil))<| ?_;exact ⟨by simp_all [uw,vM,u1],(Ext.bK w)⟩
  ·have aM9:(p == 3)=false:=by simpa using W1
   refine ai<|J (beq Z Z)<|va Z<|ag<| ?_;refine kj Z (λ pU=> ?_) (λ pU=> ?_)
   ·have aNa:(p == 2)=true:=by simpa using pU
    refine ai<|va Z<|va Z<|ag<|rt<|eK<|bT<|bb (.tmp Z (.tmp Z .nil))<| ?_;exact ⟨by simp_all [uw,vM,u1],(Ext.bK w)⟩
   ·have aNb:(p == 2)=false:=by simpa using pU
    refine ai<|J (beq Z Z)<|va Z<|ag<| ?_;refine kj Z (λ oi=> ?_) (λ oi=> ?_)
    ·have aNd:(p == 1)=true:=by simpa using oi
     refine ai<|va Z<|va Z<|ag<|rt<|eK<|bT<|bb (.tmp Z (.tmp Z .nil))<| ?_;exact ⟨by simp_all [uw,vM,u1],(Ext.bK w)⟩
    ·have aNe:(p == 1)=false:=by simpa using oi
     refine fv<|bX<|aT<|ai<|va Z<|va Z<|ag<|rt<|bb (.tmp Z (.tmp Z .nil))<| ?_;exact ⟨by simp_all [uw,vM,u1],(Ext.bK w)⟩
theorem sr (w0:World) (f:aE) (P F A:Option Addr) (bP fQ c b:Nat) (a_:List Int) (l:List cd) (bp:ay) (p:ay) (w:World) (ji:Ext w0 w) (hf:f.bq=0) (cn:bS.aK 8 w0 P bP f.aY) (aJ:aN w b [.int .i64 f.wide, .int .i64 f.high, .slice P f.aY.length bP, .int .i64 bp.x, .int .i64 bp.y, .slice F a_.length fQ, .slice A l.length c] 265 (0,0)) (hp: -500≤p.x∧p.x≤500∧ -500≤p.y∧p.y≤500):
  Calls prog 166 #[.pointer (some ⟨b,0,none⟩), .agg #[.int .i64 p.x, .int .i64 p.y]] w (λ e w'=>e= .returned (.int .i64 (p.y * f.wide+p.x))∧Ext w w'):=by
 have yd:=aJ.lt;obtain ⟨g1,g2,g3,g4,g5,g6⟩:=aE.km hf;have nb:=ji.size;refine cl (n:=16) func166 Z Z Z ?_;refine ai<|cI Z Z Z Z λ cW bw a7 eA ab=> ?_;have:=a7.size;have bk:=τ ji a7;have eG:=ab.lt;refine va Z<|ag<|az<| ?_;refine rd [(1,0),(6,0),(9,0)] [0,1,2,3,4,5,6,7,8,9,10,11] (by kernel_rfl) (by kernel_rfl) ?_;refine ar Z (λ _=>au iN Z)<|bG Z (λ _ x=>ak Z ((ab.later x).one bf Z))<|ar Z (λ _=>aM Z)<|ar Z (λ _=>b6 Z)<|ar Z (λ _=>au afo Z)<|ar Z (λ _=>au VU Z)<| ?_;have aJ:=aJ.later a7;refine bG Z (λ _ x=>ak Z ((aJ.later x).one bf Z))<|ar Z (λ _=>CS Z Z (bH ((by have:=aWU (show p.y≤500 by omega) g2 (by omega) (by omega);have:=aWU (show -p.y≤500 by omega) g2 (by omega) (by omega);rw [Int.neg_mul] at this;omega))))<|ar Z (λ _=>au ij Z)<|bG Z (λ _ x=>ak Z ((ab.later x).one bf Z))<|ar Z (λ _=>bad Z Z (bH ((by have:=aWU (show p.y≤500 by omega) g2 (by omega) (by omega);have:=aWU (show -p.y≤500 by omega) g2 (by omega) (by omega);rw [Int.neg_mul] at this;omega))))<|ar Z (λ _=>fA Z)<|fn λ eM cL=> ?_;have:=cL.size;have bR:=τ bk cL;refine aT<|rt<|bb (.tmp Z .nil)<| ?_;exact ⟨Z,τ a7 cL⟩
theorem Zf (w0:World) (f:aE) (P F A:Option Addr) (bP fQ c b:Nat) (a_:List Int) (l:List cd) (bp:ay) (p:ay) (w:World) (ji:Ext w0 w) (hf:f.bq=0) (cn:bS.aK 8 w0 P bP f.aY) (aJ:aN w b [.int .i64 f.wide, .int .i64 f.high, .slice P f.aY.length bP, .int .i64 bp.x, .int .i64 bp.y, .slice F a_.length fQ, .slice A l.length c] 265 (0,0)):
  Calls prog 164 #[.pointer (some ⟨b,0,none⟩), .agg #[.int .i64 p.x, .int .i64 p.y]] w (λ e w'=>e= .returned (.tuple #[.int .i64 (qe f p), .bool (f.ground p)])∧Ext w w'):=by
 have yd:=aJ.lt;obtain ⟨g1,g2,g3,g4,g5,g6⟩:=aE.km hf;have nb:=ji.size;refine cl (n:=28) func164 Z Z Z ?_;refine ai<|cI Z Z Z Z λ cW bw a7 eA ab=> ?_;have:=a7.size;have bk:=τ ji a7;have eG:=ab.lt;refine va Z<|va Z<|ag<|az<| ?_;refine rd [(3,0),(4,0),(5,0)] [0,1,2,3,4,5,6,7,8,9,10] (by kernel_rfl) (by kernel_rfl) ?_;refine ar Z (λ _=>aM Z)<|ar Z (λ _=>b6 Z)<|ar Z (λ _=>au afo Z)<| ?_;have aJ:=aJ.later a7;refine bG Z (λ _ x=>ak Z ((aJ.later x).par [.int .i64 f.wide, .int .i64 f.high, .slice P f.aY.length bP] lW lX Z))<|bG Z (λ _ x=>ak Z ((ab.later x).all cm bW))<|pT Z Z rR Z (λ _ x=>sZ f p _ _ _ (cn.keep (τ bk x))) Z<|ar Z (λ _=>aM Z)<|ar Z (λ _=>ex Z Z)<|ar Z (λ _=>ex Z Z)<|ar Z (λ _=>fA Z)<|ar Z (λ _=>fA Z)<|fn λ eM cL=> ?_;have:=cL.size;have bR:=τ bk cL;refine aT<|az<|ai<|vm Z<|J (bne Z Z)<|ag<| ?_;refine eU Z (λ kN=> ?_) (λ kN=> ?_)
 ·have Ml:=aCs hf kN;refine ai<|va Z<|va Z<|ag<|rt<|bT<|bb (.tmp Z (.tmp Z .nil))<| ?_;exact ⟨by rw [Ml.1,Ml.2];rfl,τ a7 cL⟩
 ·have Ml:=aCr hf kN;refine bt<|ai<|vm Z<|ca auh Z Z ((au1 (f.ny p) _).mono ?_);rintro e Eg ⟨rfl,dC⟩;refine ⟨_,Z, ?_⟩;have:=dC.size;have oI:=τ bR dC;refine vm Z<|J (ex Z Z)<|J (ex Z Z)<|va Z<|va Z<|ag<|ai<|vm Z<|vm Z<|J (beq Z Z)<|va Z<|va Z<|ag<|rt<|bb (.tmp Z (.tmp Z .nil))<| ?_;exact ⟨by rw [Ml.1,Ml.2];rfl,τ (τ a7 cL) dC⟩
theorem akX (p:ay) (w:World) (hp: -100000≤p.x∧p.x≤100000∧ -100000≤p.y∧p.y≤100000):
  Calls prog 165 #[.agg #[.int .i64 p.x, .int .i64 p.y]] w (λ e w'=>e= .returned (.agg #[.int .i64 p.x, .int .i64 (p.y - 1), .int .i64 (p.x - 1), .int .i64 p.y, .int .i64 (p.x+1), .int .i64 p.y, .int .i64 p.x, .int .i64 (p.y+1)])∧Ext w w'):=by
 refine cl (n:=28) func165 Z Z Z ?_;refine ai<|cI Z Z Z Z λ cW bw a7 eA ab=> ?_;have:=a7.size;have bk:=τ (Ext.bK w) a7;have eG:=ab.lt;refine al Z aul Z Z λ eM cA bo iq ah=> ?_;have:=bo.size;have bR:=τ bk bo;have ia:=ah.lt;refine ag<|ai<|J (au ij Z)<| ?_;have ab:=ab.later bo;refine J (ak Z (ab.one bf Z))<|J (au iN Z)<|J (ak Z (ab.one bf Z))<|J (mi Z Z (bH (by omega)))<|J (v:= .agg #[.int .i64 p.x, .int .i64 (p.y - 1)]) (cM Z (by kernel_rfl))<|J (au ij Z)<|J (ak Z (ab.one bf Z))<|J (mi Z Z (bH (by omega)))<|J (au iN Z)<|J (ak Z (ab.one bf Z))<|J (v:= .agg #[.int .i64 (p.x - 1), .int .i64 p.y]) (cM Z (by kernel_rfl))<|J (au ij Z)<|J (ak Z (ab.one bf Z))<|J (bad Z Z (bH (by omega)))<|J (au iN Z)<|J (ak Z (ab.one bf Z))<|J (v:= .agg #[.int .i64 (p.x+1), .int .i64 p.y]) (cM Z (by kernel_rfl))<|J (au ij Z)<|J (ak Z (ab.one bf Z))<|J (au iN Z)<|J (ak Z (ab.one bf Z))<|J (bad Z Z (bH (by omega)))<|J (v:= .agg #[.int .i64 p.x, .int .i64 (p.y+1)]) (cM Z (by kernel_rfl))<|J (v:= .agg #[.int .i64 p.x, .int .i64 (p.y - 1), .int .i64 (p.x - 1), .int .i64 p.y, .int .i64 (p.x+1), .int .i64 p.y, .int .i64 p.x, .int .i64 (p.y+1)]) (cM Z (by kernel_rfl))<| ?_;refine st (new:= [.int .i64 p.x, .int .i64 (p.y - 1), .int .i64 (p.x - 1), .int .i64 p.y, .int .i64 (p.x+1), .int .i64 p.y, .int .i64 p.x, .int .i64 (p.y+1)]) Z Z ah Z afw Z Z Z λ hk Gc ah=> ?_;have:=Gc.size;have c':=Ext.mod bR Gc bx;refine ag<|rt<|bb (.cell Z (ah.all aum afw) .nil)<| ?_;exact ⟨Z,c'⟩
end
section
theorem rT {P:Program} {n:Nat} {ops:Array Oper} {Q:Exit→Act→World→Prop} {a6:Nat→Nat} {bZ:List Nat} {E:List (Nat×Value)} {w0:World} {i d:Nat} {op:Op} {ty:TypeId} {pos:String} {af:Array Edge} {j:Nat} {q:Bool} {u:Value} {dm:Oper} {jc:Nat} (aq:ops[i]? =some ⟨some d,op,ty,pos,af,some (j,q)⟩) (aw:Nat.ble (a6 i) 1=true) (aA:ops[j]? =some dm) (nF:dm.dst=some jc) (Φ:look E jc=some (ik false u)) (hd:Nat.blt d n=true)
  (h:iF P n ops Q a6 bZ ((d,undef)::E) w0):iF P n ops Q a6 (i::bZ) E w0:=λ a ha=>by
 have γ:=ha.g _ _ Φ;simp only [ik,aUY,aVs] at γ;have hw:Region.wanted ⟨some d,op,ty,pos,af,some (j,q)⟩ (yielded ops a.tmps)=false:=by simp [Region.wanted,yielded,aA,nF,γ,undef]
 have aw:=aWj aw;rcases aVf 0 (a6 i) with aI | aI
 ·exact ⟨_,aq, .inr (.inl ⟨by omega,undef, .inr ⟨hw,rfl⟩,h _ (ha.put hd _)⟩)⟩
 ·exact ⟨_,aq, .inl ⟨by omega,undef, .inr ⟨hw,rfl⟩,h _ (ha.put hd _)⟩⟩
end
section
theorem Zh (w0:World) (f:aE) (P F A:Option Addr) (bP fQ c b:Nat) (a_:List Int) (l:List cd) (bp:ay) (p:ay) (d:Int) (w:World) (ji:Ext w0 w) (hf:f.bq=0) (cn:bS.aK 8 w0 P bP f.aY) (aJ:aN w b [.int .i64 f.wide, .int .i64 f.high, .slice P f.aY.length bP, .int .i64 bp.x, .int .i64 bp.y, .slice F a_.length fQ, .slice A l.length c] 265 (0,0)) (Φ:w0.heap.size≤b) (t_:cd.rep.aD 313 32 w w0.heap.size (κ.ae A) A c l) (Rh:∀ q∈κ.ae A,q=b→False) (dS:∀ y∈l,y.ok) (aB:l.length≤1000000) (hp: -500≤p.x∧p.x≤500∧ -500≤p.y∧p.y≤500) (aF: -500≤bp.x∧bp.x≤500∧ -500≤bp.y∧bp.y≤500) (hd:0≤d∧d≤100000):
  Calls prog 197 #[.pointer (some ⟨b,0,none⟩), .agg #[.int .i64 p.x, .int .i64 p.y], .int .i64 d] w (λ e w'=>∃ bL b_,e= .returned (.tuple #[])∧aN w' b [.int .i64 f.wide, .int .i64 f.high, .slice P f.aY.length bP, .int .i64 bp.x, .int .i64 bp.y, .slice F a_.length fQ, .slice bL ((cx.push cd.all l ⟨p,d,d+aE.kM bp p⟩).length) b_] 265 (0,0)∧cd.rep.aD 313 32 w' w0.heap.size (κ.ae bL) bL b_ (cx.push cd.all l ⟨p,d,d+aE.kM bp p⟩)∧(∀ q∈κ.ae bL,q=b→False)∧(∀ q∈κ.ae bL,q∈κ.ae A∨w.heap.size≤q)∧Mod (b::κ.ae A) w w'):=by
 have yd:=aJ.lt;obtain ⟨g1,g2,g3,g4,g5,g6⟩:=aE.km hf;have nb:=ji.size;have aE4:=λ q I=>(t_.lt q I).2;have qR:=t_.has.dT;have zm:∀ q∈b::κ.ae A,w0.heap.size≤q:=λ q I=>(aUD.1 I).elim (λ h=>by omega) λ h=>(t_.lt q h).1;have aMJ:=jn (bp.x - p.x);have aMK:=jn (bp.y - p.y);refine cl (n:=32) func197 Z Z Z ?_;refine ai<|cI Z Z Z Z λ cW bw a7 eA ab=> ?_;have:=a7.size;have bk:=(Mod.bK (b::κ.ae A) w).trans (Mod.bF a7);have eG:=ab.lt;refine ag<|az<| ?_;refine rd [(0,0),(4,0),(5,0)] [0,1,2,3,4,5,6,7,8,9,10,11,12] (by kernel_rfl) (by kernel_rfl) ?_;refine bG Z (λ _ x=>ak Z ((ab.later x).all cm bW))<|ar Z (λ _=>aM Z)<|ar Z (λ _=>b6 Z)<|ar Z (λ _=>au afx Z)<| ?_;have aJ:=aJ.later a7;refine bG Z (λ _ x=>ak Z ((aJ.later x).par [.int .i64 bp.x, .int .i64 bp.y] cm bW Z))<|pT Z Z afy Z (λ _ x=>ade p bp _ (by omega) (by omega)) Z<|ar Z (λ _=>aM Z)<|ar Z (λ _=>ex Z Z)<|ar Z (λ _=>ex Z Z)<|ar Z (λ _=>ex Z Z)<|ar Z (λ _=>fA Z)<|ar Z (λ _=>fA Z)<|ar Z (λ _=>fA Z)<|fn λ eM cL=> ?_;have:=cL.size;have bR:=bk.trans (Mod.bF cL);refine aT<| ?_;refine rd [(4,0),(12,3)] [0,1,2,3,4,5,6,7,8,9,10,11,12] (by kernel_rfl) (by kernel_rfl) ?_;refine ar Z (λ _=>aM Z)<|ar Z (λ _=>b6 Z)<|ar Z (λ _=>au Fq Z)<|ar Z (λ _=>Sd (λ w=>by kernel_rfl) Z)<| ?_;have ab:=ab.later cL;refine bG Z (λ _ x=>ak Z ((ab.later x).all cm bW))<|ar Z (λ _=>aM Z)<|ar Z (λ _=>aM Z)<|ar Z (λ _=>aM Z)<|ar Z (λ _=>CS Z Z (bH (by omega)))<|ar Z (λ _=>bad Z Z (bH (by omega)))<|rU (v:= .agg #[.int .i64 p.x, .int .i64 p.y, .int .i64 d, .int .i64 (d+(2 * (cv (bp.x - p.x)+cv (bp.y - p.y))))]) Z Z (λ _=>cM Z (by kernel_rfl)) Z<|ar Z (λ _=>Sd (λ w=>by kernel_rfl) Z)<| ?_;have t_:=t_.later (τ a7 cL);have aJ:=aJ.later cL;refine en Z Z Z λ wI ng Q hK=>ca aun Z Z ((aGR b A c w0.heap.size l (.int .i64 f.wide) (.int .i64 f.high) (.slice P f.aY.length bP) (.int .i64 bp.x) (.int .i64 bp.y) (.slice F a_.length fQ) ((⟨⟨p.x,p.y⟩,d,d+(2 * (cv (bp.x - p.x)+cv (bp.y - p.y)))⟩:cd)) _ (aJ.later ng) (t_.later ng) dS Rh ⟨bN.2 (by dsimp only;omega),bN.2 (by dsimp only;omega),bN.2 (by dsimp only;omega),bN.2 (by dsimp only;omega)⟩ aB (by have:=ng.size;omega)).mono ?_);rintro e hk ⟨anA,aqx,rfl,Uh,Pk,ahk,YJ⟩;refine ⟨_,Z,hK _ _ ?_⟩;have:=ng.size;have kB:=bR.trans (Mod.bF ng);have:=YJ.size;have c':=kB.md YJ (λ q I=> .inl I);have u5:=λ q I=>(Pk.lt q I).2;refine fn λ JJ vd=> ?_;have:=vd.size;have vl:=c'.trans (Mod.bF vd);refine ne<|bb .nil<| ?_;have Pk:=Pk.later vd;have Uh:=Uh.later vd;exact ⟨anA,aqx,Z,Uh,Pk,λ q I Φ=>by exfalso;(exact aUw (ahk q I) (λ ai2=>by (exact Rh q ai2 Φ)) (λ ai2=>by omega)),λ q I=>(ahk q I).imp id λ h=>by omega,vl⟩
end
end Go.Proofs.YtlikikpgmmkjbaaGreat
