import Derived.Test.YtlikikpgmmkjbaaGreatEqI
set_option linter.unusedVariables false
set_option linter.unusedSimpArgs false
set_option maxRecDepth 100000
set_option maxHeartbeats 4000000
namespace Go.Proofs.YtlikikpgmmkjbaaGreat
open Tryz
end Go.Proofs.YtlikikpgmmkjbaaGreat
set_option linter.unusedVariables false
set_option linter.unusedSimpArgs false
namespace Go.Proofs.YtlikikpgmmkjbaaGreat
open Tryz
open Go.RowKit

def aC.nE (p:Int):Bool:= !aC.LN p
theorem agL {p:Int}:(p<0→aC.nE p=true)∧(4≤p→aC.nE p=true)∧(0≤p→p<4→aC.nE p=false):=by
 unfold aC.nE aC.LN;refine ⟨λ h=>by rw [nT (.inl h)];rfl,λ h=>by rw [nT (.inr (by omega))];rfl,λ γ aa=>by rw [mU γ (by omega)];rfl⟩
theorem aks (p:Int) (w:World):Calls prog 124 #[.int .i64 p] w λ e w'=>e= .returned (.bool (aC.nE p))∧Below w.heap.size w w':=by
 obtain ⟨kR,eF,fK⟩:=agL (p:=p);rcases Int.lt_or_le p 0 with h | h
 ·have Φ:=kR h;have hd:decide (p<0)=true:=by simpa using h
  rw [Φ];clear kR eF fK Φ;go_enter func124,ntmps124;go_wp2
  go_ret;exact ⟨Z,Below.refl _ _⟩
 ·rcases Int.lt_or_le p 4 with a1 | a1
  ·have Φ:=fK h a1;have hd:decide (p<0)=false:=by simpa using h
   rw [Φ];clear kR eF fK Φ;go_enter func124,ntmps124;go_wp2
   go_ret;exact ⟨gD (by simp<;>omega),Below.refl _ _⟩
  ·have Φ:=eF a1;have hd:decide (p<0)=false:=by simpa using h
   rw [Φ];clear kR eF fK Φ;go_enter func124,ntmps124;go_wp2
   go_ret;exact ⟨gD (by simp<;>omega),Below.refl _ _⟩
theorem aop  (A:Option Addr) (c:Nat) (l:List Int) (w:World) (az:bz.aH 8 w A c l):
  Calls prog 157 #[.slice A l.length c, .func (.func 124) #[] #[]] w λ e w'=>e= .returned (.int .i64 (gh (aC.nE) l))∧Below w.heap.size w w':=by
 obtain ⟨n,hn⟩:∃ n,l.length=n:=⟨_,rfl⟩;have hle:n≤9223372036854775807:=by have:=az.1;have:=az.2.1;omega
 rw [hn];have ob:=Lib.hid az;have e4:=Lib.hid hn;clear az hn;go_enter func157,ntmps157;go_wp2_with fail
 go_loopw [5,8] (λ _ fW wr=>∃ k:Nat,k≤n∧fW= .int .i64 (k:Int)∧Hid (∀ j (ay:j<k) (pe:j<l.length),(aC.nE) l[j]=false)∧Below w.heap.size w wr) (λ _ fW _=>n - (intOf fW).toNat)
 case atStart=>exact ⟨0,Nat.zero_le _,rfl,(λ j ay=>by omega),Below.refl _ _⟩
 case round =>
  obtain ⟨k,av,rfl,gA,Φ⟩:=hrel;by_cases bl:k<n
  ·have hE:k<l.length:=by rw [e4.out];exact bl
   obtain ⟨b,o,rfl,h5⟩:=B1 (ob.out.keep Φ) (by omega);obtain ⟨x,pj⟩:∃ x,l[k]'hE=x:=⟨_,rfl⟩;have kZ:=h5 k x (by rw [List.getElem?_eq_getElem hE,pj]);have s7:=Lib.hid pj

   have hc:=aks x wr;clear h5 pj;cases h4:(aC.nE) x with
   | true =>
    have jD:gh (aC.nE) l=(k:Int):=G6 hE (by rw [s7.out];exact h4) λ j ay=>gA.out j ay (by omega);rw [h4] at hc;have oQ:=Lib.hid jD;clear jD h4;go_wp2_with (go_at_call 124;refine hc.mono ?_;rintro e w' ⟨rfl,bo⟩)
    go_ret;exact ⟨by rw [oQ.out];rfl,Φ.trans (bo.mono Φ.size)⟩
   | false =>
    rw [h4] at hc;have ny:Hid (∀ j (ay:j<k+1) (pe:j<l.length),(aC.nE) l[j]=false):=by
     intro j ay pe;by_cases h:j<k
     ·exact gA.out j h pe
     ·obtain rfl:j=k:=by omega
      rw [s7.out];exact h4
    clear h4;go_wp2_with (go_at_call 124;refine hc.mono ?_;rintro e w' ⟨rfl,bo⟩)
    go_roundw
    case rel=>exact ⟨k+1,by omega,by go_num,ny,Φ.trans (bo.mono Φ.size)⟩
    case measure=>simp [intOf];omega
  ·have jD:gh (aC.nE) l= -1:=DT λ j ay=>gA.out j (by have:=e4.out;omega) ay;have oQ:=Lib.hid jD;clear jD;go_wp2_with fail
   go_ret;exact ⟨by rw [oQ.out];rfl,Φ⟩
theorem al9  (A:Option Addr) (c:Nat) (l:List Int) (w:World) (az:bz.aH 8 w A c l):
  Calls prog 123 #[.slice A l.length c, .func (.func 124) #[] #[]] w λ e w'=>e= .returned (.bool (l.any (aC.nE)))∧Below w.heap.size w w':=by
 have hc:=aop  A c l w az ;rw [← QH];generalize gh (aC.nE) l=r at *
 generalize l.length=n at *
 clear az ;go_enter func123,ntmps123;go_wp2_with (go_at_call 157;refine hc.mono ?_;rintro e w' ⟨rfl,bo⟩)
 go_ret;exact ⟨Z,bo⟩
theorem Mx (n lo ao:Int) (w:World):Calls prog 127 #[.int .i64 n, .int .i64 lo, .int .i64 ao] w λ e w'=>e= .returned (.bool (cw n lo ao))∧w=w':=by
 rcases Int.lt_or_le n lo with h | h
 ·rw [nT (.inl h)];go_enter func127,ntmps127;go_wp2
  go_ret;exact ⟨Z,Z⟩
 ·rcases Int.lt_or_le ao n with a1 | a1
  ·rw [nT (.inr a1)];go_enter func127,ntmps127;go_wp2
   go_ret;exact ⟨gD (by simp<;>omega),Z⟩
  ·rw [mU h a1];go_enter func127,ntmps127;go_wp2
   go_ret;exact ⟨gD (by simp<;>omega),Z⟩
theorem acQ (n:Int) (w:World):Calls prog 122 #[.int .i64 n] w λ e w'=>e= .returned (.bool (cw n 1 40))∧w=w':=by
 rcases Int.lt_or_le n 1 with h | h
 ·rw [nT (.inl h)];go_enter func122,ntmps122;go_wp2
  go_ret;exact ⟨Z,Z⟩
 ·rcases Int.lt_or_le 40 n with a1 | a1
  ·rw [nT (.inr a1)];go_enter func122,ntmps122;go_wp2
   go_ret;exact ⟨gD (by simp<;>omega),Z⟩
  ·rw [mU h a1];go_enter func122,ntmps122;go_wp2
   go_ret;exact ⟨gD (by simp<;>omega),Z⟩
end Go.Proofs.YtlikikpgmmkjbaaGreat
set_option linter.unusedVariables false
set_option linter.unusedSimpArgs false
namespace Go.Proofs.YtlikikpgmmkjbaaGreat
open Tryz
open Go.RowKit

theorem aC.ahK {f:aC} (γ:cw f.wide 1 40=true) (aa:cw f.high 1 40=true) (au:¬ (f.aP.length:Int)=f.wide * f.high):f.bh=4:=by
 unfold aC.bh;rw [γ,aa,decide_eq_false au];rfl
theorem aC.ahG {f:aC} (γ:cw f.wide 1 40=true) (aa:cw f.high 1 40=true) (au:(f.aP.length:Int)=f.wide * f.high):f.bh=if f.aP.any aC.nE then 4 else 0:=by
 unfold aC.bh;rw [γ,aa,decide_eq_true au];have:f.aP.all aC.LN= !f.aP.any aC.nE:=by
  rw [List.all_eq_not_any_not];rfl
 rw [this];cases f.aP.any aC.nE<;>rfl
theorem XJ (f:aC) (A:Option Addr) (c:Nat) (w:World) (b3:bz.aH 8 w A c f.aP):
  Calls prog 88 #[.agg #[.int .i64 f.wide, .int .i64 f.high, .slice A f.aP.length c]] w λ e w'=>e= .returned (.int .i64 f.bh)∧Below w.heap.size w w':=by
 have Φ:=jR w (.cells #[.int .i64 f.wide, .int .i64 f.high, .slice A f.aP.length c] 24);have eg:=acQ f.wide;have fp:=acQ f.high;have hle:f.aP.length≤9223372036854775807:=by have:=b3.1;have:=b3.2.1;omega
 cases γ:cw f.wide 1 40 with
 | false =>
  rw [γ] at eg;rw [aC.V7 (by rw [γ];rfl)];clear γ fp b3;go_enter func88,ntmps88;go_wp2_with (go_at_call 122;refine (eg _).mono ?_;rintro e w' ⟨rfl,rfl⟩)
  go_ret;exact ⟨Z,Φ⟩
 | true =>
  rw [γ] at eg;cases aa:cw f.high 1 40 with
  | false =>
   rw [aa] at fp;rw [aC.V7 (by rw [γ,aa];rfl)];clear γ aa b3;go_enter func88,ntmps88;go_wp2_with fail
   refine (eg _).mono ?_;rintro e w' ⟨rfl,rfl⟩;go_wp2_with fail
   refine (fp _).mono ?_;rintro e w' ⟨rfl,rfl⟩;go_wp2_with fail
   go_ret;exact ⟨Z,Φ⟩
  | true =>
   rw [aa] at fp;have hw:=jk γ;have ey:=jk aa;have Bv:0≤f.wide * f.high:=Int.mul_nonneg (by omega) (by omega);have Zc:f.wide * f.high≤40 * 40:=Int.mul_le_mul hw.2 ey.2 (by omega) (by omega);by_cases au:(f.aP.length:Int)=f.wide * f.high
   ·have hc:=al9 A c f.aP _ (b3.keep Φ);have hd:((f.aP.length:Int)== f.wide * f.high)=true:=by simpa using au
    have DD:((f.aP.length:Int) != f.wide * f.high)=false:=by simpa using au
    rw [aC.ahG γ aa au];clear γ aa au b3;generalize f.aP.any aC.nE=r at *
    generalize f.aP.length=n at *
    cases r with
    | true =>
     go_enter func88,ntmps88;go_wp2_with fail
     refine (eg _).mono ?_;rintro e w' ⟨rfl,rfl⟩;go_wp2_with fail
     refine (fp _).mono ?_;rintro e w' ⟨rfl,rfl⟩;go_wp2_with fail
     refine hc.mono ?_;rintro e w' ⟨rfl,bo⟩;go_wp2_with fail
     go_ret;exact ⟨Z,Φ.trans (bo.mono Φ.size)⟩
    | false =>
     go_enter func88,ntmps88;go_wp2_with fail
     refine (eg _).mono ?_;rintro e w' ⟨rfl,rfl⟩;go_wp2_with fail
     refine (fp _).mono ?_;rintro e w' ⟨rfl,rfl⟩;go_wp2_with fail
     refine hc.mono ?_;rintro e w' ⟨rfl,bo⟩;go_wp2_with fail
     go_ret;exact ⟨Z,Φ.trans (bo.mono Φ.size)⟩
   ·have hd:((f.aP.length:Int)== f.wide * f.high)=false:=by simpa using au
    have DD:((f.aP.length:Int) != f.wide * f.high)=true:=by simpa using au
    rw [aC.ahK γ aa au];clear γ aa au b3;generalize f.aP.length=n at *
    go_enter func88,ntmps88;go_wp2_with fail
    refine (eg _).mono ?_;rintro e w' ⟨rfl,rfl⟩;go_wp2_with fail
    refine (fp _).mono ?_;rintro e w' ⟨rfl,rfl⟩;go_wp2_with fail
    go_ret;exact ⟨Z,Φ⟩
theorem aaT (w:World):Calls prog 128 #[.int .i64 1] w λ e w'=>e= .returned (.tuple #[.agg #[.int .i64 10, .int .i64 1, .int .i64 1, .int .i64 5], .int .i64 0])∧Below w.heap.size w w':=by
 go_enter func128,ntmps128;go_wp2
 refine bodyPost_ret (v:= .tuple #[.agg #[.int .i64 10, .int .i64 1, .int .i64 1, .int .i64 5], .int .i64 0]) (by simp [results,results128,go_sem]) Z ⟨Z,(Below.refl _ _).alloc (Nat.le_refl _) _⟩
theorem aaU (w:World):Calls prog 128 #[.int .i64 2] w λ e w'=>e= .returned (.tuple #[.agg #[.int .i64 20, .int .i64 2, .int .i64 4, .int .i64 12], .int .i64 0])∧Below w.heap.size w w':=by
 go_enter func128,ntmps128;go_wp2
 refine bodyPost_ret (v:= .tuple #[.agg #[.int .i64 20, .int .i64 2, .int .i64 4, .int .i64 12], .int .i64 0]) (by simp [results,results128,go_sem]) Z ⟨Z,(Below.refl _ _).alloc (Nat.le_refl _) _⟩
theorem aaV (k:Int) (w:World) (h:cw k 1 2=false):Calls prog 128 #[.int .i64 k] w λ e w'=>e= .returned (.tuple #[.agg #[.int .i64 0, .int .i64 0, .int .i64 0, .int .i64 0], .int .i64 1])∧Below w.heap.size w w':=by
 have cU:=aou h;have γ:(k == 1)=false:=by simp;omega
 have aa:(k == 2)=false:=by simp;omega
 clear h cU;go_enter func128,ntmps128;go_wp2
 refine bodyPost_ret (v:= .tuple #[.agg #[.int .i64 0, .int .i64 0, .int .i64 0, .int .i64 0], .int .i64 1]) (by simp [results,results128,go_sem]) Z ⟨Z,(Below.refl _ _).alloc (Nat.le_refl _) _⟩
end Go.Proofs.YtlikikpgmmkjbaaGreat
set_option linter.unusedVariables false
set_option linter.unusedSimpArgs false
namespace Go.Proofs.YtlikikpgmmkjbaaGreat
open Tryz
open Go.RowKit

theorem RY {k k':IntKind} {a b a' kz:Int} (γ:a=a') (aa:b=kz):Ending.returned (.tuple #[.int k a, .int k' b])= .returned (.tuple #[.int k a', .int k' kz]):=by rw [γ,aa]
def TP (f:aC) (c:ar) (w:World) (e:Ending) (w':World):Prop:=e= .returned (.tuple #[.int .i64 (f.lf c), .int .i64 (f.dh c)])∧Below w.heap.size w w'
theorem O1 (f:aC) (p:ar) (A:Option Addr) (c:Nat) (w:World) (b3:bz.aH 8 w A c f.aP):
  Calls prog 158 #[.agg #[.int .i64 f.wide, .int .i64 f.high, .slice A f.aP.length c], .agg #[.int .i64 p.x, .int .i64 p.y]] w (TP f p w):=by
 have hA:=aK.new w (ae.Dk A c f) 24 (0,0);have Φ:=jR w (.cells (ae.Dk A c f).toArray 24 (0,0));have aX:=aK.new (w.alloc (.cells (ae.Dk A c f).toArray 24 (0,0))) p.cells 49 (0,0);have cF:=jR (w.alloc (.cells (ae.Dk A c f).toArray 24 (0,0))) (.cells p.cells.toArray 49 (0,0));have jX:=hA.later cF;have ln:=Φ.trans (cF.mono Φ.size);have hc:=XJ f A c _ (b3.keep ln);have Gf:=b3.keep ln;obtain ⟨aM,nz⟩:∃ aM,Hid ((w.alloc (.cells (ae.Dk A c f).toArray 24 (0,0))).alloc (.cells p.cells.toArray 49 (0,0))=aM):=⟨_,Lib.hid rfl⟩;rw [nz.out] at jX aX hc ln Gf;rw [World.size_alloc] at aX;clear hA Φ cF b3;have fM:∀ K:World→Prop,K aM→K ((w.alloc (.cells #[.int .i64 f.wide, .int .i64 f.high, .slice A f.aP.length c] 24)).alloc (.cells #[.int .i64 p.x, .int .i64 p.y] 49)):=λ K h=>by
  have:=nz.out;rw [← this] at h;exact h
 by_cases aE:f.bh=0
 ·have oo:=aC.ez aE;obtain ⟨g1,g2,g3,g4,_,_⟩:=aC.jg aE;rw [aE] at hc;by_cases cM:0≤p.x∧p.x<f.wide∧0≤p.y∧p.y<f.high
  ·obtain ⟨i1,i2,i3,i4⟩:=cM;have hIn:=aC.aoD i1 i2 i3 i4;obtain ⟨aU,bc⟩:=aC.kQ aE hIn;obtain ⟨eh,gT,_⟩:=aC.idx aE hIn;have pL:0≤p.y * f.wide:=Int.mul_nonneg i3 (by omega);have Ah:p.y * f.wide≤1600:=by omega
   obtain ⟨b,o,rfl,h5⟩:=B1 Gf (by omega);have hce:=h5 (p.y * f.wide+p.x).toNat (f.place p) (by
    unfold aC.place;rw [List.getD_eq_getElem?_getD,List.getElem?_eq_getElem (show (p.y * f.wide+p.x).toNat<f.aP.length by omega)];rfl)
   have afm:=Lib.hid hce;have ia:=Lib.hid (And.intro aU bc);have sY:=Lib.hid jX;have aV:=Lib.hid aX;have d1:decide (p.x<0)=false:=by simpa using i1
   have d2:decide (p.y<0)=false:=by simpa using i3
   clear aE hIn aU bc h5 hce Gf jX aX;go_enter func158,ntmps158;go_wp2_with fail
   refine fM (λ W=>Calls _ _ _ W _) ?_;refine hc.mono ?_;rintro e cl ⟨rfl,bo⟩;obtain ⟨kZ,j1,nd⟩:=ae.XA (sY.out.later bo);obtain ⟨zG,r1⟩:=ar.eu (aV.out.later bo);have azT:=cell_later bo afm.out;go_wp2_with fail
   go_ret2
   exact ⟨RY ia.out.2.symm ia.out.1.symm,ln.trans (bo.mono ln.size)⟩
  ·have DN:p.x<0∨f.wide≤p.x∨p.y<0∨f.high≤p.y:=by omega
   have ia:=Lib.hid (aC.FF aE (aC.aoE DN));have sY:=Lib.hid jX;have aV:=Lib.hid aX;clear aE Gf jX aX cM;have afv:=Lib.hid DN;clear DN;go_enter func158,ntmps158;go_wp2_with fail
   refine fM (λ W=>Calls _ _ _ W _) ?_;refine hc.mono ?_;rintro e cl ⟨rfl,bo⟩;obtain ⟨kZ,j1,nd⟩:=ae.XA (sY.out.later bo);obtain ⟨zG,r1⟩:=ar.eu (aV.out.later bo);have key:decide (p.x<0)=true∨(decide (p.x<0)=false∧decide (f.wide≤p.x)=true)∨(decide (p.x<0)=false∧decide (f.wide≤p.x)=false∧decide (p.y<0)=true)∨(decide (p.x<0)=false∧decide (f.wide≤p.x)=false∧decide (p.y<0)=false∧decide (f.high≤p.y)=true):=by
    have:=afv.out;by_cases dk:p.x<0
    ·simp [dk]
    by_cases ea:f.wide≤p.x
    ·simp [dk,ea]
    by_cases jl:p.y<0
    ·simp [dk,ea,jl]
    ·simp [dk,ea,jl];omega
   rcases key with h | ⟨h,aa⟩ | ⟨h,aa,au⟩ | ⟨h,aa,au,a1⟩
   all_goals
    go_wp2_with fail
    go_ret2
    exact ⟨RY ia.out.2.symm ia.out.1.symm,ln.trans (bo.mono ln.size)⟩
 ·obtain ⟨aU,bc⟩:=aC.NQ (c:=p) aE;have ia:=Lib.hid (And.intro aU bc);have dK:(f.bh == 0)=false:=by simpa using aE
  have aAo:(f.bh != 0)=true:=by simpa using aE
  clear aU bc aE Gf jX aX;generalize f.bh=k at *
  go_enter func158,ntmps158;go_wp2_with fail
  refine fM (λ W=>Calls _ _ _ W _) ?_;refine hc.mono ?_;rintro e cl ⟨rfl,bo⟩;go_wp2_with fail
  go_ret2
  exact ⟨RY ia.out.2.symm ia.out.1.symm,ln.trans (bo.mono ln.size)⟩
theorem Ga (f:aC) (p:ar) (A:Option Addr) (c:Nat) (w:World) (b3:bz.aH 8 w A c f.aP) (aE:f.bh=0):
  Calls prog 125 #[.agg #[.int .i64 f.wide, .int .i64 f.high, .slice A f.aP.length c], .agg #[.int .i64 p.x, .int .i64 p.y]] w λ e w'=>e= .returned (.bool (f.ground p))∧Below w.heap.size w w':=by
 have Φ:=jR w (.cells #[.int .i64 f.wide, .int .i64 f.high, .slice A f.aP.length c] 24);have cF:=jR (w.alloc (.cells #[.int .i64 f.wide, .int .i64 f.high, .slice A f.aP.length c] 24)) (.cells #[.int .i64 p.x, .int .i64 p.y] 49);have ln:=Φ.trans (cF.mono Φ.size);have hc:=O1 f p A c _ (b3.keep ln);unfold TP at hc;clear Φ cF b3;cases cM:f.ek p with
 | true =>
  obtain ⟨aU,bc⟩:=aC.kQ aE cM;rw [aU,bc] at hc;have aO:f.ground p=(f.place p != 1):=by unfold aC.ground;rw [cM];rfl
  rw [aO];clear aU bc cM aO aE;generalize f.place p=v at *
  generalize f.aP.length=n at *
  cases hv:v != 1 with
  | true =>
   have zh:(v == 1)=false:=by simpa using hv
   go_enter func125,ntmps125;go_wp2_with fail
   refine hc.mono ?_;rintro e cl ⟨rfl,bo⟩;go_wp2_with fail
   go_ret;exact ⟨gD (by simp),ln.trans (bo.mono ln.size)⟩
  | false =>
   have zh:(v == 1)=true:=by simpa using hv
   go_enter func125,ntmps125;go_wp2_with fail
   refine hc.mono ?_;rintro e cl ⟨rfl,bo⟩;go_wp2_with fail
   go_ret;exact ⟨gD (by simp),ln.trans (bo.mono ln.size)⟩
 | false =>
  obtain ⟨aU,bc⟩:=aC.FF aE cM;rw [aU,bc] at hc;have aO:f.ground p=false:=by unfold aC.ground;rw [cM];rfl
  rw [aO];clear aU bc cM aO aE;generalize f.aP.length=n at *
  go_enter func125,ntmps125;go_wp2_with fail
  refine hc.mono ?_;rintro e cl ⟨rfl,bo⟩;go_wp2_with fail
  go_ret;exact ⟨Z,ln.trans (bo.mono ln.size)⟩
end Go.Proofs.YtlikikpgmmkjbaaGreat
set_option linter.unusedVariables false
set_option linter.unusedSimpArgs false
namespace Go.Proofs.YtlikikpgmmkjbaaGreat
open Tryz
open Go.RowKit

def ar.is (p x:ar):Bool:=decide (x=p)
theorem ar.aoG {p x:ar} (h:ar.is p x=true):x=p:=by simpa [ar.is] using h
theorem ar.aoF {p x:ar} (h:ar.is p x=false):((p.x == x.x)=false)∨((p.x == x.x)=true∧(p.y == x.y)=false):=by
 have:¬ x=p:=by simpa [ar.is] using h
 obtain ⟨a,b⟩:=p;obtain ⟨c,d⟩:=x;simp at this ⊢;omega
theorem aom (p:ar) (A:Option Addr) (c:Nat) (l:List ar) (w:World) (az:ar.rep.aH 16 w A c l):
  Calls prog 159 #[.slice A l.length c, .agg #[.int .i64 p.x, .int .i64 p.y]] w λ e w'=>e= .returned (.int .i64 (gh (ar.is p) l))∧Below w.heap.size w w':=by
 obtain ⟨n,hn⟩:∃ n,l.length=n:=⟨_,rfl⟩;have hle:n≤9223372036854775807:=by have:=az.1;have:=az.2.1;omega
 rw [hn];have cr:=jR w (.cells #[.int .i64 p.x, .int .i64 p.y] 49);have aV:=Lib.hid (aK.new w p.cells 49 (0,0));have ob:=Lib.hid (az.keep cr);have e4:=Lib.hid hn;clear az hn;go_enter func159,ntmps159;go_wp2_with fail
 obtain ⟨w0,hT⟩:∃ w0,Hid (w0=w.alloc (.cells #[.int .i64 p.x, .int .i64 p.y] 49)):=⟨_,Lib.hid rfl⟩;rw [← hT.out] at cr ⊢;have aV:Hid (aK w0 w.heap.size p.cells 49 (0,0)):=by rw [hT.out];exact aV
 have ob:Hid (ar.rep.aH 16 w0 A c l):=by rw [hT.out];exact ob
 go_loopw [5,8] (λ _ fW wr=>∃ k m:Nat,k≤n∧fW= .int .i64 (k:Int)∧Hid (∀ j (ay:j<k) (pe:j<l.length),(ar.is p) l[j]=false)∧Hid (wr=w0.drewN m)) (λ _ fW _=>n - (intOf fW).toNat)
 case atStart=>exact ⟨0,0,Nat.zero_le _,rfl,(λ j ay=>by omega),rfl⟩
 case round =>
  obtain ⟨k,m,av,rfl,gA,yg⟩:=hrel;by_cases bl:k<n
  ·have hE:k<l.length:=by rw [e4.out];exact bl
   have Yi:ar.rep.aH 16 wr A c l:=by rw [yg.out];exact ob.out.drewN m
   have Yc:aK wr w.heap.size p.cells 49 (0,0):=by rw [yg.out];exact aV.out.drewN m
   have yZ:Below w.heap.size w wr:=by rw [yg.out];exact below_drewN cr m
   obtain ⟨b,o,rfl,h5⟩:=ar.at_ Yi (by omega);obtain ⟨x,pj⟩:∃ x,l[k]'hE=x:=⟨_,rfl⟩;obtain ⟨kZ,j1⟩:=h5 k x (by rw [List.getElem?_eq_getElem hE,pj]);obtain ⟨zG,r1⟩:=ar.eu Yc;have s7:=Lib.hid pj;have nO:(k:Int)<(n:Int):=by omega
   have xl:(0:Int)≤(k:Int):=by omega
   clear h5 pj Yi Yc;cases h4:(ar.is p) x with
   | true =>
    have jD:gh (ar.is p) l=(k:Int):=G6 hE (by rw [s7.out];exact h4) λ j ay=>gA.out j ay (by omega);have oQ:=Lib.hid jD;have aoa:=ar.aoG h4;subst aoa;clear jD h4;go_wp2_with fail
    go_quiet (fail)
    go_wp2_with fail
    go_ret;exact ⟨by rw [oQ.out];rfl,below_drewN yZ _⟩
   | false =>
    have ny:Hid (∀ j (ay:j<k+1) (pe:j<l.length),(ar.is p) l[j]=false):=by
     intro j ay pe;by_cases h:j<k
     ·exact gA.out j h pe
     ·obtain rfl:j=k:=by omega
      rw [s7.out];exact h4
    have dK:=ar.aoF h4;clear h4;rcases dK with γ | ⟨γ,aa⟩
    all_goals
     go_wp2_with fail
     go_quiet (fail)
     go_wp2_with fail
     go_roundw
     case rel=>exact ⟨k+1,_,by omega,by go_num,ny,by show _=_;rw [yg.out];simp;rfl⟩
     case measure=>simp [intOf];omega
  ·have jD:gh (ar.is p) l= -1:=DT λ j ay=>gA.out j (by have:=e4.out;omega) ay;have oQ:=Lib.hid jD;have an8:=yg.out;subst an8;clear jD;go_wp2_with fail
   go_ret;exact ⟨by rw [oQ.out];rfl,below_drewN cr _⟩
theorem al7 (p:ar) (A:Option Addr) (c:Nat) (l:List ar) (w:World) (az:ar.rep.aH 16 w A c l):
  Calls prog 126 #[.slice A l.length c, .agg #[.int .i64 p.x, .int .i64 p.y]] w λ e w'=>e= .returned (.bool (l.contains p))∧Below w.heap.size w w':=by
 have cr:=jR w (.cells #[.int .i64 p.x, .int .i64 p.y] 49);have hc:=aom p A c l _ (az.keep cr);have nK:l.contains p=decide (0≤gh (ar.is p) l):=by
  rw [QH,List.contains_eq_any_beq];congr 1
  funext x
  unfold ar.is;by_cases h:x=p
  ·simp [h]
  ·simp [h,Ne.symm h]
 rw [nK];generalize gh (ar.is p) l=r at *
 generalize l.length=n at *
 clear az nK;go_enter func126,ntmps126;go_wp2_with (go_at_call 159;refine hc.mono ?_;rintro e w' ⟨rfl,bo⟩)
 go_ret;exact ⟨Z,cr.trans (bo.mono cr.size)⟩
open Tryz
section
open Go.RowKit
theorem bf.JS {w:World} {aB:Nat} {a:ae.b6} {W:ae} (h:bf w aB a W):
  (∀ x∈κ.af a.M,x∉κ.af a.P∧x∉κ.af a.B∧x∉κ.af a.S∧x∉κ.af a.T)∧
  (∀ x∈κ.af a.T,x∉κ.af a.P∧x∉κ.af a.B∧x∉κ.af a.S∧x∉κ.af a.M)∧
  (∀ x∈κ.af a.S,x∉κ.af a.P∧x∉κ.af a.B∧x∉κ.af a.M∧x∉κ.af a.T):=by
 have hn:=h.apart;rw [List.nodup_append,List.nodup_append,List.nodup_append,List.nodup_append] at hn;obtain ⟨⟨⟨⟨_,_,BU⟩,_,rq⟩,_,nX⟩,_,pz⟩:=hn;refine ⟨λ x hx=>⟨λ hp=> ?_,λ hp=> ?_,λ hp=> ?_,λ hp=> ?_⟩,λ x hx=>⟨λ hp=> ?_,λ hp=> ?_,λ hp=> ?_,λ hp=> ?_⟩,λ x hx=>⟨λ hp=> ?_,λ hp=> ?_,λ hp=> ?_,λ hp=> ?_⟩⟩
 ·exact nX x (by simp [hp]) x hx Z
 ·exact nX x (by simp [hp]) x hx Z
 ·exact nX x (by simp [hp]) x hx Z
 ·exact pz x (by simp [hx]) x hp Z
 ·exact pz x (by simp [hp]) x hx Z
 ·exact pz x (by simp [hp]) x hx Z
 ·exact pz x (by simp [hp]) x hx Z
 ·exact pz x (by simp [hp]) x hx Z
 ·exact rq x (by simp [hp]) x hx Z
 ·exact rq x (by simp [hp]) x hx Z
 ·exact nX x (by simp [hx]) x hp Z
 ·exact pz x (by simp [hx]) x hp Z
theorem r6 {a:ae.b6} {g:Nat}:g∈bf.b4 a↔g∈κ.af a.P∨g∈κ.af a.B∨g∈κ.af a.S∨g∈κ.af a.M∨g∈κ.af a.T:=by
 unfold bf.b4;simp only [List.mem_append];constructor
 ·rintro ((((h | h) | h) | h) | h)<;>simp [h]
 ·rintro (h | h | h | h | h)<;>simp [h]
namespace ae
def jo (k:Int):Int:=if k=1 then 5 else if k=2 then 12 else 0
end ae
theorem bf.mod {w aM:World} {aB:Nat} {a:ae.b6} {W:ae} {S:List Nat} (h:bf w aB a W) (m:Mod S w aM) (hd:∀ x∈bf.b4 a,x∉S):bf aM aB a W :=
 ⟨h.P.mod m λ x hx=>hd x (r6.2 (.inl hx)),h.B.mod m λ x hx=>hd x (r6.2 (.inr (.inl hx))),h.S.mod m λ x hx=>hd x (r6.2 (.inr (.inr (.inl hx)))),h.M.mod m λ x hx=>hd x (r6.2 (.inr (.inr (.inr (.inl hx))))),h.T.mod m λ x hx=>hd x (r6.2 (.inr (.inr (.inr (.inr hx))))),h.apart,h.nums⟩
theorem og {a:ae.b6} {q:Nat} (h:q∈κ.af a.T):q∈bf.b4 a:=r6.2 (.inr (.inr (.inr (.inr h))))
theorem yQ {a:ae.b6} {q:Nat} (h:q∈κ.af a.S):q∈bf.b4 a:=r6.2 (.inr (.inr (.inl h)))
theorem A' {a:ae.b6} {q:Nat} (h:q∈κ.af a.M):q∈bf.b4 a:=r6.2 (.inr (.inr (.inr (.inl h))))
theorem Kf {a:ae.b6} {q:Nat} (h:q∈κ.af a.B):q∈bf.b4 a:=r6.2 (.inr (.inl h))
theorem Kg {a:ae.b6} {q:Nat} (h:q∈κ.af a.P):q∈bf.b4 a:=r6.2 (.inl h)
theorem bf.acM {w aM:World} {aB:Nat} {a:ae.b6} {W:ae} {l:List Int} (h:bf w aB a W) (m:Mod (κ.af a.S) w aM) (hS:bz.aF 3 8 aM aB (κ.af a.S) a.S a.s l):bf aM aB a {W with a_:=l}:=by
 obtain ⟨d1,d2,d3⟩:=h.JS;exact ⟨h.P.mod m λ x hx hs=>(d3 x hs).1 hx,h.B.mod m λ x hx hs=>(d3 x hs).2.1 hx,hS,h.M.mod m λ x hx hs=>(d3 x hs).2.2.1 hx,h.T.mod m λ x hx hs=>(d3 x hs).2.2.2 hx,h.apart,h.nums⟩
theorem bf.swapT {w aM:World} {aB:Nat} {a:ae.b6} {W:ae} {l:List aW} {A:Option Addr} {c:Nat} (h:bf w aB a W) (m:Mod (κ.af a.T) w aM) (bQ:aW.rep.aF 66 56 aM aB (κ.af A) A c l) (I:∀ q∈κ.af A,q∈κ.af a.T∨w.heap.size≤q):
  bf aM aB {a with T:=A,t:=c} {W with ag:=l}:=by
 obtain ⟨d1,d2,d3⟩:=h.JS;refine ⟨h.P.mod m λ x hx hs=>(d2 x hs).1 hx,h.B.mod m λ x hx hs=>(d2 x hs).2.1 hx,h.S.mod m λ x hx hs=>(d2 x hs).2.2.1 hx,h.M.mod m λ x hx hs=>(d2 x hs).2.2.2 hx,bQ, ?_,h.nums⟩;have hn:=h.apart;rw [List.nodup_append] at hn ⊢;refine ⟨hn.1,rX A,λ x hx y aG e=> ?_⟩;subst e;rcases I x aG with aG | aG
 ·exact hn.2.2 x hx x aG Z
 ·have hf:x∈bf.b4 a:=by unfold bf.b4;rw [List.mem_append];exact .inl hx
  have:=(h.lt x hf).2;omega
theorem bf.acL {w:World} {aB:Nat} {a:ae.b6} {W V:ae} (h:bf w aB a W) (γ:V.field.aP=W.field.aP) (aa:V.aY=W.aY) (au:V.a_=W.a_) (a1:V.bm=W.bm) (bO:V.ag=W.ag) (hn:fE V.field.wide∧fE V.field.high∧fE V.next∧fE V.now):bf w aB a V :=
 ⟨by rw [γ];exact h.P,by rw [aa];exact h.B,by rw [au];exact h.S,by rw [a1];exact h.M,by rw [bO];exact h.T,h.apart,hn⟩
theorem XL {w:World} {aB:Nat} {a:ae.b6} {W:ae} {A:Option Addr} {c q:Nat} (h:q∈bf.b4 {a with T:=A,t:=c}):q∈bf.b4 a∨q∈κ.af A:=by
 rcases r6.1 h with h | h | h | h | h
 ·exact .inl (Kg h)
 ·exact .inl (Kf h)
 ·exact .inl (yQ h)
 ·exact .inl (A' h)
 ·exact .inr h
def Em (k:Int):Int:=if k=1 then 1 else if k=2 then 2 else 0
def q6 (k:Int):Int:=if k=1 then 1 else if k=2 then 4 else 0
def DV (k:Int):Int:=if k=1 then 0 else if k=2 then 0 else 1
theorem QR (k:Int) (w:World):Calls prog 128 #[.int .i64 k] w λ e w'=>e= .returned (.tuple #[.agg #[.int .i64 (ae.iG k), .int .i64 (Em k), .int .i64 (q6 k), .int .i64 (ae.jo k)], .int .i64 (DV k)])∧Ext w w':=by
 by_cases γ:k=1
 ·subst γ;exact aaT w
 ·by_cases aa:k=2
  ·subst aa;exact aaU w
  ·have:=aaV k w (nT (by omega));simpa [ae.iG,Em,q6,ae.jo,DV,γ,aa] using this
theorem bf.down {w:World} {aB FC:Nat} {a:ae.b6} {W:ae} (h:bf w aB a W) (bw:FC≤aB):bf w FC a W:=⟨h.P.down bw,h.B.down bw,h.S.down bw,h.M.down bw,h.T.down bw,h.apart,h.nums⟩
def ae.zero:ae:=⟨⟨0,0, []⟩, [], [], [], [],0,0⟩
theorem bf.zero (w:World) (aB:Nat):bf w aB ⟨none,none,none,none,none,0,0,0,0,0⟩ ae.zero:=⟨κ.aF.nil w,κ.aF.nil w,κ.aF.nil w,κ.aF.nil w,κ.aF.nil w,by simp [κ.af],bt.2 (by decide),bt.2 (by decide),bt.2 (by decide),bt.2 (by decide)⟩
theorem NP {f:aC} {c:ar} (h:f.bh=0) (he:f.dh c=0):f.ek c=true:=by
 cases ao:f.ek c with
 | true=>rfl
 | false=>rw [(aC.FF h ao).1] at he;omega
theorem p3 (f:aC) (p:ar) (A:Option Addr) (c:Nat) (w:World) (b3:bz.aH 8 w A c f.aP):
  Calls prog 158 #[.agg #[.int .i64 f.wide, .int .i64 f.high, .slice A f.aP.length c], .agg #[.int .i64 p.x, .int .i64 p.y]] w λ e w'=>e= .returned (.tuple #[.int .i64 (f.lf p), .int .i64 (f.dh p)])∧Below w.heap.size w w':=O1 f p A c w b3
theorem bf.abC {w:World} {aB:Nat} {P B S M T:Option Addr} {p b s m t:Nat} {W:ae} (b3:bz.aF 3 8 w aB (κ.af P) P p W.field.aP) (aX:ar.rep.aF 49 16 w aB (κ.af B) B b W.aY) (hS:bz.aF 3 8 w aB (κ.af S) S s W.a_) (tI:bz.aF 3 8 w aB (κ.af M) M m W.bm) (bQ:aW.rep.aF 66 56 w aB (κ.af T) T t W.ag)
  (γ:∀ q∈κ.af B,q∈κ.af P→False) (aa:∀ q∈κ.af S,q∈κ.af P→False) (au:∀ q∈κ.af S,q∈κ.af B→False) (a1:∀ q∈κ.af M,q∈κ.af P→False) (bO:∀ q∈κ.af M,q∈κ.af B→False) (b_:∀ q∈κ.af M,q∈κ.af S→False)
  (dW:∀ q∈κ.af T,q∈κ.af P→False) (fu:∀ q∈κ.af T,q∈κ.af B→False) (p5:∀ q∈κ.af T,q∈κ.af S→False) (Kq:∀ q∈κ.af T,q∈κ.af M→False) (hn:fE W.field.wide∧fE W.field.high∧fE W.next∧fE W.now):
  bf w aB ⟨P,B,S,M,T,p,b,s,m,t⟩ W:=by
 refine ⟨b3,aX,hS,tI,bQ, ?_,hn⟩;have aU:=rX P;have bc:=rX B;have cy:=rX S;have jd:=rX M;have FP:=rX T;simp only [List.nodup_append,List.mem_append]
 grind
theorem bf.aql {w:World} {aB:Nat} {a:ae.b6} {W:ae} {A:Option Addr} {c:Nat} {p:List aW} (h:bf w aB a W) (bQ:aW.rep.aF 66 56 w aB (κ.af A) A c p) (γ:∀ q∈κ.af A,q∈bf.b4 a→False):bf w aB {a with T:=A,t:=c} {W with ag:=p}:=by
 refine ⟨h.P,h.B,h.S,h.M,bQ, ?_,h.nums⟩;have hn:=h.apart;have aU:=rX A;have f1:∀ q∈κ.af A,(q∈κ.af a.P→False)∧(q∈κ.af a.B→False)∧(q∈κ.af a.S→False)∧(q∈κ.af a.M→False):=λ q I=>⟨λ h=>γ q I (Kg h),λ h=>γ q I (Kf h),λ h=>γ q I (yQ h),λ h=>γ q I (A' h)⟩;simp only [List.nodup_append,List.mem_append] at hn ⊢
 grind
theorem akO {a:ae.b6} {A:Option Addr} {c q:Nat} (h:q∈bf.b4 {a with T:=A,t:=c}):q∈bf.b4 a∨q∈κ.af A:=by
 rcases r6.1 h with h | h | h | h | h
 ·exact .inl (Kg h)
 ·exact .inl (Kf h)
 ·exact .inl (yQ h)
 ·exact .inl (A' h)
 ·exact .inr h
structure af0 (a:ae.b6):Prop where
 oW:∀ q∈κ.af a.P,q∈κ.af a.S→False
 afX:∀ q∈κ.af a.P,q∈κ.af a.M→False
 afW:∀ q∈κ.af a.P,q∈κ.af a.B→False
 afZ:∀ q∈κ.af a.P,q∈κ.af a.T→False
 aga:∀ q∈κ.af a.S,q∈κ.af a.M→False
 af9:∀ q∈κ.af a.S,q∈κ.af a.B→False
 ST:∀ q∈κ.af a.S,q∈κ.af a.T→False
 afH:∀ q∈κ.af a.M,q∈κ.af a.B→False
 Nn:∀ q∈κ.af a.M,q∈κ.af a.T→False
 aeZ:∀ q∈κ.af a.B,q∈κ.af a.T→False
theorem bf.aq8 {w:World} {aB:Nat} {a:ae.b6} {W:ae} (h:bf w aB a W):af0 a:=by
 have hn:=h.apart;simp only [List.nodup_append,List.mem_append] at hn
 constructor<;>grind
theorem bf.tr {w:World} {aB:Nat} {a:ae.b6} {W:ae} (h:bf w aB a W):a.p≤9223372036854775807∧a.s≤9223372036854775807∧a.m≤9223372036854775807∧a.b≤9223372036854775807∧a.t≤9223372036854775807:=⟨h.P.has.2.1,h.S.has.2.1,h.M.has.2.1,h.B.has.2.1,h.T.has.2.1⟩
end
section
open Go.RowKit
def n1 (f:aC) (c:ar):Int:=if f.ek c then qZ (f.place c) else 0
theorem V_ {f:aC} {c:ar} (hf:f.bh=0) (hc:f.ek c=true):(rZ (f.place c)== 0)=f.ground c∧(f.ground c=true→qZ (f.place c)=f.fv c):=by
 obtain ⟨_,_,_,_,_,g6⟩:=aC.jg hf;have hp:=g6 (f.place c) (by unfold aC.place;exact lz (aC.ve hf hc).1);unfold aC.ground;rw [hc];have:f.place c=0∨f.place c=1∨f.place c=2∨f.place c=3:=by omega
 unfold aC.fv rZ qZ;rcases this with h | h | h | h<;>rw [h]<;>simp
theorem ard {f:aC} {c:ar} (hf:f.bh=0) (h:¬ f.dh c=0):n1 f c=0∧f.ground c=false:=by
 have hc:f.ek c=false:=by
  cases hc:f.ek c with
  | false=>rfl
  | true=>exact absurd (aC.kQ hf hc).1 h
 unfold n1 aC.ground;rw [hc];exact ⟨Z,Z⟩
theorem arc {f:aC} {c:ar} (hf:f.bh=0) (h:f.dh c=0):n1 f c=qZ (f.lf c)∧f.ground c=(rZ (f.lf c)== 0):=by
 have hc:=NP hf h;rw [(aC.kQ hf hc).2];unfold n1;rw [hc];exact ⟨Z,(V_ hf hc).1.symm⟩
theorem abN {f:aC} {c:ar} (hf:f.bh=0) (h:f.ground c=true):n1 f c=f.fv c:=by
 have hc:=aC.iD h;unfold n1;rw [if_pos hc];exact (V_ hf hc).2 h
theorem akt (p:Int) (w:World):
  Calls prog 199 #[.int .i64 p] w (λ e w'=>e= .returned (.tuple #[.int .i64 (qZ p), .int .i64 (rZ p)])∧Ext w w'):=by
 refine cv (n:=12) func199 Z Z Z ?_;refine aj<|va Z<|va Z<|ah<|aD<|aj<|vm Z<|ah<|bP<|aD<|aj<|J (beq Z Z)<|va Z<|ah<| ?_;refine l3 Z (λ ll=> ?_) (λ ll=> ?_)
 ·have aA7:(p == 0)=true:=by simpa using ll
  refine bx<| ?_;refine l3 Z (λ PJ=> ?_) (λ PJ=> ?_)
  ·have aBa:(p == 0)=true:=by simpa using PJ
   refine aj<|va Z<|va Z<|ah<|rt<|gF<|cf<|bp (.tmp Z (.tmp Z .nil))<| ?_;exact ⟨by simp_all [qZ,rZ,rz],(Ext.bM w)⟩
  ·have aBb:(p == 0)=false:=by simpa using PJ
   refine aj<|J (beq Z Z)<|va Z<|ah<| ?_;refine l3 Z (λ l9=> ?_) (λ l9=> ?_)
   ·have aBc:(p == 2)=true:=by simpa using l9
    refine aj<|va Z<|va Z<|ah<|rt<|gF<|cf<|bp (.tmp Z (.tmp Z .nil))<| ?_;exact ⟨by simp_all [qZ,rZ,rz],(Ext.bM w)⟩
   ·have aBd:(p == 2)=false:=by simpa using l9
    refine aj<|J (beq Z Z)<|va Z<|ah<| ?_;refine l3 Z (λ Bj=> ?_) (λ Bj=> ?_)
    ·have aA0:(p == 1)=true:=by simpa using Bj
     refine aj<|va Z<|va Z<|ah<|rt<|gF<|cf<|bp (.tmp Z (.tmp Z .nil))<| ?_;exact ⟨by simp_all [qZ,rZ,rz],(Ext.bM w)⟩
    ·have aA1:(p == 1)=false:=by simpa using Bj
     refine hk<|cg<|a6<|aj<|va Z<|va Z<|ah<|rt<|bp (.tmp Z (.tmp Z .nil))<| ?_;exact ⟨by simp_all [qZ,rZ,rz],(Ext.bM w)⟩
 ·have aA2:(p == 0)=false:=by simpa using ll
  refine rg<|J (beq Z Z)<|va Z<|ah<| ?_;refine l3 Z (λ xc=> ?_) (λ xc=> ?_)
  ·have aA3:(p == 3)=true:=by simpa using xc
   refine aj<|va Z<|va Z<|ah<|rt<|gF<|cf<|bp (.tmp Z (.tmp Z .nil))<| ?_;exact ⟨by simp_all [qZ,rZ,rz],(Ext.bM w)⟩
  ·have aA4:(p == 3)=false:=by simpa using xc
   refine aj<|J (beq Z Z)<|va Z<|ah<| ?_;refine l3 Z (λ Bc=> ?_) (λ Bc=> ?_)
   ·have aA5:(p == 2)=true:=by simpa using Bc
    refine aj<|va Z<|va Z<|ah<|rt<|gF<|cf<|bp (.tmp Z (.tmp Z .nil))<| ?_;exact ⟨by simp_all [qZ,rZ,rz],(Ext.bM w)⟩
   ·have aA6:(p == 2)=false:=by simpa using Bc
    refine aj<|J (beq Z Z)<|va Z<|ah<| ?_;refine l3 Z (λ q5=> ?_) (λ q5=> ?_)
    ·have aA8:(p == 1)=true:=by simpa using q5
     refine aj<|va Z<|va Z<|ah<|rt<|gF<|cf<|bp (.tmp Z (.tmp Z .nil))<| ?_;exact ⟨by simp_all [qZ,rZ,rz],(Ext.bM w)⟩
    ·have aA9:(p == 1)=false:=by simpa using q5
     refine hk<|cg<|a6<|aj<|va Z<|va Z<|ah<|rt<|bp (.tmp Z (.tmp Z .nil))<| ?_;exact ⟨by simp_all [qZ,rZ,rz],(Ext.bM w)⟩
theorem pB (w0:World) (f:aC) (P F A:Option Addr) (cu eQ c b:Nat) (aT:List Int) (l:List bU) (bd:ar) (p:ar) (w:World) (hI:Ext w0 w) (hf:f.bh=0) (b3:bz.aH 8 w0 P cu f.aP) (aV:aK w b [.int .i64 f.wide, .int .i64 f.high, .slice P f.aP.length cu, .int .i64 bd.x, .int .i64 bd.y, .slice F aT.length eQ, .slice A l.length c] 265 (0,0)) (hp: -500≤p.x∧p.x≤500∧ -500≤p.y∧p.y≤500):
  Calls prog 166 #[.pointer (some ⟨b,0,none⟩), .agg #[.int .i64 p.x, .int .i64 p.y]] w (λ e w'=>e= .returned (.int .i64 (p.y * f.wide+p.x))∧Ext w w'):=by
 have uB:=aV.lt;obtain ⟨g1,g2,g3,g4,g5,g6⟩:=aC.jg hf;have kZ:=hI.size;refine cv (n:=16) func166 Z Z Z ?_;refine aj<|cI Z Z Z Z λ dw bC bg eY ab=> ?_;have:=bg.size;have br:=τ hI bg;have eZ:=ab.lt;refine va Z<|ah<|aD<| ?_;refine rd [(1,0),(6,0),(9,0)] [0,1,2,3,4,5,6,7,8,9,10,11] (by kernel_rfl) (by kernel_rfl) ?_;refine aq Z (λ _=>aw hh Z)<|bD Z (λ _ x=>ak Z ((ab.later x).one aZ Z))<|aq Z (λ _=>aJ Z)<|aq Z (λ _=>cn Z)<|aq Z (λ _=>aw Xj Z)<|aq Z (λ _=>aw OA Z)<| ?_;have aV:=aV.later bg;refine bD Z (λ _ x=>ak Z ((aV.later x).one aZ Z))<|aq Z (λ _=>yB Z Z (bF ((by have:=Int.mul_le_mul (show p.y≤500 by omega) g2 (by omega) (by omega);have:=Int.mul_le_mul (show -p.y≤500 by omega) g2 (by omega) (by omega);rw [Int.neg_mul] at this;omega))))<|aq Z (λ _=>aw gJ Z)<|bD Z (λ _ x=>ak Z ((ab.later x).one aZ Z))<|aq Z (λ _=>bad Z Z (bF ((by have:=Int.mul_le_mul (show p.y≤500 by omega) g2 (by omega) (by omega);have:=Int.mul_le_mul (show -p.y≤500 by omega) g2 (by omega) (by omega);rw [Int.neg_mul] at this;omega))))<|aq Z (λ _=>eV Z)<|fn λ eB dn=> ?_;have:=dn.size;have bS:=τ br dn;refine a6<|rt<|bp (.tmp Z .nil)<| ?_;exact ⟨Z,τ bg dn⟩
theorem RB (w0:World) (f:aC) (P F A:Option Addr) (cu eQ c b:Nat) (aT:List Int) (l:List bU) (bd:ar) (p:ar) (w:World) (hI:Ext w0 w) (hf:f.bh=0) (b3:bz.aH 8 w0 P cu f.aP) (aV:aK w b [.int .i64 f.wide, .int .i64 f.high, .slice P f.aP.length cu, .int .i64 bd.x, .int .i64 bd.y, .slice F aT.length eQ, .slice A l.length c] 265 (0,0)):
  Calls prog 164 #[.pointer (some ⟨b,0,none⟩), .agg #[.int .i64 p.x, .int .i64 p.y]] w (λ e w'=>e= .returned (.tuple #[.int .i64 (n1 f p), .bool (f.ground p)])∧Ext w w'):=by
 have uB:=aV.lt;obtain ⟨g1,g2,g3,g4,g5,g6⟩:=aC.jg hf;have kZ:=hI.size;refine cv (n:=28) func164 Z Z Z ?_;refine aj<|cI Z Z Z Z λ dw bC bg eY ab=> ?_;have:=bg.size;have br:=τ hI bg;have eZ:=ab.lt;refine va Z<|va Z<|ah<|aD<| ?_;refine rd [(3,0),(4,0),(5,0)] [0,1,2,3,4,5,6,7,8,9,10] (by kernel_rfl) (by kernel_rfl) ?_;refine aq Z (λ _=>aJ Z)<|aq Z (λ _=>cn Z)<|aq Z (λ _=>aw Xj Z)<| ?_;have aV:=aV.later bg;refine bD Z (λ _ x=>ak Z ((aV.later x).par [.int .i64 f.wide, .int .i64 f.high, .slice P f.aP.length cu] kb kc Z))<|bD Z (λ _ x=>ak Z ((ab.later x).all bZ bE))<|o8 Z Z o4 Z (λ _ x=>p3 f p _ _ _ (b3.keep (τ br x))) Z<|aq Z (λ _=>aJ Z)<|aq Z (λ _=>ex Z Z)<|aq Z (λ _=>ex Z Z)<|aq Z (λ _=>eV Z)<|aq Z (λ _=>eV Z)<|fn λ eB dn=> ?_;have:=dn.size;have bS:=τ br dn;refine a6<|aD<|aj<|vm Z<|J (bne Z Z)<|ah<| ?_;refine hg Z (λ jh=> ?_) (λ jh=> ?_)
 ·have GM:=ard hf jh;refine aj<|va Z<|va Z<|ah<|rt<|cf<|bp (.tmp Z (.tmp Z .nil))<| ?_;exact ⟨by rw [GM.1,GM.2];rfl,τ bg dn⟩
 ·have GM:=arc hf jh;refine bx<|aj<|vm Z<|ca ajP Z Z ((akt (f.lf p) _).mono ?_);rintro e B' ⟨rfl,eC⟩;refine ⟨_,Z, ?_⟩;have:=eC.size;have n9:=τ bS eC;refine vm Z<|J (ex Z Z)<|J (ex Z Z)<|va Z<|va Z<|ah<|aj<|vm Z<|vm Z<|J (beq Z Z)<|va Z<|va Z<|ah<|rt<|bp (.tmp Z (.tmp Z .nil))<| ?_;exact ⟨by rw [GM.1,GM.2];rfl,τ (τ bg dn) eC⟩
theorem ab0 (p:ar) (w:World) (hp: -100000≤p.x∧p.x≤100000∧ -100000≤p.y∧p.y≤100000):
  Calls prog 165 #[.agg #[.int .i64 p.x, .int .i64 p.y]] w (λ e w'=>e= .returned (.agg #[.int .i64 p.x, .int .i64 (p.y - 1), .int .i64 (p.x - 1), .int .i64 p.y, .int .i64 (p.x+1), .int .i64 p.y, .int .i64 p.x, .int .i64 (p.y+1)])∧Ext w w'):=by
 refine cv (n:=28) func165 Z Z Z ?_;refine aj<|cI Z Z Z Z λ dw bC bg eY ab=> ?_;have:=bg.size;have br:=τ (Ext.bM w) bg;have eZ:=ab.lt;refine al Z ajQ Z Z λ eB c_ bj iF ai=> ?_;have:=bj.size;have bS:=τ br bj;have iJ:=ai.lt;refine ah<|aj<|J (aw gJ Z)<| ?_;have ab:=ab.later bj;refine J (ak Z (ab.one aZ Z))<|J (aw hh Z)<|J (ak Z (ab.one aZ Z))<|J (kB Z Z (bF (by omega)))<|J (v:= .agg #[.int .i64 p.x, .int .i64 (p.y - 1)]) (cO Z (by kernel_rfl))<|J (aw gJ Z)<|J (ak Z (ab.one aZ Z))<|J (kB Z Z (bF (by omega)))<|J (aw hh Z)<|J (ak Z (ab.one aZ Z))<|J (v:= .agg #[.int .i64 (p.x - 1), .int .i64 p.y]) (cO Z (by kernel_rfl))<|J (aw gJ Z)<|J (ak Z (ab.one aZ Z))<|J (bad Z Z (bF (by omega)))<|J (aw hh Z)<|J (ak Z (ab.one aZ Z))<|J (v:= .agg #[.int .i64 (p.x+1), .int .i64 p.y]) (cO Z (by kernel_rfl))<|J (aw gJ Z)<|J (ak Z (ab.one aZ Z))<|J (aw hh Z)<|J (ak Z (ab.one aZ Z))<|J (bad Z Z (bF (by omega)))<|J (v:= .agg #[.int .i64 p.x, .int .i64 (p.y+1)]) (cO Z (by kernel_rfl))<|J (v:= .agg #[.int .i64 p.x, .int .i64 (p.y - 1), .int .i64 (p.x - 1), .int .i64 p.y, .int .i64 (p.x+1), .int .i64 p.y, .int .i64 p.x, .int .i64 (p.y+1)]) (cO Z (by kernel_rfl))<| ?_;refine st (new:= [.int .i64 p.x, .int .i64 (p.y - 1), .int .i64 (p.x - 1), .int .i64 p.y, .int .i64 (p.x+1), .int .i64 p.y, .int .i64 p.x, .int .i64 (p.y+1)]) Z Z ai Z Xk Z Z Z λ iW zq ai=> ?_;have:=zq.size;have dp:=Ext.mod bS zq (bR (by omega));have:=zq.size;refine ah<|rt<|bp (.cell Z (ai.all ajR Xk) .nil)<| ?_;exact ⟨Z,dp⟩
end
section
open Go.RowKit
theorem o7 {P:Program} {n:Nat} {ops:Array Oper} {Q:Exit→Act→World→Prop} {aR:Nat→Nat} {bN:List Nat} {E:List (Nat×Value)} {w0:World} {i d:Nat} {op:Op} {ty:TypeId} {pos:String} {bn:Array Edge} {j:Nat} {q:Bool} {u:Value} {cQ:Oper} {jc:Nat} (ao:ops[i]? =some ⟨some d,op,ty,pos,bn,some (j,q)⟩) (av:Nat.ble (aR i) 1=true) (ay:ops[j]? =some cQ) (nN:cQ.dst=some jc) (Φ:look E jc=some (ie false u)) (hd:Nat.blt d n=true)
  (h:iz P n ops Q aR bN ((d,undef)::E) w0):iz P n ops Q aR (i::bN) E w0:=λ a ha=>by
 have γ:=ha.g _ _ Φ;simp only [ie,Bool.false_eq_true,if_false] at γ;have hw:Region.wanted ⟨some d,op,ty,pos,bn,some (j,q)⟩ (yielded ops a.tmps)=false:=by simp [Region.wanted,yielded,ay,nN,γ,undef]
 have av:=Nat.le_of_ble_eq_true av;rcases Nat.lt_or_ge 0 (aR i) with aE | aE
 ·exact ⟨_,ao, .inr (.inl ⟨by omega,undef, .inr ⟨hw,rfl⟩,h _ (ha.put hd _)⟩)⟩
 ·exact ⟨_,ao, .inl ⟨by omega,undef, .inr ⟨hw,rfl⟩,h _ (ha.put hd _)⟩⟩
end
section
open Go.RowKit
theorem RF (w0:World) (f:aC) (P F A:Option Addr) (cu eQ c b:Nat) (aT:List Int) (l:List bU) (bd:ar) (p:ar) (d:Int) (w:World) (hI:Ext w0 w) (hf:f.bh=0) (b3:bz.aH 8 w0 P cu f.aP) (aV:aK w b [.int .i64 f.wide, .int .i64 f.high, .slice P f.aP.length cu, .int .i64 bd.x, .int .i64 bd.y, .slice F aT.length eQ, .slice A l.length c] 265 (0,0)) (Φ:w0.heap.size≤b) (qL:bU.rep.aF 313 32 w w0.heap.size (κ.af A) A c l) (KL:∀ q∈κ.af A,q=b→False) (cV:∀ y∈l,y.ok) (az:l.length≤1000000) (hp: -500≤p.x∧p.x≤500∧ -500≤p.y∧p.y≤500) (aA: -500≤bd.x∧bd.x≤500∧ -500≤bd.y∧bd.y≤500) (hd:0≤d∧d≤100000):
  Calls prog 197 #[.pointer (some ⟨b,0,none⟩), .agg #[.int .i64 p.x, .int .i64 p.y], .int .i64 d] w (λ e w'=>∃ bH bW,e= .returned (.tuple #[])∧aK w' b [.int .i64 f.wide, .int .i64 f.high, .slice P f.aP.length cu, .int .i64 bd.x, .int .i64 bd.y, .slice F aT.length eQ, .slice bH ((b8.push bU.all l ⟨p,d,d+aC.jf bd p⟩).length) bW] 265 (0,0)∧bU.rep.aF 313 32 w' w0.heap.size (κ.af bH) bH bW (b8.push bU.all l ⟨p,d,d+aC.jf bd p⟩)∧(∀ q∈κ.af bH,q=b→False)∧(∀ q∈κ.af bH,q∈κ.af A∨w.heap.size≤q)∧Mod (b::κ.af A) w w'):=by
 have uB:=aV.lt;obtain ⟨g1,g2,g3,g4,g5,g6⟩:=aC.jg hf;have kZ:=hI.size;have at5:=λ q I=>(qL.lt q I).2;have ot:=qL.has.ez;have vB:∀ q∈b::κ.af A,w0.heap.size≤q:=λ q I=>(List.mem_cons.1 I).elim (λ h=>by omega) λ h=>(qL.lt q h).1;have aAB:=hN (bd.x - p.x);have aAC:=hN (bd.y - p.y);refine cv (n:=32) func197 Z Z Z ?_;refine aj<|cI Z Z Z Z λ dw bC bg eY ab=> ?_;have:=bg.size;have br:=(Mod.bM (b::κ.af A) w).trans (Mod.bG bg);have eZ:=ab.lt;refine ah<|aD<| ?_;refine rd [(0,0),(4,0),(5,0)] [0,1,2,3,4,5,6,7,8,9,10,11,12] (by kernel_rfl) (by kernel_rfl) ?_;refine bD Z (λ _ x=>ak Z ((ab.later x).all bZ bE))<|aq Z (λ _=>aJ Z)<|aq Z (λ _=>cn Z)<|aq Z (λ _=>aw Xl Z)<| ?_;have aV:=aV.later bg;refine bD Z (λ _ x=>ak Z ((aV.later x).par [.int .i64 bd.x, .int .i64 bd.y] bZ bE Z))<|o8 Z Z Xm Z (λ _ x=>Vo p bd _ (by omega) (by omega)) Z<|aq Z (λ _=>aJ Z)<|aq Z (λ _=>ex Z Z)<|aq Z (λ _=>ex Z Z)<|aq Z (λ _=>ex Z Z)<|aq Z (λ _=>eV Z)<|aq Z (λ _=>eV Z)<|aq Z (λ _=>eV Z)<|fn λ eB dn=> ?_;have:=dn.size;have bS:=br.trans (Mod.bG dn);refine a6<| ?_;refine rd [(4,0),(12,3)] [0,1,2,3,4,5,6,7,8,9,10,11,12] (by kernel_rfl) (by kernel_rfl) ?_;refine aq Z (λ _=>aJ Z)<|aq Z (λ _=>cn Z)<|aq Z (λ _=>aw A6 Z)<|aq Z (λ _=>LA (λ w=>by kernel_rfl) Z)<| ?_;have ab:=ab.later dn;refine bD Z (λ _ x=>ak Z ((ab.later x).all bZ bE))<|aq Z (λ _=>aJ Z)<|aq Z (λ _=>aJ Z)<|aq Z (λ _=>aJ Z)<|aq Z (λ _=>yB Z Z (bF (by omega)))<|aq Z (λ _=>bad Z Z (bF (by omega)))<|r7 (v:= .agg #[.int .i64 p.x, .int .i64 p.y, .int .i64 d, .int .i64 (d+(2 * (b5 (bd.x - p.x)+b5 (bd.y - p.y))))]) Z Z (λ _=>cO Z (by kernel_rfl)) Z<|aq Z (λ _=>LA (λ w=>by kernel_rfl) Z)<| ?_;have qL:=qL.later (τ bg dn);have aV:=aV.later dn;refine fc Z Z Z λ B_ lM Q hK=>ca ajS Z Z ((avD b A c w0.heap.size l (.int .i64 f.wide) (.int .i64 f.high) (.slice P f.aP.length cu) (.int .i64 bd.x) (.int .i64 bd.y) (.slice F aT.length eQ) ((⟨⟨p.x,p.y⟩,d,d+(2 * (b5 (bd.x - p.x)+b5 (bd.y - p.y)))⟩:bU)) _ (aV.later lM) (qL.later lM) cV KL ⟨bt.2 (by dsimp only;omega),bt.2 (by dsimp only;omega),bt.2 (by dsimp only;omega),bt.2 (by dsimp only;omega)⟩ az (by have:=lM.size;omega)).mono ?_);rintro e iW ⟨Tv,VO,rfl,M7,IZ,Y0,abg⟩;refine ⟨_,Z,hK _ _ ?_⟩;have:=lM.size;have pM:=bS.trans (Mod.bG lM);have:=abg.size;have dp:=pM.md abg (λ q I=> .inl I);have auj:=λ q I=>(IZ.lt q I).2;refine fn λ ED rE=> ?_;have:=rE.size;have rJ:=dp.trans (Mod.bG rE);refine ne<|bp .nil<| ?_;have IZ:=IZ.later rE;have M7:=M7.later rE;exact ⟨Tv,VO,Z,M7,IZ,λ q I Φ=>by exfalso;(exact Or.elim (Y0 q I) (λ aap=>by (exact KL q aap Φ)) (λ aap=>by omega)),λ q I=>(Y0 q I).imp id λ h=>by omega,rJ⟩
end
end Go.Proofs.YtlikikpgmmkjbaaGreat
