import Derived.Test.YtifffjhhammeiaaWld
import Derived.RangeFuncNested
import Derived.OrdersIn
import Derived.LoopNIn
set_option linter.unusedVariables false
set_option linter.unusedSimpArgs false
set_option maxRecDepth 100000
set_option maxHeartbeats 4000000
open Go.RowKit
namespace Go.Proofs.Ytifffjhhammeiaa
open Try
abbrev GQ:=@Go.Lib.hid
abbrev G4:=@BitVec.xor_assoc
abbrev G7:=@Go.World.cell?_alloc_new
abbrev Hv:=@List.foldl_append
abbrev HM:=@Go.wpIn_region_lit
abbrev HW:=@Go.Oper.semAt_eq
end Go.Proofs.Ytifffjhhammeiaa
namespace Go.Proofs.Ytifffjhhammeiaa.Mark
open Try
open Go.Proofs.Ytifffjhhammeiaa.ee

abbrev a6:=BitVec 64
abbrev W:=BitVec 64
def xs (k:Nat) (x:a6):a6:=x ^^^ x >>> k
def fi:a6:=13787848793156543929#64
def dc:a6:=10723151780598845931#64
def kD:a6:=11400714819323198485#64
def mix (n:a6):a6:=xs 31 (xs 27 (xs 30 (n+kD) * fi) * dc)
def down (k:Nat) (x:a6):a6:=xs (2 * k) (xs k x)
def hq (x y:a6):a6:=y * (2#64 - x * y)
def other (x:a6):a6:=hq x (hq x (hq x (hq x (hq x (hq x x)))))
def back (n:a6):a6:=down 30 (down 27 (down 31 n * other dc) * other fi) - kD
section
variable (f:a6→a6)
def dK (m n:a6):a6:=m ^^^ f n
def cH (l:List a6) (m:a6):a6:=l.foldl (dK f) m
def b4 (l:List a6):a6:=cH f l 0#64
theorem oa (x:a6) (l:List a6) (m:a6):cH f (x::l) m=cH f l (dK f m x):=rfl
theorem tM (l:List a6) (x:a6) (m:a6):cH f (l++ [x]) m=dK f (cH f l m) x:=by unfold cH;rw [Hv];rfl
theorem ob (l:List a6) (m:a6):cH f l m=m ^^^ b4 f l:=by
 unfold b4;induction l generalizing m with
 | nil=>simp [cH]
 | cons x l cq =>
  rw [oa,oa,cq (dK f m x),cq (dK f 0#64 x)];unfold dK;rw [BitVec.zero_xor,G4]
theorem tL (l k:List a6) (m:a6):cH f (l++k) m=cH f k (cH f l m):=by unfold cH;rw [Hv]
theorem q2 (l k:List a6):b4 f (l++k)=b4 f l ^^^ b4 f k:=by
 have h:=tL f l k 0#64;have ai:=ob f k (cH f l 0#64);unfold b4 at *
 rw [h,ai]
theorem q3 (x:a6):b4 f [x]=f x:=by simp [b4,cH,dK]
theorem ht (x:a6) (l:List a6):b4 f (x::l)=f x ^^^ b4 f l:=by
 have h:=q2 f [x] l;rw [q3] at h;exact h
end
end Go.Proofs.Ytifffjhhammeiaa.Mark
namespace Go.Proofs.Ytifffjhhammeiaa
open Try
end Go.Proofs.Ytifffjhhammeiaa
namespace Go.Proofs.Ytifffjhhammeiaa.Mark
open Try
open Go.RowKit Go.Proofs.Ytifffjhhammeiaa.ee

theorem hy {a b:Int} (h:a=b):Ending.returned (.int .u64 a)= .returned (.int .u64 b):=by rw [h]

theorem mq (x:Int):IntKind.u64.wrap x=U (BitVec.ofInt 64 x):=by
 refine gM ?_ ?_ (ye x)
 ·rw [IntKind.wrap_u64];omega
 ·rw [IntKind.wrap_u64];omega
theorem tK (a:a6):IntKind.u64.wrap (U a+11400714819323198485)=U (a+kD):=by
 rw [mq,x_,eL];rfl
theorem xX (a:a6):IntKind.u64.wrap (U a * 13787848793156543929)=U (a * fi):=by
 rw [mq,q7,eL];rfl
theorem xY (a:a6):IntKind.u64.wrap (U a * 10723151780598845931)=U (a * dc):=by
 rw [mq,q7,eL];rfl
theorem na (k:Nat) (a:a6):bits BinOp.xor IntKind.u64 (U a) (U a / 2 ^ k)=U (xs k a):=by
 refine gM (gJ _ _ _) (hZ _ _ _) ?_;rw [jE,yd (n:=64) (U a) k (tI a) (by have:=tH a;omega),eL];rfl
theorem zA (a:a6):bits BinOp.xor IntKind.u64 (U a) (U a / 1073741824)=U (xs 30 a):=na 30 a
theorem zz (a:a6):bits BinOp.xor IntKind.u64 (U a) (U a / 134217728)=U (xs 27 a):=na 27 a
theorem zB (a:a6):bits BinOp.xor IntKind.u64 (U a) (U a / 2147483648)=U (xs 31 a):=na 31 a
theorem qV (x:Int) (n:a6) (hx:x=U n) (w:World):
  Calls prog 48 #[.int .u64 x] w fun e w'=>e= .returned (.int .u64 (U (mix n)))∧w=w':=by
 subst hx;go_enter func48,ntmps48;go_wp2
 go_ret;refine ⟨hy ?_,Z⟩;rw [tK,zA,xX,zz,xY,zB];rfl

end Go.Proofs.Ytifffjhhammeiaa.Mark
namespace Go.Proofs.Ytifffjhhammeiaa
open Try
end Go.Proofs.Ytifffjhhammeiaa
namespace Go.Proofs.Ytifffjhhammeiaa.Mark
open Try
open Go.RowKit Go.Proofs.Ytifffjhhammeiaa.ee


theorem rF (x y:Int) (m n:a6) (hx:x=U m) (aJ:y=U n) (w:World):
  Calls prog 23 #[.int .u64 x, .int .u64 y] w fun e w'=>e= .returned (.int .u64 (U (dK mix m n)))∧w=w':=by
 subst hx aJ;go_enter func23,ntmps23;go_wp2_with (go_at_call 48;refine (qV _ n rfl _).mono ?_;rintro e w' ⟨rfl,rfl⟩)
 go_ret;exact ⟨hy (by refine gM (gJ _ _ _) (hZ _ _ _) ?_;rw [jE,eL,eL];rfl),Z⟩
def eo (w:World) (a:Option Addr) (n:Nat) (zs:List a6):Prop :=
 n=zs.length∧n≤9223372036854775807∧(zs= []∨∃ b off,a=some ⟨b,off,none⟩∧∀ i (h:i<zs.length),w.cell? ⟨b,off+i,none⟩=some (.int .u64 (U zs[i])))

theorem xU (w:World):Calls prog 48 #[.int .u64 0] w fun e w'=>e= .returned (.int .u64 16294208416658607535)∧w=w' :=
 (qV 0 0#64 (by decide +kernel) w).mono fun e w' ⟨he,hw⟩=>⟨he.trans (hy (by decide +kernel)),hw⟩

def fP (dr:List (List a6)) (m:a6):a6:=dr.foldl (fun m l=>cH mix l m) m
theorem tP (dr:List (List a6)) (l:List a6) (m:a6):fP (dr++ [l]) m=cH mix l (fP dr m):=by unfold fP;rw [Hv];rfl
theorem rD {α:Type} (l:List α) (k:Nat) (h:k<l.length):l.take (k+1)=l.take k++ [l[k]]:=List.take_succ_eq_append_getElem h

theorem oc (b c:Nat) (vs:List (Option Addr×Nat×Nat)) (dr:List (List a6)) (w:World) (hn:vs.length=dr.length) (hc:c≤100) (hcv:vs.length≤100)
  (ji:∀ i (h:i<vs.length),w.cell? ⟨b,i,none⟩=some (.slice vs[i].1 vs[i].2.1 vs[i].2.2)) (pK:∀ i (h:i<vs.length) (bM:i<dr.length),eo w vs[i].1 vs[i].2.1 dr[i]):
  Calls prog 47 #[.slice (some ⟨b,0,none⟩) vs.length c] w fun e w'=>e= .returned (.int .u64 (U (fP dr 0#64)))∧w=w':=by
 obtain ⟨N,ff⟩:∃ N,Hid (N=vs.length):=⟨_,GQ rfl⟩;have sL:=GQ ji;have sQ:=GQ pK;have nA:=GQ hn;rw [← ff.out] at hcv ⊢;clear ji pK hn;go_enter func47,ntmps47;go_wp2
 go_loop [3,10] (fun v i=>∃ k:Nat,k≤N∧i= .int .i64 k∧v= .int .u64 (U (fP (dr.take k) 0#64))) (fun _ i=>N - (intOf i).toNat)
 case atStart=>exact ⟨0,HD _,rfl,rfl⟩
 case round =>
  obtain ⟨k,aA,rfl,rfl⟩:=hrel;by_cases b1:k<N
  ·have oV:k<vs.length:=by have:=ff.out;omega
   have oW:k<dr.length:=by have:=nA.out;omega
   have af:=sL.out k oV;have ai:=sQ.out k oV oW;obtain ⟨l,nC⟩:∃ l,Hid (dr[k]=l):=⟨_,GQ rfl⟩;rw [nC.out] at ai;generalize vs[k].1=a at af ai;generalize vs[k].2.1=n at af ai;generalize vs[k].2.2=bJ at af ai;obtain ⟨aY,bd,bm⟩:=ai;have hQ:=GQ aY;clear aY;generalize oF:fP (dr.take k) 0#64=M;have oG:fP (dr.take (k+1)) 0#64=cH mix l M:=by rw [rD _ _ oW,tP,oF,nC.out]
   have nB:=GQ oG;clear oF oG;rcases bm with e4 | ⟨tR,off,rfl,k7⟩
   ·have wa:n=0:=by rw [hQ.out,e4];rfl
    have sO:=GQ e4;subst wa;clear e4;go_wp2_with fail
    refine wp_loop_rounds 1 ?_;rw [rounds_succ];go_wp2_with fail
    go_round
    case rel=>exact ⟨k+1,by omega,by go_num,by rw [nB.out,sO.out];rfl⟩
    case measure=>simp [intOf];omega
   ·have sM:=GQ k7;clear k7;go_wp2_with fail
    go_loop [3,16] (fun v i=>∃ q:Nat,q≤n∧i= .int .i64 q∧v= .int .u64 (U (cH mix (l.take q) M))) (fun _ i=>n - (intOf i).toNat)
    case atStart=>exact ⟨0,HD _,rfl,rfl⟩
    case round =>
     obtain ⟨q,J,rfl,rfl⟩:=hrel;by_cases DX:q<n
     ·have pH:q<l.length:=by have:=hQ.out;omega
      have vG:=sM.out q pH;generalize kG:l[q]=z at vG;generalize oH:cH mix (l.take q) M=M2;have sN:=GQ (show cH mix (l.take (q+1)) M=dK mix M2 z by rw [rD _ _ pH,tM,oH,kG]);clear kG oH af;go_wp2_with (go_at_call 23;(with_reducible refine (rF _ _ M2 z rfl rfl _).mono ?_);rintro e w' ⟨rfl,rfl⟩)
      go_round
      case rel=>exact ⟨q+1,by omega,by go_num,by rw [sN.out]⟩
      case measure=>simp [intOf];omega
     ·have wC:n=q:=by omega
      subst wC;have aE:l.take n=l:=GX (by have:=hQ.out;omega);rw [aE,← nB.out];clear aE af;go_wp2_with fail
      go_round
      case rel=>exact ⟨k+1,by omega,by go_num,rfl⟩
      case measure=>simp [intOf];omega
  ·have vT:N=k:=by omega
   subst vT;have e:dr.take N=dr:=GX (by have:=nA.out;have:=ff.out;omega);rw [e];clear e;go_wp2_with fail
   go_ret;exact ⟨Z,Z⟩

theorem eo.later {w w':World} {a:Option Addr} {n:Nat} {zs:List a6} (h:eo w a n zs) (ak:Below w.heap.size w w'):eo w' a n zs:=by
 obtain ⟨af,ai,aY⟩:=h;refine ⟨af,ai, ?_⟩;rcases aY with aY | ⟨b,off,ha,hc⟩
 ·exact .inl aY
 ·refine .inr ⟨b,off,ha,fun i aB=> ?_⟩;rw [ak.cell (HY w _ (hc i aB))];exact hc i aB

theorem tN (b n c:Nat) (a:Option Addr) (l:List a6) (w:World) (h:w.cell? ⟨b,0,none⟩=some (.slice a n c)) (hs:eo w a n l):
  Calls prog 47 #[.slice (some ⟨b,0,none⟩) 1 1] w fun e w'=>e= .returned (.int .u64 (U (b4 mix l)))∧w=w':=by
 refine (oc b 1 [(a,n,c)] [l] w Z (by decide) (by simp) ?_ ?_).mono fun e w' h=>h
 ·intro i aB
  match i,aB with
  | 0,_=>exact h
 ·intro i aB _
  match i,aB with
  | 0,_=>exact hs
theorem tO (b n c d' bJ:Nat) (a a':Option Addr) (l eK:List a6) (w:World) (h:w.cell? ⟨b,0,none⟩=some (.slice a n c)) (bM:w.cell? ⟨b,1,none⟩=some (.slice a' d' bJ)) (hs:eo w a n l) (lF:eo w a' d' eK):
  Calls prog 47 #[.slice (some ⟨b,0,none⟩) 2 2] w fun e w'=>e= .returned (.int .u64 (U (b4 mix l ^^^ b4 mix eK)))∧w=w':=by
 refine (oc b 2 [(a,n,c),(a',d',bJ)] [l,eK] w Z (by decide) (by simp) ?_ ?_).mono fun e w' h=>⟨h.1.trans (hy ?_),h.2⟩
 ·intro i aB
  match i,aB with
  | 0,_=>exact h
  | 1,_=>exact bM
 ·intro i aB _
  match i,aB with
  | 0,_=>exact hs
  | 1,_=>exact lF
 ·rw [← ob];rfl

theorem q5 (a:Option Addr) (n c:Nat) (l:List a6) (w:World) (hs:eo w a n l):
  Calls prog 21 #[.slice a n c] w fun e w'=>e= .returned (.int .u64 (U (b4 mix l)))∧Below w.heap.size w w':=by
 have ak:=(Hd w.heap.size w).alloc (GB _) (.cells #[.slice a n c] 43);have lG:=hs.later ak;go_enter func21,ntmps21;go_wp2_with fail
 refine (tN _ n c a l _ (by simp [G7]) lG).mono ?_;rintro e w' ⟨rfl,rfl⟩;go_wp2_with fail
 go_ret;exact ⟨Z,ak⟩

theorem uf (m:a6) (a a':Option Addr) (n c d' bJ:Nat) (l eK:List a6) (w:World) (hs:eo w a n l) (lF:eo w a' d' eK):
  Calls prog 24 #[.int .u64 (U m), .slice a n c, .slice a' d' bJ] w fun e w'=>e= .returned (.int .u64 (U (m ^^^ (b4 mix l ^^^ b4 mix eK))))∧Below w.heap.size w w':=by
 have ak:=(Hd w.heap.size w).alloc (GB _) (.cells #[.slice a n c, .slice a' d' bJ] 43);have lG:=hs.later ak;have wE:=lF.later ak;go_enter func24,ntmps24;go_wp2_with fail
 refine (tO _ n c d' bJ a a' l eK _ (by simp [G7]) (by simp [G7]) lG wE).mono ?_;rintro e w' ⟨rfl,rfl⟩;go_wp2_with fail
 go_ret;exact ⟨hy (by refine gM (gJ _ _ _) (hZ _ _ _) ?_;rw [jE,eL,eL]),ak⟩

theorem yg (w:World) (b:Nat) (h:w.cell? ⟨b,0,none⟩=some (.int .u64 0)):Calls prog 21 #[.slice (some ⟨b,0,none⟩) 1 1] w fun e w'=>e= .returned (.int .u64 16294208416658607535)∧Below w.heap.size w w':=by
 refine (q5 (some ⟨b,0,none⟩) 1 1 [0#64] w ⟨Z,by decide, .inr ⟨b,0,rfl,fun i aB=> ?_⟩⟩).mono fun e w' ⟨he,hw⟩=>⟨he.trans (hy ?_),hw⟩
 ·match i,aB with
  | 0,_=>exact h
 ·rw [q3];decide +kernel
theorem xh (w:World):
  Calls prog 22 #[] w fun e w'=>e= .returned (.bool true)∧Below w.heap.size w w':=by
 go_enter func22,ntmps22;go_wp2_with (go_at_call 48;(with_reducible refine (xU _).mono ?_);rintro e w' ⟨rfl,rfl⟩)
 refine (yg _ _ (by simp [G7])).mono ?_;rintro e w' ⟨rfl,ak⟩;go_wp2_with fail
 go_ret;exact ⟨Z,((Hd w.heap.size w).alloc (GB _) _).trans (ak.mono (by simp))⟩
end Go.Proofs.Ytifffjhhammeiaa.Mark
namespace Go.Proofs.Ytifffjhhammeiaa
open Try
section
open Go.RowKit Go.Proofs.Ytifffjhhammeiaa.ee
def aR:γ (BitVec 64):=γ.flat 1 (λ b=> [.int .u64 (U b)]) (λ _=>True) (λ _ u=>∃ n:Int,u= .int .u64 n) (λ _=>rfl) (by intro a u hu;simp at hu;subst hu;rfl) (by
 intro a j u hu;cases j with
 | zero=>simp at hu;exact ⟨_,hu.symm⟩
 | succ j=>simp at hu)
theorem ax {w:World} {cs:List Value} {a:BitVec 64} (h:aR.has w cs a):cs= [.int .u64 (U a)]:=And.left (show cs= [.int .u64 (U a)]∧True from h)
theorem pO:(prog.info? 44).map (λ i=>(i.zero,i.size,i.bytes))=some (some (.int .u64 0),1,8):=by kernel_rfl
theorem rv:∀ (j:Nat) u,(Value.int .u64 0).cells[j]? =some u→aR.raw j u:=by
 intro j u hu;have hu:(#[(.int .u64 0:Value)]:Array Value)[j]? =some u:=hu
 match j,hu with
 | 0,hu=>exact ⟨0,(Gn hu).symm⟩
 | j+1,hu=>simp at hu
theorem mf {by_:Nat} {w:World} {A:Option Addr} {c:Nat} {l:List (BitVec 64)} (h:aR.ar by_ w A c l):Mark.eo w A l.length l:=by
 refine ⟨Z,h.cW, ?_⟩;cases aE:l with
 | nil=>exact .inl rfl
 | cons x r =>
  rw [← aE];obtain ⟨b,o,e,hc⟩:=h.at_ (by rw [aE];simp);refine .inr ⟨b,o,e,λ i aB=> ?_⟩;obtain ⟨es,⟨rfl,_⟩,az⟩:=hc i _ (Gp aB);have:=az 0 _ rfl;simpa [aR,γ.flat] using this
end
section
def dv (ro:Option Nat):Fence:= {Fence.wide with round:=ro}
section
variable {P:Program} {ro:Option Nat} {m:Nat} {ops:Array Oper} {Q:Exit→Act→World→Prop} {w:World}
theorem ue {f:FuncId} {args:Array Value} {R:Ending→World→Prop} (h:Calls P f args w R):CallsIn (dv ro) m P f args w R:=(callsIn_wide (n:=m)).2 h
theorem yD {row:String} {args:Array Value} {R:Value→World→Prop} (h:Rows P row args w R):RowsIn (dv ro) m P row args w R:=λ c cs _ =>
 let ⟨v,w',r,s⟩:=h c cs;⟨v,w',r,stepsIn_wide.2 s⟩
def jD (o:Oper):Bool:=match o.op with
 | .defer _=>false
 | _=>true
theorem yl {o:Oper} {a:Act} {K:Act→World→Prop} (hd:jD o=true) (h:o.wp P a w K Q):o.wpIn (dv ro) m P a w K Q:=by
 refine ⟨λ _ _=>trivial, ?_⟩;have hs:o.semAt (dv ro).round a.eval=execOp a.eval o:=HW _ _ _ (λ c e=>by simp [jD,e] at hd);rw [hs];unfold Oper.wp at h;generalize (execOp a.eval o).run P w=r at *
 cases r with
 | ok x w' =>
  cases x<;>simp only [Oper.upon] at h<;>simp only [Oper.uponIn] <;>
   first
    | exact h
    | exact h.elim
    | exact ⟨λ h=>by simp [dv,Fence.wide] at h,ue h⟩
    | exact ⟨λ h=>by simp [dv,Fence.wide] at h,yD h⟩
 | halt x w'=>cases x<;>simp only [Oper.upon] at h<;>simp only [Oper.uponIn]<;>first | exact h | exact h.elim
theorem lS:∀ (l:List Oper) {a:Act} {w:World},l.all jD=true→wpList P ops Q l a w→(∀ c a w,¬ Q (.panic c) a w)→¬ LetsOut Q→wpListIn (dv ro) m P ops Q l a w
 | [],a,w,_,h,_,_=>by unfold wpList at h;unfold wpListIn;exact h
 | o::rest,a,w,hd,h,hp,bo=>by
  rw [List.all_cons,Gw] at hd;unfold wpList at h;unfold wpListIn;split at h
  ·rename_i hw
   rw [G8 hw];rcases h with h | ⟨h,x⟩
   ·exact Oper.wpIn_mono (λ a w h=>lS rest hd.2 h hp bo) (yl hd.1 h)
   ·exact (bo x).elim
  ·rename_i hw
   rw [Hg hw];exact ⟨λ _ _=>trivial,lS rest hd.2 h hp bo⟩
end
theorem x8 {K:Act→World→Prop}:∀ c a w,¬ dg K (.panic c) a w:=λ _ _ _ h=>h
theorem x7 {K:Act→World→Prop}:¬ LetsOut (dg K):=λ ⟨_,_,h⟩=>h
theorem x6 {K:Exit→Act→World→Prop}:∀ e a w,dg (K .normal) e a w→K e a w:=λ e a w h=>by cases e<;>first | exact h | exact h.elim
namespace Rd
section
variable {P:Program} {ro:Option Nat} {m n:Nat} {ops:Array Oper} {Q:Exit→Act→World→Prop} {w w0:World} {E bl:List (Nat×Value)} {id jz:Nat} {c:Operand} {x y:Code} {i j:Int} {bO:List Nat} {v:Value}
def W (ro:Option Nat) (m:Nat) (P:Program) (n:Nat) (c:Code) (Q:Exit→Act→World→Prop) (E:List (Nat×Value)) (w:World):Prop:=∀ a,bn n E a→c.wpIn (dv ro) m P Q a w
abbrev M (n:Nat) (Q:Exit→Act→World→Prop) (E:List (Nat×Value)) (w:World):Prop:=N n (dg (Q .normal)) E w
abbrev fh (ro:Option Nat) (m:Nat) (P:Program) (y:Code) (Q:Exit→Act→World→Prop):Exit→Act→World→Prop:=Exit.then (λ a w=>y.wpIn (dv ro) m P Q a w) Q
theorem rg {l:List Oper} (h:bz P n l.toArray (dg (Q .normal)) l E w) (hd:l.all jD=true:=by kernel_rfl):W ro m P n (.region id l.toArray false) Q E w:=λ a ha=>Go.wpIn_mono (HM (lS l hd (h a ha) x8 x7)) x6
end
end Rd
namespace iX
section
variable {P:Program} {ro:Option Nat} {m n:Nat} {ops:Array Oper} {Q:Exit→Act→World→Prop} {w w' w0:World} {E bl:List (Nat×Value)} {id:Nat} {v:Value}
variable {d:Option Nat} {ty:TypeId} {pos:String} {aH:Array Edge} {g:Option (Nat×Bool)} {x y z:Operand} {t:TypeId} {rest:List Oper}
def bz (ro:Option Nat) (m:Nat) (P:Program) (n:Nat) (ops:Array Oper) (Q:Exit→Act→World→Prop) (l:List Oper) (E:List (Nat×Value)) (w:World):Prop:=∀ a,bn n E a→wpListIn (dv ro) m P ops Q l a w
theorem rg {l:List Oper} (h:bz ro m P n l.toArray Q l E w):Rd.W ro m P n (.region id l.toArray false) Q E w:=λ a ha=>HM (h a ha)
theorem nl (h:Rd.M n Q E w):bz ro m P n ops Q [] E w:=h
theorem gb {d:Nat} {op:Op} (hr:bu P E ⟨some d,op,ty,pos,aH,none⟩ w v w') (hd:Nat.blt d n=true) (h:bz ro m P n ops Q rest ((d,v)::E) w'):bz ro m P n ops Q (⟨some d,op,ty,pos,aH,none⟩::rest) E w:=λ a ha=>by
 have dZ:=hr n a ha;unfold wpListIn;rw [G8 (by simp [Region.wanted])];refine ⟨λ _ _=>trivial, ?_⟩;have hs:(⟨some d,op,ty,pos,aH,none⟩:Oper).semAt (dv ro).round a.eval=execOp a.eval ⟨some d,op,ty,pos,aH,none⟩:=HW _ _ _ (λ c e=>by
  have e:op= .defer c:=e;subst e;simp only [execOp,Gu,Gv] at dZ;revert dZ;generalize (resolve a.eval c ty).run P w=r;cases r<;>simp [Result.andThen])
 rw [hs,dZ];exact h _ (ha.put hd v)
end
end iX
def mark (D:Nat):List Deferred:= [{target:= .collected D,args:=#[]}]
def wd (ds:List Deferred) (a:Act):Act:= {a with defers:=ds}
theorem zj (ds:List Deferred) (a:Act) (d:Option Nat) (v:Value):(wd ds a).put d v=wd ds (a.put d v):=by cases d<;>rfl
theorem zi (ds:List Deferred) (a:Act):(wd ds a).eval=a.eval:=by funext x;cases x<;>rfl
def gB (w:World) (D:Nat):Prop:=w.heap[D]? =some (.deferred (some []))
theorem gB.lt {D:Nat} {w:World} (h:gB w D):D<w.heap.size:=(Gt.1 h).1
theorem gB.later {D:Nat} {w w':World} (h:gB w D) (x:Ext w w'):gB w' D:=(x.block D h.lt).trans h
def E1 (w:World) (D:Nat):World:=w.putObj D (.deferred none)
namespace n8
section
variable {P:Program} {ds:List Deferred} {m n:Nat} {ops:Array Oper} {Q:Exit→Act→World→Prop} {w w' w0:World} {E bl:List (Nat×Value)} {id:Nat} {v:Value}
variable {d:Option Nat} {ty:TypeId} {pos:String} {aH:Array Edge} {g:Option (Nat×Bool)} {x y z:Operand} {t:TypeId} {rest:List Oper} {c:Operand} {Bc Bd:Code} {i j:Int}
def W (ds:List Deferred) (m:Nat) (P:Program) (n:Nat) (c:Code) (Q:Exit→Act→World→Prop) (E:List (Nat×Value)) (w:World):Prop:=∀ a,bn n E a→c.wpIn (dv none) m P Q (wd ds a) w
def N (ds:List Deferred) (n:Nat) (Q:Exit→Act→World→Prop) (E:List (Nat×Value)) (w:World):Prop:=∀ a,bn n E a→Q .normal (wd ds a) w
def T (ds:List Deferred) (n:Nat) (Q:Exit→Act→World→Prop) (E:List (Nat×Value)) (w:World):Prop:=∀ a,bn n E a→Q .ret (wd ds a) w
def bz (ds:List Deferred) (m:Nat) (P:Program) (n:Nat) (ops:Array Oper) (Q:Exit→Act→World→Prop) (l:List Oper) (E:List (Nat×Value)) (w:World):Prop:=∀ a,bn n E a→wpListIn (dv none) m P ops Q l (wd ds a) w
theorem rg {l:List Oper} (h:bz ds m P n l.toArray Q l E w):W ds m P n (.region id l.toArray false) Q E w:=λ a ha=>HM (h a ha)
theorem nl (h:N ds n Q E w):bz ds m P n ops Q [] E w:=h
theorem x3 {o:Oper} {a:Act} {v:Value} (h:(execOp a.eval o).run P w= .ok (.value v) w'):∀ c,o.op≠ .defer c:=λ c e=>by
 unfold execOp at h;rw [e] at h;simp only [Gu,Gv] at h;revert h;generalize (resolve a.eval c o.type).run P w=r;cases r<;>simp [Result.andThen]
theorem gb {d:Nat} {op:Op} (hr:bu P E ⟨some d,op,ty,pos,aH,none⟩ w v w') (hd:Nat.blt d n=true) (h:bz ds m P n ops Q rest ((d,v)::E) w'):bz ds m P n ops Q (⟨some d,op,ty,pos,aH,none⟩::rest) E w:=λ a ha=>by
 have dZ:=hr n a ha;unfold wpListIn;rw [G8 (by simp [Region.wanted])];refine ⟨λ _ _=>trivial, ?_⟩;rw [zi,HW _ _ _ (x3 dZ),dZ];show wpListIn _ _ _ _ _ _ _ _;rw [zj];exact h _ (ha.put hd v)
end
end n8
def gC (b c:Nat) (W bZ:World):Prop:=bZ.heap[b]? =W.heap[b]? ∧bZ.heap[c]? =W.heap[c]?
theorem gC.iD {b c:Nat} {X Y aj:World} (h:gC b c X Y) (k:gC b c Y aj):gC b c X aj:=⟨k.1.trans h.1,k.2.trans h.2⟩
theorem Mod.xd {S:List Nat} {W bZ:World} {B:Nat} (h:Mod S W bZ) (hS:∀ q∈S,q<W.heap.size→∃ cur e bj,W.heap[q]? =some (.cells cur e bj)):KeepsFrom B W bZ :=
 ⟨h.size,λ k o _ aA bo=>by
  by_cases hm:k∈S
  ·obtain ⟨cur,e,bj,hc⟩:=hS k hm (Gt.1 aA).1;rw [hc] at aA;injection aA with aA
   subst aA;exact nomatch bo
  ·exact (h.block k (Gt.1 aA).1 hm).trans aA⟩
def hT (B:Nat) (w0 w:World):Prop:=KeepsFrom B w0 w
theorem hT.b7 (B:Nat) (w:World):hT B w w:=KeepsFrom.refl B w
theorem hT.later {B:Nat} {w0 w w':World} (h:hT B w0 w) (x:Ext w w'):hT B w0 w':=KeepsFrom.trans h ((Mod.aK (S:= []) x).xd λ q J=>nomatch J)
structure j6 {α:Type} (B:Nat) (eF:List α→World→Prop) (pre:List α) (w:World):Prop where
 n':AbidesFrom B eF
 at_:eF pre w
theorem j6.later {α:Type} {B:Nat} {eF:List α→World→Prop} {pre:List α} {w w':World} (h:j6 B eF pre w) (x:Ext w w'):j6 B eF pre w' :=
 ⟨h.n',h.n' _ _ _ none h.at_ ⟨x.os,x.tape,x.output,x.size,λ k aA _=>x.block k aA⟩ λ r e=>nomatch e⟩
section
variable {P:Program} {n:Nat} {E bl:List (Nat×Value)} {w:World} {d:Option Nat} {ty:TypeId} {pos:String} {aH:Array Edge} {g:Option (Nat×Bool)} {x y z u:Operand} {t:TypeId}
end
namespace Rd
theorem b7 {α:Type} {P:Program} {m n:Nat} {Q:Exit→Act→World→Prop} {w w0:World} {E:List (Nat×Value)} {tt p:Nat} {ty:TypeId} {pos:String} {aH:Array Edge} {id:Nat} {body:Code} {g:Operand} {gf:Nat} {lb:List Value} {enc:α→Value} {i_ i':Nat} {S tF:List α→Prop} {nH:Nat}
  (aV:ev E g=some (.func (.func gf) #[] lb.toArray)) (hf:Enters P gf) (wF:SeqStopsK (dv none) (m - 1) P gf lb.toArray (λ x=>#[enc x]) (gC i_ i') S tF nH w0) (BD:i_<w.heap.size) (BG:i'<w.heap.size) (jh:Ext w0 w) (af:1≤m) (hp:Nat.blt p n=true) (aT:Nat.blt tt n=true)
  (cS:List α→World→Prop) (kE:∀ s W bZ S,cS s W→Mod S W bZ→(∀ q∈S,w.heap.size≤q∧∀ cur e bj,W.heap[q]? ≠some (.cells cur e bj))→cS s bZ) (aU:cS [] w)
  (vD:∀ (l:Nat) (pre:List α) (x:α) (bZ:World),cS pre bZ→pre.length<nH→W (some l) (m - 1 - 1) P n body (ownPostG w.heap.size (gC i_ i') cS (λ _ _ _=>False) (pre++ [x]) bZ) ((tt,enc x)::(p,enc x)::E) bZ)
  (vI:∀ (D:Nat) (xs:List α) (bZ:World),w.heap.size≤D→S xs→cS xs bZ→gB bZ D→n8.N (mark D) n Q E bZ):
  W none m P n (.rangeFunc g #[p] (.region id #[⟨some tt, .assign (.tmp p),ty,pos,aH,none⟩] false) body) Q E w:=λ a ha=>by
 have uW:∀ {β:Type} (eF:β→World→Prop),(∀ s W bZ S,eF s W→Mod S W bZ→(∀ q∈S,w.heap.size≤q∧∀ cur e bj,W.heap[q]? ≠some (.cells cur e bj))→eF s bZ)→OwnFrom w.heap.size eF:=λ eF uR s X Y row hs fr hr =>
  uR s X Y row.toList hs (Mod.grown fr) λ q J=>by
   cases row with
   | none=>exact nomatch J
   | some r =>
    obtain rfl:=Gs.1 J;obtain ⟨bS,o,bo,hc⟩:=hr _ rfl;exact ⟨bS,λ cur e bj h=>by rw [h] at bo;injection bo with bo;subst bo;exact nomatch hc⟩
 obtain ⟨fn,vK,vL,oN⟩:=hf;obtain ⟨A8,vA⟩:∃ c,fn.body=some c:=by
  cases h:fn.body with
  | none=>rw [h] at oN;simp at oN
  | some c=>exact ⟨c,rfl⟩
 refine wpIn_rangeFunc_ownH (F:=dv none) Z af (gf:=gf) (lb:=lb.toArray) (ha.ev aV) trivial (enters_of vK vL vA) wF (λ h k=>h.iD k) ?_ jh (λ x=>Z) cS (λ _ _ _=>False) (uW cS kE) (λ c s A B row hs aV hr=>hs.elim) aU
  (λ x a' _=>bn n ((tt,enc x)::(p,enc x)::E) a') (λ x a' s A B row hs aV hr=>hs) ?_ ?_ ?_ ?_
 ·intro bZ l o q1 aE fU _ _;have hm:=Mod.grown (grownBy_putObj' bZ l q1);exact ⟨hm.block i_ (by have:=(Gt.1 fU).1;omega) (by simp;omega),hm.block i' (by have:=(Gt.1 fU).1;omega) (by simp;omega)⟩
 ·intro l pre x bZ K aB hK;have hA:bn n ((p,enc x)::E) {tmps:=(#[p].zip #[enc x]).foldl (λ t (p,v)=>t.setIfInBounds p v) a.tmps,defers:= []}:=by
   have:=ha.put hp (enc x);have e:({tmps:=(#[p].zip #[enc x]).foldl (λ t (p,v)=>t.setIfInBounds p v) a.tmps,defers:= []}:Act)=a.put (some p) (enc x):=by
    simp [Act.put,ha.d]
   rw [e];exact this
  have ai:W (some l) (m - 1 - 1) P n (.region id [(⟨some tt, .assign (.tmp p),ty,pos,aH,none⟩:Oper)].toArray false) (Exit.then K (λ _ _ _=>False)) ((p,enc x)::E) bZ:=by
   refine iX.rg (iX.gb (v:=enc x) (w':=bZ) (oe ?_) aT (iX.nl λ a' h_=>hK a' bZ (KeepsFrom.refl _ _) ⟨Z,Z⟩ aB h_));show look ((p,enc x)::E) p=_;simp [look]
  exact ai _ hA
 ·intro l pre x a' bZ _ _ aB hx hlen;exact vD l pre x bZ aB hlen a' hx
 ·intro D xs bZ uO hS aB hK;have:=vI D xs bZ uO hS aB hK a ha;have e:({a with defers:= {target:= .collected D,args:=#[]}::a.defers}:Act)=wd (mark D) a:=by simp [wd,mark,ha.d]
  rw [e];exact this
 ·intro D c pre bZ _ _ h _;exact h.elim
end Rd
end
section
namespace γ
variable {α:Type} {R:γ α}
end γ
section
variable {P:Program} {n:Nat} {E bl:List (Nat×Value)} {a:Act} {w w' w0 ba:World} {Q:Exit→Act→World→Prop} {ops:Array Oper} {v:Value}
variable {d:Option Nat} {ty:TypeId} {pos:String} {aH:Array Edge} {g:Option (Nat×Bool)} {x y z:Operand} {t:TypeId} {rest:List Oper}
theorem wX {k:IntKind} {i j:Int} (aU:0≤i) (af:0<j) (hw:k.wrap (i / j)=i / j):Op.intDiv .quo k i j=pure (.int k (i / j)):=by
 unfold Op.intDiv;have e:i.tdiv j=i / j:=Int.tdiv_eq_ediv_of_nonneg aU;rw [Hg (by omega)];simp only [e,hw]
section
variable {k:IntKind} {i j:Int} {u:TypeId}
theorem dF (hx:ev E x=some (.int k i)) (aJ:ev E y=some (.int k j)) (aU:0≤i) (af:0<j) (hw:k.wrap (i / j)=i / j):bu P E ⟨d, .binOp .quo t x y u,ty,pos,aH,g⟩ w (.int k (i / j)) w:=dh hx aJ (binOp_quo t k i j) (by rw [wX aU af hw];rfl)
theorem dJ {i j:Int} (aU:0≤i) (af:0<j) (ai:i≤9223372036854775807):IntKind.i64.wrap (i / j)=i / j:=by
 have c4:0≤i / j:=Int.ediv_nonneg aU (by omega);have c5:i / j≤i:=Int.ediv_le_self _ aU;exact ah ⟨by omega,by omega⟩
end
end
end
end Go.Proofs.Ytifffjhhammeiaa
