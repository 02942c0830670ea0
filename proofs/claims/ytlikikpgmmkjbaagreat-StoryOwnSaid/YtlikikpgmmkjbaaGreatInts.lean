import Derived.Test.YtlikikpgmmkjbaaGreatGra
import Derived.Test.YtlikikpgmmkjbaaGreatShelf
set_option linter.unusedVariables false
set_option linter.unusedSimpArgs false
set_option maxRecDepth 100000
set_option maxHeartbeats 4000000
namespace Go.Proofs.YtlikikpgmmkjbaaGreat
open Tryz
section
open Go.RowKit
structure dB where
 a:Option Addr
 n:Nat
 c:Nat
instance:Inhabited dB:=⟨⟨none,0,0⟩⟩
def iu:κ dB:=κ.flat 1 (λ v=> [.slice v.a v.n v.c]) (λ _=>True) (λ _ u=>∃ a n c,u= .slice a n c) (λ _=>rfl) (by intro a u hu;simp at hu;subst hu;rfl) (by
 intro a j u hu;cases j with
 | zero=>simp at hu;exact ⟨_,_,_,hu.symm⟩
 | succ j=>simp at hu)
theorem y0 {w:World} {cs:List Value} {a:dB} (h:iu.has w cs a):cs= [.slice a.a a.n a.c]:=And.left (show cs= [.slice a.a a.n a.c]∧True from h)
theorem acm:∀ (j:Nat) u,(Value.slice none 0 0).cells[j]? =some u→iu.raw j u:=by
 intro j u hu;have hu:(#[(.slice none 0 0:Value)]:Array Value)[j]? =some u:=hu
 match j,hu with
 | 0,hu=>exact ⟨_,_,_,(Option.some.inj hu).symm⟩
 | j+1,hu=>simp at hu
end
end Go.Proofs.YtlikikpgmmkjbaaGreat
namespace Go.Proofs.YtlikikpgmmkjbaaGreat.Mark
open Tryz
open Go.Proofs.YtlikikpgmmkjbaaGreat.hO

abbrev bV:=BitVec 64
abbrev W:=BitVec 64
def xs (k:Nat) (x:bV):bV:=x ^^^ x >>> k
def c1:bV:=13787848793156543929#64
def c2:bV:=10723151780598845931#64
def Ph:bV:=11400714819323198485#64
def mix (n:bV):bV:=xs 31 (xs 27 (xs 30 (n+Ph) * c1) * c2)
def down (k:Nat) (x:bV):bV:=xs (2 * k) (xs k x)
def D' (x y:bV):bV:=y * (2#64 - x * y)
def other (x:bV):bV:=D' x (D' x (D' x (D' x (D' x (D' x x)))))
def back (n:bV):bV:=down 30 (down 27 (down 31 n * other c2) * other c1) - Ph
section
variable (f:bV→bV)
def Mb (m n:bV):bV:=m ^^^ f n
def vd (l:List bV) (m:bV):bV:=l.foldl (Mb f) m
def BW (l:List bV):bV:=vd f l 0#64
theorem agx (l:List bV) (x:bV) (m:bV):vd f (l++ [x]) m=Mb f (vd f l m) x:=by unfold vd;rw [List.foldl_append];rfl
end
end Go.Proofs.YtlikikpgmmkjbaaGreat.Mark
namespace Go.Proofs.YtlikikpgmmkjbaaGreat
open Tryz
end Go.Proofs.YtlikikpgmmkjbaaGreat
set_option linter.unusedVariables false
set_option linter.unusedSimpArgs false
namespace Go.Proofs.YtlikikpgmmkjbaaGreat.Mark
open Tryz
open Go.RowKit Go.Proofs.YtlikikpgmmkjbaaGreat.hO

theorem HN {a b:Int} (h:a=b):Ending.returned (.int .u64 a)= .returned (.int .u64 b):=by rw [h]

theorem SZ (x:Int):IntKind.u64.wrap x=U (BitVec.ofInt 64 x):=by
 refine FY ?_ ?_ (abG x)
 ·rw [IntKind.wrap_u64];omega
 ·rw [IntKind.wrap_u64];omega
theorem agv (a:bV):IntKind.u64.wrap (U a+11400714819323198485)=U (a+Ph):=by
 rw [SZ,aqE,qg];rfl
theorem aqf (a:bV):IntKind.u64.wrap (U a * 13787848793156543929)=U (a * c1):=by
 rw [SZ,Rs,qg];rfl
theorem aqg (a:bV):IntKind.u64.wrap (U a * 10723151780598845931)=U (a * c2):=by
 rw [SZ,Rs,qg];rfl
theorem S1 (k:Nat) (a:bV):bits BinOp.xor IntKind.u64 (U a) (U a / 2 ^ k)=U (xs k a):=by
 refine FY (Js _ _ _) (Jr _ _ _) ?_;rw [Rw,Rt (n:=64) (U a) k (Jf a) (by have:=Vf a;omega),qg];rfl
theorem avL (a:bV):bits BinOp.xor IntKind.u64 (U a) (U a / 1073741824)=U (xs 30 a):=S1 30 a
theorem avK (a:bV):bits BinOp.xor IntKind.u64 (U a) (U a / 134217728)=U (xs 27 a):=S1 27 a
theorem avM (a:bV):bits BinOp.xor IntKind.u64 (U a) (U a / 2147483648)=U (xs 31 a):=S1 31 a
theorem HB (x:Int) (n:bV) (hx:x=U n) (w:World):
  Calls prog 118 #[.int .u64 x] w fun e w'=>e= .returned (.int .u64 (U (mix n)))∧w=w':=by
 subst hx;go_enter func118,ntmps118;go_wp2
 go_ret;refine ⟨HN ?_,Z⟩;rw [agv,avL,aqf,avK,aqg,avM];rfl

end Go.Proofs.YtlikikpgmmkjbaaGreat.Mark
namespace Go.Proofs.YtlikikpgmmkjbaaGreat
open Tryz
end Go.Proofs.YtlikikpgmmkjbaaGreat
set_option linter.unusedVariables false
set_option linter.unusedSimpArgs false
namespace Go.Proofs.YtlikikpgmmkjbaaGreat.Mark
open Tryz
open Go.RowKit Go.Proofs.YtlikikpgmmkjbaaGreat.hO


theorem Mc (x y:Int) (m n:bV) (hx:x=U m) (aG:y=U n) (w:World):
  Calls prog 133 #[.int .u64 x, .int .u64 y] w fun e w'=>e= .returned (.int .u64 (U (Mb mix m n)))∧w=w':=by
 subst hx aG;go_enter func133,ntmps133;go_wp2_with (go_at_call 118;refine (HB _ n rfl _).mono ?_;rintro e w' ⟨rfl,rfl⟩)
 go_ret;exact ⟨HN (by refine FY (Js _ _ _) (Jr _ _ _) ?_;rw [Rw,qg,qg];rfl),Z⟩
def AR (w:World) (a:Option Addr) (n:Nat) (zs:List bV):Prop :=
 n=zs.length∧n≤9223372036854775807∧(zs= []∨∃ b off,a=some ⟨b,off,none⟩∧∀ i (h:i<zs.length),w.cell? ⟨b,off+i,none⟩=some (.int .u64 (U zs[i])))

def AV (oL:List (List bV)) (m:bV):bV:=oL.foldl (fun m l=>vd mix l m) m
theorem agA (oL:List (List bV)) (l:List bV) (m:bV):AV (oL++ [l]) m=vd mix l (AV oL m):=by unfold AV;rw [List.foldl_append];rfl
theorem ac9 {α:Type} (l:List α) (k:Nat) (h:k<l.length):l.take (k+1)=l.take k++ [l[k]]:=List.take_succ_eq_append_getElem h

theorem agy (b c:Nat) (vs:List (Option Addr×Nat×Nat)) (oL:List (List bV)) (w:World) (hn:vs.length=oL.length) (hc:c≤100) (hcv:vs.length≤100)
  (h5:∀ i (h:i<vs.length),w.cell? ⟨b,i,none⟩=some (.slice vs[i].1 vs[i].2.1 vs[i].2.2)) (p':∀ i (h:i<vs.length) (cU:i<oL.length),AR w vs[i].1 vs[i].2.1 oL[i]):
  Calls prog 93 #[.slice (some ⟨b,0,none⟩) vs.length c] w fun e w'=>e= .returned (.int .u64 (U (AV oL 0#64)))∧w=w':=by
 obtain ⟨N,e4⟩:∃ N,Hid (N=vs.length):=⟨_,Lib.hid rfl⟩;have wE:=Lib.hid h5;have er:=Lib.hid p';have ob:=Lib.hid hn;rw [← e4.out] at hcv ⊢;clear h5 p' hn;go_enter func93,ntmps93;go_wp2
 go_loop [3,10] (fun v i=>∃ k:Nat,k≤N∧i= .int .i64 k∧v= .int .u64 (U (AV (oL.take k) 0#64))) (fun _ i=>N - (intOf i).toNat)
 case atStart=>exact ⟨0,Nat.zero_le _,rfl,rfl⟩
 case round =>
  obtain ⟨k,av,rfl,rfl⟩:=hrel;by_cases bl:k<N
  ·have Y8:k<vs.length:=by have:=e4.out;omega
   have Y9:k<oL.length:=by have:=ob.out;omega
   have γ:=wE.out k Y8;have aa:=er.out k Y8 Y9;obtain ⟨l,Uz⟩:∃ l,Hid (oL[k]=l):=⟨_,Lib.hid rfl⟩;rw [Uz.out] at aa;generalize vs[k].1=a at γ aa;generalize vs[k].2.1=n at γ aa;generalize vs[k].2.2=bW at γ aa;obtain ⟨au,a1,bO⟩:=aa;have ia:=Lib.hid au;clear au;generalize tI:AV (oL.take k) 0#64=M;have Ge:AV (oL.take (k+1)) 0#64=vd mix l M:=by rw [ac9 _ _ Y9,agA,tI,Uz.out]
   have jy:=Lib.hid Ge;clear tI Ge;rcases bO with mR | ⟨kz,off,rfl,om⟩
   ·have Zh:n=0:=by rw [ia.out,mR];rfl
    have aft:=Lib.hid mR;subst Zh;clear mR;go_wp2_with fail
    refine wp_loop_rounds 1 ?_;rw [rounds_succ];go_wp2_with fail
    go_round
    case rel=>exact ⟨k+1,by omega,by go_num,by rw [jy.out,aft.out];rfl⟩
    case measure=>simp [intOf];omega
   ·have afn:=Lib.hid om;clear om;go_wp2_with fail
    go_loop [3,16] (fun v i=>∃ q:Nat,q≤n∧i= .int .i64 q∧v= .int .u64 (U (vd mix (l.take q) M))) (fun _ i=>n - (intOf i).toNat)
    case atStart=>exact ⟨0,Nat.zero_le _,rfl,rfl⟩
    case round =>
     obtain ⟨q,I,rfl,rfl⟩:=hrel;by_cases aAw:q<n
     ·have Zt:q<l.length:=by have:=ia.out;omega
      have amk:=afn.out q Zt;generalize tJ:l[q]=z at amk;generalize Yk:vd mix (l.take q) M=M2;have CQ:=Lib.hid (show vd mix (l.take (q+1)) M=Mb mix M2 z by rw [ac9 _ _ Zt,agx,Yk,tJ]);clear tJ Yk γ;go_wp2_with (go_at_call 133;(with_reducible refine (Mc _ _ M2 z rfl rfl _).mono ?_);rintro e w' ⟨rfl,rfl⟩)
      go_round
      case rel=>exact ⟨q+1,by omega,by go_num,by rw [CQ.out]⟩
      case measure=>simp [intOf];omega
     ·have anA:n=q:=by omega
      subst anA;have az:l.take n=l:=List.take_of_length_le (by have:=ia.out;omega);rw [az,← jy.out];clear az γ;go_wp2_with fail
      go_round
      case rel=>exact ⟨k+1,by omega,by go_num,rfl⟩
      case measure=>simp [intOf];omega
  ·have Qj:N=k:=by omega
   subst Qj;have e:oL.take N=oL:=List.take_of_length_le (by have:=ob.out;have:=e4.out;omega);rw [e];clear e;go_wp2_with fail
   go_ret;exact ⟨Z,Z⟩

theorem AR.later {w w':World} {a:Option Addr} {n:Nat} {zs:List bV} (h:AR w a n zs) (Φ:Below w.heap.size w w'):AR w' a n zs:=by
 obtain ⟨γ,aa,au⟩:=h;refine ⟨γ,aa, ?_⟩;rcases au with au | ⟨b,off,ha,hc⟩
 ·exact .inl au
 ·refine .inr ⟨b,off,ha,fun i ao=> ?_⟩;rw [Φ.cell (World.block_lt_of_cell? w _ (hc i ao))];exact hc i ao

theorem agz (b n c:Nat) (a:Option Addr) (l:List bV) (w:World) (h:w.cell? ⟨b,0,none⟩=some (.slice a n c)) (hs:AR w a n l):
  Calls prog 93 #[.slice (some ⟨b,0,none⟩) 1 1] w fun e w'=>e= .returned (.int .u64 (U (BW mix l)))∧w=w':=by
 refine (agy b 1 [(a,n,c)] [l] w Z (by decide) (by simp) ?_ ?_).mono fun e w' h=>h
 ·intro i ao
  match i,ao with
  | 0,_=>exact h
 ·intro i ao _
  match i,ao with
  | 0,_=>exact hs
theorem Rr (a:Option Addr) (n c:Nat) (l:List bV) (w:World) (hs:AR w a n l):
  Calls prog 58 #[.slice a n c] w fun e w'=>e= .returned (.int .u64 (U (BW mix l)))∧Below w.heap.size w w':=by
 have Φ:=(Below.refl w.heap.size w).alloc (Nat.le_refl _) (.cells #[.slice a n c] 38);have fp:=hs.later Φ;go_enter func58,ntmps58;go_wp2_with fail
 refine (agz _ n c a l _ (by simp [World.cell?_alloc_new]) fp).mono ?_;rintro e w' ⟨rfl,rfl⟩;go_wp2_with fail
 go_ret;exact ⟨Z,Φ⟩

end Go.Proofs.YtlikikpgmmkjbaaGreat.Mark
namespace Go.Proofs.YtlikikpgmmkjbaaGreat
open Tryz
end Go.Proofs.YtlikikpgmmkjbaaGreat
set_option linter.unusedVariables false
set_option linter.unusedSimpArgs false
namespace Go.Proofs.YtlikikpgmmkjbaaGreat.Tree
open Tryz
open Go.Proofs.YtlikikpgmmkjbaaGreat.hO Go.Proofs.YtlikikpgmmkjbaaGreat.Mark

def qb (s:List UInt8):bV:=s.foldl (fun m b=>mix (m ^^^ BitVec.ofNat 64 b.toNat)) (mix (BitVec.ofNat 64 s.length))
def n3 (b:bV):bV:=b <<<32 ||| b >>> 32
def pA (a b:bV):bV:=mix (mix (a ^^^ n3 b ^^^ 1#64) ^^^ b)
def bu (n:Nat):Nat:=2 ^ Nat.log2 (n - 1)
theorem zJ {n:Nat} (h:2≤n):1≤bu n∧bu n<n∧n≤2 * bu n:=by
 unfold bu;have γ:=Nat.log2_self_le (n:=n - 1) (by omega);have aa:=@Nat.lt_log2_self (n - 1);have au:1≤2 ^ Nat.log2 (n - 1):=Nat.one_le_two_pow;rw [Nat.pow_succ] at aa;omega
def xL:Nat→List (List UInt8)→bV
 | 0,_=>0#64
 | f+1,l=>match l with
  | []=>0#64
  | [s]=>qb s
  | a::b::r=>pA (xL f ((a::b::r).take (bu (r.length+2)))) (xL f ((a::b::r).drop (bu (r.length+2))))
def iq (l:List (List UInt8)):bV:=xL l.length l
theorem RZ (f:Nat) (l:List (List UInt8)) (h:2≤l.length):xL (f+1) l=pA (xL f (l.take (bu l.length))) (xL f (l.drop (bu l.length))):=by
 match l,h with
 | a::b::r,_=>rfl
theorem acx (f g:Nat) (l:List (List UInt8)) (hf:l.length≤f) (aO:l.length≤g):xL f l=xL g l:=by
 induction f generalizing g l with
 | zero =>
  have:l= []:=List.eq_nil_of_length_eq_zero (by omega);subst this;cases g<;>rfl
 | succ f bk =>
  cases g with
  | zero =>
   have:l= []:=List.eq_nil_of_length_eq_zero (by omega);subst this;rfl
  | succ g =>
   by_cases h:2≤l.length
   ·have hs:=zJ h;rw [RZ f l h,RZ g l h];rw [bk g (l.take (bu l.length)) (by rw [List.length_take];omega) (by rw [List.length_take];omega)];rw [bk g (l.drop (bu l.length)) (by rw [List.length_drop];omega) (by rw [List.length_drop];omega)]
   ·match l,h with
    | [],_=>rfl
    | [s],_=>rfl
    | a::b::r,h=>simp at h
theorem acy (l:List (List UInt8)) (h:2≤l.length):iq l=pA (iq (l.take (bu l.length))) (iq (l.drop (bu l.length))):=by
 have hs:=zJ h;have e:iq l=xL ((l.length - 1)+1) l:=by unfold iq;congr 1;omega
 rw [e,RZ _ l h];unfold iq;rw [acx (l.length - 1) _ (l.take (bu l.length)) (by rw [List.length_take];omega) (Nat.le_refl _)];rw [acx (l.length - 1) _ (l.drop (bu l.length)) (by rw [List.length_drop];omega) (Nat.le_refl _)]
end Go.Proofs.YtlikikpgmmkjbaaGreat.Tree
namespace Go.Proofs.YtlikikpgmmkjbaaGreat
open Tryz
end Go.Proofs.YtlikikpgmmkjbaaGreat
set_option linter.unusedVariables false
set_option linter.unusedSimpArgs false
namespace Go.Proofs.YtlikikpgmmkjbaaGreat.Tree
open Tryz
open Go.RowKit Go.Proofs.YtlikikpgmmkjbaaGreat Go.Proofs.YtlikikpgmmkjbaaGreat.hO Go.Proofs.YtlikikpgmmkjbaaGreat.Mark

theorem MG (a b:bV):bits .xor .u64 (U a) (U b)=U (a ^^^ b):=by
 refine FY (Js _ _ _) (Jr _ _ _) ?_;rw [Rw,qg,qg]
theorem asF (b:bV):bits .or .u64 (IntKind.u64.wrap (U b * 4294967296)) (U b / 4294967296)=U (n3 b):=by
 refine FY (Js _ _ _) (Jr _ _ _) ?_;have e:U b / 4294967296=U b / 2 ^ 32:=rfl;rw [aqK,abG,Rs,qg,e,Rt (n:=64) (U b) 32 (Jf b) (by have:=Vf b;omega),qg];unfold n3;have bc:b * BitVec.ofInt 64 4294967296=b <<<32:=by
  apply BitVec.eq_of_toNat_eq;have cy:(BitVec.ofInt 64 4294967296).toNat=4294967296:=by decide
  rw [BitVec.toNat_mul,BitVec.toNat_shiftLeft,cy,Nat.shiftLeft_eq]
 rw [bc]
theorem asE (b:bV) (w:World):Calls prog 156 #[.int .u64 (U b), .int .i64 32] w fun e w'=>e= .returned (.int .u64 (U (n3 b)))∧w=w':=by
 have γ:bits .and .u64 32 63=32:=by decide
 have aa:=asF b;go_enter func156,ntmps156;go_wp2_with fail
 go_ret;exact ⟨Z,Z⟩
theorem RA (a b:bV) (w:World):Calls prog 117 #[.int .u64 (U a), .int .u64 (U b)] w fun e w'=>e= .returned (.int .u64 (U (pA a b)))∧w=w':=by
 have γ:=MG a (n3 b);have aa:bits .xor .u64 (U (a ^^^ n3 b)) 1=U (a ^^^ n3 b ^^^ 1#64):=MG (a ^^^ n3 b) 1#64;have au:=MG (mix (a ^^^ n3 b ^^^ 1#64)) b;have hr:=asE b;have Zc:=HB _ (a ^^^ n3 b ^^^ 1#64) rfl;have ana:=HB _ (mix (a ^^^ n3 b ^^^ 1#64) ^^^ b) rfl;unfold pA;generalize mix (mix (a ^^^ n3 b ^^^ 1#64) ^^^ b)=z at *
 generalize mix (a ^^^ n3 b ^^^ 1#64) ^^^ b=y at *
 generalize mix (a ^^^ n3 b ^^^ 1#64)=x at *
 generalize a ^^^ n3 b ^^^ 1#64=v at *
 generalize a ^^^ n3 b=u at *
 generalize n3 b=t at *
 go_enter func117,ntmps117;go_wp2_with fail
 refine (hr _).mono ?_;rintro e w' ⟨rfl,rfl⟩;go_wp2_with fail
 refine (Zc _).mono ?_;rintro e w' ⟨rfl,rfl⟩;go_wp2_with fail
 refine (ana _).mono ?_;rintro e w' ⟨rfl,rfl⟩;go_wp2_with fail
 go_ret;exact ⟨Z,Z⟩
theorem apg (l:List UInt8) (n:Nat) (b:UInt8) (m:bV):(l++ [b]).foldl (fun m b=>mix (m ^^^ BitVec.ofNat 64 b.toNat)) m=mix (l.foldl (fun m b=>mix (m ^^^ BitVec.ofNat 64 b.toNat)) m ^^^ BitVec.ofNat 64 b.toNat):=by rw [List.foldl_append];rfl
def upto (s:ByteArray) (k:Nat):bV:=(s.data.toList.take k).foldl (fun m b=>mix (m ^^^ BitVec.ofNat 64 b.toNat)) (mix (BitVec.ofNat 64 s.size))
theorem auI (s:ByteArray) (k:Nat) (h:k<s.size):upto s (k+1)=mix (upto s k ^^^ BitVec.ofNat 64 s[k].toNat):=by
 unfold upto;have av:k<s.data.toList.length:=by simpa using h
 rw [List.take_succ_eq_append_getElem av,apg _ k];rfl
theorem auH (s:ByteArray):upto s s.size=qb s.data.toList:=by
 unfold upto qb;rw [List.take_of_length_le (by simp)];rfl
theorem Vg (n:Nat) (h:n<18446744073709551616):((n:Nat):Int)=U (BitVec.ofNat 64 n):=by
 unfold U;rw [BitVec.toNat_ofNat,Nat.mod_eq_of_lt h]
theorem zm (s:ByteArray) (hs:s.size≤9223372036854775807) (w:World):Calls prog 83 #[.string s] w fun e w'=>e= .returned (.int .u64 (U (qb s.data.toList)))∧∃ q,w'=w.drewN q:=by
 have aE:upto s 0=mix (BitVec.ofNat 64 s.size):=rfl;have KA:=Vg s.size (by omega);have hm:=HB _ (BitVec.ofNat 64 s.size) KA;have di:=Lib.hid (auH s);rw [← aE] at hm;have sX:=Lib.hid aE;have hw:IntKind.u64.wrap (s.size:Int)=(s.size:Int):=by rw [IntKind.wrap_u64];omega
 clear KA aE;go_enter func83,ntmps83;go_wp2_with fail
 refine (hm _).mono ?_;rintro e w' ⟨rfl,rfl⟩;clear hw;go_wp2_with fail
 go_loop [3,11] (fun m i=>∃ k:Nat,k≤s.size∧i= .int .i64 (k:Int)∧m= .int .u64 (U (upto s k))) (fun _ i=>s.size - (intOf i).toNat)
 case atStart=>exact ⟨0,Nat.zero_le _,rfl,rfl⟩
 case round =>
  obtain ⟨k,av,rfl,rfl⟩:=hrel;by_cases bl:k<s.size
  ·have Qx:=auI s k bl;have hx:=MG (upto s k) (BitVec.ofNat 64 s[k].toNat);rw [← Vg s[k].toNat (by have:=s[k].toNat_lt;omega)] at hx;have hm:=HB _ (upto s k ^^^ BitVec.ofNat 64 s[k].toNat) rfl;rw [← Qx] at hm;have er:=Lib.hid Qx;clear Qx;have aAI:IntKind.u64.wrap (s[k].toNat:Int)=(s[k].toNat:Int):=by have:=s[k].toNat_lt;rw [IntKind.wrap_u64];omega
   obtain ⟨m2,CQ⟩:∃ m2,Hid (upto s (k+1)=m2):=⟨_,Lib.hid rfl⟩;rw [CQ.out] at hm;clear er;generalize upto s k ^^^ BitVec.ofNat 64 s[k].toNat=x at *
   generalize upto s k=m1 at *
   go_wp2_with fail
   refine (hm _).mono ?_;rintro e w' ⟨rfl,rfl⟩;go_wp2_with fail
   go_round
   case rel=>exact ⟨k+1,by omega,by go_num,by rw [CQ.out]⟩
   case measure=>simp [intOf];omega
  ·obtain rfl:k=s.size:=by omega
   rw [di.out];go_wp2_with fail
   go_ret;exact ⟨Z,0,Z⟩
theorem apA (n:Nat) (h:1≤n) (aa:n<256):Lib.bitLen n=Nat.log2 n+1:=by
 have key:∀ n:Fin 256,n.val=0∨Lib.bitLen n.val=Nat.log2 n.val+1:=by decide +kernel
 rcases key ⟨n,aa⟩ with aE | aE
 ·simp only at aE;omega
 ·exact aE
theorem Ep (n:Nat) (aa:2≤n) (hn:n≤256) (w:World):Calls prog 116 #[.int .i64 (n:Int)] w fun e w'=>e= .returned (.int .i64 (bu n:Int))∧w=w':=by
 have az:=apA (n - 1) (by omega) (by omega);have Φ:=bits_Len ((n:Int) - 1);have hw:IntKind.u64.wrap ((n:Int) - 1)=(n:Int) - 1:=by rw [IntKind.wrap_u64];omega
 have aA:((n:Int) - 1).toNat=n - 1:=by omega
 rw [aA,az] at Φ;have am8:Nat.log2 (n - 1)<8:=by
  rw [Nat.log2_lt (by omega)];omega
 unfold bu;generalize Nat.log2 (n - 1)=k at *
 have hp:2 ^ k<9223372036854775808:=Nat.lt_of_lt_of_le (Nat.pow_lt_pow_right (a:=2) (by decide) am8) (by decide);have aAK:IntKind.i64.wrap (2 ^ k:Int)=((2 ^ k:Nat):Int):=by
  have e:(2 ^ k:Int)=((2 ^ k:Nat):Int):=by simp
  rw [e];generalize 2 ^ k=P at hp;exact IntWalk.i64_in _ (by omega)
 clear az aA hp;have oq:((k+1:Nat):Int)=(k:Int)+1:=by omega
 rw [oq] at Φ;go_enter func116,ntmps116;go_wp2_with fail
 refine (Φ _ (by omega) (by omega)).mono ?_;rintro e w' ⟨rfl,rfl⟩;clear Φ oq;go_wp2_with fail
 go_ret;exact ⟨Z,Z⟩
def l2 (l:List ByteArray):List Value:=l.map Value.string
theorem yE (l:List ByteArray):(l2 l).length=l.length:=by unfold l2;simp
theorem ahx (l:List ByteArray) (i:Nat) (h:i<l.length):(l2 l)[i]? =some (.string l[i]):=by unfold l2;simp [h]
def lists (l:List ByteArray):List (List UInt8):=l.map fun s=>s.data.toList
def AQ (l:List ByteArray):Prop:=∀ s∈l,s.size≤9223372036854775807
theorem Lj (l:List ByteArray):(lists l).length=l.length:=by unfold lists;simp
theorem Rd.cut {w:World} {b o n:Nat} {l:List ByteArray} (h:Rd w 1 (some ⟨b,o,none⟩) n (l2 l)) (k:Nat) (av:k≤n):
  Rd w 1 (some ⟨b,o,none⟩) k (l2 (l.take k))∧Rd w 1 (some ⟨b,o+k,none⟩) (n - k) (l2 (l.drop k)):=by
 have az:l.length=n:=by have:=h.1;rw [yE] at this;omega
 refine ⟨⟨by rw [yE,List.length_take];omega,fun aE=> ?_⟩,⟨by rw [yE,List.length_drop];omega,fun aE=> ?_⟩⟩
 ·obtain ⟨kz,zC,e,hc⟩:=h.2 (by omega);refine ⟨kz,zC,e,fun j u hu=>hc j u ?_⟩;unfold l2 at hu ⊢;rw [List.getElem?_map,List.getElem?_take] at hu;rw [List.getElem?_map];split at hu
  ·exact hu
  ·cases hu
 ·obtain ⟨kz,zC,e,hc⟩:=h.2 (by omega);injection e with e
  injection e with aU bc
  subst aU;subst bc;refine ⟨b,o+k,Z,fun j u hu=> ?_⟩;rw [Nat.add_assoc];refine hc (k+j) u ?_;unfold l2 at hu ⊢;rw [List.getElem?_map,List.getElem?_drop] at hu;rw [List.getElem?_map];exact hu
theorem acg {P:Program} {f:FuncId} {args:Array Value} {w:World} {n:Nat} {v:Value}
  (h:Calls P f args (w.drewN n) fun e w'=>e= .returned v∧∃ q,w'=(w.drewN n).drewN q):Calls P f args (w.drewN n) fun e lK=>e= .returned v∧∃ m,lK=w.drewN m :=
 h.mono fun _ _ ⟨he,q,hm⟩=>⟨he,n+q,by rw [hm];simp⟩
theorem R0 (f:Nat):∀ (A:Option Addr) (n c:Nat) (l:List ByteArray) (w:World),n≤f→n≤256→n≤c→c≤9223372036854775807→AQ l→Rd w 1 A n (l2 l)→
  Calls prog 81 #[.slice A n c] w fun e w'=>e= .returned (.int .u64 (U (iq (lists l))))∧∃ q,w'=w.drewN q:=by
 induction f with
 | zero =>
  intro A n c l w hf mO ph hc hs hr;obtain rfl:n=0:=by omega
  have az:l= []:=List.eq_nil_of_length_eq_zero (by have:=hr.1;rw [yE] at this;omega);subst az;go_enter func81,ntmps81;go_wp2_with fail
  go_ret;exact ⟨Z,0,Z⟩
 | succ f bk =>
  intro A n c l w hf mO ph hc hs hr;have az:l.length=n:=by have:=hr.1;rw [yE] at this;omega
  by_cases aE:n=0
  ·subst aE;have az:l= []:=List.eq_nil_of_length_eq_zero az;subst az;go_enter func81,ntmps81;go_wp2_with fail
   go_ret;exact ⟨Z,0,Z⟩
  ·by_cases γ:n=1
   ·subst γ;obtain ⟨b,o,rfl,hc⟩:=hr.2 (by omega);obtain ⟨s,rfl⟩:∃ s,l= [s]:=by
     match l,az with
     | [s],_=>exact ⟨s,rfl⟩
    have hx:=hc 0 _ rfl;have KS:=zm s (hs s (by simp)) w;rw [show iq (lists [s])=qb s.data.toList from rfl];simp only [Nat.add_zero] at hx;generalize qb s.data.toList=z at *
    clear hc bk hr az aE;go_enter func81,ntmps81;go_wp2_with fail
    refine KS.mono ?_;rintro e w' ⟨rfl,q,rfl⟩;go_wp2_with fail
    go_ret;exact ⟨Z,q,Z⟩
   ·obtain ⟨b,o,rfl,_⟩:=hr.2 (by omega);have aa:2≤n:=by omega
    have rb:=zJ aa;have xp:=Ep n aa mO w;have QC:=acy (lists l) (by rw [Lj,az];exact aa);rw [Lj,az] at QC;have hcut:=Rd.cut hr (bu n) (by omega);have aA:lists (l.take (bu n))=(lists l).take (bu n):=by unfold lists;rw [List.map_take]
    have hd:lists (l.drop (bu n))=(lists l).drop (bu n):=by unfold lists;rw [List.map_drop]
    have c1:=fun a=>bk (some ⟨b,o,none⟩) (bu n) c (l.take (bu n)) (w.drewN a) (by omega) (by omega) (by omega) hc (fun s h=>hs s (List.mem_of_mem_take h)) (hcut.1.drewN a);have c2:=fun a=>bk (some ⟨b,o+bu n,none⟩) (n - bu n) (c - bu n) (l.drop (bu n)) (w.drewN a) (by omega) (by omega) (by omega) (by omega) (fun s h=>hs s (List.mem_of_mem_drop h)) (hcut.2.drewN a);rw [QC];rw [aA] at c1;rw [hd] at c2;have hp:=RA (iq ((lists l).take (bu n))) (iq ((lists l).drop (bu n)));generalize pA (iq ((lists l).take (bu n))) (iq ((lists l).drop (bu n)))=z at *
    generalize iq ((lists l).take (bu n))=x at *
    generalize iq ((lists l).drop (bu n))=y at *
    clear QC aA hd hcut bk hr az aE γ;generalize bu n=m at *
    have lv:((n:Int)== 0)=false:=by rw [beq_eq_false_iff_ne];omega
    have mT:((n:Int)== 1)=false:=by rw [beq_eq_false_iff_ne];omega
    go_enter func81,ntmps81;go_wp2_with fail
    refine xp.mono ?_;rintro e w' ⟨rfl,rfl⟩;go_wp2_with fail
    go_quiet ((first | (go_at_call 81;first | (with_reducible exact acg (c1 _)) | (with_reducible exact acg (c2 _))) | (go_at_call 117;exact quiet_of (hp _))))
    go_wp2_with fail
    go_ret;exact ⟨Z,_,Z⟩
end Go.Proofs.YtlikikpgmmkjbaaGreat.Tree
namespace Go.Proofs.YtlikikpgmmkjbaaGreat
open Tryz
end Go.Proofs.YtlikikpgmmkjbaaGreat
namespace Go.Proofs.YtlikikpgmmkjbaaGreat.Pack
open Tryz
open Go.Proofs.YtlikikpgmmkjbaaGreat.hO
def iI:Nat→Nat→List UInt8
  | 0,n=> [UInt8.ofNat n]
  | k+1,n=>if n<128 then [UInt8.ofNat n] else UInt8.ofNat (n % 128+128)::iI k (n / 128)
def dv (n:Nat):List UInt8:=iI 9 n
def val:List UInt8→Nat
  | []=>0
  | b::l=>b.toNat % 128+128 * val l

theorem xH {k n:Nat} (h:n<128):iI k n= [UInt8.ofNat n]:=by
  cases k with
  | zero=>rfl
  | succ k=>unfold iI;rw [if_pos h]
theorem xG {k n:Nat} (h:¬ n<128):iI (k+1) n=UInt8.ofNat (n % 128+128)::iI k (n / 128):=by
  rw [iI];rw [if_neg h]
theorem RG (k n:Nat):(iI k n).length≤k+1∧1≤(iI k n).length:=by
  induction k generalizing n with
  | zero=>simp [iI]
  | succ k bk =>
    by_cases h:n<128
    · rw [xH h];simp
    · rw [xG h];have:=bk (n / 128);simp;omega
theorem xI (n:Nat):(dv n).length≤10∧1≤(dv n).length:=RG 9 n

theorem Eg {n k:Nat} (h:n<128 ^ (k+2)):n / 128<128 ^ (k+1):=by
  rw [Nat.pow_succ] at h;exact Nat.div_lt_of_lt_mul (by rw [Nat.mul_comm];exact h)
theorem auM (k n:Nat) (h:n<128 ^ (k+1)):val (iI k n)=n:=by
  induction k generalizing n with
  | zero =>
    have γ:n<128:=by simpa using h
    simp only [iI,val,UInt8.toNat_ofNat'];omega
  | succ k bk =>
    by_cases γ:n<128
    · rw [xH γ]
      simp only [val,UInt8.toNat_ofNat'];omega
    · rw [xG γ]
      simp only [val,UInt8.toNat_ofNat'];rw [bk (n / 128) (Eg h)];omega
theorem BJ {n:Nat} (h:n<18446744073709551616):n<128 ^ (9+1):=Nat.lt_of_lt_of_le h (by decide)
theorem auN (n:Nat) (h:n<18446744073709551616):val (dv n)=n:=auM 9 n (BJ h)
theorem arN (k n i:Nat) (hn:n<128 ^ (k+1)) (h:i+1<(iI k n).length) (ao:i<(iI k n).length):128≤((iI k n)[i]).toNat:=by
  induction k generalizing n i with
  | zero=>simp [iI] at h
  | succ k bk =>
    by_cases γ:n<128
    · simp [xH γ] at h
    · simp only [xG γ] at h ao ⊢
      cases i with
      | zero=>simp only [List.getElem_cons_zero,UInt8.toNat_ofNat'];omega
      | succ i =>
        simp only [List.getElem_cons_succ];exact bk (n / 128) i (Eg hn) (by simpa using h) (by simpa using ao)
theorem ab5 (k n:Nat) (hn:n<128 ^ (k+1)) (i:Nat) (ao:i<(iI k n).length) (az:i+1=(iI k n).length):((iI k n)[i]).toNat<128:=by
  induction k generalizing n i with
  | zero =>
    have γ:n<128:=by simpa using hn
    simp only [iI,List.getElem_singleton,UInt8.toNat_ofNat'];omega
  | succ k bk =>
    by_cases γ:n<128
    · simp only [xH γ,List.getElem_singleton,UInt8.toNat_ofNat']
      omega
    · simp only [xG γ] at az ao ⊢
      cases i with
      | zero =>
        have aa:=(RG k (n / 128)).2;rw [List.length_cons] at az;omega
      | succ i =>
        simp only [List.getElem_cons_succ];exact bk (n / 128) (Eg hn) i (by simpa using ao) (by simpa using az)
theorem auO (l:List UInt8) (b:UInt8):val (l++ [b])=val l+128 ^ l.length * (b.toNat % 128):=by
  induction l with
  | nil=>simp [val]
  | cons x l bk =>
    simp only [List.cons_append,val,bk,List.length_cons,Nat.pow_succ];rw [Nat.mul_add,← Nat.mul_assoc,Nat.mul_comm 128 (128 ^ l.length)];omega
theorem auL (l:List UInt8):val l<128 ^ l.length:=by
  induction l with
  | nil=>simp [val]
  | cons x l bk =>
    simp only [val,List.length_cons,Nat.pow_succ];omega
def Fc (l:List UInt8) (n:Nat) (rest:List UInt8) (e:Int):Prop :=
  (∃ k,k<10∧k<l.length∧(∀ i (h:i<l.length),i<k→128≤l[i].toNat)∧(∀ h:k<l.length,l[k].toNat<128)∧
    ((dv (val (l.take (k+1)) % 18446744073709551616)=l.take (k+1)∧n=val (l.take (k+1)) % 18446744073709551616∧rest=l.drop (k+1)∧e=0)∨
     (dv (val (l.take (k+1)) % 18446744073709551616)≠l.take (k+1)∧n=0∧rest= []∧e=4)))∨
  (l.length<10∧(∀ i (h:i<l.length),128≤l[i].toNat)∧n=0∧rest= []∧e=3)∨
  (10≤l.length∧(∀ i (h:i<l.length),i<10→128≤l[i].toNat)∧n=0∧rest= []∧e=4)
def mN (x:Int):Nat:=if 0≤x then (2 * x).toNat else (-2 * x - 1).toNat
end Go.Proofs.YtlikikpgmmkjbaaGreat.Pack
namespace Go.Proofs.YtlikikpgmmkjbaaGreat
open Tryz
end Go.Proofs.YtlikikpgmmkjbaaGreat
set_option linter.unusedVariables false
set_option linter.unusedSimpArgs false
namespace Go.Proofs.YtlikikpgmmkjbaaGreat.Pack
open Tryz
open Go.RowKit Go.Proofs.YtlikikpgmmkjbaaGreat.hO

theorem aoy:(prog.info? 5).map (fun i=>(i.zero,i.size,i.bytes))=some (some (.int .u8 0),1,1):=by kernel_rfl
def cells (l:List UInt8):List Value:=l.map fun b=>Value.int .u8 (b.toNat:Int)
theorem V4 (l:List UInt8) (b:UInt8):cells (l++ [b])=cells l++ [Value.int .u8 (b.toNat:Int)]:=by unfold cells;simp
theorem ahz (l:List UInt8) (i:Nat) (h:i<l.length):(cells l)[i]? =some (.int .u8 (l[i].toNat:Int)):=by unfold cells;simp [h]
def strOf (l:List UInt8):ByteArray:=⟨l.toArray⟩
theorem Es (l:List UInt8):(strOf l).size=l.length:=by
 show l.toArray.size=_;simp
theorem uF (l:List UInt8):(strOf l).data.toList=l:=rfl

theorem aqQ (n:Nat):bits BinOp.or IntKind.u8 ((n:Int) % 256) 128=(((UInt8.ofNat (n % 128+128)).toNat:Nat):Int):=by
 have e:((n:Int) % 256)=((n % 256:Nat):Int):=by omega
 have γ:n % 256<256:=Nat.mod_lt _ (by decide);have key:∀ x:Fin 256,(x.val ||| 128)=x.val % 128+128:=by decide +kernel
 have aa:=key ⟨n % 256,γ⟩;simp only at aa;rw [e,show (128:Int)=((128:Nat):Int) from rfl,(bits_nat .u8 8 (by decide) wraps_u8 _ _ (by omega) (by decide)).2,aa];simp only [UInt8.toNat_ofNat'];omega

theorem ahT (w:World) (base g n cap:Nat) (l:List UInt8) (hn:n=l.length) (h:w.ownsRow base 5 1 (.slice (some ⟨g,0,none⟩) n cap) n (cells l)):
  (convert 76 9 (.slice (some ⟨g,0,none⟩) n cap)).run prog w= .ok (.string (strOf l)) w:=by
 subst hn;refine run_convert_bytes_back (P:=prog) w 76 9 5 ⟨g,0,none⟩ cap l underlying76 underlying5 underlying9 ?_;intro j ay;rw [Vi,h.cellAt j (by omega),ahz l j ay]

theorem LQ (n:Nat) (hn:n<18446744073709551616) (x:Int) (hx:x=n) (w:World):
  Calls prog 130 #[.int .u64 x] w fun e w'=>e= .returned (.string (strOf (dv n)))∧Below w.heap.size w w':=by
 subst hx;obtain ⟨i0,ao,lv,mT,nS⟩:=info_parts aoy;have e4:=Lib.hid (BJ hn);clear hn;go_enter func130,ntmps130;go_wp2_with fail
 go_loopw [0,3] (fun x v wr=>∃ (k m:Nat) (acc:List UInt8),k≤9∧x= .int .u64 (m:Int)∧Hid (m<128 ^ (k+1))∧Hid (acc++iI k m=dv n)∧wr.ownsRow w.heap.size 5 1 v acc.length (cells acc)∧Below w.heap.size w wr) (fun x _ _=>(intOf x).toNat)
 case atStart=>exact ⟨9,n, [],Nat.le_refl _,rfl,e4,rfl,World.ownsRow_nil _ _ _ _,Below.refl _ _⟩
 case round =>
  obtain ⟨k,m,acc,av,rfl,jy,hP,eI,Φ⟩:=hrel;by_cases bl:128≤m
  ·obtain ⟨k',rfl⟩:∃ k',k=k'+1:=by
    cases k with
    | zero=>have:=jy.out;simp at this;omega
    | succ k'=>exact ⟨k',rfl⟩
   obtain ⟨b,aV⟩:∃ b,Hid (b=UInt8.ofNat (m % 128+128)):=⟨_,Lib.hid rfl⟩;have anu:=aqQ m;rw [← aV.out] at anu;have sZ:Hid ((acc++ [b])++iI k' (m / 128)=dv n):=by
    show _=_;rw [← hP.out,xG (by omega),← aV.out,List.append_assoc];rfl
   have CQ:Hid (m / 128<128 ^ (k'+1)):=Eg jy.out;have al5:acc.length≤9:=by
    have γ:=(xI n).1;have aa:=congrArg List.length sZ.out;have au:=(RG k' (m / 128)).2;simp at aa;omega
   have Gl:=Φ.alloc Φ.size (.cells #[.int .u8 (b.toNat:Int)] 5);go_wp2_with (at_builtin;refine wpList_append_own _ rfl _ _ 76 rfl w.heap.size 5 i0 (.int .u8 0) 1 1 underlying76 ao lv mT nS rfl (by decide) _ acc.length (cells acc) rfl (eI.alloc _) ⟨wr.heap.size,0,none⟩ 1 1 [.int .u8 (b.toNat:Int)] rfl rfl ?d1 ?d2 ?d3 ?d4 ?d5 ?_)
   case d1 =>
    intro j u ay
    match j,ay with
    | 0,ay=>simp at ay;subst ay;simp [Addr.add]
   case d2=>intro u hu;simp at hu;subst hu;rfl
   case d3=>unfold maxLen;omega
   case d4=>omega
   case d5=>have:=Φ.size;simp;omega
   intro v' aM tU iQ _;have cF:=Gl.grown iQ (by have:=Φ.size;simp;omega) (fun q I=>(eI.lt q I).1);rw [← V4,show acc.length+1=(acc++ [b]).length by simp] at tU;clear iQ eI Gl Φ;go_wp2_with fail
   go_roundw
   case rel=>exact ⟨k',m / 128,acc++ [b],by omega,by go_num,CQ,sZ,tU,cF⟩
   case measure=>simp [intOf];omega
  ·have ha:acc++ [UInt8.ofNat m]=dv n:=by rw [← hP.out,xH (by omega)]
   have Zd:(UInt8.ofNat m).toNat=m:=by rw [UInt8.toNat_ofNat'];omega
   have al5:acc.length≤9:=by
    have γ:=(xI n).1;have aa:=congrArg List.length ha;simp at aa;omega
   have afh:=Lib.hid Zd;have sZ:=Lib.hid ha;have Gl:=Φ.alloc Φ.size (.cells #[.int .u8 (m:Int)] 5);clear ha Zd;go_wp2_with (at_builtin;refine wpList_append_own _ rfl _ _ 76 rfl w.heap.size 5 i0 (.int .u8 0) 1 1 underlying76 ao lv mT nS rfl (by decide) _ acc.length (cells acc) rfl (eI.alloc _) ⟨wr.heap.size,0,none⟩ 1 1 [.int .u8 (m:Int)] rfl rfl ?c1 ?c2 ?c3 ?c4 ?c5 ?_)
   case c1 =>
    intro j u ay
    match j,ay with
    | 0,ay=>simp at ay;subst ay;simp [Addr.add]
   case c2=>intro u hu;simp at hu;subst hu;rfl
   case c3=>unfold maxLen;omega
   case c4=>omega
   case c5=>have:=Φ.size;simp;omega
   intro v' aM tU iQ _;have cF:=Gl.grown iQ (by have:=Φ.size;simp;omega) (fun q I=>(eI.lt q I).1);have YD:cells acc++ [Value.int .u8 (m:Int)]=cells (dv n):=by rw [← sZ.out,V4,afh.out]
   have hlen:acc.length+1=(dv n).length:=by rw [← sZ.out];simp
   rw [YD,hlen] at tU;have hex:∃ g cap,v'= .slice (some ⟨g,0,none⟩) (dv n).length cap:=by
    rcases tU.2 with ⟨_,h⟩ | ⟨g,cap,cur,h,_⟩
    ·omega
    ·exact ⟨g,cap,h⟩
   obtain ⟨g,cap,hv⟩:=hex;rw [hv] at tU ⊢;have hcv:=ahT aM _ g _ cap (dv n) rfl tU;clear hv iQ eI Gl Φ YD hlen tU;go_wp2_with fail
   go_ret;exact ⟨Z,cF⟩

theorem HN {a b:Int} (h:a=b):Ending.returned (.int .u64 a)= .returned (.int .u64 b):=by rw [h]
theorem avI (n:Nat) (h:n<18446744073709551616):n ^^^ 18446744073709551615=18446744073709551615 - n:=by
 have e:(BitVec.ofNat 64 n ^^^ BitVec.allOnes 64).toNat=(~~~(BitVec.ofNat 64 n)).toNat:=by rw [BitVec.xor_allOnes]
 rw [BitVec.toNat_xor,BitVec.toNat_not,BitVec.toNat_ofNat,BitVec.toNat_allOnes,Nat.mod_eq_of_lt h] at e;exact e
theorem akJ (x:Int) (aE: -9223372036854775808≤x) (γ:x≤9223372036854775807) (w:World):
  Calls prog 131 #[.int .i64 x] w fun e w'=>e= .returned (.int .u64 (mN x))∧w=w':=by
 by_cases hx:0≤x
 ·go_enter func131,ntmps131;go_wp2
  go_ret;refine ⟨HN ?_,Z⟩;have e:x / 9223372036854775808=((0:Nat):Int):=by omega
  obtain ⟨m,rfl⟩:=Int.eq_ofNat_of_zero_le hx;rw [e,show ((m:Int) * 2)=((m * 2:Nat):Int) by omega,u64_xor_nat _ _ (by omega) (by omega),Nat.xor_zero];unfold mN;rw [if_pos hx];omega
 ·go_enter func131,ntmps131;go_wp2
  go_ret;refine ⟨HN ?_,Z⟩;have an9:¬ 0≤x:=by omega
  have e:IntKind.u64.wrap (x / 9223372036854775808)=((18446744073709551615:Nat):Int):=by rw [IntKind.wrap_u64];omega
  have bc:IntKind.u64.wrap (IntKind.u64.wrap x * 2)=(((2 * x+18446744073709551616).toNat:Nat):Int):=by rw [IntKind.wrap_u64,IntKind.wrap_u64];omega
  rw [e,bc,u64_xor_nat _ _ (by omega) (by omega)];unfold mN;rw [if_neg an9];have cy:(2 * x+18446744073709551616).toNat ^^^ 18446744073709551615=18446744073709551615 - (2 * x+18446744073709551616).toNat:=by
   exact avI _ (by omega)
  rw [cy];omega

theorem aec (n:Int) (aAU:0≤n) (h₁:n<2 ^ 64):IntKind.u64.wrap n=n:=by rw [IntKind.wrap_u64];omega
theorem agB (b:UInt8):bits BinOp.and IntKind.u8 (b.toNat:Int) 127=((b.toNat % 128:Nat):Int):=by
 have h:=bits_mask .u8 8 (by decide) wraps_u8 7 (by decide) (b.toNat:Int) (Int.natCast_nonneg _) (by have:=b.toNat_lt;omega);simpa using h
theorem Si (l:List UInt8) (b:UInt8) (k:Nat) (av:k=l.length) (amV:k≤9):
  bits BinOp.or IntKind.u64 ((val l % 18446744073709551616:Nat):Int) (((b.toNat % 128:Nat):Int) * 2 ^ (7 * k) % 18446744073709551616)=((val (l++ [b]) % 18446744073709551616:Nat):Int):=by
 subst av;have hp:(128:Nat) ^ l.length=2 ^ (7 * l.length):=by rw [show (128:Nat)=2 ^ 7 from rfl,← Nat.pow_mul]
 have hv:=auL l;have hle:(128:Nat) ^ l.length≤128 ^ 9:=Nat.pow_le_pow_right (by decide) amV;have zh:val l<18446744073709551616:=Nat.lt_of_lt_of_le hv (Nat.le_trans hle (by decide));rw [auO,Nat.mod_eq_of_lt zh,hp];have Φ:b.toNat % 128<128:=Nat.mod_lt _ (by decide);generalize b.toNat % 128=d at *
 obtain ⟨r,hr⟩:∃ r,64=7 * l.length+r:=⟨64 - 7 * l.length,by omega⟩;have Oo:18446744073709551616=2 ^ (7 * l.length) * 2 ^ r:=by rw [← Nat.pow_add,← hr]
 have aU:((d:Int) * 2 ^ (7 * l.length) % 18446744073709551616)=((2 ^ (7 * l.length) * (d % 2 ^ r):Nat):Int):=by
  rw [← Nat.mul_mod_mul_left,← Oo,Int.natCast_emod,Int.natCast_mul,Int.natCast_pow,Int.mul_comm];rfl
 rw [hp] at hv;have aa:2 ^ (7 * l.length) * (d % 2 ^ r)<18446744073709551616:=by
  rw [Oo];exact Nat.mul_lt_mul_of_pos_left (Nat.mod_lt _ (Nat.two_pow_pos _)) (Nat.two_pow_pos _)
 have bc:(val l+2 ^ (7 * l.length) * d) % 18446744073709551616=2 ^ (7 * l.length) * (d % 2 ^ r)+val l:=by
  rw [Oo,Nat.mod_mul,Nat.add_mul_mod_self_left,Nat.mod_eq_of_lt hv,Nat.add_mul_div_left _ _ (Nat.two_pow_pos _),Nat.div_eq_of_lt hv,Nat.zero_add,Nat.add_comm]
 rw [aU,bc,(bits_nat .u64 64 (by decide) aec _ _ zh aa).2];rw [Nat.two_pow_add_eq_or_of_lt hv,Nat.or_comm]

theorem HM {a a':Int} {b kz:ByteArray} {c bW:Int} (γ:a=a') (aa:b=kz) (au:c=bW):Ending.returned (.tuple #[.int .u64 a, .string b, .int .i64 c])= .returned (.tuple #[.int .u64 a', .string kz, .int .i64 bW]):=by rw [γ,aa,au]
def afe (l:List UInt8) (w:World) (e:Ending) (w':World):Prop :=
 ∃ (n:Nat) (rest:List UInt8) (k:Int),Fc l n rest k∧e= .returned (.tuple #[.int .u64 (n:Int), .string (strOf rest), .int .i64 k])∧Below w.heap.size w w'

theorem X0 (s:ByteArray) (hs:s.size≤9223372036854775807) (w:World):Calls prog 119 #[.string s] w (afe s.data.toList w):=by
 go_enter func119,ntmps119;go_wp2_with fail
 go_loopw [5,6] (fun v i wr=>∃ k:Nat,k≤s.size∧k≤10∧i= .int .i64 k∧v= .int .u64 ((val (s.data.toList.take k) % 18446744073709551616:Nat):Int)∧Hid (∀ i (h:i<s.data.toList.length),i<k→128≤(s.data.toList[i]).toNat)∧Below w.heap.size w wr) (fun _ i _=>s.size - (intOf i).toNat)
 case atStart=>exact ⟨0,Nat.zero_le _,Nat.zero_le _,rfl,rfl,fun i h aa=>absurd aa (by omega),Below.refl _ _⟩
 case round =>
  obtain ⟨k,av,azW,rfl,rfl,kO,Φ⟩:=hrel;by_cases bl:k<s.size
  ·by_cases Kq:k<10
   ·have hE:k<s.data.toList.length:=by simpa using bl
    have Qv:s[k]=s.data.toList[k]:=rfl;have fM:=Si (s.data.toList.take k) s[k] k (by simp;omega) (by omega);rw [Qv,← List.take_succ_eq_append_getElem hE,← Qv] at fM;have Ul:bits BinOp.or IntKind.u64 ((val (s.data.toList.take k) % 18446744073709551616:Nat):Int) (IntKind.u64.wrap (IntKind.u64.wrap (bits BinOp.and IntKind.u8 (s[k].toNat:Int) 127) * 2 ^ (7 * k)))=((val (s.data.toList.take (k+1)) % 18446744073709551616:Nat):Int):=by
     rw [← fM,agB,IntKind.wrap_u64,IntKind.wrap_u64];congr 3;omega
    obtain ⟨M',CP⟩:∃ M',Hid (val (s.data.toList.take (k+1)) % 18446744073709551616=M'):=⟨_,Lib.hid rfl⟩;have Ge:M'<18446744073709551616:=by rw [← CP.out];exact Nat.mod_lt _ (by decide)
    rw [CP.out] at Ul;generalize val (s.data.toList.take k) % 18446744073709551616=M at Ul ⊢;have aV:=Lib.hid Ge;clear Qv fM Ge;by_cases Pk:128≤s[k].toNat
    ·go_wp2_with fail
     go_roundw
     case rel =>
      refine ⟨k+1,by omega,by omega,by go_num,by rw [CP.out], ?_,Φ⟩;intro i h ao;by_cases amG:i=k
      ·subst amG;exact Pk
      ·exact kO.out i h (by omega)
     case measure=>simp [intOf];omega
    ·have oq:k+1≤s.size:=bl;have gP:(0:Int)≤(k:Int)+1:=by omega
     have Qf:(k:Int)+1≤(s.size:Int):=by omega
     have amU:IntKind.i64.wrap ((k:Int)+1)=(k:Int)+1:=IntWalk.i64_in _ (by omega);have azX:((k:Int)+1).toNat=k+1:=by omega
     by_cases hp:dv M'=s.data.toList.take (k+1)
     ·have I:((strOf (dv M')).toList == (s.extract 0 (k+1)).toList)=true:=VN (N4 (by rw [uF,Lib.extract_data,List.drop_zero,hp];rfl));have wL:=Lib.hid hp;clear hp;go_wp2_with fail
      go_region_held3 (fun kq=>Below w.heap.size w kq) (first | exact Φ.drew | exact Φ.drew.trans (by assumption) | assumption) ((go_at_call 130;refine (LQ M' aV.out _ rfl _).mono ?_;rintro e w' ⟨rfl,bo⟩;have dj:=Φ.drew.trans (bo.mono Φ.size)))
      clear Φ bo I;go_wp2_with fail
      go_quiet (fail)
      go_wp2_with fail
      go_ret3
      refine ⟨M',s.data.toList.drop (k+1),0, .inl ⟨k,Kq,hE,kO.out,fun _=>by have:=Pk;show s[k].toNat<128;omega, .inl ⟨by rw [CP.out];exact wL.out,CP.out.symm,rfl,rfl⟩⟩,HM Z (N4 ?_) Z,below_drewN (by assumption) _⟩;rw [uF,Lib.extract_data,List.take_of_length_le (by simp)]
     ·have I:((strOf (dv M')).toList == (s.extract 0 (k+1)).toList)=false:=VM (fun h=>hp (by
       have aa:=congrArg (fun x:ByteArray=>x.data.toList) h;simp only [uF,Lib.extract_data,List.drop_zero] at aa;exact aa))
      have wL:=Lib.hid hp;clear hp;go_wp2_with fail
      go_region_held3 (fun kq=>Below w.heap.size w kq) (first | exact Φ.drew | exact Φ.drew.trans (by assumption) | assumption) ((go_at_call 130;refine (LQ M' aV.out _ rfl _).mono ?_;rintro e w' ⟨rfl,bo⟩;have dj:=Φ.drew.trans (bo.mono Φ.size)))
      clear Φ bo I;go_wp2_with fail
      go_ret3
      exact ⟨0, [],4, .inl ⟨k,Kq,hE,kO.out,fun _=>by have:=Pk;show s[k].toNat<128;omega, .inr ⟨by rw [CP.out];exact wL.out,rfl,rfl,rfl⟩⟩,HM Z Z Z,by assumption⟩
   ·have amT:k=10:=by omega
    subst amT;have hlen:¬ (s.size:Int)<10:=by omega
    go_wp2_with fail
    go_ret3
    exact ⟨0, [],4, .inr (.inr ⟨by simp;have e:s.data.size=s.size:=rfl;omega,fun i h ao=>kO.out i h ao,rfl,rfl,rfl⟩),HM Z Z Z,Φ⟩
  ·have KP:k=s.size:=by omega
   have di:∀ i (h:i<s.data.toList.length),i<k:=by
    intro i h;have e:s.data.toList.length=s.size:=by simp
    omega
   have e:s.data.toList.length=s.size:=by simp
   by_cases Kq:s.size<10
   ·have ia:=Lib.hid e;have hP:=Lib.hid di;have gA:=Lib.hid KP;clear e di KP;have hlen:(s.size:Int)<10:=by omega
    have sf:(s.size:Int)≤(k:Int):=by omega
    go_wp2_with fail
    go_ret3
    exact ⟨0, [],3, .inr (.inl ⟨by have:=ia.out;omega,fun i h=>kO.out i h (hP.out i h),rfl,rfl,rfl⟩),HM Z Z Z,Φ⟩
   ·have ia:=Lib.hid e;have hP:=Lib.hid di;have gA:=Lib.hid KP;clear e di KP;have hlen:¬ (s.size:Int)<10:=by omega
    have sf:(s.size:Int)≤(k:Int):=by omega
    go_wp2_with fail
    go_ret3
    exact ⟨0, [],4, .inr (.inr ⟨by have:=ia.out;omega,fun i h ao=>kO.out i h (hP.out i h),rfl,rfl,rfl⟩),HM Z Z Z,Φ⟩
end Go.Proofs.YtlikikpgmmkjbaaGreat.Pack
namespace Go.Proofs.YtlikikpgmmkjbaaGreat
open Tryz
section
open Go.RowKit
def rY (l:List Int):List Value:=l.map (Value.int .i64)
theorem V1 (l:List Int) (i:Nat) (h:i<l.length):(rY l)[i]? =some (.int .i64 l[i]):=by unfold rY;simp [h]
theorem ahw (l:List Int) (x:Int):rY (l++ [x])=rY l++ [.int .i64 x]:=by unfold rY;simp
def IV (_:Nat) (u:Value):Prop:=∃ n:Int,u= .int .i64 n
theorem aow:(prog.info? 3).map (fun i=>(i.zero,i.size,i.bytes))=some (some (.int .i64 0),1,8):=by kernel_rfl
def pU (l:List Int):Prop:=∀ x∈l, -9223372036854775808≤x∧x≤9223372036854775807
end
end Go.Proofs.YtlikikpgmmkjbaaGreat
