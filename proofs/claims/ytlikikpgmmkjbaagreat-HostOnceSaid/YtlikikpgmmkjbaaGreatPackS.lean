import Derived.Test.YtlikikpgmmkjbaaGreatShelf
set_option linter.unusedVariables false
set_option linter.unusedSimpArgs false
set_option maxRecDepth 100000
set_option maxHeartbeats 4000000
open Go.RowKit
namespace Go.Proofs.YtlikikpgmmkjbaaGreat
open Tryz
abbrev aRF:=@Go.Lib.hid
abbrev aSi:=@List.take_length
abbrev aSF:=@UInt8.toNat_ofNat'
abbrev aSI:=@congrArg
abbrev aSS:=@Go.IntKind.wrap_u64
abbrev aSZ:=@List.flatMap_append
abbrev aTd:=@List.foldl_append
abbrev aTp:=@List.drop_eq_getElem_cons
abbrev aTz:=@List.cons_append
abbrev aTP:=@Go.World.cell?_alloc_new
abbrev aT4:=@List.cons.injEq
abbrev aUa:=@Go.info_parts
abbrev aUc:=@List.drop_zero
abbrev aUF:=@Nat.pow_succ
abbrev aUH:=@List.getElem_cons_zero
abbrev aUI:=@List.getElem_cons_succ
abbrev aUK:=@Nat.two_pow_pos
abbrev aUN:=@Go.Lib.extract_data
abbrev aUO:=@Go.Lib.cell_of_heap
abbrev aVx:=@Nat.div_eq_of_lt
abbrev aVD:=@Go.bits_nat
abbrev aVS:=@Go.Oper.upon_value
abbrev aV2:=@Option.map_eq_some_iff
abbrev aV6:=@List.getElem_singleton
abbrev aV8:=@List.drop_eq_nil_of_le
abbrev aWa:=@List.singleton_append
abbrev aWl:=@Go.run_convert_bytes_back
abbrev aWz:=@BitVec.xor_allOnes
abbrev aWD:=@Nat.lt_trichotomy
end Go.Proofs.YtlikikpgmmkjbaaGreat
namespace Go.Proofs.YtlikikpgmmkjbaaGreat.Mark
open Tryz
open Go.Proofs.YtlikikpgmmkjbaaGreat.fc

abbrev cY:=BitVec 64
abbrev W:=BitVec 64
def xs (k:Nat) (x:cY):cY:=x ^^^ x >>> k
def c1:cY:=13787848793156543929#64
def c2:cY:=10723151780598845931#64
def VO:cY:=11400714819323198485#64
def mix (n:cY):cY:=xs 31 (xs 27 (xs 30 (n+VO) * c1) * c2)
def down (k:Nat) (x:cY):cY:=xs (2 * k) (xs k x)
def Iv (x y:cY):cY:=y * (2#64 - x * y)
def other (x:cY):cY:=Iv x (Iv x (Iv x (Iv x (Iv x (Iv x x)))))
def back (n:cY):cY:=down 30 (down 27 (down 31 n * other c2) * other c1) - VO
section
variable (f:cY→cY)
def R8 (m n:cY):cY:=m ^^^ f n
def yZ (l:List cY) (m:cY):cY:=l.foldl (R8 f) m
def FO (l:List cY):cY:=yZ f l 0#64
theorem aoY (l:List cY) (x:cY) (m:cY):yZ f (l++ [x]) m=R8 f (yZ f l m) x:=by unfold yZ;rw [aTd];rfl
end
end Go.Proofs.YtlikikpgmmkjbaaGreat.Mark
namespace Go.Proofs.YtlikikpgmmkjbaaGreat
open Tryz
end Go.Proofs.YtlikikpgmmkjbaaGreat
namespace Go.Proofs.YtlikikpgmmkjbaaGreat.Mark
open Tryz
open Go.RowKit Go.Proofs.YtlikikpgmmkjbaaGreat.fc

theorem MR {a b:Int} (h:a=b):Ending.returned (.int .u64 a)= .returned (.int .u64 b):=by rw [h]

theorem ZO (x:Int):IntKind.u64.wrap x=U (BitVec.ofInt 64 x):=by
 refine PT ?_ ?_ (aAH x)
 ·rw [aSS];omega
 ·rw [aSS];omega
theorem aoW (a:cY):IntKind.u64.wrap (U a+11400714819323198485)=U (a+VO):=by
 rw [ZO,aAz,wB];rfl
theorem az7 (a:cY):IntKind.u64.wrap (U a * 13787848793156543929)=U (a * c1):=by
 rw [ZO,ajD,wB];rfl
theorem az8 (a:cY):IntKind.u64.wrap (U a * 10723151780598845931)=U (a * c2):=by
 rw [ZO,ajD,wB];rfl
theorem ZR (k:Nat) (a:cY):bits BinOp.xor IntKind.u64 (U a) (U a / 2 ^ k)=U (xs k a):=by
 refine PT (Uh _ _ _) (Ug _ _ _) ?_;rw [Yr,ajF (n:=64) (U a) k (TZ a) (by have:=aoO a;omega),wB];rfl
theorem aFr (a:cY):bits BinOp.xor IntKind.u64 (U a) (U a / 1073741824)=U (xs 30 a):=ZR 30 a
theorem aFq (a:cY):bits BinOp.xor IntKind.u64 (U a) (U a / 134217728)=U (xs 27 a):=ZR 27 a
theorem aFs (a:cY):bits BinOp.xor IntKind.u64 (U a) (U a / 2147483648)=U (xs 31 a):=ZR 31 a
theorem Yg (x:Int) (n:cY) (hx:x=U n) (w:World):
  Calls prog 118 #[.int .u64 x] w fun e w'=>e= .returned (.int .u64 (U (mix n)))∧w=w':=by
 subst hx;go_enter func118,ntmps118;go_wp2
 go_ret;refine ⟨MR ?_,Z⟩;rw [aoW,aFr,az7,aFq,az8,aFs];rfl

end Go.Proofs.YtlikikpgmmkjbaaGreat.Mark
namespace Go.Proofs.YtlikikpgmmkjbaaGreat
open Tryz
end Go.Proofs.YtlikikpgmmkjbaaGreat
namespace Go.Proofs.YtlikikpgmmkjbaaGreat.Mark
open Tryz
open Go.RowKit Go.Proofs.YtlikikpgmmkjbaaGreat.fc


theorem M9 (x y:Int) (m n:cY) (hx:x=U m) (aL:y=U n) (w:World):
  Calls prog 133 #[.int .u64 x, .int .u64 y] w fun e w'=>e= .returned (.int .u64 (U (R8 mix m n)))∧w=w':=by
 subst hx aL;go_enter func133,ntmps133;go_wp2_with (go_at_call 118;refine (Yg _ n rfl _).mono ?_;rintro e w' ⟨rfl,rfl⟩)
 go_ret;exact ⟨MR (by refine PT (Uh _ _ _) (Ug _ _ _) ?_;rw [Yr,wB,wB];rfl),Z⟩
def Eu (w:World) (a:Option Addr) (n:Nat) (zs:List cY):Prop :=
 n=zs.length∧n≤9223372036854775807∧(zs= []∨∃ b off,a=some ⟨b,off,none⟩∧∀ i (h:i<zs.length),w.cell? ⟨b,off+i,none⟩=some (.int .u64 (U zs[i])))

def Ew (rr:List (List cY)) (m:cY):cY:=rr.foldl (fun m l=>yZ mix l m) m
theorem ao1 (rr:List (List cY)) (l:List cY) (m:cY):Ew (rr++ [l]) m=yZ mix l (Ew rr m):=by unfold Ew;rw [aTd];rfl
theorem ali {α:Type} (l:List α) (k:Nat) (h:k<l.length):l.take (k+1)=l.take k++ [l[k]]:=aR2 h

theorem aoZ (b c:Nat) (vs:List (Option Addr×Nat×Nat)) (rr:List (List cY)) (w:World) (hn:vs.length=rr.length) (hc:c≤100) (hcv:vs.length≤100)
  (jA:∀ i (h:i<vs.length),w.cell? ⟨b,i,none⟩=some (.slice vs[i].1 vs[i].2.1 vs[i].2.2)) (tj:∀ i (h:i<vs.length) (cI:i<rr.length),Eu w vs[i].1 vs[i].2.1 rr[i]):
  Calls prog 93 #[.slice (some ⟨b,0,none⟩) vs.length c] w fun e w'=>e= .returned (.int .u64 (U (Ew rr 0#64)))∧w=w':=by
 obtain ⟨N,fe⟩:∃ N,Hid (N=vs.length):=⟨_,aRF rfl⟩;have Ai:=aRF jA;have fp:=aRF tj;have qD:=aRF hn;rw [← fe.out] at hcv ⊢;clear jA tj hn;go_enter func93,ntmps93;go_wp2
 go_loop [3,10] (fun v i=>∃ k:Nat,k≤N∧i= .int .i64 k∧v= .int .u64 (U (Ew (rr.take k) 0#64))) (fun _ i=>N - (intOf i).toNat)
 case atStart=>exact ⟨0,aSo _,rfl,rfl⟩
 case round =>
  obtain ⟨k,ar,rfl,rfl⟩:=hrel;by_cases bw:k<N
  ·have agj:k<vs.length:=by have:=fe.out;omega
   have agk:k<rr.length:=by have:=qD.out;omega
   have τ:=Ai.out k agj;have aa:=fp.out k agj agk;obtain ⟨l,aa9⟩:∃ l,Hid (rr[k]=l):=⟨_,aRF rfl⟩;rw [aa9.out] at aa;generalize vs[k].1=a at τ aa;generalize vs[k].2.1=n at τ aa;generalize vs[k].2.2=b4 at τ aa;obtain ⟨aw,a1,bK⟩:=aa;have jm:=aRF aw;clear aw;generalize pS:Ew (rr.take k) 0#64=M;have KY:Ew (rr.take (k+1)) 0#64=yZ mix l M:=by rw [ali _ _ agk,ao1,pS,aa9.out]
   have k4:=aRF KY;clear pS KY;rcases bK with mP | ⟨rH,off,rfl,rZ⟩
   ·have agz:n=0:=by rw [jm.out,mP];rfl
    have anR:=aRF mP;subst agz;clear mP;go_wp2_with fail
    refine wp_loop_rounds 1 ?_;rw [rounds_succ];go_wp2_with fail
    go_round
    case rel=>exact ⟨k+1,by omega,by go_num,by rw [k4.out,anR.out];rfl⟩
    case measure=>simp [intOf];omega
   ·have anK:=aRF rZ;clear rZ;go_wp2_with fail
    go_loop [3,16] (fun v i=>∃ q:Nat,q≤n∧i= .int .i64 q∧v= .int .u64 (U (yZ mix (l.take q) M))) (fun _ i=>n - (intOf i).toNat)
    case atStart=>exact ⟨0,aSo _,rfl,rfl⟩
    case round =>
     obtain ⟨q,I,rfl,rfl⟩:=hrel;by_cases aK0:q<n
     ·have W':q<l.length:=by have:=jm.out;omega
      have avV:=anK.out q W';generalize s9:l[q]=z at avV;generalize afq:yZ mix (l.take q) M=M2;have GK:=aRF (show yZ mix (l.take (q+1)) M=R8 mix M2 z by rw [ali _ _ W',aoY,afq,s9]);clear s9 afq τ;go_wp2_with (go_at_call 133;(with_reducible refine (M9 _ _ M2 z rfl rfl _).mono ?_);rintro e w' ⟨rfl,rfl⟩)
      go_round
      case rel=>exact ⟨q+1,by omega,by go_num,by rw [GK.out]⟩
      case measure=>simp [intOf];omega
     ·have axj:n=q:=by omega
      subst axj;have az:l.take n=l:=aR1 (by have:=jm.out;omega);rw [az,← k4.out];clear az τ;go_wp2_with fail
      go_round
      case rel=>exact ⟨k+1,by omega,by go_num,rfl⟩
      case measure=>simp [intOf];omega
  ·have WY:N=k:=by omega
   subst WY;have e:rr.take N=rr:=aR1 (by have:=qD.out;have:=fe.out;omega);rw [e];clear e;go_wp2_with fail
   go_ret;exact ⟨Z,Z⟩

theorem Eu.later {w w':World} {a:Option Addr} {n:Nat} {zs:List cY} (h:Eu w a n zs) (Φ:Below w.heap.size w w'):Eu w' a n zs:=by
 obtain ⟨τ,aa,aw⟩:=h;refine ⟨τ,aa, ?_⟩;rcases aw with aw | ⟨b,off,ha,hc⟩
 ·exact .inl aw
 ·refine .inr ⟨b,off,ha,fun i aq=> ?_⟩;rw [Φ.cell (aTC w _ (hc i aq))];exact hc i aq

theorem ao0 (b n c:Nat) (a:Option Addr) (l:List cY) (w:World) (h:w.cell? ⟨b,0,none⟩=some (.slice a n c)) (hs:Eu w a n l):
  Calls prog 93 #[.slice (some ⟨b,0,none⟩) 1 1] w fun e w'=>e= .returned (.int .u64 (U (FO mix l)))∧w=w':=by
 refine (aoZ b 1 [(a,n,c)] [l] w Z (by decide) (by simp) ?_ ?_).mono fun e w' h=>h
 ·intro i aq
  match i,aq with
  | 0,_=>exact h
 ·intro i aq _
  match i,aq with
  | 0,_=>exact hs
theorem Yo (a:Option Addr) (n c:Nat) (l:List cY) (w:World) (hs:Eu w a n l):
  Calls prog 58 #[.slice a n c] w fun e w'=>e= .returned (.int .u64 (U (FO mix l)))∧Below w.heap.size w w':=by
 have Φ:=(aR8 w.heap.size w).alloc (aRN _) (.cells #[.slice a n c] 38);have gC:=hs.later Φ;go_enter func58,ntmps58;go_wp2_with fail
 refine (ao0 _ n c a l _ (by simp [aTP]) gC).mono ?_;rintro e w' ⟨rfl,rfl⟩;go_wp2_with fail
 go_ret;exact ⟨Z,Φ⟩

end Go.Proofs.YtlikikpgmmkjbaaGreat.Mark
namespace Go.Proofs.YtlikikpgmmkjbaaGreat
open Tryz
end Go.Proofs.YtlikikpgmmkjbaaGreat
namespace Go.Proofs.YtlikikpgmmkjbaaGreat.Tree
open Tryz
open Go.Proofs.YtlikikpgmmkjbaaGreat.fc Go.Proofs.YtlikikpgmmkjbaaGreat.Mark

def Db (s:List UInt8):cY:=s.foldl (fun m b=>mix (m ^^^ BitVec.ofNat 64 b.toNat)) (mix (BitVec.ofNat 64 s.length))
def aCv (b:cY):cY:=b <<<32 ||| b >>> 32
def IE (a b:cY):cY:=mix (mix (a ^^^ aCv b ^^^ 1#64) ^^^ b)
def l5 (n:Nat):Nat:=2 ^ Nat.log2 (n - 1)
def YU:Nat→List (List UInt8)→cY
 | 0,_=>0#64
 | f+1,l=>match l with
  | []=>0#64
  | [s]=>Db s
  | a::b::r=>IE (YU f ((a::b::r).take (l5 (r.length+2)))) (YU f ((a::b::r).drop (l5 (r.length+2))))
def RO (l:List (List UInt8)):cY:=YU l.length l
end Go.Proofs.YtlikikpgmmkjbaaGreat.Tree
namespace Go.Proofs.YtlikikpgmmkjbaaGreat
open Tryz
end Go.Proofs.YtlikikpgmmkjbaaGreat
namespace Go.Proofs.YtlikikpgmmkjbaaGreat.Tree
open Tryz
open Go.RowKit Go.Proofs.YtlikikpgmmkjbaaGreat Go.Proofs.YtlikikpgmmkjbaaGreat.fc Go.Proofs.YtlikikpgmmkjbaaGreat.Mark

theorem aFn (a b:cY):bits .xor .u64 (U a) (U b)=U (a ^^^ b):=by
 refine PT (Uh _ _ _) (Ug _ _ _) ?_;rw [Yr,wB,wB]
theorem ay4 (l:List UInt8) (n:Nat) (b:UInt8) (m:cY):(l++ [b]).foldl (fun m b=>mix (m ^^^ BitVec.ofNat 64 b.toNat)) m=mix (l.foldl (fun m b=>mix (m ^^^ BitVec.ofNat 64 b.toNat)) m ^^^ BitVec.ofNat 64 b.toNat):=by rw [aTd];rfl
def upto (s:ByteArray) (k:Nat):cY:=(s.data.toList.take k).foldl (fun m b=>mix (m ^^^ BitVec.ofNat 64 b.toNat)) (mix (BitVec.ofNat 64 s.size))
theorem aEl (s:ByteArray) (k:Nat) (h:k<s.size):upto s (k+1)=mix (upto s k ^^^ BitVec.ofNat 64 s[k].toNat):=by
 unfold upto;have ar:k<s.data.toList.length:=by simpa using h
 rw [aR2 ar,ay4 _ k];rfl
theorem aEk (s:ByteArray):upto s s.size=Db s.data.toList:=by
 unfold upto Db;rw [aR1 (by simp)];rfl
theorem ab1 (n:Nat) (h:n<18446744073709551616):((n:Nat):Int)=U (BitVec.ofNat 64 n):=by
 unfold U;rw [aTl,aSW h]
theorem Ia (s:ByteArray) (hs:s.size≤9223372036854775807) (w:World):Calls prog 83 #[.string s] w fun e w'=>e= .returned (.int .u64 (U (Db s.data.toList)))∧∃ q,w'=w.drewN q:=by
 have aH:upto s 0=mix (BitVec.ofNat 64 s.size):=rfl;have Qf:=ab1 s.size (by omega);have hm:=Yg _ (BitVec.ofNat 64 s.size) Qf;have de:=aRF (aEk s);rw [← aH] at hm;have w2:=aRF aH;have hw:IntKind.u64.wrap (s.size:Int)=(s.size:Int):=by rw [aSS];omega
 clear Qf aH;go_enter func83,ntmps83;go_wp2_with fail
 refine (hm _).mono ?_;rintro e w' ⟨rfl,rfl⟩;clear hw;go_wp2_with fail
 go_loop [3,11] (fun m i=>∃ k:Nat,k≤s.size∧i= .int .i64 (k:Int)∧m= .int .u64 (U (upto s k))) (fun _ i=>s.size - (intOf i).toNat)
 case atStart=>exact ⟨0,aSo _,rfl,rfl⟩
 case round =>
  obtain ⟨k,ar,rfl,rfl⟩:=hrel;by_cases bw:k<s.size
  ·have Xl:=aEl s k bw;have hx:=aFn (upto s k) (BitVec.ofNat 64 s[k].toNat);rw [← ab1 s[k].toNat (by have:=s[k].toNat_lt;omega)] at hx;have hm:=Yg _ (upto s k ^^^ BitVec.ofNat 64 s[k].toNat) rfl;rw [← Xl] at hm;have fp:=aRF Xl;clear Xl;have aLb:IntKind.u64.wrap (s[k].toNat:Int)=(s[k].toNat:Int):=by have:=s[k].toNat_lt;rw [aSS];omega
   obtain ⟨m2,GK⟩:∃ m2,Hid (upto s (k+1)=m2):=⟨_,aRF rfl⟩;rw [GK.out] at hm;clear fp;generalize upto s k ^^^ BitVec.ofNat 64 s[k].toNat=x at *
   generalize upto s k=m1 at *
   go_wp2_with fail
   refine (hm _).mono ?_;rintro e w' ⟨rfl,rfl⟩;go_wp2_with fail
   go_round
   case rel=>exact ⟨k+1,by omega,by go_num,by rw [GK.out]⟩
   case measure=>simp [intOf];omega
  ·obtain rfl:k=s.size:=by omega
   rw [de.out];go_wp2_with fail
   go_ret;exact ⟨Z,0,Z⟩
def aqk (l:List ByteArray):List Value:=l.map Value.string
def lists (l:List ByteArray):List (List UInt8):=l.map fun s=>s.data.toList
def aHI (l:List ByteArray):Prop:=∀ s∈l,s.size≤9223372036854775807
end Go.Proofs.YtlikikpgmmkjbaaGreat.Tree
namespace Go.Proofs.YtlikikpgmmkjbaaGreat
open Tryz
end Go.Proofs.YtlikikpgmmkjbaaGreat
namespace Go.Proofs.YtlikikpgmmkjbaaGreat.Pack
open Tryz
open Go.Proofs.YtlikikpgmmkjbaaGreat.fc
def ka:Nat→Nat→List UInt8
  | 0,n=> [UInt8.ofNat n]
  | k+1,n=>if n<128 then [UInt8.ofNat n] else UInt8.ofNat (n % 128+128)::ka k (n / 128)
def d_ (n:Nat):List UInt8:=ka 9 n
def val:List UInt8→Nat
  | []=>0
  | b::l=>b.toNat % 128+128 * val l

theorem BA {k n:Nat} (h:n<128):ka k n= [UInt8.ofNat n]:=by
  cases k with
  | zero=>rfl
  | succ k=>unfold ka;rw [aRP h]
theorem Bz {k n:Nat} (h:¬ n<128):ka (k+1) n=UInt8.ofNat (n % 128+128)::ka k (n / 128):=by
  rw [ka];rw [aRL h]
theorem YD (k n:Nat):(ka k n).length≤k+1∧1≤(ka k n).length:=by
  induction k generalizing n with
  | zero=>simp [ka]
  | succ k bD =>
    by_cases h:n<128
    · rw [BA h];simp
    · rw [Bz h];have:=bD (n / 128);simp;omega
theorem BB (n:Nat):(d_ n).length≤10∧1≤(d_ n).length:=YD 9 n

theorem IG {n k:Nat} (h:n<128 ^ (k+2)):n / 128<128 ^ (k+1):=by
  rw [aUF] at h;exact Nat.div_lt_of_lt_mul (by rw [aSM];exact h)
theorem aEq (k n:Nat) (h:n<128 ^ (k+1)):val (ka k n)=n:=by
  induction k generalizing n with
  | zero =>
    have τ:n<128:=by simpa using h
    simp only [ka,val,aSF];omega
  | succ k bD =>
    by_cases τ:n<128
    · rw [BA τ]
      simp only [val,aSF];omega
    · rw [Bz τ]
      simp only [val,aSF];rw [bD (n / 128) (IG h)];omega
theorem Fx {n:Nat} (h:n<18446744073709551616):n<128 ^ (9+1):=aTk h (by decide)
theorem aEr (n:Nat) (h:n<18446744073709551616):val (d_ n)=n:=aEq 9 n (Fx h)
theorem aBK (k n i:Nat) (hn:n<128 ^ (k+1)) (h:i+1<(ka k n).length) (aq:i<(ka k n).length):128≤((ka k n)[i]).toNat:=by
  induction k generalizing n i with
  | zero=>simp [ka] at h
  | succ k bD =>
    by_cases τ:n<128
    · simp [BA τ] at h
    · simp only [Bz τ] at h aq ⊢
      cases i with
      | zero=>simp only [aUH,aSF];omega
      | succ i =>
        simp only [aUI];exact bD (n / 128) i (IG hn) (by simpa using h) (by simpa using aq)
theorem aka (k n:Nat) (hn:n<128 ^ (k+1)) (i:Nat) (aq:i<(ka k n).length) (az:i+1=(ka k n).length):((ka k n)[i]).toNat<128:=by
  induction k generalizing n i with
  | zero =>
    have τ:n<128:=by simpa using hn
    simp only [ka,aV6,aSF];omega
  | succ k bD =>
    by_cases τ:n<128
    · simp only [BA τ,aV6,aSF]
      omega
    · simp only [Bz τ] at az aq ⊢
      cases i with
      | zero =>
        have aa:=(YD k (n / 128)).2;rw [aRG] at az;omega
      | succ i =>
        simp only [aUI];exact bD (n / 128) (IG hn) i (by simpa using aq) (by simpa using az)
theorem aEs (l:List UInt8) (b:UInt8):val (l++ [b])=val l+128 ^ l.length * (b.toNat % 128):=by
  induction l with
  | nil=>simp [val]
  | cons x l bD =>
    simp only [aTz,val,bD,aRG,aUF];rw [Nat.mul_add,← Nat.mul_assoc,aSM 128 (128 ^ l.length)];omega
theorem aEp (l:List UInt8):val l<128 ^ l.length:=by
  induction l with
  | nil=>simp [val]
  | cons x l bD =>
    simp only [val,aRG,aUF];omega
def JJ (l:List UInt8) (n:Nat) (rest:List UInt8) (e:Int):Prop :=
  (∃ k,k<10∧k<l.length∧(∀ i (h:i<l.length),i<k→128≤l[i].toNat)∧(∀ h:k<l.length,l[k].toNat<128)∧
    ((d_ (val (l.take (k+1)) % 18446744073709551616)=l.take (k+1)∧n=val (l.take (k+1)) % 18446744073709551616∧rest=l.drop (k+1)∧e=0)∨
     (d_ (val (l.take (k+1)) % 18446744073709551616)≠l.take (k+1)∧n=0∧rest= []∧e=4)))∨
  (l.length<10∧(∀ i (h:i<l.length),128≤l[i].toNat)∧n=0∧rest= []∧e=3)∨
  (10≤l.length∧(∀ i (h:i<l.length),i<10→128≤l[i].toNat)∧n=0∧rest= []∧e=4)
def oV (x:Int):Nat:=if 0≤x then (2 * x).toNat else (-2 * x - 1).toNat
end Go.Proofs.YtlikikpgmmkjbaaGreat.Pack
namespace Go.Proofs.YtlikikpgmmkjbaaGreat
open Tryz
end Go.Proofs.YtlikikpgmmkjbaaGreat
namespace Go.Proofs.YtlikikpgmmkjbaaGreat.Pack
open Tryz
open Go.RowKit Go.Proofs.YtlikikpgmmkjbaaGreat.fc

theorem ayh:(prog.info? 5).map (fun i=>(i.zero,i.size,i.bytes))=some (some (.int .u8 0),1,1):=by kernel_rfl
def cells (l:List UInt8):List Value:=l.map fun b=>Value.int .u8 (b.toNat:Int)
theorem acO (l:List UInt8) (b:UInt8):cells (l++ [b])=cells l++ [Value.int .u8 (b.toNat:Int)]:=by unfold cells;simp
theorem aqm (l:List UInt8) (i:Nat) (h:i<l.length):(cells l)[i]? =some (.int .u8 (l[i].toNat:Int)):=by unfold cells;simp [h]
def strOf (l:List UInt8):ByteArray:=⟨l.toArray⟩
theorem IU (l:List UInt8):(strOf l).size=l.length:=by
 show l.toArray.size=_;simp
theorem yf (l:List UInt8):(strOf l).data.toList=l:=rfl

theorem aAN (n:Nat):bits BinOp.or IntKind.u8 ((n:Int) % 256) 128=(((UInt8.ofNat (n % 128+128)).toNat:Nat):Int):=by
 have e:((n:Int) % 256)=((n % 256:Nat):Int):=by omega
 have τ:n % 256<256:=aTD _ (by decide);have key:∀ x:Fin 256,(x.val ||| 128)=x.val % 128+128:=by decide +kernel
 have aa:=key ⟨n % 256,τ⟩;simp only at aa;rw [e,show (128:Int)=((128:Nat):Int) from rfl,(aVD .u8 8 (by decide) wraps_u8 _ _ (by omega) (by decide)).2,aa];simp only [aSF];omega

theorem aqI (w:World) (base g n cap:Nat) (l:List UInt8) (hn:n=l.length) (h:w.ownsRow base 5 1 (.slice (some ⟨g,0,none⟩) n cap) n (cells l)):
  (convert 76 9 (.slice (some ⟨g,0,none⟩) n cap)).run prog w= .ok (.string (strOf l)) w:=by
 subst hn;refine aWl (P:=prog) w 76 9 5 ⟨g,0,none⟩ cap l underlying76 underlying5 underlying9 ?_;intro j ay;rw [ab2,h.cellAt j (by omega),aqm l j ay]

theorem RG (n:Nat) (hn:n<18446744073709551616) (x:Int) (hx:x=n) (w:World):
  Calls prog 130 #[.int .u64 x] w fun e w'=>e= .returned (.string (strOf (d_ n)))∧Below w.heap.size w w':=by
 subst hx;obtain ⟨i0,aq,o2,nC,qX⟩:=aUa ayh;have fe:=aRF (Fx hn);clear hn;go_enter func130,ntmps130;go_wp2_with fail
 go_loopw [0,3] (fun x v wr=>∃ (k m:Nat) (acc:List UInt8),k≤9∧x= .int .u64 (m:Int)∧Hid (m<128 ^ (k+1))∧Hid (acc++ka k m=d_ n)∧wr.ownsRow w.heap.size 5 1 v acc.length (cells acc)∧Below w.heap.size w wr) (fun x _ _=>(intOf x).toNat)
 case atStart=>exact ⟨9,n, [],aRN _,rfl,fe,rfl,World.ownsRow_nil _ _ _ _,aR8 _ _⟩
 case round =>
  obtain ⟨k,m,acc,ar,rfl,k4,jl,fi,Φ⟩:=hrel;by_cases bw:128≤m
  ·obtain ⟨k',rfl⟩:∃ k',k=k'+1:=by
    cases k with
    | zero=>have:=k4.out;simp at this;omega
    | succ k'=>exact ⟨k',rfl⟩
   obtain ⟨b,aN⟩:∃ b,Hid (b=UInt8.ofNat (m % 128+128)):=⟨_,aRF rfl⟩;have QM:=aAN m;rw [← aN.out] at QM;have w4:Hid ((acc++ [b])++ka k' (m / 128)=d_ n):=by
    show _=_;rw [← jl.out,Bz (by omega),← aN.out,aR9];rfl
   have GK:Hid (m / 128<128 ^ (k'+1)):=IG k4.out;have avx:acc.length≤9:=by
    have τ:=(BB n).1;have aa:=aSI List.length w4.out;have aw:=(YD k' (m / 128)).2;simp at aa;omega
   have Le:=Φ.alloc Φ.size (.cells #[.int .u8 (b.toNat:Int)] 5);go_wp2_with (at_builtin;refine wpList_append_own _ rfl _ _ 76 rfl w.heap.size 5 i0 (.int .u8 0) 1 1 underlying76 aq o2 nC qX rfl (by decide) _ acc.length (cells acc) rfl (fi.alloc _) ⟨wr.heap.size,0,none⟩ 1 1 [.int .u8 (b.toNat:Int)] rfl rfl ?d1 ?d2 ?d3 ?d4 ?d5 ?_)
   case d1 =>
    intro j u ay
    match j,ay with
    | 0,ay=>simp at ay;subst ay;simp [Addr.add]
   case d2=>intro u hu;simp at hu;subst hu;rfl
   case d3=>unfold maxLen;omega
   case d4=>omega
   case d5=>have:=Φ.size;simp;omega
   intro v' aP xO jB _;have cT:=Le.grown jB (by have:=Φ.size;simp;omega) (fun q I=>(fi.lt q I).1);rw [← acO,show acc.length+1=(acc++ [b]).length by simp] at xO;clear jB fi Le Φ;go_wp2_with fail
   go_roundw
   case rel=>exact ⟨k',m / 128,acc++ [b],by omega,by go_num,GK,w4,xO,cT⟩
   case measure=>simp [intOf];omega
  ·have ha:acc++ [UInt8.ofNat m]=d_ n:=by rw [← jl.out,BA (by omega)]
   have agt:(UInt8.ofNat m).toNat=m:=by rw [aSF];omega
   have avx:acc.length≤9:=by
    have τ:=(BB n).1;have aa:=aSI List.length ha;simp at aa;omega
   have anC:=aRF agt;have w4:=aRF ha;have Le:=Φ.alloc Φ.size (.cells #[.int .u8 (m:Int)] 5);clear ha agt;go_wp2_with (at_builtin;refine wpList_append_own _ rfl _ _ 76 rfl w.heap.size 5 i0 (.int .u8 0) 1 1 underlying76 aq o2 nC qX rfl (by decide) _ acc.length (cells acc) rfl (fi.alloc _) ⟨wr.heap.size,0,none⟩ 1 1 [.int .u8 (m:Int)] rfl rfl ?c1 ?c2 ?c3 ?c4 ?c5 ?_)
   case c1 =>
    intro j u ay
    match j,ay with
    | 0,ay=>simp at ay;subst ay;simp [Addr.add]
   case c2=>intro u hu;simp at hu;subst hu;rfl
   case c3=>unfold maxLen;omega
   case c4=>omega
   case c5=>have:=Φ.size;simp;omega
   intro v' aP xO jB _;have cT:=Le.grown jB (by have:=Φ.size;simp;omega) (fun q I=>(fi.lt q I).1);have afT:cells acc++ [Value.int .u8 (m:Int)]=cells (d_ n):=by rw [← w4.out,acO,anC.out]
   have hlen:acc.length+1=(d_ n).length:=by rw [← w4.out];simp
   rw [afT,hlen] at xO;have hex:∃ g cap,v'= .slice (some ⟨g,0,none⟩) (d_ n).length cap:=by
    rcases xO.2 with ⟨_,h⟩ | ⟨g,cap,cur,h,_⟩
    ·omega
    ·exact ⟨g,cap,h⟩
   obtain ⟨g,cap,hv⟩:=hex;rw [hv] at xO ⊢;have hcv:=aqI aP _ g _ cap (d_ n) rfl xO;clear hv jB fi Le Φ afT hlen xO;go_wp2_with fail
   go_ret;exact ⟨Z,cT⟩

theorem MR {a b:Int} (h:a=b):Ending.returned (.int .u64 a)= .returned (.int .u64 b):=by rw [h]
theorem aFo (n:Nat) (h:n<18446744073709551616):n ^^^ 18446744073709551615=18446744073709551615 - n:=by
 have e:(BitVec.ofNat 64 n ^^^ BitVec.allOnes 64).toNat=(~~~(BitVec.ofNat 64 n)).toNat:=by rw [aWz]
 rw [BitVec.toNat_xor,BitVec.toNat_not,aTl,BitVec.toNat_allOnes,aSW h] at e;exact e
theorem at6 (x:Int) (aH: -9223372036854775808≤x) (τ:x≤9223372036854775807) (w:World):
  Calls prog 131 #[.int .i64 x] w fun e w'=>e= .returned (.int .u64 (oV x))∧w=w':=by
 by_cases hx:0≤x
 ·go_enter func131,ntmps131;go_wp2
  go_ret;refine ⟨MR ?_,Z⟩;have e:x / 9223372036854775808=((0:Nat):Int):=by omega
  obtain ⟨m,rfl⟩:=aTA hx;rw [e,show ((m:Int) * 2)=((m * 2:Nat):Int) by omega,u64_xor_nat _ _ (by omega) (by omega),Nat.xor_zero];unfold oV;rw [aRP hx];omega
 ·go_enter func131,ntmps131;go_wp2
  go_ret;refine ⟨MR ?_,Z⟩;have axQ:¬ 0≤x:=by omega
  have e:IntKind.u64.wrap (x / 9223372036854775808)=((18446744073709551615:Nat):Int):=by rw [aSS];omega
  have bj:IntKind.u64.wrap (IntKind.u64.wrap x * 2)=(((2 * x+18446744073709551616).toNat:Nat):Int):=by rw [aSS,aSS];omega
  rw [e,bj,u64_xor_nat _ _ (by omega) (by omega)];unfold oV;rw [aRL axQ];have cV:(2 * x+18446744073709551616).toNat ^^^ 18446744073709551615=18446744073709551615 - (2 * x+18446744073709551616).toNat:=by
   exact aFo _ (by omega)
  rw [cV];omega

theorem amr (n:Int) (axX:0≤n) (h₁:n<2 ^ 64):IntKind.u64.wrap n=n:=by rw [aSS];omega
theorem ao2 (b:UInt8):bits BinOp.and IntKind.u8 (b.toNat:Int) 127=((b.toNat % 128:Nat):Int):=by
 have h:=bits_mask .u8 8 (by decide) wraps_u8 7 (by decide) (b.toNat:Int) (aTH _) (by have:=b.toNat_lt;omega);simpa using h
theorem Zd (l:List UInt8) (b:UInt8) (k:Nat) (ar:k=l.length) (aws:k≤9):
  bits BinOp.or IntKind.u64 ((val l % 18446744073709551616:Nat):Int) (((b.toNat % 128:Nat):Int) * 2 ^ (7 * k) % 18446744073709551616)=((val (l++ [b]) % 18446744073709551616:Nat):Int):=by
 subst ar;have hp:(128:Nat) ^ l.length=2 ^ (7 * l.length):=by rw [show (128:Nat)=2 ^ 7 from rfl,← Nat.pow_mul]
 have hv:=aEp l;have hle:(128:Nat) ^ l.length≤128 ^ 9:=Nat.pow_le_pow_right (by decide) aws;have C7:val l<18446744073709551616:=aTk hv (aR5 hle (by decide));rw [aEs,aSW C7,hp];have Φ:b.toNat % 128<128:=aTD _ (by decide);generalize b.toNat % 128=d at *
 obtain ⟨r,hr⟩:∃ r,64=7 * l.length+r:=⟨64 - 7 * l.length,by omega⟩;have UR:18446744073709551616=2 ^ (7 * l.length) * 2 ^ r:=by rw [← Nat.pow_add,← hr]
 have a_:((d:Int) * 2 ^ (7 * l.length) % 18446744073709551616)=((2 ^ (7 * l.length) * (d % 2 ^ r):Nat):Int):=by
  rw [← Nat.mul_mod_mul_left,← UR,Int.natCast_emod,Int.natCast_mul,Int.natCast_pow,Int.mul_comm];rfl
 rw [hp] at hv;have aa:2 ^ (7 * l.length) * (d % 2 ^ r)<18446744073709551616:=by
  rw [UR];exact Nat.mul_lt_mul_of_pos_left (aTD _ (aUK _)) (aUK _)
 have bj:(val l+2 ^ (7 * l.length) * d) % 18446744073709551616=2 ^ (7 * l.length) * (d % 2 ^ r)+val l:=by
  rw [UR,Nat.mod_mul,Nat.add_mul_mod_self_left,aSW hv,Nat.add_mul_div_left _ _ (aUK _),aVx hv,aSU,aVn]
 rw [a_,bj,(aVD .u64 64 (by decide) amr _ _ C7 aa).2];rw [Nat.two_pow_add_eq_or_of_lt hv,Nat.or_comm]

theorem MQ {a a':Int} {b rH:ByteArray} {c b4:Int} (τ:a=a') (aa:b=rH) (aw:c=b4):Ending.returned (.tuple #[.int .u64 a, .string b, .int .i64 c])= .returned (.tuple #[.int .u64 a', .string rH, .int .i64 b4]):=by rw [τ,aa,aw]
def anx (l:List UInt8) (w:World) (e:Ending) (w':World):Prop :=
 ∃ (n:Nat) (rest:List UInt8) (k:Int),JJ l n rest k∧e= .returned (.tuple #[.int .u64 (n:Int), .string (strOf rest), .int .i64 k])∧Below w.heap.size w w'

theorem ae7 (s:ByteArray) (hs:s.size≤9223372036854775807) (w:World):Calls prog 119 #[.string s] w (anx s.data.toList w):=by
 go_enter func119,ntmps119;go_wp2_with fail
 go_loopw [5,6] (fun v i wr=>∃ k:Nat,k≤s.size∧k≤10∧i= .int .i64 k∧v= .int .u64 ((val (s.data.toList.take k) % 18446744073709551616:Nat):Int)∧Hid (∀ i (h:i<s.data.toList.length),i<k→128≤(s.data.toList[i]).toNat)∧Below w.heap.size w wr) (fun _ i _=>s.size - (intOf i).toNat)
 case atStart=>exact ⟨0,aSo _,aSo _,rfl,rfl,fun i h aa=>absurd aa (by omega),aR8 _ _⟩
 case round =>
  obtain ⟨k,ar,aKf,rfl,rfl,mE,Φ⟩:=hrel;by_cases bw:k<s.size
  ·by_cases P8:k<10
   ·have ja:k<s.data.toList.length:=by simpa using bw
    have Xj:s[k]=s.data.toList[k]:=rfl;have hP:=Zd (s.data.toList.take k) s[k] k (by simp;omega) (by omega);rw [Xj,← aR2 ja,← Xj] at hP;have aaU:bits BinOp.or IntKind.u64 ((val (s.data.toList.take k) % 18446744073709551616:Nat):Int) (IntKind.u64.wrap (IntKind.u64.wrap (bits BinOp.and IntKind.u8 (s[k].toNat:Int) 127) * 2 ^ (7 * k)))=((val (s.data.toList.take (k+1)) % 18446744073709551616:Nat):Int):=by
     rw [← hP,ao2,aSS,aSS];congr 3;omega
    obtain ⟨M',GJ⟩:∃ M',Hid (val (s.data.toList.take (k+1)) % 18446744073709551616=M'):=⟨_,aRF rfl⟩;have KY:M'<18446744073709551616:=by rw [← GJ.out];exact aTD _ (by decide)
    rw [GJ.out] at aaU;generalize val (s.data.toList.take k) % 18446744073709551616=M at aaU ⊢;have aN:=aRF KY;clear Xj hP KY;by_cases VQ:128≤s[k].toNat
    ·go_wp2_with fail
     go_roundw
     case rel =>
      refine ⟨k+1,by omega,by omega,by go_num,by rw [GJ.out], ?_,Φ⟩;intro i h aq;by_cases lZ:i=k
      ·subst lZ;exact VQ
      ·exact mE.out i h (by omega)
     case measure=>simp [intOf];omega
    ·have p1:k+1≤s.size:=bw;have gS:(0:Int)≤(k:Int)+1:=by omega
     have WT:(k:Int)+1≤(s.size:Int):=by omega
     have awr:IntKind.i64.wrap ((k:Int)+1)=(k:Int)+1:=IntWalk.i64_in _ (by omega);have aKg:((k:Int)+1).toNat=k+1:=by omega
     by_cases hp:d_ M'=s.data.toList.take (k+1)
     ·have I:((strOf (d_ M')).toList == (s.extract 0 (k+1)).toList)=true:=acx (Um (by rw [yf,aUN,aUc,hp];rfl));have Ao:=aRF hp;clear hp;go_wp2_with fail
      go_region_held3 (fun l7=>Below w.heap.size w l7) (first | exact Φ.drew | exact Φ.drew.trans (by assumption) | assumption) ((go_at_call 130;refine (RG M' aN.out _ rfl _).mono ?_;rintro e w' ⟨rfl,bx⟩;have dL:=Φ.drew.trans (bx.mono Φ.size)))
      clear Φ bx I;go_wp2_with fail
      go_quiet (fail)
      go_wp2_with fail
      go_ret3
      refine ⟨M',s.data.toList.drop (k+1),0, .inl ⟨k,P8,ja,mE.out,fun _=>by have:=VQ;show s[k].toNat<128;omega, .inl ⟨by rw [GJ.out];exact Ao.out,GJ.out.symm,rfl,rfl⟩⟩,MQ Z (Um ?_) Z,below_drewN (by assumption) _⟩;rw [yf,aUN,aR1 (by simp)]
     ·have I:((strOf (d_ M')).toList == (s.extract 0 (k+1)).toList)=false:=acw (fun h=>hp (by
       have aa:=aSI (fun x:ByteArray=>x.data.toList) h;simp only [yf,aUN,aUc] at aa;exact aa))
      have Ao:=aRF hp;clear hp;go_wp2_with fail
      go_region_held3 (fun l7=>Below w.heap.size w l7) (first | exact Φ.drew | exact Φ.drew.trans (by assumption) | assumption) ((go_at_call 130;refine (RG M' aN.out _ rfl _).mono ?_;rintro e w' ⟨rfl,bx⟩;have dL:=Φ.drew.trans (bx.mono Φ.size)))
      clear Φ bx I;go_wp2_with fail
      go_ret3
      exact ⟨0, [],4, .inl ⟨k,P8,ja,mE.out,fun _=>by have:=VQ;show s[k].toNat<128;omega, .inr ⟨by rw [GJ.out];exact Ao.out,rfl,rfl,rfl⟩⟩,MQ Z Z Z,by assumption⟩
   ·have awq:k=10:=by omega
    subst awq;have hlen:¬ (s.size:Int)<10:=by omega
    go_wp2_with fail
    go_ret3
    exact ⟨0, [],4, .inr (.inr ⟨by simp;have e:s.data.size=s.size:=rfl;omega,fun i h aq=>mE.out i h aq,rfl,rfl,rfl⟩),MQ Z Z Z,Φ⟩
  ·have Qz:k=s.size:=by omega
   have de:∀ i (h:i<s.data.toList.length),i<k:=by
    intro i h;have e:s.data.toList.length=s.size:=by simp
    omega
   have e:s.data.toList.length=s.size:=by simp
   by_cases P8:s.size<10
   ·have jm:=aRF e;have jl:=aRF de;have hY:=aRF Qz;clear e de Qz;have hlen:(s.size:Int)<10:=by omega
    have r4:(s.size:Int)≤(k:Int):=by omega
    go_wp2_with fail
    go_ret3
    exact ⟨0, [],3, .inr (.inl ⟨by have:=jm.out;omega,fun i h=>mE.out i h (jl.out i h),rfl,rfl,rfl⟩),MQ Z Z Z,Φ⟩
   ·have jm:=aRF e;have jl:=aRF de;have hY:=aRF Qz;clear e de Qz;have hlen:¬ (s.size:Int)<10:=by omega
    have r4:(s.size:Int)≤(k:Int):=by omega
    go_wp2_with fail
    go_ret3
    exact ⟨0, [],4, .inr (.inr ⟨by have:=jm.out;omega,fun i h aq=>mE.out i h (jl.out i h),rfl,rfl,rfl⟩),MQ Z Z Z,Φ⟩
end Go.Proofs.YtlikikpgmmkjbaaGreat.Pack
namespace Go.Proofs.YtlikikpgmmkjbaaGreat
open Tryz
section
def vN (l:List Int):List Value:=l.map (Value.int .i64)
theorem acM (l:List Int) (i:Nat) (h:i<l.length):(vN l)[i]? =some (.int .i64 l[i]):=by unfold vN;simp [h]
theorem aqj (l:List Int) (x:Int):vN (l++ [x])=vN l++ [.int .i64 x]:=by unfold vN;simp
def Oj (_:Nat) (u:Value):Prop:=∃ n:Int,u= .int .i64 n
theorem ayg:(prog.info? 3).map (fun i=>(i.zero,i.size,i.bytes))=some (some (.int .i64 0),1,8):=by kernel_rfl
def sR (l:List Int):Prop:=∀ x∈l, -9223372036854775808≤x∧x≤9223372036854775807
end
end Go.Proofs.YtlikikpgmmkjbaaGreat
namespace Go.Proofs.YtlikikpgmmkjbaaGreat.Pack
open Tryz
open Go.Proofs.YtlikikpgmmkjbaaGreat Go.Proofs.YtlikikpgmmkjbaaGreat.fc

theorem aBL (k x y:Nat) (u v:List UInt8) (hx:x<128 ^ (k+1)) (aL:y<128 ^ (k+1)) (h:ka k x++u=ka k y++v):x=y∧u=v:=by
 induction k generalizing x y with
 | zero =>
  simp only [ka,aWa,aT4] at h;have:=aSI UInt8.toNat h.1;simp only [aSF] at this;simp at hx aL;exact ⟨by omega,h.2⟩
 | succ k bD =>
  by_cases τ:x<128
  ·by_cases aa:y<128
   ·rw [BA τ,BA aa] at h;simp only [aWa,aT4] at h;have:=aSI UInt8.toNat h.1;simp only [aSF] at this;exact ⟨by omega,h.2⟩
   ·rw [BA τ,Bz aa] at h;simp only [aTz,aT4] at h;have:=aSI UInt8.toNat h.1;simp only [aSF] at this;omega
  ·by_cases aa:y<128
   ·rw [Bz τ,BA aa] at h;simp only [aTz,aT4] at h;have:=aSI UInt8.toNat h.1;simp only [aSF] at this;omega
   ·rw [Bz τ,Bz aa] at h;simp only [aTz,aT4] at h;have e:=aSI UInt8.toNat h.1;simp only [aSF] at e;obtain ⟨aw,a1⟩:=bD (x / 128) (y / 128) (IG hx) (IG aL) h.2;exact ⟨by omega,a1⟩
theorem RF {x y:Nat} {u v:List UInt8} (hx:x<18446744073709551616) (aL:y<18446744073709551616) (h:d_ x++u=d_ y++v):x=y∧u=v:=aBL 9 x y u v (Fx hx) (Fx aL) h
theorem ae8 {l:List UInt8} {n:Nat} {rest:List UInt8} (h:JJ l n rest 0):l=d_ n++rest∧n<18446744073709551616:=by
 rcases h with ⟨k,ar,ja,_,_,⟨τ,aa,aw,_⟩ | ⟨_,_,_,h⟩⟩ | ⟨_,_,_,_,h⟩ | ⟨_,_,_,_,h⟩
 ·subst aa;subst aw;exact ⟨by rw [τ,aTL],aTD _ (by decide)⟩
 all_goals cases h
theorem atV {n k:Nat} {r:List UInt8} (hn:n<18446744073709551616) (ar:k<(d_ n++r).length) (fC:∀ i (h:i<(d_ n++r).length),i<k→128≤((d_ n++r)[i]).toNat) (az:((d_ n++r)[k]).toNat<128):k+1=(d_ n).length:=by
 have τ:=(BB n).2;rcases aWD (k+1) (d_ n).length with h | h | h
 ·rw [aT0 (by omega)] at az;have:=aBK 9 n k (Fx hn) h (by show k<(d_ n).length;omega);have e:(ka 9 n)[k]'(by show k<(d_ n).length;omega)=(d_ n)[k]'(by omega):=rfl;rw [e] at this;omega
 ·exact h
 ·have aa:=fC ((d_ n).length - 1) (by simp;omega) (by omega);rw [aT0 (by omega)] at aa;have:=aka 9 n (Fx hn) ((d_ n).length - 1) (by show _<(d_ n).length;omega) (by show _=(d_ n).length;omega);have e:(ka 9 n)[(d_ n).length - 1]'(by show _<(d_ n).length;omega)=(d_ n)[(d_ n).length - 1]'(by omega):=rfl;rw [e] at this;omega
theorem A0 {n:Nat} {r:List UInt8} {m:Nat} {rest:List UInt8} {e:Int} (hn:n<18446744073709551616) (h:JJ (d_ n++r) m rest e):m=n∧rest=r∧e=0:=by
 have hlen:=BB n;have jb:∃ i,∃ aq:i<(d_ n++r).length,i<10∧((d_ n++r)[i]).toNat<128:=by
  refine ⟨(d_ n).length - 1,by simp;omega,by omega, ?_⟩;rw [aT0 (by omega)];exact aka 9 n (Fx hn) ((d_ n).length - 1) (by show _<(d_ n).length;omega) (by show _=(d_ n).length;omega)
 rcases h with ⟨k,ar,ja,fC,az,h⟩ | ⟨_,de,_⟩ | ⟨_,de,_⟩
 ·have p1:=atV hn ja fC (az ja);have aG:(d_ n++r).take (k+1)=d_ n:=by rw [p1,aU0]
  have hv:val (d_ n) % 18446744073709551616=n:=by rw [aEr n hn,aSW hn]
  rw [aG,hv] at h;rcases h with ⟨_,aa,aw,a1⟩ | ⟨τ,_⟩
  ·refine ⟨aa, ?_,a1⟩;rw [aw,p1,List.drop_left]
  ·exact absurd Z τ
 ·obtain ⟨i,aq,_,jb⟩:=jb;have:=de i aq;omega
 ·obtain ⟨i,aq,awd,jb⟩:=jb;have:=de i aq awd;omega
def wM (n:Nat):Int:=if n % 2=0 then ((n / 2:Nat):Int) else -((n / 2:Nat):Int) - 1
theorem at9 (n:Nat):oV (wM n)=n:=by
 unfold oV wM;split<;>split<;>omega
theorem alN (x:Int):wM (oV x)=x:=by
 unfold oV wM;split<;>split<;>omega
theorem P0 (x:Int) (aH: -9223372036854775808≤x) (τ:x≤9223372036854775807):oV x<18446744073709551616:=by
 unfold oV;split<;>omega
theorem aEc (n:Nat) (h:n<18446744073709551616): -9223372036854775808≤wM n∧wM n≤9223372036854775807:=by
 unfold wM;split<;>omega
def items (l:List Int):List UInt8:=l.flatMap fun x=>d_ (oV x)
def q9 (l:List Int):List UInt8:=d_ l.length++items l
theorem LX (x:Int) (l:List Int):items (x::l)=d_ (oV x)++items l:=rfl
theorem ayr (a b:List Int):items (a++b)=items a++items b:=by unfold items;rw [aSZ]
theorem ahh (a:List Int) (x:Int):items (a++ [x])=items a++d_ (oV x):=by rw [ayr,LX];simp [items]
theorem XA (l:List Int):(items l).length≤10 * l.length:=by
 induction l with
 | nil=>simp [items]
 | cons x l bD=>rw [LX];have:=(BB (oV x)).1;simp;omega
theorem at5 {x y:Int} (h:oV x=oV y):x=y:=by rw [← alN x,h,alN]
theorem Q2:∀ (a b:List Int) (s:List UInt8),sR a→sR b→a.length≤b.length→items a++s=items b→a=b.take a.length∧s=items (b.drop a.length)
 | [],b,s,_,_,_,h=>⟨by simp,by simpa [items] using h⟩
 | x::a, [],s,_,_,az,_=>by simp at az
 | x::a,y::b,s,ha,Φ,az,h=>by
  rw [LX,LX,aR9] at h;have hx:=ha x (by simp);have aL:=Φ y (by simp);obtain ⟨τ,aa⟩:=RF (P0 x hx.1 hx.2) (P0 y aL.1 aL.2) h;obtain ⟨aw,a1⟩:=Q2 a b s (fun z bs=>ha z (by simp [bs])) (fun z bs=>Φ z (by simp [bs])) (by simpa using az) aa;rw [at5 τ];exact ⟨by simp;exact aw,by simpa using a1⟩
def Ag (s:List UInt8) (out:List Int) (e:Int):Prop :=
 sR out∧(e=0→s=q9 out∧out.length≤1000)∧(e≠0→out= []∧∀ l,sR l→l.length≤1000→s≠q9 l)
theorem auK {l out:List Int} {e:Int} (az:sR l) (τ:l.length≤1000) (h:Ag (q9 l) out e):e=0∧out=l:=by
 obtain ⟨bS,aa,aw⟩:=h;by_cases he:e=0
 ·obtain ⟨a1,bK⟩:=aa he;unfold q9 at a1;obtain ⟨b_,ed⟩:=RF (by omega) (by omega) a1;obtain ⟨gh,_⟩:=Q2 l out [] az bS (by omega) (by rw [aR7];exact ed);rw [b_,aSi] at gh;exact ⟨he,gh.symm⟩
 ·exact absurd Z ((aw he).2 l az τ)
theorem ach {s:List UInt8} {n:Nat} {r:List UInt8} {e:Int} (h:JJ s n r e) (he:e≠0∨1000<n) {k:Int} (ar:k≠0):Ag s [] k:=by
 refine ⟨fun x hx=>(by cases hx),fun h=>absurd h ar,fun _=>⟨Z,fun l az τ hs=> ?_⟩⟩;subst hs;obtain ⟨aa,_,aw⟩:=A0 (by omega) h;rcases he with he | he
 ·exact he aw
 ·omega
theorem apk {s:List UInt8} {n:Nat} {out:List Int} {r:List UInt8} {m:Nat} {r':List UInt8} {e:Int} (hs:s=d_ n++(items out++r)) (hn:n<18446744073709551616) (bS:sR out) (bw:out.length<n) (h:JJ r m r' e) (he:e≠0):Ag s [] e:=by
 refine ⟨fun x hx=>(by cases hx),fun h=>absurd h he,fun _=>⟨Z,fun l az τ gC=> ?_⟩⟩;rw [gC] at hs;unfold q9 at hs;obtain ⟨aa,aw⟩:=RF (by omega) hn hs;obtain ⟨a1,bK⟩:=Q2 out l r bS az (by omega) aw.symm;have b_:l.drop out.length=l[out.length]'(by omega)::l.drop (out.length+1):=aTp (by omega);rw [b_,LX] at bK;subst bK;have hx:=az (l[out.length]'(by omega)) (aSO _);exact he (A0 (P0 _ hx.1 hx.2) h).2.2
theorem apj {s:List UInt8} {n:Nat} {out:List Int} {r:List UInt8} (hs:s=d_ n++(items out++r)) (hn:n<18446744073709551616) (bS:sR out) (bw:out.length=n) (hr:r≠ []) {k:Int} (ar:k≠0):Ag s [] k:=by
 refine ⟨fun x hx=>(by cases hx),fun h=>absurd h ar,fun _=>⟨Z,fun l az τ gC=> ?_⟩⟩;rw [gC] at hs;unfold q9 at hs;obtain ⟨aa,aw⟩:=RF (by omega) hn hs;obtain ⟨a1,bK⟩:=Q2 out l r bS az (by omega) aw.symm;rw [aV8 (by omega)] at bK;exact hr bK
theorem auJ {s:List UInt8} {n:Nat} {out:List Int} (hs:s=d_ n++(items out++ [])) (bS:sR out) (bw:out.length=n) (hn:n≤1000):Ag s out 0 :=
 ⟨bS,fun _=>⟨by rw [hs,aR7,← bw];rfl,by omega⟩,fun h=>absurd rfl h⟩
end Go.Proofs.YtlikikpgmmkjbaaGreat.Pack
namespace Go.Proofs.YtlikikpgmmkjbaaGreat
open Tryz
end Go.Proofs.YtlikikpgmmkjbaaGreat
namespace Go.Proofs.YtlikikpgmmkjbaaGreat.Pack
open Tryz
open Go.RowKit Go.Proofs.YtlikikpgmmkjbaaGreat

theorem akX:(prog.info? 212).map (·.size)=some 2:=by kernel_rfl
theorem azd:liesAt prog prog.depth 212 (2 / prog.cellsOf 212) 0 212 1=true:=by kernel_rfl
theorem infoByte:(prog.info? 5).map (fun i=>(i.zero,i.size,i.bytes))=some (some (.int .u8 0),1,1):=by kernel_rfl
theorem aqt (b:Nat) (w:World) (aH:w.cell? ⟨b,0,none⟩=some (.pointer (some ⟨b,0,none⟩))):
  Calls prog 160 #[.pointer (some ⟨b,0,none⟩)] w fun e w'=>e= .returned (.tuple #[])∧w'=w:=by
 obtain ⟨j,ay,_⟩:=aV2.1 akX;go_enter func160,ntmps160;go_wp2
 rw [Lib.run_neq_ptr_same w _ underlying210 ay];go_wp2
 go_end0
 exact ⟨Z,Z⟩
theorem aqr (b:Nat) (w:World) (aH:w.cell? ⟨b,0,none⟩=some (.pointer none)) (QR:w.shape? b=some (212,2)) (av8:w.frozen? ⟨b,0,none⟩=false):
  Calls prog 160 #[.pointer (some ⟨b,0,none⟩)] w fun e w'=>e= .returned (.tuple #[])∧w'=w.setCell ⟨b,0,none⟩ (.pointer (some ⟨b,0,none⟩)):=by
 obtain ⟨j,ay,awo⟩:=aV2.1 akX;go_enter func160,ntmps160;go_wp2
 rw [Lib.run_to_unsafe w ⟨b,0,none⟩ underlying210 underlying287 ay (by rw [awo];decide) QR (Nat.zero_lt_succ 1)];simp only [Result.andThen];rw [aVS];go_wp2
 rw [run_callFunc_extern func192 (by kernel_rfl) (by kernel_rfl) (by kernel_rfl) (e:=Extern.AbiNoEscape.same) (by kernel_rfl)];rw [Lib.run_noEscape];simp only [Result.andThen];rw [aVS];go_wp2
 rw [Lib.run_from_unsafe w ⟨b,0,none⟩ underlying287 underlying210 ay QR azd];simp only [Result.andThen];rw [aVS];go_wp2
 go_end0
 exact ⟨Z,Z⟩
theorem CA (B b:Nat) (cX:List Value) (w:World) (h:Lib.IsBuilder 212 5 B b cX w):
  Calls prog 160 #[.pointer (some ⟨b,0,none⟩)] w fun e w'=>e= .returned (.tuple #[])∧(Lib.BuilderAt 212 5 B b (.pointer (some ⟨b,0,none⟩)) cX w'∧Below B w w'):=by
 rcases h with h | h
 ·refine (aqr b w h.cell0 h.shape h.frozen0).mono ?_;rintro e w' ⟨rfl,rfl⟩;exact ⟨Z,h.used _,(aR8 B w).setCell (p:=⟨b,0,none⟩) h.1 _⟩
 ·refine (aqt b w h.cell0).mono ?_;rintro e w' ⟨rfl,rfl⟩;exact ⟨Z,h,aR8 B _⟩
theorem ams (B b:Nat) (cX:List Value) (s:ByteArray) (w:World) (h:Lib.IsBuilder 212 5 B b cX w) (hlen:cX.length+s.size≤140737488355328) (afj:B≤w.heap.size):
  Calls prog 129 #[.pointer (some ⟨b,0,none⟩), .string s] w fun e w'=>e= .returned (.tuple #[.int .i64 s.size, .nilIface])∧(Lib.BuilderAt 212 5 B b (.pointer (some ⟨b,0,none⟩)) (cX++Lib.strCells s) w'∧Below B w w'):=by
 obtain ⟨i0,aq,o2,nC,qX⟩:=aUa infoByte;go_enter func129,ntmps129;go_wp2_with fail
 refine (CA B b cX _ h).mono ?_;rintro e aP ⟨rfl,τ,cT⟩;obtain ⟨aX,v,HL,fi,fh⟩:=τ;have b1:aP.cell? ⟨b,0,none⟩=some (.pointer (some ⟨b,0,none⟩)):=by rw [aUO HL];rfl
 have c1:aP.cell? ⟨b,1,none⟩=some v:=by rw [aUO HL];rfl
 go_wp2_with (at_builtin;refine Lib.wpList_append_own_string _ rfl _ _ 76 9 rfl B 5 i0 underlying76 underlying9 aq o2 nC qX _ _ _ rfl fi s rfl ?c3 ?c4 ?c5 ?_)
 case c3=>unfold maxLen;omega
 case c4=>omega
 case c5=>have:=cT.size;omega
 intro v' cH xO jB _;have bw:b<aP.heap.size:=by
  rcases aSA b aP.heap.size with cI | cI
  ·exact cI
  ·simp [aSv cI] at HL
 have bx:cH.heap[b]? =some (.cells #[.pointer (some ⟨b,0,none⟩),v] 212 (0,0)):=by
  rw [jB.block b bw (fun e=>fh e.symm)];exact HL
 have d0:cH.cell? ⟨b,0,none⟩=some (.pointer (some ⟨b,0,none⟩)):=by rw [aUO bx];rfl
 have d1:cH.cell? ⟨b,1,none⟩=some v:=by rw [aUO bx];rfl
 have f1:cH.frozen? ⟨b,1,none⟩=false:=Lib.frozen_of_heap bx 1;obtain ⟨ab6,jQ,cap,rfl⟩:∃ ab6 jQ cap,v'= .slice ab6 jQ cap:=by
  rcases xO.2 with ⟨hv,_⟩ | ⟨g,cap,cur,hv,_⟩
  ·exact ⟨_,_,_,hv⟩
  ·exact ⟨_,_,_,hv⟩
 go_wp2
 go_ret2
 refine ⟨Z, ?_, ?_⟩
 ·exact Lib.BuilderAt.put (T:= 212) (e:= 5) aX bx (bs':=cX++Lib.strCells s) (by simpa [Lib.strCells_length] using xO) (by decide)
 ·exact (cT.grown jB (by have:=cT.size;omega) (fun k ar=>(fi.lt k ar).1)).setCell (p:=⟨b,1,none⟩) aX _
end Go.Proofs.YtlikikpgmmkjbaaGreat.Pack
namespace Go.Proofs.YtlikikpgmmkjbaaGreat
open Tryz
end Go.Proofs.YtlikikpgmmkjbaaGreat
