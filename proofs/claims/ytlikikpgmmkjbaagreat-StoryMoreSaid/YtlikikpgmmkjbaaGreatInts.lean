import Derived.Test.YtlikikpgmmkjbaaGreatGra
import Derived.Test.YtlikikpgmmkjbaaGreatLawP
import Derived.Test.YtlikikpgmmkjbaaGreatPpt
import Derived.Test.YtlikikpgmmkjbaaGreatGol
import Derived.Test.YtlikikpgmmkjbaaGreatBas
import Derived.Test.YtlikikpgmmkjbaaGreatProg
import Derived.Lib.BitFns
import Derived.Test.YtlikikpgmmkjbaaGreatShelf
set_option linter.unusedVariables false
set_option linter.unusedSimpArgs false
set_option maxRecDepth 100000
set_option maxHeartbeats 4000000
namespace Go.Proofs.YtlikikpgmmkjbaaGreat
section
open Go.RowKit
theorem struck_nil {W:Wd} (h:W.chk=0):struckW W []=W∧struckG W []= []:=by
 have e1:=blowE_mk (l:= []) h (by decide)
 have hS:=struck_of e1
 have hh:harmW W []=List.replicate W.troops.length 0:=by unfold harmW;rw [e1];rfl
 have hu:hurts W []=W.troops:=by
  apply List.ext_getElem?
  intro i
  cases ht:W.troops[i]? with
  | none =>
   have:=List.getElem?_eq_none_iff.1 ht
   rw [List.getElem?_eq_none (by rw [hurts_len];exact this)]
  | some t =>
   rw [hurts_get ht,hh]
   have:(List.replicate W.troops.length (0:Int)).getD i 0=0:=by
    rw [List.getD_eq_getElem?_getD,List.getElem?_replicate];split<;>rfl
   rw [this,Int.sub_zero]
 have hf:∀ t∈W.troops,0<t.life:=λ t ht=>by have:=(hS.good.each ht).2.2.life;omega
 constructor
 ·rw [hS.hW,hu,List.filter_eq_self.2 λ t ht=>decide_eq_true (hf t ht)]
 ·rw [hS.hG,hu,List.filter_eq_nil_iff.2 λ t ht=>by simp [hf t ht]];rfl
theorem stS_nil {f:Fld} {T:List Trp}:∀ k,stS f [] T k=(T, [])
 | 0=>rfl
 | k+1=>stS_none (stS_nil k) (step1_n1 (by show idxI _ ([]:List Gox)<0;unfold idxI;simp))
theorem march_nil {W:Wd} (h:W.chk=0):marchW W []=W∧marchM W []= []:=by
 obtain ⟨e1,e2,e3⟩:=march_ok (W:=W) (l:= []) h (by decide)
 rw [e2,e3]
 unfold Wd.stepped
 rw [stS_nil];exact ⟨rfl,rfl⟩
theorem do_nil {W:Wd} (h:W.chk=0):W.doW []=W∧W.doB []= []:=⟨do_ok1 h (by decide),do_ok2 h (by decide)⟩
theorem turn_nil {W:Wd} (h:W.chk=0) (hn:W.now<1000000):turnE W []=0∧turnW W []= {W with now:=W.now+1}∧turnG W []= []∧turnM W []= []∧turnD W []= []:=by
 have e0:splE W []=0:=by unfold splE;rw [if_neg (by decide)];exact h
 have e1:turnE W []=0:=by unfold turnE;rw [if_neg (by simpa using e0),if_neg (by omega)]
 obtain ⟨z1,z2,z3,z4⟩:=turn_yes e1
 obtain ⟨s1,s2⟩:=struck_nil h
 have t1:turn1 W []=W:=s1
 obtain ⟨m1,m2⟩:=march_nil h
 have t2:turn2 W []=W:=by show marchW (turn1 W []) []=W;rw [t1];exact m1
 obtain ⟨d1,d2⟩:=do_nil h
 have t3:turn3 W []=W:=by show (turn2 W []).doW []=W;rw [t2];exact d1
 refine ⟨e1,by rw [z1,t3],by rw [z2];exact s2, ?_, ?_⟩
 ·rw [z3];show marchM (turn1 W []) []= [];rw [t1];exact m2
 ·rw [z4];show (turn2 W []).doB []= [];rw [t2];exact d2
theorem turn_now {W:Wd} {l:List Odr} (h:turnE W l=0):(turn3 W l).now=W.now:=by
 obtain ⟨e1,e2,e3,g1,g2,g3⟩:=turn_dat h
 have h1:(turn1 W l).now=W.now:=by unfold turn1;rw [(struck_of e1).hW]
 have h2:(turn2 W l).now=(turn1 W l).now:=by unfold turn2;rw [(march_right e2).2.2.2.1]
 have h3:(turn3 W l).now=(turn2 W l).now:=by unfold turn3;rw [(do_of e3).2.2.1];exact (kept_deeds g2 _).now
 rw [h3,h2,h1]
theorem turn_right {W:Wd} {l:List Odr} (h:turnE W l=0):(turnW W l).chk=0∧(turnW W l).now=W.now+1∧sortedI (turnG W l)=true∧sortedI (turnM W l)=true:=by
 obtain ⟨h1,h2,h3,h4⟩:=turnE_zero h
 obtain ⟨e1,e2,e3,g1,g2,g3⟩:=turn_dat h
 obtain ⟨z1,z2,z3,z4⟩:=turn_yes h
 have hn:=turn_now h
 have hn0:=(Good.of_chk h3).now
 rw [z1,z2,z3]
 refine ⟨Good.chk {g3 with now:=⟨?_, ?_⟩}, ?_,(struck_of e1).sorted,(march_right e2).2.2.1⟩
 ·show 0≤(turn3 W l).now+1;omega
 ·show (turn3 W l).now+1≤1000000;omega
 ·show (turn3 W l).now+1=_;omega
def tickL:List Odr:= [⟨0,3,1,⟨2,0⟩,0⟩]
def tickV:Wd:=⟨⟨3,1, [0,0,3]⟩, [⟨0,0⟩], [20], [0,0,8], [⟨1,0,1,⟨1,0⟩,10,1⟩],2,1⟩
theorem turn_small:turnE smallW tickL=0∧turnW smallW tickL=tickV∧turnG smallW tickL= []∧turnM smallW tickL= []∧turnD smallW tickL= [true]:=by
 have hc:smallW.chk=0:=by decide +kernel
 have eB:splB smallW tickL tickL.length= []:=by decide +kernel
 have eG:splG smallW tickL tickL.length= []:=by decide +kernel
 have eD:splD smallW tickL tickL.length= [⟨1,1,⟨2,0⟩,0⟩]:=by decide +kernel
 have e1:turnE smallW tickL=0:=by decide +kernel
 obtain ⟨z1,z2,z3,z4⟩:=turn_yes e1
 obtain ⟨s1,s2⟩:=struck_nil hc
 have t1:turn1 smallW tickL=smallW:=by unfold turn1;rw [eB];exact s1
 obtain ⟨m1,m2⟩:=march_nil hc
 have t2:turn2 smallW tickL=smallW:=by unfold turn2;rw [t1,eG];exact m1
 have t3:turn3 smallW tickL=smallW.doW [⟨1,1,⟨2,0⟩,0⟩]:=by unfold turn3;rw [t2,eD]
 have hd:smallW.doW [⟨1,1,⟨2,0⟩,0⟩]= {tickV with now:=0}:=by decide +kernel
 refine ⟨e1, ?_, ?_, ?_, ?_⟩
 ·rw [z1,t3,hd];rfl
 ·rw [z2,eB];exact s2
 ·rw [z3,t1,eG];exact m2
 ·rw [z4,t2,eD];decide +kernel
end
section
open Go.RowKit
structure SV where
 a:Option Addr
 n:Nat
 c:Nat
instance:Inhabited SV:=⟨⟨none,0,0⟩⟩
def svRep:Rep SV:=Rep.flat 1 (λ v=> [.slice v.a v.n v.c]) (λ _=>True) (λ _ u=>∃ a n c,u= .slice a n c) (λ _=>rfl) (by intro a u hu;simp at hu;subst hu;rfl) (by
 intro a j u hu
 cases j with
 | zero=>simp at hu;exact ⟨_,_,_,hu.symm⟩
 | succ j=>simp at hu)
theorem hcV {w:World} {cs:List Value} {a:SV} (h:svRep.has w cs a):cs= [.slice a.a a.n a.c]:=And.left (show cs= [.slice a.a a.n a.c]∧True from h)
end
end Go.Proofs.YtlikikpgmmkjbaaGreat
namespace Go.Proofs.YtlikikpgmmkjbaaGreat.Mark
open Go.Proofs.YtlikikpgmmkjbaaGreat.Bv

abbrev B64:=BitVec 64
abbrev W:=BitVec 64
def xs (k:Nat) (x:B64):B64:=x ^^^ x >>> k
def c1:B64:=13787848793156543929#64
def c2:B64:=10723151780598845931#64
def gold:B64:=11400714819323198485#64
def mix (n:B64):B64:=xs 31 (xs 27 (xs 30 (n+gold) * c1) * c2)
def down (k:Nat) (x:B64):B64:=xs (2 * k) (xs k x)
def newton (x y:B64):B64:=y * (2#64 - x * y)
def other (x:B64):B64:=newton x (newton x (newton x (newton x (newton x (newton x x)))))
def back (n:B64):B64:=down 30 (down 27 (down 31 n * other c2) * other c1) - gold
section
variable (f:B64→B64)
def turnF (m n:B64):B64:=m ^^^ f n
def allF (l:List B64) (m:B64):B64:=l.foldl (turnF f) m
def ofF (l:List B64):B64:=allF f l 0#64
theorem allF_snoc (l:List B64) (x:B64) (m:B64):allF f (l++ [x]) m=turnF f (allF f l m) x:=by unfold allF;rw [List.foldl_append];rfl
end
end Go.Proofs.YtlikikpgmmkjbaaGreat.Mark
namespace Go.Proofs.YtlikikpgmmkjbaaGreat
end Go.Proofs.YtlikikpgmmkjbaaGreat
set_option linter.unusedVariables false
set_option linter.unusedSimpArgs false
namespace Go.Proofs.YtlikikpgmmkjbaaGreat.Mark
open Go.RowKit Go.Proofs.YtlikikpgmmkjbaaGreat.Bv

theorem ret_u64 {a b:Int} (h:a=b):Ending.returned (.int .u64 a)= .returned (.int .u64 b):=by rw [h]

theorem wrap_u (x:Int):IntKind.u64.wrap x=U (BitVec.ofInt 64 x):=by
 refine eq64 ?_ ?_ (of_wrap64 x)
 ·rw [IntKind.wrap_u64];omega
 ·rw [IntKind.wrap_u64];omega
theorem add_num (a:B64):IntKind.u64.wrap (U a+11400714819323198485)=U (a+gold):=by
 rw [wrap_u,of_add,of_U];rfl
theorem mul1_num (a:B64):IntKind.u64.wrap (U a * 13787848793156543929)=U (a * c1):=by
 rw [wrap_u,of_mul,of_U];rfl
theorem mul2_num (a:B64):IntKind.u64.wrap (U a * 10723151780598845931)=U (a * c2):=by
 rw [wrap_u,of_mul,of_U];rfl
theorem xs_num (k:Nat) (a:B64):bits BinOp.xor IntKind.u64 (U a) (U a / 2 ^ k)=U (xs k a):=by
 refine eq64 (bits64_nonneg _ _ _) (bits64_lt _ _ _) ?_
 rw [of_xor64,of_shr (n:=64) (U a) k (U_nonneg a) (by have:=U64_lt a;omega),of_U]
 rfl
theorem xs30 (a:B64):bits BinOp.xor IntKind.u64 (U a) (U a / 1073741824)=U (xs 30 a):=xs_num 30 a
theorem xs27 (a:B64):bits BinOp.xor IntKind.u64 (U a) (U a / 134217728)=U (xs 27 a):=xs_num 27 a
theorem xs31 (a:B64):bits BinOp.xor IntKind.u64 (U a) (U a / 2147483648)=U (xs 31 a):=xs_num 31 a
theorem mix_any (x:Int) (n:B64) (hx:x=U n) (w:World):
  Calls Tryz.prog 118 #[.int .u64 x] w fun e w'=>e= .returned (.int .u64 (U (mix n)))∧w=w':=by
 subst hx
 go_enter Tryz.func118,Tryz.ntmps118
 go_wp2
 go_ret
 refine ⟨ret_u64 ?_,rfl⟩
 rw [add_num,xs30,mul1_num,xs27,mul2_num,xs31]
 rfl

end Go.Proofs.YtlikikpgmmkjbaaGreat.Mark
namespace Go.Proofs.YtlikikpgmmkjbaaGreat
end Go.Proofs.YtlikikpgmmkjbaaGreat
set_option linter.unusedVariables false
set_option linter.unusedSimpArgs false
namespace Go.Proofs.YtlikikpgmmkjbaaGreat.Mark
open Go.RowKit Go.Proofs.YtlikikpgmmkjbaaGreat.Bv


theorem turn_any (x y:Int) (m n:B64) (hx:x=U m) (hy:y=U n) (w:World):
  Calls Tryz.prog 133 #[.int .u64 x, .int .u64 y] w fun e w'=>e= .returned (.int .u64 (U (turnF mix m n)))∧w=w':=by
 subst hx hy
 go_enter Tryz.func133,Tryz.ntmps133
 go_wp2_with (go_at_call 118;refine (mix_any _ n rfl _).mono ?_;rintro e w' ⟨rfl,rfl⟩)
 go_ret
 exact ⟨ret_u64 (by refine eq64 (bits64_nonneg _ _ _) (bits64_lt _ _ _) ?_;rw [of_xor64,of_U,of_U];rfl),rfl⟩
def Sl (w:World) (a:Option Addr) (n:Nat) (zs:List B64):Prop :=
 n=zs.length∧n≤9223372036854775807∧(zs= []∨∃ b off,a=some ⟨b,off,none⟩∧∀ i (h:i<zs.length),w.cell? ⟨b,off+i,none⟩=some (.int .u64 (U zs[i])))

def alls (zss:List (List B64)) (m:B64):B64:=zss.foldl (fun m l=>allF mix l m) m
theorem alls_snoc (zss:List (List B64)) (l:List B64) (m:B64):alls (zss++ [l]) m=allF mix l (alls zss m):=by unfold alls;rw [List.foldl_append];rfl
theorem take_snoc {α:Type} (l:List α) (k:Nat) (h:k<l.length):l.take (k+1)=l.take k++ [l[k]]:=List.take_succ_eq_append_getElem h

theorem all_any (b c:Nat) (vs:List (Option Addr×Nat×Nat)) (zss:List (List B64)) (w:World) (hn:vs.length=zss.length) (hc:c≤100) (hcv:vs.length≤100)
  (hcell:∀ i (h:i<vs.length),w.cell? ⟨b,i,none⟩=some (.slice vs[i].1 vs[i].2.1 vs[i].2.2)) (hsl:∀ i (h:i<vs.length) (h':i<zss.length),Sl w vs[i].1 vs[i].2.1 zss[i]):
  Calls Tryz.prog 93 #[.slice (some ⟨b,0,none⟩) vs.length c] w fun e w'=>e= .returned (.int .u64 (U (alls zss 0#64)))∧w=w':=by
 obtain ⟨N,HN⟩:∃ N,Hid (N=vs.length):=⟨_,Lib.hid rfl⟩
 have HC:=Lib.hid hcell
 have HS:=Lib.hid hsl
 have HL:=Lib.hid hn
 rw [← HN.out] at hcv ⊢
 clear hcell hsl hn
 go_enter Tryz.func93,Tryz.ntmps93
 go_wp2
 go_loop [3,10] (fun v i=>∃ k:Nat,k≤N∧i= .int .i64 k∧v= .int .u64 (U (alls (zss.take k) 0#64))) (fun _ i=>N - (intOf i).toNat)
 case atStart=>exact ⟨0,Nat.zero_le _,rfl,rfl⟩
 case round =>
  obtain ⟨k,hk,rfl,rfl⟩:=hrel
  by_cases hlt:k<N
  ·have hkv:k<vs.length:=by have:=HN.out;omega
   have hkz:k<zss.length:=by have:=HL.out;omega
   have h1:=HC.out k hkv
   have h2:=HS.out k hkv hkz
   obtain ⟨l,HZ⟩:∃ l,Hid (zss[k]=l):=⟨_,Lib.hid rfl⟩
   rw [HZ.out] at h2
   generalize vs[k].1=a at h1 h2
   generalize vs[k].2.1=n at h1 h2
   generalize vs[k].2.2=c' at h1 h2
   obtain ⟨h3,h4,h5⟩:=h2
   have HE:=Lib.hid h3
   clear h3
   generalize hM:alls (zss.take k) 0#64=M
   have hM':alls (zss.take (k+1)) 0#64=allF mix l M:=by rw [take_snoc _ _ hkz,alls_snoc,hM,HZ.out]
   have HM:=Lib.hid hM'
   clear hM hM'
   rcases h5 with hnil | ⟨b',off,rfl,hcl⟩
   ·have hn0:n=0:=by rw [HE.out,hnil];rfl
    have HNil:=Lib.hid hnil
    subst hn0
    clear hnil
    go_wp2_with fail
    refine wp_loop_rounds 1 ?_
    rw [rounds_succ]
    go_wp2_with fail
    go_round
    case rel=>exact ⟨k+1,by omega,by go_num,by rw [HM.out,HNil.out];rfl⟩
    case measure=>simp [intOf];omega
   ·have HCL:=Lib.hid hcl
    clear hcl
    go_wp2_with fail
    go_loop [3,16] (fun v i=>∃ q:Nat,q≤n∧i= .int .i64 q∧v= .int .u64 (U (allF mix (l.take q) M))) (fun _ i=>n - (intOf i).toNat)
    case atStart=>exact ⟨0,Nat.zero_le _,rfl,rfl⟩
    case round =>
     obtain ⟨q,hq,rfl,rfl⟩:=hrel
     by_cases hqn:q<n
     ·have hql:q<l.length:=by have:=HE.out;omega
      have hcq:=HCL.out q hql
      generalize hZ:l[q]=z at hcq
      generalize hM2:allF mix (l.take q) M=M2
      have HM2:=Lib.hid (show allF mix (l.take (q+1)) M=turnF mix M2 z by rw [take_snoc _ _ hql,allF_snoc,hM2,hZ])
      clear hZ hM2 h1
      go_wp2_with (go_at_call 133;(with_reducible refine (turn_any _ _ M2 z rfl rfl _).mono ?_);rintro e w' ⟨rfl,rfl⟩)
      go_round
      case rel=>exact ⟨q+1,by omega,by go_num,by rw [HM2.out]⟩
      case measure=>simp [intOf];omega
     ·have hqn':n=q:=by omega
      subst hqn'
      have hl:l.take n=l:=List.take_of_length_le (by have:=HE.out;omega)
      rw [hl,← HM.out]
      clear hl h1
      go_wp2_with fail
      go_round
      case rel=>exact ⟨k+1,by omega,by go_num,rfl⟩
      case measure=>simp [intOf];omega
  ·have hkn:N=k:=by omega
   subst hkn
   have e:zss.take N=zss:=List.take_of_length_le (by have:=HL.out;have:=HN.out;omega)
   rw [e]
   clear e
   go_wp2_with fail
   go_ret
   exact ⟨rfl,rfl⟩

theorem Sl.later {w w':World} {a:Option Addr} {n:Nat} {zs:List B64} (h:Sl w a n zs) (hb:Below w.heap.size w w'):Sl w' a n zs:=by
 obtain ⟨h1,h2,h3⟩:=h
 refine ⟨h1,h2, ?_⟩
 rcases h3 with h3 | ⟨b,off,ha,hc⟩
 ·exact .inl h3
 ·refine .inr ⟨b,off,ha,fun i hi=> ?_⟩
  rw [hb.cell (World.block_lt_of_cell? w _ (hc i hi))]
  exact hc i hi

theorem all_one (b n c:Nat) (a:Option Addr) (l:List B64) (w:World) (h:w.cell? ⟨b,0,none⟩=some (.slice a n c)) (hs:Sl w a n l):
  Calls Tryz.prog 93 #[.slice (some ⟨b,0,none⟩) 1 1] w fun e w'=>e= .returned (.int .u64 (U (ofF mix l)))∧w=w':=by
 refine (all_any b 1 [(a,n,c)] [l] w rfl (by decide) (by simp) ?_ ?_).mono fun e w' h=>h
 ·intro i hi
  match i,hi with
  | 0,_=>exact h
 ·intro i hi _
  match i,hi with
  | 0,_=>exact hs
theorem of_any (a:Option Addr) (n c:Nat) (l:List B64) (w:World) (hs:Sl w a n l):
  Calls Tryz.prog 58 #[.slice a n c] w fun e w'=>e= .returned (.int .u64 (U (ofF mix l)))∧Below w.heap.size w w':=by
 have hb:=(Below.refl w.heap.size w).alloc (Nat.le_refl _) (.cells #[.slice a n c] 38)
 have hs2:=hs.later hb
 go_enter Tryz.func58,Tryz.ntmps58
 go_wp2_with fail
 refine (all_one _ n c a l _ (by simp [World.cell?_alloc_new]) hs2).mono ?_
 rintro e w' ⟨rfl,rfl⟩
 go_wp2_with fail
 go_ret
 exact ⟨rfl,hb⟩

end Go.Proofs.YtlikikpgmmkjbaaGreat.Mark
namespace Go.Proofs.YtlikikpgmmkjbaaGreat
end Go.Proofs.YtlikikpgmmkjbaaGreat
set_option linter.unusedVariables false
set_option linter.unusedSimpArgs false
namespace Go.Proofs.YtlikikpgmmkjbaaGreat.Tree
open Go.Proofs.YtlikikpgmmkjbaaGreat.Bv Go.Proofs.YtlikikpgmmkjbaaGreat.Mark

def leafF (s:List UInt8):B64:=s.foldl (fun m b=>mix (m ^^^ BitVec.ofNat 64 b.toNat)) (mix (BitVec.ofNat 64 s.length))
def rot32 (b:B64):B64:=b <<<32 ||| b >>> 32
def pairF (a b:B64):B64:=mix (mix (a ^^^ rot32 b ^^^ 1#64) ^^^ b)
def splitN (n:Nat):Nat:=2 ^ Nat.log2 (n - 1)
theorem split_lt {n:Nat} (h:2≤n):1≤splitN n∧splitN n<n∧n≤2 * splitN n:=by
 unfold splitN
 have h1:=Nat.log2_self_le (n:=n - 1) (by omega)
 have h2:=@Nat.lt_log2_self (n - 1)
 have h3:1≤2 ^ Nat.log2 (n - 1):=Nat.one_le_two_pow
 rw [Nat.pow_succ] at h2
 omega
def rootF:Nat→List (List UInt8)→B64
 | 0,_=>0#64
 | f+1,l=>match l with
  | []=>0#64
  | [s]=>leafF s
  | a::b::r=>pairF (rootF f ((a::b::r).take (splitN (r.length+2)))) (rootF f ((a::b::r).drop (splitN (r.length+2))))
def rootL (l:List (List UInt8)):B64:=rootF l.length l
theorem rootF_two (f:Nat) (l:List (List UInt8)) (h:2≤l.length):rootF (f+1) l=pairF (rootF f (l.take (splitN l.length))) (rootF f (l.drop (splitN l.length))):=by
 match l,h with
 | a::b::r,_=>rfl
theorem rootF_fuel (f g:Nat) (l:List (List UInt8)) (hf:l.length≤f) (hg:l.length≤g):rootF f l=rootF g l:=by
 induction f generalizing g l with
 | zero =>
  have:l= []:=List.eq_nil_of_length_eq_zero (by omega)
  subst this
  cases g<;>rfl
 | succ f ih =>
  cases g with
  | zero =>
   have:l= []:=List.eq_nil_of_length_eq_zero (by omega)
   subst this;rfl
  | succ g =>
   by_cases h:2≤l.length
   ·have hs:=split_lt h
    rw [rootF_two f l h,rootF_two g l h]
    rw [ih g (l.take (splitN l.length)) (by rw [List.length_take];omega) (by rw [List.length_take];omega)]
    rw [ih g (l.drop (splitN l.length)) (by rw [List.length_drop];omega) (by rw [List.length_drop];omega)]
   ·match l,h with
    | [],_=>rfl
    | [s],_=>rfl
    | a::b::r,h=>simp at h
theorem root_two (l:List (List UInt8)) (h:2≤l.length):rootL l=pairF (rootL (l.take (splitN l.length))) (rootL (l.drop (splitN l.length))):=by
 have hs:=split_lt h
 have e:rootL l=rootF ((l.length - 1)+1) l:=by unfold rootL;congr 1;omega
 rw [e,rootF_two _ l h]
 unfold rootL
 rw [rootF_fuel (l.length - 1) _ (l.take (splitN l.length)) (by rw [List.length_take];omega) (Nat.le_refl _)]
 rw [rootF_fuel (l.length - 1) _ (l.drop (splitN l.length)) (by rw [List.length_drop];omega) (Nat.le_refl _)]
end Go.Proofs.YtlikikpgmmkjbaaGreat.Tree
namespace Go.Proofs.YtlikikpgmmkjbaaGreat
end Go.Proofs.YtlikikpgmmkjbaaGreat
set_option linter.unusedVariables false
set_option linter.unusedSimpArgs false
namespace Go.Proofs.YtlikikpgmmkjbaaGreat.Tree
open Go.RowKit Go.Proofs.YtlikikpgmmkjbaaGreat Go.Proofs.YtlikikpgmmkjbaaGreat.Bv Go.Proofs.YtlikikpgmmkjbaaGreat.Mark

theorem xor_num (a b:B64):bits .xor .u64 (U a) (U b)=U (a ^^^ b):=by
 refine eq64 (bits64_nonneg _ _ _) (bits64_lt _ _ _) ?_
 rw [of_xor64,of_U,of_U]
theorem rot_num (b:B64):bits .or .u64 (IntKind.u64.wrap (U b * 4294967296)) (U b / 4294967296)=U (rot32 b):=by
 refine eq64 (bits64_nonneg _ _ _) (bits64_lt _ _ _) ?_
 have e:U b / 4294967296=U b / 2 ^ 32:=rfl
 rw [of_or64,of_wrap64,of_mul,of_U,e,of_shr (n:=64) (U b) 32 (U_nonneg b) (by have:=U64_lt b;omega),of_U]
 unfold rot32
 have e2:b * BitVec.ofInt 64 4294967296=b <<<32:=by
  apply BitVec.eq_of_toNat_eq
  have e3:(BitVec.ofInt 64 4294967296).toNat=4294967296:=by decide
  rw [BitVec.toNat_mul,BitVec.toNat_shiftLeft,e3,Nat.shiftLeft_eq]
 rw [e2]
theorem rot_any (b:B64) (w:World):Calls Tryz.prog 156 #[.int .u64 (U b), .int .i64 32] w fun e w'=>e= .returned (.int .u64 (U (rot32 b)))∧w=w':=by
 have h1:bits .and .u64 32 63=32:=by decide
 have h2:=rot_num b
 go_enter Tryz.func156,Tryz.ntmps156
 go_wp2_with fail
 go_ret
 exact ⟨rfl,rfl⟩
theorem pair_any (a b:B64) (w:World):Calls Tryz.prog 117 #[.int .u64 (U a), .int .u64 (U b)] w fun e w'=>e= .returned (.int .u64 (U (pairF a b)))∧w=w':=by
 have h1:=xor_num a (rot32 b)
 have h2:bits .xor .u64 (U (a ^^^ rot32 b)) 1=U (a ^^^ rot32 b ^^^ 1#64):=xor_num (a ^^^ rot32 b) 1#64
 have h3:=xor_num (mix (a ^^^ rot32 b ^^^ 1#64)) b
 have hr:=rot_any b
 have hm1:=mix_any _ (a ^^^ rot32 b ^^^ 1#64) rfl
 have hm2:=mix_any _ (mix (a ^^^ rot32 b ^^^ 1#64) ^^^ b) rfl
 unfold pairF
 generalize mix (mix (a ^^^ rot32 b ^^^ 1#64) ^^^ b)=z at *
 generalize mix (a ^^^ rot32 b ^^^ 1#64) ^^^ b=y at *
 generalize mix (a ^^^ rot32 b ^^^ 1#64)=x at *
 generalize a ^^^ rot32 b ^^^ 1#64=v at *
 generalize a ^^^ rot32 b=u at *
 generalize rot32 b=t at *
 go_enter Tryz.func117,Tryz.ntmps117
 go_wp2_with fail
 refine (hr _).mono ?_
 rintro e w' ⟨rfl,rfl⟩
 go_wp2_with fail
 refine (hm1 _).mono ?_
 rintro e w' ⟨rfl,rfl⟩
 go_wp2_with fail
 refine (hm2 _).mono ?_
 rintro e w' ⟨rfl,rfl⟩
 go_wp2_with fail
 go_ret
 exact ⟨rfl,rfl⟩
theorem leaf_step (l:List UInt8) (n:Nat) (b:UInt8) (m:B64):(l++ [b]).foldl (fun m b=>mix (m ^^^ BitVec.ofNat 64 b.toNat)) m=mix (l.foldl (fun m b=>mix (m ^^^ BitVec.ofNat 64 b.toNat)) m ^^^ BitVec.ofNat 64 b.toNat):=by rw [List.foldl_append];rfl
def upto (s:ByteArray) (k:Nat):B64:=(s.data.toList.take k).foldl (fun m b=>mix (m ^^^ BitVec.ofNat 64 b.toNat)) (mix (BitVec.ofNat 64 s.size))
theorem upto_succ (s:ByteArray) (k:Nat) (h:k<s.size):upto s (k+1)=mix (upto s k ^^^ BitVec.ofNat 64 s[k].toNat):=by
 unfold upto
 have hk:k<s.data.toList.length:=by simpa using h
 rw [List.take_succ_eq_append_getElem hk,leaf_step _ k]
 rfl
theorem upto_all (s:ByteArray):upto s s.size=leafF s.data.toList:=by
 unfold upto leafF
 rw [List.take_of_length_le (by simp)]
 rfl
theorem U_nat (n:Nat) (h:n<18446744073709551616):((n:Nat):Int)=U (BitVec.ofNat 64 n):=by
 unfold U
 rw [BitVec.toNat_ofNat,Nat.mod_eq_of_lt h]
theorem leaf_any (s:ByteArray) (hs:s.size≤9223372036854775807) (w:World):Calls Tryz.prog 83 #[.string s] w fun e w'=>e= .returned (.int .u64 (U (leafF s.data.toList)))∧∃ q,w'=w.drewN q:=by
 have h0:upto s 0=mix (BitVec.ofNat 64 s.size):=rfl
 have hU:=U_nat s.size (by omega)
 have hm:=mix_any _ (BitVec.ofNat 64 s.size) hU
 have hall:=Lib.hid (upto_all s)
 rw [← h0] at hm
 have H0:=Lib.hid h0
 have hw:IntKind.u64.wrap (s.size:Int)=(s.size:Int):=by rw [IntKind.wrap_u64];omega
 clear hU h0
 go_enter Tryz.func83,Tryz.ntmps83
 go_wp2_with fail
 refine (hm _).mono ?_
 rintro e w' ⟨rfl,rfl⟩
 clear hw
 go_wp2_with fail
 go_loop [3,11] (fun m i=>∃ k:Nat,k≤s.size∧i= .int .i64 (k:Int)∧m= .int .u64 (U (upto s k))) (fun _ i=>s.size - (intOf i).toNat)
 case atStart=>exact ⟨0,Nat.zero_le _,rfl,rfl⟩
 case round =>
  obtain ⟨k,hk,rfl,rfl⟩:=hrel
  by_cases hlt:k<s.size
  ·have hsu:=upto_succ s k hlt
   have hx:=xor_num (upto s k) (BitVec.ofNat 64 s[k].toNat)
   rw [← U_nat s[k].toNat (by have:=s[k].toNat_lt;omega)] at hx
   have hm:=mix_any _ (upto s k ^^^ BitVec.ofNat 64 s[k].toNat) rfl
   rw [← hsu] at hm
   have HS:=Lib.hid hsu
   clear hsu
   have hwb:IntKind.u64.wrap (s[k].toNat:Int)=(s[k].toNat:Int):=by have:=s[k].toNat_lt;rw [IntKind.wrap_u64];omega
   obtain ⟨m2,HM2⟩:∃ m2,Hid (upto s (k+1)=m2):=⟨_,Lib.hid rfl⟩
   rw [HM2.out] at hm
   clear HS
   generalize upto s k ^^^ BitVec.ofNat 64 s[k].toNat=x at *
   generalize upto s k=m1 at *
   go_wp2_with fail
   refine (hm _).mono ?_
   rintro e w' ⟨rfl,rfl⟩
   go_wp2_with fail
   go_round
   case rel=>exact ⟨k+1,by omega,by go_num,by rw [HM2.out]⟩
   case measure=>simp [intOf];omega
  ·obtain rfl:k=s.size:=by omega
   rw [hall.out]
   go_wp2_with fail
   go_ret
   exact ⟨rfl,0,rfl⟩
theorem log_len (n:Nat) (h:1≤n) (h2:n<256):Lib.bitLen n=Nat.log2 n+1:=by
 have key:∀ n:Fin 256,n.val=0∨Lib.bitLen n.val=Nat.log2 n.val+1:=by decide +kernel
 rcases key ⟨n,h2⟩ with h0 | h0
 ·simp only at h0;omega
 ·exact h0
theorem split_any (n:Nat) (h2:2≤n) (hn:n≤256) (w:World):Calls Tryz.prog 116 #[.int .i64 (n:Int)] w fun e w'=>e= .returned (.int .i64 (splitN n:Int))∧w=w':=by
 have hl:=log_len (n - 1) (by omega) (by omega)
 have hb:=Tryz.bits_Len ((n:Int) - 1)
 have hw:IntKind.u64.wrap ((n:Int) - 1)=(n:Int) - 1:=by rw [IntKind.wrap_u64];omega
 have ht:((n:Int) - 1).toNat=n - 1:=by omega
 rw [ht,hl] at hb
 have hlog:Nat.log2 (n - 1)<8:=by
  rw [Nat.log2_lt (by omega)];omega
 unfold splitN
 generalize Nat.log2 (n - 1)=k at *
 have hp:2 ^ k<9223372036854775808:=Nat.lt_of_lt_of_le (Nat.pow_lt_pow_right (a:=2) (by decide) hlog) (by decide)
 have hwp:IntKind.i64.wrap (2 ^ k:Int)=((2 ^ k:Nat):Int):=by
  have e:(2 ^ k:Int)=((2 ^ k:Nat):Int):=by simp
  rw [e]
  generalize 2 ^ k=P at hp
  exact IntWalk.i64_in _ (by omega)
 clear hl ht hp
 have hk1:((k+1:Nat):Int)=(k:Int)+1:=by omega
 rw [hk1] at hb
 go_enter Tryz.func116,Tryz.ntmps116
 go_wp2_with fail
 refine (hb _ (by omega) (by omega)).mono ?_
 rintro e w' ⟨rfl,rfl⟩
 clear hb hk1
 go_wp2_with fail
 go_ret
 exact ⟨rfl,rfl⟩
def cellsS (l:List ByteArray):List Value:=l.map Value.string
theorem cellsS_len (l:List ByteArray):(cellsS l).length=l.length:=by unfold cellsS;simp
theorem cellsS_get (l:List ByteArray) (i:Nat) (h:i<l.length):(cellsS l)[i]? =some (.string l[i]):=by unfold cellsS;simp [h]
def lists (l:List ByteArray):List (List UInt8):=l.map fun s=>s.data.toList
def Short (l:List ByteArray):Prop:=∀ s∈l,s.size≤9223372036854775807
theorem lists_len (l:List ByteArray):(lists l).length=l.length:=by unfold lists;simp
theorem Rd.cut {w:World} {b o n:Nat} {l:List ByteArray} (h:Rd w 1 (some ⟨b,o,none⟩) n (cellsS l)) (k:Nat) (hk:k≤n):
  Rd w 1 (some ⟨b,o,none⟩) k (cellsS (l.take k))∧Rd w 1 (some ⟨b,o+k,none⟩) (n - k) (cellsS (l.drop k)):=by
 have hl:l.length=n:=by have:=h.1;rw [cellsS_len] at this;omega
 refine ⟨⟨by rw [cellsS_len,List.length_take];omega,fun h0=> ?_⟩,⟨by rw [cellsS_len,List.length_drop];omega,fun h0=> ?_⟩⟩
 ·obtain ⟨b',o',e,hc⟩:=h.2 (by omega)
  refine ⟨b',o',e,fun j u hu=>hc j u ?_⟩
  unfold cellsS at hu ⊢
  rw [List.getElem?_map,List.getElem?_take] at hu
  rw [List.getElem?_map]
  split at hu
  ·exact hu
  ·cases hu
 ·obtain ⟨b',o',e,hc⟩:=h.2 (by omega)
  injection e with e
  injection e with e1 e2
  subst e1;subst e2
  refine ⟨b,o+k,rfl,fun j u hu=> ?_⟩
  rw [Nat.add_assoc]
  refine hc (k+j) u ?_
  unfold cellsS at hu ⊢
  rw [List.getElem?_map,List.getElem?_drop] at hu
  rw [List.getElem?_map]
  exact hu
theorem quiet_more {P:Program} {f:FuncId} {args:Array Value} {w:World} {n:Nat} {v:Value}
  (h:Calls P f args (w.drewN n) fun e w'=>e= .returned v∧∃ q,w'=(w.drewN n).drewN q):Calls P f args (w.drewN n) fun e w''=>e= .returned v∧∃ m,w''=w.drewN m :=
 h.mono fun _ _ ⟨he,q,hm⟩=>⟨he,n+q,by rw [hm];simp⟩
theorem root_any (f:Nat):∀ (A:Option Addr) (n c:Nat) (l:List ByteArray) (w:World),n≤f→n≤256→n≤c→c≤9223372036854775807→Short l→Rd w 1 A n (cellsS l)→
  Calls Tryz.prog 81 #[.slice A n c] w fun e w'=>e= .returned (.int .u64 (U (rootL (lists l))))∧∃ q,w'=w.drewN q:=by
 induction f with
 | zero =>
  intro A n c l w hf h256 hnc hc hs hr
  obtain rfl:n=0:=by omega
  have hl:l= []:=List.eq_nil_of_length_eq_zero (by have:=hr.1;rw [cellsS_len] at this;omega)
  subst hl
  go_enter Tryz.func81,Tryz.ntmps81
  go_wp2_with fail
  go_ret
  exact ⟨rfl,0,rfl⟩
 | succ f ih =>
  intro A n c l w hf h256 hnc hc hs hr
  have hl:l.length=n:=by have:=hr.1;rw [cellsS_len] at this;omega
  by_cases h0:n=0
  ·subst h0
   have hl:l= []:=List.eq_nil_of_length_eq_zero hl
   subst hl
   go_enter Tryz.func81,Tryz.ntmps81
   go_wp2_with fail
   go_ret
   exact ⟨rfl,0,rfl⟩
  ·by_cases h1:n=1
   ·subst h1
    obtain ⟨b,o,rfl,hc⟩:=hr.2 (by omega)
    obtain ⟨s,rfl⟩:∃ s,l= [s]:=by
     match l,hl with
     | [s],_=>exact ⟨s,rfl⟩
    have hx:=hc 0 _ rfl
    have hleaf:=leaf_any s (hs s (by simp)) w
    rw [show rootL (lists [s])=leafF s.data.toList from rfl]
    simp only [Nat.add_zero] at hx
    generalize leafF s.data.toList=z at *
    clear hc ih hr hl h0
    go_enter Tryz.func81,Tryz.ntmps81
    go_wp2_with fail
    refine hleaf.mono ?_
    rintro e w' ⟨rfl,q,rfl⟩
    go_wp2_with fail
    go_ret
    exact ⟨rfl,q,rfl⟩
   ·obtain ⟨b,o,rfl,_⟩:=hr.2 (by omega)
    have h2:2≤n:=by omega
    have hsp:=split_lt h2
    have hspl:=split_any n h2 h256 w
    have htwo:=root_two (lists l) (by rw [lists_len,hl];exact h2)
    rw [lists_len,hl] at htwo
    have hcut:=Rd.cut hr (splitN n) (by omega)
    have ht:lists (l.take (splitN n))=(lists l).take (splitN n):=by unfold lists;rw [List.map_take]
    have hd:lists (l.drop (splitN n))=(lists l).drop (splitN n):=by unfold lists;rw [List.map_drop]
    have c1:=fun a=>ih (some ⟨b,o,none⟩) (splitN n) c (l.take (splitN n)) (w.drewN a) (by omega) (by omega) (by omega) hc (fun s h=>hs s (List.mem_of_mem_take h)) (hcut.1.drewN a)
    have c2:=fun a=>ih (some ⟨b,o+splitN n,none⟩) (n - splitN n) (c - splitN n) (l.drop (splitN n)) (w.drewN a) (by omega) (by omega) (by omega) (by omega) (fun s h=>hs s (List.mem_of_mem_drop h)) (hcut.2.drewN a)
    rw [htwo]
    rw [ht] at c1
    rw [hd] at c2
    have hp:=pair_any (rootL ((lists l).take (splitN n))) (rootL ((lists l).drop (splitN n)))
    generalize pairF (rootL ((lists l).take (splitN n))) (rootL ((lists l).drop (splitN n)))=z at *
    generalize rootL ((lists l).take (splitN n))=x at *
    generalize rootL ((lists l).drop (splitN n))=y at *
    clear htwo ht hd hcut ih hr hl h0 h1
    generalize splitN n=m at *
    have hz0:((n:Int)== 0)=false:=by rw [beq_eq_false_iff_ne];omega
    have hz1:((n:Int)== 1)=false:=by rw [beq_eq_false_iff_ne];omega
    go_enter Tryz.func81,Tryz.ntmps81
    go_wp2_with fail
    refine hspl.mono ?_
    rintro e w' ⟨rfl,rfl⟩
    go_wp2_with fail
    go_quiet ((first | (go_at_call 81;first | (with_reducible exact quiet_more (c1 _)) | (with_reducible exact quiet_more (c2 _))) | (go_at_call 117;exact quiet_of (hp _))))
    go_wp2_with fail
    go_ret
    exact ⟨rfl,_,rfl⟩
end Go.Proofs.YtlikikpgmmkjbaaGreat.Tree
namespace Go.Proofs.YtlikikpgmmkjbaaGreat
end Go.Proofs.YtlikikpgmmkjbaaGreat
namespace Go.Proofs.YtlikikpgmmkjbaaGreat.Pack
open Go.Proofs.YtlikikpgmmkjbaaGreat.Bv
def putF:Nat→Nat→List UInt8
  | 0,n=> [UInt8.ofNat n]
  | k+1,n=>if n<128 then [UInt8.ofNat n] else UInt8.ofNat (n % 128+128)::putF k (n / 128)
def putL (n:Nat):List UInt8:=putF 9 n
def val:List UInt8→Nat
  | []=>0
  | b::l=>b.toNat % 128+128 * val l

theorem putF_lt {k n:Nat} (h:n<128):putF k n= [UInt8.ofNat n]:=by
  cases k with
  | zero=>rfl
  | succ k=>unfold putF;rw [if_pos h]
theorem putF_ge {k n:Nat} (h:¬ n<128):putF (k+1) n=UInt8.ofNat (n % 128+128)::putF k (n / 128):=by
  rw [putF];rw [if_neg h]
theorem putF_len (k n:Nat):(putF k n).length≤k+1∧1≤(putF k n).length:=by
  induction k generalizing n with
  | zero=>simp [putF]
  | succ k ih =>
    by_cases h:n<128
    · rw [putF_lt h];simp
    · rw [putF_ge h];have:=ih (n / 128);simp;omega
theorem putL_len (n:Nat):(putL n).length≤10∧1≤(putL n).length:=putF_len 9 n

theorem pow_lt_div {n k:Nat} (h:n<128 ^ (k+2)):n / 128<128 ^ (k+1):=by
  rw [Nat.pow_succ] at h
  exact Nat.div_lt_of_lt_mul (by rw [Nat.mul_comm];exact h)
theorem val_putF (k n:Nat) (h:n<128 ^ (k+1)):val (putF k n)=n:=by
  induction k generalizing n with
  | zero =>
    have h1:n<128:=by simpa using h
    simp only [putF,val,UInt8.toNat_ofNat']
    omega
  | succ k ih =>
    by_cases h1:n<128
    · rw [putF_lt h1]
      simp only [val,UInt8.toNat_ofNat']
      omega
    · rw [putF_ge h1]
      simp only [val,UInt8.toNat_ofNat']
      rw [ih (n / 128) (pow_lt_div h)]
      omega
theorem lt_pow {n:Nat} (h:n<18446744073709551616):n<128 ^ (9+1):=Nat.lt_of_lt_of_le h (by decide)
theorem val_putL (n:Nat) (h:n<18446744073709551616):val (putL n)=n:=val_putF 9 n (lt_pow h)
theorem putF_high (k n i:Nat) (hn:n<128 ^ (k+1)) (h:i+1<(putF k n).length) (hi:i<(putF k n).length):128≤((putF k n)[i]).toNat:=by
  induction k generalizing n i with
  | zero=>simp [putF] at h
  | succ k ih =>
    by_cases h1:n<128
    · simp [putF_lt h1] at h
    · simp only [putF_ge h1] at h hi ⊢
      cases i with
      | zero=>simp only [List.getElem_cons_zero,UInt8.toNat_ofNat'];omega
      | succ i =>
        simp only [List.getElem_cons_succ]
        exact ih (n / 128) i (pow_lt_div hn) (by simpa using h) (by simpa using hi)
theorem putF_last (k n:Nat) (hn:n<128 ^ (k+1)) (i:Nat) (hi:i<(putF k n).length) (hl:i+1=(putF k n).length):((putF k n)[i]).toNat<128:=by
  induction k generalizing n i with
  | zero =>
    have h1:n<128:=by simpa using hn
    simp only [putF,List.getElem_singleton,UInt8.toNat_ofNat']
    omega
  | succ k ih =>
    by_cases h1:n<128
    · simp only [putF_lt h1,List.getElem_singleton,UInt8.toNat_ofNat']
      omega
    · simp only [putF_ge h1] at hl hi ⊢
      cases i with
      | zero =>
        have h2:=(putF_len k (n / 128)).2
        rw [List.length_cons] at hl
        omega
      | succ i =>
        simp only [List.getElem_cons_succ]
        exact ih (n / 128) (pow_lt_div hn) i (by simpa using hi) (by simpa using hl)
theorem val_snoc (l:List UInt8) (b:UInt8):val (l++ [b])=val l+128 ^ l.length * (b.toNat % 128):=by
  induction l with
  | nil=>simp [val]
  | cons x l ih =>
    simp only [List.cons_append,val,ih,List.length_cons,Nat.pow_succ]
    rw [Nat.mul_add,← Nat.mul_assoc,Nat.mul_comm 128 (128 ^ l.length)]
    omega
theorem val_lt (l:List UInt8):val l<128 ^ l.length:=by
  induction l with
  | nil=>simp [val]
  | cons x l ih =>
    simp only [val,List.length_cons,Nat.pow_succ]
    omega
def GetIs (l:List UInt8) (n:Nat) (rest:List UInt8) (e:Int):Prop :=
  (∃ k,k<10∧k<l.length∧(∀ i (h:i<l.length),i<k→128≤l[i].toNat)∧(∀ h:k<l.length,l[k].toNat<128)∧
    ((putL (val (l.take (k+1)) % 18446744073709551616)=l.take (k+1)∧n=val (l.take (k+1)) % 18446744073709551616∧rest=l.drop (k+1)∧e=0)∨
     (putL (val (l.take (k+1)) % 18446744073709551616)≠l.take (k+1)∧n=0∧rest= []∧e=4)))∨
  (l.length<10∧(∀ i (h:i<l.length),128≤l[i].toNat)∧n=0∧rest= []∧e=3)∨
  (10≤l.length∧(∀ i (h:i<l.length),i<10→128≤l[i].toNat)∧n=0∧rest= []∧e=4)
def foldN (x:Int):Nat:=if 0≤x then (2 * x).toNat else (-2 * x - 1).toNat
end Go.Proofs.YtlikikpgmmkjbaaGreat.Pack
namespace Go.Proofs.YtlikikpgmmkjbaaGreat
end Go.Proofs.YtlikikpgmmkjbaaGreat
set_option linter.unusedVariables false
set_option linter.unusedSimpArgs false
namespace Go.Proofs.YtlikikpgmmkjbaaGreat.Pack
open Go.RowKit Go.Proofs.YtlikikpgmmkjbaaGreat.Bv

theorem infoU8:(Tryz.prog.info? 5).map (fun i=>(i.zero,i.size,i.bytes))=some (some (.int .u8 0),1,1):=by kernel_rfl
def cells (l:List UInt8):List Value:=l.map fun b=>Value.int .u8 (b.toNat:Int)
theorem cells_snoc (l:List UInt8) (b:UInt8):cells (l++ [b])=cells l++ [Value.int .u8 (b.toNat:Int)]:=by unfold cells;simp
theorem cells_get (l:List UInt8) (i:Nat) (h:i<l.length):(cells l)[i]? =some (.int .u8 (l[i].toNat:Int)):=by unfold cells;simp [h]
def strOf (l:List UInt8):ByteArray:=⟨l.toArray⟩
theorem strOf_size (l:List UInt8):(strOf l).size=l.length:=by
 show l.toArray.size=_
 simp
theorem strOf_list (l:List UInt8):(strOf l).data.toList=l:=rfl

theorem or128 (n:Nat):bits BinOp.or IntKind.u8 ((n:Int) % 256) 128=(((UInt8.ofNat (n % 128+128)).toNat:Nat):Int):=by
 have e:((n:Int) % 256)=((n % 256:Nat):Int):=by omega
 have h1:n % 256<256:=Nat.mod_lt _ (by decide)
 have key:∀ x:Fin 256,(x.val ||| 128)=x.val % 128+128:=by decide +kernel
 have h2:=key ⟨n % 256,h1⟩
 simp only at h2
 rw [e,show (128:Int)=((128:Nat):Int) from rfl,(bits_nat .u8 8 (by decide) wraps_u8 _ _ (by omega) (by decide)).2,h2]
 simp only [UInt8.toNat_ofNat']
 omega

theorem conv_bytes (w:World) (base g n cap:Nat) (l:List UInt8) (hn:n=l.length) (h:w.ownsRow base 5 1 (.slice (some ⟨g,0,none⟩) n cap) n (cells l)):
  (convert 76 9 (.slice (some ⟨g,0,none⟩) n cap)).run Tryz.prog w= .ok (.string (strOf l)) w:=by
 subst hn
 refine run_convert_bytes_back (P:=Tryz.prog) w 76 9 5 ⟨g,0,none⟩ cap l Tryz.underlying76 Tryz.underlying5 Tryz.underlying9 ?_
 intro j hj
 rw [add0,h.cellAt j (by omega),cells_get l j hj]

theorem put_any (n:Nat) (hn:n<18446744073709551616) (x:Int) (hx:x=n) (w:World):
  Calls Tryz.prog 130 #[.int .u64 x] w fun e w'=>e= .returned (.string (strOf (putL n)))∧Below w.heap.size w w':=by
 subst hx
 obtain ⟨i0,hi,hz0,hz1,hz2⟩:=info_parts infoU8
 have HN:=Lib.hid (lt_pow hn)
 clear hn
 go_enter Tryz.func130,Tryz.ntmps130
 go_wp2_with fail
 go_loopw [0,3] (fun x v wr=>∃ (k m:Nat) (acc:List UInt8),k≤9∧x= .int .u64 (m:Int)∧Hid (m<128 ^ (k+1))∧Hid (acc++putF k m=putL n)∧wr.ownsRow w.heap.size 5 1 v acc.length (cells acc)∧Below w.heap.size w wr) (fun x _ _=>(intOf x).toNat)
 case atStart=>exact ⟨9,n, [],Nat.le_refl _,rfl,HN,rfl,World.ownsRow_nil _ _ _ _,Below.refl _ _⟩
 case round =>
  obtain ⟨k,m,acc,hk,rfl,HM,HA,hown,hb⟩:=hrel
  by_cases hlt:128≤m
  ·obtain ⟨k',rfl⟩:∃ k',k=k'+1:=by
    cases k with
    | zero=>have:=HM.out;simp at this;omega
    | succ k'=>exact ⟨k',rfl⟩
   obtain ⟨b,HB⟩:∃ b,Hid (b=UInt8.ofNat (m % 128+128)):=⟨_,Lib.hid rfl⟩
   have hor:=or128 m
   rw [← HB.out] at hor
   have HA2:Hid ((acc++ [b])++putF k' (m / 128)=putL n):=by
    show _=_
    rw [← HA.out,putF_ge (by omega),← HB.out,List.append_assoc];rfl
   have HM2:Hid (m / 128<128 ^ (k'+1)):=pow_lt_div HM.out
   have hal:acc.length≤9:=by
    have h1:=(putL_len n).1
    have h2:=congrArg List.length HA2.out
    have h3:=(putF_len k' (m / 128)).2
    simp at h2
    omega
   have hbA:=hb.alloc hb.size (.cells #[.int .u8 (b.toNat:Int)] 5)
   go_wp2_with (at_builtin;refine wpList_append_own _ rfl _ _ 76 rfl w.heap.size 5 i0 (.int .u8 0) 1 1 Tryz.underlying76 hi hz0 hz1 hz2 rfl (by decide) _ acc.length (cells acc) rfl (hown.alloc _) ⟨wr.heap.size,0,none⟩ 1 1 [.int .u8 (b.toNat:Int)] rfl rfl ?d1 ?d2 ?d3 ?d4 ?d5 ?_)
   case d1 =>
    intro j u hj
    match j,hj with
    | 0,hj=>simp at hj;subst hj;simp [Addr.add]
   case d2=>intro u hu;simp at hu;subst hu;rfl
   case d3=>unfold maxLen;omega
   case d4=>omega
   case d5=>have:=hb.size;simp;omega
   intro v' w1 hown' hgrow _
   have hb1:=hbA.grown hgrow (by have:=hb.size;simp;omega) (fun q hq=>(hown.lt q hq).1)
   rw [← cells_snoc,show acc.length+1=(acc++ [b]).length by simp] at hown'
   clear hgrow hown hbA hb
   go_wp2_with fail
   go_roundw
   case rel=>exact ⟨k',m / 128,acc++ [b],by omega,by go_num,HM2,HA2,hown',hb1⟩
   case measure=>simp [intOf];omega
  ·have ha:acc++ [UInt8.ofNat m]=putL n:=by rw [← HA.out,putF_lt (by omega)]
   have hm8:(UInt8.ofNat m).toNat=m:=by rw [UInt8.toNat_ofNat'];omega
   have hal:acc.length≤9:=by
    have h1:=(putL_len n).1
    have h2:=congrArg List.length ha
    simp at h2
    omega
   have H8:=Lib.hid hm8
   have HA2:=Lib.hid ha
   have hbA:=hb.alloc hb.size (.cells #[.int .u8 (m:Int)] 5)
   clear ha hm8
   go_wp2_with (at_builtin;refine wpList_append_own _ rfl _ _ 76 rfl w.heap.size 5 i0 (.int .u8 0) 1 1 Tryz.underlying76 hi hz0 hz1 hz2 rfl (by decide) _ acc.length (cells acc) rfl (hown.alloc _) ⟨wr.heap.size,0,none⟩ 1 1 [.int .u8 (m:Int)] rfl rfl ?c1 ?c2 ?c3 ?c4 ?c5 ?_)
   case c1 =>
    intro j u hj
    match j,hj with
    | 0,hj=>simp at hj;subst hj;simp [Addr.add]
   case c2=>intro u hu;simp at hu;subst hu;rfl
   case c3=>unfold maxLen;omega
   case c4=>omega
   case c5=>have:=hb.size;simp;omega
   intro v' w1 hown' hgrow _
   have hb1:=hbA.grown hgrow (by have:=hb.size;simp;omega) (fun q hq=>(hown.lt q hq).1)
   have hcc:cells acc++ [Value.int .u8 (m:Int)]=cells (putL n):=by rw [← HA2.out,cells_snoc,H8.out]
   have hlen:acc.length+1=(putL n).length:=by rw [← HA2.out];simp
   rw [hcc,hlen] at hown'
   have hex:∃ g cap,v'= .slice (some ⟨g,0,none⟩) (putL n).length cap:=by
    rcases hown'.2 with ⟨_,h⟩ | ⟨g,cap,cur,h,_⟩
    ·omega
    ·exact ⟨g,cap,h⟩
   obtain ⟨g,cap,hv⟩:=hex
   rw [hv] at hown' ⊢
   have hcv:=conv_bytes w1 _ g _ cap (putL n) rfl hown'
   clear hv hgrow hown hbA hb hcc hlen hown'
   go_wp2_with fail
   go_ret
   exact ⟨rfl,hb1⟩

theorem ret_u64 {a b:Int} (h:a=b):Ending.returned (.int .u64 a)= .returned (.int .u64 b):=by rw [h]
theorem xor_ones (n:Nat) (h:n<18446744073709551616):n ^^^ 18446744073709551615=18446744073709551615 - n:=by
 have e:(BitVec.ofNat 64 n ^^^ BitVec.allOnes 64).toNat=(~~~(BitVec.ofNat 64 n)).toNat:=by rw [BitVec.xor_allOnes]
 rw [BitVec.toNat_xor,BitVec.toNat_not,BitVec.toNat_ofNat,BitVec.toNat_allOnes,Nat.mod_eq_of_lt h] at e
 exact e
theorem fold_any (x:Int) (h0: -9223372036854775808≤x) (h1:x≤9223372036854775807) (w:World):
  Calls Tryz.prog 131 #[.int .i64 x] w fun e w'=>e= .returned (.int .u64 (foldN x))∧w=w':=by
 by_cases hx:0≤x
 ·go_enter Tryz.func131,Tryz.ntmps131
  go_wp2
  go_ret
  refine ⟨ret_u64 ?_,rfl⟩
  have e:x / 9223372036854775808=((0:Nat):Int):=by omega
  obtain ⟨m,rfl⟩:=Int.eq_ofNat_of_zero_le hx
  rw [e,show ((m:Int) * 2)=((m * 2:Nat):Int) by omega,u64_xor_nat _ _ (by omega) (by omega),Nat.xor_zero]
  unfold foldN
  rw [if_pos hx]
  omega
 ·go_enter Tryz.func131,Tryz.ntmps131
  go_wp2
  go_ret
  refine ⟨ret_u64 ?_,rfl⟩
  have hx':¬ 0≤x:=by omega
  have e:IntKind.u64.wrap (x / 9223372036854775808)=((18446744073709551615:Nat):Int):=by rw [IntKind.wrap_u64];omega
  have e2:IntKind.u64.wrap (IntKind.u64.wrap x * 2)=(((2 * x+18446744073709551616).toNat:Nat):Int):=by rw [IntKind.wrap_u64,IntKind.wrap_u64];omega
  rw [e,e2,u64_xor_nat _ _ (by omega) (by omega)]
  unfold foldN
  rw [if_neg hx']
  have e3:(2 * x+18446744073709551616).toNat ^^^ 18446744073709551615=18446744073709551615 - (2 * x+18446744073709551616).toNat:=by
   exact xor_ones _ (by omega)
  rw [e3]
  omega

theorem wraps_u64 (n:Int) (h₀:0≤n) (h₁:n<2 ^ 64):IntKind.u64.wrap n=n:=by rw [IntKind.wrap_u64];omega
theorem and127 (b:UInt8):bits BinOp.and IntKind.u8 (b.toNat:Int) 127=((b.toNat % 128:Nat):Int):=by
 have h:=bits_mask .u8 8 (by decide) wraps_u8 7 (by decide) (b.toNat:Int) (Int.natCast_nonneg _) (by have:=b.toNat_lt;omega)
 simpa using h
theorem step_num (l:List UInt8) (b:UInt8) (k:Nat) (hk:k=l.length) (hk9:k≤9):
  bits BinOp.or IntKind.u64 ((val l % 18446744073709551616:Nat):Int) (((b.toNat % 128:Nat):Int) * 2 ^ (7 * k) % 18446744073709551616)=((val (l++ [b]) % 18446744073709551616:Nat):Int):=by
 subst hk
 have hp:(128:Nat) ^ l.length=2 ^ (7 * l.length):=by rw [show (128:Nat)=2 ^ 7 from rfl,← Nat.pow_mul]
 have hv:=val_lt l
 have hle:(128:Nat) ^ l.length≤128 ^ 9:=Nat.pow_le_pow_right (by decide) hk9
 have hv2:val l<18446744073709551616:=Nat.lt_of_lt_of_le hv (Nat.le_trans hle (by decide))
 rw [val_snoc,Nat.mod_eq_of_lt hv2,hp]
 have hb:b.toNat % 128<128:=Nat.mod_lt _ (by decide)
 generalize b.toNat % 128=d at *
 obtain ⟨r,hr⟩:∃ r,64=7 * l.length+r:=⟨64 - 7 * l.length,by omega⟩
 have e64:18446744073709551616=2 ^ (7 * l.length) * 2 ^ r:=by rw [← Nat.pow_add,← hr]
 have e1:((d:Int) * 2 ^ (7 * l.length) % 18446744073709551616)=((2 ^ (7 * l.length) * (d % 2 ^ r):Nat):Int):=by
  rw [← Nat.mul_mod_mul_left,← e64,Int.natCast_emod,Int.natCast_mul,Int.natCast_pow,Int.mul_comm]
  rfl
 rw [hp] at hv
 have h2:2 ^ (7 * l.length) * (d % 2 ^ r)<18446744073709551616:=by
  rw [e64]
  exact Nat.mul_lt_mul_of_pos_left (Nat.mod_lt _ (Nat.two_pow_pos _)) (Nat.two_pow_pos _)
 have e2:(val l+2 ^ (7 * l.length) * d) % 18446744073709551616=2 ^ (7 * l.length) * (d % 2 ^ r)+val l:=by
  rw [e64,Nat.mod_mul,Nat.add_mul_mod_self_left,Nat.mod_eq_of_lt hv,Nat.add_mul_div_left _ _ (Nat.two_pow_pos _),Nat.div_eq_of_lt hv,Nat.zero_add,Nat.add_comm]
 rw [e1,e2,(bits_nat .u64 64 (by decide) wraps_u64 _ _ hv2 h2).2]
 rw [Nat.two_pow_add_eq_or_of_lt hv,Nat.or_comm]

theorem ret_get {a a':Int} {b b':ByteArray} {c c':Int} (h1:a=a') (h2:b=b') (h3:c=c'):Ending.returned (.tuple #[.int .u64 a, .string b, .int .i64 c])= .returned (.tuple #[.int .u64 a', .string b', .int .i64 c']):=by rw [h1,h2,h3]
def GetPost (l:List UInt8) (w:World) (e:Ending) (w':World):Prop :=
 ∃ (n:Nat) (rest:List UInt8) (k:Int),GetIs l n rest k∧e= .returned (.tuple #[.int .u64 (n:Int), .string (strOf rest), .int .i64 k])∧Below w.heap.size w w'

theorem get_any (s:ByteArray) (hs:s.size≤9223372036854775807) (w:World):Calls Tryz.prog 119 #[.string s] w (GetPost s.data.toList w):=by
 go_enter Tryz.func119,Tryz.ntmps119
 go_wp2_with fail
 go_loopw [5,6] (fun v i wr=>∃ k:Nat,k≤s.size∧k≤10∧i= .int .i64 k∧v= .int .u64 ((val (s.data.toList.take k) % 18446744073709551616:Nat):Int)∧Hid (∀ i (h:i<s.data.toList.length),i<k→128≤(s.data.toList[i]).toNat)∧Below w.heap.size w wr) (fun _ i _=>s.size - (intOf i).toNat)
 case atStart=>exact ⟨0,Nat.zero_le _,Nat.zero_le _,rfl,rfl,fun i h h2=>absurd h2 (by omega),Below.refl _ _⟩
 case round =>
  obtain ⟨k,hk,hk10,rfl,rfl,HH,hb⟩:=hrel
  by_cases hlt:k<s.size
  ·by_cases h10:k<10
   ·have hkl:k<s.data.toList.length:=by simpa using hlt
    have hsk:s[k]=s.data.toList[k]:=rfl
    have hst:=step_num (s.data.toList.take k) s[k] k (by simp;omega) (by omega)
    rw [hsk,← List.take_succ_eq_append_getElem hkl,← hsk] at hst
    have EX:bits BinOp.or IntKind.u64 ((val (s.data.toList.take k) % 18446744073709551616:Nat):Int) (IntKind.u64.wrap (IntKind.u64.wrap (bits BinOp.and IntKind.u8 (s[k].toNat:Int) 127) * 2 ^ (7 * k)))=((val (s.data.toList.take (k+1)) % 18446744073709551616:Nat):Int):=by
     rw [← hst,and127,IntKind.wrap_u64,IntKind.wrap_u64]
     congr 3
     omega
    obtain ⟨M',HM'⟩:∃ M',Hid (val (s.data.toList.take (k+1)) % 18446744073709551616=M'):=⟨_,Lib.hid rfl⟩
    have hM':M'<18446744073709551616:=by rw [← HM'.out];exact Nat.mod_lt _ (by decide)
    rw [HM'.out] at EX
    generalize val (s.data.toList.take k) % 18446744073709551616=M at EX ⊢
    have HB:=Lib.hid hM'
    clear hsk hst hM'
    by_cases h128:128≤s[k].toNat
    ·go_wp2_with fail
     go_roundw
     case rel =>
      refine ⟨k+1,by omega,by omega,by go_num,by rw [HM'.out], ?_,hb⟩
      intro i h hi
      by_cases hik:i=k
      ·subst hik;exact h128
      ·exact HH.out i h (by omega)
     case measure=>simp [intOf];omega
    ·have hk1:k+1≤s.size:=hlt
     have hk2:(0:Int)≤(k:Int)+1:=by omega
     have hk3:(k:Int)+1≤(s.size:Int):=by omega
     have hk4:IntKind.i64.wrap ((k:Int)+1)=(k:Int)+1:=IntWalk.i64_in _ (by omega)
     have hk5:((k:Int)+1).toNat=k+1:=by omega
     by_cases hp:putL M'=s.data.toList.take (k+1)
     ·have hq:((strOf (putL M')).toList == (s.extract 0 (k+1)).toList)=true:=bytes_true (bytes_ext (by rw [strOf_list,Lib.extract_data,List.drop_zero,hp];rfl))
      have HP:=Lib.hid hp
      clear hp
      go_wp2_with fail
      go_region_held3 (fun wx=>Below w.heap.size w wx) (first | exact hb.drew | exact hb.drew.trans (by assumption) | assumption) ((go_at_call 130;refine (put_any M' HB.out _ rfl _).mono ?_;rintro e w' ⟨rfl,hb2⟩;have hb3:=hb.drew.trans (hb2.mono hb.size)))
      clear hb hb2 hq
      go_wp2_with fail
      go_quiet (fail)
      go_wp2_with fail
      go_ret3
      refine ⟨M',s.data.toList.drop (k+1),0, .inl ⟨k,h10,hkl,HH.out,fun _=>by have:=h128;show s[k].toNat<128;omega, .inl ⟨by rw [HM'.out];exact HP.out,HM'.out.symm,rfl,rfl⟩⟩,ret_get rfl (bytes_ext ?_) rfl,below_drewN (by assumption) _⟩
      rw [strOf_list,Lib.extract_data,List.take_of_length_le (by simp)]
     ·have hq:((strOf (putL M')).toList == (s.extract 0 (k+1)).toList)=false:=bytes_false (fun h=>hp (by
       have h2:=congrArg (fun x:ByteArray=>x.data.toList) h
       simp only [strOf_list,Lib.extract_data,List.drop_zero] at h2
       exact h2))
      have HP:=Lib.hid hp
      clear hp
      go_wp2_with fail
      go_region_held3 (fun wx=>Below w.heap.size w wx) (first | exact hb.drew | exact hb.drew.trans (by assumption) | assumption) ((go_at_call 130;refine (put_any M' HB.out _ rfl _).mono ?_;rintro e w' ⟨rfl,hb2⟩;have hb3:=hb.drew.trans (hb2.mono hb.size)))
      clear hb hb2 hq
      go_wp2_with fail
      go_ret3
      exact ⟨0, [],4, .inl ⟨k,h10,hkl,HH.out,fun _=>by have:=h128;show s[k].toNat<128;omega, .inr ⟨by rw [HM'.out];exact HP.out,rfl,rfl,rfl⟩⟩,ret_get rfl rfl rfl,by assumption⟩
   ·have hk10':k=10:=by omega
    subst hk10'
    have hlen:¬ (s.size:Int)<10:=by omega
    go_wp2_with fail
    go_ret3
    exact ⟨0, [],4, .inr (.inr ⟨by simp;have e:s.data.size=s.size:=rfl;omega,fun i h hi=>HH.out i h hi,rfl,rfl,rfl⟩),ret_get rfl rfl rfl,hb⟩
  ·have hks:k=s.size:=by omega
   have hall:∀ i (h:i<s.data.toList.length),i<k:=by
    intro i h
    have e:s.data.toList.length=s.size:=by simp
    omega
   have e:s.data.toList.length=s.size:=by simp
   by_cases h10:s.size<10
   ·have HE:=Lib.hid e
    have HA:=Lib.hid hall
    have HK:=Lib.hid hks
    clear e hall hks
    have hlen:(s.size:Int)<10:=by omega
    have hge:(s.size:Int)≤(k:Int):=by omega
    go_wp2_with fail
    go_ret3
    exact ⟨0, [],3, .inr (.inl ⟨by have:=HE.out;omega,fun i h=>HH.out i h (HA.out i h),rfl,rfl,rfl⟩),ret_get rfl rfl rfl,hb⟩
   ·have HE:=Lib.hid e
    have HA:=Lib.hid hall
    have HK:=Lib.hid hks
    clear e hall hks
    have hlen:¬ (s.size:Int)<10:=by omega
    have hge:(s.size:Int)≤(k:Int):=by omega
    go_wp2_with fail
    go_ret3
    exact ⟨0, [],4, .inr (.inr ⟨by have:=HE.out;omega,fun i h hi=>HH.out i h (HA.out i h),rfl,rfl,rfl⟩),ret_get rfl rfl rfl,hb⟩
end Go.Proofs.YtlikikpgmmkjbaaGreat.Pack
namespace Go.Proofs.YtlikikpgmmkjbaaGreat
section
open Go.RowKit
def cellsI (l:List Int):List Value:=l.map (Value.int .i64)
theorem cellsI_get (l:List Int) (i:Nat) (h:i<l.length):(cellsI l)[i]? =some (.int .i64 l[i]):=by unfold cellsI;simp [h]
theorem cellsI_snoc (l:List Int) (x:Int):cellsI (l++ [x])=cellsI l++ [.int .i64 x]:=by unfold cellsI;simp
def GI (_:Nat) (u:Value):Prop:=∃ n:Int,u= .int .i64 n
theorem infoI64:(Tryz.prog.info? 3).map (fun i=>(i.zero,i.size,i.bytes))=some (some (.int .i64 0),1,8):=by kernel_rfl
def I64 (l:List Int):Prop:=∀ x∈l, -9223372036854775808≤x∧x≤9223372036854775807
end
end Go.Proofs.YtlikikpgmmkjbaaGreat
