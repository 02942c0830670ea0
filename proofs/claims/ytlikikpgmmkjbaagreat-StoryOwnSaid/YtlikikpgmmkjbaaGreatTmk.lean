import Derived.Test.YtlikikpgmmkjbaaGreatInts
import Derived.Test.YtlikikpgmmkjbaaGreatTcP
set_option linter.unusedVariables false
set_option linter.unusedSimpArgs false
set_option maxRecDepth 100000
set_option maxHeartbeats 4000000
namespace Go.Proofs.YtlikikpgmmkjbaaGreat
open Tryz
end Go.Proofs.YtlikikpgmmkjbaaGreat
set_option linter.unusedVariables false
set_option linter.unusedSimpArgs false
namespace Go.Proofs.YtlikikpgmmkjbaaGreat.Pack
open Tryz
open Go.Proofs.YtlikikpgmmkjbaaGreat Go.Proofs.YtlikikpgmmkjbaaGreat.hO

theorem arO (k x y:Nat) (u v:List UInt8) (hx:x<128 ^ (k+1)) (aG:y<128 ^ (k+1)) (h:iI k x++u=iI k y++v):x=y∧u=v:=by
 induction k generalizing x y with
 | zero =>
  simp only [iI,List.singleton_append,List.cons.injEq] at h;have:=congrArg UInt8.toNat h.1;simp only [UInt8.toNat_ofNat'] at this;simp at hx aG;exact ⟨by omega,h.2⟩
 | succ k bk =>
  by_cases γ:x<128
  ·by_cases aa:y<128
   ·rw [xH γ,xH aa] at h;simp only [List.singleton_append,List.cons.injEq] at h;have:=congrArg UInt8.toNat h.1;simp only [UInt8.toNat_ofNat'] at this;exact ⟨by omega,h.2⟩
   ·rw [xH γ,xG aa] at h;simp only [List.cons_append,List.cons.injEq] at h;have:=congrArg UInt8.toNat h.1;simp only [UInt8.toNat_ofNat'] at this;omega
  ·by_cases aa:y<128
   ·rw [xG γ,xH aa] at h;simp only [List.cons_append,List.cons.injEq] at h;have:=congrArg UInt8.toNat h.1;simp only [UInt8.toNat_ofNat'] at this;omega
   ·rw [xG γ,xG aa] at h;simp only [List.cons_append,List.cons.injEq] at h;have e:=congrArg UInt8.toNat h.1;simp only [UInt8.toNat_ofNat'] at e;obtain ⟨au,a1⟩:=bk (x / 128) (y / 128) (Eg hx) (Eg aG) h.2;exact ⟨by omega,a1⟩
theorem LP {x y:Nat} {u v:List UInt8} (hx:x<18446744073709551616) (aG:y<18446744073709551616) (h:dv x++u=dv y++v):x=y∧u=v:=arO 9 x y u v (BJ hx) (BJ aG) h
theorem X1 {l:List UInt8} {n:Nat} {rest:List UInt8} (h:Fc l n rest 0):l=dv n++rest∧n<18446744073709551616:=by
 rcases h with ⟨k,av,hE,_,_,⟨γ,aa,au,_⟩ | ⟨_,_,_,h⟩⟩ | ⟨_,_,_,_,h⟩ | ⟨_,_,_,_,h⟩
 ·subst aa;subst au;exact ⟨by rw [γ,List.take_append_drop],Nat.mod_lt _ (by decide)⟩
 all_goals cases h
theorem akz {n k:Nat} {r:List UInt8} (hn:n<18446744073709551616) (av:k<(dv n++r).length) (ey:∀ i (h:i<(dv n++r).length),i<k→128≤((dv n++r)[i]).toNat) (az:((dv n++r)[k]).toNat<128):k+1=(dv n).length:=by
 have γ:=(xI n).2;rcases Nat.lt_trichotomy (k+1) (dv n).length with h | h | h
 ·rw [List.getElem_append_left (by omega)] at az;have:=arN 9 n k (BJ hn) h (by show k<(dv n).length;omega);have e:(iI 9 n)[k]'(by show k<(dv n).length;omega)=(dv n)[k]'(by omega):=rfl;rw [e] at this;omega
 ·exact h
 ·have aa:=ey ((dv n).length - 1) (by simp;omega) (by omega);rw [List.getElem_append_left (by omega)] at aa;have:=ab5 9 n (BJ hn) ((dv n).length - 1) (by show _<(dv n).length;omega) (by show _=(dv n).length;omega);have e:(iI 9 n)[(dv n).length - 1]'(by show _<(dv n).length;omega)=(dv n)[(dv n).length - 1]'(by omega):=rfl;rw [e] at this;omega
theorem w9 {n:Nat} {r:List UInt8} {m:Nat} {rest:List UInt8} {e:Int} (hn:n<18446744073709551616) (h:Fc (dv n++r) m rest e):m=n∧rest=r∧e=0:=by
 have hlen:=xI n;have hG:∃ i,∃ ao:i<(dv n++r).length,i<10∧((dv n++r)[i]).toNat<128:=by
  refine ⟨(dv n).length - 1,by simp;omega,by omega, ?_⟩;rw [List.getElem_append_left (by omega)];exact ab5 9 n (BJ hn) ((dv n).length - 1) (by show _<(dv n).length;omega) (by show _=(dv n).length;omega)
 rcases h with ⟨k,av,hE,ey,az,h⟩ | ⟨_,di,_⟩ | ⟨_,di,_⟩
 ·have oq:=akz hn hE ey (az hE);have aA:(dv n++r).take (k+1)=dv n:=by rw [oq,List.take_left]
  have hv:val (dv n) % 18446744073709551616=n:=by rw [auN n hn,Nat.mod_eq_of_lt hn]
  rw [aA,hv] at h;rcases h with ⟨_,aa,au,a1⟩ | ⟨γ,_⟩
  ·refine ⟨aa, ?_,a1⟩;rw [au,oq,List.drop_left]
  ·exact absurd Z γ
 ·obtain ⟨i,ao,_,hG⟩:=hG;have:=di i ao;omega
 ·obtain ⟨i,ao,amE,hG⟩:=hG;have:=di i ao amE;omega
def sC (n:Nat):Int:=if n % 2=0 then ((n / 2:Nat):Int) else -((n / 2:Nat):Int) - 1
theorem akM (n:Nat):mN (sC n)=n:=by
 unfold mN sC;split<;>split<;>omega
theorem adC (x:Int):sC (mN x)=x:=by
 unfold mN sC;split<;>split<;>omega
theorem Ke (x:Int) (aE: -9223372036854775808≤x) (γ:x≤9223372036854775807):mN x<18446744073709551616:=by
 unfold mN;split<;>omega
theorem auz (n:Nat) (h:n<18446744073709551616): -9223372036854775808≤sC n∧sC n≤9223372036854775807:=by
 unfold sC;split<;>omega
def items (l:List Int):List UInt8:=l.flatMap fun x=>dv (mN x)
def oB (l:List Int):List UInt8:=dv l.length++items l
theorem G7 (x:Int) (l:List Int):items (x::l)=dv (mN x)++items l:=rfl
theorem aoH (a b:List Int):items (a++b)=items a++items b:=by unfold items;rw [List.flatMap_append]
theorem ZL (a:List Int) (x:Int):items (a++ [x])=items a++dv (mN x):=by rw [aoH,G7];simp [items]
theorem QK (l:List Int):(items l).length≤10 * l.length:=by
 induction l with
 | nil=>simp [items]
 | cons x l bk=>rw [G7];have:=(xI (mN x)).1;simp;omega
theorem akI {x y:Int} (h:mN x=mN y):x=y:=by rw [← adC x,h,adC]
theorem Le:∀ (a b:List Int) (s:List UInt8),pU a→pU b→a.length≤b.length→items a++s=items b→a=b.take a.length∧s=items (b.drop a.length)
 | [],b,s,_,_,_,h=>⟨by simp,by simpa [items] using h⟩
 | x::a, [],s,_,_,az,_=>by simp at az
 | x::a,y::b,s,ha,Φ,az,h=>by
  rw [G7,G7,List.append_assoc] at h;have hx:=ha x (by simp);have aG:=Φ y (by simp);obtain ⟨γ,aa⟩:=LP (Ke x hx.1 hx.2) (Ke y aG.1 aG.2) h;obtain ⟨au,a1⟩:=Le a b s (fun z bw=>ha z (by simp [bw])) (fun z bw=>Φ z (by simp [bw])) (by simpa using az) aa;rw [akI γ];exact ⟨by simp;exact au,by simpa using a1⟩
def wC (s:List UInt8) (out:List Int) (e:Int):Prop :=
 pU out∧(e=0→s=oB out∧out.length≤1000)∧(e≠0→out= []∧∀ l,pU l→l.length≤1000→s≠oB l)
theorem alm {l out:List Int} {e:Int} (az:pU l) (γ:l.length≤1000) (h:wC (oB l) out e):e=0∧out=l:=by
 obtain ⟨bJ,aa,au⟩:=h;by_cases he:e=0
 ·obtain ⟨a1,bO⟩:=aa he;unfold oB at a1;obtain ⟨b_,dW⟩:=LP (by omega) (by omega) a1;obtain ⟨fu,_⟩:=Le l out [] az bJ (by omega) (by rw [List.append_nil];exact dW);rw [b_,List.take_length] at fu;exact ⟨he,fu.symm⟩
 ·exact absurd Z ((au he).2 l az γ)
theorem Vz {s:List UInt8} {n:Nat} {r:List UInt8} {e:Int} (h:Fc s n r e) (he:e≠0∨1000<n) {k:Int} (av:k≠0):wC s [] k:=by
 refine ⟨fun x hx=>(by cases hx),fun h=>absurd h av,fun _=>⟨Z,fun l az γ hs=> ?_⟩⟩;subst hs;obtain ⟨aa,_,au⟩:=w9 (by omega) h;rcases he with he | he
 ·exact he au
 ·omega
theorem agN {s:List UInt8} {n:Nat} {out:List Int} {r:List UInt8} {m:Nat} {r':List UInt8} {e:Int} (hs:s=dv n++(items out++r)) (hn:n<18446744073709551616) (bJ:pU out) (bl:out.length<n) (h:Fc r m r' e) (he:e≠0):wC s [] e:=by
 refine ⟨fun x hx=>(by cases hx),fun h=>absurd h he,fun _=>⟨Z,fun l az γ fp=> ?_⟩⟩;rw [fp] at hs;unfold oB at hs;obtain ⟨aa,au⟩:=LP (by omega) hn hs;obtain ⟨a1,bO⟩:=Le out l r bJ az (by omega) au.symm;have b_:l.drop out.length=l[out.length]'(by omega)::l.drop (out.length+1):=List.drop_eq_getElem_cons (by omega);rw [b_,G7] at bO;subst bO;have hx:=az (l[out.length]'(by omega)) (List.getElem_mem _);exact he (w9 (Ke _ hx.1 hx.2) h).2.2
theorem agM {s:List UInt8} {n:Nat} {out:List Int} {r:List UInt8} (hs:s=dv n++(items out++r)) (hn:n<18446744073709551616) (bJ:pU out) (bl:out.length=n) (hr:r≠ []) {k:Int} (av:k≠0):wC s [] k:=by
 refine ⟨fun x hx=>(by cases hx),fun h=>absurd h av,fun _=>⟨Z,fun l az γ fp=> ?_⟩⟩;rw [fp] at hs;unfold oB at hs;obtain ⟨aa,au⟩:=LP (by omega) hn hs;obtain ⟨a1,bO⟩:=Le out l r bJ az (by omega) au.symm;rw [List.drop_eq_nil_of_le (by omega)] at bO;exact hr bO
theorem alk {s:List UInt8} {n:Nat} {out:List Int} (hs:s=dv n++(items out++ [])) (bJ:pU out) (bl:out.length=n) (hn:n≤1000):wC s out 0 :=
 ⟨bJ,fun _=>⟨by rw [hs,List.append_nil,← bl];rfl,by omega⟩,fun h=>absurd rfl h⟩
end Go.Proofs.YtlikikpgmmkjbaaGreat.Pack
namespace Go.Proofs.YtlikikpgmmkjbaaGreat
open Tryz
end Go.Proofs.YtlikikpgmmkjbaaGreat
set_option linter.unusedVariables false
set_option linter.unusedSimpArgs false
namespace Go.Proofs.YtlikikpgmmkjbaaGreat.Pack
open Tryz
open Go.RowKit Go.Proofs.YtlikikpgmmkjbaaGreat

theorem acT:(prog.info? 212).map (·.size)=some 2:=by kernel_rfl
theorem apl:liesAt prog prog.depth 212 (2 / prog.cellsOf 212) 0 212 1=true:=by kernel_rfl
theorem infoByte:(prog.info? 5).map (fun i=>(i.zero,i.size,i.bytes))=some (some (.int .u8 0),1,1):=by kernel_rfl
theorem ahF (b:Nat) (w:World) (aE:w.cell? ⟨b,0,none⟩=some (.pointer (some ⟨b,0,none⟩))):
  Calls prog 160 #[.pointer (some ⟨b,0,none⟩)] w fun e w'=>e= .returned (.tuple #[])∧w'=w:=by
 obtain ⟨j,ay,_⟩:=Option.map_eq_some_iff.1 acT;go_enter func160,ntmps160;go_wp2
 rw [Lib.run_neq_ptr_same w _ underlying210 ay];go_wp2
 go_end0
 exact ⟨Z,Z⟩
theorem ahE (b:Nat) (w:World) (aE:w.cell? ⟨b,0,none⟩=some (.pointer none)) (Zx:w.shape? b=some (212,2)) (amz:w.frozen? ⟨b,0,none⟩=false):
  Calls prog 160 #[.pointer (some ⟨b,0,none⟩)] w fun e w'=>e= .returned (.tuple #[])∧w'=w.setCell ⟨b,0,none⟩ (.pointer (some ⟨b,0,none⟩)):=by
 obtain ⟨j,ay,amR⟩:=Option.map_eq_some_iff.1 acT;go_enter func160,ntmps160;go_wp2
 rw [Lib.run_to_unsafe w ⟨b,0,none⟩ underlying210 underlying287 ay (by rw [amR];decide) Zx (Nat.zero_lt_succ 1)];simp only [Result.andThen];rw [Oper.upon_value];go_wp2
 rw [run_callFunc_extern func192 (by kernel_rfl) (by kernel_rfl) (by kernel_rfl) (e:=Extern.AbiNoEscape.same) (by kernel_rfl)];rw [Lib.run_noEscape];simp only [Result.andThen];rw [Oper.upon_value];go_wp2
 rw [Lib.run_from_unsafe w ⟨b,0,none⟩ underlying287 underlying210 ay Zx apl];simp only [Result.andThen];rw [Oper.upon_value];go_wp2
 go_end0
 exact ⟨Z,Z⟩
theorem yF (B b:Nat) (cH:List Value) (w:World) (h:Lib.IsBuilder 212 5 B b cH w):
  Calls prog 160 #[.pointer (some ⟨b,0,none⟩)] w fun e w'=>e= .returned (.tuple #[])∧(Lib.BuilderAt 212 5 B b (.pointer (some ⟨b,0,none⟩)) cH w'∧Below B w w'):=by
 rcases h with h | h
 ·refine (ahE b w h.cell0 h.shape h.frozen0).mono ?_;rintro e w' ⟨rfl,rfl⟩;exact ⟨Z,h.used _,(Below.refl B w).setCell (p:=⟨b,0,none⟩) h.1 _⟩
 ·refine (ahF b w h.cell0).mono ?_;rintro e w' ⟨rfl,rfl⟩;exact ⟨Z,h,Below.refl B _⟩
theorem aed (B b:Nat) (cH:List Value) (s:ByteArray) (w:World) (h:Lib.IsBuilder 212 5 B b cH w) (hlen:cH.length+s.size≤140737488355328) (Yd:B≤w.heap.size):
  Calls prog 129 #[.pointer (some ⟨b,0,none⟩), .string s] w fun e w'=>e= .returned (.tuple #[.int .i64 s.size, .nilIface])∧(Lib.BuilderAt 212 5 B b (.pointer (some ⟨b,0,none⟩)) (cH++Lib.strCells s) w'∧Below B w w'):=by
 obtain ⟨i0,ao,lv,mT,nS⟩:=info_parts infoByte;go_enter func129,ntmps129;go_wp2_with fail
 refine (yF B b cH _ h).mono ?_;rintro e aM ⟨rfl,γ,cF⟩;obtain ⟨aX,v,DB,eI,dK⟩:=γ;have bL:aM.cell? ⟨b,0,none⟩=some (.pointer (some ⟨b,0,none⟩)):=by rw [Lib.cell_of_heap DB];rfl
 have c1:aM.cell? ⟨b,1,none⟩=some v:=by rw [Lib.cell_of_heap DB];rfl
 go_wp2_with (at_builtin;refine Lib.wpList_append_own_string _ rfl _ _ 76 9 rfl B 5 i0 underlying76 underlying9 ao lv mT nS _ _ _ rfl eI s rfl ?c3 ?c4 ?c5 ?_)
 case c3=>unfold maxLen;omega
 case c4=>omega
 case c5=>have:=cF.size;omega
 intro v' cl tU iQ _;have bl:b<aM.heap.size:=by
  rcases Nat.lt_or_ge b aM.heap.size with cU | cU
  ·exact cU
  ·simp [Array.getElem?_eq_none cU] at DB
 have bo:cl.heap[b]? =some (.cells #[.pointer (some ⟨b,0,none⟩),v] 212 (0,0)):=by
  rw [iQ.block b bl (fun e=>dK e.symm)];exact DB
 have d0:cl.cell? ⟨b,0,none⟩=some (.pointer (some ⟨b,0,none⟩)):=by rw [Lib.cell_of_heap bo];rfl
 have d1:cl.cell? ⟨b,1,none⟩=some v:=by rw [Lib.cell_of_heap bo];rfl
 have f1:cl.frozen? ⟨b,1,none⟩=false:=Lib.frozen_of_heap bo 1;obtain ⟨Vn,kj,cap,rfl⟩:∃ Vn kj cap,v'= .slice Vn kj cap:=by
  rcases tU.2 with ⟨hv,_⟩ | ⟨g,cap,cur,hv,_⟩
  ·exact ⟨_,_,_,hv⟩
  ·exact ⟨_,_,_,hv⟩
 go_wp2
 go_ret2
 refine ⟨Z, ?_, ?_⟩
 ·exact Lib.BuilderAt.put (T:= 212) (e:= 5) aX bo (bs':=cH++Lib.strCells s) (by simpa [Lib.strCells_length] using tU) (by decide)
 ·exact (cF.grown iQ (by have:=cF.size;omega) (fun k av=>(eI.lt k av).1)).setCell (p:=⟨b,1,none⟩) aX _
end Go.Proofs.YtlikikpgmmkjbaaGreat.Pack
namespace Go.Proofs.YtlikikpgmmkjbaaGreat
open Tryz
end Go.Proofs.YtlikikpgmmkjbaaGreat
set_option linter.unusedVariables false
set_option linter.unusedSimpArgs false
namespace Go.Proofs.YtlikikpgmmkjbaaGreat.Pack
open Tryz
open Go.RowKit Go.Proofs.YtlikikpgmmkjbaaGreat Go.Proofs.YtlikikpgmmkjbaaGreat.hO

theorem Jt (op:BinOp) (a b:Int): -9223372036854775808≤bits op .i64 a b∧bits op .i64 a b≤9223372036854775807:=by
 have h:bits op .i64 a b=IntKind.i64.wrap (bits op .i64 a b):=by
  unfold bits;rw [IntKind.wrap_i64,IntKind.wrap_i64];omega
 rw [h,IntKind.wrap_i64];omega
theorem Xx {x y:Int} (aE: -9223372036854775808≤x) (γ:x≤9223372036854775807) (g0: -9223372036854775808≤y) (g1:y≤9223372036854775807) (h:BitVec.ofInt 64 x=BitVec.ofInt 64 y):x=y:=by
 have e:=congrArg BitVec.toInt h;rw [BitVec.toInt_ofInt,BitVec.toInt_ofInt] at e;simp only [Int.bmod] at e;omega
theorem avJ (x:Int) (aE: -9223372036854775808≤x) (γ:x≤9223372036854775807):bits .xor .i64 x 0=x:=by
 refine Xx (Jt _ _ _).1 (Jt _ _ _).2 aE γ ?_;rw [abH];simp
theorem avH (x:Int) (aE: -9223372036854775808≤x) (γ:x≤9223372036854775807):bits .xor .i64 x (-1)= -x - 1:=by
 refine Xx (Jt _ _ _).1 (Jt _ _ _).2 (by omega) (by omega) ?_;rw [abH];have aU:BitVec.ofInt 64 (-1)=BitVec.allOnes 64:=by decide
 rw [aU,BitVec.xor_allOnes];have bc:(-x - 1:Int)= -x+ -1:=by omega
 rw [bc,BitVec.ofInt_add,BitVec.ofInt_neg,aU];rw [BitVec.not_eq_neg_add,BitVec.sub_eq_add_neg,show -1#64=BitVec.allOnes 64 from by decide]
theorem auA (n:Nat) (hn:n<18446744073709551616) (w:World):
  Calls prog 120 #[.int .u64 (n:Int)] w fun e w'=>e= .returned (.int .i64 (sC n))∧w=w':=by
 have aa:n / 2<9223372036854775808:=by omega
 have hI:=avJ ((n / 2:Nat):Int) (by omega) (by omega);have iE:=avH ((n / 2:Nat):Int) (by omega) (by omega);have hd:(n:Int) / 2=((n / 2:Nat):Int):=by omega
 have ha:bits .and .u64 (n:Int) 1=((n % 2:Nat):Int):=by
  have h:=(bits_nat .u64 64 (by decide) aec n 1 (by omega) (by decide)).1;rw [Nat.and_one_is_mod] at h;exact h
 unfold sC;obtain ⟨m,jy⟩:∃ m,Hid (n / 2=m):=⟨_,Lib.hid rfl⟩;rw [jy.out] at aa hI iE hd ⊢;rcases Nat.mod_two_eq_zero_or_one n with h | h
 ·rw [h] at ha ⊢;rw [if_pos rfl];have ha:bits .and .u64 (n:Int) 1=0:=ha;clear h;go_enter func120,ntmps120;go_wp2_with fail
  go_ret;exact ⟨Z,Z⟩
 ·rw [h] at ha ⊢;rw [if_neg (by decide)];have ha:bits .and .u64 (n:Int) 1=1:=ha;clear h;go_enter func120,ntmps120;go_wp2_with fail
  go_ret;exact ⟨Z,Z⟩
theorem N3 {T e:TypeId} {B b:Nat} {p:Value} {cH:List Value} {w w':World} (h:Lib.BuilderAt T e B b p cH w) (Φ:Below w.heap.size w w'):Lib.BuilderAt T e B b p cH w':=by
 have bl:=h.lt;obtain ⟨aX,v,DB,eI,dK⟩:=h;exact ⟨aX,v,by rw [Φ.block b bl];exact DB,aq4 eI Φ,dK⟩
theorem arL (A:Option Addr) (n c:Nat) (hn:1000<n) (w:World):
  Calls prog 92 #[.slice A n c] w fun e w'=>e= .returned (.tuple #[.string ⟨#[]⟩, .int .i64 2])∧w=w':=by
 have KZ:(1000:Int)<(n:Int):=by omega
 go_enter func92,ntmps92;go_wp2_with fail
 go_ret2
 exact ⟨Z,Z⟩
theorem ab3 (A:Option Addr) (n c:Nat) (l:List Int) (az:l.length=n) (hn:n≤1000) (Kr:pU l) (w:World) (hr:Rd w 1 A n (rY l)):
  Calls prog 92 #[.slice A n c] w fun e w'=>e= .returned (.tuple #[.string (strOf (oB l)), .int .i64 0])∧Below w.heap.size w w':=by
 have aX:Lib.IsBuilder 212 5 w.heap.size w.heap.size [] (w.alloc (.cells #[.pointer none, .slice none 0 0] 212)):=
  .inl ⟨Nat.le_refl _, .slice none 0 0,heap_alloc_new w _,World.ownsRow_nil _ _ _ _,by simp [Value.ownBlock]⟩
 have cr:Below w.heap.size w (w.alloc (.cells #[.pointer none, .slice none 0 0] 212)):=(Below.refl _ _).alloc (Nat.le_refl _) _;have hw:IntKind.u64.wrap (n:Int)=(n:Int):=by rw [IntKind.wrap_u64];omega
 have ob:=Lib.hid az;clear az;go_enter func92,ntmps92;go_wp2_with fail
 refine (LQ n (by omega) _ Z _).mono ?_;rintro e aM ⟨rfl,cF⟩;have X_:Lib.IsBuilder 212 5 w.heap.size w.heap.size [] aM:=by
  rcases aX with h | h
  ·exact .inl (N3 h cF)
  ·exact .inr (N3 h cF)
 have bo:=cr.trans (cF.mono cr.size);clear aX cF;have q9:=xI n;go_wp2_with fail
 refine (aed w.heap.size w.heap.size [] (strOf (dv n)) aM X_ (by rw [Es];simp;omega) bo.size).mono ?_;rintro e cl ⟨rfl,Pp,dj⟩;have de:=bo.trans dj;rw [List.nil_append,Lib.strCells_eq,uF] at Pp;clear X_ bo dj;go_wp2_with fail
 go_loopw [17] (fun i wr=>∃ k:Nat,k≤n∧i= .int .i64 (k:Int)∧Lib.BuilderAt 212 5 w.heap.size w.heap.size (.pointer (some ⟨w.heap.size,0,none⟩)) (Lib.byteCells (dv n++items (l.take k))) wr∧Below w.heap.size w wr) (fun i _=>n - (intOf i).toNat)
 case atStart=>exact ⟨0,Nat.zero_le _,rfl,by simpa [items] using Pp,de⟩
 case round =>
  clear Pp de;obtain ⟨k,av,rfl,aX,Φ⟩:=hrel;by_cases bl:k<n
  ·obtain ⟨b,o,rfl,hc⟩:=hr.2 (by omega);have hE:k<l.length:=by rw [ob.out];exact bl
   have hx:=ahv Φ (hc k _ (V1 l k hE)) (World.block_lt_of_cell? w _ (hc k _ (V1 l k hE)));have La:=Kr l[k] (List.getElem_mem hE);have G0:items (l.take (k+1))=items (l.take k)++dv (mN l[k]):=by rw [List.take_succ_eq_append_getElem hE,ZL]
   have oR:=Lib.hid G0;generalize l[k]=x at *
   have oo:=Ke x La.1 La.2;have amx:=akJ x La.1 La.2;have aAs:=xI (mN x);have DJ:=QK (l.take k);have aAF:(l.take k).length≤k:=List.length_take_le _ _;clear G0;generalize mN x=y at *
   go_wp2_with fail
   refine (amx _).mono ?_;rintro e w' ⟨rfl,rfl⟩;go_wp2_with fail
   refine (LQ y oo _ Z _).mono ?_;rintro e kp ⟨rfl,kd⟩;have w_:=N3 aX kd;have Dz:=Φ.trans (kd.mono Φ.size);go_wp2_with fail
   refine (aed w.heap.size w.heap.size _ (strOf (dv y)) kp (.inr w_) (by rw [Es,Lib.byteCells_length];simp;omega) Dz.size).mono ?_;rintro e Mo ⟨rfl,Ya,Bn⟩;have KF:=Dz.trans Bn;rw [Lib.strCells_eq,uF,← Lib.byteCells_append,List.append_assoc,← oR.out] at Ya;clear aX w_ Φ kd Dz Bn;go_wp2_with fail
   go_roundw
   case rel=>exact ⟨k+1,by omega,by go_num,Ya,KF⟩
   case measure=>simp [intOf];omega
  ·obtain rfl:k=n:=by omega
   rw [List.take_of_length_le (by rw [ob.out];exact Nat.le_refl _)] at aX;go_wp2_with fail
   refine (Builder_String_any w.heap.size w.heap.size (dv k++items l) wr (.inr aX) Φ.size).mono ?_;rintro e SB ⟨rfl,KG⟩;go_wp2_with fail
   go_ret2
   refine ⟨?_,Φ.trans KG⟩;unfold oB strOf;rw [ob.out];rfl
def afd (s:ByteArray) (w:World) (e:Ending) (w':World):Prop :=
 ∃ (out:List Int) (k:Int) (A:Option Addr) (n c:Nat),wC s.data.toList out k∧e= .returned (.tuple #[.slice A n c, .int .i64 k])∧Own w' w.heap.size 3 1 IV (.slice A n c) out.length (rY out)∧Below w.heap.size w w'
theorem alb (s:ByteArray) (hs:s.size≤9223372036854775807) (w:World):Calls prog 85 #[.string s] w (afd s w):=by
 obtain ⟨i0,ao,lv,mT,nS⟩:=info_parts aow;go_enter func85,ntmps85;go_wp2_with fail
 refine (X0 s hs w).mono ?_;rintro e aM ⟨n,rest,k,bq,rfl,cF⟩;have jx:=Lib.hid bq;by_cases av:k=0
 ·subst av;obtain ⟨K7,zb⟩:=X1 bq;have er:=Lib.hid K7;have e4:=Lib.hid zb;have hH:rest.length≤s.size:=by
   have h:=congrArg List.length K7;simp at h;have e:s.data.size=s.size:=rfl;omega
  clear K7 bq zb;by_cases hn:1000<n
  ·have KZ:(1000:Int)<(n:Int):=by omega
   go_wp2_with fail
   go_ret2
   exact ⟨[],2,none,0,0,Vz jx.out (.inr hn) (by decide),Z,Own.nil _ _ _ _ _,cF⟩
  ·have KZ:¬ (1000:Int)<(n:Int):=by omega
   go_wp2_with fail
   go_loopw [0,5,6,24] (fun S E v i wr=>∃ (j:Nat) (out:List Int) (r:List UInt8),j≤n∧i= .int .u64 (j:Int)∧S= .string (strOf r)∧E= .int .i64 0∧out.length=j∧Own wr w.heap.size 3 1 IV v j (rY out)∧Below w.heap.size w wr∧
     Hid (s.data.toList=dv n++(items out++r))∧Hid (pU out)∧r.length≤s.size) (fun _ _ _ i _=>n - (intOf i).toNat)
   case atStart=>exact ⟨0, [],rest,Nat.zero_le _,rfl,rfl,rfl,rfl,Own.nil _ _ _ _ _,cF,er,(fun x hx=>by cases hx),hH⟩
   case round =>
    clear cF er hH;obtain ⟨j,out,r,ay,rfl,rfl,rfl,Zo,eI,Φ,er,kx,aAz⟩:=hrel;have aN:=Lib.hid Zo;clear Zo;by_cases bl:j<n
    ·go_wp2_with fail
     refine (X0 (strOf r) (by rw [Es];omega) wr).mono ?_;rintro e cl ⟨m,r2,ea,Gb,rfl,bo⟩;rw [uF] at Gb;have dj:=Φ.trans (bo.mono Φ.size);by_cases gP:ea=0
     ·subst gP;obtain ⟨Qp,KU⟩:=X1 Gb;have anU:=auA m KU;have KH:=auz m KU;have YZ:=akM m;have wM:Hid (s.data.toList=dv n++(items (out++ [sC m])++r2)):=by
       show _=_;rw [er.out,Qp,ZL,YZ,List.append_assoc]
      have afq:Hid (pU (out++ [sC m])):=by
       intro x hx;rcases List.mem_append.1 hx with h | h
       ·exact kx.out x h
       ·simp at h;subst h;exact KH
      have anM:r2.length≤s.size:=by
       have h:=congrArg List.length Qp;simp at h;omega
      have Zp:=eI.later bo;have jy:=Lib.hid KU;clear Qp KU YZ Gb KH eI er kx;generalize sC m=x at *
      have de:=dj.alloc dj.size (.cells #[.int .i64 x] 3);have Zq:=Zp.later ((Below.refl cl.heap.size cl).alloc (Nat.le_refl _) (.cells #[.int .i64 x] 3));have GO:Rd (cl.alloc (.cells #[.int .i64 x] 3)) 1 (some ⟨cl.heap.size,0,none⟩) 1 [.int .i64 x] :=
       ⟨rfl,fun _=>⟨cl.heap.size,0,rfl,fun q u I=>by
        match q,I with
        | 0,I=>simp at I;subst I;simp⟩⟩
      have u2:=Lib.hid Zq;have AF:=Lib.hid GO;clear Zp Zq GO;go_wp2_with fail
      refine (anU _).mono ?_;rintro e w' ⟨rfl,rfl⟩;go_wp2_with (at_builtin;refine Ia _ rfl _ _ 22 rfl w.heap.size 3 i0 (.int .i64 0) 1 8 underlying22 ao lv mT nS rfl (by decide) IV ?g1 _ j (rY out) rfl u2.out (some ⟨cl.heap.size,0,none⟩) 1 1 [.int .i64 x] rfl AF.out ?g2 ?g3 ?g4 ?g5 ?g6 ?_)
      case g1=>intro q u I;match q,I with | 0,I=>exact ⟨0,(Option.some.inj I).symm⟩
      case g2=>intro u hu;simp at hu;subst hu;rfl
      case g3=>intro q u I;match q,I with | 0,I=>exact ⟨x,(Option.some.inj I).symm⟩
      case g4=>unfold maxLen;omega
      case g5=>omega
      case g6=>exact de.size
      intro v' kp p_ iQ _ dz;have kd:=de.grown iQ de.size (fun q I=>(u2.out.row.lt q I).1);rw [← ahw] at p_;clear iQ dz de dj bo;go_wp2_with fail
      go_roundw
      case rel=>exact ⟨j+1,out++ [x],r2,by omega,by go_num,rfl,rfl,by simp [aN.out],p_,kd,wM,afq,anM⟩
      case measure=>simp [intOf];omega
     ·have Qf:(ea != 0)=true:=by rw [bne_iff_ne];exact gP
      have gA:=Lib.hid gP;have h4:=agN er.out e4.out kx.out (by rw [aN.out];exact bl) Gb gA.out;have aV:=Lib.hid h4;clear gP Gb h4;go_wp2_with fail
      go_ret2
      exact ⟨[],ea,none,0,0,aV.out,Z,Own.nil _ _ _ _ _,dj⟩
    ·obtain rfl:j=n:=by omega
     by_cases hr:r= []
     ·subst hr;have γ:(strOf []).toList= []:=by rw [ByteArray.toList_eq,uF]
      have aa:(!(strOf []).toList.isEmpty)=false:=by rw [ByteArray.toList_eq,uF];rfl
      obtain ⟨A,c,rfl,_⟩:=eI.shape;have ia:=Lib.hid (alk er.out kx.out aN.out (by omega));clear er;go_wp2_with fail
      go_ret2
      exact ⟨out,0,A,j,c,ia.out,Z,by rw [aN.out];exact eI,Φ⟩
     ·have γ:¬ (strOf r).toList= []:=by rw [ByteArray.toList_eq,uF];exact hr
      have aa:(!(strOf r).toList.isEmpty)=true:=by rw [ByteArray.toList_eq,uF];simpa using hr
      have ia:=Lib.hid (agM (k:=4) er.out e4.out kx.out aN.out hr (by decide));clear er hr;go_wp2_with fail
      go_ret2
      exact ⟨[],4,none,0,0,ia.out,Z,Own.nil _ _ _ _ _,Φ⟩
 ·have Qf:(k != 0)=true:=by rw [bne_iff_ne];exact av
  have amU:(k == 0)=false:=by rw [beq_eq_false_iff_ne];exact av
  have gA:=Lib.hid av;clear av bq;go_wp2_with fail
  go_ret2
  exact ⟨[],k,none,0,0,Vz jx.out (.inl gA.out) gA.out,Z,Own.nil _ _ _ _ _,cF⟩
end Go.Proofs.YtlikikpgmmkjbaaGreat.Pack
namespace Go.Proofs.YtlikikpgmmkjbaaGreat
open Tryz
section
open Go.RowKit Go.Proofs.YtlikikpgmmkjbaaGreat.hO
def iU:κ (BitVec 64):=κ.flat 1 (λ b=> [.int .u64 (U b)]) (λ _=>True) (λ _ u=>∃ n:Int,u= .int .u64 n) (λ _=>rfl) (by intro a u hu;simp at hu;subst hu;rfl) (by
 intro a j u hu;cases j with
 | zero=>simp at hu;exact ⟨_,hu.symm⟩
 | succ j=>simp at hu)
theorem ami {w:World} {cs:List Value} {a:BitVec 64} (h:iU.has w cs a):cs= [.int .u64 (U a)]:=And.left (show cs= [.int .u64 (U a)]∧True from h)
theorem ZI:(prog.info? 41).map (λ i=>(i.zero,i.size,i.bytes))=some (some (.int .u64 0),1,8):=by kernel_rfl
theorem ack:∀ (j:Nat) u,(Value.int .u64 0).cells[j]? =some u→iU.raw j u:=by
 intro j u hu;have hu:(#[(.int .u64 0:Value)]:Array Value)[j]? =some u:=hu
 match j,hu with
 | 0,hu=>exact ⟨0,(Option.some.inj hu).symm⟩
 | j+1,hu=>simp at hu
theorem ata {by_:Nat} {w:World} {A:Option Addr} {c:Nat} {l:List (BitVec 64)} (h:iU.aH by_ w A c l):Mark.AR w A l.length l:=by
 refine ⟨Z,h.ez, ?_⟩;cases az:l with
 | nil=>exact .inl rfl
 | cons x r =>
  rw [← az];obtain ⟨b,o,e,hc⟩:=h.at_ (by rw [az];simp);refine .inr ⟨b,o,e,λ i ao=> ?_⟩;obtain ⟨es,⟨rfl,_⟩,ay⟩:=hc i _ (List.getElem?_eq_getElem ao);have:=ay 0 _ rfl;simpa [iU,κ.flat] using this
theorem XF {w:World}:∀ {ess:List (List Value)} {l:List Int},cD (λ es a=>bz.has w es a) ess l→ess.flatten=l.map (Value.int .i64)
 | [], [],_=>rfl
 | es::ess,a::l,h=>by
  obtain ⟨γ,aa⟩:=h;rw [List.flatten_cons,fo γ,XF aa];rfl
 | [],_::_,h=>h.elim
 | _::_, [],h=>h.elim
def Ee (l:List Int):List UInt8:=if l.length≤1000 then Pack.oB l else []
def ow (l:List Int):BitVec 64:=Tree.qb (Ee l)
theorem aq6 (l:List Int):(Ee l).length≤20000:=by
 unfold Ee;split
 ·rename_i h
  unfold Pack.oB;rw [List.length_append];have:=(Pack.xI l.length).1;have:=Pack.QK l;omega
 ·simp
theorem aq7 (l:List Int) (A:Option Addr) (c:Nat) (w:World) (h:bz.aH 8 w A c l):Calls prog 92 #[.slice A l.length c] w λ e w'=>(∃ k,e= .returned (.tuple #[.string (Pack.strOf (Ee l)), .int .i64 k]))∧Ext w w':=by
 unfold Ee;by_cases hn:l.length≤1000
 ·rw [if_pos hn];have hr:Rd w 1 A l.length (rY l):=by
   obtain ⟨s1,s2,LX,LY,ess,B3,xM⟩:=h;rw [XF B3] at xM;exact xM
  exact (Pack.ab3 A l.length c l Z hn (λ x hx=>bt.1 (En h x hx)) w hr).mono λ e w' h=>⟨⟨0,h.1⟩,h.2⟩
 ·rw [if_neg hn];exact (Pack.arL A l.length c (by omega) w).mono λ e w' h=>⟨⟨2,h.1⟩,by rw [← h.2];exact Ext.bM w⟩
theorem aph (s:List UInt8) (hs:s.length≤20000) (w:World):Calls prog 83 #[.string (Pack.strOf s)] w λ e w'=>e= .returned (.int .u64 (U (Tree.qb s)))∧Ext w w':=by
 refine (Tree.zm (Pack.strOf s) (by rw [Pack.Es];omega) w).mono ?_;rintro e w' ⟨rfl,q,rfl⟩;exact ⟨by rw [Pack.uF],below_drewN (Below.refl _ w) q⟩
theorem aqH (l:List (BitVec 64)) (A:Option Addr) (c:Nat) (w:World) (h:iU.aH 8 w A c l):Calls prog 58 #[.slice A l.length c] w λ e w'=>e= .returned (.int .u64 (U (Mark.BW Mark.mix l)))∧Ext w w':=Mark.Rr A l.length c l w (ata h)
def Ly (W:ae):BitVec 64:=ow ([1,W.field.wide,W.field.high,W.next,W.now]++W.field.aP)
def Lx (W:ae) (i:Nat):BitVec 64:=ow [2,(i:Int),(W.aY.getD i default).x,(W.aY.getD i default).y,W.a_.getD i 0]
def xC (W:ae):Nat→List (BitVec 64)
 | 0=> []
 | k+1=>xC W k++(if W.bm.getD k 0=0 then [] else [ow [3,(k:Int),W.bm.getD k 0]])
def HC (t:aW):BitVec 64:=ow [4,t.id,t.owner,t.kind,t.spot.x,t.spot.y,t.cG,t.load]
def xB (W:ae) (k:Nat):List (BitVec 64):= [Ly W]++(List.range k).map (Lx W)
def marks (W:ae):List (BitVec 64):=xB W W.aY.length++xC W W.bm.length++W.ag.map HC
def py (W:ae):BitVec 64:=if W.bh=0 then Mark.BW Mark.mix (marks W) else 0#64
theorem apW (W:ae) (k:Nat):xB W (k+1)=xB W k++ [Lx W k]:=by
 unfold xB;rw [List.range_succ,List.map_append,← List.append_assoc];rfl
theorem Rl (W:ae):∀ k,(xC W k).length≤k
 | 0=>Nat.le_refl 0
 | k+1=>by
  have:=Rl W k;rw [xC,List.length_append];split<;>simp<;>omega
theorem Rh (W:ae) (k:Nat):(xB W k).length=k+1:=by unfold xB;simp
theorem ap7 {l:List aW} {k:Nat} {t:aW} (av:k<l.length) (aA:l.getD k default=t):(l.take (k+1)).map HC=(l.take k).map HC++ [HC t]:=by
 rw [← aA,List.getD_eq_getElem?_getD,List.getElem?_eq_getElem av,← List.take_append_getElem av,List.map_append];rfl
end
section
open Go.RowKit
theorem ZH:(prog.info? 44).map (λ i=>(i.zero,i.size,i.bytes))=some (some (.slice none 0 0),1,24):=by kernel_rfl
def fJ (w:World) (T:List dB) (L:List (List aI)):Prop:=T.length=L.length∧∀ (i:Nat) (v:dB),T[i]? =some v→∃ l:List aI,L[i]? =some l∧v.n=l.length∧aI.rep.aH 48 w v.a v.c l
section
variable {w w':World} {T yt:List dB} {L qO:List (List aI)} {W:ae} {l:List aI} {k:Nat} {e:Int} {V:ae} {ms:List (BitVec 64)}
theorem fJ.keep (h:fJ w T L) (hx:Ext w w'):fJ w' T L:=⟨h.1,λ i v ao=>by
 obtain ⟨l,γ,aa,au⟩:=h.2 i v ao;exact ⟨l,γ,aa,au.keep hx⟩⟩
theorem fJ.nil:fJ w [] []:=⟨rfl,λ i v h=>by simp at h⟩
theorem fJ.one {A:Option Addr} {c:Nat} (h:aI.rep.aH 48 w A c l):fJ w [⟨A,l.length,c⟩] [l]:=⟨rfl,λ i v ao=>by
 match i,ao with
 | 0,ao=>obtain rfl:=(Option.some.inj ao);exact ⟨l,Z,Z,h⟩⟩
theorem fJ.app (h:fJ w T L) (cU:fJ w yt qO):fJ w (T++yt) (L++qO):=⟨by rw [List.length_append,List.length_append,h.1,cU.1],λ i v ao=>by
 rcases Nat.lt_or_ge i T.length with az | az
 ·rw [List.getElem?_append_left az] at ao;rw [List.getElem?_append_left (by rw [← h.1];exact az)];exact h.2 i v ao
 ·rw [List.getElem?_append_right az] at ao;rw [List.getElem?_append_right (by rw [← h.1];exact az),← h.1];exact cU.2 _ v ao⟩
theorem fJ.at_ (h:fJ w T L) (av:k<T.length):∃ A c l,T[k]? =some ⟨A,l.length,c⟩∧L[k]? =some l∧aI.rep.aH 48 w A c l:=by
 obtain ⟨v,hv⟩:∃ v,T[k]? =some v:=⟨_,List.getElem?_eq_getElem av⟩;obtain ⟨l,γ,aa,au⟩:=h.2 k v hv;obtain ⟨a,n,c⟩:=v;dsimp only at aa au;subst aa;exact ⟨a,c,l,hv,γ,au⟩
noncomputable def ng (W:ae) (L:List (List aI)):ae:=L.foldl mq W
noncomputable def uD (W:ae):List (List aI)→List (BitVec 64)
 | []=> [py W]
 | l::r=>py W::uD (mq W l) r
noncomputable def km (W:ae):List (List aI)→Int
 | []=>0
 | l::r=>if gQ W l≠0 then gQ W l else km (mq W l) r
def yr (W:ae) (L:List (List aI)) (e:Int) (V:ae) (ms:List (BitVec 64)):Prop:=(e=0∧L.length≤200∧W.bh=0∧km W L=0∧V=ng W L∧ms=uD W L)∨(e≠0∧(200<L.length∨W.bh≠0∨km W L≠0)∧V=ae.zero∧ms= [])
theorem asJ:ng W (L++qO)=ng (ng W L) qO:=List.foldl_append
theorem acz:∀ (L:List (List aI)) (W:ae),(uD W L).length=L.length+1
 | [],_=>rfl
 | l::r,W=>by rw [uD,List.length_cons,List.length_cons,acz r]
theorem acA:∀ (L:List (List aI)) (W:ae),uD W (L++ [l])=uD W L++ [py (mq (ng W L) l)]
 | [],_=>rfl
 | l::r,W=>by rw [List.cons_append,uD,uD,acA r];rfl
theorem LW:∀ (L:List (List aI)) (W:ae),km W (L++qO)=if km W L≠0 then km W L else km (ng W L) qO
 | [],W=>by rw [List.nil_append];unfold km;rw [if_neg (by simp)];rfl
 | l::r,W=>by
  rw [List.cons_append,km,km];by_cases h:gQ W l≠0
  ·rw [if_pos h,if_pos h,if_pos h]
  ·rw [if_neg h,if_neg h,LW r];rfl
theorem R1:km W [l]=gQ W l:=by
 unfold km;split
 ·rfl
 ·rename_i h;unfold km;have:gQ W l=0:=by simpa using h
  rw [this]
theorem zO {α:Type} {L:List α} {l:α} (h:L[k]? =some l):L.take (k+1)=L.take k++ [l]:=by
 have av:=(List.getElem?_eq_some_iff.1 h).1;have e:=(List.getElem?_eq_some_iff.1 h).2;rw [← e,List.take_append_getElem]
theorem R3 (aE:km W (L.take k)=0) (az:L[k]? =some l):km W (L.take (k+1))=gQ (ng W (L.take k)) l:=by
 rw [zO az,LW,if_neg (by simpa using aE),R1]
theorem acC (aE:km W (L.take k)≠0):km W L≠0:=by
 have:L=L.take k++L.drop k:=(List.take_append_drop k L).symm;rw [this,LW,if_pos aE];exact aE
theorem yr.ok (h:yr W L e V ms) (aE:e=0):L.length≤200∧W.bh=0∧km W L=0∧V=ng W L∧ms=uD W L:=by
 rcases h with ⟨_,h⟩ | ⟨γ,_⟩
 ·exact h
 ·exact absurd aE γ
theorem yr.zero (h:yr W L e V ms) (γ:L.length≤200) (aa:W.bh=0) (au:km W L=0):e=0∧V=ng W L∧ms=uD W L:=by
 rcases h with ⟨aE,_,_,_,a1,bO⟩ | ⟨_,a1,_⟩
 ·exact ⟨aE,a1,bO⟩
 ·omega
end
end
section
open Go.RowKit
theorem agj:ff prog bz 22 3 8:=ff.lB (z:= .int .i64 0) (k:=1) underlying22 zi rfl rfl (by decide) (λ j u h=>El j u h)
theorem ND:ff prog iU 38 41 8:=ff.lB (z:= .int .u64 0) (k:=1) underlying38 ZI rfl rfl (by decide) (λ j u h=>ack j u h)
open Go.Proofs.YtlikikpgmmkjbaaGreat.hO
theorem zm (l:List Int) (A:Option Addr) (c:Nat) (w:World) (az:bz.aH 8 w A c l):
  Calls prog 57 #[.slice A l.length c] w (λ e w'=>e= .returned (.int .u64 (U (ow l)))∧Ext w w'):=by
 refine cv (n:=12) func57 Z Z Z ?_;refine aj<|va Z<|ah<|aj<|vm Z<|ca Xd Z Z ((aq7 l _ _ _ (az.keep (Ext.bM w))).mono ?_);rintro e qs ⟨⟨aAZ,rfl⟩,bg⟩;refine ⟨_,Z, ?_⟩;have:=bg.size;have c0:=τ (Ext.bM w) bg;refine vm Z<|J (ex Z Z)<|J (ex Z Z)<|va Z<|va Z<|ah<|aj<|vm Z<|ca ajm Z Z ((aph (Ee l) (aq6 _) _).mono ?_);rintro e avg ⟨rfl,ael⟩;refine ⟨_,Z, ?_⟩;have:=ael.size;have Cu:=τ c0 ael;refine va Z<|ah<|rt<|bp (.tmp Z .nil)<| ?_;exact ⟨Z,Cu⟩
theorem apU (a:ae.b6) (W:ae) (w:World) (bs:ae.Has w a W) (hc:W.bh≠0):
  Calls prog 20 #[.agg ((ae.cells a W).toArray)] w (λ e w'=>e= .returned (.tuple #[.int .u64 (U (py W)), .int .i64 W.bh])∧Ext w w'):=by
 have QN:(W.bh != 0)=true:=by simpa using hc
 refine cv (n:=107) func20 Z Z Z ?_;refine aj<|cI Z Z Z Z λ dw bC bg eY ab=> ?_;have:=bg.size;have br:=τ (Ext.bM w) bg;have eZ:=ab.lt;refine va Z<|va Z<|ah<|aD<|aj<|J (ak Z (ab.all dr b2))<|ca Df Z Z ((yF a W _ (bs.keep br)).mono ?_);rintro e eB ⟨rfl,dn⟩;refine ⟨_,Z, ?_⟩;have:=dn.size;have bS:=τ br dn;refine va Z<|ah<|aj<|vm Z<|J (bne Z Z)<|ah<|fL (fC Z QN)<|aj<|vm Z<|va Z<|va Z<|ah<|rt<|cf<|bp (.tmp Z (.tmp Z .nil))<| ?_;exact ⟨by unfold py;rw [if_neg hc];rfl,bS⟩
theorem apV (a:ae.b6) (W:ae) (w:World) (bs:ae.Has w a W) (hc:W.bh=0):
  Calls prog 20 #[.agg ((ae.cells a W).toArray)] w (λ e w'=>e= .returned (.tuple #[.int .u64 (U (py W)), .int .i64 W.bh])∧Ext w w'):=by
 have QN:(W.bh != 0)=false:=by simpa using hc
 have bq:=Good.zD hc;have azF:=bq.jn;have azG:=bq.eo;have azH:=bq.sl;have azE:=bq.uu;have azz:=aC.ez bq.field;obtain ⟨BU,rq,nX,pz⟩:=bs.nums;have QV:=bs.B.ez;have aaX:=bs.M.ez;have zl:=bs.T.ez;refine cv (n:=107) func20 Z Z Z ?_;refine aj<|cI Z Z Z Z λ dw bC bg eY ab=> ?_;have:=bg.size;have br:=τ (Ext.bM w) bg;have eZ:=ab.lt;refine va Z<|va Z<|ah<|aD<|aj<|J (ak Z (ab.all dr b2))<|ca Df Z Z ((yF a W _ (bs.keep br)).mono ?_);rintro e eB ⟨rfl,dn⟩;refine ⟨_,Z, ?_⟩;have:=dn.size;have bS:=τ br dn;refine va Z<|ah<|aj<|vm Z<|J (bne Z Z)<|ah<|gq (fC Z QN)<|bx<|aj<|J (aw o5 Z)<|J (aw OA Z)<| ?_;have ab:=ab.later dn;refine J (ak Z (ab.one aZ Z))<|J (aw o5 Z)<|J (aw ajn Z)<|J (ak Z (ab.one aZ Z))<|J (aw FR Z)<|J (ak Z (ab.one aZ Z))<|J (aw De Z)<|J (ak Z (ab.one aZ Z))<|cH (e:= 3) (cs:= [.int .i64 1, .int .i64 W.field.wide, .int .i64 W.field.high, .int .i64 W.next, .int .i64 W.now]) Z (λ _=>by kernel_rfl) Z λ B_ FH eC aaY oN=> ?_;have:=eC.size;have pM:=τ bS eC;have ab7:=oN.lt;refine J (aw o5 Z)<|J (aw vt Z)<| ?_;have ab:=ab.later eC;refine J (ak Z (ab.one fl Z))<| ?_;have Nu:=aK.ru (R:=bz) (by_:=8) (B:=w.heap.size) (k:= [1,W.field.wide,W.field.high,W.next,W.now]) oN [[.int .i64 1], [.int .i64 W.field.wide], [.int .i64 W.field.high], [.int .i64 W.next], [.int .i64 W.now]] rfl (⟨⟨rfl,bt.2 (by decide)⟩,⟨⟨rfl,BU⟩,⟨⟨rfl,rq⟩,⟨⟨rfl,nX⟩,⟨⟨rfl,pz⟩,trivial⟩⟩⟩⟩⟩) (by simp) (by simp) (by decide) (by omega);have aFc:=λ q I=>(Nu.lt q I).2;have apu:∀ q∈κ.af (some ⟨FH,0,none⟩),FH≤q:=λ q I=>Nat.le_of_eq (List.mem_singleton.1 I).symm;refine ap agj κ.dV Nu (bs.P.keep pM) Z Z (by simp only [List.length_cons,List.length_nil];omega) (by simp only [List.length_cons,List.length_nil];omega) pM.size Z λ xV Ao N_ oz qQ Dp aqi=> ?_;have:=oz.size;have ks:=Ext.mod pM oz (λ q I=>(Nu.lt q I).1);have Mh:=λ q I=>(qQ.lt q I).2;have:=oz.size;refine ca J2 Z Z ((zm ([1,W.field.wide,W.field.high,W.next,W.now]++W.field.aP) _ _ _ qQ.has).mono ?_);rintro e zX ⟨rfl,gM⟩;refine ⟨_,Z, ?_⟩;have:=gM.size;have nu:=τ ks gM;refine cH (e:= 41) (cs:= [.int .u64 (U (ow ([1,W.field.wide,W.field.high,W.next,W.now]++W.field.aP)))]) Z (λ _=>by kernel_rfl) Z λ EE NT iX aBL T_=> ?_;have:=iX.size;have qB:=τ nu iX;have aEe:=T_.lt;refine va Z<|ah<|aD<|aj<|J (aw q3 Z)<| ?_;have aic:∀ q∈κ.af (some ⟨FH,0,none⟩),q=bC→False:=λ q I Φ=>by (have:=apu q I;omega)
 have ab:=ab.mod oz (λ I=>aic _ I rfl);have ab:=ab.later (τ gM iX);refine J (ak Z (ab.one tC Z))<|J (cW underlying25 Z)<|vm Z<|ah<|bP<| ?_;have Fp:=aK.ru (R:=iU) (by_:=8) (B:=w.heap.size) (k:= [Ly W]) T_ [[.int .u64 (U (Ly W))]] rfl (⟨⟨rfl,trivial⟩,trivial⟩) (by simp) (by simp) (by decide) (by omega);have tD:∀ q∈κ.af (some ⟨NT,0,none⟩),q=NT:=λ q I=>List.mem_singleton.1 I;refine fe (λ ck ch aS=>∃ dk:Nat,∃ AI:List (BitVec 64),∃ CG:Option Addr,∃ JC:Nat,ch= [(1, .pointer (some ⟨bC,0,none⟩)),(2, .int .u64 0),(3, .int .i64 0),(5, .slice CG AI.length JC),(35, .slice a.B W.aY.length a.b),(36, .int .i64 (W.aY.length:Int)),(37, .int .i64 (dk:Int))]∧ck=W.aY.length - dk∧Ext w aS∧aK aS bC (ae.cells a W) 28 (0,0)∧iU.aF 41 8 aS w.heap.size (κ.af CG) CG JC AI∧(dk≤W.aY.length)∧(AI=xB W dk)∧(∀ q∈κ.af CG,q=bC→False)) _ _ ⟨0, [Ly W],some ⟨NT,0,none⟩,1,Z,Z,qB,ab,Fp,by omega,rfl,(λ q I Φ=>by (have:=tD q I;omega))⟩ (.cons Z (.cons Z (.cons Z (.cons Z (.cons Z (.cons Z (.cons (bX Z (by first | omega | rfl | (simp<;>omega))) .nil))))))) ?_;rintro mg axe xX ⟨dk,AI,CG,JC,rfl,rfl,jM,ab,u4,oq,Pt,C9⟩;have:=jM.size;have aEi:=ab.lt;have Mi:=λ q I=>(u4.lt q I).2;refine aj<|J (blt Z Z)<|ah<|aD<| ?_;refine ef Z (λ alY=> ?_) (λ alY=> ?_)
 ·obtain ⟨c,q7⟩:∃ c,W.aY.getD dk default=c:=⟨_,rfl⟩;obtain ⟨k2,GQ⟩:∃ k2,W.a_.getD dk 0=k2:=⟨_,rfl⟩;have abI:c.ok:=ar.AU bs.B c (by rw [← q7];exact lz (by omega));have Rx:fE k2:=En bs.S k2 (by rw [← GQ];exact lz (by omega));have anb:Lx W dk=ow [2,(dk:Int),c.x,c.y,k2]:=by unfold Lx;rw [q7,GQ]
  have Yh:AI.length=dk+1:=by rw [Pt,Rh]
  refine bx<|aD<|bP<|aj<|vm Z<|J (bY dk underlying25 bE Z Z ((bs.B.keep jM).bA (a8 dk (by omega))) Z (by omega))<|J (ak Z (κ.aH.ic xi ((bs.B.keep jM).cL (a8 dk (by omega))) (show W.aY[dk]? =some c by rw [← q7];exact dO (u:=default) (by omega)) bZ bE))<|al Z tB Z Z λ EH th jI aa1 x'=> ?_;have:=jI.size;have nw:=τ jM jI;have Ej:=x'.lt;refine va Z<|st (new:= [.int .i64 c.x, .int .i64 c.y]) Z Z x' Z bE Z Z Z λ sF mZ x'=> ?_;have:=mZ.size;have jN:=Ext.mod nw mZ (bR (by omega));have:=mZ.size;refine ah<| ?_;refine rd [(3,0),(5,0),(7,0),(10,0),(11,2),(12,0),(13,2),(14,3)] [0,1,2,3,4,5,6,7,8,9,10,11,12,13,14,15] (by kernel_rfl) (by kernel_rfl) ?_;refine aq Z (λ _=>aJ Z)<|aq Z (λ _=>aJ Z)<|aq Z (λ _=>aw gJ Z)<|bD Z (λ _ x=>ak Z ((x'.later x).one aZ Z))<|aq Z (λ _=>aw hh Z)<|bD Z (λ _ x=>ak Z ((x'.later x).one aZ Z))<|aq Z (λ _=>aw vv Z)<| ?_;have ab:=ab.later jI;have ab:=ab.mod mZ (bb (by omega));refine bD Z (λ _ x=>ak Z ((ab.later x).one fl Z))<|aq Z (λ _=>aJ Z)<|aq Z (λ _=>bY dk underlying22 cz Z Z ((bs.S.keep jN).bA (a8 dk (by omega))) Z (by omega))<|bD Z (λ _ x=>ak Z (κ.aH.e9 fo ((bs.S.keep (τ jN x)).cL (a8 dk (by omega))) (show W.a_[dk]? =some k2 by rw [← GQ];exact dO (u:=0) (by omega)) Z aZ))<|gu Z Z Z λ H6 qw Q hK=>cH (e:= 3) (cs:= [.int .i64 2, .int .i64 (dk:Int), .int .i64 c.x, .int .i64 c.y, .int .i64 k2]) Z (λ _=>by kernel_rfl) Z λ Ms Vx ix aa2 k9=>hK _ _ ⟨τ qw ix, ?_⟩;have:=qw.size;have pO:=τ jN qw;have:=ix.size;have rM:=τ pO ix;have ace:=k9.lt;refine o8 Z Z J2 Z (λ _ x=>zm ([2,(dk:Int),c.x,c.y,k2]) _ _ _ ((aK.yX (R:=bz) (by_:=8) (k:= [2,(dk:Int),c.x,c.y,k2]) k9 [[.int .i64 2], [.int .i64 (dk:Int)], [.int .i64 c.x], [.int .i64 c.y], [.int .i64 k2]] Z (⟨⟨Z,bt.2 (by decide)⟩,⟨⟨Z,bt.2 (by omega)⟩,⟨⟨Z,abI.1⟩,⟨⟨Z,abI.2⟩,⟨⟨Z,Rx⟩,trivial⟩⟩⟩⟩⟩) (by simp) (by simp)).keep x)) Z<|gu Z Z Z λ avl oI Q hK=>cH (e:= 41) (cs:= [.int .u64 (U (ow ([2,(dk:Int),c.x,c.y,k2])))]) Z (λ _=>by kernel_rfl) Z λ adU ayn fy aB3 Ug=>hK _ _ ⟨τ oI fy, ?_⟩;have:=oI.size;have ML:=τ rM oI;have:=fy.size;have E2:=τ ML fy;have aEu:=Ug.lt;have u4:=u4.later jI;have u4:=u4.mod mZ (cj Mi (by omega));have u4:=u4.later (τ qw (τ ix (τ oI fy)));refine fc Z Z Z λ SP gz Q hK=>ap ND κ.dV (u4.later gz) ((aK.gv (R:=iU) (by_:=8) (q:=(ow ([2,(dk:Int),c.x,c.y,k2]))) Ug ⟨Z,trivial⟩ (by decide)).keep gz) Z Z (by simp only [List.length_cons,List.length_nil];omega) (by simp only [List.length_cons,List.length_nil];omega) (by have:=gz.size;omega) Z λ Cd aeR ahm Ls I9 ak8 aDj=>hK _ _ ?_;have:=gz.size;have rQ:=τ E2 gz;have:=Ls.size;have lR:=Ext.mod rQ Ls (λ q I=>Nat.le_trans (by omega) ((u4.later gz).lt q I).1);have aFu:=λ q I=>(I9.lt q I).2;have:=Ls.size;refine aq Z (λ _=>eV Z)<|fn λ adZ oJ=> ?_;have:=oJ.size;have E3:=τ lR oJ;refine cg<|a6<|rg<|J (bad Z Z (bF (by omega)))<|vm Z<|nl<| ?_;have ab:=ab.later (τ qw (τ ix (τ oI (τ fy gz))));have ab:=ab.mod Ls (λ I=>C9 _ I rfl);have ab:=ab.later oJ;have I9:=I9.later oJ;exact du _ _ ⟨dk+1,AI++ [(ow ([2,(dk:Int),c.x,c.y,k2]))],aeR,ahm,Z,Z,E3,ab,I9,by omega,by rw [apW,Pt,anb],(λ q I Φ=>by (exact Or.elim (ak8 q I) (λ aaP=>by (exact C9 q aaP Φ)) (λ aaP=>by omega)))⟩ (by omega) (.cons Z (.cons Z (.cons Z (.cons Z (.cons Z (.cons Z (.cons (bX Z (by first | omega | rfl | (simp<;>omega))) .nil)))))))
 ·refine dG<|dF<|eb<|dE<|a6<|aD<|aj<|J (aw A9 Z)<|J (ak Z (ab.one fl Z))<|J (cW underlying22 Z)<|vm Z<|ah<|bP<| ?_;refine fe (λ ck ch aS=>∃ ea:Nat,∃ yh:List (BitVec 64),∃ An:Option Addr,∃ FJ:Nat,ch= [(1, .pointer (some ⟨bC,0,none⟩)),(2, .int .u64 0),(3, .int .i64 0),(5, .slice An yh.length FJ),(59, .slice a.M W.bm.length a.m),(60, .int .i64 (W.bm.length:Int)),(61, .int .i64 (ea:Int))]∧ck=W.bm.length - ea∧Ext w aS∧aK aS bC (ae.cells a W) 28 (0,0)∧iU.aF 41 8 aS w.heap.size (κ.af An) An FJ yh∧(ea≤W.bm.length)∧(yh=xB W W.aY.length++xC W ea)∧(∀ q∈κ.af An,q=bC→False)) _ _ ⟨0,AI,CG,JC,Z,Z,jM,ab,u4,by omega,by rw [xC,List.append_nil,Pt,show dk=W.aY.length by omega],(λ q I Φ=>by (exact C9 q I Φ))⟩ (.cons Z (.cons Z (.cons Z (.cons Z (.cons Z (.cons Z (.cons (bX Z (by first | omega | rfl | (simp<;>omega))) .nil))))))) ?_;rintro BK awX SU ⟨ea,yh,An,FJ,rfl,rfl,sR,ab,AM,gP,Kw,Db⟩;have:=sR.size;have arP:=ab.lt;have aET:=λ q I=>(AM.lt q I).2;refine aj<|J (blt Z Z)<|ah<|aD<| ?_;refine ef Z (λ alD=> ?_) (λ alD=> ?_)
  ·obtain ⟨nb,KY⟩:∃ nb,W.bm.getD ea 0=nb:=⟨_,rfl⟩;have Rx:fE nb:=En bs.M nb (by rw [← KY];exact lz (by omega));have Yh:yh.length≤W.aY.length+1+ea:=by rw [Kw,List.length_append,Rh];have:=Rl W ea;omega
   refine bx<|aD<|bP<|aj<|vm Z<|J (bY ea underlying22 cz Z Z ((bs.M.keep sR).bA (a8 ea (by omega))) Z (by omega))<|J (ak Z (κ.aH.e9 fo ((bs.M.keep sR).cL (a8 ea (by omega))) (show W.bm[ea]? =some nb by rw [← KY];exact dO (u:=0) (by omega)) Z aZ))<|va Z<|va Z<|ah<|aj<|vm Z<|J (bne Z Z)<|ah<| ?_;refine hg Z (λ Bb=> ?_) (λ Bb=> ?_)
   ·have Bv:nb≠0:=by simpa using Bb
    refine rg<|vm Z<|vm Z<|vm Z<|cH (e:= 3) (cs:= [.int .i64 3, .int .i64 (ea:Int), .int .i64 nb]) Z (λ _=>by kernel_rfl) Z λ Mp agF iw aoZ E6=> ?_;have:=iw.size;have wj:=τ sR iw;have arR:=E6.lt;refine ca J2 Z Z ((zm ([3,(ea:Int),nb]) _ _ _ (aK.yX (R:=bz) (by_:=8) (k:= [3,(ea:Int),nb]) E6 [[.int .i64 3], [.int .i64 (ea:Int)], [.int .i64 nb]] Z (⟨⟨Z,bt.2 (by decide)⟩,⟨⟨Z,bt.2 (by omega)⟩,⟨⟨Z,Rx⟩,trivial⟩⟩⟩) (by simp) (by simp))).mono ?_);rintro e auW ⟨rfl,MD⟩;refine ⟨_,Z, ?_⟩;have:=MD.size;have S8:=τ wj MD;refine cH (e:= 41) (cs:= [.int .u64 (U (ow ([3,(ea:Int),nb])))]) Z (λ _=>by kernel_rfl) Z λ aFK axQ ME aBm TU=> ?_;have:=ME.size;have av0:=τ S8 ME;have arS:=TU.lt;have AM:=AM.later (τ iw (τ MD ME));refine ap ND κ.dV AM (aK.gv (R:=iU) (by_:=8) (q:=(ow ([3,(ea:Int),nb]))) TU ⟨Z,trivial⟩ (by decide)) Z Z (by simp only [List.length_cons,List.length_nil];omega) (by simp only [List.length_cons,List.length_nil];omega) (by omega) Z λ auZ aeF aha Lo UX ak3 aCU=> ?_;have:=Lo.size;have MI:=Ext.mod av0 Lo (λ q I=>Nat.le_trans (by omega) (AM.lt q I).1);have aEZ:=λ q I=>(UX.lt q I).2;have:=Lo.size;refine va Z<|nl<|cg<|a6<|rg<|J (bad Z Z (bF (by omega)))<|vm Z<|nl<| ?_;have ab:=ab.later (τ iw (τ MD ME));have ab:=ab.mod Lo (λ I=>Db _ I rfl);exact du _ _ ⟨ea+1,yh++ [(ow ([3,(ea:Int),nb]))],aeF,aha,Z,Z,MI,ab,UX,by omega,by rw [Kw,xC,KY,if_neg Bv];simp,(λ q I Φ=>by (exact Or.elim (ak3 q I) (λ Hf=>by (exact Db q Hf Φ)) (λ Hf=>by omega)))⟩ (by omega) (.cons Z (.cons Z (.cons Z (.cons Z (.cons Z (.cons Z (.cons (bX Z (by first | omega | rfl | (simp<;>omega))) .nil)))))))
   ·have Bv:nb=0:=by simpa using Bb
    refine hk<|cg<|a6<|rg<|J (bad Z Z (bF (by omega)))<|vm Z<|nl<| ?_;exact du _ _ ⟨ea+1,yh,An,FJ,Z,Z,sR,ab,AM,by omega,by rw [Kw,xC,KY,if_pos Bv];simp,(λ q I Φ=>by (exact Db q I Φ))⟩ (by omega) (.cons Z (.cons Z (.cons Z (.cons Z (.cons Z (.cons Z (.cons (bX Z (by first | omega | rfl | (simp<;>omega))) .nil)))))))
  ·refine dG<|dF<|eb<|dE<|a6<|aD<|aj<|J (aw iB Z)<|J (ak Z (ab.one jW Z))<|J (cW underlying26 Z)<|vm Z<|ah<|bP<| ?_;refine fe (λ ck ch aS=>∃ jl:Nat,∃ AJ:List (BitVec 64),∃ ID:Option Addr,∃ N7:Nat,ch= [(2, .int .u64 0),(3, .int .i64 0),(5, .slice ID AJ.length N7),(77, .slice a.T W.ag.length a.t),(78, .int .i64 (W.ag.length:Int)),(79, .int .i64 (jl:Int))]∧ck=W.ag.length - jl∧Ext w aS∧iU.aF 41 8 aS w.heap.size (κ.af ID) ID N7 AJ∧(jl≤W.ag.length)∧(AJ=xB W W.aY.length++xC W W.bm.length++(W.ag.take jl).map HC)) _ _ ⟨0,yh,An,FJ,Z,Z,sR,AM,by omega,by rw [Kw,show ea=W.bm.length by omega];simp⟩ (.cons Z (.cons Z (.cons Z (.cons Z (.cons Z (.cons (bX Z (by first | omega | rfl | (simp<;>omega))) .nil)))))) ?_;rintro aCz aw2 au0 ⟨jl,AJ,ID,N7,rfl,rfl,Cs,u5,Qf,Pu⟩;have:=Cs.size;have Mf:=λ q I=>(u5.lt q I).2;refine aj<|J (blt Z Z)<|ah<|aD<| ?_;refine ef Z (λ alK=> ?_) (λ alK=> ?_)
   ·obtain ⟨t,GZ⟩:∃ t,W.ag.getD jl default=t:=⟨_,rfl⟩;obtain ⟨nc,kk,lC,ml,nZ,Eb,HE⟩:fE t.id∧fE t.owner∧fE t.kind∧fE t.spot.x∧fE t.spot.y∧fE t.cG∧fE t.load:=aW.AU bs.T t (by rw [← GZ];exact lz (by omega));have Yh:AJ.length≤W.aY.length+1+W.bm.length+jl:=by rw [Pu,List.length_append,List.length_append,Rh,List.length_map,List.length_take];have:=Rl W W.bm.length;omega
    refine bx<|aD<|bP<|aj<|J (bY jl underlying26 h2 Z Z ((bs.T.keep Cs).bA (a8 jl (by omega))) Z (by omega))<|J (ak Z (κ.aH.ic ih ((bs.T.keep Cs).cL (a8 jl (by omega))) (show W.ag[jl]? =some t by rw [← GZ];exact dO (u:=default) (by omega)) vu h2))<|al Z FX Z Z λ au2 axV Cl aBt uY=> ?_;have:=Cl.size;have Ta:=τ Cs Cl;have aDS:=uY.lt;refine st (new:= [.int .i64 t.id, .int .i64 t.owner, .int .i64 t.kind, .int .i64 t.spot.x, .int .i64 t.spot.y, .int .i64 t.cG, .int .i64 t.load]) Z Z uY Z h2 Z Z Z λ adK ue uY=> ?_;have:=ue.size;have E0:=Ext.mod Ta ue (bR (by omega));have:=ue.size;refine ah<|rg<|vm Z<|J (aw Dg Z)<|J (ak Z (uY.one aZ Z))<|J (aw A7 Z)<|J (ak Z (uY.one aZ Z))<|J (aw J6 Z)<|J (ak Z (uY.one aZ Z))<|J (aw q2 Z)<|J (aw gJ Z)<|J (ak Z (uY.one aZ Z))<|J (aw q2 Z)<|J (aw hh Z)<|J (ak Z (uY.one aZ Z))<|J (aw Dh Z)<|J (ak Z (uY.one aZ Z))<|J (aw yK Z)<|J (ak Z (uY.one aZ Z))<|cH (e:= 3) (cs:= [.int .i64 4, .int .i64 t.id, .int .i64 t.owner, .int .i64 t.kind, .int .i64 t.spot.x, .int .i64 t.spot.y, .int .i64 t.cG, .int .i64 t.load]) Z (λ _=>by kernel_rfl) Z λ adL agI n8 ao0 E7=> ?_;have:=n8.size;have Ip:=τ E0 n8;have arW:=E7.lt;refine ca J2 Z Z ((zm ([4,t.id,t.owner,t.kind,t.spot.x,t.spot.y,t.cG,t.load]) _ _ _ (aK.yX (R:=bz) (by_:=8) (k:= [4,t.id,t.owner,t.kind,t.spot.x,t.spot.y,t.cG,t.load]) E7 [[.int .i64 4], [.int .i64 t.id], [.int .i64 t.owner], [.int .i64 t.kind], [.int .i64 t.spot.x], [.int .i64 t.spot.y], [.int .i64 t.cG], [.int .i64 t.load]] Z (⟨⟨Z,bt.2 (by decide)⟩,⟨⟨Z,nc⟩,⟨⟨Z,kk⟩,⟨⟨Z,lC⟩,⟨⟨Z,ml⟩,⟨⟨Z,nZ⟩,⟨⟨Z,Eb⟩,⟨⟨Z,HE⟩,trivial⟩⟩⟩⟩⟩⟩⟩⟩) (by simp) (by simp))).mono ?_);rintro e au7 ⟨rfl,S0⟩;refine ⟨_,Z, ?_⟩;have:=S0.size;have Tf:=τ Ip S0;refine cH (e:= 41) (cs:= [.int .u64 (U (ow ([4,t.id,t.owner,t.kind,t.spot.x,t.spot.y,t.cG,t.load])))]) Z (λ _=>by kernel_rfl) Z λ aF1 axZ pI aBy T4=> ?_;have:=pI.size;have awe:=τ Tf pI;have aDY:=T4.lt;have u5:=u5.later Cl;have u5:=u5.mod ue (cj Mf (by omega));have u5:=u5.later (τ n8 (τ S0 pI));refine ap ND κ.dV u5 (aK.gv (R:=iU) (by_:=8) (q:=(ow ([4,t.id,t.owner,t.kind,t.spot.x,t.spot.y,t.cG,t.load]))) T4 ⟨Z,trivial⟩ (by decide)) Z Z (by simp only [List.length_cons,List.length_nil];omega) (by simp only [List.length_cons,List.length_nil];omega) (by omega) Z λ aF3 aeJ ahe Q8 U1 azA aC3=> ?_;have:=Q8.size;have awg:=Ext.mod awe Q8 (λ q I=>Nat.le_trans (by omega) (u5.lt q I).1);have aFa:=λ q I=>(U1.lt q I).2;have:=Q8.size;refine va Z<|nl<|cg<|a6<|rg<|J (bad Z Z (bF (by omega)))<|vm Z<|nl<| ?_;exact du _ _ ⟨jl+1,AJ++ [(ow ([4,t.id,t.owner,t.kind,t.spot.x,t.spot.y,t.cG,t.load]))],aeJ,ahe,Z,Z,awg,U1,by omega,by rw [Pu,ap7 (by omega) GZ,List.append_assoc];rfl⟩ (by omega) (.cons Z (.cons Z (.cons Z (.cons Z (.cons Z (.cons (bX Z (by first | omega | rfl | (simp<;>omega))) .nil))))))
   ·refine dG<|dF<|eb<|dE<|a6<|aj<|vm Z<|ca ajo Z Z ((aqH AJ _ _ _ u5.has).mono ?_);rintro e aF9 ⟨rfl,aeg⟩;refine ⟨_,Z, ?_⟩;have:=aeg.size;have awl:=τ Cs aeg;refine va Z<|va Z<|ah<|rt<|bp (.tmp Z (.tmp Z .nil))<| ?_;exact ⟨by unfold py;rw [if_pos hc,hc,Pu,show jl=W.ag.length by omega,List.take_length];rfl,awl⟩
theorem abn (a:ae.b6) (W:ae) (w:World) (bs:ae.Has w a W):Calls prog 20 #[.agg (ae.cells a W).toArray] w (λ e w'=>e= .returned (.tuple #[.int .u64 (U (py W)), .int .i64 W.bh])∧Ext w w'):=by
 by_cases hc:W.bh=0
 ·exact apV a W w bs hc
 ·exact apU a W w bs hc
end
end Go.Proofs.YtlikikpgmmkjbaaGreat
