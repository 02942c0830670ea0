import Derived.Test.YtlikikpgmmkjbaaGreatInts
import Derived.Test.YtlikikpgmmkjbaaGreatShelf
import Derived.Test.YtlikikpgmmkjbaaGreatBas
import Derived.Lib.Builder
import Derived.Lib.AppendStr
import Derived.Lib.UnsafeStr
import Derived.Laws.Externs
import Derived.Test.YtlikikpgmmkjbaaGreatGra
import Derived.Test.YtlikikpgmmkjbaaGreatCelK
import Derived.Test.YtlikikpgmmkjbaaGreatGolR
import Derived.Test.YtlikikpgmmkjbaaGreatHitG
import Derived.Test.YtlikikpgmmkjbaaGreatPtq
set_option linter.unusedVariables false
set_option linter.unusedSimpArgs false
set_option maxRecDepth 100000
set_option maxHeartbeats 4000000
namespace Go.Proofs.YtlikikpgmmkjbaaGreat
end Go.Proofs.YtlikikpgmmkjbaaGreat
set_option linter.unusedVariables false
set_option linter.unusedSimpArgs false
namespace Go.Proofs.YtlikikpgmmkjbaaGreat.Pack
open Go.Proofs.YtlikikpgmmkjbaaGreat Go.Proofs.YtlikikpgmmkjbaaGreat.Bv

theorem putF_inj (k x y:Nat) (u v:List UInt8) (hx:x<128 ^ (k+1)) (hy:y<128 ^ (k+1)) (h:putF k x++u=putF k y++v):x=y∧u=v:=by
 induction k generalizing x y with
 | zero =>
  simp only [putF,List.singleton_append,List.cons.injEq] at h
  have:=congrArg UInt8.toNat h.1
  simp only [UInt8.toNat_ofNat'] at this
  simp at hx hy
  exact ⟨by omega,h.2⟩
 | succ k ih =>
  by_cases h1:x<128
  ·by_cases h2:y<128
   ·rw [putF_lt h1,putF_lt h2] at h
    simp only [List.singleton_append,List.cons.injEq] at h
    have:=congrArg UInt8.toNat h.1
    simp only [UInt8.toNat_ofNat'] at this
    exact ⟨by omega,h.2⟩
   ·rw [putF_lt h1,putF_ge h2] at h
    simp only [List.cons_append,List.cons.injEq] at h
    have:=congrArg UInt8.toNat h.1
    simp only [UInt8.toNat_ofNat'] at this
    omega
  ·by_cases h2:y<128
   ·rw [putF_ge h1,putF_lt h2] at h
    simp only [List.cons_append,List.cons.injEq] at h
    have:=congrArg UInt8.toNat h.1
    simp only [UInt8.toNat_ofNat'] at this
    omega
   ·rw [putF_ge h1,putF_ge h2] at h
    simp only [List.cons_append,List.cons.injEq] at h
    have e:=congrArg UInt8.toNat h.1
    simp only [UInt8.toNat_ofNat'] at e
    obtain ⟨h3,h4⟩:=ih (x / 128) (y / 128) (pow_lt_div hx) (pow_lt_div hy) h.2
    exact ⟨by omega,h4⟩
theorem putL_inj {x y:Nat} {u v:List UInt8} (hx:x<18446744073709551616) (hy:y<18446744073709551616) (h:putL x++u=putL y++v):x=y∧u=v:=putF_inj 9 x y u v (lt_pow hx) (lt_pow hy) h
theorem get_ok {l:List UInt8} {n:Nat} {rest:List UInt8} (h:GetIs l n rest 0):l=putL n++rest∧n<18446744073709551616:=by
 rcases h with ⟨k,hk,hkl,_,_,⟨h1,h2,h3,_⟩ | ⟨_,_,_,h⟩⟩ | ⟨_,_,_,_,h⟩ | ⟨_,_,_,_,h⟩
 ·subst h2;subst h3
  exact ⟨by rw [h1,List.take_append_drop],Nat.mod_lt _ (by decide)⟩
 all_goals cases h
theorem first_low {n k:Nat} {r:List UInt8} (hn:n<18446744073709551616) (hk:k<(putL n++r).length) (hh:∀ i (h:i<(putL n++r).length),i<k→128≤((putL n++r)[i]).toNat) (hl:((putL n++r)[k]).toNat<128):k+1=(putL n).length:=by
 have h1:=(putL_len n).2
 rcases Nat.lt_trichotomy (k+1) (putL n).length with h | h | h
 ·rw [List.getElem_append_left (by omega)] at hl
  have:=putF_high 9 n k (lt_pow hn) h (by show k<(putL n).length;omega)
  have e:(putF 9 n)[k]'(by show k<(putL n).length;omega)=(putL n)[k]'(by omega):=rfl
  rw [e] at this
  omega
 ·exact h
 ·have h2:=hh ((putL n).length - 1) (by simp;omega) (by omega)
  rw [List.getElem_append_left (by omega)] at h2
  have:=putF_last 9 n (lt_pow hn) ((putL n).length - 1) (by show _<(putL n).length;omega) (by show _=(putL n).length;omega)
  have e:(putF 9 n)[(putL n).length - 1]'(by show _<(putL n).length;omega)=(putL n)[(putL n).length - 1]'(by omega):=rfl
  rw [e] at this
  omega
theorem get_put {n:Nat} {r:List UInt8} {m:Nat} {rest:List UInt8} {e:Int} (hn:n<18446744073709551616) (h:GetIs (putL n++r) m rest e):m=n∧rest=r∧e=0:=by
 have hlen:=putL_len n
 have hlow:∃ i,∃ hi:i<(putL n++r).length,i<10∧((putL n++r)[i]).toNat<128:=by
  refine ⟨(putL n).length - 1,by simp;omega,by omega, ?_⟩
  rw [List.getElem_append_left (by omega)]
  exact putF_last 9 n (lt_pow hn) ((putL n).length - 1) (by show _<(putL n).length;omega) (by show _=(putL n).length;omega)
 rcases h with ⟨k,hk,hkl,hh,hl,h⟩ | ⟨_,hall,_⟩ | ⟨_,hall,_⟩
 ·have hk1:=first_low hn hkl hh (hl hkl)
  have ht:(putL n++r).take (k+1)=putL n:=by rw [hk1,List.take_left]
  have hv:val (putL n) % 18446744073709551616=n:=by rw [val_putL n hn,Nat.mod_eq_of_lt hn]
  rw [ht,hv] at h
  rcases h with ⟨_,h2,h3,h4⟩ | ⟨h1,_⟩
  ·refine ⟨h2, ?_,h4⟩
   rw [h3,hk1,List.drop_left]
  ·exact absurd rfl h1
 ·obtain ⟨i,hi,_,hlow⟩:=hlow
  have:=hall i hi
  omega
 ·obtain ⟨i,hi,hi10,hlow⟩:=hlow
  have:=hall i hi hi10
  omega
def unfoldN (n:Nat):Int:=if n % 2=0 then ((n / 2:Nat):Int) else -((n / 2:Nat):Int) - 1
theorem fold_unfold (n:Nat):foldN (unfoldN n)=n:=by
 unfold foldN unfoldN
 split<;>split<;>omega
theorem unfold_fold (x:Int):unfoldN (foldN x)=x:=by
 unfold foldN unfoldN
 split<;>split<;>omega
theorem foldN_lt (x:Int) (h0: -9223372036854775808≤x) (h1:x≤9223372036854775807):foldN x<18446744073709551616:=by
 unfold foldN
 split<;>omega
theorem unfoldN_bd (n:Nat) (h:n<18446744073709551616): -9223372036854775808≤unfoldN n∧unfoldN n≤9223372036854775807:=by
 unfold unfoldN
 split<;>omega
def items (l:List Int):List UInt8:=l.flatMap fun x=>putL (foldN x)
def putAllL (l:List Int):List UInt8:=putL l.length++items l
theorem items_cons (x:Int) (l:List Int):items (x::l)=putL (foldN x)++items l:=rfl
theorem items_app (a b:List Int):items (a++b)=items a++items b:=by unfold items;rw [List.flatMap_append]
theorem items_snoc (a:List Int) (x:Int):items (a++ [x])=items a++putL (foldN x):=by rw [items_app,items_cons];simp [items]
theorem items_len (l:List Int):(items l).length≤10 * l.length:=by
 induction l with
 | nil=>simp [items]
 | cons x l ih=>rw [items_cons];have:=(putL_len (foldN x)).1;simp;omega
theorem foldN_inj {x y:Int} (h:foldN x=foldN y):x=y:=by rw [← unfold_fold x,h,unfold_fold]
theorem items_inj:∀ (a b:List Int) (s:List UInt8),I64 a→I64 b→a.length≤b.length→items a++s=items b→a=b.take a.length∧s=items (b.drop a.length)
 | [],b,s,_,_,_,h=>⟨by simp,by simpa [items] using h⟩
 | x::a, [],s,_,_,hl,_=>by simp at hl
 | x::a,y::b,s,ha,hb,hl,h=>by
  rw [items_cons,items_cons,List.append_assoc] at h
  have hx:=ha x (by simp)
  have hy:=hb y (by simp)
  obtain ⟨h1,h2⟩:=putL_inj (foldN_lt x hx.1 hx.2) (foldN_lt y hy.1 hy.2) h
  obtain ⟨h3,h4⟩:=items_inj a b s (fun z hz=>ha z (by simp [hz])) (fun z hz=>hb z (by simp [hz])) (by simpa using hl) h2
  rw [foldN_inj h1]
  exact ⟨by simp;exact h3,by simpa using h4⟩
def GotAll (s:List UInt8) (out:List Int) (e:Int):Prop :=
 I64 out∧(e=0→s=putAllL out∧out.length≤1000)∧(e≠0→out= []∧∀ l,I64 l→l.length≤1000→s≠putAllL l)
theorem gotAll_put {l out:List Int} {e:Int} (hl:I64 l) (h1:l.length≤1000) (h:GotAll (putAllL l) out e):e=0∧out=l:=by
 obtain ⟨ho,h2,h3⟩:=h
 by_cases he:e=0
 ·obtain ⟨h4,h5⟩:=h2 he
  unfold putAllL at h4
  obtain ⟨h6,h7⟩:=putL_inj (by omega) (by omega) h4
  obtain ⟨h8,_⟩:=items_inj l out [] hl ho (by omega) (by rw [List.append_nil];exact h7)
  rw [h6,List.take_length] at h8
  exact ⟨he,h8.symm⟩
 ·exact absurd rfl ((h3 he).2 l hl h1)
theorem bad_count {s:List UInt8} {n:Nat} {r:List UInt8} {e:Int} (h:GetIs s n r e) (he:e≠0∨1000<n) {k:Int} (hk:k≠0):GotAll s [] k:=by
 refine ⟨fun x hx=>(by cases hx),fun h=>absurd h hk,fun _=>⟨rfl,fun l hl h1 hs=> ?_⟩⟩
 subst hs
 obtain ⟨h2,_,h3⟩:=get_put (by omega) h
 rcases he with he | he
 ·exact he h3
 ·omega
theorem bad_item {s:List UInt8} {n:Nat} {out:List Int} {r:List UInt8} {m:Nat} {r':List UInt8} {e:Int} (hs:s=putL n++(items out++r)) (hn:n<18446744073709551616) (ho:I64 out) (hlt:out.length<n) (h:GetIs r m r' e) (he:e≠0):GotAll s [] e:=by
 refine ⟨fun x hx=>(by cases hx),fun h=>absurd h he,fun _=>⟨rfl,fun l hl h1 hs2=> ?_⟩⟩
 rw [hs2] at hs
 unfold putAllL at hs
 obtain ⟨h2,h3⟩:=putL_inj (by omega) hn hs
 obtain ⟨h4,h5⟩:=items_inj out l r ho hl (by omega) h3.symm
 have h6:l.drop out.length=l[out.length]'(by omega)::l.drop (out.length+1):=List.drop_eq_getElem_cons (by omega)
 rw [h6,items_cons] at h5
 subst h5
 have hx:=hl (l[out.length]'(by omega)) (List.getElem_mem _)
 exact he (get_put (foldN_lt _ hx.1 hx.2) h).2.2
theorem bad_end {s:List UInt8} {n:Nat} {out:List Int} {r:List UInt8} (hs:s=putL n++(items out++r)) (hn:n<18446744073709551616) (ho:I64 out) (hlt:out.length=n) (hr:r≠ []) {k:Int} (hk:k≠0):GotAll s [] k:=by
 refine ⟨fun x hx=>(by cases hx),fun h=>absurd h hk,fun _=>⟨rfl,fun l hl h1 hs2=> ?_⟩⟩
 rw [hs2] at hs
 unfold putAllL at hs
 obtain ⟨h2,h3⟩:=putL_inj (by omega) hn hs
 obtain ⟨h4,h5⟩:=items_inj out l r ho hl (by omega) h3.symm
 rw [List.drop_eq_nil_of_le (by omega)] at h5
 exact hr h5
theorem good_end {s:List UInt8} {n:Nat} {out:List Int} (hs:s=putL n++(items out++ [])) (ho:I64 out) (hlt:out.length=n) (hn:n≤1000):GotAll s out 0 :=
 ⟨ho,fun _=>⟨by rw [hs,List.append_nil,← hlt];rfl,by omega⟩,fun h=>absurd rfl h⟩
end Go.Proofs.YtlikikpgmmkjbaaGreat.Pack
namespace Go.Proofs.YtlikikpgmmkjbaaGreat
end Go.Proofs.YtlikikpgmmkjbaaGreat
set_option linter.unusedVariables false
set_option linter.unusedSimpArgs false
namespace Go.Proofs.YtlikikpgmmkjbaaGreat.Pack
open Go.RowKit Go.Proofs.YtlikikpgmmkjbaaGreat

theorem sizeB:(Tryz.prog.info? 212).map (·.size)=some 2:=by kernel_rfl
theorem liesB:liesAt Tryz.prog Tryz.prog.depth 212 (2 / Tryz.prog.cellsOf 212) 0 212 1=true:=by kernel_rfl
theorem infoByte:(Tryz.prog.info? 5).map (fun i=>(i.zero,i.size,i.bytes))=some (some (.int .u8 0),1,1):=by kernel_rfl
theorem check_used (b:Nat) (w:World) (h0:w.cell? ⟨b,0,none⟩=some (.pointer (some ⟨b,0,none⟩))):
  Calls Tryz.prog 160 #[.pointer (some ⟨b,0,none⟩)] w fun e w'=>e= .returned (.tuple #[])∧w'=w:=by
 obtain ⟨j,hj,_⟩:=Option.map_eq_some_iff.1 sizeB
 go_enter Tryz.func160,Tryz.ntmps160
 go_wp2
 rw [Lib.run_neq_ptr_same w _ Tryz.underlying210 hj]
 go_wp2
 go_end0
 exact ⟨rfl,rfl⟩
theorem check_fresh (b:Nat) (w:World) (h0:w.cell? ⟨b,0,none⟩=some (.pointer none)) (hsh:w.shape? b=some (212,2)) (hfz:w.frozen? ⟨b,0,none⟩=false):
  Calls Tryz.prog 160 #[.pointer (some ⟨b,0,none⟩)] w fun e w'=>e= .returned (.tuple #[])∧w'=w.setCell ⟨b,0,none⟩ (.pointer (some ⟨b,0,none⟩)):=by
 obtain ⟨j,hj,hjs⟩:=Option.map_eq_some_iff.1 sizeB
 go_enter Tryz.func160,Tryz.ntmps160
 go_wp2
 rw [Lib.run_to_unsafe w ⟨b,0,none⟩ Tryz.underlying210 Tryz.underlying287 hj (by rw [hjs];decide) hsh (Nat.zero_lt_succ 1)]
 simp only [Result.andThen]
 rw [Oper.upon_value]
 go_wp2
 rw [run_callFunc_extern Tryz.func192 (by kernel_rfl) (by kernel_rfl) (by kernel_rfl) (e:=Extern.AbiNoEscape.same) (by kernel_rfl)]
 rw [Lib.run_noEscape]
 simp only [Result.andThen]
 rw [Oper.upon_value]
 go_wp2
 rw [Lib.run_from_unsafe w ⟨b,0,none⟩ Tryz.underlying287 Tryz.underlying210 hj hsh liesB]
 simp only [Result.andThen]
 rw [Oper.upon_value]
 go_wp2
 go_end0
 exact ⟨rfl,rfl⟩
theorem check_any (B b:Nat) (bs:List Value) (w:World) (h:Lib.IsBuilder 212 5 B b bs w):
  Calls Tryz.prog 160 #[.pointer (some ⟨b,0,none⟩)] w fun e w'=>e= .returned (.tuple #[])∧(Lib.BuilderAt 212 5 B b (.pointer (some ⟨b,0,none⟩)) bs w'∧Below B w w'):=by
 rcases h with h | h
 ·refine (check_fresh b w h.cell0 h.shape h.frozen0).mono ?_
  rintro e w' ⟨rfl,rfl⟩
  exact ⟨rfl,h.used _,(Below.refl B w).setCell (p:=⟨b,0,none⟩) h.1 _⟩
 ·refine (check_used b w h.cell0).mono ?_
  rintro e w' ⟨rfl,rfl⟩
  exact ⟨rfl,h,Below.refl B _⟩
theorem write_any (B b:Nat) (bs:List Value) (s:ByteArray) (w:World) (h:Lib.IsBuilder 212 5 B b bs w) (hlen:bs.length+s.size≤140737488355328) (hBw:B≤w.heap.size):
  Calls Tryz.prog 129 #[.pointer (some ⟨b,0,none⟩), .string s] w fun e w'=>e= .returned (.tuple #[.int .i64 s.size, .nilIface])∧(Lib.BuilderAt 212 5 B b (.pointer (some ⟨b,0,none⟩)) (bs++Lib.strCells s) w'∧Below B w w'):=by
 obtain ⟨i0,hi,hz0,hz1,hz2⟩:=info_parts infoByte
 go_enter Tryz.func129,Tryz.ntmps129
 go_wp2_with fail
 refine (check_any B b bs _ h).mono ?_
 rintro e w1 ⟨rfl,h1,hb1⟩
 obtain ⟨hB,v,hbk,hown,hne⟩:=h1
 have c0:w1.cell? ⟨b,0,none⟩=some (.pointer (some ⟨b,0,none⟩)):=by rw [Lib.cell_of_heap hbk];rfl
 have c1:w1.cell? ⟨b,1,none⟩=some v:=by rw [Lib.cell_of_heap hbk];rfl
 go_wp2_with (at_builtin;refine Lib.wpList_append_own_string _ rfl _ _ 76 9 rfl B 5 i0 Tryz.underlying76 Tryz.underlying9 hi hz0 hz1 hz2 _ _ _ rfl hown s rfl ?c3 ?c4 ?c5 ?_)
 case c3=>unfold maxLen;omega
 case c4=>omega
 case c5=>have:=hb1.size;omega
 intro v' w2 hown' hgrow _
 have hlt:b<w1.heap.size:=by
  rcases Nat.lt_or_ge b w1.heap.size with h' | h'
  ·exact h'
  ·simp [Array.getElem?_eq_none h'] at hbk
 have hb2:w2.heap[b]? =some (.cells #[.pointer (some ⟨b,0,none⟩),v] 212 (0,0)):=by
  rw [hgrow.block b hlt (fun e=>hne e.symm)]
  exact hbk
 have d0:w2.cell? ⟨b,0,none⟩=some (.pointer (some ⟨b,0,none⟩)):=by rw [Lib.cell_of_heap hb2];rfl
 have d1:w2.cell? ⟨b,1,none⟩=some v:=by rw [Lib.cell_of_heap hb2];rfl
 have f1:w2.frozen? ⟨b,1,none⟩=false:=Lib.frozen_of_heap hb2 1
 obtain ⟨ao,n',cap,rfl⟩:∃ ao n' cap,v'= .slice ao n' cap:=by
  rcases hown'.2 with ⟨hv,_⟩ | ⟨g,cap,cur,hv,_⟩
  ·exact ⟨_,_,_,hv⟩
  ·exact ⟨_,_,_,hv⟩
 go_wp2
 go_ret2
 refine ⟨rfl, ?_, ?_⟩
 ·exact Lib.BuilderAt.put (T:= 212) (e:= 5) hB hb2 (bs':=bs++Lib.strCells s) (by simpa [Lib.strCells_length] using hown') (by decide)
 ·exact (hb1.grown hgrow (by have:=hb1.size;omega) (fun k hk=>(hown.lt k hk).1)).setCell (p:=⟨b,1,none⟩) hB _
end Go.Proofs.YtlikikpgmmkjbaaGreat.Pack
namespace Go.Proofs.YtlikikpgmmkjbaaGreat
end Go.Proofs.YtlikikpgmmkjbaaGreat
set_option linter.unusedVariables false
set_option linter.unusedSimpArgs false
namespace Go.Proofs.YtlikikpgmmkjbaaGreat.Pack
open Go.RowKit Go.Proofs.YtlikikpgmmkjbaaGreat Go.Proofs.YtlikikpgmmkjbaaGreat.Bv

theorem bits_i64_range (op:BinOp) (a b:Int): -9223372036854775808≤bits op .i64 a b∧bits op .i64 a b≤9223372036854775807:=by
 have h:bits op .i64 a b=IntKind.i64.wrap (bits op .i64 a b):=by
  unfold bits
  rw [IntKind.wrap_i64,IntKind.wrap_i64]
  omega
 rw [h,IntKind.wrap_i64]
 omega
theorem eqi64 {x y:Int} (h0: -9223372036854775808≤x) (h1:x≤9223372036854775807) (g0: -9223372036854775808≤y) (g1:y≤9223372036854775807) (h:BitVec.ofInt 64 x=BitVec.ofInt 64 y):x=y:=by
 have e:=congrArg BitVec.toInt h
 rw [BitVec.toInt_ofInt,BitVec.toInt_ofInt] at e
 simp only [Int.bmod] at e
 omega
theorem xor_zero64 (x:Int) (h0: -9223372036854775808≤x) (h1:x≤9223372036854775807):bits .xor .i64 x 0=x:=by
 refine eqi64 (bits_i64_range _ _ _).1 (bits_i64_range _ _ _).2 h0 h1 ?_
 rw [of_xori64]
 simp
theorem xor_neg64 (x:Int) (h0: -9223372036854775808≤x) (h1:x≤9223372036854775807):bits .xor .i64 x (-1)= -x - 1:=by
 refine eqi64 (bits_i64_range _ _ _).1 (bits_i64_range _ _ _).2 (by omega) (by omega) ?_
 rw [of_xori64]
 have e1:BitVec.ofInt 64 (-1)=BitVec.allOnes 64:=by decide
 rw [e1,BitVec.xor_allOnes]
 have e2:(-x - 1:Int)= -x+ -1:=by omega
 rw [e2,BitVec.ofInt_add,BitVec.ofInt_neg,e1]
 rw [BitVec.not_eq_neg_add,BitVec.sub_eq_add_neg,show -1#64=BitVec.allOnes 64 from by decide]
theorem unfold_any (n:Nat) (hn:n<18446744073709551616) (w:World):
  Calls Tryz.prog 120 #[.int .u64 (n:Int)] w fun e w'=>e= .returned (.int .i64 (unfoldN n))∧w=w':=by
 have h2:n / 2<9223372036854775808:=by omega
 have hx0:=xor_zero64 ((n / 2:Nat):Int) (by omega) (by omega)
 have hx1:=xor_neg64 ((n / 2:Nat):Int) (by omega) (by omega)
 have hd:(n:Int) / 2=((n / 2:Nat):Int):=by omega
 have ha:bits .and .u64 (n:Int) 1=((n % 2:Nat):Int):=by
  have h:=(bits_nat .u64 64 (by decide) wraps_u64 n 1 (by omega) (by decide)).1
  rw [Nat.and_one_is_mod] at h
  exact h
 unfold unfoldN
 obtain ⟨m,HM⟩:∃ m,Hid (n / 2=m):=⟨_,Lib.hid rfl⟩
 rw [HM.out] at h2 hx0 hx1 hd ⊢
 rcases Nat.mod_two_eq_zero_or_one n with h | h
 ·rw [h] at ha ⊢
  rw [if_pos rfl]
  have ha:bits .and .u64 (n:Int) 1=0:=ha
  clear h
  go_enter Tryz.func120,Tryz.ntmps120
  go_wp2_with fail
  go_ret
  exact ⟨rfl,rfl⟩
 ·rw [h] at ha ⊢
  rw [if_neg (by decide)]
  have ha:bits .and .u64 (n:Int) 1=1:=ha
  clear h
  go_enter Tryz.func120,Tryz.ntmps120
  go_wp2_with fail
  go_ret
  exact ⟨rfl,rfl⟩
theorem built_later {T e:TypeId} {B b:Nat} {p:Value} {bs:List Value} {w w':World} (h:Lib.BuilderAt T e B b p bs w) (hb:Below w.heap.size w w'):Lib.BuilderAt T e B b p bs w':=by
 have hlt:=h.lt
 obtain ⟨hB,v,hbk,hown,hne⟩:=h
 exact ⟨hB,v,by rw [hb.block b hlt];exact hbk,ownsRow_later hown hb,hne⟩
theorem putAll_long (A:Option Addr) (n c:Nat) (hn:1000<n) (w:World):
  Calls Tryz.prog 92 #[.slice A n c] w fun e w'=>e= .returned (.tuple #[.string ⟨#[]⟩, .int .i64 2])∧w=w':=by
 have hn2:(1000:Int)<(n:Int):=by omega
 go_enter Tryz.func92,Tryz.ntmps92
 go_wp2_with fail
 go_ret2
 exact ⟨rfl,rfl⟩
theorem putAll_any (A:Option Addr) (n c:Nat) (l:List Int) (hl:l.length=n) (hn:n≤1000) (h64:I64 l) (w:World) (hr:Rd w 1 A n (cellsI l)):
  Calls Tryz.prog 92 #[.slice A n c] w fun e w'=>e= .returned (.tuple #[.string (strOf (putAllL l)), .int .i64 0])∧Below w.heap.size w w':=by
 have hB:Lib.IsBuilder 212 5 w.heap.size w.heap.size [] (w.alloc (.cells #[.pointer none, .slice none 0 0] 212)):=
  .inl ⟨Nat.le_refl _, .slice none 0 0,heap_alloc_new w _,World.ownsRow_nil _ _ _ _,by simp [Value.ownBlock]⟩
 have hb0:Below w.heap.size w (w.alloc (.cells #[.pointer none, .slice none 0 0] 212)):=(Below.refl _ _).alloc (Nat.le_refl _) _
 have hw:IntKind.u64.wrap (n:Int)=(n:Int):=by rw [IntKind.wrap_u64];omega
 have HL:=Lib.hid hl
 clear hl
 go_enter Tryz.func92,Tryz.ntmps92
 go_wp2_with fail
 refine (put_any n (by omega) _ rfl _).mono ?_
 rintro e w1 ⟨rfl,hb1⟩
 have hB1:Lib.IsBuilder 212 5 w.heap.size w.heap.size [] w1:=by
  rcases hB with h | h
  ·exact .inl (built_later h hb1)
  ·exact .inr (built_later h hb1)
 have hb2:=hb0.trans (hb1.mono hb0.size)
 clear hB hb1
 have hpl:=putL_len n
 go_wp2_with fail
 refine (write_any w.heap.size w.heap.size [] (strOf (putL n)) w1 hB1 (by rw [strOf_size];simp;omega) hb2.size).mono ?_
 rintro e w2 ⟨rfl,hB2,hb3⟩
 have hb4:=hb2.trans hb3
 rw [List.nil_append,Lib.strCells_eq,strOf_list] at hB2
 clear hB1 hb2 hb3
 go_wp2_with fail
 go_loopw [17] (fun i wr=>∃ k:Nat,k≤n∧i= .int .i64 (k:Int)∧Lib.BuilderAt 212 5 w.heap.size w.heap.size (.pointer (some ⟨w.heap.size,0,none⟩)) (Lib.byteCells (putL n++items (l.take k))) wr∧Below w.heap.size w wr) (fun i _=>n - (intOf i).toNat)
 case atStart=>exact ⟨0,Nat.zero_le _,rfl,by simpa [items] using hB2,hb4⟩
 case round =>
  clear hB2 hb4
  obtain ⟨k,hk,rfl,hB,hb⟩:=hrel
  by_cases hlt:k<n
  ·obtain ⟨b,o,rfl,hc⟩:=hr.2 (by omega)
   have hkl:k<l.length:=by rw [HL.out];exact hlt
   have hx:=cell_below hb (hc k _ (cellsI_get l k hkl)) (World.block_lt_of_cell? w _ (hc k _ (cellsI_get l k hkl)))
   have hx64:=h64 l[k] (List.getElem_mem hkl)
   have htk:items (l.take (k+1))=items (l.take k)++putL (foldN l[k]):=by rw [List.take_succ_eq_append_getElem hkl,items_snoc]
   have HT:=Lib.hid htk
   generalize l[k]=x at *
   have hfl:=foldN_lt x hx64.1 hx64.2
   have hfold:=fold_any x hx64.1 hx64.2
   have hpl2:=putL_len (foldN x)
   have hil:=items_len (l.take k)
   have htl:(l.take k).length≤k:=List.length_take_le _ _
   clear htk
   generalize foldN x=y at *
   go_wp2_with fail
   refine (hfold _).mono ?_
   rintro e w' ⟨rfl,rfl⟩
   go_wp2_with fail
   refine (put_any y hfl _ rfl _).mono ?_
   rintro e w5 ⟨rfl,hb5⟩
   have hB5:=built_later hB hb5
   have hb6:=hb.trans (hb5.mono hb.size)
   go_wp2_with fail
   refine (write_any w.heap.size w.heap.size _ (strOf (putL y)) w5 (.inr hB5) (by rw [strOf_size,Lib.byteCells_length];simp;omega) hb6.size).mono ?_
   rintro e w6 ⟨rfl,hB6,hb7⟩
   have hb8:=hb6.trans hb7
   rw [Lib.strCells_eq,strOf_list,← Lib.byteCells_append,List.append_assoc,← HT.out] at hB6
   clear hB hB5 hb hb5 hb6 hb7
   go_wp2_with fail
   go_roundw
   case rel=>exact ⟨k+1,by omega,by go_num,hB6,hb8⟩
   case measure=>simp [intOf];omega
  ·obtain rfl:k=n:=by omega
   rw [List.take_of_length_le (by rw [HL.out];exact Nat.le_refl _)] at hB
   go_wp2_with fail
   refine (Tryz.Builder_String_any w.heap.size w.heap.size (putL k++items l) wr (.inr hB) hb.size).mono ?_
   rintro e w9 ⟨rfl,hb9⟩
   go_wp2_with fail
   go_ret2
   refine ⟨?_,hb.trans hb9⟩
   unfold putAllL strOf
   rw [HL.out]
   rfl
def GetAllPost (s:ByteArray) (w:World) (e:Ending) (w':World):Prop :=
 ∃ (out:List Int) (k:Int) (A:Option Addr) (n c:Nat),GotAll s.data.toList out k∧e= .returned (.tuple #[.slice A n c, .int .i64 k])∧Own w' w.heap.size 3 1 GI (.slice A n c) out.length (cellsI out)∧Below w.heap.size w w'
theorem getAll_any (s:ByteArray) (hs:s.size≤9223372036854775807) (w:World):Calls Tryz.prog 85 #[.string s] w (GetAllPost s w):=by
 obtain ⟨i0,hi,hz0,hz1,hz2⟩:=info_parts infoI64
 go_enter Tryz.func85,Tryz.ntmps85
 go_wp2_with fail
 refine (get_any s hs w).mono ?_
 rintro e w1 ⟨n,rest,k,hG,rfl,hb1⟩
 have HG:=Lib.hid hG
 by_cases hk:k=0
 ·subst hk
  obtain ⟨hsr,hn64⟩:=get_ok hG
  have HS:=Lib.hid hsr
  have HN:=Lib.hid hn64
  have hsz:rest.length≤s.size:=by
   have h:=congrArg List.length hsr
   simp at h
   have e:s.data.size=s.size:=rfl
   omega
  clear hsr hG hn64
  by_cases hn:1000<n
  ·have hn2:(1000:Int)<(n:Int):=by omega
   go_wp2_with fail
   go_ret2
   exact ⟨[],2,none,0,0,bad_count HG.out (.inr hn) (by decide),rfl,Own.nil _ _ _ _ _,hb1⟩
  ·have hn2:¬ (1000:Int)<(n:Int):=by omega
   go_wp2_with fail
   go_loopw [0,5,6,24] (fun S E v i wr=>∃ (j:Nat) (out:List Int) (r:List UInt8),j≤n∧i= .int .u64 (j:Int)∧S= .string (strOf r)∧E= .int .i64 0∧out.length=j∧Own wr w.heap.size 3 1 GI v j (cellsI out)∧Below w.heap.size w wr∧
     Hid (s.data.toList=putL n++(items out++r))∧Hid (I64 out)∧r.length≤s.size) (fun _ _ _ i _=>n - (intOf i).toNat)
   case atStart=>exact ⟨0, [],rest,Nat.zero_le _,rfl,rfl,rfl,rfl,Own.nil _ _ _ _ _,hb1,HS,(fun x hx=>by cases hx),hsz⟩
   case round =>
    clear hb1 HS hsz
    obtain ⟨j,out,r,hj,rfl,rfl,rfl,hol,hown,hb,HS,HI,hrs⟩:=hrel
    have HO:=Lib.hid hol
    clear hol
    by_cases hlt:j<n
    ·go_wp2_with fail
     refine (get_any (strOf r) (by rw [strOf_size];omega) wr).mono ?_
     rintro e w2 ⟨m,r2,k2,hG2,rfl,hb2⟩
     rw [strOf_list] at hG2
     have hb3:=hb.trans (hb2.mono hb.size)
     by_cases hk2:k2=0
     ·subst hk2
      obtain ⟨hr2,hm64⟩:=get_ok hG2
      have hunf:=unfold_any m hm64
      have hbd:=unfoldN_bd m hm64
      have hfu:=fold_unfold m
      have HS2:Hid (s.data.toList=putL n++(items (out++ [unfoldN m])++r2)):=by
       show _=_
       rw [HS.out,hr2,items_snoc,hfu,List.append_assoc]
      have HI2:Hid (I64 (out++ [unfoldN m])):=by
       intro x hx
       rcases List.mem_append.1 hx with h | h
       ·exact HI.out x h
       ·simp at h;subst h;exact hbd
      have hrs2:r2.length≤s.size:=by
       have h:=congrArg List.length hr2
       simp at h;omega
      have hown2:=hown.later hb2
      have HM:=Lib.hid hm64
      clear hr2 hm64 hfu hG2 hbd hown HS HI
      generalize unfoldN m=x at *
      have hb4:=hb3.alloc hb3.size (.cells #[.int .i64 x] 3)
      have hown4:=hown2.later ((Below.refl w2.heap.size w2).alloc (Nat.le_refl _) (.cells #[.int .i64 x] 3))
      have hrd:Rd (w2.alloc (.cells #[.int .i64 x] 3)) 1 (some ⟨w2.heap.size,0,none⟩) 1 [.int .i64 x] :=
       ⟨rfl,fun _=>⟨w2.heap.size,0,rfl,fun q u hq=>by
        match q,hq with
        | 0,hq=>simp at hq;subst hq;simp⟩⟩
      have HOW:=Lib.hid hown4
      have HRD:=Lib.hid hrd
      clear hown2 hown4 hrd
      go_wp2_with fail
      refine (hunf _).mono ?_
      rintro e w' ⟨rfl,rfl⟩
      go_wp2_with (at_builtin;refine wpList_append_all _ rfl _ _ 22 rfl w.heap.size 3 i0 (.int .i64 0) 1 8 Tryz.underlying22 hi hz0 hz1 hz2 rfl (by decide) GI ?g1 _ j (cellsI out) rfl HOW.out (some ⟨w2.heap.size,0,none⟩) 1 1 [.int .i64 x] rfl HRD.out ?g2 ?g3 ?g4 ?g5 ?g6 ?_)
      case g1=>intro q u hq;match q,hq with | 0,hq=>exact ⟨0,(Option.some.inj hq).symm⟩
      case g2=>intro u hu;simp at hu;subst hu;rfl
      case g3=>intro q u hq;match q,hq with | 0,hq=>exact ⟨x,(Option.some.inj hq).symm⟩
      case g4=>unfold maxLen;omega
      case g5=>omega
      case g6=>exact hb4.size
      intro v' w5 hown5 hgrow _ hat
      have hb5:=hb4.grown hgrow hb4.size (fun q hq=>(HOW.out.row.lt q hq).1)
      rw [← cellsI_snoc] at hown5
      clear hgrow hat hb4 hb3 hb2
      go_wp2_with fail
      go_roundw
      case rel=>exact ⟨j+1,out++ [x],r2,by omega,by go_num,rfl,rfl,by simp [HO.out],hown5,hb5,HS2,HI2,hrs2⟩
      case measure=>simp [intOf];omega
     ·have hk3:(k2 != 0)=true:=by rw [bne_iff_ne];exact hk2
      have HK:=Lib.hid hk2
      have hbad:=bad_item HS.out HN.out HI.out (by rw [HO.out];exact hlt) hG2 HK.out
      have HB:=Lib.hid hbad
      clear hk2 hG2 hbad
      go_wp2_with fail
      go_ret2
      exact ⟨[],k2,none,0,0,HB.out,rfl,Own.nil _ _ _ _ _,hb3⟩
    ·obtain rfl:j=n:=by omega
     by_cases hr:r= []
     ·subst hr
      have h1:(strOf []).toList= []:=by rw [ByteArray.toList_eq,strOf_list]
      have h2:(!(strOf []).toList.isEmpty)=false:=by rw [ByteArray.toList_eq,strOf_list];rfl
      obtain ⟨A,c,rfl,_⟩:=hown.shape
      have HE:=Lib.hid (good_end HS.out HI.out HO.out (by omega))
      clear HS
      go_wp2_with fail
      go_ret2
      exact ⟨out,0,A,j,c,HE.out,rfl,by rw [HO.out];exact hown,hb⟩
     ·have h1:¬ (strOf r).toList= []:=by rw [ByteArray.toList_eq,strOf_list];exact hr
      have h2:(!(strOf r).toList.isEmpty)=true:=by rw [ByteArray.toList_eq,strOf_list];simpa using hr
      have HE:=Lib.hid (bad_end (k:=4) HS.out HN.out HI.out HO.out hr (by decide))
      clear HS hr
      go_wp2_with fail
      go_ret2
      exact ⟨[],4,none,0,0,HE.out,rfl,Own.nil _ _ _ _ _,hb⟩
 ·have hk3:(k != 0)=true:=by rw [bne_iff_ne];exact hk
  have hk4:(k == 0)=false:=by rw [beq_eq_false_iff_ne];exact hk
  have HK:=Lib.hid hk
  clear hk hG
  go_wp2_with fail
  go_ret2
  exact ⟨[],k,none,0,0,bad_count HG.out (.inl HK.out) HK.out,rfl,Own.nil _ _ _ _ _,hb1⟩
end Go.Proofs.YtlikikpgmmkjbaaGreat.Pack
namespace Go.Proofs.YtlikikpgmmkjbaaGreat
section
open Go.RowKit Go.Proofs.YtlikikpgmmkjbaaGreat.Bv
def repU:Rep (BitVec 64):=Rep.flat 1 (λ b=> [.int .u64 (U b)]) (λ _=>True) (λ _ u=>∃ n:Int,u= .int .u64 n) (λ _=>rfl) (by intro a u hu;simp at hu;subst hu;rfl) (by
 intro a j u hu
 cases j with
 | zero=>simp at hu;exact ⟨_,hu.symm⟩
 | succ j=>simp at hu)
theorem hcU {w:World} {cs:List Value} {a:BitVec 64} (h:repU.has w cs a):cs= [.int .u64 (U a)]:=And.left (show cs= [.int .u64 (U a)]∧True from h)
theorem info_u64:(Tryz.prog.info? 41).map (λ i=>(i.zero,i.size,i.bytes))=some (some (.int .u64 0),1,8):=by kernel_rfl
theorem raw0U:∀ (j:Nat) u,(Value.int .u64 0).cells[j]? =some u→repU.raw j u:=by
 intro j u hu
 have hu:(#[(.int .u64 0:Value)]:Array Value)[j]? =some u:=hu
 match j,hu with
 | 0,hu=>exact ⟨0,(Option.some.inj hu).symm⟩
 | j+1,hu=>simp at hu
theorem sl_of {by_:Nat} {w:World} {A:Option Addr} {c:Nat} {l:List (BitVec 64)} (h:repU.SHas by_ w A c l):Mark.Sl w A l.length l:=by
 refine ⟨rfl,h.len_le, ?_⟩
 cases hl:l with
 | nil=>exact .inl rfl
 | cons x r =>
  rw [← hl]
  obtain ⟨b,o,e,hc⟩:=h.at_ (by rw [hl];simp)
  refine .inr ⟨b,o,e,λ i hi=> ?_⟩
  obtain ⟨es,⟨rfl,_⟩,hj⟩:=hc i _ (List.getElem?_eq_getElem hi)
  have:=hj 0 _ rfl
  simpa [repU,Rep.flat] using this
theorem flat_intsU {w:World}:∀ {ess:List (List Value)} {l:List Int},All2 (λ es a=>repI.has w es a) ess l→ess.flatten=l.map (Value.int .i64)
 | [], [],_=>rfl
 | es::ess,a::l,h=>by
  obtain ⟨h1,h2⟩:=h
  rw [List.flatten_cons,hcI h1,flat_intsU h2];rfl
 | [],_::_,h=>h.elim
 | _::_, [],h=>h.elim
def packN (l:List Int):List UInt8:=if l.length≤1000 then Pack.putAllL l else []
def leafN (l:List Int):BitVec 64:=Tree.leafF (packN l)
theorem packN_len (l:List Int):(packN l).length≤20000:=by
 unfold packN
 split
 ·rename_i h
  unfold Pack.putAllL;rw [List.length_append]
  have:=(Pack.putL_len l.length).1
  have:=Pack.items_len l
  omega
 ·simp
theorem pack_leaf (l:List Int) (A:Option Addr) (c:Nat) (w:World) (h:repI.SHas 8 w A c l):Calls Tryz.prog 92 #[.slice A l.length c] w λ e w'=>(∃ k,e= .returned (.tuple #[.string (Pack.strOf (packN l)), .int .i64 k]))∧Ext w w':=by
 unfold packN
 by_cases hn:l.length≤1000
 ·rw [if_pos hn]
  have hr:Rd w 1 A l.length (cellsI l):=by
   obtain ⟨s1,s2,s3,s4,ess,s5,s6⟩:=h
   rw [flat_intsU s5] at s6;exact s6
  exact (Pack.putAll_any A l.length c l rfl hn (λ x hx=>okI_iff.1 (repI_ok h x hx)) w hr).mono λ e w' h=>⟨⟨0,h.1⟩,h.2⟩
 ·rw [if_neg hn]
  exact (Pack.putAll_long A l.length c (by omega) w).mono λ e w' h=>⟨⟨2,h.1⟩,by rw [← h.2];exact Ext.rf w⟩
theorem leaf_text (s:List UInt8) (hs:s.length≤20000) (w:World):Calls Tryz.prog 83 #[.string (Pack.strOf s)] w λ e w'=>e= .returned (.int .u64 (U (Tree.leafF s)))∧Ext w w':=by
 refine (Tree.leaf_any (Pack.strOf s) (by rw [Pack.strOf_size];omega) w).mono ?_
 rintro e w' ⟨rfl,q,rfl⟩
 exact ⟨by rw [Pack.strOf_list],below_drewN (Below.refl _ w) q⟩
theorem of_leaf (l:List (BitVec 64)) (A:Option Addr) (c:Nat) (w:World) (h:repU.SHas 8 w A c l):Calls Tryz.prog 58 #[.slice A l.length c] w λ e w'=>e= .returned (.int .u64 (U (Mark.ofF Mark.mix l)))∧Ext w w':=Mark.of_any A l.length c l w (sl_of h)
def mkF (W:Wd):BitVec 64:=leafN ([1,W.field.wide,W.field.high,W.next,W.now]++W.field.places)
def mkB (W:Wd) (i:Nat):BitVec 64:=leafN [2,(i:Int),(W.bases.getD i default).x,(W.bases.getD i default).y,W.stocks.getD i 0]
def mkM (W:Wd):Nat→List (BitVec 64)
 | 0=> []
 | k+1=>mkM W k++(if W.mines.getD k 0=0 then [] else [leafN [3,(k:Int),W.mines.getD k 0]])
def mkT (t:Trp):BitVec 64:=leafN [4,t.id,t.owner,t.kind,t.spot.x,t.spot.y,t.life,t.load]
def marksB (W:Wd) (k:Nat):List (BitVec 64):= [mkF W]++(List.range k).map (mkB W)
def marks (W:Wd):List (BitVec 64):=marksB W W.bases.length++mkM W W.mines.length++W.troops.map mkT
def markN (W:Wd):BitVec 64:=if W.chk=0 then Mark.ofF Mark.mix (marks W) else 0#64
theorem marksB_succ (W:Wd) (k:Nat):marksB W (k+1)=marksB W k++ [mkB W k]:=by
 unfold marksB;rw [List.range_succ,List.map_append,← List.append_assoc];rfl
theorem mkM_len (W:Wd):∀ k,(mkM W k).length≤k
 | 0=>Nat.le_refl 0
 | k+1=>by
  have:=mkM_len W k
  rw [mkM,List.length_append];split<;>simp<;>omega
theorem marksB_len (W:Wd) (k:Nat):(marksB W k).length=k+1:=by unfold marksB;simp
theorem mkT_snoc {l:List Trp} {k:Nat} {t:Trp} (hk:k<l.length) (ht:l.getD k default=t):(l.take (k+1)).map mkT=(l.take k).map mkT++ [mkT t]:=by
 rw [← ht,List.getD_eq_getElem?_getD,List.getElem?_eq_getElem hk,← List.take_append_getElem hk,List.map_append];rfl
end
section
open Go.RowKit
def Tells (w:World) (T:List SV) (L:List (List Odr)):Prop:=T.length=L.length∧∀ (i:Nat) (v:SV),T[i]? =some v→∃ l:List Odr,L[i]? =some l∧v.n=l.length∧Odr.rep.SHas 48 w v.a v.c l
section
variable {w w':World} {T T':List SV} {L L':List (List Odr)} {W:Wd} {l:List Odr} {k:Nat} {e:Int} {V:Wd} {ms:List (BitVec 64)}
theorem Tells.keep (h:Tells w T L) (hx:Ext w w'):Tells w' T L:=⟨h.1,λ i v hi=>by
 obtain ⟨l,h1,h2,h3⟩:=h.2 i v hi
 exact ⟨l,h1,h2,h3.keep hx⟩⟩
theorem Tells.nil:Tells w [] []:=⟨rfl,λ i v h=>by simp at h⟩
theorem Tells.one {A:Option Addr} {c:Nat} (h:Odr.rep.SHas 48 w A c l):Tells w [⟨A,l.length,c⟩] [l]:=⟨rfl,λ i v hi=>by
 match i,hi with
 | 0,hi=>obtain rfl:=(Option.some.inj hi);exact ⟨l,rfl,rfl,h⟩⟩
theorem Tells.app (h:Tells w T L) (h':Tells w T' L'):Tells w (T++T') (L++L'):=⟨by rw [List.length_append,List.length_append,h.1,h'.1],λ i v hi=>by
 rcases Nat.lt_or_ge i T.length with hl | hl
 ·rw [List.getElem?_append_left hl] at hi
  rw [List.getElem?_append_left (by rw [← h.1];exact hl)]
  exact h.2 i v hi
 ·rw [List.getElem?_append_right hl] at hi
  rw [List.getElem?_append_right (by rw [← h.1];exact hl),← h.1]
  exact h'.2 _ v hi⟩
theorem Tells.at_ (h:Tells w T L) (hk:k<T.length):∃ A c l,T[k]? =some ⟨A,l.length,c⟩∧L[k]? =some l∧Odr.rep.SHas 48 w A c l:=by
 obtain ⟨v,hv⟩:∃ v,T[k]? =some v:=⟨_,List.getElem?_eq_getElem hk⟩
 obtain ⟨l,h1,h2,h3⟩:=h.2 k v hv
 obtain ⟨a,n,c⟩:=v
 dsimp only at h2 h3
 subst h2
 exact ⟨a,c,l,hv,h1,h3⟩
noncomputable def runW (W:Wd) (L:List (List Odr)):Wd:=L.foldl turnW W
noncomputable def runX (W:Wd):List (List Odr)→List (BitVec 64)
 | []=> [markN W]
 | l::r=>markN W::runX (turnW W l) r
noncomputable def runE (W:Wd):List (List Odr)→Int
 | []=>0
 | l::r=>if turnE W l≠0 then turnE W l else runE (turnW W l) r
def RRes (W:Wd) (L:List (List Odr)) (e:Int) (V:Wd) (ms:List (BitVec 64)):Prop:=(e=0∧L.length≤200∧W.chk=0∧runE W L=0∧V=runW W L∧ms=runX W L)∨(e≠0∧(200<L.length∨W.chk≠0∨runE W L≠0)∧V=Wd.zero∧ms= [])
theorem runW_app:runW W (L++L')=runW (runW W L) L':=List.foldl_append
theorem runX_len:∀ (L:List (List Odr)) (W:Wd),(runX W L).length=L.length+1
 | [],_=>rfl
 | l::r,W=>by rw [runX,List.length_cons,List.length_cons,runX_len r]
theorem runX_snoc:∀ (L:List (List Odr)) (W:Wd),runX W (L++ [l])=runX W L++ [markN (turnW (runW W L) l)]
 | [],_=>rfl
 | l::r,W=>by rw [List.cons_append,runX,runX,runX_snoc r];rfl
theorem runE_app:∀ (L:List (List Odr)) (W:Wd),runE W (L++L')=if runE W L≠0 then runE W L else runE (runW W L) L'
 | [],W=>by rw [List.nil_append];unfold runE;rw [if_neg (by simp)];rfl
 | l::r,W=>by
  rw [List.cons_append,runE,runE]
  by_cases h:turnE W l≠0
  ·rw [if_pos h,if_pos h,if_pos h]
  ·rw [if_neg h,if_neg h,runE_app r];rfl
theorem runE_one:runE W [l]=turnE W l:=by
 unfold runE
 split
 ·rfl
 ·rename_i h;unfold runE;have:turnE W l=0:=by simpa using h
  rw [this]
theorem take_snoc_ {α:Type} {L:List α} {l:α} (h:L[k]? =some l):L.take (k+1)=L.take k++ [l]:=by
 have hk:=(List.getElem?_eq_some_iff.1 h).1
 have e:=(List.getElem?_eq_some_iff.1 h).2
 rw [← e,List.take_append_getElem]
theorem run_step (h0:runE W (L.take k)=0) (hl:L[k]? =some l):runE W (L.take (k+1))=turnE (runW W (L.take k)) l:=by
 rw [take_snoc_ hl,runE_app,if_neg (by simpa using h0),runE_one]
theorem run_bad (h0:runE W (L.take k)≠0):runE W L≠0:=by
 have:L=L.take k++L.drop k:=(List.take_append_drop k L).symm
 rw [this,runE_app,if_pos h0];exact h0
theorem RRes.ok (h:RRes W L e V ms) (h0:e=0):L.length≤200∧W.chk=0∧runE W L=0∧V=runW W L∧ms=runX W L:=by
 rcases h with ⟨_,h⟩ | ⟨h1,_⟩
 ·exact h
 ·exact absurd h0 h1
theorem RRes.zero (h:RRes W L e V ms) (h1:L.length≤200) (h2:W.chk=0) (h3:runE W L=0):e=0∧V=runW W L∧ms=runX W L:=by
 rcases h with ⟨h0,_,_,_,h4,h5⟩ | ⟨_,h4,_⟩
 ·exact ⟨h0,h4,h5⟩
 ·omega
end
end
section
open Go.RowKit
theorem Tmk_el_S_int:ElT Tryz.prog repI 22 3 8:=ElT.mk_ (z:= .int .i64 0) (k:=1) Tryz.underlying22 info_int rfl rfl (by decide) (λ j u h=>raw0I j u h)
theorem Tmk_el_S_uint64:ElT Tryz.prog repU 38 41 8:=ElT.mk_ (z:= .int .u64 0) (k:=1) Tryz.underlying38 info_u64 rfl rfl (by decide) (λ j u h=>raw0U j u h)
open Go.Proofs.YtlikikpgmmkjbaaGreat.Bv
theorem leaf_any (l:List Int) (A:Option Addr) (c:Nat) (w:World) (hl:repI.SHas 8 w A c l):
  Calls Tryz.prog 57 #[.slice A l.length c] w (λ e w'=>e= .returned (.int .u64 (U (leafN l)))∧Ext w w'):=by
 refine calls_W (n:=12) Tryz.func57 rfl rfl rfl ?_
 refine sg<|va rfl<|nK<|sg<|vm rfl<|ca eF169 rfl rfl ((pack_leaf l _ _ _ (hl.keep (Ext.rf w))).mono ?_)
 rintro e w_2 ⟨⟨k_1,rfl⟩,x_3⟩
 refine ⟨_,rfl, ?_⟩
 have:=x_3.size
 have z_2:=eT (Ext.rf w) x_3
 refine vm rfl<|vL (ex rfl rfl)<|vL (ex rfl rfl)<|va rfl<|va rfl<|nK<|sg<|vm rfl<|ca eF170 rfl rfl ((leaf_text (packN l) (packN_len _) _).mono ?_)
 rintro e w_5 ⟨rfl,x_6⟩
 refine ⟨_,rfl, ?_⟩
 have:=x_6.size
 have z_5:=eT z_2 x_6
 refine va rfl<|nK<|rt<|tR (.tmp rfl .nil)<| ?_
 exact ⟨rfl,z_5⟩
theorem mark_bad (a:Wd.At) (W:Wd) (w:World) (hW:Wd.Has w a W) (hc:W.chk≠0):
  Calls Tryz.prog 20 #[.agg ((Wd.cells a W).toArray)] w (λ e w'=>e= .returned (.tuple #[.int .u64 (U (markN W)), .int .i64 W.chk])∧Ext w w'):=by
 have kc:(W.chk != 0)=true:=by simpa using hc
 refine calls_W (n:=107) Tryz.func20 rfl rfl rfl ?_
 refine sg<|bx rfl rfl rfl rfl λ w_1 b_2 x_3 l_4 B_5=> ?_
 have:=x_3.size
 have z_1:=eT (Ext.rf w) x_3
 have q_7:=B_5.lt
 refine va rfl<|va rfl<|nK<|sq<|sg<|vL (ld rfl (B_5.all eF61 eF62))<|ca eF63 rfl rfl ((check_any a W _ (hW.keep z_1)).mono ?_)
 rintro e w_8 ⟨rfl,x_9⟩
 refine ⟨_,rfl, ?_⟩
 have:=x_9.size
 have z_8:=eT z_1 x_9
 refine va rfl<|nK<|sg<|vm rfl<|vL (bne rfl rfl)<|nK<|cT (evb rfl kc)<|sg<|vm rfl<|va rfl<|va rfl<|nK<|rt<|tT<|tR (.tmp rfl (.tmp rfl .nil))<| ?_
 exact ⟨by unfold markN;rw [if_neg hc];rfl,z_8⟩
theorem mark_ok (a:Wd.At) (W:Wd) (w:World) (hW:Wd.Has w a W) (hc:W.chk=0):
  Calls Tryz.prog 20 #[.agg ((Wd.cells a W).toArray)] w (λ e w'=>e= .returned (.tuple #[.int .u64 (U (markN W)), .int .i64 W.chk])∧Ext w w'):=by
 have kc:(W.chk != 0)=false:=by simpa using hc
 have hG:=Good.of_chk hc
 have g_nb:=hG.nb
 have g_nt:=hG.nt
 have g_sl:=hG.sl
 have g_ml:=hG.ml
 have g_16:=Fld.len_le hG.field
 obtain ⟨n1,n2,n3,n4⟩:=hW.nums
 have lB:=hW.B.len_le
 have lM:=hW.M.len_le
 have lT:=hW.T.len_le
 refine calls_W (n:=107) Tryz.func20 rfl rfl rfl ?_
 refine sg<|bx rfl rfl rfl rfl λ w_1 b_2 x_3 l_4 B_5=> ?_
 have:=x_3.size
 have z_1:=eT (Ext.rf w) x_3
 have q_7:=B_5.lt
 refine va rfl<|va rfl<|nK<|sq<|sg<|vL (ld rfl (B_5.all eF61 eF62))<|ca eF63 rfl rfl ((check_any a W _ (hW.keep z_1)).mono ?_)
 rintro e w_8 ⟨rfl,x_9⟩
 refine ⟨_,rfl, ?_⟩
 have:=x_9.size
 have z_8:=eT z_1 x_9
 refine va rfl<|nK<|sg<|vm rfl<|vL (bne rfl rfl)<|nK<|cF (evb rfl kc)<|sK<|sg<|vL (fa eF59 rfl)<|vL (fa eF22 rfl)<| ?_
 have B_5:=B_5.later x_9
 refine vL (ld rfl (B_5.one eF1 rfl))<|vL (fa eF59 rfl)<|vL (fa eF129 rfl)<|vL (ld rfl (B_5.one eF1 rfl))<|vL (fa eF115 rfl)<|vL (ld rfl (B_5.one eF1 rfl))<|vL (fa eF134 rfl)<|vL (ld rfl (B_5.one eF1 rfl))<|bs (e:= 3) (cs:= [.int .i64 1, .int .i64 W.field.wide, .int .i64 W.field.high, .int .i64 W.next, .int .i64 W.now]) rfl (λ _=>by kernel_rfl) rfl λ w_11 b_12 x_13 l_14 B_15=> ?_
 have:=x_13.size
 have z_11:=eT z_8 x_13
 have q_17:=B_15.lt
 refine vL (fa eF59 rfl)<|vL (fa eF45 rfl)<| ?_
 have B_5:=B_5.later x_13
 refine vL (ld rfl (B_5.one eF36 rfl))<| ?_
 have O_18:=Blk.ownN (R:=repI) (by_:=8) (B:=w.heap.size) (k:= [1,W.field.wide,W.field.high,W.next,W.now]) B_15 [[.int .i64 1], [.int .i64 W.field.wide], [.int .i64 W.field.high], [.int .i64 W.next], [.int .i64 W.now]] rfl (⟨⟨rfl,okI_iff.2 (by decide)⟩,⟨⟨rfl,n1⟩,⟨⟨rfl,n2⟩,⟨⟨rfl,n3⟩,⟨⟨rfl,n4⟩,trivial⟩⟩⟩⟩⟩) (by simp) (by simp) (by decide) (by omega)
 have u_19:=λ q hq=>(O_18.lt q hq).2
 have lo_20:∀ q∈Rep.blkOf (some ⟨b_12,0,none⟩),b_12≤q:=λ q hq=>Nat.le_of_eq (List.mem_singleton.1 hq).symm
 refine ap Tmk_el_S_int Rep.flat_bare O_18 (hW.P.keep z_11) rfl rfl (by simp only [List.length_cons,List.length_nil];omega) (by simp only [List.length_cons,List.length_nil];omega) z_11.size rfl λ w_21 A_22 c_23 m_24 O_25 g_26 n_27=> ?_
 have:=m_24.size
 have z_21:=Ext.mod z_11 m_24 (λ q hq=>(O_18.lt q hq).1)
 have u_29:=λ q hq=>(O_25.lt q hq).2
 have:=m_24.size
 refine ca eF171 rfl rfl ((leaf_any ([1,W.field.wide,W.field.high,W.next,W.now]++W.field.places) _ _ _ O_25.has).mono ?_)
 rintro e w_31 ⟨rfl,x_32⟩
 refine ⟨_,rfl, ?_⟩
 have:=x_32.size
 have z_31:=eT z_21 x_32
 refine bs (e:= 41) (cs:= [.int .u64 (U (leafN ([1,W.field.wide,W.field.high,W.next,W.now]++W.field.places)))]) rfl (λ _=>by kernel_rfl) rfl λ w_34 b_35 x_36 l_37 B_38=> ?_
 have:=x_36.size
 have z_34:=eT z_31 x_36
 have q_40:=B_38.lt
 refine va rfl<|nK<|sq<|sg<|vL (fa eF83 rfl)<| ?_
 have d_41:∀ q∈Rep.blkOf (some ⟨b_12,0,none⟩),q=b_2→False:=λ q hq hb=>by (have:=lo_20 q hq;omega)
 have B_5:=B_5.mod m_24 (λ hq=>d_41 _ hq rfl)
 have B_5:=B_5.later (eT x_32 x_36)
 refine vL (ld rfl (B_5.one eF84 rfl))<|vL (ln Tryz.underlying25 rfl)<|vm rfl<|nK<|bk<| ?_
 have OL0:=Blk.ownN (R:=repU) (by_:=8) (B:=w.heap.size) (k:= [mkF W]) B_38 [[.int .u64 (U (mkF W))]] rfl (⟨⟨rfl,trivial⟩,trivial⟩) (by simp) (by simp) (by decide) (by omega)
 have eL0:∀ q∈Rep.blkOf (some ⟨b_35,0,none⟩),q=b_35:=λ q hq=>List.mem_singleton.1 hq
 refine lp (λ mI EI wI=>∃ k1:Nat,∃ L1:List (BitVec 64),∃ AL1:Option Addr,∃ cL1:Nat,EI= [(1, .pointer (some ⟨b_2,0,none⟩)),(2, .int .u64 0),(3, .int .i64 0),(5, .slice AL1 L1.length cL1),(35, .slice a.B W.bases.length a.b),(36, .int .i64 (W.bases.length:Int)),(37, .int .i64 (k1:Int))]∧mI=W.bases.length - k1∧Ext w wI∧Blk wI b_2 (Wd.cells a W) 28 (0,0)∧repU.SOwn 41 8 wI w.heap.size (Rep.blkOf AL1) AL1 cL1 L1∧(k1≤W.bases.length)∧(L1=marksB W k1)∧(∀ q∈Rep.blkOf AL1,q=b_2→False)) _ _ ⟨0, [mkF W],some ⟨b_35,0,none⟩,1,rfl,rfl,z_34,B_5,OL0,by omega,rfl,(λ q hq hb=>by (have:=eL0 q hq;omega))⟩ (.cons rfl (.cons rfl (.cons rfl (.cons rfl (.cons rfl (.cons rfl (.cons (loI rfl (by first | omega | rfl | (simp<;>omega))) .nil))))))) ?_
 rintro m_44 E_45 w_43 ⟨k1,L1,AL1,cL1,rfl,rfl,z_43,B_5,OLx1,hk1,hL1,d_42⟩
 have:=z_43.size
 have q_47:=B_5.lt
 have u_48:=λ q hq=>(OLx1.lt q hq).2
 refine sg<|vL (blt rfl rfl)<|nK<|sq<| ?_
 refine clt rfl (λ h_49=> ?_) (λ h_49=> ?_)
 ·obtain ⟨c,hc0⟩:∃ c,W.bases.getD k1 default=c:=⟨_,rfl⟩
  obtain ⟨sv,hs0⟩:∃ sv,W.stocks.getD k1 0=sv:=⟨_,rfl⟩
  have ok1:c.ok:=Cel.all_ok hW.B c (by rw [← hc0];exact mem_dd (by omega))
  have ok2:okI sv:=repI_ok hW.S sv (by rw [← hs0];exact mem_dd (by omega))
  have hmb:mkB W k1=leafN [2,(k1:Int),c.x,c.y,sv]:=by unfold mkB;rw [hc0,hs0]
  have hLn:L1.length=k1+1:=by rw [hL1,marksB_len]
  refine sK<|sq<|bk<|sg<|vm rfl<|vL (iA k1 Tryz.underlying25 eF4 rfl rfl ((hW.B.keep z_43).adr (zl k1 (by omega))) rfl (by omega))<|vL (ld rfl (Rep.SHas.elt hcC ((hW.B.keep z_43).adh (zl k1 (by omega))) (show W.bases[k1]? =some c by rw [← hc0];exact get_d (u:=default) (by omega)) eF3 eF4))<|al rfl eF41 rfl rfl λ w_50 b_51 x_52 l_53 B_54=> ?_
  have:=x_52.size
  have z_50:=eT z_43 x_52
  have q_56:=B_54.lt
  refine va rfl<|st (new:= [.int .i64 c.x, .int .i64 c.y]) rfl rfl B_54 rfl eF4 rfl rfl rfl λ w_57 m_58 B_54=> ?_
  have:=m_58.size
  have z_57:=Ext.mod z_50 m_58 (ge1 (by omega))
  have:=m_58.size
  refine nK<| ?_
  refine rd [(3,0),(5,0),(7,0),(10,0),(11,2),(12,0),(13,2),(14,3)] [0,1,2,3,4,5,6,7,8,9,10,11,12,13,14,15] (by kernel_rfl) (by kernel_rfl) ?_
  refine fw1 rfl (λ _=>mv rfl)<|fw1 rfl (λ _=>mv rfl)<|fw1 rfl (λ _=>fa eF0 rfl)<|fq1 rfl (λ _ x=>ld rfl ((B_54.later x).one eF1 rfl))<|fw1 rfl (λ _=>fa eF2 rfl)<|fq1 rfl (λ _ x=>ld rfl ((B_54.later x).one eF1 rfl))<|fw1 rfl (λ _=>fa eF85 rfl)<| ?_
  have B_5:=B_5.later x_52
  have B_5:=B_5.mod m_58 (nm1 (by omega))
  refine fq1 rfl (λ _ x=>ld rfl ((B_5.later x).one eF36 rfl))<|fw1 rfl (λ _=>mv rfl)<|fw1 rfl (λ _=>iA k1 Tryz.underlying22 eF7 rfl rfl ((hW.S.keep z_57).adr (zl k1 (by omega))) rfl (by omega))<|fq1 rfl (λ _ x=>ld rfl (Rep.SHas.one' hcI ((hW.S.keep (eT z_57 x)).adh (zl k1 (by omega))) (show W.stocks[k1]? =some sv by rw [← hs0];exact get_d (u:=0) (by omega)) rfl eF1))<|fx rfl rfl rfl λ w_61 x_62 Q hK=>bs (e:= 3) (cs:= [.int .i64 2, .int .i64 (k1:Int), .int .i64 c.x, .int .i64 c.y, .int .i64 sv]) rfl (λ _=>by kernel_rfl) rfl λ w_63 b_64 x_65 l_66 B_67=>hK _ _ ⟨eT x_62 x_65, ?_⟩
  have:=x_62.size
  have z_61:=eT z_57 x_62
  have:=x_65.size
  have z_63:=eT z_61 x_65
  have q_70:=B_67.lt
  refine fc rfl rfl eF171 rfl (λ _ x=>leaf_any ([2,(k1:Int),c.x,c.y,sv]) _ _ _ ((Blk.hasN (R:=repI) (by_:=8) (k:= [2,(k1:Int),c.x,c.y,sv]) B_67 [[.int .i64 2], [.int .i64 (k1:Int)], [.int .i64 c.x], [.int .i64 c.y], [.int .i64 sv]] rfl (⟨⟨rfl,okI_iff.2 (by decide)⟩,⟨⟨rfl,okI_iff.2 (by omega)⟩,⟨⟨rfl,ok1.1⟩,⟨⟨rfl,ok1.2⟩,⟨⟨rfl,ok2⟩,trivial⟩⟩⟩⟩⟩) (by simp) (by simp)).keep x)) rfl<|fx rfl rfl rfl λ w_71 x_72 Q hK=>bs (e:= 41) (cs:= [.int .u64 (U (leafN ([2,(k1:Int),c.x,c.y,sv])))]) rfl (λ _=>by kernel_rfl) rfl λ w_73 b_74 x_75 l_76 B_77=>hK _ _ ⟨eT x_72 x_75, ?_⟩
  have:=x_72.size
  have z_71:=eT z_63 x_72
  have:=x_75.size
  have z_73:=eT z_71 x_75
  have q_80:=B_77.lt
  have OLx1:=OLx1.later x_52
  have OLx1:=OLx1.mod m_58 (fk1 u_48 (by omega))
  have OLx1:=OLx1.later (eT x_62 (eT x_65 (eT x_72 x_75)))
  refine fb rfl rfl rfl λ w_81 x_82 Q hK=>ap Tmk_el_S_uint64 Rep.flat_bare (OLx1.later x_82) ((Blk.has1 (R:=repU) (by_:=8) (q:=(leafN ([2,(k1:Int),c.x,c.y,sv]))) B_77 ⟨rfl,trivial⟩ (by decide)).keep x_82) rfl rfl (by simp only [List.length_cons,List.length_nil];omega) (by simp only [List.length_cons,List.length_nil];omega) (by have:=x_82.size;omega) rfl λ w_83 A_84 c_85 m_86 O_87 g_88 n_89=>hK _ _ ?_
  have:=x_82.size
  have z_81:=eT z_73 x_82
  have:=m_86.size
  have z_83:=Ext.mod z_81 m_86 (λ q hq=>Nat.le_trans (by omega) ((OLx1.later x_82).lt q hq).1)
  have u_92:=λ q hq=>(O_87.lt q hq).2
  have:=m_86.size
  refine fw1 rfl (λ _=>as_ rfl)<|fn λ w_94 x_95=> ?_
  have:=x_95.size
  have z_94:=eT z_83 x_95
  refine nB<|nT<|rg<|vL (bad rfl rfl (inI (by omega)))<|vm rfl<|nl<| ?_
  have B_5:=B_5.later (eT x_62 (eT x_65 (eT x_72 (eT x_75 x_82))))
  have B_5:=B_5.mod m_86 (λ hq=>d_42 _ hq rfl)
  have B_5:=B_5.later x_95
  have O_87:=O_87.later x_95
  exact nI _ _ ⟨k1+1,L1++ [(leafN ([2,(k1:Int),c.x,c.y,sv]))],A_84,c_85,rfl,rfl,z_94,B_5,O_87,by omega,by rw [marksB_succ,hL1,hmb],(λ q hq hb=>by (exact Or.elim (g_88 q hq) (λ k_97=>by (exact d_42 q k_97 hb)) (λ k_97=>by omega)))⟩ (by omega) (.cons rfl (.cons rfl (.cons rfl (.cons rfl (.cons rfl (.cons rfl (.cons (loI rfl (by first | omega | rfl | (simp<;>omega))) .nil)))))))
 ·refine xt<|xT<|xK<|xB<|nT<|sq<|sg<|vL (fa eF88 rfl)<|vL (ld rfl (B_5.one eF36 rfl))<|vL (ln Tryz.underlying22 rfl)<|vm rfl<|nK<|bk<| ?_
  refine lp (λ mI EI wI=>∃ k2:Nat,∃ L2:List (BitVec 64),∃ AL2:Option Addr,∃ cL2:Nat,EI= [(1, .pointer (some ⟨b_2,0,none⟩)),(2, .int .u64 0),(3, .int .i64 0),(5, .slice AL2 L2.length cL2),(59, .slice a.M W.mines.length a.m),(60, .int .i64 (W.mines.length:Int)),(61, .int .i64 (k2:Int))]∧mI=W.mines.length - k2∧Ext w wI∧Blk wI b_2 (Wd.cells a W) 28 (0,0)∧repU.SOwn 41 8 wI w.heap.size (Rep.blkOf AL2) AL2 cL2 L2∧(k2≤W.mines.length)∧(L2=marksB W W.bases.length++mkM W k2)∧(∀ q∈Rep.blkOf AL2,q=b_2→False)) _ _ ⟨0,L1,AL1,cL1,rfl,rfl,z_43,B_5,OLx1,by omega,by rw [mkM,List.append_nil,hL1,show k1=W.bases.length by omega],(λ q hq hb=>by (exact d_42 q hq hb))⟩ (.cons rfl (.cons rfl (.cons rfl (.cons rfl (.cons rfl (.cons rfl (.cons (loI rfl (by first | omega | rfl | (simp<;>omega))) .nil))))))) ?_
  rintro m_100 E_101 w_99 ⟨k2,L2,AL2,cL2,rfl,rfl,z_99,B_5,OLx2,hk2,hL2,d_98⟩
  have:=z_99.size
  have q_103:=B_5.lt
  have u_104:=λ q hq=>(OLx2.lt q hq).2
  refine sg<|vL (blt rfl rfl)<|nK<|sq<| ?_
  refine clt rfl (λ h_105=> ?_) (λ h_105=> ?_)
  ·obtain ⟨mn,hmn0⟩:∃ mn,W.mines.getD k2 0=mn:=⟨_,rfl⟩
   have ok2:okI mn:=repI_ok hW.M mn (by rw [← hmn0];exact mem_dd (by omega))
   have hLn:L2.length≤W.bases.length+1+k2:=by rw [hL2,List.length_append,marksB_len];have:=mkM_len W k2;omega
   refine sK<|sq<|bk<|sg<|vm rfl<|vL (iA k2 Tryz.underlying22 eF7 rfl rfl ((hW.M.keep z_99).adr (zl k2 (by omega))) rfl (by omega))<|vL (ld rfl (Rep.SHas.one' hcI ((hW.M.keep z_99).adh (zl k2 (by omega))) (show W.mines[k2]? =some mn by rw [← hmn0];exact get_d (u:=0) (by omega)) rfl eF1))<|va rfl<|va rfl<|nK<|sg<|vm rfl<|vL (bne rfl rfl)<|nK<| ?_
   refine cne rfl (λ h_106=> ?_) (λ h_106=> ?_)
   ·have hm0:mn≠0:=by simpa using h_106
    refine rg<|vm rfl<|vm rfl<|vm rfl<|bs (e:= 3) (cs:= [.int .i64 3, .int .i64 (k2:Int), .int .i64 mn]) rfl (λ _=>by kernel_rfl) rfl λ w_107 b_108 x_109 l_110 B_111=> ?_
    have:=x_109.size
    have z_107:=eT z_99 x_109
    have q_113:=B_111.lt
    refine ca eF171 rfl rfl ((leaf_any ([3,(k2:Int),mn]) _ _ _ (Blk.hasN (R:=repI) (by_:=8) (k:= [3,(k2:Int),mn]) B_111 [[.int .i64 3], [.int .i64 (k2:Int)], [.int .i64 mn]] rfl (⟨⟨rfl,okI_iff.2 (by decide)⟩,⟨⟨rfl,okI_iff.2 (by omega)⟩,⟨⟨rfl,ok2⟩,trivial⟩⟩⟩) (by simp) (by simp))).mono ?_)
    rintro e w_114 ⟨rfl,x_115⟩
    refine ⟨_,rfl, ?_⟩
    have:=x_115.size
    have z_114:=eT z_107 x_115
    refine bs (e:= 41) (cs:= [.int .u64 (U (leafN ([3,(k2:Int),mn])))]) rfl (λ _=>by kernel_rfl) rfl λ w_117 b_118 x_119 l_120 B_121=> ?_
    have:=x_119.size
    have z_117:=eT z_114 x_119
    have q_123:=B_121.lt
    have OLx2:=OLx2.later (eT x_109 (eT x_115 x_119))
    refine ap Tmk_el_S_uint64 Rep.flat_bare OLx2 (Blk.has1 (R:=repU) (by_:=8) (q:=(leafN ([3,(k2:Int),mn]))) B_121 ⟨rfl,trivial⟩ (by decide)) rfl rfl (by simp only [List.length_cons,List.length_nil];omega) (by simp only [List.length_cons,List.length_nil];omega) (by omega) rfl λ w_124 A_125 c_126 m_127 O_128 g_129 n_130=> ?_
    have:=m_127.size
    have z_124:=Ext.mod z_117 m_127 (λ q hq=>Nat.le_trans (by omega) (OLx2.lt q hq).1)
    have u_132:=λ q hq=>(O_128.lt q hq).2
    have:=m_127.size
    refine va rfl<|nl<|nB<|nT<|rg<|vL (bad rfl rfl (inI (by omega)))<|vm rfl<|nl<| ?_
    have B_5:=B_5.later (eT x_109 (eT x_115 x_119))
    have B_5:=B_5.mod m_127 (λ hq=>d_98 _ hq rfl)
    exact nI _ _ ⟨k2+1,L2++ [(leafN ([3,(k2:Int),mn]))],A_125,c_126,rfl,rfl,z_124,B_5,O_128,by omega,by rw [hL2,mkM,hmn0,if_neg hm0];simp,(λ q hq hb=>by (exact Or.elim (g_129 q hq) (λ k_134=>by (exact d_98 q k_134 hb)) (λ k_134=>by omega)))⟩ (by omega) (.cons rfl (.cons rfl (.cons rfl (.cons rfl (.cons rfl (.cons rfl (.cons (loI rfl (by first | omega | rfl | (simp<;>omega))) .nil)))))))
   ·have hm0:mn=0:=by simpa using h_106
    refine sk<|nB<|nT<|rg<|vL (bad rfl rfl (inI (by omega)))<|vm rfl<|nl<| ?_
    exact nI _ _ ⟨k2+1,L2,AL2,cL2,rfl,rfl,z_99,B_5,OLx2,by omega,by rw [hL2,mkM,hmn0,if_pos hm0];simp,(λ q hq hb=>by (exact d_98 q hq hb))⟩ (by omega) (.cons rfl (.cons rfl (.cons rfl (.cons rfl (.cons rfl (.cons rfl (.cons (loI rfl (by first | omega | rfl | (simp<;>omega))) .nil)))))))
  ·refine xt<|xT<|xK<|xB<|nT<|sq<|sg<|vL (fa eF64 rfl)<|vL (ld rfl (B_5.one eF65 rfl))<|vL (ln Tryz.underlying26 rfl)<|vm rfl<|nK<|bk<| ?_
   refine lp (λ mI EI wI=>∃ k3:Nat,∃ L3:List (BitVec 64),∃ AL3:Option Addr,∃ cL3:Nat,EI= [(2, .int .u64 0),(3, .int .i64 0),(5, .slice AL3 L3.length cL3),(77, .slice a.T W.troops.length a.t),(78, .int .i64 (W.troops.length:Int)),(79, .int .i64 (k3:Int))]∧mI=W.troops.length - k3∧Ext w wI∧repU.SOwn 41 8 wI w.heap.size (Rep.blkOf AL3) AL3 cL3 L3∧(k3≤W.troops.length)∧(L3=marksB W W.bases.length++mkM W W.mines.length++(W.troops.take k3).map mkT)) _ _ ⟨0,L2,AL2,cL2,rfl,rfl,z_99,OLx2,by omega,by rw [hL2,show k2=W.mines.length by omega];simp⟩ (.cons rfl (.cons rfl (.cons rfl (.cons rfl (.cons rfl (.cons (loI rfl (by first | omega | rfl | (simp<;>omega))) .nil)))))) ?_
   rintro m_136 E_137 w_135 ⟨k3,L3,AL3,cL3,rfl,rfl,z_135,OLx3,hk3,hL3⟩
   have:=z_135.size
   have u_139:=λ q hq=>(OLx3.lt q hq).2
   refine sg<|vL (blt rfl rfl)<|nK<|sq<| ?_
   refine clt rfl (λ h_140=> ?_) (λ h_140=> ?_)
   ·obtain ⟨t,ht0⟩:∃ t,W.troops.getD k3 default=t:=⟨_,rfl⟩
    obtain ⟨o1,o2,o3,o4,o5,o6,o7⟩:okI t.id∧okI t.owner∧okI t.kind∧okI t.spot.x∧okI t.spot.y∧okI t.life∧okI t.load:=Trp.all_ok hW.T t (by rw [← ht0];exact mem_dd (by omega))
    have hLn:L3.length≤W.bases.length+1+W.mines.length+k3:=by rw [hL3,List.length_append,List.length_append,marksB_len,List.length_map,List.length_take];have:=mkM_len W W.mines.length;omega
    refine sK<|sq<|bk<|sg<|vL (iA k3 Tryz.underlying26 eF66 rfl rfl ((hW.T.keep z_135).adr (zl k3 (by omega))) rfl (by omega))<|vL (ld rfl (Rep.SHas.elt hcT ((hW.T.keep z_135).adh (zl k3 (by omega))) (show W.troops[k3]? =some t by rw [← ht0];exact get_d (u:=default) (by omega)) eF67 eF66))<|al rfl eF68 rfl rfl λ w_141 b_142 x_143 l_144 B_145=> ?_
    have:=x_143.size
    have z_141:=eT z_135 x_143
    have q_147:=B_145.lt
    refine st (new:= [.int .i64 t.id, .int .i64 t.owner, .int .i64 t.kind, .int .i64 t.spot.x, .int .i64 t.spot.y, .int .i64 t.life, .int .i64 t.load]) rfl rfl B_145 rfl eF66 rfl rfl rfl λ w_148 m_149 B_145=> ?_
    have:=m_149.size
    have z_148:=Ext.mod z_141 m_149 (ge1 (by omega))
    have:=m_149.size
    refine nK<|rg<|vm rfl<|vL (fa eF69 rfl)<|vL (ld rfl (B_145.one eF1 rfl))<|vL (fa eF57 rfl)<|vL (ld rfl (B_145.one eF1 rfl))<|vL (fa eF52 rfl)<|vL (ld rfl (B_145.one eF1 rfl))<|vL (fa eF56 rfl)<|vL (fa eF0 rfl)<|vL (ld rfl (B_145.one eF1 rfl))<|vL (fa eF56 rfl)<|vL (fa eF2 rfl)<|vL (ld rfl (B_145.one eF1 rfl))<|vL (fa eF93 rfl)<|vL (ld rfl (B_145.one eF1 rfl))<|vL (fa eF109 rfl)<|vL (ld rfl (B_145.one eF1 rfl))<|bs (e:= 3) (cs:= [.int .i64 4, .int .i64 t.id, .int .i64 t.owner, .int .i64 t.kind, .int .i64 t.spot.x, .int .i64 t.spot.y, .int .i64 t.life, .int .i64 t.load]) rfl (λ _=>by kernel_rfl) rfl λ w_152 b_153 x_154 l_155 B_156=> ?_
    have:=x_154.size
    have z_152:=eT z_148 x_154
    have q_158:=B_156.lt
    refine ca eF171 rfl rfl ((leaf_any ([4,t.id,t.owner,t.kind,t.spot.x,t.spot.y,t.life,t.load]) _ _ _ (Blk.hasN (R:=repI) (by_:=8) (k:= [4,t.id,t.owner,t.kind,t.spot.x,t.spot.y,t.life,t.load]) B_156 [[.int .i64 4], [.int .i64 t.id], [.int .i64 t.owner], [.int .i64 t.kind], [.int .i64 t.spot.x], [.int .i64 t.spot.y], [.int .i64 t.life], [.int .i64 t.load]] rfl (⟨⟨rfl,okI_iff.2 (by decide)⟩,⟨⟨rfl,o1⟩,⟨⟨rfl,o2⟩,⟨⟨rfl,o3⟩,⟨⟨rfl,o4⟩,⟨⟨rfl,o5⟩,⟨⟨rfl,o6⟩,⟨⟨rfl,o7⟩,trivial⟩⟩⟩⟩⟩⟩⟩⟩) (by simp) (by simp))).mono ?_)
    rintro e w_159 ⟨rfl,x_160⟩
    refine ⟨_,rfl, ?_⟩
    have:=x_160.size
    have z_159:=eT z_152 x_160
    refine bs (e:= 41) (cs:= [.int .u64 (U (leafN ([4,t.id,t.owner,t.kind,t.spot.x,t.spot.y,t.life,t.load])))]) rfl (λ _=>by kernel_rfl) rfl λ w_162 b_163 x_164 l_165 B_166=> ?_
    have:=x_164.size
    have z_162:=eT z_159 x_164
    have q_168:=B_166.lt
    have OLx3:=OLx3.later x_143
    have OLx3:=OLx3.mod m_149 (fk1 u_139 (by omega))
    have OLx3:=OLx3.later (eT x_154 (eT x_160 x_164))
    refine ap Tmk_el_S_uint64 Rep.flat_bare OLx3 (Blk.has1 (R:=repU) (by_:=8) (q:=(leafN ([4,t.id,t.owner,t.kind,t.spot.x,t.spot.y,t.life,t.load]))) B_166 ⟨rfl,trivial⟩ (by decide)) rfl rfl (by simp only [List.length_cons,List.length_nil];omega) (by simp only [List.length_cons,List.length_nil];omega) (by omega) rfl λ w_169 A_170 c_171 m_172 O_173 g_174 n_175=> ?_
    have:=m_172.size
    have z_169:=Ext.mod z_162 m_172 (λ q hq=>Nat.le_trans (by omega) (OLx3.lt q hq).1)
    have u_177:=λ q hq=>(O_173.lt q hq).2
    have:=m_172.size
    refine va rfl<|nl<|nB<|nT<|rg<|vL (bad rfl rfl (inI (by omega)))<|vm rfl<|nl<| ?_
    exact nI _ _ ⟨k3+1,L3++ [(leafN ([4,t.id,t.owner,t.kind,t.spot.x,t.spot.y,t.life,t.load]))],A_170,c_171,rfl,rfl,z_169,O_173,by omega,by rw [hL3,mkT_snoc (by omega) ht0,List.append_assoc];rfl⟩ (by omega) (.cons rfl (.cons rfl (.cons rfl (.cons rfl (.cons rfl (.cons (loI rfl (by first | omega | rfl | (simp<;>omega))) .nil))))))
   ·refine xt<|xT<|xK<|xB<|nT<|sg<|vm rfl<|ca eF172 rfl rfl ((of_leaf L3 _ _ _ OLx3.has).mono ?_)
    rintro e w_179 ⟨rfl,x_180⟩
    refine ⟨_,rfl, ?_⟩
    have:=x_180.size
    have z_179:=eT z_135 x_180
    refine va rfl<|va rfl<|nK<|rt<|tR (.tmp rfl (.tmp rfl .nil))<| ?_
    exact ⟨by unfold markN;rw [if_pos hc,hc,hL3,show k3=W.troops.length by omega,List.take_length];rfl,z_179⟩
theorem mark_any (a:Wd.At) (W:Wd) (w:World) (hW:Wd.Has w a W):Calls Tryz.prog 20 #[.agg (Wd.cells a W).toArray] w (λ e w'=>e= .returned (.tuple #[.int .u64 (U (markN W)), .int .i64 W.chk])∧Ext w w'):=by
 by_cases hc:W.chk=0
 ·exact mark_ok a W w hW hc
 ·exact mark_bad a W w hW hc
end
end Go.Proofs.YtlikikpgmmkjbaaGreat
