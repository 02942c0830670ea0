import Derived.Test.YtmeeljmapailnaaGreatPackW
set_option linter.unusedVariables false
set_option linter.unusedSimpArgs false
set_option maxRecDepth 100000
set_option maxHeartbeats 4000000
open Go.RowKit
namespace Go.Proofs.YtmeeljmapailnaaGreat
open Tryz
abbrev aVM:=@List.drop_eq_nil_of_le
abbrev aWa:=@List.cons.injEq
abbrev aWu:=@List.drop_left
abbrev aWU:=@Go.Lib.cell_of_heap
abbrev aXS:=@Nat.mod_two_eq_zero_or_one
abbrev aX4:=@Go.Oper.upon_value
abbrev aX7:=@List.take_append_getElem
abbrev aYg:=@Option.map_eq_some_iff
abbrev aYp:=@List.singleton_append
abbrev aYK:=@Nat.and_one_is_mod
section
def vk (l:List Int):List Value:=l.map (Value.int .i64)
theorem adj (l:List Int) (i:Nat) (h:i<l.length):(vk l)[i]? =some (.int .i64 l[i]):=by unfold vk;simp [h]
theorem ar8 (l:List Int) (x:Int):vk (l++ [x])=vk l++ [.int .i64 x]:=by unfold vk;simp
def OE (_:Nat) (u:Value):Prop:=∃ n:Int,u= .int .i64 n
theorem aAc:(prog.info? 3).map (fun i=>(i.zero,i.size,i.bytes))=some (some (.int .i64 0),1,8):=by kernel_rfl
def sF (l:List Int):Prop:=∀ x∈l, -9223372036854775808≤x∧x≤9223372036854775807
end
end Go.Proofs.YtmeeljmapailnaaGreat
namespace Go.Proofs.YtmeeljmapailnaaGreat.Pack
open Tryz
open Go.Proofs.YtmeeljmapailnaaGreat Go.Proofs.YtmeeljmapailnaaGreat.ey

theorem aDM (k x y:Nat) (u v:List UInt8) (hx:x<128 ^ (k+1)) (aF:y<128 ^ (k+1)) (h:ki k x++u=ki k y++v):x=y∧u=v:=by
 induction k generalizing x y with
 | zero =>
  simp only [ki,aYp,aWa] at h;have:=aUF UInt8.toNat h.1;simp only [aUG] at this;simp at hx aF;exact ⟨by omega,h.2⟩
 | succ k bK =>
  by_cases τ:x<128
  ·by_cases ae:y<128
   ·rw [BT τ,BT ae] at h;simp only [aYp,aWa] at h;have:=aUF UInt8.toNat h.1;simp only [aUG] at this;exact ⟨by omega,h.2⟩
   ·rw [BT τ,BS ae] at h;simp only [aVD,aWa] at h;have:=aUF UInt8.toNat h.1;simp only [aUG] at this;omega
  ·by_cases ae:y<128
   ·rw [BS τ,BT ae] at h;simp only [aVD,aWa] at h;have:=aUF UInt8.toNat h.1;simp only [aUG] at this;omega
   ·rw [BS τ,BS ae] at h;simp only [aVD,aWa] at h;have e:=aUF UInt8.toNat h.1;simp only [aUG] at e;obtain ⟨aw,aU⟩:=bK (x / 128) (y / 128) (I_ hx) (I_ aF) h.2;exact ⟨by omega,aU⟩
theorem Sd {x y:Nat} {u v:List UInt8} (hx:x<18446744073709551616) (aF:y<18446744073709551616) (h:en x++u=en y++v):x=y∧u=v:=aDM 9 x y u v (FY hx) (FY aF) h
theorem afC {l:List UInt8} {n:Nat} {rest:List UInt8} (h:J7 l n rest 0):l=en n++rest∧n<18446744073709551616:=by
 rcases h with ⟨k,au,js,_,_,⟨τ,ae,aw,_⟩ | ⟨_,_,_,h⟩⟩ | ⟨_,_,_,_,h⟩ | ⟨_,_,_,_,h⟩
 ·subst ae;subst aw;exact ⟨by rw [τ,aVb],aVI _ (by decide)⟩
 all_goals cases h
theorem avM {n k:Nat} {r:List UInt8} (hn:n<18446744073709551616) (au:k<(en n++r).length) (fI:∀ i (h:i<(en n++r).length),i<k→128≤((en n++r)[i]).toNat) (aC:((en n++r)[k]).toNat<128):k+1=(en n).length:=by
 have τ:=(BU n).2;rcases aYR (k+1) (en n).length with h | h | h
 ·rw [aV8 (by omega)] at aC;have:=aDL 9 n k (FY hn) h (by show k<(en n).length;omega);have e:(ki 9 n)[k]'(by show k<(en n).length;omega)=(en n)[k]'(by omega):=rfl;rw [e] at this;omega
 ·exact h
 ·have ae:=fI ((en n).length - 1) (by simp;omega) (by omega);rw [aV8 (by omega)] at ae;have:=akS 9 n (FY hn) ((en n).length - 1) (by show _<(en n).length;omega) (by show _=(en n).length;omega);have e:(ki 9 n)[(en n).length - 1]'(by show _<(en n).length;omega)=(en n)[(en n).length - 1]'(by omega):=rfl;rw [e] at this;omega
theorem Bk {n:Nat} {r:List UInt8} {m:Nat} {rest:List UInt8} {e:Int} (hn:n<18446744073709551616) (h:J7 (en n++r) m rest e):m=n∧rest=r∧e=0:=by
 have hlen:=BU n;have jt:∃ i,∃ ar:i<(en n++r).length,i<10∧((en n++r)[i]).toNat<128:=by
  refine ⟨(en n).length - 1,by simp;omega,by omega, ?_⟩;rw [aV8 (by omega)];exact akS 9 n (FY hn) ((en n).length - 1) (by show _<(en n).length;omega) (by show _=(en n).length;omega)
 rcases h with ⟨k,au,js,fI,aC,h⟩ | ⟨_,dD,_⟩ | ⟨_,dD,_⟩
 ·have pX:=avM hn js fI (aC js);have aJ:(en n++r).take (k+1)=en n:=by rw [pX,aVC]
  have hv:val (en n) % 18446744073709551616=n:=by rw [aG0 n hn,aU0 hn]
  rw [aJ,hv] at h;rcases h with ⟨_,ae,aw,aU⟩ | ⟨τ,_⟩
  ·refine ⟨ae, ?_,aU⟩;rw [aw,pX,aWu]
  ·exact absurd Z τ
 ·obtain ⟨i,ar,_,jt⟩:=jt;have:=dD i ar;omega
 ·obtain ⟨i,ar,ax7,jt⟩:=jt;have:=dD i ar ax7;omega
def wj (n:Nat):Int:=if n % 2=0 then ((n / 2:Nat):Int) else -((n / 2:Nat):Int) - 1
theorem avY (n:Nat):oT (wj n)=n:=by
 unfold oT wj;split<;>split<;>omega
theorem amp (x:Int):wj (oT x)=x:=by
 unfold oT wj;split<;>split<;>omega
theorem Qr (x:Int) (aK: -9223372036854775808≤x) (τ:x≤9223372036854775807):oT x<18446744073709551616:=by
 unfold oT;split<;>omega
theorem aGI (n:Nat) (h:n<18446744073709551616): -9223372036854775808≤wj n∧wj n≤9223372036854775807:=by
 unfold wj;split<;>omega
def items (l:List Int):List UInt8:=l.flatMap fun x=>en (oT x)
def qX (l:List Int):List UInt8:=en l.length++items l
theorem Mm (x:Int) (l:List Int):items (x::l)=en (oT x)++items l:=rfl
theorem aAn (a b:List Int):items (a++b)=items a++items b:=by unfold items;rw [aU4]
theorem ahT (a:List Int) (x:Int):items (a++ [x])=items a++en (oT x):=by rw [aAn,Mm];simp [items]
theorem Yv (l:List Int):(items l).length≤10 * l.length:=by
 induction l with
 | nil=>simp [items]
 | cons x l bK=>rw [Mm];have:=(BU (oT x)).1;simp;omega
theorem avT {x y:Int} (h:oT x=oT y):x=y:=by rw [← amp x,h,amp]
theorem Rx:∀ (a b:List Int) (s:List UInt8),sF a→sF b→a.length≤b.length→items a++s=items b→a=b.take a.length∧s=items (b.drop a.length)
 | [],b,s,_,_,_,h=>⟨by simp,by simpa [items] using h⟩
 | x::a, [],s,_,_,aC,_=>by simp at aC
 | x::a,y::b,s,ha,γ,aC,h=>by
  rw [Mm,Mm,aTX] at h;have hx:=ha x (by simp);have aF:=γ y (by simp);obtain ⟨τ,ae⟩:=Sd (Qr x hx.1 hx.2) (Qr y aF.1 aF.2) h;obtain ⟨aw,aU⟩:=Rx a b s (fun z bG=>ha z (by simp [bG])) (fun z bG=>γ z (by simp [bG])) (by simpa using aC) ae;rw [avT τ];exact ⟨by simp;exact aw,by simpa using aU⟩
def Ax (s:List UInt8) (out:List Int) (e:Int):Prop :=
 sF out∧(e=0→s=qX out∧out.length≤1000)∧(e≠0→out= []∧∀ l,sF l→l.length≤1000→s≠qX l)
theorem awv {l out:List Int} {e:Int} (aC:sF l) (τ:l.length≤1000) (h:Ax (qX l) out e):e=0∧out=l:=by
 obtain ⟨cc,ae,aw⟩:=h;by_cases he:e=0
 ·obtain ⟨aU,bz⟩:=ae he;unfold qX at aU;obtain ⟨cb,ej⟩:=Sd (by omega) (by omega) aU;obtain ⟨fq,_⟩:=Rx l out [] aC cc (by omega) (by rw [aT6];exact ej);rw [cb,aUo] at fq;exact ⟨he,fq.symm⟩
 ·exact absurd Z ((aw he).2 l aC τ)
theorem acO {s:List UInt8} {n:Nat} {r:List UInt8} {e:Int} (h:J7 s n r e) (he:e≠0∨1000<n) {k:Int} (au:k≠0):Ax s [] k:=by
 refine ⟨fun x hx=>(by cases hx),fun h=>absurd h au,fun _=>⟨Z,fun l aC τ hs=> ?_⟩⟩;subst hs;obtain ⟨ae,_,aw⟩:=Bk (by omega) h;rcases he with he | he
 ·exact he aw
 ·omega
theorem aqV {s:List UInt8} {n:Nat} {out:List Int} {r:List UInt8} {m:Nat} {r':List UInt8} {e:Int} (hs:s=en n++(items out++r)) (hn:n<18446744073709551616) (cc:sF out) (bA:out.length<n) (h:J7 r m r' e) (he:e≠0):Ax s [] e:=by
 refine ⟨fun x hx=>(by cases hx),fun h=>absurd h he,fun _=>⟨Z,fun l aC τ gM=> ?_⟩⟩;rw [gM] at hs;unfold qX at hs;obtain ⟨ae,aw⟩:=Sd (by omega) hn hs;obtain ⟨aU,bz⟩:=Rx out l r cc aC (by omega) aw.symm;have cb:l.drop out.length=l[out.length]'(by omega)::l.drop (out.length+1):=aU2 (by omega);rw [cb,Mm] at bz;subst bz;have hx:=aC (l[out.length]'(by omega)) (aUV _);exact he (Bk (Qr _ hx.1 hx.2) h).2.2
theorem aqU {s:List UInt8} {n:Nat} {out:List Int} {r:List UInt8} (hs:s=en n++(items out++r)) (hn:n<18446744073709551616) (cc:sF out) (bA:out.length=n) (hr:r≠ []) {k:Int} (au:k≠0):Ax s [] k:=by
 refine ⟨fun x hx=>(by cases hx),fun h=>absurd h au,fun _=>⟨Z,fun l aC τ gM=> ?_⟩⟩;rw [gM] at hs;unfold qX at hs;obtain ⟨ae,aw⟩:=Sd (by omega) hn hs;obtain ⟨aU,bz⟩:=Rx out l r cc aC (by omega) aw.symm;rw [aVM (by omega)] at bz;exact hr bz
theorem awu {s:List UInt8} {n:Nat} {out:List Int} (hs:s=en n++(items out++ [])) (cc:sF out) (bA:out.length=n) (hn:n≤1000):Ax s out 0 :=
 ⟨cc,fun _=>⟨by rw [hs,aT6,← bA];rfl,by omega⟩,fun h=>absurd rfl h⟩
end Go.Proofs.YtmeeljmapailnaaGreat.Pack
namespace Go.Proofs.YtmeeljmapailnaaGreat
open Tryz
end Go.Proofs.YtmeeljmapailnaaGreat
namespace Go.Proofs.YtmeeljmapailnaaGreat.Pack
open Tryz
open Go.RowKit Go.Proofs.YtmeeljmapailnaaGreat

theorem alF:(prog.info? 267).map (·.size)=some 2:=by kernel_rfl
theorem aA4:liesAt prog prog.depth 267 (2 / prog.cellsOf 267) 0 267 1=true:=by kernel_rfl
theorem infoByte:(prog.info? 5).map (fun i=>(i.zero,i.size,i.bytes))=some (some (.int .u8 0),1,1):=by kernel_rfl
theorem asj (b:Nat) (w:World) (aK:w.cell? ⟨b,0,none⟩=some (.pointer (some ⟨b,0,none⟩))):
  Calls prog 179 #[.pointer (some ⟨b,0,none⟩)] w fun e w'=>e= .returned (.tuple #[])∧w'=w:=by
 obtain ⟨j,aA,_⟩:=aYg.1 alF;go_enter func179,ntmps179;go_wp2
 rw [Lib.run_neq_ptr_same w _ underlying265 aA];go_wp2
 go_end0
 exact ⟨Z,Z⟩
theorem ash (b:Nat) (w:World) (aK:w.cell? ⟨b,0,none⟩=some (.pointer none)) (Ro:w.shape? b=some (267,2)) (ax3:w.frozen? ⟨b,0,none⟩=false):
  Calls prog 179 #[.pointer (some ⟨b,0,none⟩)] w fun e w'=>e= .returned (.tuple #[])∧w'=w.setCell ⟨b,0,none⟩ (.pointer (some ⟨b,0,none⟩)):=by
 obtain ⟨j,aA,ayk⟩:=aYg.1 alF;go_enter func179,ntmps179;go_wp2
 rw [Lib.run_to_unsafe w ⟨b,0,none⟩ underlying265 underlying309 aA (by rw [ayk];decide) Ro (Nat.zero_lt_succ 1)];simp only [Result.andThen];rw [aX4];go_wp2
 rw [run_callFunc_extern func189 (by kernel_rfl) (by kernel_rfl) (by kernel_rfl) (e:=Extern.AbiNoEscape.same) (by kernel_rfl)];rw [Lib.run_noEscape];simp only [Result.andThen];rw [aX4];go_wp2
 rw [Lib.run_from_unsafe w ⟨b,0,none⟩ underlying309 underlying265 aA Ro aA4];simp only [Result.andThen];rw [aX4];go_wp2
 go_end0
 exact ⟨Z,Z⟩
theorem CY (B b:Nat) (cu:List Value) (w:World) (h:Lib.IsBuilder 267 5 B b cu w):
  Calls prog 179 #[.pointer (some ⟨b,0,none⟩)] w fun e w'=>e= .returned (.tuple #[])∧(Lib.BuilderAt 267 5 B b (.pointer (some ⟨b,0,none⟩)) cu w'∧Below B w w'):=by
 rcases h with h | h
 ·refine (ash b w h.cell0 h.shape h.frozen0).mono ?_;rintro e w' ⟨rfl,rfl⟩;exact ⟨Z,h.used _,(aUb B w).setCell (p:=⟨b,0,none⟩) h.1 _⟩
 ·refine (asj b w h.cell0).mono ?_;rintro e w' ⟨rfl,rfl⟩;exact ⟨Z,h,aUb B _⟩
theorem am8 (B b:Nat) (cu:List Value) (s:ByteArray) (w:World) (h:Lib.IsBuilder 267 5 B b cu w) (hlen:cu.length+s.size≤140737488355328) (afO:B≤w.heap.size):
  Calls prog 154 #[.pointer (some ⟨b,0,none⟩), .string s] w fun e w'=>e= .returned (.tuple #[.int .i64 s.size, .nilIface])∧(Lib.BuilderAt 267 5 B b (.pointer (some ⟨b,0,none⟩)) (cu++Lib.strCells s) w'∧Below B w w'):=by
 obtain ⟨i0,ar,oa,mf,o1⟩:=aV0 infoByte;go_enter func154,ntmps154;go_wp2_with fail
 refine (CY B b cu _ h).mono ?_;rintro e aS ⟨rfl,τ,c8⟩;obtain ⟨bj,v,Ie,eT,eY⟩:=τ;have bo:aS.cell? ⟨b,0,none⟩=some (.pointer (some ⟨b,0,none⟩)):=by rw [aWU Ie];rfl
 have c1:aS.cell? ⟨b,1,none⟩=some v:=by rw [aWU Ie];rfl
 go_wp2_with (at_builtin;refine Lib.wpList_append_own_string _ rfl _ _ 263 9 rfl B 5 i0 underlying263 underlying9 ar oa mf o1 _ _ _ rfl eT s rfl ?c3 ?c4 ?c5 ?_)
 case c3=>unfold maxLen;omega
 case c4=>omega
 case c5=>have:=c8.size;omega
 intro v' cS xC iU _;have bA:b<aS.heap.size:=by
  rcases aUt b aS.heap.size with c7 | c7
  ·exact c7
  ·simp [aUD c7] at Ie
 have bF:cS.heap[b]? =some (.cells #[.pointer (some ⟨b,0,none⟩),v] 267 (0,0)):=by
  rw [iU.block b bA (fun e=>eY e.symm)];exact Ie
 have d0:cS.cell? ⟨b,0,none⟩=some (.pointer (some ⟨b,0,none⟩)):=by rw [aWU bF];rfl
 have d1:cS.cell? ⟨b,1,none⟩=some v:=by rw [aWU bF];rfl
 have f1:cS.frozen? ⟨b,1,none⟩=false:=Lib.frozen_of_heap bF 1;obtain ⟨acC,hT,cap,rfl⟩:∃ acC hT cap,v'= .slice acC hT cap:=by
  rcases xC.2 with ⟨hv,_⟩ | ⟨g,cap,cur,hv,_⟩
  ·exact ⟨_,_,_,hv⟩
  ·exact ⟨_,_,_,hv⟩
 go_wp2
 go_ret2
 refine ⟨Z, ?_, ?_⟩
 ·exact Lib.BuilderAt.put (T:= 267) (e:= 5) bj bF (bs':=cu++Lib.strCells s) (by simpa [Lib.strCells_length] using xC) (by decide)
 ·exact (c8.grown iU (by have:=c8.size;omega) (fun k au=>(eT.lt k au).1)).setCell (p:=⟨b,1,none⟩) bj _
end Go.Proofs.YtmeeljmapailnaaGreat.Pack
namespace Go.Proofs.YtmeeljmapailnaaGreat
open Tryz
end Go.Proofs.YtmeeljmapailnaaGreat
namespace Go.Proofs.YtmeeljmapailnaaGreat.Pack
open Tryz
open Go.RowKit Go.Proofs.YtmeeljmapailnaaGreat Go.Proofs.YtmeeljmapailnaaGreat.ey

theorem PA (op:BinOp) (a b:Int): -9223372036854775808≤bits op .i64 a b∧bits op .i64 a b≤9223372036854775807:=by
 have h:bits op .i64 a b=IntKind.i64.wrap (bits op .i64 a b):=by
  unfold bits;rw [aWV,aWV];omega
 rw [h,aWV];omega
theorem ae7 {x y:Int} (aK: -9223372036854775808≤x) (τ:x≤9223372036854775807) (g0: -9223372036854775808≤y) (g1:y≤9223372036854775807) (h:BitVec.ofInt 64 x=BitVec.ofInt 64 y):x=y:=by
 have e:=aUF BitVec.toInt h;rw [aXn,aXn] at e;simp only [Int.bmod] at e;omega
theorem aH2 (x:Int) (aK: -9223372036854775808≤x) (τ:x≤9223372036854775807):bits .xor .i64 x 0=x:=by
 refine ae7 (PA _ _ _).1 (PA _ _ _).2 aK τ ?_;rw [akn];simp
theorem aHZ (x:Int) (aK: -9223372036854775808≤x) (τ:x≤9223372036854775807):bits .xor .i64 x (-1)= -x - 1:=by
 refine ae7 (PA _ _ _).1 (PA _ _ _).2 (by omega) (by omega) ?_;rw [akn];have aY:BitVec.ofInt 64 (-1)=BitVec.allOnes 64:=by decide
 rw [aY,aYN];have bb:(-x - 1:Int)= -x+ -1:=by omega
 rw [bb,BitVec.ofInt_add,BitVec.ofInt_neg,aY];rw [BitVec.not_eq_neg_add,BitVec.sub_eq_add_neg,show -1#64=BitVec.allOnes 64 from by decide]
theorem aGJ (n:Nat) (hn:n<18446744073709551616) (w:World):
  Calls prog 121 #[.int .u64 (n:Int)] w fun e w'=>e= .returned (.int .i64 (wj n))∧w=w':=by
 have ae:n / 2<9223372036854775808:=by omega
 have jg:=aH2 ((n / 2:Nat):Int) (by omega) (by omega);have fB:=aHZ ((n / 2:Nat):Int) (by omega) (by omega);have hd:(n:Int) / 2=((n / 2:Nat):Int):=by omega
 have ha:bits .and .u64 (n:Int) 1=((n % 2:Nat):Int):=by
  have h:=(aXL .u64 64 (by decide) am7 n 1 (by omega) (by decide)).1;rw [aYK] at h;exact h
 unfold wj;obtain ⟨m,k8⟩:∃ m,Hid (n / 2=m):=⟨_,aTG rfl⟩;rw [k8.out] at ae jg fB hd ⊢;rcases aXS n with h | h
 ·rw [h] at ha ⊢;rw [aTO rfl];have ha:bits .and .u64 (n:Int) 1=0:=ha;clear h;go_enter func121,ntmps121;go_wp2_with fail
  go_ret;exact ⟨Z,Z⟩
 ·rw [h] at ha ⊢;rw [aTL (by decide)];have ha:bits .and .u64 (n:Int) 1=1:=ha;clear h;go_enter func121,ntmps121;go_wp2_with fail
  go_ret;exact ⟨Z,Z⟩
theorem Vg {T e:TypeId} {B b:Nat} {p:Value} {cu:List Value} {w w':World} (h:Lib.BuilderAt T e B b p cu w) (γ:Below w.heap.size w w'):Lib.BuilderAt T e B b p cu w':=by
 have bA:=h.lt;obtain ⟨bj,v,Ie,eT,eY⟩:=h;exact ⟨bj,v,by rw [γ.block b bA];exact Ie,aCX eT γ,eY⟩
theorem aDJ (A:Option Addr) (n c:Nat) (hn:1000<n) (w:World):
  Calls prog 123 #[.slice A n c] w fun e w'=>e= .returned (.tuple #[.string ⟨#[]⟩, .int .i64 2])∧w=w':=by
 have Rg:(1000:Int)<(n:Int):=by omega
 go_enter func123,ntmps123;go_wp2_with fail
 go_ret2
 exact ⟨Z,Z⟩
theorem akQ (A:Option Addr) (n c:Nat) (l:List Int) (aC:l.length=n) (hn:n≤1000) (QC:sF l) (w:World) (hr:Rd w 1 A n (vk l)):
  Calls prog 123 #[.slice A n c] w fun e w'=>e= .returned (.tuple #[.string (strOf (qX l)), .int .i64 0])∧Below w.heap.size w w':=by
 have bj:Lib.IsBuilder 267 5 w.heap.size w.heap.size [] (w.alloc (.cells #[.pointer none, .slice none 0 0] 267)):=
  .inl ⟨aTK _, .slice none 0 0,aWz w _,World.ownsRow_nil _ _ _ _,by simp [Value.ownBlock]⟩
 have cN:Below w.heap.size w (w.alloc (.cells #[.pointer none, .slice none 0 0] 267)):=(aUb _ _).alloc (aTK _) _;have hw:IntKind.u64.wrap (n:Int)=(n:Int):=by rw [aUW];omega
 have qB:=aTG aC;clear aC;go_enter func123,ntmps123;go_wp2_with fail
 refine (Se n (by omega) _ Z _).mono ?_;rintro e aS ⟨rfl,c8⟩;have afJ:Lib.IsBuilder 267 5 w.heap.size w.heap.size [] aS:=by
  rcases bj with h | h
  ·exact .inl (Vg h c8)
  ·exact .inr (Vg h c8)
 have bF:=cN.trans (c8.mono cN.size);clear bj c8;have n_:=BU n;go_wp2_with fail
 refine (am8 w.heap.size w.heap.size [] (strOf (en n)) aS afJ (by rw [Jl];simp;omega) bF.size).mono ?_;rintro e cS ⟨rfl,WZ,dZ⟩;have dK:=bF.trans dZ;rw [aVh,Lib.strCells_eq,yd] at WZ;clear afJ bF dZ;go_wp2_with fail
 go_loopw [17] (fun i wr=>∃ k:Nat,k≤n∧i= .int .i64 (k:Int)∧Lib.BuilderAt 267 5 w.heap.size w.heap.size (.pointer (some ⟨w.heap.size,0,none⟩)) (Lib.byteCells (en n++items (l.take k))) wr∧Below w.heap.size w wr) (fun i _=>n - (intOf i).toNat)
 case atStart=>exact ⟨0,aUv _,rfl,by simpa [items] using WZ,dK⟩
 case round =>
  clear WZ dK;obtain ⟨k,au,rfl,bj,γ⟩:=hrel;by_cases bA:k<n
  ·obtain ⟨b,o,rfl,hc⟩:=hr.2 (by omega);have js:k<l.length:=by rw [qB.out];exact bA
   have hx:=ar7 γ (hc k _ (adj l k js)) (aVG w _ (hc k _ (adj l k js)));have Rt:=QC l[k] (aUV js);have Mc:items (l.take (k+1))=items (l.take k)++en (oT l[k]):=by rw [aT5 js,ahT]
   have rk:=aTG Mc;generalize l[k]=x at *
   have qO:=Qr x Rt.1 Rt.2;have axY:=avV x Rt.1 Rt.2;have aN7:=BU (oT x);have Ip:=Yv (l.take k);have azy:(l.take k).length≤k:=aYF _ _;clear Mc;generalize oT x=y at *
   go_wp2_with fail
   refine (axY _).mono ?_;rintro e w' ⟨rfl,rfl⟩;go_wp2_with fail
   refine (Se y qO _ Z _).mono ?_;rintro e q1 ⟨rfl,n8⟩;have Bl:=Vg bj n8;have Ia:=γ.trans (n8.mono γ.size);go_wp2_with fail
   refine (am8 w.heap.size w.heap.size _ (strOf (en y)) q1 (.inr Bl) (by rw [Jl,Lib.byteCells_length];simp;omega) Ia.size).mono ?_;rintro e S4 ⟨rfl,afL,Fv⟩;have Ib:=Ia.trans Fv;rw [Lib.strCells_eq,yd,← Lib.byteCells_append,aTX,← rk.out] at afL;clear bj Bl γ n8 Ia Fv;go_wp2_with fail
   go_roundw
   case rel=>exact ⟨k+1,by omega,by go_num,afL,Ib⟩
   case measure=>simp [intOf];omega
  ·obtain rfl:k=n:=by omega
   rw [aT0 (by rw [qB.out];exact aTK _)] at bj;go_wp2_with fail
   refine (Builder_String_any w.heap.size w.heap.size (en k++items l) wr (.inr bj) γ.size).mono ?_;rintro e aaA ⟨rfl,QW⟩;go_wp2_with fail
   go_ret2
   refine ⟨?_,γ.trans QW⟩;unfold qX strOf;rw [qB.out];rfl
def aot (s:ByteArray) (w:World) (e:Ending) (w':World):Prop :=
 ∃ (out:List Int) (k:Int) (A:Option Addr) (n c:Nat),Ax s.data.toList out k∧e= .returned (.tuple #[.slice A n c, .int .i64 k])∧Own w' w.heap.size 3 1 OE (.slice A n c) out.length (vk out)∧Below w.heap.size w w'
theorem awk (s:ByteArray) (hs:s.size≤9223372036854775807) (w:World):Calls prog 84 #[.string s] w (aot s w):=by
 obtain ⟨i0,ar,oa,mf,o1⟩:=aV0 aAc;go_enter func84,ntmps84;go_wp2_with fail
 refine (afB s hs w).mono ?_;rintro e aS ⟨n,rest,k,bQ,rfl,c8⟩;have k7:=aTG bQ;by_cases au:k=0
 ·subst au;obtain ⟨Mb,Rh⟩:=afC bQ;have gb:=aTG Mb;have eJ:=aTG Rh;have jL:rest.length≤s.size:=by
   have h:=aUF List.length Mb;simp at h;have e:s.data.size=s.size:=rfl;omega
  clear Mb bQ Rh;by_cases hn:1000<n
  ·have Rg:(1000:Int)<(n:Int):=by omega
   go_wp2_with fail
   go_ret2
   exact ⟨[],2,none,0,0,acO k7.out (.inr hn) (by decide),Z,Own.nil _ _ _ _ _,c8⟩
  ·have Rg:¬ (1000:Int)<(n:Int):=by omega
   go_wp2_with fail
   go_loopw [0,5,6,24] (fun S E v i wr=>∃ (j:Nat) (out:List Int) (r:List UInt8),j≤n∧i= .int .u64 (j:Int)∧S= .string (strOf r)∧E= .int .i64 0∧out.length=j∧Own wr w.heap.size 3 1 OE v j (vk out)∧Below w.heap.size w wr∧
     Hid (s.data.toList=en n++(items out++r))∧Hid (sF out)∧r.length≤s.size) (fun _ _ _ i _=>n - (intOf i).toNat)
   case atStart=>exact ⟨0, [],rest,aUv _,rfl,rfl,rfl,rfl,Own.nil _ _ _ _ _,c8,gb,(fun x hx=>by cases hx),jL⟩
   case round =>
    clear c8 gb jL;obtain ⟨j,out,r,aA,rfl,rfl,rfl,ahh,eT,γ,gb,l5,aOd⟩:=hrel;have aX:=aTG ahh;clear ahh;by_cases bA:j<n
    ·go_wp2_with fail
     refine (afB (strOf r) (by rw [Jl];omega) wr).mono ?_;rintro e cS ⟨m,r2,eu,Lf,rfl,bF⟩;rw [yd] at Lf;have dZ:=γ.trans (bF.mono γ.size);by_cases ff:eu=0
     ·subst ff;obtain ⟨Dy,Ra⟩:=afC Lf;have azB:=aGJ m Ra;have QX:=aGI m Ra;have agH:=avY m;have AI:Hid (s.data.toList=en n++(items (out++ [wj m])++r2)):=by
       show _=_;rw [gb.out,Dy,ahT,agH,aTX]
      have aoK:Hid (sF (out++ [wj m])):=by
       intro x hx;rcases aTP.1 hx with h | h
       ·exact l5.out x h
       ·simp at h;subst h;exact QX
      have azm:r2.length≤s.size:=by
       have h:=aUF List.length Dy;simp at h;omega
      have ahk:=eT.later bF;have k8:=aTG Ra;clear Dy Ra agH Lf QX eT gb l5;generalize wj m=x at *
      have dK:=dZ.alloc dZ.size (.cells #[.int .i64 x] 3);have ahl:=ahk.later ((aUb cS.heap.size cS).alloc (aTK _) (.cells #[.int .i64 x] 3));have L6:Rd (cS.alloc (.cells #[.int .i64 x] 3)) 1 (some ⟨cS.heap.size,0,none⟩) 1 [.int .i64 x] :=
       ⟨rfl,fun _=>⟨cS.heap.size,0,rfl,fun q u I=>by
        match q,I with
        | 0,I=>simp at I;subst I;simp⟩⟩
      have abU:=aTG ahl;have aoV:=aTG L6;clear ahk ahl L6;go_wp2_with fail
      refine (azB _).mono ?_;rintro e w' ⟨rfl,rfl⟩;go_wp2_with (at_builtin;refine GG _ rfl _ _ 22 rfl w.heap.size 3 i0 (.int .i64 0) 1 8 underlying22 ar oa mf o1 rfl (by decide) OE ?g1 _ j (vk out) rfl abU.out (some ⟨cS.heap.size,0,none⟩) 1 1 [.int .i64 x] rfl aoV.out ?g2 ?g3 ?g4 ?g5 ?g6 ?_)
      case g1=>intro q u I;match q,I with | 0,I=>exact ⟨0,(aTA I).symm⟩
      case g2=>intro u hu;simp at hu;subst hu;rfl
      case g3=>intro q u I;match q,I with | 0,I=>exact ⟨x,(aTA I).symm⟩
      case g4=>unfold maxLen;omega
      case g5=>omega
      case g6=>exact dK.size
      intro v' q1 ahm iU _ fA;have n8:=dK.grown iU dK.size (fun q I=>(abU.out.row.lt q I).1);rw [← ar8] at ahm;clear iU fA dK dZ bF;go_wp2_with fail
      go_roundw
      case rel=>exact ⟨j+1,out++ [x],r2,by omega,by go_num,rfl,rfl,by simp [aX.out],ahm,n8,AI,aoK,azm⟩
      case measure=>simp [intOf];omega
     ·have XR:(eu != 0)=true:=by rw [aXj];exact ff
      have ig:=aTG ff;have jH:=aqV gb.out eJ.out l5.out (by rw [aX.out];exact bA) Lf ig.out;have aZ:=aTG jH;clear ff Lf jH;go_wp2_with fail
      go_ret2
      exact ⟨[],eu,none,0,0,aZ.out,Z,Own.nil _ _ _ _ _,dZ⟩
    ·obtain rfl:j=n:=by omega
     by_cases hr:r= []
     ·subst hr;have τ:(strOf []).toList= []:=by rw [aVF,yd]
      have ae:(!(strOf []).toList.isEmpty)=false:=by rw [aVF,yd];rfl
      obtain ⟨A,c,rfl,_⟩:=eT.shape;have i_:=aTG (awu gb.out l5.out aX.out (by omega));clear gb;go_wp2_with fail
      go_ret2
      exact ⟨out,0,A,j,c,i_.out,Z,by rw [aX.out];exact eT,γ⟩
     ·have τ:¬ (strOf r).toList= []:=by rw [aVF,yd];exact hr
      have ae:(!(strOf r).toList.isEmpty)=true:=by rw [aVF,yd];simpa using hr
      have i_:=aTG (aqU (k:=4) gb.out eJ.out l5.out aX.out hr (by decide));clear gb hr;go_wp2_with fail
      go_ret2
      exact ⟨[],4,none,0,0,i_.out,Z,Own.nil _ _ _ _ _,γ⟩
 ·have XR:(k != 0)=true:=by rw [aXj];exact au
  have aym:(k == 0)=false:=by rw [aV3];exact au
  have ig:=aTG au;clear au bQ;go_wp2_with fail
  go_ret2
  exact ⟨[],k,none,0,0,acO k7.out (.inl ig.out) ig.out,Z,Own.nil _ _ _ _ _,c8⟩
end Go.Proofs.YtmeeljmapailnaaGreat.Pack
namespace Go.Proofs.YtmeeljmapailnaaGreat
open Tryz
section
open Go.RowKit Go.Proofs.YtmeeljmapailnaaGreat.ey
def qh:aa (BitVec 64):=aa.flat 1 (λ b=> [.int .u64 (U b)]) (λ _=>True) (λ _ u=>∃ n:Int,u= .int .u64 n) (λ _=>rfl) (by intro a u hu;simp at hu;subst hu;rfl) (by
 intro a j u hu;cases j with
 | zero=>simp at hu;exact ⟨_,hu.symm⟩
 | succ j=>simp at hu)
theorem ahP:(prog.info? 130).map (λ i=>(i.zero,i.size,i.bytes))=some (some (.int .u64 0),1,8):=by kernel_rfl
theorem ak1:∀ (j:Nat) u,(Value.int .u64 0).cells[j]? =some u→qh.raw j u:=by
 intro j u hu;have hu:(#[(.int .u64 0:Value)]:Array Value)[j]? =some u:=hu
 match j,hu with
 | 0,hu=>exact ⟨0,(aTA hu).symm⟩
 | j+1,hu=>simp at hu
theorem aFp {by_:Nat} {w:World} {A:Option Addr} {c:Nat} {l:List (BitVec 64)} (h:qh.aG by_ w A c l):Mark.ES w A l.length l:=by
 refine ⟨Z,h.eZ, ?_⟩;cases aC:l with
 | nil=>exact .inl rfl
 | cons x r =>
  rw [← aC];obtain ⟨b,o,e,hc⟩:=h.at_ (by rw [aC];simp);refine .inr ⟨b,o,e,λ i ar=> ?_⟩;obtain ⟨es,⟨rfl,_⟩,aA⟩:=hc i _ (aTF ar);have:=aA 0 _ rfl;simpa [qh,aa.flat] using this
theorem afg {w:World}:∀ {ess:List (List Value)} {l:List Int},dm (λ es a=>bW.has w es a) ess l→ess.flatten=l.map (Value.int .i64)
 | [], [],_=>rfl
 | es::ess,a::l,h=>by
  obtain ⟨τ,ae⟩:=h;rw [aUw,gI τ,afg ae];rfl
 | [],_::_,h=>h.elim
 | _::_, [],h=>h.elim
def I7 (l:List Int):List UInt8:=if l.length≤1000 then Pack.qX l else []
def qR (l:List Int):BitVec 64:=Tree.DI (I7 l)
theorem aC1 (l:List Int):(I7 l).length≤20000:=by
 unfold I7;split
 ·rename_i h
  unfold Pack.qX;rw [aTE];have:=(Pack.BU l.length).1;have:=Pack.Yv l;omega
 ·simp
theorem aC2 (l:List Int) (A:Option Addr) (c:Nat) (w:World) (h:bW.aG 8 w A c l):Calls prog 123 #[.slice A l.length c] w λ e w'=>(∃ k,e= .returned (.tuple #[.string (Pack.strOf (I7 l)), .int .i64 k]))∧Ext w w':=by
 unfold I7;by_cases hn:l.length≤1000
 ·rw [aTO hn];have hr:Rd w 1 A l.length (vk l):=by
   obtain ⟨s1,s2,s8,ZU,ess,Je,Gj⟩:=h;rw [afg Je] at Gj;exact Gj
  exact (Pack.akQ A l.length c l Z hn (λ x hx=>bY.1 (Jd h x hx)) w hr).mono λ e w' h=>⟨⟨0,h.1⟩,h.2⟩
 ·rw [aTL hn];exact (Pack.aDJ A l.length c (by omega) w).mono λ e w' h=>⟨⟨2,h.1⟩,by rw [← h.2];exact Ext.bg w⟩
theorem aAW (s:List UInt8) (hs:s.length≤20000) (w:World):Calls prog 124 #[.string (Pack.strOf s)] w λ e w'=>e= .returned (.int .u64 (U (Tree.DI s)))∧Ext w w':=by
 refine (Tree.II (Pack.strOf s) (by rw [Pack.Jl];omega) w).mono ?_;rintro e w' ⟨rfl,q,rfl⟩;exact ⟨by rw [Pack.yd],below_drewN (aUb _ w) q⟩
theorem aCE (l:List (BitVec 64)) (A:Option Addr) (c:Nat) (w:World) (h:qh.aG 8 w A c l):Calls prog 87 #[.slice A l.length c] w λ e w'=>e= .returned (.int .u64 (U (Mark.Gb Mark.mix l)))∧Ext w w':=Mark.Zc A l.length c l w (aFp h)
def RZ (W:ak):BitVec 64:=qR ([1,W.field.wide,W.field.high,W.next,W.now]++W.field.a8)
def RY (W:ak) (i:Nat):BitVec 64:=qR [2,(i:Int),(W.a7.getD i default).x,(W.a7.getD i default).y,W.bp.getD i 0]
def BN (W:ak):Nat→List (BitVec 64)
 | 0=> []
 | k+1=>BN W k++(if W.bM.getD k 0=0 then [] else [qR [3,(k:Int),W.bM.getD k 0]])
def M3 (t:bd):BitVec 64:=qR [4,t.id,t.owner,t.kind,t.spot.x,t.spot.y,t.dk,t.load]
def BM (W:ak) (k:Nat):List (BitVec 64):= [RZ W]++(List.range k).map (RY W)
def marks (W:ak):List (BitVec 64):=BM W W.a7.length++BN W W.bM.length++W.aq.map M3
def r7 (W:ak):BitVec 64:=if W.bn=0 then Mark.Gb Mark.mix (marks W) else 0#64
theorem aBP (W:ak) (k:Nat):BM W (k+1)=BM W k++ [RY W k]:=by
 unfold BM;rw [aVg,aT8,← aTX];rfl
theorem Y7 (W:ak):∀ k,(BN W k).length≤k
 | 0=>aTK 0
 | k+1=>by
  have:=Y7 W k;rw [BN,aTE];split<;>simp<;>omega
theorem Y3 (W:ak) (k:Nat):(BM W k).length=k+1:=by unfold BM;simp
theorem aB2 {l:List bd} {k:Nat} {t:bd} (au:k<l.length) (aJ:l.getD k default=t):(l.take (k+1)).map M3=(l.take k).map M3++ [M3 t]:=by
 rw [← aJ,aTB,aTF au,← aX7 au,aT8];rfl
end
section
theorem Yu:(prog.info? 48).map (λ i=>(i.zero,i.size,i.bytes))=some (some (.slice none 0 0),1,24):=by kernel_rfl
def ng (w:World) (T:List hh) (L:List (List aN)):Prop:=T.length=L.length∧∀ (i:Nat) (v:hh),T[i]? =some v→∃ l:List aN,L[i]? =some l∧v.n=l.length∧aN.rep.aG 48 w v.a v.c l
section
variable {w w':World} {T j9:List hh} {L y0:List (List aN)} {W:ak} {l:List aN} {k:Nat} {e:Int} {V:ak} {ms:List (BitVec 64)}
theorem ng.keep (h:ng w T L) (hx:Ext w w'):ng w' T L:=⟨h.1,λ i v ar=>by
 obtain ⟨l,τ,ae,aw⟩:=h.2 i v ar;exact ⟨l,τ,ae,aw.keep hx⟩⟩
theorem ng.nil:ng w [] []:=⟨rfl,λ i v h=>by simp at h⟩
theorem ng.at_ (h:ng w T L) (au:k<T.length):∃ A c l,T[k]? =some ⟨A,l.length,c⟩∧L[k]? =some l∧aN.rep.aG 48 w A c l:=by
 obtain ⟨v,hv⟩:∃ v,T[k]? =some v:=⟨_,aTF au⟩;obtain ⟨l,τ,ae,aw⟩:=h.2 k v hv;obtain ⟨a,n,c⟩:=v;dsimp only at ae aw;subst ae;exact ⟨a,c,l,hv,τ,aw⟩
noncomputable def oo (W:ak) (L:List (List aN)):ak:=L.foldl ou W
noncomputable def yb (W:ak):List (List aN)→List (BitVec 64)
 | []=> [r7 W]
 | l::r=>r7 W::yb (ou W l) r
noncomputable def kZ (W:ak):List (List aN)→Int
 | []=>0
 | l::r=>if ir W l≠0 then ir W l else kZ (ou W l) r
def EO (W:ak) (L:List (List aN)) (e:Int) (V:ak) (ms:List (BitVec 64)):Prop:=(e=0∧L.length≤200∧W.bn=0∧kZ W L=0∧V=oo W L∧ms=yb W L)∨(e≠0∧(200<L.length∨W.bn≠0∨kZ W L≠0)∧V=ak.zero∧ms= [])
theorem alc:oo W (L++y0)=oo (oo W L) y0:=aUR
theorem ald:∀ (L:List (List aN)) (W:ak),(yb W L).length=L.length+1
 | [],_=>rfl
 | l::r,W=>by rw [yb,aTI,aTI,ald r]
theorem ale:∀ (L:List (List aN)) (W:ak),yb W (L++ [l])=yb W L++ [r7 (ou (oo W L) l)]
 | [],_=>rfl
 | l::r,W=>by rw [aVD,yb,yb,ale r];rfl
theorem Sq:∀ (L:List (List aN)) (W:ak),kZ W (L++y0)=if kZ W L≠0 then kZ W L else kZ (oo W L) y0
 | [],W=>by rw [aVh];unfold kZ;rw [aTL (by simp)];rfl
 | l::r,W=>by
  rw [aVD,kZ,kZ];by_cases h:ir W l≠0
  ·rw [aTO h,aTO h,aTO h]
  ·rw [aTL h,aTL h,Sq r];rfl
theorem ZN:kZ W [l]=ir W l:=by
 unfold kZ;split
 ·rfl
 ·rename_i h;unfold kZ;have:ir W l=0:=by simpa using h
  rw [this]
theorem z1 {α:Type} {L:List α} {l:α} (h:L[k]? =some l):L.take (k+1)=L.take k++ [l]:=by
 have e:=(aTC.1 h).2;rw [← e,aX7]
theorem ZR (aK:kZ W (L.take k)=0) (aC:L[k]? =some l):kZ W (L.take (k+1))=ir (oo W (L.take k)) l:=by
 rw [z1 aC,Sq,aTL (by simpa using aK),ZN]
theorem ZO (aK:kZ W (L.take k)≠0):kZ W L≠0:=by
 have:L=L.take k++L.drop k:=(aVb k L).symm;rw [this,Sq,aTO aK];exact aK
theorem EO.ok (h:EO W L e V ms) (aK:e=0):L.length≤200∧W.bn=0∧kZ W L=0∧V=oo W L∧ms=yb W L:=by
 rcases h with ⟨_,h⟩ | ⟨τ,_⟩
 ·exact h
 ·exact absurd aK τ
theorem EO.zero (h:EO W L e V ms) (τ:L.length≤200) (ae:W.bn=0) (aw:kZ W L=0):e=0∧V=oo W L∧ms=yb W L:=by
 rcases h with ⟨aK,_,_,_,aU,bz⟩ | ⟨_,aU,_⟩
 ·exact ⟨aK,aU,bz⟩
 ·omega
end
end
section
theorem aqq:fi prog bW 22 3 8:=fi.lH (z:=J 0) (k:=1) underlying22 DD rfl rfl (by decide) (λ j u h=>Jb j u h)
theorem US:fi prog qh 92 130 8:=fi.lH (z:= .int .u64 0) (k:=1) underlying92 ahP rfl rfl (by decide) (λ j u h=>ak1 j u h)
open Go.Proofs.YtmeeljmapailnaaGreat.ey
theorem II (l:List Int) (A:Option Addr) (c:Nat) (w:World) (aC:bW.aG 8 w A c l):
  Calls prog 86 #[.slice A l.length c] w (λ e w'=>e= .returned (.int .u64 (U (qR l)))∧Ext w w'):=by
 refine b' (n:=12) func86 Z Z Z ?_;refine ah<|va Z<|ag<|ah<|vm Z<|ca aeG Z Z ((aC2 l _ _ _ (aC.keep (Ext.bg w))).mono ?_);rintro e iH ⟨⟨aOA,rfl⟩,bq⟩;refine ⟨_,Z, ?_⟩;have:=bq.size;have b9:=ab (Ext.bg w) bq;refine vm Z<|Φ (ex Z Z)<|Φ (ex Z Z)<|va Z<|va Z<|ag<|ah<|vm Z<|ca aub Z Z ((aAW (I7 l) (aC1 _) _).mono ?_);rintro e amL ⟨rfl,anc⟩;refine ⟨_,Z, ?_⟩;have:=anc.size;have yy:=ab b9 anc;refine va Z<|ag<|rt<|aV (.tmp Z .nil)<| ?_;exact ⟨Z,yy⟩
theorem aBN (a:ak.b_) (W:ak) (w:World) (b4:ak.Has w a W) (hc:W.bn≠0):
  Calls prog 50 #[.agg ((ak.cells a W).toArray)] w (λ e w'=>e= .returned (.tuple #[.int .u64 (U (r7 W)),J W.bn])∧Ext w w'):=by
 have Yy:(W.bn != 0)=true:=by simpa using hc
 refine b' (n:=107) func50 Z Z Z ?_;refine ah<|ck Z Z Z Z λ cK bR bq dU ai=> ?_;have ba:=ab (Ext.bg w) bq;refine va Z<|va Z<|ag<|ay<|ah<|Φ (ao Z (ai.all dA cm))<|ca HN Z Z ((CY a W _ (b4.keep ba)).mono ?_);rintro e ea ⟨rfl,cZ⟩;refine ⟨_,Z, ?_⟩;have bE:=ab ba cZ;refine va Z<|ag<|ah<|vm Z<|Φ (bne Z Z)<|ag<|fH (gW Z Yy)<|ah<|vm Z<|va Z<|va Z<|ag<|rt<|bP<|aV (.tmp Z (.tmp Z .nil))<| ?_;exact ⟨by unfold r7;rw [aTL hc];rfl,bE⟩
theorem aBO (a:ak.b_) (W:ak) (w:World) (b4:ak.Has w a W) (hc:W.bn=0):
  Calls prog 50 #[.agg ((ak.cells a W).toArray)] w (λ e w'=>e= .returned (.tuple #[.int .u64 (U (r7 W)),J W.bn])∧Ext w w'):=by
 have Yy:(W.bn != 0)=false:=by simpa using hc
 have bQ:=Good.BQ hc;have aMP:=bQ.lI;have aMQ:=bQ.ek;have aMR:=bQ.sl;have aMO:=bQ.DR;have aMK:=aI.eZ bQ.field;obtain ⟨qa,qb,oe,r8⟩:=b4.nums;refine b' (n:=107) func50 Z Z Z ?_;refine ah<|ck Z Z Z Z λ cK bR bq dU ai=> ?_;have ba:=ab (Ext.bg w) bq;have ib:=ai.lt;refine va Z<|va Z<|ag<|ay<|ah<|Φ (ao Z (ai.all dA cm))<|ca HN Z Z ((CY a W _ (b4.keep ba)).mono ?_);rintro e ea ⟨rfl,cZ⟩;refine ⟨_,Z, ?_⟩;have:=cZ.size;have bE:=ab ba cZ;refine va Z<|ag<|ah<|vm Z<|Φ (bne Z Z)<|ag<|hj (gW Z Yy)<|bl<|ah<|Φ (av qI Z)<|Φ (av K3 Z)<| ?_;have ai:=ai.later cZ;refine Φ (ao Z (ai.one a6 Z))<|Φ (av qI Z)<|Φ (av VL Z)<|Φ (ao Z (ai.one a6 Z))<|Φ (av E8 Z)<|Φ (ao Z (ai.one a6 Z))<|Φ (av E_ Z)<|Φ (ao Z (ai.one a6 Z))<|cu (e:= 3) (cs:= [J 1,J W.field.wide,J W.field.high,J W.next,J W.now]) Z (λ _=>by kernel_rfl) Z λ td wW eo IH g_=> ?_;have jA:=ab bE eo;have aDS:=g_.lt;refine Φ (av qI Z)<|Φ (av xj Z)<| ?_;have ai:=ai.later eo;refine Φ (ao Z (ai.one fV Z))<| ?_;have O_:=aR.vZ (R:=bW) (by_:=8) (B:=w.heap.size) (k:= [1,W.field.wide,W.field.high,W.next,W.now]) g_ [[J 1], [J W.field.wide], [J W.field.high], [J W.next], [J W.now]] rfl (⟨⟨rfl,bY.2 (by decide)⟩,⟨⟨rfl,qa⟩,⟨⟨rfl,qb⟩,⟨⟨rfl,oe⟩,⟨⟨rfl,r8⟩,trivial⟩⟩⟩⟩⟩) (by simp) (by simp) (by decide) (by omega);have RI:∀ q∈aa.aj (some ⟨wW,0,none⟩),wW≤q:=λ q I=>aVk (aTz.1 I).symm;refine ap aqq aa.dj O_ (b4.P.keep jA) Z Z (by simp only [aTI,aTN];omega) (by simp only [aTI,aTN];omega) jA.size Z λ wm G2 ade nD EN HY aCe=> ?_;have:=nD.size;have jB:=Ext.mod jA nD (λ q I=>(O_.lt q I).1);refine ca P8 Z Z ((II ([1,W.field.wide,W.field.high,W.next,W.now]++W.field.a8) _ _ _ EN.has).mono ?_);rintro e th ⟨rfl,dO⟩;refine ⟨_,Z, ?_⟩;have:=dO.size;have iY:=ab jB dO;refine cu (e:= 130) (cs:= [.int .u64 (U (qR ([1,W.field.wide,W.field.high,W.next,W.now]++W.field.a8)))]) Z (λ _=>by kernel_rfl) Z λ Eb Pv lq aAO JZ=> ?_;have pw:=ab iY lq;refine va Z<|ag<|ay<|ah<|Φ (av rD Z)<| ?_;have asQ:∀ q∈aa.aj (some ⟨wW,0,none⟩),q=bR→False:=λ q I γ=>by (have:=RI q I;omega)
 have ai:=(ai.mod nD (λ I=>asQ _ I rfl)).later (ab dO lq);refine Φ (ao Z (ai.one vx Z))<|Φ (cl underlying25 Z)<|vm Z<|ag<|bu<| ?_;have Ko:=aR.vZ (R:=qh) (by_:=8) (B:=w.heap.size) (k:= [RZ W]) JZ [[.int .u64 (U (RZ W))]] rfl (⟨⟨rfl,trivial⟩,trivial⟩) (by simp) (by simp) (by decide) (by omega);have xl:∀ q∈aa.aj (some ⟨Pv,0,none⟩),q=Pv:=λ q I=>aTz.1 I;refine dx (λ bZ bS aL=>∃ d':Nat,∃ tM:List (BitVec 64),∃ G1:Option Addr,∃ PH:Nat,bS= [(1, .pointer (some ⟨bR,0,none⟩)),(2, .int .u64 0),(3,J 0),(5, .slice G1 tM.length PH),(35, .slice a.B W.a7.length a.b),(36,J (W.a7.length:Int)),(37,J (d':Int))]∧bZ=W.a7.length - d'∧Ext w aL∧aR aL bR (ak.cells a W) 28 (0,0)∧qh.aH 130 8 aL w.heap.size (aa.aj G1) G1 PH tM∧(d'≤W.a7.length)∧(tM=BM W d')∧(∀ q∈aa.aj G1,q=bR→False)) _ _ ⟨0, [RZ W],some ⟨Pv,0,none⟩,1,Z,Z,pw,ai,Ko,by omega,rfl,(λ q I γ=>by (have:=xl q I;omega))⟩ (.cons Z (.cons Z (.cons Z (.cons Z (.cons Z (.cons Z (.cons (bH Z) .nil))))))) ?_;rintro o9 aJY yl ⟨d',tM,G1,PH,rfl,rfl,ko,ai,He,pX,W5,HG⟩;have aRB:=ai.lt;have aaq:=b7 He.lt;refine ah<|Φ (blt Z Z)<|ag<|ay<| ?_;refine df Z (λ axc=> ?_) (λ axc=> ?_)
 ·obtain ⟨c,mP⟩:∃ c,W.a7.getD d' default=c:=⟨_,rfl⟩;obtain ⟨kA,Rm⟩:∃ kA,W.bp.getD d' 0=kA:=⟨_,rfl⟩;have ako:c.ok:=az.k_ b4.B c (by rw [← mP];exact gP (by omega));have Zg:e_ kA:=Jd b4.S kA (by rw [← Rm];exact gP (by omega));have ayJ:RY W d'=qR [2,(d':Int),c.x,c.y,kA]:=by unfold RY;rw [mP,Rm]
  have afT:tM.length=d'+1:=by rw [W5,Y3]
  refine bl<|ay<|bu<|ah<|vm Z<|Φ (bT d' underlying25 b2 Z Z ((b4.B.keep ko).bs (aO d')) Z (by omega))<|Φ (ao Z (aa.aG.er xv ((b4.B.keep ko).cg (aO d')) (show W.a7[d']? =some c by rw [← mP];exact cA (u:=default) (by omega)) cv b2))<|al Z xi Z Z λ Ai ve kl YG wF=> ?_;have kH:=ab ko kl;have Nd:=wF.lt;refine va Z<|st (new:= [J c.x,J c.y]) Z Z wF Z b2 Z Z Z λ q4 lU wF=> ?_;have:=lU.size;have iw:=Ext.mod kH lU bC;refine ag<| ?_;refine cR [(3,0),(5,0),(7,0),(10,0),(11,2),(12,0),(13,2),(14,3)] [0,1,2,3,4,5,6,7,8,9,10,11,12,13,14,15] ?_;refine a1 Z Z<|a1 Z Z<|aB Z (λ _=>av jb Z)<|bx Z (λ _ x=>ao Z ((wF.later x).one a6 Z))<|aB Z (λ _=>av jd Z)<|bx Z (λ _ x=>ao Z ((wF.later x).one a6 Z))<|aB Z (λ _=>av t_ Z)<| ?_;have ai:=(ai.later kl).mod lU aQ;refine bx Z (λ _ x=>ao Z ((ai.later x).one fV Z))<|a1 Z Z<|aB Z (λ _=>bT d' underlying22 dI Z Z ((b4.S.keep iw).bs (aO d')) Z (by omega))<|bx Z (λ _ x=>ao Z (aa.aG.eM gI ((b4.S.keep (ab iw x)).cg (aO d')) (show W.bp[d']? =some kA by rw [← Rm];exact cA (u:=0) (by omega)) Z a6))<|gz Z Z Z λ JB qq Q hK=>cu (e:= 3) (cs:= [J 2,J (d':Int),J c.x,J c.y,J kA]) Z (λ _=>by kernel_rfl) Z λ Tb acL j5 aju nd=>hK _ _ ⟨ab qq j5, ?_⟩;have:=qq.size;have q8:=ab iw qq;have uK:=ab q8 j5;have akW:=nd.lt;refine pO Z Z P8 Z (λ _ x=>II ([2,(d':Int),c.x,c.y,kA]) _ _ _ ((aR.LC (R:=bW) (by_:=8) (k:= [2,(d':Int),c.x,c.y,kA]) nd [[J 2], [J (d':Int)], [J c.x], [J c.y], [J kA]] Z (⟨⟨Z,bY.2 (by decide)⟩,⟨⟨Z,bY.2 (by omega)⟩,⟨⟨Z,ako.1⟩,⟨⟨Z,ako.2⟩,⟨⟨Z,Zg⟩,trivial⟩⟩⟩⟩⟩) (by simp) (by simp)).keep x)) Z<|gz Z Z Z λ NO jz Q hK=>cu (e:= 130) (cs:= [.int .u64 (U (qR ([2,(d':Int),c.x,c.y,kA])))]) Z (λ _=>by kernel_rfl) Z λ Tc aLw hC aPB abG=>hK _ _ ⟨ab jz hC, ?_⟩;have:=jz.size;have uL:=ab uK jz;have yD:=ab uL hC;have aRS:=abG.lt;have He:=((He.later kl).mod lU (b0 aaq)).later (ab qq (ab j5 (ab jz hC)));refine eg Z Z Z λ aaG ic Q hK=>ap US aa.dj (He.later ic) ((aR.gY (R:=qh) (by_:=8) (q:=(qR ([2,(d':Int),c.x,c.y,kA]))) abG ⟨Z,trivial⟩ (by decide)).keep ic) Z Z (by simp only [aTI,aTN];omega) (by simp only [aTI,aTN];omega) (by have:=ic.size;omega) Z λ GF anU arW BL UM awg aQD=>hK _ _ ?_;have:=ic.size;have uM:=ab yD ic;have nT:=Ext.mod uM BL (λ q I=>aUc (by omega) ((He.later ic).lt q I).1);refine aB Z (λ _=>fG Z)<|fn λ NS k3=> ?_;have wA:=ab nT k3;refine bU<|aP<|rg<|Φ (bad Z Z (bf (by omega)))<|vm Z<|nl<| ?_;have ai:=((ai.later (ab qq (ab j5 (ab jz (ab hC ic))))).mod BL (λ I=>HG _ I rfl)).later k3;have UM:=UM.later k3;exact cD _ _ ⟨d'+1,tM++ [(qR ([2,(d':Int),c.x,c.y,kA]))],anU,arW,Z,Z,wA,ai,UM,by omega,by rw [aBP,W5,ayJ],(λ q I γ=>by (exact aTT (awg q I) (λ aja=>by (exact HG q aja γ)) (λ aja=>by omega)))⟩ (by omega) (.cons Z (.cons Z (.cons Z (.cons Z (.cons Z (.cons Z (.cons (bH Z) .nil)))))))
 ·refine cV<|cU<|c'<|cT<|aP<|ay<|ah<|Φ (av zn Z)<|Φ (ao Z (ai.one fV Z))<|Φ (cl underlying22 Z)<|vm Z<|ag<|bu<| ?_;refine dx (λ bZ bS aL=>∃ eu:Nat,∃ tN:List (BitVec 64),∃ k5:Option Addr,∃ xa:Nat,bS= [(1, .pointer (some ⟨bR,0,none⟩)),(2, .int .u64 0),(3,J 0),(5, .slice k5 tN.length xa),(59, .slice a.M W.bM.length a.m),(60,J (W.bM.length:Int)),(61,J (eu:Int))]∧bZ=W.bM.length - eu∧Ext w aL∧aR aL bR (ak.cells a W) 28 (0,0)∧qh.aH 130 8 aL w.heap.size (aa.aj k5) k5 xa tN∧(eu≤W.bM.length)∧(tN=BM W W.a7.length++BN W eu)∧(∀ q∈aa.aj k5,q=bR→False)) _ _ ⟨0,tM,G1,PH,Z,Z,ko,ai,He,by omega,by rw [BN,aT6,W5,show d'=W.a7.length by omega],(λ q I γ=>by (exact HG q I γ))⟩ (.cons Z (.cons Z (.cons Z (.cons Z (.cons Z (.cons Z (.cons (bH Z) .nil))))))) ?_;rintro rZ aJF JG ⟨eu,tN,k5,xa,rfl,rfl,qw,ai,qD,ff,QH,HJ⟩;have aQX:=ai.lt;refine ah<|Φ (blt Z Z)<|ag<|ay<| ?_;refine df Z (λ awU=> ?_) (λ awU=> ?_)
  ·obtain ⟨mY,Rf⟩:∃ mY,W.bM.getD eu 0=mY:=⟨_,rfl⟩;have Zg:e_ mY:=Jd b4.M mY (by rw [← Rf];exact gP (by omega));have afT:tN.length≤W.a7.length+1+eu:=by rw [QH,aTE,Y3];have:=Y7 W eu;omega
   refine bl<|ay<|bu<|ah<|vm Z<|Φ (bT eu underlying22 dI Z Z ((b4.M.keep qw).bs (aO eu)) Z (by omega))<|Φ (ao Z (aa.aG.eM gI ((b4.M.keep qw).cg (aO eu)) (show W.bM[eu]? =some mY by rw [← Rf];exact cA (u:=0) (by omega)) Z a6))<|va Z<|va Z<|ag<|ah<|vm Z<|Φ (bne Z Z)<|ag<| ?_;refine ee Z (λ Fo=> ?_) (λ Fo=> ?_)
   ·have Br:mY≠0:=by simpa using Fo
    refine rg<|vm Z<|vm Z<|vm Z<|cu (e:= 3) (cs:= [J 3,J (eu:Int),J mY]) Z (λ _=>by kernel_rfl) Z λ S7 aqM k1 aAG JW=> ?_;have Al:=ab qw k1;have aDP:=JW.lt;refine ca P8 Z Z ((II ([3,(eu:Int),mY]) _ _ _ (aR.LC (R:=bW) (by_:=8) (k:= [3,(eu:Int),mY]) JW [[J 3], [J (eu:Int)], [J mY]] Z (⟨⟨Z,bY.2 (by decide)⟩,⟨⟨Z,bY.2 (by omega)⟩,⟨⟨Z,Zg⟩,trivial⟩⟩⟩) (by simp) (by simp))).mono ?_);rintro e aHl ⟨rfl,Tt⟩;refine ⟨_,Z, ?_⟩;have:=Tt.size;have aaV:=ab Al Tt;refine cu (e:= 130) (cs:= [.int .u64 (U (qR ([3,(eu:Int),mY])))]) Z (λ _=>by kernel_rfl) Z λ aSx aKZ Tu aOW abn=> ?_;have:=Tu.size;have aIl:=ab aaV Tu;have aDQ:=abn.lt;have qD:=qD.later (ab k1 (ab Tt Tu));refine ap US aa.dj qD (aR.gY (R:=qh) (by_:=8) (q:=(qR ([3,(eu:Int),mY]))) abn ⟨Z,trivial⟩ (by decide)) Z Z (by simp only [aTI,aTN];omega) (by simp only [aTI,aTN];omega) (by omega) Z λ aHn anD arG ajQ apA awb aQd=> ?_;have TA:=Ext.mod aIl ajQ (λ q I=>aUc (by omega) (qD.lt q I).1);refine va Z<|nl<|bU<|aP<|rg<|Φ (bad Z Z (bf (by omega)))<|vm Z<|nl<| ?_;have ai:=(ai.later (ab k1 (ab Tt Tu))).mod ajQ (λ I=>HJ _ I rfl);exact cD _ _ ⟨eu+1,tN++ [(qR ([3,(eu:Int),mY]))],anD,arG,Z,Z,TA,ai,apA,by omega,by rw [QH,BN,Rf,aTL Br];simp,(λ q I γ=>by (exact aTT (awb q I) (λ Mw=>by (exact HJ q Mw γ)) (λ Mw=>by omega)))⟩ (by omega) (.cons Z (.cons Z (.cons Z (.cons Z (.cons Z (.cons Z (.cons (bH Z) .nil)))))))
   ·have Br:mY=0:=by simpa using Fo
    refine ei<|bU<|aP<|rg<|Φ (bad Z Z (bf (by omega)))<|vm Z<|nl<| ?_;exact cD _ _ ⟨eu+1,tN,k5,xa,Z,Z,qw,ai,qD,by omega,by rw [QH,BN,Rf,aTO Br];simp,(λ q I γ=>by (exact HJ q I γ))⟩ (by omega) (.cons Z (.cons Z (.cons Z (.cons Z (.cons Z (.cons Z (.cons (bH Z) .nil)))))))
  ·refine cV<|cU<|c'<|cT<|aP<|ay<|ah<|Φ (av ka Z)<|Φ (ao Z (ai.one lN Z))<|Φ (cl underlying26 Z)<|vm Z<|ag<|bu<| ?_;refine dx (λ bZ bS aL=>∃ kg:Nat,∃ EJ:List (BitVec 64),∃ On:Option Addr,∃ Vp:Nat,bS= [(2, .int .u64 0),(3,J 0),(5, .slice On EJ.length Vp),(77, .slice a.T W.aq.length a.t),(78,J (W.aq.length:Int)),(79,J (kg:Int))]∧bZ=W.aq.length - kg∧Ext w aL∧qh.aH 130 8 aL w.heap.size (aa.aj On) On Vp EJ∧(kg≤W.aq.length)∧(EJ=BM W W.a7.length++BN W W.bM.length++(W.aq.take kg).map M3)) _ _ ⟨0,tN,k5,xa,Z,Z,qw,qD,by omega,by rw [QH,show eu=W.bM.length by omega];simp⟩ (.cons Z (.cons Z (.cons Z (.cons Z (.cons Z (.cons (bH Z) .nil)))))) ?_;rintro aPU aJL amG ⟨kg,EJ,On,Vp,rfl,rfl,Cg,Hf,XR,W6⟩;have:=Cg.size;have aGw:=b7 Hf.lt;refine ah<|Φ (blt Z Z)<|ag<|ay<| ?_;refine df Z (λ aw2=> ?_) (λ aw2=> ?_)
   ·obtain ⟨t,FM⟩:∃ t,W.aq.getD kg default=t:=⟨_,rfl⟩;obtain ⟨pa,lV,nF,og,qd,I1,M5⟩:e_ t.id∧e_ t.owner∧e_ t.kind∧e_ t.spot.x∧e_ t.spot.y∧e_ t.dk∧e_ t.load:=bd.k_ b4.T t (by rw [← FM];exact gP (by omega));have afT:EJ.length≤W.a7.length+1+W.bM.length+kg:=by rw [W6,aTE,aTE,Y3,aUz,aTD];have:=Y7 W W.bM.length;omega
    refine bl<|ay<|bu<|ah<|Φ (bT kg underlying26 kr Z Z ((b4.T.keep Cg).bs (aO kg)) Z (by omega))<|Φ (ao Z (aa.aG.er jI ((b4.T.keep Cg).cg (aO kg)) (show W.aq[kg]? =some t by rw [← FM];exact cA (u:=default) (by omega)) zm kr))<|al Z K5 Z Z λ aHp aK5 NZ aO3 yQ=> ?_;have aaX:=ab Cg NZ;have aRc:=yQ.lt;refine st (new:= [J t.id,J t.owner,J t.kind,J t.spot.x,J t.spot.y,J t.dk,J t.load]) Z Z yQ Z kr Z Z Z λ amI DK yQ=> ?_;have:=DK.size;have JO:=Ext.mod aaX DK bC;refine ag<|rg<|vm Z<|Φ (av HO Z)<|Φ (ao Z (yQ.one a6 Z))<|Φ (av Fe Z)<|Φ (ao Z (yQ.one a6 Z))<|Φ (av Qe Z)<|Φ (ao Z (yQ.one a6 Z))<|Φ (av tZ Z)<|Φ (av jb Z)<|Φ (ao Z (yQ.one a6 Z))<|Φ (av tZ Z)<|Φ (av jd Z)<|Φ (ao Z (yQ.one a6 Z))<|Φ (av Qi Z)<|Φ (ao Z (yQ.one a6 Z))<|Φ (av A' Z)<|Φ (ao Z (yQ.one a6 Z))<|cu (e:= 3) (cs:= [J 4,J t.id,J t.owner,J t.kind,J t.spot.x,J t.spot.y,J t.dk,J t.load]) Z (λ _=>by kernel_rfl) Z λ amJ aqO tu aAI JX=> ?_;have Oc:=ab JO tu;have aDR:=JX.lt;refine ca P8 Z Z ((II ([4,t.id,t.owner,t.kind,t.spot.x,t.spot.y,t.dk,t.load]) _ _ _ (aR.LC (R:=bW) (by_:=8) (k:= [4,t.id,t.owner,t.kind,t.spot.x,t.spot.y,t.dk,t.load]) JX [[J 4], [J t.id], [J t.owner], [J t.kind], [J t.spot.x], [J t.spot.y], [J t.dk], [J t.load]] Z (⟨⟨Z,bY.2 (by decide)⟩,⟨⟨Z,pa⟩,⟨⟨Z,lV⟩,⟨⟨Z,nF⟩,⟨⟨Z,og⟩,⟨⟨Z,qd⟩,⟨⟨Z,I1⟩,⟨⟨Z,M5⟩,trivial⟩⟩⟩⟩⟩⟩⟩⟩) (by simp) (by simp))).mono ?_);rintro e aHr ⟨rfl,aaP⟩;refine ⟨_,Z, ?_⟩;have:=aaP.size;have aaZ:=ab Oc aaP;refine cu (e:= 130) (cs:= [.int .u64 (U (qR ([4,t.id,t.owner,t.kind,t.spot.x,t.spot.y,t.dk,t.load])))]) Z (λ _=>by kernel_rfl) Z λ aSQ aK9 sm aO8 an4=> ?_;have:=sm.size;have aIC:=ab aaZ sm;have Hf:=((Hf.later NZ).mod DK (b0 aGw)).later (ab tu (ab aaP sm));refine ap US aa.dj Hf (aR.gY (R:=qh) (by_:=8) (q:=(qR ([4,t.id,t.owner,t.kind,t.spot.x,t.spot.y,t.dk,t.load]))) an4 ⟨Z,trivial⟩ (by decide)) Z Z (by simp only [aTI,aTN];omega) (by simp only [aTI,aTN];omega) (by omega) Z λ aST anL arN aBy apG aML aQn=> ?_;have aIF:=Ext.mod aIC aBy (λ q I=>aUc (by omega) (Hf.lt q I).1);refine va Z<|nl<|bU<|aP<|rg<|Φ (bad Z Z (bf (by omega)))<|vm Z<|nl<| ?_;exact cD _ _ ⟨kg+1,EJ++ [(qR ([4,t.id,t.owner,t.kind,t.spot.x,t.spot.y,t.dk,t.load]))],anL,arN,Z,Z,aIF,apG,by omega,by rw [W6,aB2 (by omega) FM,aTX];rfl⟩ (by omega) (.cons Z (.cons Z (.cons Z (.cons Z (.cons Z (.cons (bH Z) .nil))))))
   ·refine cV<|cU<|c'<|cT<|aP<|ah<|vm Z<|ca auc Z Z ((aCE EJ _ _ _ Hf.has).mono ?_);rintro e aSY ⟨rfl,aHX⟩;refine ⟨_,Z, ?_⟩;have aIJ:=ab Cg aHX;refine va Z<|va Z<|ag<|rt<|aV (.tmp Z (.tmp Z .nil))<| ?_;exact ⟨by unfold r7;rw [aTO hc,hc,W6,show kg=W.aq.length by omega,aUo];rfl,aIJ⟩
theorem ajY (a:ak.b_) (W:ak) (w:World) (b4:ak.Has w a W):Calls prog 50 #[.agg (ak.cells a W).toArray] w (λ e w'=>e= .returned (.tuple #[.int .u64 (U (r7 W)),J W.bn])∧Ext w w'):=by
 by_cases hc:W.bn=0
 ·exact aBO a W w b4 hc
 ·exact aBN a W w b4 hc
end
section
theorem aqp:fi prog qh 92 130 8:=fi.lH (z:= .int .u64 0) (k:=1) underlying92 ahP rfl rfl (by decide) (λ j u h=>ak1 j u h)
open Go.Proofs.YtmeeljmapailnaaGreat.ey
theorem Nk (a:ak.b_) (W:ak) (A:Option Addr) (c:Nat) (T:List hh) (L:List (List aN)) (w:World) (b4:ak.Has w a W) (cr:m2.aG 24 w A c T) (du:ng w T L):
  Calls prog 25 #[.agg ((ak.cells a W).toArray), .slice A T.length c] w (λ e w'=>∃ e' a' V bL bX ms,e= .returned (.tuple #[.agg (ak.cells a' V).toArray, .slice bL (ms:List (BitVec 64)).length bX,J e'])∧EO W L e' V ms∧bO w' w.heap.size a' V∧qh.aH 130 8 w' w.heap.size (aa.aj bL) bL bX ms∧(∀ q,q∈aa.aj bL→q∈bO.cM a'→False)∧Ext w w'):=by
 refine b' (n:=64) func25 Z Z Z ?_;refine ah<|ck Z Z Z Z λ cK bR bq dU ai=> ?_;have ba:=ab (Ext.bg w) bq;have ib:=ai.lt;refine al Z pN Z Z λ ea cC br gO ax=> ?_;have:=br.size;have bE:=ab ba br;have mi:=ax.lt;refine va Z<|va Z<|ag<|ay<|ah<|vm Z<|Φ (cl underlying30 Z)<|Φ (hM Z Z)<|ag<| ?_;refine df Z (λ iT=> ?_) (λ iT=> ?_)
 ·refine ah<|Φ (v:= .agg #[J 0,J 0, .slice none 0 0, .slice none 0 0, .slice none 0 0, .slice none 0 0, .slice none 0 0,J 0,J 0]) (cY Z (by kernel_rfl))<|st (new:= [J 0,J 0, .slice none 0 0, .slice none 0 0, .slice none 0 0, .slice none 0 0, .slice none 0 0,J 0,J 0]) Z Z ax Z cm Z Z Z λ wk ur ax=> ?_;have km:=Ext.mod bE ur bC;refine va Z<|va Z<|ag<|rt<|bP<|aV (.cell Z (ax.all dA cm) (.tmp Z (.tmp Z .nil)))<| ?_;exact ⟨2,⟨none,none,none,none,none,0,0,0,0,0⟩,ak.zero,none,0, [],Z, .inr ⟨by decide, .inl (by rw [← du.1];omega),rfl,rfl⟩,bO.zero _ _,aa.aH.nil _,λ q I=>by simp [aa.aj] at I,km⟩
 ·have awO:L.length≤200:=by rw [← du.1];omega
  refine bl<|ah<| ?_;have ai:=ai.later br;refine Φ (ao Z (ai.all dA cm))<|ca aeF Z Z ((alY ([]:List dF) _ _ a W _ (b4.keep bE) (aa.aG.nil _)).mono ?_);rintro e q3 ⟨a20,anq,arq,rfl,tI,aKp,axM,cX⟩;refine ⟨_,Z, ?_⟩;have:=cX.size;have ie:=ab bE cX;have aGA:=b7 tI.lt;have FU:=dM tI.lt;refine vm Z<|Φ (ex Z Z)<|Φ (ex Z Z)<|Φ (ex Z Z)<| ?_;have ai:=ai.later cX;refine st Z Z ai Z cm Z Z Z λ Ah o8 ai=> ?_;have:=o8.size;have kG:=Ext.mod ie o8 bC;refine va Z<|va Z<|ag<|ay<|ah<|vm Z<|Φ (bne Z Z)<|ag<| ?_;refine ee Z (λ n4=> ?_) (λ n4=> ?_)
  ·have Bp:W.bn≠0:=λ bc=>n4 (Ve bc (by simp));refine ah<|Φ (v:= .agg #[J 0,J 0, .slice none 0 0, .slice none 0 0, .slice none 0 0, .slice none 0 0, .slice none 0 0,J 0,J 0]) (cY Z (by kernel_rfl))<|vm Z<| ?_;have ax:=(ax.later cX).mod o8 aQ;refine st (new:= [J 0,J 0, .slice none 0 0, .slice none 0 0, .slice none 0 0, .slice none 0 0, .slice none 0 0,J 0,J 0]) Z Z ax Z cm Z Z Z λ Ea IU ax=> ?_;have sx:=Ext.mod kG IU bC;refine va Z<|va Z<|ag<|rt<|bP<|aV (.cell Z (ax.all dA cm) (.tmp Z (.tmp Z .nil)))<| ?_;exact ⟨l_ W ([]:List dF),⟨none,none,none,none,none,0,0,0,0,0⟩,ak.zero,none,0, [],Z, .inr ⟨n4, .inr (.inl Bp),Z,Z⟩,bO.zero _ _,aa.aH.nil _,λ q I=>by simp [aa.aj] at I,sx⟩
  ·have mP:W.bn=0:=(PC (by first | exact n4 | simpa using n4)).1;have FL:=alZ mP;refine bl<|ah<|Φ (ao Z (ai.all dA cm))<| ?_;have tI:=tI.mod o8 (bJ FU);refine ca aeH Z Z ((ajY a20 (j1 W ([]:List dF)) _ tI.has).mono ?_);rintro e sk ⟨rfl,fg⟩;refine ⟨_,Z, ?_⟩;have:=fg.size;have jQ:=ab kG fg;refine vm Z<|Φ (ex Z Z)<|Φ (ex Z Z)<|va Z<|va Z<|ag<|ah<|vm Z<|cu (e:= 130) (cs:= [.int .u64 (U (r7 (j1 W ([]:List dF))))]) Z (λ _=>by kernel_rfl) Z λ Jy KG m9 aAP wE=> ?_;have qv:=ab jQ m9;refine va Z<|ag<|ay<|ah<|vm Z<|Φ (cl underlying30 Z)<|vm Z<|ag<|bu<| ?_;have Ko:=aR.vZ (R:=qh) (by_:=8) (B:=w.heap.size) (k:= [r7 (j1 W ([]:List dF))]) wE [[.int .u64 (U (r7 (j1 W ([]:List dF))))]] rfl (⟨⟨rfl,trivial⟩,trivial⟩) (by simp) (by simp) (by decide) (by omega);have xl:∀ q∈aa.aj (some ⟨KG,0,none⟩),q=KG:=λ q I=>aTz.1 I;have ai:=ai.later (ab fg m9);have tI:=tI.later (ab fg m9);have ax:=((ax.later cX).mod o8 aQ).later (ab fg m9);refine dx (λ bZ bS aL=>∃ k:Nat,∃ EL:List (BitVec 64),∃ dw:Option Addr,∃ iR:Nat,∃ oN:ak.b_,∃ kM:ak,bS= [(2, .pointer (some ⟨bR,0,none⟩)),(4, .pointer (some ⟨cC,0,none⟩)),(11, .slice dw EL.length iR),(35, .slice A T.length c),(36,J (T.length:Int)),(37,J (k:Int))]∧bZ=T.length - k∧Ext w aL∧aR aL cC [J 0,J 0, .slice none 0 0, .slice none 0 0, .slice none 0 0, .slice none 0 0, .slice none 0 0,J 0,J 0] 28 (0,0)∧qh.aH 130 8 aL w.heap.size (aa.aj dw) dw iR EL∧aR aL bR (ak.cells oN kM) 28 (0,0)∧bO aL w.heap.size oN kM∧(k≤T.length)∧(kZ W (L.take k)=0)∧(kM=oo W (L.take k))∧(EL=yb W (L.take k))∧(∀ q∈bO.cM oN,q=bR→False)∧(∀ q∈bO.cM oN,q=cC→False)∧(∀ q∈aa.aj dw,q=cC→False)∧(∀ q∈aa.aj dw,q=bR→False)∧(∀ q∈aa.aj dw,q∈bO.cM oN→False)) _ _ ⟨0, [r7 (j1 W ([]:List dF))],some ⟨KG,0,none⟩,1,a20,j1 W ([]:List dF),Z,Z,qv,ax,Ko,ai,(tI.down (by omega)),by omega,rfl,FL.1,(by rw [FL.1];rfl),(λ q I γ=>by exfalso;(have:=FU q I;omega)),(λ q I γ=>by exfalso;(have:=FU q I;omega)),(λ q I γ=>by (have:=xl q I;omega)),(λ q I γ=>by (have:=xl q I;omega)),(λ q I γ=>by (have:=xl q I;(have:=aGA q γ;omega)))⟩ (.cons Z (.cons Z (.cons Z (.cons Z (.cons Z (.cons (bH Z) .nil)))))) ?_;rintro aBD aol Ai ⟨k,EL,dw,iR,oN,kM,rfl,rfl,kH,ax,gd,cW,l6,au,jV,H',QI,asD,asE,ry,C6,A8⟩;have:=kH.size;have aRF:=ax.lt;have yg:=b7 gd.lt;have Nd:=cW.lt;have aM1:EL.length≤k+1:=by rw [QI,ald,aTD];omega
   refine ah<|Φ (blt Z Z)<|ag<|ay<| ?_;refine df Z (λ Lv=> ?_) (λ Lv=> ?_)
   ·obtain ⟨eF,dC,hZ,gw,sS,hx⟩:=du.at_ (k:=k) (by omega);refine bl<|ay<|bu<|ah<|Φ (bT k underlying30 zh Z Z ((cr.keep kH).bs (aO k)) Z (by omega))<|Φ (v:= .slice eF hZ.length dC) (ao Z (aa.aG.eM LH ((cr.keep kH).cg (aO k)) gw Z mM))<|va Z<|ag<|ay<|ah<|Φ (ao Z (cW.all dA cm))<|vm Z<|ca VT Z Z ((NC oN kM _ _ hZ _ l6.has (hx.keep kH)).mono ?_);rintro e amO ⟨a59,ant,aLS,anu,aLT,anv,aLU,rfl,Cw,aKv,aKw,aKx,XD,GR⟩;refine ⟨_,Z, ?_⟩;have:=GR.size;have Og:=ab kH GR;have Gt:=b7 Cw.lt;have MM:=dM Cw.lt;have aMp:∀ q∈aa.aj ant,q∈bO.cM a59→False:=λ q I=>XD q (.inl I);have aMq:∀ q∈aa.aj anu,q∈bO.cM a59→False:=λ q I=>XD q (.inr (.inl I));have aMr:∀ q∈aa.aj anv,q∈bO.cM a59→False:=λ q I=>XD q (.inr (.inr I));refine vm Z<|Φ (ex Z Z)<|Φ (ex Z Z)<|Φ (ex Z Z)<| ?_;have cW:=cW.later GR;refine st Z Z cW Z cm Z Z Z λ NO jX cW=> ?_;have:=jX.size;have uL:=Ext.mod Og jX bC;refine va Z<|ag<|ah<|vm Z<|Φ (bne Z Z)<|ag<| ?_;refine ee Z (λ sT=> ?_) (λ sT=> ?_)
    ·refine ah<|Φ (v:= .agg #[J 0,J 0, .slice none 0 0, .slice none 0 0, .slice none 0 0, .slice none 0 0, .slice none 0 0,J 0,J 0]) (cY Z (by kernel_rfl))<|vm Z<| ?_;have ax:=(ax.later GR).mod jX aQ;refine st (new:= [J 0,J 0, .slice none 0 0, .slice none 0 0, .slice none 0 0, .slice none 0 0, .slice none 0 0,J 0,J 0]) Z Z ax Z cm Z Z Z λ Td od ax=> ?_;have Ck:=Ext.mod uL od bC;refine va Z<|va Z<|ag<|rt<|bP<|dV<|bP<|kB<|dV<|bP<|aV (.cell Z (ax.all dA cm) (.tmp Z (.tmp Z .nil)))<| ?_;exact ⟨ir kM hZ,⟨none,none,none,none,none,0,0,0,0,0⟩,ak.zero,none,0, [],Z, .inr ⟨sT, .inr (.inr (ZO (k:=k+1) (by rw [ZR jV sS,← H'];exact sT))),Z,Z⟩,bO.zero _ _,aa.aH.nil _,λ q I=>by simp [aa.aj] at I,Ck⟩
    ·have awE:kZ W (L.take (k+1))=0:=by rw [ZR jV sS,← H'];first | exact sT | simpa using sT
     refine bl<|ah<|Φ (ao Z (cW.all dA cm))<| ?_;have Cw:=Cw.mod jX (bJ MM);refine ca aeH Z Z ((ajY a59 (ou kM hZ) _ Cw.has).mono ?_);rintro e B8 ⟨rfl,iX⟩;refine ⟨_,Z, ?_⟩;have:=iX.size;have nc:=ab uL iX;refine vm Z<|Φ (ex Z Z)<|Φ (ex Z Z)<|va Z<|ag<|rg<|vm Z<|vm Z<|cu (e:= 130) (cs:= [.int .u64 (U (r7 (ou kM hZ)))]) Z (λ _=>by kernel_rfl) Z λ GF aLA lr aPF abJ=> ?_;have nT:=ab nc lr;have aRW:=abJ.lt;have gd:=((gd.later GR).mod jX (λ q I h=>by have γ:=aTz.1 h;exfalso;(exact C6 q I γ))).later (ab iX lr);refine ap aqp aa.dj gd (aR.gY (R:=qh) (by_:=8) (q:=(r7 (ou kM hZ))) abJ ⟨Z,trivial⟩ (by decide)) Z Z (by simp only [aTI,aTN];omega) (by simp only [aTI,aTN];omega) (by omega) Z λ Th anW ar1 MY apW WO aQG=> ?_;have Cl:=Ext.mod nT MY (λ q I=>aUc (by omega) (gd.lt q I).1);refine va Z<|nl<|bU<|aP<|rg<|Φ (bad Z Z (bf (by omega)))<|vm Z<|nl<| ?_;have ax:=(((ax.later GR).mod jX aQ).later (ab iX lr)).mod MY (λ I=>ry _ I rfl);have cW:=(cW.later (ab iX lr)).mod MY (λ I=>C6 _ I rfl);have l6:=(((l6.later GR).mod jX (λ q I h=>by have γ:=aTz.1 h;exfalso;(exact asD q I γ))).later (ab iX lr)).mod MY (λ q I h=>A8 q h I);have Cw:=(Cw.later (ab iX lr)).mod MY (λ q I h=>by exfalso;(have:=MM q I;(have:=yg q h;omega)));exact cD _ _ ⟨k+1,EL++ [(r7 (ou kM hZ))],anW,ar1,a59,ou kM hZ,Z,Z,Cl,ax,apW,cW,(Cw.down (by omega)),by omega,awE,by rw [z1 sS,alc,H'];rfl,by rw [QI,z1 sS,ale,H'],(λ q I γ=>by exfalso;(have:=MM q I;omega)),(λ q I γ=>by exfalso;(have:=MM q I;omega)),(λ q I γ=>by (exact aTT (WO q I) (λ Mo=>by (exact ry q Mo γ)) (λ Mo=>by omega))),(λ q I γ=>by (exact aTT (WO q I) (λ Mp=>by (exact C6 q Mp γ)) (λ Mp=>by omega))),(λ q I γ=>by (exact aTT (WO q I) (λ DE=>by (have:=MM q γ;(have:=yg q DE;omega))) (λ DE=>by (have:=Gt q γ;omega))))⟩ (by omega) (.cons Z (.cons Z (.cons Z (.cons Z (.cons Z (.cons (bH Z) .nil))))))
   ·have lO:k=L.length:=by rw [← du.1];omega
    refine cV<|cU<|c'<|cT<|aP<|ah<|Φ (ao Z (cW.all dA cm))<|vm Z<|st Z Z ax Z cm Z Z Z λ aHi YW ax=> ?_;have aaS:=Ext.mod kH YW bC;refine va Z<|va Z<|ag<|rt<|aV (.cell Z (ax.all dA cm) (.tmp Z (.tmp Z .nil)))<| ?_;have gd:=gd.mod YW (λ q I h=>by have γ:=aTz.1 h;exfalso;(exact ry q I γ));have l6:=l6.mod YW (λ q I h=>by have γ:=aTz.1 h;exfalso;(exact asE q I γ));rw [lO,aUo] at jV H' QI;exact ⟨0,oN,kM,dw,iR,EL,Z, .inl ⟨Z,awO,mP,jV,H',QI⟩,l6.down (by omega),gd,λ q I hf=>by exfalso;(exact A8 q I hf),aaS⟩
end
section
inductive CJ where
 | last (i:Nat) (bV:List Nat)
 | two (i:Nat) (bV:List Nat) (t1 t2:CJ)
def CJ.hd:CJ→Nat
 | .last i _=>i
 | .two i _ _ _=>i
section
variable {P:Program} {n:Nat} {E:List (Nat×Value)} {w:World} {Q:Exit→Act→World→Prop} {ops:Array Oper} {aT:Nat→Nat}
def Tm (P:Program) (ops:Array Oper) (Q:Exit→Act→World→Prop) (aT:Nat→Nat):CJ→Act→World→Prop
 | .last i bV=>uD P ops (hz (Q .normal)) aT (i::bV)
 | .two i bV t1 t2=>uD P ops (hz (λ a w=>Tm P ops Q aT t1 a w∧Tm P ops Q aT t2 a w)) aT (i::bV)
def ama (ops:Array Oper) (aT:Nat→Nat):CJ→Array Bool→Nat→Bool
 | .last i bV,l,m=>Nat.blt 1 (aT i) && kd ops aT bV (l.setIfInBounds i true) && Nat.beq (bV.length+1) m
 | .two i bV t1 t2,l,m=>Nat.blt 1 (aT i) && Fh ops aT bV (l.setIfInBounds i true) && (Region.ready .any ops (zY bV (l.setIfInBounds i true))== [t1.hd,t2.hd]) && Nat.ble (bV.length+2) m && ama ops aT t1 (zY bV (l.setIfInBounds i true)) (m - 1 - bV.length) && ama ops aT t2 (zY bV (l.setIfInBounds i true)) (m - 1 - bV.length)
def aJg (P:Program) (ops:Array Oper) (Q:Exit→Act→World→Prop) (aT:Nat→Nat) (t1 t2:CJ):Exit→Act→World→Prop:=hz (λ a w=>Tm P ops Q aT t1 a w∧Tm P ops Q aT t2 a w)
end
end
end Go.Proofs.YtmeeljmapailnaaGreat
