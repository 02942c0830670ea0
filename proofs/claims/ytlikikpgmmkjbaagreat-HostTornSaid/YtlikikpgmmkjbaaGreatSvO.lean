import Derived.Test.YtlikikpgmmkjbaaGreatPackM
set_option linter.unusedVariables false
set_option linter.unusedSimpArgs false
set_option maxRecDepth 100000
set_option maxHeartbeats 4000000
open Go.RowKit
namespace Go.Proofs.YtlikikpgmmkjbaaGreat
open Tryz
abbrev aS9:=@List.cons.injEq
abbrev aTm:=@Go.run_convert_bytes_back
abbrev aT0:=@Nat.two_pow_pos
abbrev aT3:=@Go.Lib.extract_data
abbrev aT4:=@Go.Lib.cell_of_heap
abbrev aUw:=@Nat.and_one_is_mod
abbrev aUz:=@BitVec.xor_allOnes
abbrev aUX:=@Go.bits_nat
abbrev aU5:=@Nat.mod_two_eq_zero_or_one
abbrev aVe:=@Go.Oper.upon_value
abbrev aVi:=@List.take_append_getElem
abbrev aVq:=@Option.map_eq_some_iff
abbrev aVx:=@List.drop_eq_nil_of_le
abbrev aVz:=@List.singleton_append
end Go.Proofs.YtlikikpgmmkjbaaGreat
namespace Go.Proofs.YtlikikpgmmkjbaaGreat.Pack
open Tryz
open Go.RowKit Go.Proofs.YtlikikpgmmkjbaaGreat.eV

theorem awW:(prog.info? 5).map (fun i=>(i.zero,i.size,i.bytes))=some (some (.int .u8 0),1,1):=by kernel_rfl
def cells (l:List UInt8):List Value:=l.map fun b=>Value.int .u8 (b.toNat:Int)
theorem ab2 (l:List UInt8) (b:UInt8):cells (l++ [b])=cells l++ [Value.int .u8 (b.toNat:Int)]:=by unfold cells;simp
theorem Tu (l:List UInt8) (i:Nat) (h:i<l.length):(cells l)[i]? =some (.int .u8 (l[i].toNat:Int)):=by unfold cells;simp [h]
def strOf (l:List UInt8):ByteArray:=⟨l.toArray⟩
theorem HZ (l:List UInt8):(strOf l).size=l.length:=by
 show l.toArray.size=_;simp
theorem xq (l:List UInt8):(strOf l).data.toList=l:=rfl

theorem azu (n:Nat):bits BinOp.or IntKind.u8 ((n:Int) % 256) 128=(((UInt8.ofNat (n % 128+128)).toNat:Nat):Int):=by
 have e:((n:Int) % 256)=((n % 256:Nat):Int):=by omega
 have γ:n % 256<256:=aSK _ (by decide);have key:∀ x:Fin 256,(x.val ||| 128)=x.val % 128+128:=by decide +kernel
 have ab:=key ⟨n % 256,γ⟩;simp only at ab;rw [e,show (128:Int)=((128:Nat):Int) from rfl,(aUX .u8 8 (by decide) wraps_u8 _ _ (by omega) (by decide)).2,ab];simp only [aRJ];omega

theorem apG (w:World) (base g n cap:Nat) (l:List UInt8) (hn:n=l.length) (h:w.ownsRow base 5 1 (.slice (some ⟨g,0,none⟩) n cap) n (cells l)):
  (convert 76 9 (.slice (some ⟨g,0,none⟩) n cap)).run prog w= .ok (.string (strOf l)) w:=by
 subst hn;refine aTm (P:=prog) w 76 9 5 ⟨g,0,none⟩ cap l underlying76 underlying5 underlying9 ?_;intro j ay;rw [aba,h.cellAt j (by omega),Tu l j ay]

theorem QK (n:Nat) (hn:n<18446744073709551616) (x:Int) (hx:x=n) (w:World):
  Calls prog 130 #[.int .u64 x] w fun e w'=>e= .returned (.string (strOf (dW n)))∧Below w.heap.size w w':=by
 subst hx;obtain ⟨i0,ar,m_,oz,oA⟩:=aSY awW;have ew:=aQO (EJ hn);clear hn;go_enter func130,ntmps130;go_wp2_with fail
 go_loopw [0,3] (fun x v wr=>∃ (k m:Nat) (acc:List UInt8),k≤9∧x= .int .u64 (m:Int)∧Hid (m<128 ^ (k+1))∧Hid (acc++jV k m=dW n)∧wr.ownsRow w.heap.size 5 1 v acc.length (cells acc)∧Below w.heap.size w wr) (fun x _ _=>(intOf x).toNat)
 case atStart=>exact ⟨9,n, [],aQW _,rfl,ew,rfl,World.ownsRow_nil _ _ _ _,aRe _ _⟩
 case round =>
  obtain ⟨k,m,acc,av,rfl,kJ,iU,eI,Φ⟩:=hrel;by_cases bA:128≤m
  ·obtain ⟨k',rfl⟩:∃ k',k=k'+1:=by
    cases k with
    | zero=>have:=kJ.out;simp at this;omega
    | succ k'=>exact ⟨k',rfl⟩
   obtain ⟨b,aL⟩:∃ b,Hid (b=UInt8.ofNat (m % 128+128)):=⟨_,aQO rfl⟩;have PS:=azu m;rw [← aL.out] at PS;have wa:Hid ((acc++ [b])++jV k' (m / 128)=dW n):=by
    show _=_;rw [← iU.out,AI (by omega),← aL.out,aRp];rfl
   have F3:Hid (m / 128<128 ^ (k'+1)):=HN kJ.out;have aul:acc.length≤9:=by
    have γ:=(AK n).1;have ab:=aRS List.length wa.out;have aw:=(Xu k' (m / 128)).2;simp at ab;omega
   have Km:=Φ.alloc Φ.size (.cells #[.int .u8 (b.toNat:Int)] 5);go_wp2_with (at_builtin;refine wpList_append_own _ rfl _ _ 76 rfl w.heap.size 5 i0 (.int .u8 0) 1 1 underlying76 ar m_ oz oA rfl (by decide) _ acc.length (cells acc) rfl (eI.alloc _) ⟨wr.heap.size,0,none⟩ 1 1 [.int .u8 (b.toNat:Int)] rfl rfl ?d1 ?d2 ?d3 ?d4 ?d5 ?_)
   case d1 =>
    intro j u ay
    match j,ay with
    | 0,ay=>simp at ay;subst ay;simp [Addr.add]
   case d2=>intro u hu;simp at hu;subst hu;rfl
   case d3=>unfold maxLen;omega
   case d4=>omega
   case d5=>have:=Φ.size;simp;omega
   intro v' aP wZ ic _;have cK:=Km.grown ic (by have:=Φ.size;simp;omega) (fun q I=>(eI.lt q I).1);rw [← ab2,show acc.length+1=(acc++ [b]).length by simp] at wZ;clear ic eI Km Φ;go_wp2_with fail
   go_roundw
   case rel=>exact ⟨k',m / 128,acc++ [b],by omega,by go_num,F3,wa,wZ,cK⟩
   case measure=>simp [intOf];omega
  ·have ha:acc++ [UInt8.ofNat m]=dW n:=by rw [← iU.out,AJ (by omega)]
   have afH:(UInt8.ofNat m).toNat=m:=by rw [aRJ];omega
   have aul:acc.length≤9:=by
    have γ:=(AK n).1;have ab:=aRS List.length ha;simp at ab;omega
   have amF:=aQO afH;have wa:=aQO ha;have Km:=Φ.alloc Φ.size (.cells #[.int .u8 (m:Int)] 5);clear ha afH;go_wp2_with (at_builtin;refine wpList_append_own _ rfl _ _ 76 rfl w.heap.size 5 i0 (.int .u8 0) 1 1 underlying76 ar m_ oz oA rfl (by decide) _ acc.length (cells acc) rfl (eI.alloc _) ⟨wr.heap.size,0,none⟩ 1 1 [.int .u8 (m:Int)] rfl rfl ?c1 ?c2 ?c3 ?c4 ?c5 ?_)
   case c1 =>
    intro j u ay
    match j,ay with
    | 0,ay=>simp at ay;subst ay;simp [Addr.add]
   case c2=>intro u hu;simp at hu;subst hu;rfl
   case c3=>unfold maxLen;omega
   case c4=>omega
   case c5=>have:=Φ.size;simp;omega
   intro v' aP wZ ic _;have cK:=Km.grown ic (by have:=Φ.size;simp;omega) (fun q I=>(eI.lt q I).1);have ae5:cells acc++ [Value.int .u8 (m:Int)]=cells (dW n):=by rw [← wa.out,ab2,amF.out]
   have hlen:acc.length+1=(dW n).length:=by rw [← wa.out];simp
   rw [ae5,hlen] at wZ;have hex:∃ g cap,v'= .slice (some ⟨g,0,none⟩) (dW n).length cap:=by
    rcases wZ.2 with ⟨_,h⟩ | ⟨g,cap,cur,h,_⟩
    ·omega
    ·exact ⟨g,cap,h⟩
   obtain ⟨g,cap,hv⟩:=hex;rw [hv] at wZ ⊢;have hcv:=apG aP _ g _ cap (dW n) rfl wZ;clear hv ic eI Km Φ ae5 hlen wZ;go_wp2_with fail
   go_ret;exact ⟨Z,cK⟩

theorem L3 {a b:Int} (h:a=b):Ending.returned (.int .u64 a)= .returned (.int .u64 b):=by rw [h]
theorem aEl (n:Nat) (h:n<18446744073709551616):n ^^^ 18446744073709551615=18446744073709551615 - n:=by
 have e:(BitVec.ofNat 64 n ^^^ BitVec.allOnes 64).toNat=(~~~(BitVec.ofNat 64 n)).toNat:=by rw [aUz]
 rw [BitVec.toNat_xor,BitVec.toNat_not,aSw,BitVec.toNat_allOnes,aR5 h] at e;exact e
theorem asU (x:Int) (aF: -9223372036854775808≤x) (γ:x≤9223372036854775807) (w:World):
  Calls prog 131 #[.int .i64 x] w fun e w'=>e= .returned (.int .u64 (ov x))∧w=w':=by
 by_cases hx:0≤x
 ·go_enter func131,ntmps131;go_wp2
  go_ret;refine ⟨L3 ?_,Z⟩;have e:x / 9223372036854775808=((0:Nat):Int):=by omega
  obtain ⟨m,rfl⟩:=aSH hx;rw [e,show ((m:Int) * 2)=((m * 2:Nat):Int) by omega,u64_xor_nat _ _ (by omega) (by omega),Nat.xor_zero];unfold ov;rw [aQZ hx];omega
 ·go_enter func131,ntmps131;go_wp2
  go_ret;refine ⟨L3 ?_,Z⟩;have Wl:¬ 0≤x:=by omega
  have e:IntKind.u64.wrap (x / 9223372036854775808)=((18446744073709551615:Nat):Int):=by rw [aR1];omega
  have bh:IntKind.u64.wrap (IntKind.u64.wrap x * 2)=(((2 * x+18446744073709551616).toNat:Nat):Int):=by rw [aR1,aR1];omega
  rw [e,bh,u64_xor_nat _ _ (by omega) (by omega)];unfold ov;rw [aQV Wl];have cD:(2 * x+18446744073709551616).toNat ^^^ 18446744073709551615=18446744073709551615 - (2 * x+18446744073709551616).toNat:=by
   exact aEl _ (by omega)
  rw [cD];omega

theorem alw (n:Int) (agp:0≤n) (h₁:n<2 ^ 64):IntKind.u64.wrap n=n:=by rw [aR1];omega
theorem an6 (b:UInt8):bits BinOp.and IntKind.u8 (b.toNat:Int) 127=((b.toNat % 128:Nat):Int):=by
 have h:=bits_mask .u8 8 (by decide) wraps_u8 7 (by decide) (b.toNat:Int) (aSu _) (by have:=b.toNat_lt;omega);simpa using h
theorem X' (l:List UInt8) (b:UInt8) (k:Nat) (av:k=l.length) (avf:k≤9):
  bits BinOp.or IntKind.u64 ((val l % 18446744073709551616:Nat):Int) (((b.toNat % 128:Nat):Int) * 2 ^ (7 * k) % 18446744073709551616)=((val (l++ [b]) % 18446744073709551616:Nat):Int):=by
 subst av;have hp:(128:Nat) ^ l.length=2 ^ (7 * l.length):=by rw [show (128:Nat)=2 ^ 7 from rfl,← Nat.pow_mul]
 have hv:=aDe l;have hle:(128:Nat) ^ l.length≤128 ^ 9:=Nat.pow_le_pow_right (by decide) avf;have Ck:val l<18446744073709551616:=aSt hv (aRj hle (by decide));rw [aDh,aR5 Ck,hp];have Φ:b.toNat % 128<128:=aSK _ (by decide);generalize b.toNat % 128=d at *
 obtain ⟨r,hr⟩:∃ r,64=7 * l.length+r:=⟨64 - 7 * l.length,by omega⟩;have TP:18446744073709551616=2 ^ (7 * l.length) * 2 ^ r:=by rw [← Nat.pow_add,← hr]
 have a_:((d:Int) * 2 ^ (7 * l.length) % 18446744073709551616)=((2 ^ (7 * l.length) * (d % 2 ^ r):Nat):Int):=by
  rw [← Nat.mul_mod_mul_left,← TP,Int.natCast_emod,Int.natCast_mul,Int.natCast_pow,Int.mul_comm];rfl
 rw [hp] at hv;have ab:2 ^ (7 * l.length) * (d % 2 ^ r)<18446744073709551616:=by
  rw [TP];exact Nat.mul_lt_mul_of_pos_left (aSK _ (aT0 _)) (aT0 _)
 have bh:(val l+2 ^ (7 * l.length) * d) % 18446744073709551616=2 ^ (7 * l.length) * (d % 2 ^ r)+val l:=by
  rw [TP,Nat.mod_mul,Nat.add_mul_mod_self_left,aR5 hv,Nat.add_mul_div_left _ _ (aT0 _),aUR hv,aRQ,aTW]
 rw [a_,bh,(aUX .u64 64 (by decide) alw _ _ Ck ab).2];rw [Nat.two_pow_add_eq_or_of_lt hv,Nat.or_comm]

theorem L1 {a a':Int} {b pc:ByteArray} {c bV:Int} (γ:a=a') (ab:b=pc) (aw:c=bV):Ending.returned (.tuple #[.int .u64 a, .string b, .int .i64 c])= .returned (.tuple #[.int .u64 a', .string pc, .int .i64 bV]):=by rw [γ,ab,aw]
def amB (l:List UInt8) (w:World) (e:Ending) (w':World):Prop :=
 ∃ (n:Nat) (rest:List UInt8) (k:Int),IM l n rest k∧e= .returned (.tuple #[.int .u64 (n:Int), .string (strOf rest), .int .i64 k])∧Below w.heap.size w w'

theorem aej (s:ByteArray) (hs:s.size≤9223372036854775807) (w:World):Calls prog 119 #[.string s] w (amB s.data.toList w):=by
 go_enter func119,ntmps119;go_wp2_with fail
 go_loopw [5,6] (fun v i wr=>∃ k:Nat,k≤s.size∧k≤10∧i= .int .i64 k∧v= .int .u64 ((val (s.data.toList.take k) % 18446744073709551616:Nat):Int)∧Hid (∀ i (h:i<s.data.toList.length),i<k→128≤(s.data.toList[i]).toNat)∧Below w.heap.size w wr) (fun _ i _=>s.size - (intOf i).toNat)
 case atStart=>exact ⟨0,aRE _,aRE _,rfl,rfl,fun i h ab=>absurd ab (by omega),aRe _ _⟩
 case round =>
  obtain ⟨k,av,aJi,rfl,rfl,l8,Φ⟩:=hrel;by_cases bA:k<s.size
  ·by_cases O_:k<10
   ·have iJ:k<s.data.toList.length:=by simpa using bA
    have Wa:s[k]=s.data.toList[k]:=rfl;have hQ:=X' (s.data.toList.take k) s[k] k (by simp;omega) (by omega);rw [Wa,← aRh iJ,← Wa] at hQ;have Z3:bits BinOp.or IntKind.u64 ((val (s.data.toList.take k) % 18446744073709551616:Nat):Int) (IntKind.u64.wrap (IntKind.u64.wrap (bits BinOp.and IntKind.u8 (s[k].toNat:Int) 127) * 2 ^ (7 * k)))=((val (s.data.toList.take (k+1)) % 18446744073709551616:Nat):Int):=by
     rw [← hQ,an6,aR1,aR1];congr 3;omega
    obtain ⟨M',F2⟩:∃ M',Hid (val (s.data.toList.take (k+1)) % 18446744073709551616=M'):=⟨_,aQO rfl⟩;have J5:M'<18446744073709551616:=by rw [← F2.out];exact aSK _ (by decide)
    rw [F2.out] at Z3;generalize val (s.data.toList.take k) % 18446744073709551616=M at Z3 ⊢;have aL:=aQO J5;clear Wa hQ J5;by_cases US:128≤s[k].toNat
    ·go_wp2_with fail
     go_roundw
     case rel =>
      refine ⟨k+1,by omega,by omega,by go_num,by rw [F2.out], ?_,Φ⟩;intro i h ar;by_cases lz:i=k
      ·subst lz;exact US
      ·exact l8.out i h (by omega)
     case measure=>simp [intOf];omega
    ·have pA:k+1≤s.size:=bA;have fZ:(0:Int)≤(k:Int)+1:=by omega
     have VP:(k:Int)+1≤(s.size:Int):=by omega
     have ave:IntKind.i64.wrap ((k:Int)+1)=(k:Int)+1:=IntWalk.i64_in _ (by omega);have aJj:((k:Int)+1).toNat=k+1:=by omega
     by_cases hp:dW M'=s.data.toList.take (k+1)
     ·have I:((strOf (dW M')).toList == (s.extract 0 (k+1)).toList)=true:=abL (Ti (by rw [xq,aT3,aTj,hp];rfl));have zA:=aQO hp;clear hp;go_wp2_with fail
      go_region_held3 (fun lL=>Below w.heap.size w lL) (first | exact Φ.drew | exact Φ.drew.trans (by assumption) | assumption) ((go_at_call 130;refine (QK M' aL.out _ rfl _).mono ?_;rintro e w' ⟨rfl,bu⟩;have dF:=Φ.drew.trans (bu.mono Φ.size)))
      clear Φ bu I;go_wp2_with fail
      go_quiet (fail)
      go_wp2_with fail
      go_ret3
      refine ⟨M',s.data.toList.drop (k+1),0, .inl ⟨k,O_,iJ,l8.out,fun _=>by have:=US;show s[k].toNat<128;omega, .inl ⟨by rw [F2.out];exact zA.out,F2.out.symm,rfl,rfl⟩⟩,L1 Z (Ti ?_) Z,below_drewN (by assumption) _⟩;rw [xq,aT3,aRb (by simp)]
     ·have I:((strOf (dW M')).toList == (s.extract 0 (k+1)).toList)=false:=abJ (fun h=>hp (by
       have ab:=aRS (fun x:ByteArray=>x.data.toList) h;simp only [xq,aT3,aTj] at ab;exact ab))
      have zA:=aQO hp;clear hp;go_wp2_with fail
      go_region_held3 (fun lL=>Below w.heap.size w lL) (first | exact Φ.drew | exact Φ.drew.trans (by assumption) | assumption) ((go_at_call 130;refine (QK M' aL.out _ rfl _).mono ?_;rintro e w' ⟨rfl,bu⟩;have dF:=Φ.drew.trans (bu.mono Φ.size)))
      clear Φ bu I;go_wp2_with fail
      go_ret3
      exact ⟨0, [],4, .inl ⟨k,O_,iJ,l8.out,fun _=>by have:=US;show s[k].toNat<128;omega, .inr ⟨by rw [F2.out];exact zA.out,rfl,rfl,rfl⟩⟩,L1 Z Z Z,by assumption⟩
   ·have avd:k=10:=by omega
    subst avd;have hlen:¬ (s.size:Int)<10:=by omega
    go_wp2_with fail
    go_ret3
    exact ⟨0, [],4, .inr (.inr ⟨by simp;have e:s.data.size=s.size:=rfl;omega,fun i h ar=>l8.out i h ar,rfl,rfl,rfl⟩),L1 Z Z Z,Φ⟩
  ·have PD:k=s.size:=by omega
   have dE:∀ i (h:i<s.data.toList.length),i<k:=by
    intro i h;have e:s.data.toList.length=s.size:=by simp
    omega
   have e:s.data.toList.length=s.size:=by simp
   by_cases O_:s.size<10
   ·have il:=aQO e;have iU:=aQO dE;have hO:=aQO PD;clear e dE PD;have hlen:(s.size:Int)<10:=by omega
    have qj:(s.size:Int)≤(k:Int):=by omega
    go_wp2_with fail
    go_ret3
    exact ⟨0, [],3, .inr (.inl ⟨by have:=il.out;omega,fun i h=>l8.out i h (iU.out i h),rfl,rfl,rfl⟩),L1 Z Z Z,Φ⟩
   ·have il:=aQO e;have iU:=aQO dE;have hO:=aQO PD;clear e dE PD;have hlen:¬ (s.size:Int)<10:=by omega
    have qj:(s.size:Int)≤(k:Int):=by omega
    go_wp2_with fail
    go_ret3
    exact ⟨0, [],4, .inr (.inr ⟨by have:=il.out;omega,fun i h ar=>l8.out i h (iU.out i h),rfl,rfl,rfl⟩),L1 Z Z Z,Φ⟩
end Go.Proofs.YtlikikpgmmkjbaaGreat.Pack
namespace Go.Proofs.YtlikikpgmmkjbaaGreat
open Tryz
section
def uV (l:List Int):List Value:=l.map (Value.int .i64)
theorem ab0 (l:List Int) (i:Nat) (h:i<l.length):(uV l)[i]? =some (.int .i64 l[i]):=by unfold uV;simp [h]
theorem apg (l:List Int) (x:Int):uV (l++ [x])=uV l++ [.int .i64 x]:=by unfold uV;simp
def Np (_:Nat) (u:Value):Prop:=∃ n:Int,u= .int .i64 n
theorem awV:(prog.info? 3).map (fun i=>(i.zero,i.size,i.bytes))=some (some (.int .i64 0),1,8):=by kernel_rfl
def r3 (l:List Int):Prop:=∀ x∈l, -9223372036854775808≤x∧x≤9223372036854775807
end
end Go.Proofs.YtlikikpgmmkjbaaGreat
namespace Go.Proofs.YtlikikpgmmkjbaaGreat.Pack
open Tryz
open Go.Proofs.YtlikikpgmmkjbaaGreat Go.Proofs.YtlikikpgmmkjbaaGreat.eV

theorem aAm (k x y:Nat) (u v:List UInt8) (hx:x<128 ^ (k+1)) (aK:y<128 ^ (k+1)) (h:jV k x++u=jV k y++v):x=y∧u=v:=by
 induction k generalizing x y with
 | zero =>
  simp only [jV,aVz,aS9] at h;have:=aRS UInt8.toNat h.1;simp only [aRJ] at this;simp at hx aK;exact ⟨by omega,h.2⟩
 | succ k bt =>
  by_cases γ:x<128
  ·by_cases ab:y<128
   ·rw [AJ γ,AJ ab] at h;simp only [aVz,aS9] at h;have:=aRS UInt8.toNat h.1;simp only [aRJ] at this;exact ⟨by omega,h.2⟩
   ·rw [AJ γ,AI ab] at h;simp only [aSG,aS9] at h;have:=aRS UInt8.toNat h.1;simp only [aRJ] at this;omega
  ·by_cases ab:y<128
   ·rw [AI γ,AJ ab] at h;simp only [aSG,aS9] at h;have:=aRS UInt8.toNat h.1;simp only [aRJ] at this;omega
   ·rw [AI γ,AI ab] at h;simp only [aSG,aS9] at h;have e:=aRS UInt8.toNat h.1;simp only [aRJ] at e;obtain ⟨aw,aX⟩:=bt (x / 128) (y / 128) (HN hx) (HN aK) h.2;exact ⟨by omega,aX⟩
theorem QJ {x y:Nat} {u v:List UInt8} (hx:x<18446744073709551616) (aK:y<18446744073709551616) (h:dW x++u=dW y++v):x=y∧u=v:=aAm 9 x y u v (EJ hx) (EJ aK) h
theorem aek {l:List UInt8} {n:Nat} {rest:List UInt8} (h:IM l n rest 0):l=dW n++rest∧n<18446744073709551616:=by
 rcases h with ⟨k,av,iJ,_,_,⟨γ,ab,aw,_⟩ | ⟨_,_,_,h⟩⟩ | ⟨_,_,_,_,h⟩ | ⟨_,_,_,_,h⟩
 ·subst ab;subst aw;exact ⟨by rw [γ,aSS],aSK _ (by decide)⟩
 all_goals cases h
theorem asL {n k:Nat} {r:List UInt8} (hn:n<18446744073709551616) (av:k<(dW n++r).length) (fM:∀ i (h:i<(dW n++r).length),i<k→128≤((dW n++r)[i]).toNat) (az:((dW n++r)[k]).toNat<128):k+1=(dW n).length:=by
 have γ:=(AK n).2;rcases aVU (k+1) (dW n).length with h | h | h
 ·rw [aS6 (by omega)] at az;have:=aAl 9 n k (EJ hn) h (by show k<(dW n).length;omega);have e:(jV 9 n)[k]'(by show k<(dW n).length;omega)=(dW n)[k]'(by omega):=rfl;rw [e] at this;omega
 ·exact h
 ·have ab:=fM ((dW n).length - 1) (by simp;omega) (by omega);rw [aS6 (by omega)] at ab;have:=ajj 9 n (EJ hn) ((dW n).length - 1) (by show _<(dW n).length;omega) (by show _=(dW n).length;omega);have e:(jV 9 n)[(dW n).length - 1]'(by show _<(dW n).length;omega)=(dW n)[(dW n).length - 1]'(by omega):=rfl;rw [e] at this;omega
theorem Ab {n:Nat} {r:List UInt8} {m:Nat} {rest:List UInt8} {e:Int} (hn:n<18446744073709551616) (h:IM (dW n++r) m rest e):m=n∧rest=r∧e=0:=by
 have hlen:=AK n;have iK:∃ i,∃ ar:i<(dW n++r).length,i<10∧((dW n++r)[i]).toNat<128:=by
  refine ⟨(dW n).length - 1,by simp;omega,by omega, ?_⟩;rw [aS6 (by omega)];exact ajj 9 n (EJ hn) ((dW n).length - 1) (by show _<(dW n).length;omega) (by show _=(dW n).length;omega)
 rcases h with ⟨k,av,iJ,fM,az,h⟩ | ⟨_,dE,_⟩ | ⟨_,dE,_⟩
 ·have pA:=asL hn iJ fM (az iJ);have aD:(dW n++r).take (k+1)=dW n:=by rw [pA,aUh]
  have hv:val (dW n) % 18446744073709551616=n:=by rw [aDg n hn,aR5 hn]
  rw [aD,hv] at h;rcases h with ⟨_,ab,aw,aX⟩ | ⟨γ,_⟩
  ·refine ⟨ab, ?_,aX⟩;rw [aw,pA,List.drop_left]
  ·exact absurd Z γ
 ·obtain ⟨i,ar,_,iK⟩:=iK;have:=dE i ar;omega
 ·obtain ⟨i,ar,au0,iK⟩:=iK;have:=dE i ar au0;omega
def vG (n:Nat):Int:=if n % 2=0 then ((n / 2:Nat):Int) else -((n / 2:Nat):Int) - 1
theorem asZ (n:Nat):ov (vG n)=n:=by
 unfold ov vG;split<;>split<;>omega
theorem akS (x:Int):vG (ov x)=x:=by
 unfold ov vG;split<;>split<;>omega
theorem O2 (x:Int) (aF: -9223372036854775808≤x) (γ:x≤9223372036854775807):ov x<18446744073709551616:=by
 unfold ov;split<;>omega
theorem aC2 (n:Nat) (h:n<18446744073709551616): -9223372036854775808≤vG n∧vG n≤9223372036854775807:=by
 unfold vG;split<;>omega
def items (l:List Int):List UInt8:=l.flatMap fun x=>dW (ov x)
def pR (l:List Int):List UInt8:=dW l.length++items l
theorem K5 (x:Int) (l:List Int):items (x::l)=dW (ov x)++items l:=rfl
theorem aw7 (a b:List Int):items (a++b)=items a++items b:=by unfold items;rw [aR8]
theorem agv (a:List Int) (x:Int):items (a++ [x])=items a++dW (ov x):=by rw [aw7,K5];simp [items]
theorem Ws (l:List Int):(items l).length≤10 * l.length:=by
 induction l with
 | nil=>simp [items]
 | cons x l bt=>rw [K5];have:=(AK (ov x)).1;simp;omega
theorem asT {x y:Int} (h:ov x=ov y):x=y:=by rw [← akS x,h,akS]
theorem P_:∀ (a b:List Int) (s:List UInt8),r3 a→r3 b→a.length≤b.length→items a++s=items b→a=b.take a.length∧s=items (b.drop a.length)
 | [],b,s,_,_,_,h=>⟨by simp,by simpa [items] using h⟩
 | x::a, [],s,_,_,az,_=>by simp at az
 | x::a,y::b,s,ha,Φ,az,h=>by
  rw [K5,K5,aRp] at h;have hx:=ha x (by simp);have aK:=Φ y (by simp);obtain ⟨γ,ab⟩:=QJ (O2 x hx.1 hx.2) (O2 y aK.1 aK.2) h;obtain ⟨aw,aX⟩:=P_ a b s (fun z bB=>ha z (by simp [bB])) (fun z bB=>Φ z (by simp [bB])) (by simpa using az) ab;rw [asT γ];exact ⟨by simp;exact aw,by simpa using aX⟩
def zo (s:List UInt8) (out:List Int) (e:Int):Prop :=
 r3 out∧(e=0→s=pR out∧out.length≤1000)∧(e≠0→out= []∧∀ l,r3 l→l.length≤1000→s≠pR l)
theorem atx {l out:List Int} {e:Int} (az:r3 l) (γ:l.length≤1000) (h:zo (pR l) out e):e=0∧out=l:=by
 obtain ⟨b1,ab,aw⟩:=h;by_cases he:e=0
 ·obtain ⟨aX,bF⟩:=ab he;unfold pR at aX;obtain ⟨cb,d'⟩:=QJ (by omega) (by omega) aX;obtain ⟨gI,_⟩:=P_ l out [] az b1 (by omega) (by rw [aRn];exact d');rw [cb,aRC] at gI;exact ⟨he,gI.symm⟩
 ·exact absurd Z ((aw he).2 l az γ)
theorem abq {s:List UInt8} {n:Nat} {r:List UInt8} {e:Int} (h:IM s n r e) (he:e≠0∨1000<n) {k:Int} (av:k≠0):zo s [] k:=by
 refine ⟨fun x hx=>(by cases hx),fun h=>absurd h av,fun _=>⟨Z,fun l az γ hs=> ?_⟩⟩;subst hs;obtain ⟨ab,_,aw⟩:=Ab (by omega) h;rcases he with he | he
 ·exact he aw
 ·omega
theorem aom {s:List UInt8} {n:Nat} {out:List Int} {r:List UInt8} {m:Nat} {r':List UInt8} {e:Int} (hs:s=dW n++(items out++r)) (hn:n<18446744073709551616) (b1:r3 out) (bA:out.length<n) (h:IM r m r' e) (he:e≠0):zo s [] e:=by
 refine ⟨fun x hx=>(by cases hx),fun h=>absurd h he,fun _=>⟨Z,fun l az γ gq=> ?_⟩⟩;rw [gq] at hs;unfold pR at hs;obtain ⟨ab,aw⟩:=QJ (by omega) hn hs;obtain ⟨aX,bF⟩:=P_ out l r b1 az (by omega) aw.symm;have cb:l.drop out.length=l[out.length]'(by omega)::l.drop (out.length+1):=aSA (by omega);rw [cb,K5] at bF;subst bF;have hx:=az (l[out.length]'(by omega)) (aRO _);exact he (Ab (O2 _ hx.1 hx.2) h).2.2
theorem aol {s:List UInt8} {n:Nat} {out:List Int} {r:List UInt8} (hs:s=dW n++(items out++r)) (hn:n<18446744073709551616) (b1:r3 out) (bA:out.length=n) (hr:r≠ []) {k:Int} (av:k≠0):zo s [] k:=by
 refine ⟨fun x hx=>(by cases hx),fun h=>absurd h av,fun _=>⟨Z,fun l az γ gq=> ?_⟩⟩;rw [gq] at hs;unfold pR at hs;obtain ⟨ab,aw⟩:=QJ (by omega) hn hs;obtain ⟨aX,bF⟩:=P_ out l r b1 az (by omega) aw.symm;rw [aVx (by omega)] at bF;exact hr bF
theorem atw {s:List UInt8} {n:Nat} {out:List Int} (hs:s=dW n++(items out++ [])) (b1:r3 out) (bA:out.length=n) (hn:n≤1000):zo s out 0 :=
 ⟨b1,fun _=>⟨by rw [hs,aRn,← bA];rfl,by omega⟩,fun h=>absurd rfl h⟩
end Go.Proofs.YtlikikpgmmkjbaaGreat.Pack
namespace Go.Proofs.YtlikikpgmmkjbaaGreat
open Tryz
end Go.Proofs.YtlikikpgmmkjbaaGreat
namespace Go.Proofs.YtlikikpgmmkjbaaGreat.Pack
open Tryz
open Go.RowKit Go.Proofs.YtlikikpgmmkjbaaGreat

theorem aj4:(prog.info? 212).map (·.size)=some 2:=by kernel_rfl
theorem axW:liesAt prog prog.depth 212 (2 / prog.cellsOf 212) 0 212 1=true:=by kernel_rfl
theorem infoByte:(prog.info? 5).map (fun i=>(i.zero,i.size,i.bytes))=some (some (.int .u8 0),1,1):=by kernel_rfl
theorem apr (b:Nat) (w:World) (aF:w.cell? ⟨b,0,none⟩=some (.pointer (some ⟨b,0,none⟩))):
  Calls prog 160 #[.pointer (some ⟨b,0,none⟩)] w fun e w'=>e= .returned (.tuple #[])∧w'=w:=by
 obtain ⟨j,ay,_⟩:=aVq.1 aj4;go_enter func160,ntmps160;go_wp2
 rw [Lib.run_neq_ptr_same w _ underlying210 ay];go_wp2
 go_end0
 exact ⟨Z,Z⟩
theorem apo (b:Nat) (w:World) (aF:w.cell? ⟨b,0,none⟩=some (.pointer none)) (PY:w.shape? b=some (212,2)) (auV:w.frozen? ⟨b,0,none⟩=false):
  Calls prog 160 #[.pointer (some ⟨b,0,none⟩)] w fun e w'=>e= .returned (.tuple #[])∧w'=w.setCell ⟨b,0,none⟩ (.pointer (some ⟨b,0,none⟩)):=by
 obtain ⟨j,ay,avb⟩:=aVq.1 aj4;go_enter func160,ntmps160;go_wp2
 rw [Lib.run_to_unsafe w ⟨b,0,none⟩ underlying210 underlying287 ay (by rw [avb];decide) PY (Nat.zero_lt_succ 1)];simp only [Result.andThen];rw [aVe];go_wp2
 rw [run_callFunc_extern func192 (by kernel_rfl) (by kernel_rfl) (by kernel_rfl) (e:=Extern.AbiNoEscape.same) (by kernel_rfl)];rw [Lib.run_noEscape];simp only [Result.andThen];rw [aVe];go_wp2
 rw [Lib.run_from_unsafe w ⟨b,0,none⟩ underlying287 underlying210 ay PY axW];simp only [Result.andThen];rw [aVe];go_wp2
 go_end0
 exact ⟨Z,Z⟩
theorem BD (B b:Nat) (cX:List Value) (w:World) (h:Lib.IsBuilder 212 5 B b cX w):
  Calls prog 160 #[.pointer (some ⟨b,0,none⟩)] w fun e w'=>e= .returned (.tuple #[])∧(Lib.BuilderAt 212 5 B b (.pointer (some ⟨b,0,none⟩)) cX w'∧Below B w w'):=by
 rcases h with h | h
 ·refine (apo b w h.cell0 h.shape h.frozen0).mono ?_;rintro e w' ⟨rfl,rfl⟩;exact ⟨Z,h.used _,(aRe B w).setCell (p:=⟨b,0,none⟩) h.1 _⟩
 ·refine (apr b w h.cell0).mono ?_;rintro e w' ⟨rfl,rfl⟩;exact ⟨Z,h,aRe B _⟩
theorem alx (B b:Nat) (cX:List Value) (s:ByteArray) (w:World) (h:Lib.IsBuilder 212 5 B b cX w) (hlen:cX.length+s.size≤140737488355328) (aev:B≤w.heap.size):
  Calls prog 129 #[.pointer (some ⟨b,0,none⟩), .string s] w fun e w'=>e= .returned (.tuple #[.int .i64 s.size, .nilIface])∧(Lib.BuilderAt 212 5 B b (.pointer (some ⟨b,0,none⟩)) (cX++Lib.strCells s) w'∧Below B w w'):=by
 obtain ⟨i0,ar,m_,oz,oA⟩:=aSY infoByte;go_enter func129,ntmps129;go_wp2_with fail
 refine (BD B b cX _ h).mono ?_;rintro e aP ⟨rfl,γ,cK⟩;obtain ⟨bc,v,yA,eI,fb⟩:=γ;have bW:aP.cell? ⟨b,0,none⟩=some (.pointer (some ⟨b,0,none⟩)):=by rw [aT4 yA];rfl
 have c1:aP.cell? ⟨b,1,none⟩=some v:=by rw [aT4 yA];rfl
 go_wp2_with (at_builtin;refine Lib.wpList_append_own_string _ rfl _ _ 76 9 rfl B 5 i0 underlying76 underlying9 ar m_ oz oA _ _ _ rfl eI s rfl ?c3 ?c4 ?c5 ?_)
 case c3=>unfold maxLen;omega
 case c4=>omega
 case c5=>have:=cK.size;omega
 intro v' cr wZ ic _;have bA:b<aP.heap.size:=by
  rcases aRG b aP.heap.size with c8 | c8
  ·exact c8
  ·simp [aRL c8] at yA
 have bu:cr.heap[b]? =some (.cells #[.pointer (some ⟨b,0,none⟩),v] 212 (0,0)):=by
  rw [ic.block b bA (fun e=>fb e.symm)];exact yA
 have d0:cr.cell? ⟨b,0,none⟩=some (.pointer (some ⟨b,0,none⟩)):=by rw [aT4 bu];rfl
 have d1:cr.cell? ⟨b,1,none⟩=some v:=by rw [aT4 bu];rfl
 have f1:cr.frozen? ⟨b,1,none⟩=false:=Lib.frozen_of_heap bu 1;obtain ⟨abf,h4,cap,rfl⟩:∃ abf h4 cap,v'= .slice abf h4 cap:=by
  rcases wZ.2 with ⟨hv,_⟩ | ⟨g,cap,cur,hv,_⟩
  ·exact ⟨_,_,_,hv⟩
  ·exact ⟨_,_,_,hv⟩
 go_wp2
 go_ret2
 refine ⟨Z, ?_, ?_⟩
 ·exact Lib.BuilderAt.put (T:= 212) (e:= 5) bc bu (bs':=cX++Lib.strCells s) (by simpa [Lib.strCells_length] using wZ) (by decide)
 ·exact (cK.grown ic (by have:=cK.size;omega) (fun k av=>(eI.lt k av).1)).setCell (p:=⟨b,1,none⟩) bc _
end Go.Proofs.YtlikikpgmmkjbaaGreat.Pack
namespace Go.Proofs.YtlikikpgmmkjbaaGreat
open Tryz
end Go.Proofs.YtlikikpgmmkjbaaGreat
namespace Go.Proofs.YtlikikpgmmkjbaaGreat.Pack
open Tryz
open Go.RowKit Go.Proofs.YtlikikpgmmkjbaaGreat Go.Proofs.YtlikikpgmmkjbaaGreat.eV

theorem N5 (op:BinOp) (a b:Int): -9223372036854775808≤bits op .i64 a b∧bits op .i64 a b≤9223372036854775807:=by
 have h:bits op .i64 a b=IntKind.i64.wrap (bits op .i64 a b):=by
  unfold bits;rw [aT5,aT5];omega
 rw [h,aT5];omega
theorem adM {x y:Int} (aF: -9223372036854775808≤x) (γ:x≤9223372036854775807) (g0: -9223372036854775808≤y) (g1:y≤9223372036854775807) (h:BitVec.ofInt 64 x=BitVec.ofInt 64 y):x=y:=by
 have e:=aRS BitVec.toInt h;rw [aUA,aUA] at e;simp only [Int.bmod] at e;omega
theorem aEm (x:Int) (aF: -9223372036854775808≤x) (γ:x≤9223372036854775807):bits .xor .i64 x 0=x:=by
 refine adM (N5 _ _ _).1 (N5 _ _ _).2 aF γ ?_;rw [aiP];simp
theorem aEj (x:Int) (aF: -9223372036854775808≤x) (γ:x≤9223372036854775807):bits .xor .i64 x (-1)= -x - 1:=by
 refine adM (N5 _ _ _).1 (N5 _ _ _).2 (by omega) (by omega) ?_;rw [aiP];have a_:BitVec.ofInt 64 (-1)=BitVec.allOnes 64:=by decide
 rw [a_,aUz];have bh:(-x - 1:Int)= -x+ -1:=by omega
 rw [bh,BitVec.ofInt_add,BitVec.ofInt_neg,a_];rw [BitVec.not_eq_neg_add,BitVec.sub_eq_add_neg,show -1#64=BitVec.allOnes 64 from by decide]
theorem aC3 (n:Nat) (hn:n<18446744073709551616) (w:World):
  Calls prog 120 #[.int .u64 (n:Int)] w fun e w'=>e= .returned (.int .i64 (vG n))∧w=w':=by
 have ab:n / 2<9223372036854775808:=by omega
 have iL:=aEm ((n / 2:Nat):Int) (by omega) (by omega);have jS:=aEj ((n / 2:Nat):Int) (by omega) (by omega);have hd:(n:Int) / 2=((n / 2:Nat):Int):=by omega
 have ha:bits .and .u64 (n:Int) 1=((n % 2:Nat):Int):=by
  have h:=(aUX .u64 64 (by decide) alw n 1 (by omega) (by decide)).1;rw [aUw] at h;exact h
 unfold vG;obtain ⟨m,kJ⟩:∃ m,Hid (n / 2=m):=⟨_,aQO rfl⟩;rw [kJ.out] at ab iL jS hd ⊢;rcases aU5 n with h | h
 ·rw [h] at ha ⊢;rw [aQZ rfl];have ha:bits .and .u64 (n:Int) 1=0:=ha;clear h;go_enter func120,ntmps120;go_wp2_with fail
  go_ret;exact ⟨Z,Z⟩
 ·rw [h] at ha ⊢;rw [aQV (by decide)];have ha:bits .and .u64 (n:Int) 1=1:=ha;clear h;go_enter func120,ntmps120;go_wp2_with fail
  go_ret;exact ⟨Z,Z⟩
theorem Tg {T e:TypeId} {B b:Nat} {p:Value} {cX:List Value} {w w':World} (h:Lib.BuilderAt T e B b p cX w) (Φ:Below w.heap.size w w'):Lib.BuilderAt T e B b p cX w':=by
 have bA:=h.lt;obtain ⟨bc,v,yA,eI,fb⟩:=h;exact ⟨bc,v,by rw [Φ.block b bA];exact yA,azF eI Φ,fb⟩
theorem aAj (A:Option Addr) (n c:Nat) (hn:1000<n) (w:World):
  Calls prog 92 #[.slice A n c] w fun e w'=>e= .returned (.tuple #[.string ⟨#[]⟩, .int .i64 2])∧w=w':=by
 have PN:(1000:Int)<(n:Int):=by omega
 go_enter func92,ntmps92;go_wp2_with fail
 go_ret2
 exact ⟨Z,Z⟩
theorem ajh (A:Option Addr) (n c:Nat) (l:List Int) (az:l.length=n) (hn:n≤1000) (O':r3 l) (w:World) (hr:Rd w 1 A n (uV l)):
  Calls prog 92 #[.slice A n c] w fun e w'=>e= .returned (.tuple #[.string (strOf (pR l)), .int .i64 0])∧Below w.heap.size w w':=by
 have bc:Lib.IsBuilder 212 5 w.heap.size w.heap.size [] (w.alloc (.cells #[.pointer none, .slice none 0 0] 212)):=
  .inl ⟨aQW _, .slice none 0 0,aTJ w _,World.ownsRow_nil _ _ _ _,by simp [Value.ownBlock]⟩
 have cx:Below w.heap.size w (w.alloc (.cells #[.pointer none, .slice none 0 0] 212)):=(aRe _ _).alloc (aQW _) _;have hw:IntKind.u64.wrap (n:Int)=(n:Int):=by rw [aR1];omega
 have p7:=aQO az;clear az;go_enter func92,ntmps92;go_wp2_with fail
 refine (QK n (by omega) _ Z _).mono ?_;rintro e aP ⟨rfl,cK⟩;have aeq:Lib.IsBuilder 212 5 w.heap.size w.heap.size [] aP:=by
  rcases bc with h | h
  ·exact .inl (Tg h cK)
  ·exact .inr (Tg h cK)
 have bu:=cx.trans (cK.mono cx.size);clear bc cK;have tK:=AK n;go_wp2_with fail
 refine (alx w.heap.size w.heap.size [] (strOf (dW n)) aP aeq (by rw [HZ];simp;omega) bu.size).mono ?_;rintro e cr ⟨rfl,UY,dF⟩;have dt:=bu.trans dF;rw [aS7,Lib.strCells_eq,xq] at UY;clear aeq bu dF;go_wp2_with fail
 go_loopw [17] (fun i wr=>∃ k:Nat,k≤n∧i= .int .i64 (k:Int)∧Lib.BuilderAt 212 5 w.heap.size w.heap.size (.pointer (some ⟨w.heap.size,0,none⟩)) (Lib.byteCells (dW n++items (l.take k))) wr∧Below w.heap.size w wr) (fun i _=>n - (intOf i).toNat)
 case atStart=>exact ⟨0,aRE _,rfl,by simpa [items] using UY,dt⟩
 case round =>
  clear UY dt;obtain ⟨k,av,rfl,bc,Φ⟩:=hrel;by_cases bA:k<n
  ·obtain ⟨b,o,rfl,hc⟩:=hr.2 (by omega);have iJ:k<l.length:=by rw [p7.out];exact bA
   have hx:=apf Φ (hc k _ (ab0 l k iJ)) (aSJ w _ (hc k _ (ab0 l k iJ)));have P4:=O' l[k] (aRO iJ);have KY:items (l.take (k+1))=items (l.take k)++dW (ov l[k]):=by rw [aRh iJ,agv]
   have qN:=aQO KY;generalize l[k]=x at *
   have qi:=O2 x P4.1 P4.2;have auS:=asU x P4.1 P4.2;have aJX:=AK (ov x);have G7:=Ws (l.take k);have aKa:(l.take k).length≤k:=aVM _ _;clear KY;generalize ov x=y at *
   go_wp2_with fail
   refine (auS _).mono ?_;rintro e w' ⟨rfl,rfl⟩;go_wp2_with fail
   refine (QK y qi _ Z _).mono ?_;rintro e qu ⟨rfl,nL⟩;have Ac:=Tg bc nL;have GV:=Φ.trans (nL.mono Φ.size);go_wp2_with fail
   refine (alx w.heap.size w.heap.size _ (strOf (dW y)) qu (.inr Ac) (by rw [HZ,Lib.byteCells_length];simp;omega) GV.size).mono ?_;rintro e Rt ⟨rfl,aes,Em⟩;have GX:=GV.trans Em;rw [Lib.strCells_eq,xq,← Lib.byteCells_append,aRp,← qN.out] at aes;clear bc Ac Φ nL GV Em;go_wp2_with fail
   go_roundw
   case rel=>exact ⟨k+1,by omega,by go_num,aes,GX⟩
   case measure=>simp [intOf];omega
  ·obtain rfl:k=n:=by omega
   rw [aRb (by rw [p7.out];exact aQW _)] at bc;go_wp2_with fail
   refine (Builder_String_any w.heap.size w.heap.size (dW k++items l) wr (.inr bc) Φ.size).mono ?_;rintro e Ys ⟨rfl,Ps⟩;go_wp2_with fail
   go_ret2
   refine ⟨?_,Φ.trans Ps⟩;unfold pR strOf;rw [p7.out];rfl
def amA (s:ByteArray) (w:World) (e:Ending) (w':World):Prop :=
 ∃ (out:List Int) (k:Int) (A:Option Addr) (n c:Nat),zo s.data.toList out k∧e= .returned (.tuple #[.slice A n c, .int .i64 k])∧Own w' w.heap.size 3 1 Np (.slice A n c) out.length (uV out)∧Below w.heap.size w w'
theorem atm (s:ByteArray) (hs:s.size≤9223372036854775807) (w:World):Calls prog 85 #[.string s] w (amA s w):=by
 obtain ⟨i0,ar,m_,oz,oA⟩:=aSY awV;go_enter func85,ntmps85;go_wp2_with fail
 refine (aej s hs w).mono ?_;rintro e aP ⟨n,rest,k,bC,rfl,cK⟩;have kI:=aQO bC;by_cases av:k=0
 ·subst av;obtain ⟨PZ,Cd⟩:=aek bC;have fi:=aQO PZ;have ew:=aQO Cd;have f_:rest.length≤s.size:=by
   have h:=aRS List.length PZ;simp at h;have e:s.data.size=s.size:=rfl;omega
  clear PZ bC Cd;by_cases hn:1000<n
  ·have PN:(1000:Int)<(n:Int):=by omega
   go_wp2_with fail
   go_ret2
   exact ⟨[],2,none,0,0,abq kI.out (.inr hn) (by decide),Z,Own.nil _ _ _ _ _,cK⟩
  ·have PN:¬ (1000:Int)<(n:Int):=by omega
   go_wp2_with fail
   go_loopw [0,5,6,24] (fun S E v i wr=>∃ (j:Nat) (out:List Int) (r:List UInt8),j≤n∧i= .int .u64 (j:Int)∧S= .string (strOf r)∧E= .int .i64 0∧out.length=j∧Own wr w.heap.size 3 1 Np v j (uV out)∧Below w.heap.size w wr∧
     Hid (s.data.toList=dW n++(items out++r))∧Hid (r3 out)∧r.length≤s.size) (fun _ _ _ i _=>n - (intOf i).toNat)
   case atStart=>exact ⟨0, [],rest,aRE _,rfl,rfl,rfl,rfl,Own.nil _ _ _ _ _,cK,fi,(fun x hx=>by cases hx),f_⟩
   case round =>
    clear cK fi f_;obtain ⟨j,out,r,ay,rfl,rfl,rfl,afV,eI,Φ,fi,lS,aJ4⟩:=hrel;have aT:=aQO afV;clear afV;by_cases bA:j<n
    ·go_wp2_with fail
     refine (aej (strOf r) (by rw [HZ];omega) wr).mono ?_;rintro e cr ⟨m,r2,eO,J2,rfl,bu⟩;rw [xq] at J2;have dF:=Φ.trans (bu.mono Φ.size);by_cases fZ:eO=0
     ·subst fZ;obtain ⟨V5,PH⟩:=aek J2;have awr:=aC3 m PH;have Pt:=aC2 m PH;have afn:=asZ m;have zB:Hid (s.data.toList=dW n++(items (out++ [vG m])++r2)):=by
       show _=_;rw [fi.out,V5,agv,afn,aRp]
      have amR:Hid (r3 (out++ [vG m])):=by
       intro x hx;rcases aQ0.1 hx with h | h
       ·exact lS.out x h
       ·simp at h;subst h;exact Pt
      have awe:r2.length≤s.size:=by
       have h:=aRS List.length V5;simp at h;omega
      have afZ:=eI.later bu;have kJ:=aQO PH;clear V5 PH afn J2 Pt eI fi lS;generalize vG m=x at *
      have dt:=dF.alloc dF.size (.cells #[.int .i64 x] 3);have af0:=afZ.later ((aRe cr.heap.size cr).alloc (aQW _) (.cells #[.int .i64 x] 3));have KR:Rd (cr.alloc (.cells #[.int .i64 x] 3)) 1 (some ⟨cr.heap.size,0,none⟩) 1 [.int .i64 x] :=
       ⟨rfl,fun _=>⟨cr.heap.size,0,rfl,fun q u I=>by
        match q,I with
        | 0,I=>simp at I;subst I;simp⟩⟩
      have Z8:=aQO af0;have amZ:=aQO KR;clear afZ af0 KR;go_wp2_with fail
      refine (awr _).mono ?_;rintro e w' ⟨rfl,rfl⟩;go_wp2_with (at_builtin;refine Fq _ rfl _ _ 22 rfl w.heap.size 3 i0 (.int .i64 0) 1 8 underlying22 ar m_ oz oA rfl (by decide) Np ?g1 _ j (uV out) rfl Z8.out (some ⟨cr.heap.size,0,none⟩) 1 1 [.int .i64 x] rfl amZ.out ?g2 ?g3 ?g4 ?g5 ?g6 ?_)
      case g1=>intro q u I;match q,I with | 0,I=>exact ⟨0,(aQL I).symm⟩
      case g2=>intro u hu;simp at hu;subst hu;rfl
      case g3=>intro q u I;match q,I with | 0,I=>exact ⟨x,(aQL I).symm⟩
      case g4=>unfold maxLen;omega
      case g5=>omega
      case g6=>exact dt.size
      intro v' qu af1 ic _ fq;have nL:=dt.grown ic dt.size (fun q I=>(Z8.out.row.lt q I).1);rw [← apg] at af1;clear ic fq dt dF bu;go_wp2_with fail
      go_roundw
      case rel=>exact ⟨j+1,out++ [x],r2,by omega,by go_num,rfl,rfl,by simp [aT.out],af1,nL,zB,amR,awe⟩
      case measure=>simp [intOf];omega
     ·have VP:(eO != 0)=true:=by rw [aTT];exact fZ
      have hO:=aQO fZ;have ix:=aom fi.out ew.out lS.out (by rw [aT.out];exact bA) J2 hO.out;have aL:=aQO ix;clear fZ J2 ix;go_wp2_with fail
      go_ret2
      exact ⟨[],eO,none,0,0,aL.out,Z,Own.nil _ _ _ _ _,dF⟩
    ·obtain rfl:j=n:=by omega
     by_cases hr:r= []
     ·subst hr;have γ:(strOf []).toList= []:=by rw [aSI,xq]
      have ab:(!(strOf []).toList.isEmpty)=false:=by rw [aSI,xq];rfl
      obtain ⟨A,c,rfl,_⟩:=eI.shape;have il:=aQO (atw fi.out lS.out aT.out (by omega));clear fi;go_wp2_with fail
      go_ret2
      exact ⟨out,0,A,j,c,il.out,Z,by rw [aT.out];exact eI,Φ⟩
     ·have γ:¬ (strOf r).toList= []:=by rw [aSI,xq];exact hr
      have ab:(!(strOf r).toList.isEmpty)=true:=by rw [aSI,xq];simpa using hr
      have il:=aQO (aol (k:=4) fi.out ew.out lS.out aT.out hr (by decide));clear fi hr;go_wp2_with fail
      go_ret2
      exact ⟨[],4,none,0,0,il.out,Z,Own.nil _ _ _ _ _,Φ⟩
 ·have VP:(k != 0)=true:=by rw [aTT];exact av
  have ave:(k == 0)=false:=by rw [aS0];exact av
  have hO:=aQO av;clear av bC;go_wp2_with fail
  go_ret2
  exact ⟨[],k,none,0,0,abq kI.out (.inl hO.out) hO.out,Z,Own.nil _ _ _ _ _,cK⟩
end Go.Proofs.YtlikikpgmmkjbaaGreat.Pack
namespace Go.Proofs.YtlikikpgmmkjbaaGreat
open Tryz
section
open Go.RowKit Go.Proofs.YtlikikpgmmkjbaaGreat.eV
def pS:τ (BitVec 64):=τ.flat 1 (λ b=> [.int .u64 (U b)]) (λ _=>True) (λ _ u=>∃ n:Int,u= .int .u64 n) (λ _=>rfl) (by intro a u hu;simp at hu;subst hu;rfl) (by
 intro a j u hu;cases j with
 | zero=>simp at hu;exact ⟨_,hu.symm⟩
 | succ j=>simp at hu)
theorem ags:(prog.info? 41).map (λ i=>(i.zero,i.size,i.bytes))=some (some (.int .u64 0),1,8):=by kernel_rfl
theorem ajw:∀ (j:Nat) u,(Value.int .u64 0).cells[j]? =some u→pS.raw j u:=by
 intro j u hu;have hu:(#[(.int .u64 0:Value)]:Array Value)[j]? =some u:=hu
 match j,hu with
 | 0,hu=>exact ⟨0,(aQL hu).symm⟩
 | j+1,hu=>simp at hu
theorem aBH {by_:Nat} {w:World} {A:Option Addr} {c:Nat} {l:List (BitVec 64)} (h:pS.aI by_ w A c l):Mark.DQ w A l.length l:=by
 refine ⟨Z,h.d_, ?_⟩;cases az:l with
 | nil=>exact .inl rfl
 | cons x r =>
  rw [← az];obtain ⟨b,o,e,hc⟩:=h.at_ (by rw [az];simp);refine .inr ⟨b,o,e,λ i ar=> ?_⟩;obtain ⟨es,⟨rfl,_⟩,ay⟩:=hc i _ (aQN ar);have:=ay 0 _ rfl;simpa [pS,τ.flat] using this
theorem adW {w:World}:∀ {ess:List (List Value)} {l:List Int},c0 (λ es a=>bK.has w es a) ess l→ess.flatten=l.map (Value.int .i64)
 | [], [],_=>rfl
 | es::ess,a::l,h=>by
  obtain ⟨γ,ab⟩:=h;rw [aRB,gl γ,adW ab];rfl
 | [],_::_,h=>h.elim
 | _::_, [],h=>h.elim
def HK (l:List Int):List UInt8:=if l.length≤1000 then Pack.pR l else []
def qo (l:List Int):BitVec 64:=Tree.Cq (HK l)
theorem azI (l:List Int):(HK l).length≤20000:=by
 unfold HK;split
 ·rename_i h
  unfold Pack.pR;rw [aQU];have:=(Pack.AK l.length).1;have:=Pack.Ws l;omega
 ·simp
theorem azJ (l:List Int) (A:Option Addr) (c:Nat) (w:World) (h:bK.aI 8 w A c l):Calls prog 92 #[.slice A l.length c] w λ e w'=>(∃ k,e= .returned (.tuple #[.string (Pack.strOf (HK l)), .int .i64 k]))∧Ext w w':=by
 unfold HK;by_cases hn:l.length≤1000
 ·rw [aQZ hn];have hr:Rd w 1 A l.length (uV l):=by
   obtain ⟨s1,s2,L6,ajL,ess,L7,E8⟩:=h;rw [adW L7] at E8;exact E8
  exact (Pack.ajh A l.length c l Z hn (λ x hx=>bM.1 (HS h x hx)) w hr).mono λ e w' h=>⟨⟨0,h.1⟩,h.2⟩
 ·rw [aQV hn];exact (Pack.aAj A l.length c (by omega) w).mono λ e w' h=>⟨⟨2,h.1⟩,by rw [← h.2];exact Ext.bI w⟩
theorem axO (s:List UInt8) (hs:s.length≤20000) (w:World):Calls prog 83 #[.string (Pack.strOf s)] w λ e w'=>e= .returned (.int .u64 (U (Tree.Cq s)))∧Ext w w':=by
 refine (Tree.Hj (Pack.strOf s) (by rw [Pack.HZ];omega) w).mono ?_;rintro e w' ⟨rfl,q,rfl⟩;exact ⟨by rw [Pack.xq],below_drewN (aRe _ w) q⟩
theorem azk (l:List (BitVec 64)) (A:Option Addr) (c:Nat) (w:World) (h:pS.aI 8 w A c l):Calls prog 58 #[.slice A l.length c] w λ e w'=>e= .returned (.int .u64 (U (Mark.EZ Mark.mix l)))∧Ext w w':=Mark.Xf A l.length c l w (aBH h)
def Qu (W:ag):BitVec 64:=qo ([1,W.field.wide,W.field.high,W.next,W.now]++W.field.aW)
def Qt (W:ag) (i:Nat):BitVec 64:=qo [2,(i:Int),(W.aU.getD i default).x,(W.aU.getD i default).y,W.bj.getD i 0]
def AF (W:ag):Nat→List (BitVec 64)
 | 0=> []
 | k+1=>AF W k++(if W.br.getD k 0=0 then [] else [qo [3,(k:Int),W.br.getD k 0]])
def LN (t:bg):BitVec 64:=qo [4,t.id,t.owner,t.kind,t.spot.x,t.spot.y,t.cY,t.load]
def AE (W:ag) (k:Nat):List (BitVec 64):= [Qu W]++(List.range k).map (Qt W)
def marks (W:ag):List (BitVec 64):=AE W W.aU.length++AF W W.br.length++W.ak.map LN
def rC (W:ag):BitVec 64:=if W.bn=0 then Mark.EZ Mark.mix (marks W) else 0#64
theorem ayx (W:ag) (k:Nat):AE W (k+1)=AE W k++ [Qt W k]:=by
 unfold AE;rw [aSo,aRc,← aRp];rfl
theorem W9 (W:ag):∀ k,(AF W k).length≤k
 | 0=>aQW 0
 | k+1=>by
  have:=W9 W k;rw [AF,aQU];split<;>simp<;>omega
theorem W5 (W:ag) (k:Nat):(AE W k).length=k+1:=by unfold AE;simp
theorem ayH {l:List bg} {k:Nat} {t:bg} (av:k<l.length) (aD:l.getD k default=t):(l.take (k+1)).map LN=(l.take k).map LN++ [LN t]:=by
 rw [← aD,aQK,aQN av,← aVi av,aRc];rfl
end
section
theorem Wr:(prog.info? 44).map (λ i=>(i.zero,i.size,i.bytes))=some (some (.slice none 0 0),1,24):=by kernel_rfl
def p_ (w:World) (T:List gP) (L:List (List aN)):Prop:=T.length=L.length∧∀ (i:Nat) (v:gP),T[i]? =some v→∃ l:List aN,L[i]? =some l∧v.n=l.length∧aN.rep.aI 48 w v.a v.c l
section
variable {w w':World} {T jH:List gP} {L xZ:List (List aN)} {W:ag} {l:List aN} {k:Nat} {e:Int} {V:ag} {ms:List (BitVec 64)}
theorem p_.keep (h:p_ w T L) (hx:Ext w w'):p_ w' T L:=⟨h.1,λ i v ar=>by
 obtain ⟨l,γ,ab,aw⟩:=h.2 i v ar;exact ⟨l,γ,ab,aw.keep hx⟩⟩
theorem p_.nil:p_ w [] []:=⟨rfl,λ i v h=>by simp at h⟩
theorem p_.at_ (h:p_ w T L) (av:k<T.length):∃ A c l,T[k]? =some ⟨A,l.length,c⟩∧L[k]? =some l∧aN.rep.aI 48 w A c l:=by
 obtain ⟨v,hv⟩:∃ v,T[k]? =some v:=⟨_,aQN av⟩;obtain ⟨l,γ,ab,aw⟩:=h.2 k v hv;obtain ⟨a,n,c⟩:=v;dsimp only at ab aw;subst ab;exact ⟨a,c,l,hv,γ,aw⟩
noncomputable def lH (W:ag) (L:List (List aN)):ag:=L.foldl ld W
noncomputable def xo (W:ag):List (List aN)→List (BitVec 64)
 | []=> [rC W]
 | l::r=>rC W::xo (ld W l) r
noncomputable def h5 (W:ag):List (List aN)→Int
 | []=>0
 | l::r=>if gX W l≠0 then gX W l else h5 (ld W l) r
def DM (W:ag) (L:List (List aN)) (e:Int) (V:ag) (ms:List (BitVec 64)):Prop:=(e=0∧L.length≤200∧W.bn=0∧h5 W L=0∧V=lH W L∧ms=xo W L)∨(e≠0∧(200<L.length∨W.bn≠0∨h5 W L≠0)∧V=ag.zero∧ms= [])
theorem ajE:lH W (L++xZ)=lH (lH W L) xZ:=aSD
theorem ajF:∀ (L:List (List aN)) (W:ag),(xo W L).length=L.length+1
 | [],_=>rfl
 | l::r,W=>by rw [xo,aQQ,aQQ,ajF r]
theorem ajG:∀ (L:List (List aN)) (W:ag),xo W (L++ [l])=xo W L++ [rC (ld (lH W L) l)]
 | [],_=>rfl
 | l::r,W=>by rw [aSG,xo,xo,ajG r];rfl
theorem QS:∀ (L:List (List aN)) (W:ag),h5 W (L++xZ)=if h5 W L≠0 then h5 W L else h5 (lH W L) xZ
 | [],W=>by rw [aS7];unfold h5;rw [aQV (by simp)];rfl
 | l::r,W=>by
  rw [aSG,h5,h5];by_cases h:gX W l≠0
  ·rw [aQZ h,aQZ h,aQZ h]
  ·rw [aQV h,aQV h,QS r];rfl
theorem XO:h5 W [l]=gX W l:=by
 unfold h5;split
 ·rfl
 ·rename_i h;unfold h5;have:gX W l=0:=by simpa using h
  rw [this]
theorem CL {α:Type} {L:List α} {l:α} (h:L[k]? =some l):L.take (k+1)=L.take k++ [l]:=by
 have av:=(aQM.1 h).1;have e:=(aQM.1 h).2;rw [← e,aVi]
theorem QT (aF:h5 W (L.take k)=0) (az:L[k]? =some l):h5 W (L.take (k+1))=gX (lH W (L.take k)) l:=by
 rw [CL az,QS,aQV (by simpa using aF),XO]
theorem HU (aF:h5 W (L.take k)≠0):h5 W L≠0:=by
 have:L=L.take k++L.drop k:=(aSS k L).symm;rw [this,QS,aQZ aF];exact aF
theorem DM.ok (h:DM W L e V ms) (aF:e=0):L.length≤200∧W.bn=0∧h5 W L=0∧V=lH W L∧ms=xo W L:=by
 rcases h with ⟨_,h⟩ | ⟨γ,_⟩
 ·exact h
 ·exact absurd aF γ
theorem DM.zero (h:DM W L e V ms) (γ:L.length≤200) (ab:W.bn=0) (aw:h5 W L=0):e=0∧V=lH W L∧ms=xo W L:=by
 rcases h with ⟨aF,_,_,_,aX,bF⟩ | ⟨_,aX,_⟩
 ·exact ⟨aF,aX,bF⟩
 ·omega
end
end
end Go.Proofs.YtlikikpgmmkjbaaGreat
