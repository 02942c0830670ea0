import Derived.Test.YtmeeljmapailnaaGreatPackM
set_option linter.unusedVariables false
set_option linter.unusedSimpArgs false
set_option maxRecDepth 100000
set_option maxHeartbeats 4000000
open Go.RowKit
namespace Go.Proofs.YtmeeljmapailnaaGreat
open Tryz
abbrev aUj:=@List.cons.injEq
abbrev aU2:=@Nat.two_pow_pos
abbrev aU6:=@Go.Lib.extract_data
abbrev aU7:=@Go.Lib.cell_of_heap
abbrev aVX:=@Go.bits_nat
abbrev aV3:=@Nat.mod_two_eq_zero_or_one
abbrev aWd:=@Go.Oper.upon_value
abbrev aWh:=@List.take_append_getElem
abbrev aWo:=@Option.map_eq_some_iff
abbrev aWu:=@List.drop_eq_nil_of_le
abbrev aWw:=@List.singleton_append
abbrev aWD:=@Go.run_convert_bytes_back
abbrev aWK:=@Nat.and_one_is_mod
abbrev aWN:=@BitVec.xor_allOnes
end Go.Proofs.YtmeeljmapailnaaGreat
namespace Go.Proofs.YtmeeljmapailnaaGreat.Pack
open Tryz
open Go.RowKit Go.Proofs.YtmeeljmapailnaaGreat.fu

theorem ayz:(prog.info? 5).map (fun i=>(i.zero,i.size,i.bytes))=some (some (.int .u8 0),1,1):=by kernel_rfl
def cells (l:List UInt8):List Value:=l.map fun b=>Value.int .u8 (b.toNat:Int)
theorem adr (l:List UInt8) (b:UInt8):cells (l++ [b])=cells l++ [Value.int .u8 (b.toNat:Int)]:=by unfold cells;simp
theorem aq2 (l:List UInt8) (i:Nat) (h:i<l.length):(cells l)[i]? =some (.int .u8 (l[i].toNat:Int)):=by unfold cells;simp [h]
def strOf (l:List UInt8):ByteArray:=⟨l.toArray⟩
theorem Jh (l:List UInt8):(strOf l).size=l.length:=by
 show l.toArray.size=_;simp
theorem yx (l:List UInt8):(strOf l).data.toList=l:=rfl

theorem aAX (n:Nat):bits BinOp.or IntKind.u8 ((n:Int) % 256) 128=(((UInt8.ofNat (n % 128+128)).toNat:Nat):Int):=by
 have e:((n:Int) % 256)=((n % 256:Nat):Int):=by omega
 have κ:n % 256<256:=aT6 _ (by decide);have key:∀ x:Fin 256,(x.val ||| 128)=x.val % 128+128:=by decide +kernel
 have ab:=key ⟨n % 256,κ⟩;simp only at ab;rw [e,show (128:Int)=((128:Nat):Int) from rfl,(aVX .u8 8 (by decide) wraps_u8 _ _ (by omega) (by decide)).2,ab];simp only [aSX];omega

theorem ars (w:World) (base g n cap:Nat) (l:List UInt8) (hn:n=l.length) (h:w.ownsRow base 5 1 (.slice (some ⟨g,0,none⟩) n cap) n (cells l)):
  (convert 263 9 (.slice (some ⟨g,0,none⟩) n cap)).run prog w= .ok (.string (strOf l)) w:=by
 subst hn;refine aWD (P:=prog) w 263 9 5 ⟨g,0,none⟩ cap l underlying263 underlying5 underlying9 ?_;intro j az;rw [acC,h.cellAt j (by omega),aq2 l j az]

theorem R5 (n:Nat) (hn:n<18446744073709551616) (x:Int) (hx:x=n) (w:World):
  Calls prog 153 #[.int .u64 x] w fun e w'=>e= .returned (.string (strOf (d' n)))∧Below w.heap.size w w':=by
 subst hx;obtain ⟨i0,aq,ph,mO,m_⟩:=aUq ayz;have ff:=aRY (Ge hn);clear hn;go_enter func153,ntmps153;go_wp2_with fail
 go_loopw [0,3] (fun x v wr=>∃ (k m:Nat) (acc:List UInt8),k≤9∧x= .int .u64 (m:Int)∧Hid (m<128 ^ (k+1))∧Hid (acc++kA k m=d' n)∧wr.ownsRow w.heap.size 5 1 v acc.length (cells acc)∧Below w.heap.size w wr) (fun x _ _=>(intOf x).toNat)
 case atStart=>exact ⟨9,n, [],aR7 _,rfl,ff,rfl,World.ownsRow_nil _ _ _ _,aSr _ _⟩
 case round =>
  obtain ⟨k,m,acc,ar,rfl,lv,jK,fo,Φ⟩:=hrel;by_cases bz:128≤m
  ·obtain ⟨k',rfl⟩:∃ k',k=k'+1:=by
    cases k with
    | zero=>have:=lv.out;simp at this;omega
    | succ k'=>exact ⟨k',rfl⟩
   obtain ⟨b,aN⟩:∃ b,Hid (b=UInt8.ofNat (m % 128+128)):=⟨_,aRY rfl⟩;have Rb:=aAX m;rw [← aN.out] at Rb;have xg:Hid ((acc++ [b])++kA k' (m / 128)=d' n):=by
    show _=_;rw [← jK.out,B8 (by omega),← aN.out,aSA];rfl
   have Hl:Hid (m / 128<128 ^ (k'+1)):=I_ lv.out;have avZ:acc.length≤9:=by
    have κ:=(B_ n).1;have ab:=aTc List.length xg.out;have aw:=(YY k' (m / 128)).2;simp at ab;omega
   have LK:=Φ.alloc Φ.size (.cells #[.int .u8 (b.toNat:Int)] 5);go_wp2_with (at_builtin;refine wpList_append_own _ rfl _ _ 263 rfl w.heap.size 5 i0 (.int .u8 0) 1 1 underlying263 aq ph mO m_ rfl (by decide) _ acc.length (cells acc) rfl (fo.alloc _) ⟨wr.heap.size,0,none⟩ 1 1 [.int .u8 (b.toNat:Int)] rfl rfl ?d1 ?d2 ?d3 ?d4 ?d5 ?_)
   case d1 =>
    intro j u az
    match j,az with
    | 0,az=>simp at az;subst az;simp [Addr.add]
   case d2=>intro u hu;simp at hu;subst hu;rfl
   case d3=>unfold maxLen;omega
   case d4=>omega
   case d5=>have:=Φ.size;simp;omega
   intro v' aT xT j2 _;have cP:=LK.grown j2 (by have:=Φ.size;simp;omega) (fun q I=>(fo.lt q I).1);rw [← adr,show acc.length+1=(acc++ [b]).length by simp] at xT;clear j2 fo LK Φ;go_wp2_with fail
   go_roundw
   case rel=>exact ⟨k',m / 128,acc++ [b],by omega,by go_num,Hl,xg,xT,cP⟩
   case measure=>simp [intOf];omega
  ·have ha:acc++ [UInt8.ofNat m]=d' n:=by rw [← jK.out,B9 (by omega)]
   have ag2:(UInt8.ofNat m).toNat=m:=by rw [aSX];omega
   have avZ:acc.length≤9:=by
    have κ:=(B_ n).1;have ab:=aTc List.length ha;simp at ab;omega
   have aor:=aRY ag2;have xg:=aRY ha;have LK:=Φ.alloc Φ.size (.cells #[.int .u8 (m:Int)] 5);clear ha ag2;go_wp2_with (at_builtin;refine wpList_append_own _ rfl _ _ 263 rfl w.heap.size 5 i0 (.int .u8 0) 1 1 underlying263 aq ph mO m_ rfl (by decide) _ acc.length (cells acc) rfl (fo.alloc _) ⟨wr.heap.size,0,none⟩ 1 1 [.int .u8 (m:Int)] rfl rfl ?c1 ?c2 ?c3 ?c4 ?c5 ?_)
   case c1 =>
    intro j u az
    match j,az with
    | 0,az=>simp at az;subst az;simp [Addr.add]
   case c2=>intro u hu;simp at hu;subst hu;rfl
   case c3=>unfold maxLen;omega
   case c4=>omega
   case c5=>have:=Φ.size;simp;omega
   intro v' aT xT j2 _;have cP:=LK.grown j2 (by have:=Φ.size;simp;omega) (fun q I=>(fo.lt q I).1);have agt:cells acc++ [Value.int .u8 (m:Int)]=cells (d' n):=by rw [← xg.out,adr,aor.out]
   have hlen:acc.length+1=(d' n).length:=by rw [← xg.out];simp
   rw [agt,hlen] at xT;have hex:∃ g cap,v'= .slice (some ⟨g,0,none⟩) (d' n).length cap:=by
    rcases xT.2 with ⟨_,h⟩ | ⟨g,cap,cur,h,_⟩
    ·omega
    ·exact ⟨g,cap,h⟩
   obtain ⟨g,cap,hv⟩:=hex;rw [hv] at xT ⊢;have hcv:=ars aT _ g _ cap (d' n) rfl xT;clear hv j2 fo LK Φ agt hlen xT;go_wp2_with fail
   go_ret;exact ⟨Z,cP⟩

theorem Nr {a b:Int} (h:a=b):Ending.returned (.int .u64 a)= .returned (.int .u64 b):=by rw [h]
theorem aFC (n:Nat) (h:n<18446744073709551616):n ^^^ 18446744073709551615=18446744073709551615 - n:=by
 have e:(BitVec.ofNat 64 n ^^^ BitVec.allOnes 64).toNat=(~~~(BitVec.ofNat 64 n)).toNat:=by rw [aWN]
 rw [BitVec.toNat_xor,BitVec.toNat_not,aTF,BitVec.toNat_allOnes,aTh h] at e;exact e
theorem auA (x:Int) (aG: -9223372036854775808≤x) (κ:x≤9223372036854775807) (w:World):
  Calls prog 155 #[.int .i64 x] w fun e w'=>e= .returned (.int .u64 (pa x))∧w=w':=by
 by_cases hx:0≤x
 ·go_enter func155,ntmps155;go_wp2
  go_ret;refine ⟨Nr ?_,Z⟩;have e:x / 9223372036854775808=((0:Nat):Int):=by omega
  obtain ⟨m,rfl⟩:=aTQ hx;rw [e,show ((m:Int) * 2)=((m * 2:Nat):Int) by omega,u64_xor_nat _ _ (by omega) (by omega),Nat.xor_zero];unfold pa;rw [aR8 hx];omega
 ·go_enter func155,ntmps155;go_wp2
  go_ret;refine ⟨Nr ?_,Z⟩;have aya:¬ 0≤x:=by omega
  have e:IntKind.u64.wrap (x / 9223372036854775808)=((18446744073709551615:Nat):Int):=by rw [aTb];omega
  have bh:IntKind.u64.wrap (IntKind.u64.wrap x * 2)=(((2 * x+18446744073709551616).toNat:Nat):Int):=by rw [aTb,aTb];omega
  rw [e,bh,u64_xor_nat _ _ (by omega) (by omega)];unfold pa;rw [aR5 aya];have cF:(2 * x+18446744073709551616).toNat ^^^ 18446744073709551615=18446744073709551615 - (2 * x+18446744073709551616).toNat:=by
   exact aFC _ (by omega)
  rw [cF];omega

theorem anf (n:Int) (ayg:0≤n) (h₁:n<2 ^ 64):IntKind.u64.wrap n=n:=by rw [aTb];omega
theorem apO (b:UInt8):bits BinOp.and IntKind.u8 (b.toNat:Int) 127=((b.toNat % 128:Nat):Int):=by
 have h:=bits_mask .u8 8 (by decide) wraps_u8 7 (by decide) (b.toNat:Int) (aTV _) (by have:=b.toNat_lt;omega);simpa using h
theorem ZD (l:List UInt8) (b:UInt8) (k:Nat) (ar:k=l.length) (awS:k≤9):
  bits BinOp.or IntKind.u64 ((val l % 18446744073709551616:Nat):Int) (((b.toNat % 128:Nat):Int) * 2 ^ (7 * k) % 18446744073709551616)=((val (l++ [b]) % 18446744073709551616:Nat):Int):=by
 subst ar;have hp:(128:Nat) ^ l.length=2 ^ (7 * l.length):=by rw [show (128:Nat)=2 ^ 7 from rfl,← Nat.pow_mul]
 have hv:=aEz l;have hle:(128:Nat) ^ l.length≤128 ^ 9:=Nat.pow_le_pow_right (by decide) awS;have DO:val l<18446744073709551616:=aTC hv (aSs hle (by decide));rw [aEC,aTh DO,hp];have Φ:b.toNat % 128<128:=aT6 _ (by decide);generalize b.toNat % 128=d at *
 obtain ⟨r,hr⟩:∃ r,64=7 * l.length+r:=⟨64 - 7 * l.length,by omega⟩;have Vj:18446744073709551616=2 ^ (7 * l.length) * 2 ^ r:=by rw [← Nat.pow_add,← hr]
 have aZ:((d:Int) * 2 ^ (7 * l.length) % 18446744073709551616)=((2 ^ (7 * l.length) * (d % 2 ^ r):Nat):Int):=by
  rw [← Nat.mul_mod_mul_left,← Vj,Int.natCast_emod,Int.natCast_mul,Int.natCast_pow,Int.mul_comm];rfl
 rw [hp] at hv;have ab:2 ^ (7 * l.length) * (d % 2 ^ r)<18446744073709551616:=by
  rw [Vj];exact Nat.mul_lt_mul_of_pos_left (aT6 _ (aU2 _)) (aU2 _)
 have bh:(val l+2 ^ (7 * l.length) * d) % 18446744073709551616=2 ^ (7 * l.length) * (d % 2 ^ r)+val l:=by
  rw [Vj,Nat.mod_mul,Nat.add_mul_mod_self_left,aTh hv,Nat.add_mul_div_left _ _ (aU2 _),aVQ hv,aTd,aVG]
 rw [aZ,bh,(aVX .u64 64 (by decide) anf _ _ DO ab).2];rw [Nat.two_pow_add_eq_or_of_lt hv,Nat.or_comm]

theorem Nq {a a':Int} {b rJ:ByteArray} {c b5:Int} (κ:a=a') (ab:b=rJ) (aw:c=b5):Ending.returned (.tuple #[.int .u64 a, .string b, .int .i64 c])= .returned (.tuple #[.int .u64 a', .string rJ, .int .i64 b5]):=by rw [κ,ab,aw]
def aon (l:List UInt8) (w:World) (e:Ending) (w':World):Prop :=
 ∃ (n:Nat) (rest:List UInt8) (k:Int),J9 l n rest k∧e= .returned (.tuple #[.int .u64 (n:Int), .string (strOf rest), .int .i64 k])∧Below w.heap.size w w'

theorem afE (s:ByteArray) (hs:s.size≤9223372036854775807) (w:World):Calls prog 120 #[.string s] w (aon s.data.toList w):=by
 go_enter func120,ntmps120;go_wp2_with fail
 go_loopw [5,6] (fun v i wr=>∃ k:Nat,k≤s.size∧k≤10∧i= .int .i64 k∧v= .int .u64 ((val (s.data.toList.take k) % 18446744073709551616:Nat):Int)∧Hid (∀ i (h:i<s.data.toList.length),i<k→128≤(s.data.toList[i]).toNat)∧Below w.heap.size w wr) (fun _ i _=>s.size - (intOf i).toNat)
 case atStart=>exact ⟨0,aSM _,aSM _,rfl,rfl,fun i h ab=>absurd ab (by omega),aSr _ _⟩
 case round =>
  obtain ⟨k,ar,aKs,rfl,rfl,mZ,Φ⟩:=hrel;by_cases bz:k<s.size
  ·by_cases Qx:k<10
   ·have jg:k<s.data.toList.length:=by simpa using bz
    have XF:s[k]=s.data.toList[k]:=rfl;have iO:=ZD (s.data.toList.take k) s[k] k (by simp;omega) (by omega);rw [XF,← aSn jg,← XF] at iO;have abq:bits BinOp.or IntKind.u64 ((val (s.data.toList.take k) % 18446744073709551616:Nat):Int) (IntKind.u64.wrap (IntKind.u64.wrap (bits BinOp.and IntKind.u8 (s[k].toNat:Int) 127) * 2 ^ (7 * k)))=((val (s.data.toList.take (k+1)) % 18446744073709551616:Nat):Int):=by
     rw [← iO,apO,aTb,aTb];congr 3;omega
    obtain ⟨M',Hk⟩:∃ M',Hid (val (s.data.toList.take (k+1)) % 18446744073709551616=M'):=⟨_,aRY rfl⟩;have Lo:M'<18446744073709551616:=by rw [← Hk.out];exact aT6 _ (by decide)
    rw [Hk.out] at abq;generalize val (s.data.toList.take k) % 18446744073709551616=M at abq ⊢;have aN:=aRY Lo;clear XF iO Lo;by_cases Wd:128≤s[k].toNat
    ·go_wp2_with fail
     go_roundw
     case rel =>
      refine ⟨k+1,by omega,by omega,by go_num,by rw [Hk.out], ?_,Φ⟩;intro i h aq;by_cases mi:i=k
      ·subst mi;exact Wd
      ·exact mZ.out i h (by omega)
     case measure=>simp [intOf];omega
    ·have p_:k+1≤s.size:=bz;have iA:(0:Int)≤(k:Int)+1:=by omega
     have Xg:(k:Int)+1≤(s.size:Int):=by omega
     have awR:IntKind.i64.wrap ((k:Int)+1)=(k:Int)+1:=IntWalk.i64_in _ (by omega);have aKt:((k:Int)+1).toNat=k+1:=by omega
     by_cases hp:d' M'=s.data.toList.take (k+1)
     ·have I:((strOf (d' M')).toList == (s.extract 0 (k+1)).toList)=true:=ac8 (UL (by rw [yx,aU6,aUs,hp];rfl));have AS:=aRY hp;clear hp;go_wp2_with fail
      go_region_held3 (fun my=>Below w.heap.size w my) (first | exact Φ.drew | exact Φ.drew.trans (by assumption) | assumption) ((go_at_call 153;refine (R5 M' aN.out _ rfl _).mono ?_;rintro e w' ⟨rfl,bw⟩;have dL:=Φ.drew.trans (bw.mono Φ.size)))
      clear Φ bw I;go_wp2_with fail
      go_quiet (fail)
      go_wp2_with fail
      go_ret3
      refine ⟨M',s.data.toList.drop (k+1),0, .inl ⟨k,Qx,jg,mZ.out,fun _=>by have:=Wd;show s[k].toNat<128;omega, .inl ⟨by rw [Hk.out];exact AS.out,Hk.out.symm,rfl,rfl⟩⟩,Nq Z (UL ?_) Z,below_drewN (by assumption) _⟩;rw [yx,aU6,aSk (by simp)]
     ·have I:((strOf (d' M')).toList == (s.extract 0 (k+1)).toList)=false:=ac7 (fun h=>hp (by
       have ab:=aTc (fun x:ByteArray=>x.data.toList) h;simp only [yx,aU6,aUs] at ab;exact ab))
      have AS:=aRY hp;clear hp;go_wp2_with fail
      go_region_held3 (fun my=>Below w.heap.size w my) (first | exact Φ.drew | exact Φ.drew.trans (by assumption) | assumption) ((go_at_call 153;refine (R5 M' aN.out _ rfl _).mono ?_;rintro e w' ⟨rfl,bw⟩;have dL:=Φ.drew.trans (bw.mono Φ.size)))
      clear Φ bw I;go_wp2_with fail
      go_ret3
      exact ⟨0, [],4, .inl ⟨k,Qx,jg,mZ.out,fun _=>by have:=Wd;show s[k].toNat<128;omega, .inr ⟨by rw [Hk.out];exact AS.out,rfl,rfl,rfl⟩⟩,Nq Z Z Z,by assumption⟩
   ·have awQ:k=10:=by omega
    subst awQ;have hlen:¬ (s.size:Int)<10:=by omega
    go_wp2_with fail
    go_ret3
    exact ⟨0, [],4, .inr (.inr ⟨by simp;have e:s.data.size=s.size:=rfl;omega,fun i h aq=>mZ.out i h aq,rfl,rfl,rfl⟩),Nq Z Z Z,Φ⟩
  ·have QZ:k=s.size:=by omega
   have dK:∀ i (h:i<s.data.toList.length),i<k:=by
    intro i h;have e:s.data.toList.length=s.size:=by simp
    omega
   have e:s.data.toList.length=s.size:=by simp
   by_cases Qx:s.size<10
   ·have jL:=aRY e;have jK:=aRY dK;have ie:=aRY QZ;clear e dK QZ;have hlen:(s.size:Int)<10:=by omega
    have uG:(s.size:Int)≤(k:Int):=by omega
    go_wp2_with fail
    go_ret3
    exact ⟨0, [],3, .inr (.inl ⟨by have:=jL.out;omega,fun i h=>mZ.out i h (jK.out i h),rfl,rfl,rfl⟩),Nq Z Z Z,Φ⟩
   ·have jL:=aRY e;have jK:=aRY dK;have ie:=aRY QZ;clear e dK QZ;have hlen:¬ (s.size:Int)<10:=by omega
    have uG:(s.size:Int)≤(k:Int):=by omega
    go_wp2_with fail
    go_ret3
    exact ⟨0, [],4, .inr (.inr ⟨by have:=jL.out;omega,fun i h aq=>mZ.out i h (jK.out i h),rfl,rfl,rfl⟩),Nq Z Z Z,Φ⟩
end Go.Proofs.YtmeeljmapailnaaGreat.Pack
namespace Go.Proofs.YtmeeljmapailnaaGreat
open Tryz
section
def vJ (l:List Int):List Value:=l.map (Value.int .i64)
theorem adp (l:List Int) (i:Nat) (h:i<l.length):(vJ l)[i]? =some (.int .i64 l[i]):=by unfold vJ;simp [h]
theorem aqZ (l:List Int) (x:Int):vJ (l++ [x])=vJ l++ [.int .i64 x]:=by unfold vJ;simp
def OP (_:Nat) (u:Value):Prop:=∃ n:Int,u= .int .i64 n
theorem ayy:(prog.info? 3).map (fun i=>(i.zero,i.size,i.bytes))=some (some (.int .i64 0),1,8):=by kernel_rfl
def sW (l:List Int):Prop:=∀ x∈l, -9223372036854775808≤x∧x≤9223372036854775807
end
end Go.Proofs.YtmeeljmapailnaaGreat
namespace Go.Proofs.YtmeeljmapailnaaGreat.Pack
open Tryz
open Go.Proofs.YtmeeljmapailnaaGreat Go.Proofs.YtmeeljmapailnaaGreat.fu

theorem aBT (k x y:Nat) (u v:List UInt8) (hx:x<128 ^ (k+1)) (aI:y<128 ^ (k+1)) (h:kA k x++u=kA k y++v):x=y∧u=v:=by
 induction k generalizing x y with
 | zero =>
  simp only [kA,aWw,aUj] at h;have:=aTc UInt8.toNat h.1;simp only [aSX] at this;simp at hx aI;exact ⟨by omega,h.2⟩
 | succ k bx =>
  by_cases κ:x<128
  ·by_cases ab:y<128
   ·rw [B9 κ,B9 ab] at h;simp only [aWw,aUj] at h;have:=aTc UInt8.toNat h.1;simp only [aSX] at this;exact ⟨by omega,h.2⟩
   ·rw [B9 κ,B8 ab] at h;simp only [aTB,aUj] at h;have:=aTc UInt8.toNat h.1;simp only [aSX] at this;omega
  ·by_cases ab:y<128
   ·rw [B8 κ,B9 ab] at h;simp only [aTB,aUj] at h;have:=aTc UInt8.toNat h.1;simp only [aSX] at this;omega
   ·rw [B8 κ,B8 ab] at h;simp only [aTB,aUj] at h;have e:=aTc UInt8.toNat h.1;simp only [aSX] at e;obtain ⟨aw,a6⟩:=bx (x / 128) (y / 128) (I_ hx) (I_ aI) h.2;exact ⟨by omega,a6⟩
theorem R4 {x y:Nat} {u v:List UInt8} (hx:x<18446744073709551616) (aI:y<18446744073709551616) (h:d' x++u=d' y++v):x=y∧u=v:=aBT 9 x y u v (Ge hx) (Ge aI) h
theorem afF {l:List UInt8} {n:Nat} {rest:List UInt8} (h:J9 l n rest 0):l=d' n++rest∧n<18446744073709551616:=by
 rcases h with ⟨k,ar,jg,_,_,⟨κ,ab,aw,_⟩ | ⟨_,_,_,h⟩⟩ | ⟨_,_,_,_,h⟩ | ⟨_,_,_,_,h⟩
 ·subst ab;subst aw;exact ⟨by rw [κ,aT0],aT6 _ (by decide)⟩
 all_goals cases h
theorem aur {n k:Nat} {r:List UInt8} (hn:n<18446744073709551616) (ar:k<(d' n++r).length) (fV:∀ i (h:i<(d' n++r).length),i<k→128≤((d' n++r)[i]).toNat) (ay:((d' n++r)[k]).toNat<128):k+1=(d' n).length:=by
 have κ:=(B_ n).2;rcases aWQ (k+1) (d' n).length with h | h | h
 ·rw [aUh (by omega)] at ay;have:=aBS 9 n k (Ge hn) h (by show k<(d' n).length;omega);have e:(kA 9 n)[k]'(by show k<(d' n).length;omega)=(d' n)[k]'(by omega):=rfl;rw [e] at this;omega
 ·exact h
 ·have ab:=fV ((d' n).length - 1) (by simp;omega) (by omega);rw [aUh (by omega)] at ab;have:=akY 9 n (Ge hn) ((d' n).length - 1) (by show _<(d' n).length;omega) (by show _=(d' n).length;omega);have e:(kA 9 n)[(d' n).length - 1]'(by show _<(d' n).length;omega)=(d' n)[(d' n).length - 1]'(by omega):=rfl;rw [e] at this;omega
theorem Bs {n:Nat} {r:List UInt8} {m:Nat} {rest:List UInt8} {e:Int} (hn:n<18446744073709551616) (h:J9 (d' n++r) m rest e):m=n∧rest=r∧e=0:=by
 have hlen:=B_ n;have jy:∃ i,∃ aq:i<(d' n++r).length,i<10∧((d' n++r)[i]).toNat<128:=by
  refine ⟨(d' n).length - 1,by simp;omega,by omega, ?_⟩;rw [aUh (by omega)];exact akY 9 n (Ge hn) ((d' n).length - 1) (by show _<(d' n).length;omega) (by show _=(d' n).length;omega)
 rcases h with ⟨k,ar,jg,fV,ay,h⟩ | ⟨_,dK,_⟩ | ⟨_,dK,_⟩
 ·have p_:=aur hn jg fV (ay jg);have aC:(d' n++r).take (k+1)=d' n:=by rw [p_,aVi]
  have hv:val (d' n) % 18446744073709551616=n:=by rw [aEB n hn,aTh hn]
  rw [aC,hv] at h;rcases h with ⟨_,ab,aw,a6⟩ | ⟨κ,_⟩
  ·refine ⟨ab, ?_,a6⟩;rw [aw,p_,List.drop_left]
  ·exact absurd Z κ
 ·obtain ⟨i,aq,_,jy⟩:=jy;have:=dK i aq;omega
 ·obtain ⟨i,aq,awD,jy⟩:=jy;have:=dK i aq awD;omega
def wO (n:Nat):Int:=if n % 2=0 then ((n / 2:Nat):Int) else -((n / 2:Nat):Int) - 1
theorem auD (n:Nat):pa (wO n)=n:=by
 unfold pa wO;split<;>split<;>omega
theorem amB (x:Int):wO (pa x)=x:=by
 unfold pa wO;split<;>split<;>omega
theorem Qo (x:Int) (aG: -9223372036854775808≤x) (κ:x≤9223372036854775807):pa x<18446744073709551616:=by
 unfold pa;split<;>omega
theorem aEn (n:Nat) (h:n<18446744073709551616): -9223372036854775808≤wO n∧wO n≤9223372036854775807:=by
 unfold wO;split<;>omega
def items (l:List Int):List UInt8:=l.flatMap fun x=>d' (pa x)
def rb (l:List Int):List UInt8:=d' l.length++items l
theorem Mr (x:Int) (l:List Int):items (x::l)=d' (pa x)++items l:=rfl
theorem ayJ (a b:List Int):items (a++b)=items a++items b:=by unfold items;rw [aTj]
theorem ahS (a:List Int) (x:Int):items (a++ [x])=items a++d' (pa x):=by rw [ayJ,Mr];simp [items]
theorem XX (l:List Int):(items l).length≤10 * l.length:=by
 induction l with
 | nil=>simp [items]
 | cons x l bx=>rw [Mr];have:=(B_ (pa x)).1;simp;omega
theorem auz {x y:Int} (h:pa x=pa y):x=y:=by rw [← amB x,h,amB]
theorem Rr:∀ (a b:List Int) (s:List UInt8),sW a→sW b→a.length≤b.length→items a++s=items b→a=b.take a.length∧s=items (b.drop a.length)
 | [],b,s,_,_,_,h=>⟨by simp,by simpa [items] using h⟩
 | x::a, [],s,_,_,ay,_=>by simp at ay
 | x::a,y::b,s,ha,Φ,ay,h=>by
  rw [Mr,Mr,aSA] at h;have hx:=ha x (by simp);have aI:=Φ y (by simp);obtain ⟨κ,ab⟩:=R4 (Qo x hx.1 hx.2) (Qo y aI.1 aI.2) h;obtain ⟨aw,a6⟩:=Rr a b s (fun z bC=>ha z (by simp [bC])) (fun z bC=>Φ z (by simp [bC])) (by simpa using ay) ab;rw [auz κ];exact ⟨by simp;exact aw,by simpa using a6⟩
def AK (s:List UInt8) (out:List Int) (e:Int):Prop :=
 sW out∧(e=0→s=rb out∧out.length≤1000)∧(e≠0→out= []∧∀ l,sW l→l.length≤1000→s≠rb l)
theorem ave {l out:List Int} {e:Int} (ay:sW l) (κ:l.length≤1000) (h:AK (rb l) out e):e=0∧out=l:=by
 obtain ⟨b4,ab,aw⟩:=h;by_cases he:e=0
 ·obtain ⟨a6,bH⟩:=ab he;unfold rb at a6;obtain ⟨ch,dZ⟩:=R4 (by omega) (by omega) a6;obtain ⟨gh,_⟩:=Rr l out [] ay b4 (by omega) (by rw [aSz];exact dZ);rw [ch,aSv] at gh;exact ⟨he,gh.symm⟩
 ·exact absurd Z ((aw he).2 l ay κ)
theorem acT {s:List UInt8} {n:Nat} {r:List UInt8} {e:Int} (h:J9 s n r e) (he:e≠0∨1000<n) {k:Int} (ar:k≠0):AK s [] k:=by
 refine ⟨fun x hx=>(by cases hx),fun h=>absurd h ar,fun _=>⟨Z,fun l ay κ hs=> ?_⟩⟩;subst hs;obtain ⟨ab,_,aw⟩:=Bs (by omega) h;rcases he with he | he
 ·exact he aw
 ·omega
theorem ap3 {s:List UInt8} {n:Nat} {out:List Int} {r:List UInt8} {m:Nat} {r':List UInt8} {e:Int} (hs:s=d' n++(items out++r)) (hn:n<18446744073709551616) (b4:sW out) (bz:out.length<n) (h:J9 r m r' e) (he:e≠0):AK s [] e:=by
 refine ⟨fun x hx=>(by cases hx),fun h=>absurd h he,fun _=>⟨Z,fun l ay κ gI=> ?_⟩⟩;rw [gI] at hs;unfold rb at hs;obtain ⟨ab,aw⟩:=R4 (by omega) hn hs;obtain ⟨a6,bH⟩:=Rr out l r b4 ay (by omega) aw.symm;have ch:l.drop out.length=l[out.length]'(by omega)::l.drop (out.length+1):=aTL (by omega);rw [ch,Mr] at bH;subst bH;have hx:=ay (l[out.length]'(by omega)) (aS8 _);exact he (Bs (Qo _ hx.1 hx.2) h).2.2
theorem ap2 {s:List UInt8} {n:Nat} {out:List Int} {r:List UInt8} (hs:s=d' n++(items out++r)) (hn:n<18446744073709551616) (b4:sW out) (bz:out.length=n) (hr:r≠ []) {k:Int} (ar:k≠0):AK s [] k:=by
 refine ⟨fun x hx=>(by cases hx),fun h=>absurd h ar,fun _=>⟨Z,fun l ay κ gI=> ?_⟩⟩;rw [gI] at hs;unfold rb at hs;obtain ⟨ab,aw⟩:=R4 (by omega) hn hs;obtain ⟨a6,bH⟩:=Rr out l r b4 ay (by omega) aw.symm;rw [aWu (by omega)] at bH;exact hr bH
theorem avd {s:List UInt8} {n:Nat} {out:List Int} (hs:s=d' n++(items out++ [])) (b4:sW out) (bz:out.length=n) (hn:n≤1000):AK s out 0 :=
 ⟨b4,fun _=>⟨by rw [hs,aSz,← bz];rfl,by omega⟩,fun h=>absurd rfl h⟩
end Go.Proofs.YtmeeljmapailnaaGreat.Pack
namespace Go.Proofs.YtmeeljmapailnaaGreat
open Tryz
end Go.Proofs.YtmeeljmapailnaaGreat
namespace Go.Proofs.YtmeeljmapailnaaGreat.Pack
open Tryz
open Go.RowKit Go.Proofs.YtmeeljmapailnaaGreat

theorem alM:(prog.info? 267).map (·.size)=some 2:=by kernel_rfl
theorem azt:liesAt prog prog.depth 267 (2 / prog.cellsOf 267) 0 267 1=true:=by kernel_rfl
theorem infoByte:(prog.info? 5).map (fun i=>(i.zero,i.size,i.bytes))=some (some (.int .u8 0),1,1):=by kernel_rfl
theorem aq9 (b:Nat) (w:World) (aG:w.cell? ⟨b,0,none⟩=some (.pointer (some ⟨b,0,none⟩))):
  Calls prog 179 #[.pointer (some ⟨b,0,none⟩)] w fun e w'=>e= .returned (.tuple #[])∧w'=w:=by
 obtain ⟨j,az,_⟩:=aWo.1 alM;go_enter func179,ntmps179;go_wp2
 rw [Lib.run_neq_ptr_same w _ underlying265 az];go_wp2
 go_end0
 exact ⟨Z,Z⟩
theorem aq7 (b:Nat) (w:World) (aG:w.cell? ⟨b,0,none⟩=some (.pointer none)) (Rg:w.shape? b=some (267,2)) (awA:w.frozen? ⟨b,0,none⟩=false):
  Calls prog 179 #[.pointer (some ⟨b,0,none⟩)] w fun e w'=>e= .returned (.tuple #[])∧w'=w.setCell ⟨b,0,none⟩ (.pointer (some ⟨b,0,none⟩)):=by
 obtain ⟨j,az,awO⟩:=aWo.1 alM;go_enter func179,ntmps179;go_wp2
 rw [Lib.run_to_unsafe w ⟨b,0,none⟩ underlying265 underlying309 az (by rw [awO];decide) Rg (Nat.zero_lt_succ 1)];simp only [Result.andThen];rw [aWd];go_wp2
 rw [run_callFunc_extern func189 (by kernel_rfl) (by kernel_rfl) (by kernel_rfl) (e:=Extern.AbiNoEscape.same) (by kernel_rfl)];rw [Lib.run_noEscape];simp only [Result.andThen];rw [aWd];go_wp2
 rw [Lib.run_from_unsafe w ⟨b,0,none⟩ underlying309 underlying265 az Rg azt];simp only [Result.andThen];rw [aWd];go_wp2
 go_end0
 exact ⟨Z,Z⟩
theorem A8 (B b:Nat) (cX:List Value) (w:World) (h:Lib.IsBuilder 267 5 B b cX w):
  Calls prog 179 #[.pointer (some ⟨b,0,none⟩)] w fun e w'=>e= .returned (.tuple #[])∧(Lib.BuilderAt 267 5 B b (.pointer (some ⟨b,0,none⟩)) cX w'∧Below B w w'):=by
 rcases h with h | h
 ·refine (aq7 b w h.cell0 h.shape h.frozen0).mono ?_;rintro e w' ⟨rfl,rfl⟩;exact ⟨Z,h.used _,(aSr B w).setCell (p:=⟨b,0,none⟩) h.1 _⟩
 ·refine (aq9 b w h.cell0).mono ?_;rintro e w' ⟨rfl,rfl⟩;exact ⟨Z,h,aSr B _⟩
theorem ang (B b:Nat) (cX:List Value) (s:ByteArray) (w:World) (h:Lib.IsBuilder 267 5 B b cX w) (hlen:cX.length+s.size≤140737488355328) (afR:B≤w.heap.size):
  Calls prog 154 #[.pointer (some ⟨b,0,none⟩), .string s] w fun e w'=>e= .returned (.tuple #[.int .i64 s.size, .nilIface])∧(Lib.BuilderAt 267 5 B b (.pointer (some ⟨b,0,none⟩)) (cX++Lib.strCells s) w'∧Below B w w'):=by
 obtain ⟨i0,aq,ph,mO,m_⟩:=aUq infoByte;go_enter func154,ntmps154;go_wp2_with fail
 refine (A8 B b cX _ h).mono ?_;rintro e aT ⟨rfl,κ,cP⟩;obtain ⟨bf,v,Ih,fo,fl⟩:=κ;have bZ:aT.cell? ⟨b,0,none⟩=some (.pointer (some ⟨b,0,none⟩)):=by rw [aU7 Ih];rfl
 have c1:aT.cell? ⟨b,1,none⟩=some v:=by rw [aU7 Ih];rfl
 go_wp2_with (at_builtin;refine Lib.wpList_append_own_string _ rfl _ _ 263 9 rfl B 5 i0 underlying263 underlying9 aq ph mO m_ _ _ _ rfl fo s rfl ?c3 ?c4 ?c5 ?_)
 case c3=>unfold maxLen;omega
 case c4=>omega
 case c5=>have:=cP.size;omega
 intro v' cB xT j2 _;have bz:b<aT.heap.size:=by
  rcases aSZ b aT.heap.size with c6 | c6
  ·exact c6
  ·simp [aSU c6] at Ih
 have bw:cB.heap[b]? =some (.cells #[.pointer (some ⟨b,0,none⟩),v] 267 (0,0)):=by
  rw [j2.block b bz (fun e=>fl e.symm)];exact Ih
 have d0:cB.cell? ⟨b,0,none⟩=some (.pointer (some ⟨b,0,none⟩)):=by rw [aU7 bw];rfl
 have d1:cB.cell? ⟨b,1,none⟩=some v:=by rw [aU7 bw];rfl
 have f1:cB.frozen? ⟨b,1,none⟩=false:=Lib.frozen_of_heap bw 1;obtain ⟨acG,kf,cap,rfl⟩:∃ acG kf cap,v'= .slice acG kf cap:=by
  rcases xT.2 with ⟨hv,_⟩ | ⟨g,cap,cur,hv,_⟩
  ·exact ⟨_,_,_,hv⟩
  ·exact ⟨_,_,_,hv⟩
 go_wp2
 go_ret2
 refine ⟨Z, ?_, ?_⟩
 ·exact Lib.BuilderAt.put (T:= 267) (e:= 5) bf bw (bs':=cX++Lib.strCells s) (by simpa [Lib.strCells_length] using xT) (by decide)
 ·exact (cP.grown j2 (by have:=cP.size;omega) (fun k ar=>(fo.lt k ar).1)).setCell (p:=⟨b,1,none⟩) bf _
end Go.Proofs.YtmeeljmapailnaaGreat.Pack
namespace Go.Proofs.YtmeeljmapailnaaGreat
open Tryz
end Go.Proofs.YtmeeljmapailnaaGreat
namespace Go.Proofs.YtmeeljmapailnaaGreat.Pack
open Tryz
open Go.RowKit Go.Proofs.YtmeeljmapailnaaGreat Go.Proofs.YtmeeljmapailnaaGreat.fu

theorem Pt (op:BinOp) (a b:Int): -9223372036854775808≤bits op .i64 a b∧bits op .i64 a b≤9223372036854775807:=by
 have h:bits op .i64 a b=IntKind.i64.wrap (bits op .i64 a b):=by
  unfold bits;rw [aU8,aU8];omega
 rw [h,aU8];omega
theorem afa {x y:Int} (aG: -9223372036854775808≤x) (κ:x≤9223372036854775807) (g0: -9223372036854775808≤y) (g1:y≤9223372036854775807) (h:BitVec.ofInt 64 x=BitVec.ofInt 64 y):x=y:=by
 have e:=aTc BitVec.toInt h;rw [aVz,aVz] at e;simp only [Int.bmod] at e;omega
theorem aFD (x:Int) (aG: -9223372036854775808≤x) (κ:x≤9223372036854775807):bits .xor .i64 x 0=x:=by
 refine afa (Pt _ _ _).1 (Pt _ _ _).2 aG κ ?_;rw [aks];simp
theorem aFA (x:Int) (aG: -9223372036854775808≤x) (κ:x≤9223372036854775807):bits .xor .i64 x (-1)= -x - 1:=by
 refine afa (Pt _ _ _).1 (Pt _ _ _).2 (by omega) (by omega) ?_;rw [aks];have aZ:BitVec.ofInt 64 (-1)=BitVec.allOnes 64:=by decide
 rw [aZ,aWN];have bh:(-x - 1:Int)= -x+ -1:=by omega
 rw [bh,BitVec.ofInt_add,BitVec.ofInt_neg,aZ];rw [BitVec.not_eq_neg_add,BitVec.sub_eq_add_neg,show -1#64=BitVec.allOnes 64 from by decide]
theorem aEo (n:Nat) (hn:n<18446744073709551616) (w:World):
  Calls prog 121 #[.int .u64 (n:Int)] w fun e w'=>e= .returned (.int .i64 (wO n))∧w=w':=by
 have ab:n / 2<9223372036854775808:=by omega
 have jh:=aFD ((n / 2:Nat):Int) (by omega) (by omega);have F7:=aFA ((n / 2:Nat):Int) (by omega) (by omega);have hd:(n:Int) / 2=((n / 2:Nat):Int):=by omega
 have ha:bits .and .u64 (n:Int) 1=((n % 2:Nat):Int):=by
  have h:=(aVX .u64 64 (by decide) anf n 1 (by omega) (by decide)).1;rw [aWK] at h;exact h
 unfold wO;obtain ⟨m,lv⟩:∃ m,Hid (n / 2=m):=⟨_,aRY rfl⟩;rw [lv.out] at ab jh F7 hd ⊢;rcases aV3 n with h | h
 ·rw [h] at ha ⊢;rw [aR8 rfl];have ha:bits .and .u64 (n:Int) 1=0:=ha;clear h;go_enter func121,ntmps121;go_wp2_with fail
  go_ret;exact ⟨Z,Z⟩
 ·rw [h] at ha ⊢;rw [aR5 (by decide)];have ha:bits .and .u64 (n:Int) 1=1:=ha;clear h;go_enter func121,ntmps121;go_wp2_with fail
  go_ret;exact ⟨Z,Z⟩
theorem UK {T e:TypeId} {B b:Nat} {p:Value} {cX:List Value} {w w':World} (h:Lib.BuilderAt T e B b p cX w) (Φ:Below w.heap.size w w'):Lib.BuilderAt T e B b p cX w':=by
 have bz:=h.lt;obtain ⟨bf,v,Ih,fo,fl⟩:=h;exact ⟨bf,v,by rw [Φ.block b bz];exact Ih,aA8 fo Φ,fl⟩
theorem aBQ (A:Option Addr) (n c:Nat) (hn:1000<n) (w:World):
  Calls prog 123 #[.slice A n c] w fun e w'=>e= .returned (.tuple #[.string ⟨#[]⟩, .int .i64 2])∧w=w':=by
 have Q9:(1000:Int)<(n:Int):=by omega
 go_enter func123,ntmps123;go_wp2_with fail
 go_ret2
 exact ⟨Z,Z⟩
theorem akW (A:Option Addr) (n c:Nat) (l:List Int) (ay:l.length=n) (hn:n≤1000) (Qy:sW l) (w:World) (hr:Rd w 1 A n (vJ l)):
  Calls prog 123 #[.slice A n c] w fun e w'=>e= .returned (.tuple #[.string (strOf (rb l)), .int .i64 0])∧Below w.heap.size w w':=by
 have bf:Lib.IsBuilder 267 5 w.heap.size w.heap.size [] (w.alloc (.cells #[.pointer none, .slice none 0 0] 267)):=
  .inl ⟨aR7 _, .slice none 0 0,aUM w _,World.ownsRow_nil _ _ _ _,by simp [Value.ownBlock]⟩
 have cH:Below w.heap.size w (w.alloc (.cells #[.pointer none, .slice none 0 0] 267)):=(aSr _ _).alloc (aR7 _) _;have hw:IntKind.u64.wrap (n:Int)=(n:Int):=by rw [aTb];omega
 have qL:=aRY ay;clear ay;go_enter func123,ntmps123;go_wp2_with fail
 refine (R5 n (by omega) _ Z _).mono ?_;rintro e aT ⟨rfl,cP⟩;have afM:Lib.IsBuilder 267 5 w.heap.size w.heap.size [] aT:=by
  rcases bf with h | h
  ·exact .inl (UK h cP)
  ·exact .inr (UK h cP)
 have bw:=cH.trans (cP.mono cH.size);clear bf cP;have oB:=B_ n;go_wp2_with fail
 refine (ang w.heap.size w.heap.size [] (strOf (d' n)) aT afM (by rw [Jh];simp;omega) bw.size).mono ?_;rintro e cB ⟨rfl,Wj,dL⟩;have dz:=bw.trans dL;rw [aUi,Lib.strCells_eq,yx] at Wj;clear afM bw dL;go_wp2_with fail
 go_loopw [17] (fun i wr=>∃ k:Nat,k≤n∧i= .int .i64 (k:Int)∧Lib.BuilderAt 267 5 w.heap.size w.heap.size (.pointer (some ⟨w.heap.size,0,none⟩)) (Lib.byteCells (d' n++items (l.take k))) wr∧Below w.heap.size w wr) (fun i _=>n - (intOf i).toNat)
 case atStart=>exact ⟨0,aSM _,rfl,by simpa [items] using Wj,dz⟩
 case round =>
  clear Wj dz;obtain ⟨k,ar,rfl,bf,Φ⟩:=hrel;by_cases bz:k<n
  ·obtain ⟨b,o,rfl,hc⟩:=hr.2 (by omega);have jg:k<l.length:=by rw [qL.out];exact bz
   have hx:=aqY Φ (hc k _ (adp l k jg)) (aTS w _ (hc k _ (adp l k jg)));have Rl:=Qy l[k] (aS8 jg);have Ml:items (l.take (k+1))=items (l.take k)++d' (pa l[k]):=by rw [aSn jg,ahS]
   have rB:=aRY Ml;generalize l[k]=x at *
   have qY:=Qo x Rl.1 Rl.2;have aww:=auA x Rl.1 Rl.2;have aK8:=B_ (pa x);have Is:=XX (l.take k);have axY:(l.take k).length≤k:=aWG _ _;clear Ml;generalize pa x=y at *
   go_wp2_with fail
   refine (aww _).mono ?_;rintro e w' ⟨rfl,rfl⟩;go_wp2_with fail
   refine (R5 y qY _ Z _).mono ?_;rintro e ri ⟨rfl,oy⟩;have Bt:=UK bf oy;have Ic:=Φ.trans (oy.mono Φ.size);go_wp2_with fail
   refine (ang w.heap.size w.heap.size _ (strOf (d' y)) ri (.inr Bt) (by rw [Jh,Lib.byteCells_length];simp;omega) Ic.size).mono ?_;rintro e SS ⟨rfl,afO,FT⟩;have Ie:=Ic.trans FT;rw [Lib.strCells_eq,yx,← Lib.byteCells_append,aSA,← rB.out] at afO;clear bf Bt Φ oy Ic FT;go_wp2_with fail
   go_roundw
   case rel=>exact ⟨k+1,by omega,by go_num,afO,Ie⟩
   case measure=>simp [intOf];omega
  ·obtain rfl:k=n:=by omega
   rw [aSk (by rw [qL.out];exact aR7 _)] at bf;go_wp2_with fail
   refine (Builder_String_any w.heap.size w.heap.size (d' k++items l) wr (.inr bf) Φ.size).mono ?_;rintro e ZZ ⟨rfl,QP⟩;go_wp2_with fail
   go_ret2
   refine ⟨?_,Φ.trans QP⟩;unfold rb strOf;rw [qL.out];rfl
def aom (s:ByteArray) (w:World) (e:Ending) (w':World):Prop :=
 ∃ (out:List Int) (k:Int) (A:Option Addr) (n c:Nat),AK s.data.toList out k∧e= .returned (.tuple #[.slice A n c, .int .i64 k])∧Own w' w.heap.size 3 1 OP (.slice A n c) out.length (vJ out)∧Below w.heap.size w w'
theorem au1 (s:ByteArray) (hs:s.size≤9223372036854775807) (w:World):Calls prog 84 #[.string s] w (aom s w):=by
 obtain ⟨i0,aq,ph,mO,m_⟩:=aUq ayy;go_enter func84,ntmps84;go_wp2_with fail
 refine (afE s hs w).mono ?_;rintro e aT ⟨n,rest,k,br,rfl,cP⟩;have lu:=aRY br;by_cases ar:k=0
 ·subst ar;obtain ⟨Rh,DI⟩:=afF br;have fv:=aRY Rh;have ff:=aRY DI;have jz:rest.length≤s.size:=by
   have h:=aTc List.length Rh;simp at h;have e:s.data.size=s.size:=rfl;omega
  clear Rh br DI;by_cases hn:1000<n
  ·have Q9:(1000:Int)<(n:Int):=by omega
   go_wp2_with fail
   go_ret2
   exact ⟨[],2,none,0,0,acT lu.out (.inr hn) (by decide),Z,Own.nil _ _ _ _ _,cP⟩
  ·have Q9:¬ (1000:Int)<(n:Int):=by omega
   go_wp2_with fail
   go_loopw [0,5,6,24] (fun S E v i wr=>∃ (j:Nat) (out:List Int) (r:List UInt8),j≤n∧i= .int .u64 (j:Int)∧S= .string (strOf r)∧E= .int .i64 0∧out.length=j∧Own wr w.heap.size 3 1 OP v j (vJ out)∧Below w.heap.size w wr∧
     Hid (s.data.toList=d' n++(items out++r))∧Hid (sW out)∧r.length≤s.size) (fun _ _ _ i _=>n - (intOf i).toNat)
   case atStart=>exact ⟨0, [],rest,aSM _,rfl,rfl,rfl,rfl,Own.nil _ _ _ _ _,cP,fv,(fun x hx=>by cases hx),jz⟩
   case round =>
    clear cP fv jz;obtain ⟨j,out,r,az,rfl,rfl,rfl,ahh,fo,Φ,fv,mE,aLf⟩:=hrel;have aS:=aRY ahh;clear ahh;by_cases bz:j<n
    ·go_wp2_with fail
     refine (afE (strOf r) (by rw [Jh];omega) wr).mono ?_;rintro e cB ⟨m,r2,ez,Lk,rfl,bw⟩;rw [yx] at Lk;have dL:=Φ.trans (bw.mono Φ.size);by_cases iA:ez=0
     ·subst iA;obtain ⟨Xw,Q4⟩:=afF Lk;have ax1:=aEo m Q4;have Bz:=aEn m Q4;have agK:=auD m;have AT:Hid (s.data.toList=d' n++(items (out++ [wO m])++r2)):=by
       show _=_;rw [fv.out,Xw,ahS,agK,aSA]
      have aoC:Hid (sW (out++ [wO m])):=by
       intro x hx;rcases aSb.1 hx with h | h
       ·exact mE.out x h
       ·simp at h;subst h;exact Bz
      have axN:r2.length≤s.size:=by
       have h:=aTc List.length Xw;simp at h;omega
      have ahk:=fo.later bw;have lv:=aRY Q4;clear Xw Q4 agK Lk Bz fo fv mE;generalize wO m=x at *
      have dz:=dL.alloc dL.size (.cells #[.int .i64 x] 3);have ahl:=ahk.later ((aSr cB.heap.size cB).alloc (aR7 _) (.cells #[.int .i64 x] 3));have Me:Rd (cB.alloc (.cells #[.int .i64 x] 3)) 1 (some ⟨cB.heap.size,0,none⟩) 1 [.int .i64 x] :=
       ⟨rfl,fun _=>⟨cB.heap.size,0,rfl,fun q u I=>by
        match q,I with
        | 0,I=>simp at I;subst I;simp⟩⟩
      have abz:=aRY ahl;have aoK:=aRY Me;clear ahk ahl Me;go_wp2_with fail
      refine (ax1 _).mono ?_;rintro e w' ⟨rfl,rfl⟩;go_wp2_with (at_builtin;refine JK _ rfl _ _ 22 rfl w.heap.size 3 i0 (.int .i64 0) 1 8 underlying22 aq ph mO m_ rfl (by decide) OP ?g1 _ j (vJ out) rfl abz.out (some ⟨cB.heap.size,0,none⟩) 1 1 [.int .i64 x] rfl aoK.out ?g2 ?g3 ?g4 ?g5 ?g6 ?_)
      case g1=>intro q u I;match q,I with | 0,I=>exact ⟨0,(aRV I).symm⟩
      case g2=>intro u hu;simp at hu;subst hu;rfl
      case g3=>intro q u I;match q,I with | 0,I=>exact ⟨x,(aRV I).symm⟩
      case g4=>unfold maxLen;omega
      case g5=>omega
      case g6=>exact dz.size
      intro v' ri ahm j2 _ fA;have oy:=dz.grown j2 dz.size (fun q I=>(abz.out.row.lt q I).1);rw [← aqZ] at ahm;clear j2 fA dz dL bw;go_wp2_with fail
      go_roundw
      case rel=>exact ⟨j+1,out++ [x],r2,by omega,by go_num,rfl,rfl,by simp [aS.out],ahm,oy,AT,aoC,axN⟩
      case measure=>simp [intOf];omega
     ·have Xg:(ez != 0)=true:=by rw [aVv];exact iA
      have ie:=aRY iA;have jZ:=ap3 fv.out ff.out mE.out (by rw [aS.out];exact bz) Lk ie.out;have aN:=aRY jZ;clear iA Lk jZ;go_wp2_with fail
      go_ret2
      exact ⟨[],ez,none,0,0,aN.out,Z,Own.nil _ _ _ _ _,dL⟩
    ·obtain rfl:j=n:=by omega
     by_cases hr:r= []
     ·subst hr;have κ:(strOf []).toList= []:=by rw [aTR,yx]
      have ab:(!(strOf []).toList.isEmpty)=false:=by rw [aTR,yx];rfl
      obtain ⟨A,c,rfl,_⟩:=fo.shape;have jL:=aRY (avd fv.out mE.out aS.out (by omega));clear fv;go_wp2_with fail
      go_ret2
      exact ⟨out,0,A,j,c,jL.out,Z,by rw [aS.out];exact fo,Φ⟩
     ·have κ:¬ (strOf r).toList= []:=by rw [aTR,yx];exact hr
      have ab:(!(strOf r).toList.isEmpty)=true:=by rw [aTR,yx];simpa using hr
      have jL:=aRY (ap2 (k:=4) fv.out ff.out mE.out aS.out hr (by decide));clear fv hr;go_wp2_with fail
      go_ret2
      exact ⟨[],4,none,0,0,jL.out,Z,Own.nil _ _ _ _ _,Φ⟩
 ·have Xg:(k != 0)=true:=by rw [aVv];exact ar
  have awR:(k == 0)=false:=by rw [aUb];exact ar
  have ie:=aRY ar;clear ar br;go_wp2_with fail
  go_ret2
  exact ⟨[],k,none,0,0,acT lu.out (.inl ie.out) ie.out,Z,Own.nil _ _ _ _ _,cP⟩
end Go.Proofs.YtmeeljmapailnaaGreat.Pack
namespace Go.Proofs.YtmeeljmapailnaaGreat
open Tryz
section
open Go.RowKit Go.Proofs.YtmeeljmapailnaaGreat.fu
def qq:τ (BitVec 64):=τ.flat 1 (λ b=> [.int .u64 (U b)]) (λ _=>True) (λ _ u=>∃ n:Int,u= .int .u64 n) (λ _=>rfl) (by intro a u hu;simp at hu;subst hu;rfl) (by
 intro a j u hu;cases j with
 | zero=>simp at hu;exact ⟨_,hu.symm⟩
 | succ j=>simp at hu)
theorem ahP:(prog.info? 130).map (λ i=>(i.zero,i.size,i.bytes))=some (some (.int .u64 0),1,8):=by kernel_rfl
theorem ale:∀ (j:Nat) u,(Value.int .u64 0).cells[j]? =some u→qq.raw j u:=by
 intro j u hu;have hu:(#[(.int .u64 0:Value)]:Array Value)[j]? =some u:=hu
 match j,hu with
 | 0,hu=>exact ⟨0,(aRV hu).symm⟩
 | j+1,hu=>simp at hu
theorem aC4 {by_:Nat} {w:World} {A:Option Addr} {c:Nat} {l:List (BitVec 64)} (h:qq.aJ by_ w A c l):Mark.Fi w A l.length l:=by
 refine ⟨Z,h.eE, ?_⟩;cases ay:l with
 | nil=>exact .inl rfl
 | cons x r =>
  rw [← ay];obtain ⟨b,o,e,hc⟩:=h.at_ (by rw [ay];simp);refine .inr ⟨b,o,e,λ i aq=> ?_⟩;obtain ⟨es,⟨rfl,_⟩,az⟩:=hc i _ (aRX aq);have:=az 0 _ rfl;simpa [qq,τ.flat] using this
theorem afj {w:World}:∀ {ess:List (List Value)} {l:List Int},de (λ es a=>bQ.has w es a) ess l→ess.flatten=l.map (Value.int .i64)
 | [], [],_=>rfl
 | es::ess,a::l,h=>by
  obtain ⟨κ,ab⟩:=h;rw [aSP,gw κ,afj ab];rfl
 | [],_::_,h=>h.elim
 | _::_, [],h=>h.elim
def I7 (l:List Int):List UInt8:=if l.length≤1000 then Pack.rb l else []
def q3 (l:List Int):BitVec 64:=Tree.DV (I7 l)
theorem aBb (l:List Int):(I7 l).length≤20000:=by
 unfold I7;split
 ·rename_i h
  unfold Pack.rb;rw [aR1];have:=(Pack.B_ l.length).1;have:=Pack.XX l;omega
 ·simp
theorem aBc (l:List Int) (A:Option Addr) (c:Nat) (w:World) (h:bQ.aJ 8 w A c l):Calls prog 123 #[.slice A l.length c] w λ e w'=>(∃ k,e= .returned (.tuple #[.string (Pack.strOf (I7 l)), .int .i64 k]))∧Ext w w':=by
 unfold I7;by_cases hn:l.length≤1000
 ·rw [aR8 hn];have hr:Rd w 1 A l.length (vJ l):=by
   obtain ⟨s1,s2,Nv,als,ess,Nw,Gz⟩:=h;rw [afj Nw] at Gz;exact Gz
  exact (Pack.akW A l.length c l Z hn (λ x hx=>bM.1 (Jd h x hx)) w hr).mono λ e w' h=>⟨⟨0,h.1⟩,h.2⟩
 ·rw [aR5 hn];exact (Pack.aBQ A l.length c (by omega) w).mono λ e w' h=>⟨⟨2,h.1⟩,by rw [← h.2];exact Ext.bN w⟩
theorem azl (s:List UInt8) (hs:s.length≤20000) (w:World):Calls prog 124 #[.string (Pack.strOf s)] w λ e w'=>e= .returned (.int .u64 (U (Tree.DV s)))∧Ext w w':=by
 refine (Tree.IG (Pack.strOf s) (by rw [Pack.Jh];omega) w).mono ?_;rintro e w' ⟨rfl,q,rfl⟩;exact ⟨by rw [Pack.yx],below_drewN (aSr _ w) q⟩
theorem aAP (l:List (BitVec 64)) (A:Option Addr) (c:Nat) (w:World) (h:qq.aJ 8 w A c l):Calls prog 87 #[.slice A l.length c] w λ e w'=>e= .returned (.int .u64 (U (Mark.Gs Mark.mix l)))∧Ext w w':=Mark.YJ A l.length c l w (aC4 h)
def RO (W:ae):BitVec 64:=q3 ([1,W.field.wide,W.field.high,W.next,W.now]++W.field.aW)
def RN (W:ae) (i:Nat):BitVec 64:=q3 [2,(i:Int),(W.aV.getD i default).x,(W.aV.getD i default).y,W.ba.getD i 0]
def B3 (W:ae):Nat→List (BitVec 64)
 | 0=> []
 | k+1=>B3 W k++(if W.bk.getD k 0=0 then [] else [q3 [3,(k:Int),W.bk.getD k 0]])
def Na (t:aY):BitVec 64:=q3 [4,t.id,t.owner,t.kind,t.spot.x,t.spot.y,t.cD,t.load]
def B2 (W:ae) (k:Nat):List (BitVec 64):= [RO W]++(List.range k).map (RN W)
def marks (W:ae):List (BitVec 64):=B2 W W.aV.length++B3 W W.bk.length++W.ak.map Na
def sr (W:ae):BitVec 64:=if W.bm=0 then Mark.Gs Mark.mix (marks W) else 0#64
theorem az3 (W:ae) (k:Nat):B2 W (k+1)=B2 W k++ [RN W k]:=by
 unfold B2;rw [aTw,aSm,← aSA];rfl
theorem YB (W:ae):∀ k,(B3 W k).length≤k
 | 0=>aR7 0
 | k+1=>by
  have:=YB W k;rw [B3,aR1];split<;>simp<;>omega
theorem Yw (W:ae) (k:Nat):(B2 W k).length=k+1:=by unfold B2;simp
theorem aAd {l:List aY} {k:Nat} {t:aY} (ar:k<l.length) (aC:l.getD k default=t):(l.take (k+1)).map Na=(l.take k).map Na++ [Na t]:=by
 rw [← aC,aRU,aRX ar,← aWh ar,aSm];rfl
end
section
theorem XW:(prog.info? 48).map (λ i=>(i.zero,i.size,i.bytes))=some (some (.slice none 0 0),1,24):=by kernel_rfl
def qP (w:World) (T:List ho) (L:List (List aL)):Prop:=T.length=L.length∧∀ (i:Nat) (v:ho),T[i]? =some v→∃ l:List aL,L[i]? =some l∧v.n=l.length∧aL.rep.aJ 48 w v.a v.c l
section
variable {w w':World} {T kr:List ho} {L y4:List (List aL)} {W:ae} {l:List aL} {k:Nat} {e:Int} {V:ae} {ms:List (BitVec 64)}
theorem qP.keep (h:qP w T L) (hx:Ext w w'):qP w' T L:=⟨h.1,λ i v aq=>by
 obtain ⟨l,κ,ab,aw⟩:=h.2 i v aq;exact ⟨l,κ,ab,aw.keep hx⟩⟩
theorem qP.nil:qP w [] []:=⟨rfl,λ i v h=>by simp at h⟩
theorem qP.at_ (h:qP w T L) (ar:k<T.length):∃ A c l,T[k]? =some ⟨A,l.length,c⟩∧L[k]? =some l∧aL.rep.aJ 48 w A c l:=by
 obtain ⟨v,hv⟩:∃ v,T[k]? =some v:=⟨_,aRX ar⟩;obtain ⟨l,κ,ab,aw⟩:=h.2 k v hv;obtain ⟨a,n,c⟩:=v;dsimp only at ab aw;subst ab;exact ⟨a,c,l,hv,κ,aw⟩
noncomputable def ki (W:ae) (L:List (List aL)):ae:=L.foldl iC W
noncomputable def yv (W:ae):List (List aL)→List (BitVec 64)
 | []=> [sr W]
 | l::r=>sr W::yv (iC W l) r
noncomputable def kh (W:ae):List (List aL)→Int
 | []=>0
 | l::r=>if fa W l≠0 then fa W l else kh (iC W l) r
def Ff (W:ae) (L:List (List aL)) (e:Int) (V:ae) (ms:List (BitVec 64)):Prop:=(e=0∧L.length≤200∧W.bm=0∧kh W L=0∧V=ki W L∧ms=yv W L)∨(e≠0∧(200<L.length∨W.bm≠0∨kh W L≠0)∧V=ae.zero∧ms= [])
theorem Zg:ki W (L++y4)=ki (ki W L) y4:=aTt
theorem aln:∀ (L:List (List aL)) (W:ae),(yv W L).length=L.length+1
 | [],_=>rfl
 | l::r,W=>by rw [yv,aR0,aR0,aln r]
theorem alo:∀ (L:List (List aL)) (W:ae),yv W (L++ [l])=yv W L++ [sr (iC (ki W L) l)]
 | [],_=>rfl
 | l::r,W=>by rw [aTB,yv,yv,alo r];rfl
theorem Ns:∀ (L:List (List aL)) (W:ae),kh W (L++y4)=if kh W L≠0 then kh W L else kh (ki W L) y4
 | [],W=>by rw [aUi];unfold kh;rw [aR5 (by simp)];rfl
 | l::r,W=>by
  rw [aTB,kh,kh];by_cases h:fa W l≠0
  ·rw [aR8 h,aR8 h,aR8 h]
  ·rw [aR5 h,aR5 h,Ns r];rfl
theorem Sg:kh W [l]=fa W l:=by
 unfold kh;split
 ·rfl
 ·rename_i h;unfold kh;have:fa W l=0:=by simpa using h
  rw [this]
theorem z8 {α:Type} {L:List α} {l:α} (h:L[k]? =some l):L.take (k+1)=L.take k++ [l]:=by
 have ar:=(aRW.1 h).1;have e:=(aRW.1 h).2;rw [← e,aWh]
theorem Si (aG:kh W (L.take k)=0) (ay:L[k]? =some l):kh W (L.take (k+1))=fa (ki W (L.take k)) l:=by
 rw [z8 ay,Ns,aR5 (by simpa using aG),Sg]
theorem Sh (aG:kh W (L.take k)≠0):kh W L≠0:=by
 have:L=L.take k++L.drop k:=(aT0 k L).symm;rw [this,Ns,aR8 aG];exact aG
theorem Ff.ok (h:Ff W L e V ms) (aG:e=0):L.length≤200∧W.bm=0∧kh W L=0∧V=ki W L∧ms=yv W L:=by
 rcases h with ⟨_,h⟩ | ⟨κ,_⟩
 ·exact h
 ·exact absurd aG κ
theorem Ff.zero (h:Ff W L e V ms) (κ:L.length≤200) (ab:W.bm=0) (aw:kh W L=0):e=0∧V=ki W L∧ms=yv W L:=by
 rcases h with ⟨aG,_,_,_,a6,bH⟩ | ⟨_,a6,_⟩
 ·exact ⟨aG,a6,bH⟩
 ·omega
end
end
end Go.Proofs.YtmeeljmapailnaaGreat
