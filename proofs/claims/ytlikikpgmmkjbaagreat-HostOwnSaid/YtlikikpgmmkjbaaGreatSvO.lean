import Derived.Test.YtlikikpgmmkjbaaGreatPackM
set_option linter.unusedVariables false
set_option linter.unusedSimpArgs false
set_option maxRecDepth 100000
set_option maxHeartbeats 4000000
open Go.RowKit
namespace Go.Proofs.YtlikikpgmmkjbaaGreat
open Tryz
abbrev aV7:=@List.cons.injEq
abbrev aWs:=@Nat.mod_two_eq_zero_or_one
abbrev aXv:=@Nat.two_pow_pos
abbrev aXx:=@Go.Lib.extract_data
abbrev aXy:=@Go.Lib.cell_of_heap
abbrev aYk:=@Go.bits_nat
abbrev aYy:=@Go.Oper.upon_value
abbrev aYC:=@List.take_append_getElem
abbrev aYK:=@Option.map_eq_some_iff
abbrev aYR:=@List.drop_eq_nil_of_le
abbrev aYT:=@List.singleton_append
abbrev aY3:=@Go.run_convert_bytes_back
abbrev aZc:=@Nat.and_one_is_mod
abbrev aZf:=@BitVec.xor_allOnes
end Go.Proofs.YtlikikpgmmkjbaaGreat
namespace Go.Proofs.YtlikikpgmmkjbaaGreat.Pack
open Tryz
open Go.RowKit Go.Proofs.YtlikikpgmmkjbaaGreat.fj

theorem azH:(prog.info? 5).map (fun i=>(i.zero,i.size,i.bytes))=some (some (.int .u8 0),1,1):=by kernel_rfl
def cells (l:List UInt8):List Value:=l.map fun b=>Value.int .u8 (b.toNat:Int)
theorem adT (l:List UInt8) (b:UInt8):cells (l++ [b])=cells l++ [Value.int .u8 (b.toNat:Int)]:=by unfold cells;simp
theorem arc (l:List UInt8) (i:Nat) (h:i<l.length):(cells l)[i]? =some (.int .u8 (l[i].toNat:Int)):=by unfold cells;simp [h]
def strOf (l:List UInt8):ByteArray:=⟨l.toArray⟩
theorem Ju (l:List UInt8):(strOf l).size=l.length:=by
 show l.toArray.size=_;simp
theorem yj (l:List UInt8):(strOf l).data.toList=l:=rfl

theorem aB6 (n:Nat):bits BinOp.or IntKind.u8 ((n:Int) % 256) 128=(((UInt8.ofNat (n % 128+128)).toNat:Nat):Int):=by
 have e:((n:Int) % 256)=((n % 256:Nat):Int):=by omega
 have γ:n % 256<256:=aWt _ (by decide);have key:∀ x:Fin 256,(x.val ||| 128)=x.val % 128+128:=by decide +kernel
 have aa:=key ⟨n % 256,γ⟩;simp only at aa;rw [e,show (128:Int)=((128:Nat):Int) from rfl,(aYk .u8 8 (by decide) wraps_u8 _ _ (by omega) (by decide)).2,aa];simp only [aVl];omega

theorem arC (w:World) (base g n cap:Nat) (l:List UInt8) (hn:n=l.length) (h:w.ownsRow base 5 1 (.slice (some ⟨g,0,none⟩) n cap) n (cells l)):
  (convert 76 9 (.slice (some ⟨g,0,none⟩) n cap)).run prog w= .ok (.string (strOf l)) w:=by
 subst hn;refine aY3 (P:=prog) w 76 9 5 ⟨g,0,none⟩ cap l underlying76 underlying5 underlying9 ?_;intro j aA;rw [ac7,h.cellAt j (by omega),arc l j aA]

theorem Su (n:Nat) (hn:n<18446744073709551616) (x:Int) (hx:x=n) (w:World):
  Calls prog 130 #[.int .u64 x] w fun e w'=>e= .returned (.string (strOf (eh n)))∧Below w.heap.size w w':=by
 subst hx;obtain ⟨i0,aq,o5,qU,qV⟩:=aWR azH;have fk:=aUl (F_ hn);clear hn;go_enter func130,ntmps130;go_wp2_with fail
 go_loopw [0,3] (fun x v wr=>∃ (k m:Nat) (acc:List UInt8),k≤9∧x= .int .u64 (m:Int)∧Hid (m<128 ^ (k+1))∧Hid (acc++jW k m=eh n)∧wr.ownsRow w.heap.size 5 1 v acc.length (cells acc)∧Below w.heap.size w wr) (fun x _ _=>(intOf x).toNat)
 case atStart=>exact ⟨9,n, [],aUu _,rfl,fk,rfl,World.ownsRow_nil _ _ _ _,aUN _ _⟩
 case round =>
  obtain ⟨k,m,acc,aw,rfl,k7,ju,fq,Φ⟩:=hrel;by_cases bE:128≤m
  ·obtain ⟨k',rfl⟩:∃ k',k=k'+1:=by
    cases k with
    | zero=>have:=k7.out;simp at this;omega
    | succ k'=>exact ⟨k',rfl⟩
   obtain ⟨b,aJ⟩:∃ b,Hid (b=UInt8.ofNat (m % 128+128)):=⟨_,aUl rfl⟩;have Ry:=aB6 m;rw [← aJ.out] at Ry;have xa:Hid ((acc++ [b])++jW k' (m / 128)=eh n):=by
    show _=_;rw [← ju.out,BF (by omega),← aJ.out,aUX];rfl
   have Hj:Hid (m / 128<128 ^ (k'+1)):=Jj k7.out;have awJ:acc.length≤9:=by
    have γ:=(BH n).1;have aa:=aVA List.length xa.out;have av:=(Zi k' (m / 128)).2;simp at aa;omega
   have LZ:=Φ.alloc Φ.size (.cells #[.int .u8 (b.toNat:Int)] 5);go_wp2_with (at_builtin;refine wpList_append_own _ rfl _ _ 76 rfl w.heap.size 5 i0 (.int .u8 0) 1 1 underlying76 aq o5 qU qV rfl (by decide) _ acc.length (cells acc) rfl (fq.alloc _) ⟨wr.heap.size,0,none⟩ 1 1 [.int .u8 (b.toNat:Int)] rfl rfl ?d1 ?d2 ?d3 ?d4 ?d5 ?_)
   case d1 =>
    intro j u aA
    match j,aA with
    | 0,aA=>simp at aA;subst aA;simp [Addr.add]
   case d2=>intro u hu;simp at hu;subst hu;rfl
   case d3=>unfold maxLen;omega
   case d4=>omega
   case d5=>have:=Φ.size;simp;omega
   intro v' aP xQ jJ _;have cV:=LZ.grown jJ (by have:=Φ.size;simp;omega) (fun q I=>(fq.lt q I).1);rw [← adT,show acc.length+1=(acc++ [b]).length by simp] at xQ;clear jJ fq LZ Φ;go_wp2_with fail
   go_roundw
   case rel=>exact ⟨k',m / 128,acc++ [b],by omega,by go_num,Hj,xa,xQ,cV⟩
   case measure=>simp [intOf];omega
  ·have ha:acc++ [UInt8.ofNat m]=eh n:=by rw [← ju.out,BG (by omega)]
   have ahB:(UInt8.ofNat m).toNat=m:=by rw [aVl];omega
   have awJ:acc.length≤9:=by
    have γ:=(BH n).1;have aa:=aVA List.length ha;simp at aa;omega
   have aoq:=aUl ahB;have xa:=aUl ha;have LZ:=Φ.alloc Φ.size (.cells #[.int .u8 (m:Int)] 5);clear ha ahB;go_wp2_with (at_builtin;refine wpList_append_own _ rfl _ _ 76 rfl w.heap.size 5 i0 (.int .u8 0) 1 1 underlying76 aq o5 qU qV rfl (by decide) _ acc.length (cells acc) rfl (fq.alloc _) ⟨wr.heap.size,0,none⟩ 1 1 [.int .u8 (m:Int)] rfl rfl ?c1 ?c2 ?c3 ?c4 ?c5 ?_)
   case c1 =>
    intro j u aA
    match j,aA with
    | 0,aA=>simp at aA;subst aA;simp [Addr.add]
   case c2=>intro u hu;simp at hu;subst hu;rfl
   case c3=>unfold maxLen;omega
   case c4=>omega
   case c5=>have:=Φ.size;simp;omega
   intro v' aP xQ jJ _;have cV:=LZ.grown jJ (by have:=Φ.size;simp;omega) (fun q I=>(fq.lt q I).1);have ag0:cells acc++ [Value.int .u8 (m:Int)]=cells (eh n):=by rw [← xa.out,adT,aoq.out]
   have hlen:acc.length+1=(eh n).length:=by rw [← xa.out];simp
   rw [ag0,hlen] at xQ;have hex:∃ g cap,v'= .slice (some ⟨g,0,none⟩) (eh n).length cap:=by
    rcases xQ.2 with ⟨_,h⟩ | ⟨g,cap,cur,h,_⟩
    ·omega
    ·exact ⟨g,cap,h⟩
   obtain ⟨g,cap,hv⟩:=hex;rw [hv] at xQ ⊢;have hcv:=arC aP _ g _ cap (eh n) rfl xQ;clear hv jJ fq LZ Φ ag0 hlen xQ;go_wp2_with fail
   go_ret;exact ⟨Z,cV⟩

theorem NM {a b:Int} (h:a=b):Ending.returned (.int .u64 a)= .returned (.int .u64 b):=by rw [h]
theorem aGX (n:Nat) (h:n<18446744073709551616):n ^^^ 18446744073709551615=18446744073709551615 - n:=by
 have e:(BitVec.ofNat 64 n ^^^ BitVec.allOnes 64).toNat=(~~~(BitVec.ofNat 64 n)).toNat:=by rw [aZf]
 rw [BitVec.toNat_xor,BitVec.toNat_not,aVY,BitVec.toNat_allOnes,aVt h] at e;exact e
theorem ave (x:Int) (aI: -9223372036854775808≤x) (γ:x≤9223372036854775807) (w:World):
  Calls prog 131 #[.int .i64 x] w fun e w'=>e= .returned (.int .u64 (o1 x))∧w=w':=by
 by_cases hx:0≤x
 ·go_enter func131,ntmps131;go_wp2
  go_ret;refine ⟨NM ?_,Z⟩;have e:x / 9223372036854775808=((0:Nat):Int):=by omega
  obtain ⟨m,rfl⟩:=aWb hx;rw [e,show ((m:Int) * 2)=((m * 2:Nat):Int) by omega,u64_xor_nat _ _ (by omega) (by omega),Nat.xor_zero];unfold o1;rw [aUz hx];omega
 ·go_enter func131,ntmps131;go_wp2
  go_ret;refine ⟨NM ?_,Z⟩;have azi:¬ 0≤x:=by omega
  have e:IntKind.u64.wrap (x / 9223372036854775808)=((18446744073709551615:Nat):Int):=by rw [aVy];omega
  have bl:IntKind.u64.wrap (IntKind.u64.wrap x * 2)=(((2 * x+18446744073709551616).toNat:Nat):Int):=by rw [aVy,aVy];omega
  rw [e,bl,u64_xor_nat _ _ (by omega) (by omega)];unfold o1;rw [aUr azi];have cZ:(2 * x+18446744073709551616).toNat ^^^ 18446744073709551615=18446744073709551615 - (2 * x+18446744073709551616).toNat:=by
   exact aGX _ (by omega)
  rw [cZ];omega

theorem ang (n:Int) (azo:0≤n) (h₁:n<2 ^ 64):IntKind.u64.wrap n=n:=by rw [aVy];omega
theorem apV (b:UInt8):bits BinOp.and IntKind.u8 (b.toNat:Int) 127=((b.toNat % 128:Nat):Int):=by
 have h:=bits_mask .u8 8 (by decide) wraps_u8 7 (by decide) (b.toNat:Int) (aWh _) (by have:=b.toNat_lt;omega);simpa using h
theorem ZX (l:List UInt8) (b:UInt8) (k:Nat) (aw:k=l.length) (axG:k≤9):
  bits BinOp.or IntKind.u64 ((val l % 18446744073709551616:Nat):Int) (((b.toNat % 128:Nat):Int) * 2 ^ (7 * k) % 18446744073709551616)=((val (l++ [b]) % 18446744073709551616:Nat):Int):=by
 subst aw;have hp:(128:Nat) ^ l.length=2 ^ (7 * l.length):=by rw [show (128:Nat)=2 ^ 7 from rfl,← Nat.pow_mul]
 have hv:=aFM l;have hle:(128:Nat) ^ l.length≤128 ^ 9:=Nat.pow_le_pow_right (by decide) axG;have DD:val l<18446744073709551616:=aVN hv (aUP hle (by decide));rw [aFP,aVt DD,hp];have Φ:b.toNat % 128<128:=aWt _ (by decide);generalize b.toNat % 128=d at *
 obtain ⟨r,hr⟩:∃ r,64=7 * l.length+r:=⟨64 - 7 * l.length,by omega⟩;have VG:18446744073709551616=2 ^ (7 * l.length) * 2 ^ r:=by rw [← Nat.pow_add,← hr]
 have a8:((d:Int) * 2 ^ (7 * l.length) % 18446744073709551616)=((2 ^ (7 * l.length) * (d % 2 ^ r):Nat):Int):=by
  rw [← Nat.mul_mod_mul_left,← VG,Int.natCast_emod,Int.natCast_mul,Int.natCast_pow,Int.mul_comm];rfl
 rw [hp] at hv;have aa:2 ^ (7 * l.length) * (d % 2 ^ r)<18446744073709551616:=by
  rw [VG];exact Nat.mul_lt_mul_of_pos_left (aWt _ (aXv _)) (aXv _)
 have bl:(val l+2 ^ (7 * l.length) * d) % 18446744073709551616=2 ^ (7 * l.length) * (d % 2 ^ r)+val l:=by
  rw [VG,Nat.mod_mul,Nat.add_mul_mod_self_left,aVt hv,Nat.add_mul_div_left _ _ (aXv _),aYe hv,aVm,aXq]
 rw [a8,bl,(aYk .u64 64 (by decide) ang _ _ DD aa).2];rw [Nat.two_pow_add_eq_or_of_lt hv,Nat.or_comm]

theorem NL {a a':Int} {b rH:ByteArray} {c b_:Int} (γ:a=a') (aa:b=rH) (av:c=b_):Ending.returned (.tuple #[.int .u64 a, .string b, .int .i64 c])= .returned (.tuple #[.int .u64 a', .string rH, .int .i64 b_]):=by rw [γ,aa,av]
def aom (l:List UInt8) (w:World) (e:Ending) (w':World):Prop :=
 ∃ (n:Nat) (rest:List UInt8) (k:Int),Kp l n rest k∧e= .returned (.tuple #[.int .u64 (n:Int), .string (strOf rest), .int .i64 k])∧Below w.heap.size w w'

theorem age (s:ByteArray) (hs:s.size≤9223372036854775807) (w:World):Calls prog 119 #[.string s] w (aom s.data.toList w):=by
 go_enter func119,ntmps119;go_wp2_with fail
 go_loopw [5,6] (fun v i wr=>∃ k:Nat,k≤s.size∧k≤10∧i= .int .i64 k∧v= .int .u64 ((val (s.data.toList.take k) % 18446744073709551616:Nat):Int)∧Hid (∀ i (h:i<s.data.toList.length),i<k→128≤(s.data.toList[i]).toNat)∧Below w.heap.size w wr) (fun _ i _=>s.size - (intOf i).toNat)
 case atStart=>exact ⟨0,aU6 _,aU6 _,rfl,rfl,fun i h aa=>absurd aa (by omega),aUN _ _⟩
 case round =>
  obtain ⟨k,aw,aLR,rfl,rfl,mK,Φ⟩:=hrel;by_cases bE:k<s.size
  ·by_cases QW:k<10
   ·have jf:k<s.data.toList.length:=by simpa using bE
    have XZ:s[k]=s.data.toList[k]:=rfl;have hh:=ZX (s.data.toList.take k) s[k] k (by simp;omega) (by omega);rw [XZ,← aUM jf,← XZ] at hh;have abW:bits BinOp.or IntKind.u64 ((val (s.data.toList.take k) % 18446744073709551616:Nat):Int) (IntKind.u64.wrap (IntKind.u64.wrap (bits BinOp.and IntKind.u8 (s[k].toNat:Int) 127) * 2 ^ (7 * k)))=((val (s.data.toList.take (k+1)) % 18446744073709551616:Nat):Int):=by
     rw [← hh,apV,aVy,aVy];congr 3;omega
    obtain ⟨M',Hi⟩:∃ M',Hid (val (s.data.toList.take (k+1)) % 18446744073709551616=M'):=⟨_,aUl rfl⟩;have LH:M'<18446744073709551616:=by rw [← Hi.out];exact aWt _ (by decide)
    rw [Hi.out] at abW;generalize val (s.data.toList.take k) % 18446744073709551616=M at abW ⊢;have aJ:=aUl LH;clear XZ hh LH;by_cases WG:128≤s[k].toNat
    ·go_wp2_with fail
     go_roundw
     case rel =>
      refine ⟨k+1,by omega,by omega,by go_num,by rw [Hi.out], ?_,Φ⟩;intro i h aq;by_cases l1:i=k
      ·subst l1;exact WG
      ·exact mK.out i h (by omega)
     case measure=>simp [intOf];omega
    ·have p0:k+1≤s.size:=bE;have gv:(0:Int)≤(k:Int)+1:=by omega
     have XD:(k:Int)+1≤(s.size:Int):=by omega
     have axF:IntKind.i64.wrap ((k:Int)+1)=(k:Int)+1:=IntWalk.i64_in _ (by omega);have aLS:((k:Int)+1).toNat=k+1:=by omega
     by_cases hp:eh M'=s.data.toList.take (k+1)
     ·have I:((strOf (eh M')).toList == (s.extract 0 (k+1)).toList)=true:=adA (Va (by rw [yj,aXx,aWT,hp];rfl));have AA:=aUl hp;clear hp;go_wp2_with fail
      go_region_held3 (fun l8=>Below w.heap.size w l8) (first | exact Φ.drew | exact Φ.drew.trans (by assumption) | assumption) ((go_at_call 130;refine (Su M' aJ.out _ rfl _).mono ?_;rintro e w' ⟨rfl,bz⟩;have dV:=Φ.drew.trans (bz.mono Φ.size)))
      clear Φ bz I;go_wp2_with fail
      go_quiet (fail)
      go_wp2_with fail
      go_ret3
      refine ⟨M',s.data.toList.drop (k+1),0, .inl ⟨k,QW,jf,mK.out,fun _=>by have:=WG;show s[k].toNat<128;omega, .inl ⟨by rw [Hi.out];exact AA.out,Hi.out.symm,rfl,rfl⟩⟩,NL Z (Va ?_) Z,below_drewN (by assumption) _⟩;rw [yj,aXx,aUI (by simp)]
     ·have I:((strOf (eh M')).toList == (s.extract 0 (k+1)).toList)=false:=adz (fun h=>hp (by
       have aa:=aVA (fun x:ByteArray=>x.data.toList) h;simp only [yj,aXx,aWT] at aa;exact aa))
      have AA:=aUl hp;clear hp;go_wp2_with fail
      go_region_held3 (fun l8=>Below w.heap.size w l8) (first | exact Φ.drew | exact Φ.drew.trans (by assumption) | assumption) ((go_at_call 130;refine (Su M' aJ.out _ rfl _).mono ?_;rintro e w' ⟨rfl,bz⟩;have dV:=Φ.drew.trans (bz.mono Φ.size)))
      clear Φ bz I;go_wp2_with fail
      go_ret3
      exact ⟨0, [],4, .inl ⟨k,QW,jf,mK.out,fun _=>by have:=WG;show s[k].toNat<128;omega, .inr ⟨by rw [Hi.out];exact AA.out,rfl,rfl,rfl⟩⟩,NL Z Z Z,by assumption⟩
   ·have axE:k=10:=by omega
    subst axE;have hlen:¬ (s.size:Int)<10:=by omega
    go_wp2_with fail
    go_ret3
    exact ⟨0, [],4, .inr (.inr ⟨by simp;have e:s.data.size=s.size:=rfl;omega,fun i h aq=>mK.out i h aq,rfl,rfl,rfl⟩),NL Z Z Z,Φ⟩
  ·have Rn:k=s.size:=by omega
   have dB:∀ i (h:i<s.data.toList.length),i<k:=by
    intro i h;have e:s.data.toList.length=s.size:=by simp
    omega
   have e:s.data.toList.length=s.size:=by simp
   by_cases QW:s.size<10
   ·have jv:=aUl e;have ju:=aUl dB;have h4:=aUl Rn;clear e dB Rn;have hlen:(s.size:Int)<10:=by omega
    have uJ:(s.size:Int)≤(k:Int):=by omega
    go_wp2_with fail
    go_ret3
    exact ⟨0, [],3, .inr (.inl ⟨by have:=jv.out;omega,fun i h=>mK.out i h (ju.out i h),rfl,rfl,rfl⟩),NL Z Z Z,Φ⟩
   ·have jv:=aUl e;have ju:=aUl dB;have h4:=aUl Rn;clear e dB Rn;have hlen:¬ (s.size:Int)<10:=by omega
    have uJ:(s.size:Int)≤(k:Int):=by omega
    go_wp2_with fail
    go_ret3
    exact ⟨0, [],4, .inr (.inr ⟨by have:=jv.out;omega,fun i h aq=>mK.out i h (ju.out i h),rfl,rfl,rfl⟩),NL Z Z Z,Φ⟩
end Go.Proofs.YtlikikpgmmkjbaaGreat.Pack
namespace Go.Proofs.YtlikikpgmmkjbaaGreat
open Tryz
section
def vJ (l:List Int):List Value:=l.map (Value.int .i64)
theorem adR (l:List Int) (i:Nat) (h:i<l.length):(vJ l)[i]? =some (.int .i64 l[i]):=by unfold vJ;simp [h]
theorem aq9 (l:List Int) (x:Int):vJ (l++ [x])=vJ l++ [.int .i64 x]:=by unfold vJ;simp
def Pe (_:Nat) (u:Value):Prop:=∃ n:Int,u= .int .i64 n
theorem azG:(prog.info? 3).map (fun i=>(i.zero,i.size,i.bytes))=some (some (.int .i64 0),1,8):=by kernel_rfl
def sO (l:List Int):Prop:=∀ x∈l, -9223372036854775808≤x∧x≤9223372036854775807
end
end Go.Proofs.YtlikikpgmmkjbaaGreat
namespace Go.Proofs.YtlikikpgmmkjbaaGreat.Pack
open Tryz
open Go.Proofs.YtlikikpgmmkjbaaGreat Go.Proofs.YtlikikpgmmkjbaaGreat.fj

theorem aCZ (k x y:Nat) (u v:List UInt8) (hx:x<128 ^ (k+1)) (aH:y<128 ^ (k+1)) (h:jW k x++u=jW k y++v):x=y∧u=v:=by
 induction k generalizing x y with
 | zero =>
  simp only [jW,aYT,aV7] at h;have:=aVA UInt8.toNat h.1;simp only [aVl] at this;simp at hx aH;exact ⟨by omega,h.2⟩
 | succ k bI =>
  by_cases γ:x<128
  ·by_cases aa:y<128
   ·rw [BG γ,BG aa] at h;simp only [aYT,aV7] at h;have:=aVA UInt8.toNat h.1;simp only [aVl] at this;exact ⟨by omega,h.2⟩
   ·rw [BG γ,BF aa] at h;simp only [aVW,aV7] at h;have:=aVA UInt8.toNat h.1;simp only [aVl] at this;omega
  ·by_cases aa:y<128
   ·rw [BF γ,BG aa] at h;simp only [aVW,aV7] at h;have:=aVA UInt8.toNat h.1;simp only [aVl] at this;omega
   ·rw [BF γ,BF aa] at h;simp only [aVW,aV7] at h;have e:=aVA UInt8.toNat h.1;simp only [aVl] at e;obtain ⟨av,aV⟩:=bI (x / 128) (y / 128) (Jj hx) (Jj aH) h.2;exact ⟨by omega,aV⟩
theorem St {x y:Nat} {u v:List UInt8} (hx:x<18446744073709551616) (aH:y<18446744073709551616) (h:eh x++u=eh y++v):x=y∧u=v:=aCZ 9 x y u v (F_ hx) (F_ aH) h
theorem agf {l:List UInt8} {n:Nat} {rest:List UInt8} (h:Kp l n rest 0):l=eh n++rest∧n<18446744073709551616:=by
 rcases h with ⟨k,aw,jf,_,_,⟨γ,aa,av,_⟩ | ⟨_,_,_,h⟩⟩ | ⟨_,_,_,_,h⟩ | ⟨_,_,_,_,h⟩
 ·subst aa;subst av;exact ⟨by rw [γ,aWl],aWt _ (by decide)⟩
 all_goals cases h
theorem au7 {n k:Nat} {r:List UInt8} (hn:n<18446744073709551616) (aw:k<(eh n++r).length) (fp:∀ i (h:i<(eh n++r).length),i<k→128≤((eh n++r)[i]).toNat) (aB:((eh n++r)[k]).toNat<128):k+1=(eh n).length:=by
 have γ:=(BH n).2;rcases aZi (k+1) (eh n).length with h | h | h
 ·rw [aWG (by omega)] at aB;have:=aCY 9 n k (F_ hn) h (by show k<(eh n).length;omega);have e:(jW 9 n)[k]'(by show k<(eh n).length;omega)=(eh n)[k]'(by omega):=rfl;rw [e] at this;omega
 ·exact h
 ·have aa:=fp ((eh n).length - 1) (by simp;omega) (by omega);rw [aWG (by omega)] at aa;have:=ak3 9 n (F_ hn) ((eh n).length - 1) (by show _<(eh n).length;omega) (by show _=(eh n).length;omega);have e:(jW 9 n)[(eh n).length - 1]'(by show _<(eh n).length;omega)=(eh n)[(eh n).length - 1]'(by omega):=rfl;rw [e] at this;omega
theorem A9 {n:Nat} {r:List UInt8} {m:Nat} {rest:List UInt8} {e:Int} (hn:n<18446744073709551616) (h:Kp (eh n++r) m rest e):m=n∧rest=r∧e=0:=by
 have hlen:=BH n;have jg:∃ i,∃ aq:i<(eh n++r).length,i<10∧((eh n++r)[i]).toNat<128:=by
  refine ⟨(eh n).length - 1,by simp;omega,by omega, ?_⟩;rw [aWG (by omega)];exact ak3 9 n (F_ hn) ((eh n).length - 1) (by show _<(eh n).length;omega) (by show _=(eh n).length;omega)
 rcases h with ⟨k,aw,jf,fp,aB,h⟩ | ⟨_,dB,_⟩ | ⟨_,dB,_⟩
 ·have p0:=au7 hn jf fp (aB jf);have aF:(eh n++r).take (k+1)=eh n:=by rw [p0,aXJ]
  have hv:val (eh n) % 18446744073709551616=n:=by rw [aFO n hn,aVt hn]
  rw [aF,hv] at h;rcases h with ⟨_,aa,av,aV⟩ | ⟨γ,_⟩
  ·refine ⟨aa, ?_,aV⟩;rw [av,p0,List.drop_left]
  ·exact absurd Z γ
 ·obtain ⟨i,aq,_,jg⟩:=jg;have:=dB i aq;omega
 ·obtain ⟨i,aq,axp,jg⟩:=jg;have:=dB i aq axp;omega
def wH (n:Nat):Int:=if n % 2=0 then ((n / 2:Nat):Int) else -((n / 2:Nat):Int) - 1
theorem avh (n:Nat):o1 (wH n)=n:=by
 unfold o1 wH;split<;>split<;>omega
theorem amE (x:Int):wH (o1 x)=x:=by
 unfold o1 wH;split<;>split<;>omega
theorem QL (x:Int) (aI: -9223372036854775808≤x) (γ:x≤9223372036854775807):o1 x<18446744073709551616:=by
 unfold o1;split<;>omega
theorem aFA (n:Nat) (h:n<18446744073709551616): -9223372036854775808≤wH n∧wH n≤9223372036854775807:=by
 unfold wH;split<;>omega
def items (l:List Int):List UInt8:=l.flatMap fun x=>eh (o1 x)
def q3 (l:List Int):List UInt8:=eh l.length++items l
theorem MC (x:Int) (l:List Int):items (x::l)=eh (o1 x)++items l:=rfl
theorem azQ (a b:List Int):items (a++b)=items a++items b:=by unfold items;rw [aVx]
theorem aio (a:List Int) (x:Int):items (a++ [x])=items a++eh (o1 x):=by rw [azQ,MC];simp [items]
theorem Ye (l:List Int):(items l).length≤10 * l.length:=by
 induction l with
 | nil=>simp [items]
 | cons x l bI=>rw [MC];have:=(BH (o1 x)).1;simp;omega
theorem avd {x y:Int} (h:o1 x=o1 y):x=y:=by rw [← amE x,h,amE]
theorem RR:∀ (a b:List Int) (s:List UInt8),sO a→sO b→a.length≤b.length→items a++s=items b→a=b.take a.length∧s=items (b.drop a.length)
 | [],b,s,_,_,_,h=>⟨by simp,by simpa [items] using h⟩
 | x::a, [],s,_,_,aB,_=>by simp at aB
 | x::a,y::b,s,ha,Φ,aB,h=>by
  rw [MC,MC,aUX] at h;have hx:=ha x (by simp);have aH:=Φ y (by simp);obtain ⟨γ,aa⟩:=St (QL x hx.1 hx.2) (QL y aH.1 aH.2) h;obtain ⟨av,aV⟩:=RR a b s (fun z bB=>ha z (by simp [bB])) (fun z bB=>Φ z (by simp [bB])) (by simpa using aB) aa;rw [avd γ];exact ⟨by simp;exact av,by simpa using aV⟩
def Ar (s:List UInt8) (out:List Int) (e:Int):Prop :=
 sO out∧(e=0→s=q3 out∧out.length≤1000)∧(e≠0→out= []∧∀ l,sO l→l.length≤1000→s≠q3 l)
theorem avP {l out:List Int} {e:Int} (aB:sO l) (γ:l.length≤1000) (h:Ar (q3 l) out e):e=0∧out=l:=by
 obtain ⟨b5,aa,av⟩:=h;by_cases he:e=0
 ·obtain ⟨aV,bJ⟩:=aa he;unfold q3 at aV;obtain ⟨cg,ef⟩:=St (by omega) (by omega) aV;obtain ⟨gz,_⟩:=RR l out [] aB b5 (by omega) (by rw [aUV];exact ef);rw [cg,aVd] at gz;exact ⟨he,gz.symm⟩
 ·exact absurd Z ((av he).2 l aB γ)
theorem ado {s:List UInt8} {n:Nat} {r:List UInt8} {e:Int} (h:Kp s n r e) (he:e≠0∨1000<n) {k:Int} (aw:k≠0):Ar s [] k:=by
 refine ⟨fun x hx=>(by cases hx),fun h=>absurd h aw,fun _=>⟨Z,fun l aB γ hs=> ?_⟩⟩;subst hs;obtain ⟨aa,_,av⟩:=A9 (by omega) h;rcases he with he | he
 ·exact he av
 ·omega
theorem aqd {s:List UInt8} {n:Nat} {out:List Int} {r:List UInt8} {m:Nat} {r':List UInt8} {e:Int} (hs:s=eh n++(items out++r)) (hn:n<18446744073709551616) (b5:sO out) (bE:out.length<n) (h:Kp r m r' e) (he:e≠0):Ar s [] e:=by
 refine ⟨fun x hx=>(by cases hx),fun h=>absurd h he,fun _=>⟨Z,fun l aB γ gI=> ?_⟩⟩;rw [gI] at hs;unfold q3 at hs;obtain ⟨aa,av⟩:=St (by omega) hn hs;obtain ⟨aV,bJ⟩:=RR out l r b5 aB (by omega) av.symm;have cg:l.drop out.length=l[out.length]'(by omega)::l.drop (out.length+1):=aV3 (by omega);rw [cg,MC] at bJ;subst bJ;have hx:=aB (l[out.length]'(by omega)) (aVv _);exact he (A9 (QL _ hx.1 hx.2) h).2.2
theorem aqc {s:List UInt8} {n:Nat} {out:List Int} {r:List UInt8} (hs:s=eh n++(items out++r)) (hn:n<18446744073709551616) (b5:sO out) (bE:out.length=n) (hr:r≠ []) {k:Int} (aw:k≠0):Ar s [] k:=by
 refine ⟨fun x hx=>(by cases hx),fun h=>absurd h aw,fun _=>⟨Z,fun l aB γ gI=> ?_⟩⟩;rw [gI] at hs;unfold q3 at hs;obtain ⟨aa,av⟩:=St (by omega) hn hs;obtain ⟨aV,bJ⟩:=RR out l r b5 aB (by omega) av.symm;rw [aYR (by omega)] at bJ;exact hr bJ
theorem avO {s:List UInt8} {n:Nat} {out:List Int} (hs:s=eh n++(items out++ [])) (b5:sO out) (bE:out.length=n) (hn:n≤1000):Ar s out 0 :=
 ⟨b5,fun _=>⟨by rw [hs,aUV,← bE];rfl,by omega⟩,fun h=>absurd rfl h⟩
end Go.Proofs.YtlikikpgmmkjbaaGreat.Pack
namespace Go.Proofs.YtlikikpgmmkjbaaGreat
open Tryz
end Go.Proofs.YtlikikpgmmkjbaaGreat
namespace Go.Proofs.YtlikikpgmmkjbaaGreat.Pack
open Tryz
open Go.RowKit Go.Proofs.YtlikikpgmmkjbaaGreat

theorem alP:(prog.info? 212).map (·.size)=some 2:=by kernel_rfl
theorem aAA:liesAt prog prog.depth 212 (2 / prog.cellsOf 212) 0 212 1=true:=by kernel_rfl
theorem infoByte:(prog.info? 5).map (fun i=>(i.zero,i.size,i.bytes))=some (some (.int .u8 0),1,1):=by kernel_rfl
theorem arl (b:Nat) (w:World) (aI:w.cell? ⟨b,0,none⟩=some (.pointer (some ⟨b,0,none⟩))):
  Calls prog 160 #[.pointer (some ⟨b,0,none⟩)] w fun e w'=>e= .returned (.tuple #[])∧w'=w:=by
 obtain ⟨j,aA,_⟩:=aYK.1 alP;go_enter func160,ntmps160;go_wp2
 rw [Lib.run_neq_ptr_same w _ underlying210 aA];go_wp2
 go_end0
 exact ⟨Z,Z⟩
theorem arj (b:Nat) (w:World) (aI:w.cell? ⟨b,0,none⟩=some (.pointer none)) (RE:w.shape? b=some (212,2)) (axl:w.frozen? ⟨b,0,none⟩=false):
  Calls prog 160 #[.pointer (some ⟨b,0,none⟩)] w fun e w'=>e= .returned (.tuple #[])∧w'=w.setCell ⟨b,0,none⟩ (.pointer (some ⟨b,0,none⟩)):=by
 obtain ⟨j,aA,axC⟩:=aYK.1 alP;go_enter func160,ntmps160;go_wp2
 rw [Lib.run_to_unsafe w ⟨b,0,none⟩ underlying210 underlying287 aA (by rw [axC];decide) RE (Nat.zero_lt_succ 1)];simp only [Result.andThen];rw [aYy];go_wp2
 rw [run_callFunc_extern func192 (by kernel_rfl) (by kernel_rfl) (by kernel_rfl) (e:=Extern.AbiNoEscape.same) (by kernel_rfl)];rw [Lib.run_noEscape];simp only [Result.andThen];rw [aYy];go_wp2
 rw [Lib.run_from_unsafe w ⟨b,0,none⟩ underlying287 underlying210 aA RE aAA];simp only [Result.andThen];rw [aYy];go_wp2
 go_end0
 exact ⟨Z,Z⟩
theorem CW (B b:Nat) (c6:List Value) (w:World) (h:Lib.IsBuilder 212 5 B b c6 w):
  Calls prog 160 #[.pointer (some ⟨b,0,none⟩)] w fun e w'=>e= .returned (.tuple #[])∧(Lib.BuilderAt 212 5 B b (.pointer (some ⟨b,0,none⟩)) c6 w'∧Below B w w'):=by
 rcases h with h | h
 ·refine (arj b w h.cell0 h.shape h.frozen0).mono ?_;rintro e w' ⟨rfl,rfl⟩;exact ⟨Z,h.used _,(aUN B w).setCell (p:=⟨b,0,none⟩) h.1 _⟩
 ·refine (arl b w h.cell0).mono ?_;rintro e w' ⟨rfl,rfl⟩;exact ⟨Z,h,aUN B _⟩
theorem anh (B b:Nat) (c6:List Value) (s:ByteArray) (w:World) (h:Lib.IsBuilder 212 5 B b c6 w) (hlen:c6.length+s.size≤140737488355328) (agr:B≤w.heap.size):
  Calls prog 129 #[.pointer (some ⟨b,0,none⟩), .string s] w fun e w'=>e= .returned (.tuple #[.int .i64 s.size, .nilIface])∧(Lib.BuilderAt 212 5 B b (.pointer (some ⟨b,0,none⟩)) (c6++Lib.strCells s) w'∧Below B w w'):=by
 obtain ⟨i0,aq,o5,qU,qV⟩:=aWR infoByte;go_enter func129,ntmps129;go_wp2_with fail
 refine (CW B b c6 _ h).mono ?_;rintro e aP ⟨rfl,γ,cV⟩;obtain ⟨ba,v,Iq,fq,dY⟩:=γ;have b3:aP.cell? ⟨b,0,none⟩=some (.pointer (some ⟨b,0,none⟩)):=by rw [aXy Iq];rfl
 have c1:aP.cell? ⟨b,1,none⟩=some v:=by rw [aXy Iq];rfl
 go_wp2_with (at_builtin;refine Lib.wpList_append_own_string _ rfl _ _ 76 9 rfl B 5 i0 underlying76 underlying9 aq o5 qU qV _ _ _ rfl fq s rfl ?c3 ?c4 ?c5 ?_)
 case c3=>unfold maxLen;omega
 case c4=>omega
 case c5=>have:=cV.size;omega
 intro v' cE xQ jJ _;have bE:b<aP.heap.size:=by
  rcases aVf b aP.heap.size with dk | dk
  ·exact dk
  ·simp [aVi dk] at Iq
 have bz:cE.heap[b]? =some (.cells #[.pointer (some ⟨b,0,none⟩),v] 212 (0,0)):=by
  rw [jJ.block b bE (fun e=>dY e.symm)];exact Iq
 have d0:cE.cell? ⟨b,0,none⟩=some (.pointer (some ⟨b,0,none⟩)):=by rw [aXy bz];rfl
 have d1:cE.cell? ⟨b,1,none⟩=some v:=by rw [aXy bz];rfl
 have f1:cE.frozen? ⟨b,1,none⟩=false:=Lib.frozen_of_heap bz 1;obtain ⟨adb,jU,cap,rfl⟩:∃ adb jU cap,v'= .slice adb jU cap:=by
  rcases xQ.2 with ⟨hv,_⟩ | ⟨g,cap,cur,hv,_⟩
  ·exact ⟨_,_,_,hv⟩
  ·exact ⟨_,_,_,hv⟩
 go_wp2
 go_ret2
 refine ⟨Z, ?_, ?_⟩
 ·exact Lib.BuilderAt.put (T:= 212) (e:= 5) ba bz (bs':=c6++Lib.strCells s) (by simpa [Lib.strCells_length] using xQ) (by decide)
 ·exact (cV.grown jJ (by have:=cV.size;omega) (fun k aw=>(fq.lt k aw).1)).setCell (p:=⟨b,1,none⟩) ba _
end Go.Proofs.YtlikikpgmmkjbaaGreat.Pack
namespace Go.Proofs.YtlikikpgmmkjbaaGreat
open Tryz
end Go.Proofs.YtlikikpgmmkjbaaGreat
namespace Go.Proofs.YtlikikpgmmkjbaaGreat.Pack
open Tryz
open Go.RowKit Go.Proofs.YtlikikpgmmkjbaaGreat Go.Proofs.YtlikikpgmmkjbaaGreat.fj

theorem PV (op:BinOp) (a b:Int): -9223372036854775808≤bits op .i64 a b∧bits op .i64 a b≤9223372036854775807:=by
 have h:bits op .i64 a b=IntKind.i64.wrap (bits op .i64 a b):=by
  unfold bits;rw [aXz,aXz];omega
 rw [h,aXz];omega
theorem afH {x y:Int} (aI: -9223372036854775808≤x) (γ:x≤9223372036854775807) (g0: -9223372036854775808≤y) (g1:y≤9223372036854775807) (h:BitVec.ofInt 64 x=BitVec.ofInt 64 y):x=y:=by
 have e:=aVA BitVec.toInt h;rw [aXZ,aXZ] at e;simp only [Int.bmod] at e;omega
theorem aGY (x:Int) (aI: -9223372036854775808≤x) (γ:x≤9223372036854775807):bits .xor .i64 x 0=x:=by
 refine afH (PV _ _ _).1 (PV _ _ _).2 aI γ ?_;rw [aky];simp
theorem aGV (x:Int) (aI: -9223372036854775808≤x) (γ:x≤9223372036854775807):bits .xor .i64 x (-1)= -x - 1:=by
 refine afH (PV _ _ _).1 (PV _ _ _).2 (by omega) (by omega) ?_;rw [aky];have a8:BitVec.ofInt 64 (-1)=BitVec.allOnes 64:=by decide
 rw [a8,aZf];have bl:(-x - 1:Int)= -x+ -1:=by omega
 rw [bl,BitVec.ofInt_add,BitVec.ofInt_neg,a8];rw [BitVec.not_eq_neg_add,BitVec.sub_eq_add_neg,show -1#64=BitVec.allOnes 64 from by decide]
theorem aFB (n:Nat) (hn:n<18446744073709551616) (w:World):
  Calls prog 120 #[.int .u64 (n:Int)] w fun e w'=>e= .returned (.int .i64 (wH n))∧w=w':=by
 have aa:n / 2<9223372036854775808:=by omega
 have ji:=aGY ((n / 2:Nat):Int) (by omega) (by omega);have ka:=aGV ((n / 2:Nat):Int) (by omega) (by omega);have hd:(n:Int) / 2=((n / 2:Nat):Int):=by omega
 have ha:bits .and .u64 (n:Int) 1=((n % 2:Nat):Int):=by
  have h:=(aYk .u64 64 (by decide) ang n 1 (by omega) (by decide)).1;rw [aZc] at h;exact h
 unfold wH;obtain ⟨m,k7⟩:∃ m,Hid (n / 2=m):=⟨_,aUl rfl⟩;rw [k7.out] at aa ji ka hd ⊢;rcases aWs n with h | h
 ·rw [h] at ha ⊢;rw [aUz rfl];have ha:bits .and .u64 (n:Int) 1=0:=ha;clear h;go_enter func120,ntmps120;go_wp2_with fail
  go_ret;exact ⟨Z,Z⟩
 ·rw [h] at ha ⊢;rw [aUr (by decide)];have ha:bits .and .u64 (n:Int) 1=1:=ha;clear h;go_enter func120,ntmps120;go_wp2_with fail
  go_ret;exact ⟨Z,Z⟩
theorem U' {T e:TypeId} {B b:Nat} {p:Value} {c6:List Value} {w w':World} (h:Lib.BuilderAt T e B b p c6 w) (Φ:Below w.heap.size w w'):Lib.BuilderAt T e B b p c6 w':=by
 have bE:=h.lt;obtain ⟨ba,v,Iq,fq,dY⟩:=h;exact ⟨ba,v,by rw [Φ.block b bE];exact Iq,aCi fq Φ,dY⟩
theorem aCW (A:Option Addr) (n c:Nat) (hn:1000<n) (w:World):
  Calls prog 92 #[.slice A n c] w fun e w'=>e= .returned (.tuple #[.string ⟨#[]⟩, .int .i64 2])∧w=w':=by
 have zk:(1000:Int)<(n:Int):=by omega
 go_enter func92,ntmps92;go_wp2_with fail
 go_ret2
 exact ⟨Z,Z⟩
theorem ak1 (A:Option Addr) (n c:Nat) (l:List Int) (aB:l.length=n) (hn:n≤1000) (QX:sO l) (w:World) (hr:Rd w 1 A n (vJ l)):
  Calls prog 92 #[.slice A n c] w fun e w'=>e= .returned (.tuple #[.string (strOf (q3 l)), .int .i64 0])∧Below w.heap.size w w':=by
 have ba:Lib.IsBuilder 212 5 w.heap.size w.heap.size [] (w.alloc (.cells #[.pointer none, .slice none 0 0] 212)):=
  .inl ⟨aUu _, .slice none 0 0,aXd w _,World.ownsRow_nil _ _ _ _,by simp [Value.ownBlock]⟩
 have cK:Below w.heap.size w (w.alloc (.cells #[.pointer none, .slice none 0 0] 212)):=(aUN _ _).alloc (aUu _) _;have hw:IntKind.u64.wrap (n:Int)=(n:Int):=by rw [aVy];omega
 have qy:=aUl aB;clear aB;go_enter func92,ntmps92;go_wp2_with fail
 refine (Su n (by omega) _ Z _).mono ?_;rintro e aP ⟨rfl,cV⟩;have agm:Lib.IsBuilder 212 5 w.heap.size w.heap.size [] aP:=by
  rcases ba with h | h
  ·exact .inl (U' h cV)
  ·exact .inr (U' h cV)
 have bz:=cK.trans (cV.mono cK.size);clear ba cV;have uM:=BH n;go_wp2_with fail
 refine (anh w.heap.size w.heap.size [] (strOf (eh n)) aP agm (by rw [Ju];simp;omega) bz.size).mono ?_;rintro e cE ⟨rfl,WL,dV⟩;have dI:=bz.trans dV;rw [aWJ,Lib.strCells_eq,yj] at WL;clear agm bz dV;go_wp2_with fail
 go_loopw [17] (fun i wr=>∃ k:Nat,k≤n∧i= .int .i64 (k:Int)∧Lib.BuilderAt 212 5 w.heap.size w.heap.size (.pointer (some ⟨w.heap.size,0,none⟩)) (Lib.byteCells (eh n++items (l.take k))) wr∧Below w.heap.size w wr) (fun i _=>n - (intOf i).toNat)
 case atStart=>exact ⟨0,aU6 _,rfl,by simpa [items] using WL,dI⟩
 case round =>
  clear WL dI;obtain ⟨k,aw,rfl,ba,Φ⟩:=hrel;by_cases bE:k<n
  ·obtain ⟨b,o,rfl,hc⟩:=hr.2 (by omega);have jf:k<l.length:=by rw [qy.out];exact bE
   have hx:=aq8 Φ (hc k _ (adR l k jf)) (aWd w _ (hc k _ (adR l k jf)));have RK:=QX l[k] (aVv jf);have Mw:items (l.take (k+1))=items (l.take k)++eh (o1 l[k]):=by rw [aUM jf,aio]
   have ru:=aUl Mw;generalize l[k]=x at *
   have qP:=QL x RK.1 RK.2;have axh:=ave x RK.1 RK.2;have aMz:=BH (o1 x);have IB:=Ye (l.take k);have aMN:(l.take k).length≤k:=aY7 _ _;clear Mw;generalize o1 x=y at *
   go_wp2_with fail
   refine (axh _).mono ?_;rintro e w' ⟨rfl,rfl⟩;go_wp2_with fail
   refine (Su y qP _ Z _).mono ?_;rintro e q6 ⟨rfl,om⟩;have A_:=U' ba om;have Im:=Φ.trans (om.mono Φ.size);go_wp2_with fail
   refine (anh w.heap.size w.heap.size _ (strOf (eh y)) q6 (.inr A_) (by rw [Ju,Lib.byteCells_length];simp;omega) Im.size).mono ?_;rintro e Tg ⟨rfl,ago,FH⟩;have Io:=Im.trans FH;rw [Lib.strCells_eq,yj,← Lib.byteCells_append,aUX,← ru.out] at ago;clear ba A_ Φ om Im FH;go_wp2_with fail
   go_roundw
   case rel=>exact ⟨k+1,by omega,by go_num,ago,Io⟩
   case measure=>simp [intOf];omega
  ·obtain rfl:k=n:=by omega
   rw [aUI (by rw [qy.out];exact aUu _)] at ba;go_wp2_with fail
   refine (Builder_String_any w.heap.size w.heap.size (eh k++items l) wr (.inr ba) Φ.size).mono ?_;rintro e aad ⟨rfl,Rb⟩;go_wp2_with fail
   go_ret2
   refine ⟨?_,Φ.trans Rb⟩;unfold q3 strOf;rw [qy.out];rfl
def aol (s:ByteArray) (w:World) (e:Ending) (w':World):Prop :=
 ∃ (out:List Int) (k:Int) (A:Option Addr) (n c:Nat),Ar s.data.toList out k∧e= .returned (.tuple #[.slice A n c, .int .i64 k])∧Own w' w.heap.size 3 1 Pe (.slice A n c) out.length (vJ out)∧Below w.heap.size w w'
theorem avE (s:ByteArray) (hs:s.size≤9223372036854775807) (w:World):Calls prog 85 #[.string s] w (aol s w):=by
 obtain ⟨i0,aq,o5,qU,qV⟩:=aWR azG;go_enter func85,ntmps85;go_wp2_with fail
 refine (age s hs w).mono ?_;rintro e aP ⟨n,rest,k,bD,rfl,cV⟩;have k6:=aUl bD;by_cases aw:k=0
 ·subst aw;obtain ⟨RF,Dx⟩:=agf bD;have fw:=aUl RF;have fk:=aUl Dx;have jh:rest.length≤s.size:=by
   have h:=aVA List.length RF;simp at h;have e:s.data.size=s.size:=rfl;omega
  clear RF bD Dx;by_cases hn:1000<n
  ·have zk:(1000:Int)<(n:Int):=by omega
   go_wp2_with fail
   go_ret2
   exact ⟨[],2,none,0,0,ado k6.out (.inr hn) (by decide),Z,Own.nil _ _ _ _ _,cV⟩
  ·have zk:¬ (1000:Int)<(n:Int):=by omega
   go_wp2_with fail
   go_loopw [0,5,6,24] (fun S E v i wr=>∃ (j:Nat) (out:List Int) (r:List UInt8),j≤n∧i= .int .u64 (j:Int)∧S= .string (strOf r)∧E= .int .i64 0∧out.length=j∧Own wr w.heap.size 3 1 Pe v j (vJ out)∧Below w.heap.size w wr∧
     Hid (s.data.toList=eh n++(items out++r))∧Hid (sO out)∧r.length≤s.size) (fun _ _ _ i _=>n - (intOf i).toNat)
   case atStart=>exact ⟨0, [],rest,aU6 _,rfl,rfl,rfl,rfl,Own.nil _ _ _ _ _,cV,fw,(fun x hx=>by cases hx),jh⟩
   case round =>
    clear cV fw jh;obtain ⟨j,out,r,aA,rfl,rfl,rfl,ahP,fq,Φ,fw,mf,aMH⟩:=hrel;have aW:=aUl ahP;clear ahP;by_cases bE:j<n
    ·go_wp2_with fail
     refine (age (strOf r) (by rw [Ju];omega) wr).mono ?_;rintro e cE ⟨m,r2,dt,LD,rfl,bz⟩;rw [yj] at LD;have dV:=Φ.trans (bz.mono Φ.size);by_cases gv:dt=0
     ·subst gv;obtain ⟨XT,Rp⟩:=agf LD;have ayV:=aFB m Rp;have FI:=aFA m Rp;have ahj:=avh m;have AB:Hid (s.data.toList=eh n++(items (out++ [wH m])++r2)):=by
       show _=_;rw [fw.out,XT,aio,ahj,aUX]
      have aoD:Hid (sO (out++ [wH m])):=by
       intro x hx;rcases aUy.1 hx with h | h
       ·exact mf.out x h
       ·simp at h;subst h;exact FI
      have ayI:r2.length≤s.size:=by
       have h:=aVA List.length XT;simp at h;omega
      have ahS:=fq.later bz;have k7:=aUl Rp;clear XT Rp ahj LD FI fq fw mf;generalize wH m=x at *
      have dI:=dV.alloc dV.size (.cells #[.int .i64 x] 3);have ahT:=ahS.later ((aUN cE.heap.size cE).alloc (aUu _) (.cells #[.int .i64 x] 3));have Mo:Rd (cE.alloc (.cells #[.int .i64 x] 3)) 1 (some ⟨cE.heap.size,0,none⟩) 1 [.int .i64 x] :=
       ⟨rfl,fun _=>⟨cE.heap.size,0,rfl,fun q u I=>by
        match q,I with
        | 0,I=>simp at I;subst I;simp⟩⟩
      have ab3:=aUl ahT;have aoL:=aUl Mo;clear ahS ahT Mo;go_wp2_with fail
      refine (ayV _).mono ?_;rintro e w' ⟨rfl,rfl⟩;go_wp2_with (at_builtin;refine JY _ rfl _ _ 22 rfl w.heap.size 3 i0 (.int .i64 0) 1 8 underlying22 aq o5 qU qV rfl (by decide) Pe ?g1 _ j (vJ out) rfl ab3.out (some ⟨cE.heap.size,0,none⟩) 1 1 [.int .i64 x] rfl aoL.out ?g2 ?g3 ?g4 ?g5 ?g6 ?_)
      case g1=>intro q u I;match q,I with | 0,I=>exact ⟨0,(aUh I).symm⟩
      case g2=>intro u hu;simp at hu;subst hu;rfl
      case g3=>intro q u I;match q,I with | 0,I=>exact ⟨x,(aUh I).symm⟩
      case g4=>unfold maxLen;omega
      case g5=>omega
      case g6=>exact dI.size
      intro v' q6 ahU jJ _ fU;have om:=dI.grown jJ dI.size (fun q I=>(ab3.out.row.lt q I).1);rw [← aq9] at ahU;clear jJ fU dI dV bz;go_wp2_with fail
      go_roundw
      case rel=>exact ⟨j+1,out++ [x],r2,by omega,by go_num,rfl,rfl,by simp [aW.out],ahU,om,AB,aoD,ayI⟩
      case measure=>simp [intOf];omega
     ·have XD:(dt != 0)=true:=by rw [aXW];exact gv
      have h4:=aUl gv;have jG:=aqd fw.out fk.out mf.out (by rw [aW.out];exact bE) LD h4.out;have aJ:=aUl jG;clear gv LD jG;go_wp2_with fail
      go_ret2
      exact ⟨[],dt,none,0,0,aJ.out,Z,Own.nil _ _ _ _ _,dV⟩
    ·obtain rfl:j=n:=by omega
     by_cases hr:r= []
     ·subst hr;have γ:(strOf []).toList= []:=by rw [aWc,yj]
      have aa:(!(strOf []).toList.isEmpty)=false:=by rw [aWc,yj];rfl
      obtain ⟨A,c,rfl,_⟩:=fq.shape;have jv:=aUl (avO fw.out mf.out aW.out (by omega));clear fw;go_wp2_with fail
      go_ret2
      exact ⟨out,0,A,j,c,jv.out,Z,by rw [aW.out];exact fq,Φ⟩
     ·have γ:¬ (strOf r).toList= []:=by rw [aWc,yj];exact hr
      have aa:(!(strOf r).toList.isEmpty)=true:=by rw [aWc,yj];simpa using hr
      have jv:=aUl (aqc (k:=4) fw.out fk.out mf.out aW.out hr (by decide));clear fw hr;go_wp2_with fail
      go_ret2
      exact ⟨[],4,none,0,0,jv.out,Z,Own.nil _ _ _ _ _,Φ⟩
 ·have XD:(k != 0)=true:=by rw [aXW];exact aw
  have axF:(k == 0)=false:=by rw [aWz];exact aw
  have h4:=aUl aw;clear aw bD;go_wp2_with fail
  go_ret2
  exact ⟨[],k,none,0,0,ado k6.out (.inl h4.out) h4.out,Z,Own.nil _ _ _ _ _,cV⟩
end Go.Proofs.YtlikikpgmmkjbaaGreat.Pack
namespace Go.Proofs.YtlikikpgmmkjbaaGreat
open Tryz
section
open Go.RowKit Go.Proofs.YtlikikpgmmkjbaaGreat.fj
def qf:κ (BitVec 64):=κ.flat 1 (λ b=> [.int .u64 (U b)]) (λ _=>True) (λ _ u=>∃ n:Int,u= .int .u64 n) (λ _=>rfl) (by intro a u hu;simp at hu;subst hu;rfl) (by
 intro a j u hu;cases j with
 | zero=>simp at hu;exact ⟨_,hu.symm⟩
 | succ j=>simp at hu)
theorem ail:(prog.info? 41).map (λ i=>(i.zero,i.size,i.bytes))=some (some (.int .u64 0),1,8):=by kernel_rfl
theorem alg:∀ (j:Nat) u,(Value.int .u64 0).cells[j]? =some u→qf.raw j u:=by
 intro j u hu;have hu:(#[(.int .u64 0:Value)]:Array Value)[j]? =some u:=hu
 match j,hu with
 | 0,hu=>exact ⟨0,(aUh hu).symm⟩
 | j+1,hu=>simp at hu
theorem aEe {by_:Nat} {w:World} {A:Option Addr} {c:Nat} {l:List (BitVec 64)} (h:qf.aK by_ w A c l):Mark.E9 w A l.length l:=by
 refine ⟨Z,h.dT, ?_⟩;cases aB:l with
 | nil=>exact .inl rfl
 | cons x r =>
  rw [← aB];obtain ⟨b,o,e,hc⟩:=h.at_ (by rw [aB];simp);refine .inr ⟨b,o,e,λ i aq=> ?_⟩;obtain ⟨es,⟨rfl,_⟩,aA⟩:=hc i _ (aUk aq);have:=aA 0 _ rfl;simpa [qf,κ.flat] using this
theorem afQ {w:World}:∀ {ess:List (List Value)} {l:List Int},de (λ es a=>bS.has w es a) ess l→ess.flatten=l.map (Value.int .i64)
 | [], [],_=>rfl
 | es::ess,a::l,h=>by
  obtain ⟨γ,aa⟩:=h;rw [aVb,gV γ,afQ aa];rfl
 | [],_::_,h=>h.elim
 | _::_, [],h=>h.elim
def Jg (l:List Int):List UInt8:=if l.length≤1000 then Pack.q3 l else []
def qY (l:List Int):BitVec 64:=Tree.DK (Jg l)
theorem aCl (l:List Int):(Jg l).length≤20000:=by
 unfold Jg;split
 ·rename_i h
  unfold Pack.q3;rw [aUq];have:=(Pack.BH l.length).1;have:=Pack.Ye l;omega
 ·simp
theorem aCm (l:List Int) (A:Option Addr) (c:Nat) (w:World) (h:bS.aK 8 w A c l):Calls prog 92 #[.slice A l.length c] w λ e w'=>(∃ k,e= .returned (.tuple #[.string (Pack.strOf (Jg l)), .int .i64 k]))∧Ext w w':=by
 unfold Jg;by_cases hn:l.length≤1000
 ·rw [aUz hn];have hr:Rd w 1 A l.length (vJ l):=by
   obtain ⟨s1,s2,Gy,SG,ess,Gz,BI⟩:=h;rw [afQ Gz] at BI;exact BI
  exact (Pack.ak1 A l.length c l Z hn (λ x hx=>bN.1 (Jp h x hx)) w hr).mono λ e w' h=>⟨⟨0,h.1⟩,h.2⟩
 ·rw [aUr hn];exact (Pack.aCW A l.length c (by omega) w).mono λ e w' h=>⟨⟨2,h.1⟩,by rw [← h.2];exact Ext.bK w⟩
theorem aAs (s:List UInt8) (hs:s.length≤20000) (w:World):Calls prog 83 #[.string (Pack.strOf s)] w λ e w'=>e= .returned (.int .u64 (U (Tree.DK s)))∧Ext w w':=by
 refine (Tree.IU (Pack.strOf s) (by rw [Pack.Ju];omega) w).mono ?_;rintro e w' ⟨rfl,q,rfl⟩;exact ⟨by rw [Pack.yj],below_drewN (aUN _ w) q⟩
theorem aBY (l:List (BitVec 64)) (A:Option Addr) (c:Nat) (w:World) (h:qf.aK 8 w A c l):Calls prog 58 #[.slice A l.length c] w λ e w'=>e= .returned (.int .u64 (U (Mark.Gp Mark.mix l)))∧Ext w w':=Mark.Y6 A l.length c l w (aEe h)
def Sc (W:aj):BitVec 64:=qY ([1,W.field.wide,W.field.high,W.next,W.now]++W.field.aY)
def Sb (W:aj) (i:Nat):BitVec 64:=qY [2,(i:Int),(W.aZ.getD i default).x,(W.aZ.getD i default).y,W.bg.getD i 0]
def BA (W:aj):Nat→List (BitVec 64)
 | 0=> []
 | k+1=>BA W k++(if W.bs.getD k 0=0 then [] else [qY [3,(k:Int),W.bs.getD k 0]])
def Nv (t:bd):BitVec 64:=qY [4,t.id,t.owner,t.kind,t.spot.x,t.spot.y,t.dc,t.load]
def Bz (W:aj) (k:Nat):List (BitVec 64):= [Sc W]++(List.range k).map (Sb W)
def marks (W:aj):List (BitVec 64):=Bz W W.aZ.length++BA W W.bs.length++W.ao.map Nv
def sm (W:aj):BitVec 64:=if W.bq=0 then Mark.Gp Mark.mix (marks W) else 0#64
theorem aBa (W:aj) (k:Nat):Bz W (k+1)=Bz W k++ [Sb W k]:=by
 unfold Bz;rw [aVT,aUK,← aUX];rfl
theorem YW (W:aj):∀ k,(BA W k).length≤k
 | 0=>aUu 0
 | k+1=>by
  have:=YW W k;rw [BA,aUq];split<;>simp<;>omega
theorem YS (W:aj) (k:Nat):(Bz W k).length=k+1:=by unfold Bz;simp
theorem aBl {l:List bd} {k:Nat} {t:bd} (aw:k<l.length) (aF:l.getD k default=t):(l.take (k+1)).map Nv=(l.take k).map Nv++ [Nv t]:=by
 rw [← aF,aUi,aUk aw,← aYC aw,aUK];rfl
end
section
theorem RQ:(prog.info? 44).map (λ i=>(i.zero,i.size,i.bytes))=some (some (.slice none 0 0),1,24):=by kernel_rfl
def n_ (w:World) (T:List ej) (L:List (List aO)):Prop:=T.length=L.length∧∀ (i:Nat) (v:ej),T[i]? =some v→∃ l:List aO,L[i]? =some l∧v.n=l.length∧aO.rep.aK 48 w v.a v.c l
section
variable {w w':World} {T j3:List ej} {L xf:List (List aO)} {W:aj} {l:List aO} {k:Nat} {e:Int} {V:aj} {ms:List (BitVec 64)}
theorem n_.keep (h:n_ w T L) (hx:Ext w w'):n_ w' T L:=⟨h.1,λ i v aq=>by
 obtain ⟨l,γ,aa,av⟩:=h.2 i v aq;exact ⟨l,γ,aa,av.keep hx⟩⟩
theorem n_.nil:n_ w [] []:=⟨rfl,λ i v h=>by simp at h⟩
theorem n_.at_ (h:n_ w T L) (aw:k<T.length):∃ A c l,T[k]? =some ⟨A,l.length,c⟩∧L[k]? =some l∧aO.rep.aK 48 w A c l:=by
 obtain ⟨v,hv⟩:∃ v,T[k]? =some v:=⟨_,aUk aw⟩;obtain ⟨l,γ,aa,av⟩:=h.2 k v hv;obtain ⟨a,n,c⟩:=v;dsimp only at aa av;subst aa;exact ⟨a,c,l,hv,γ,av⟩
noncomputable def oA (W:aj) (L:List (List aO)):aj:=L.foldl oD W
noncomputable def yh (W:aj):List (List aO)→List (BitVec 64)
 | []=> [sm W]
 | l::r=>sm W::yh (oD W l) r
noncomputable def kY (W:aj):List (List aO)→Int
 | []=>0
 | l::r=>if ic W l≠0 then ic W l else kY (oD W l) r
def E6 (W:aj) (L:List (List aO)) (e:Int) (V:aj) (ms:List (BitVec 64)):Prop:=(e=0∧L.length≤200∧W.bq=0∧kY W L=0∧V=oA W L∧ms=yh W L)∨(e≠0∧(200<L.length∨W.bq≠0∨kY W L≠0)∧V=aj.zero∧ms= [])
theorem alq:oA W (L++xf)=oA (oA W L) xf:=aV9
theorem alr:∀ (L:List (List aO)) (W:aj),(yh W L).length=L.length+1
 | [],_=>rfl
 | l::r,W=>by rw [yh,aUn,aUn,alr r]
theorem als:∀ (L:List (List aO)) (W:aj),yh W (L++ [l])=yh W L++ [sm (oD (oA W L) l)]
 | [],_=>rfl
 | l::r,W=>by rw [aVW,yh,yh,als r];rfl
theorem SE:∀ (L:List (List aO)) (W:aj),kY W (L++xf)=if kY W L≠0 then kY W L else kY (oA W L) xf
 | [],W=>by rw [aWJ];unfold kY;rw [aUr (by simp)];rfl
 | l::r,W=>by
  rw [aVW,kY,kY];by_cases h:ic W l≠0
  ·rw [aUz h,aUz h,aUz h]
  ·rw [aUr h,aUr h,SE r];rfl
theorem ZB:kY W [l]=ic W l:=by
 unfold kY;split
 ·rfl
 ·rename_i h;unfold kY;have:ic W l=0:=by simpa using h
  rw [this]
theorem zL {α:Type} {L:List α} {l:α} (h:L[k]? =some l):L.take (k+1)=L.take k++ [l]:=by
 have aw:=(aUj.1 h).1;have e:=(aUj.1 h).2;rw [← e,aYC]
theorem ZE (aI:kY W (L.take k)=0) (aB:L[k]? =some l):kY W (L.take (k+1))=ic (oA W (L.take k)) l:=by
 rw [zL aB,SE,aUr (by simpa using aI),ZB]
theorem ZC (aI:kY W (L.take k)≠0):kY W L≠0:=by
 have:L=L.take k++L.drop k:=(aWl k L).symm;rw [this,SE,aUz aI];exact aI
theorem E6.ok (h:E6 W L e V ms) (aI:e=0):L.length≤200∧W.bq=0∧kY W L=0∧V=oA W L∧ms=yh W L:=by
 rcases h with ⟨_,h⟩ | ⟨γ,_⟩
 ·exact h
 ·exact absurd aI γ
theorem E6.zero (h:E6 W L e V ms) (γ:L.length≤200) (aa:W.bq=0) (av:kY W L=0):e=0∧V=oA W L∧ms=yh W L:=by
 rcases h with ⟨aI,_,_,_,aV,bJ⟩ | ⟨_,aV,_⟩
 ·exact ⟨aI,aV,bJ⟩
 ·omega
end
end
end Go.Proofs.YtlikikpgmmkjbaaGreat
