import Derived.Test.YtlikikpgmmkjbaaGreatPackM
set_option linter.unusedVariables false
set_option linter.unusedSimpArgs false
set_option maxRecDepth 100000
set_option maxHeartbeats 4000000
open Go.RowKit
namespace Go.Proofs.YtlikikpgmmkjbaaGreat
open Tryz
abbrev aUc:=@List.cons.injEq
abbrev aUV:=@Nat.two_pow_pos
abbrev aUY:=@Go.Lib.extract_data
abbrev aUZ:=@Go.Lib.cell_of_heap
abbrev aVQ:=@Go.bits_nat
abbrev aVW:=@Nat.mod_two_eq_zero_or_one
abbrev aV5:=@Go.Oper.upon_value
abbrev aV9:=@List.take_append_getElem
abbrev aWf:=@Option.map_eq_some_iff
abbrev aWl:=@List.drop_eq_nil_of_le
abbrev aWn:=@List.singleton_append
abbrev aWu:=@Go.run_convert_bytes_back
abbrev aWC:=@Nat.and_one_is_mod
abbrev aWF:=@BitVec.xor_allOnes
end Go.Proofs.YtlikikpgmmkjbaaGreat
namespace Go.Proofs.YtlikikpgmmkjbaaGreat.Pack
open Tryz
open Go.RowKit Go.Proofs.YtlikikpgmmkjbaaGreat.fy

theorem aye:(prog.info? 5).map (fun i=>(i.zero,i.size,i.bytes))=some (some (.int .u8 0),1,1):=by kernel_rfl
def cells (l:List UInt8):List Value:=l.map fun b=>Value.int .u8 (b.toNat:Int)
theorem ac8 (l:List UInt8) (b:UInt8):cells (l++ [b])=cells l++ [Value.int .u8 (b.toNat:Int)]:=by unfold cells;simp
theorem aqD (l:List UInt8) (i:Nat) (h:i<l.length):(cells l)[i]? =some (.int .u8 (l[i].toNat:Int)):=by unfold cells;simp [h]
def strOf (l:List UInt8):ByteArray:=⟨l.toArray⟩
theorem ID (l:List UInt8):(strOf l).size=l.length:=by
 show l.toArray.size=_;simp
theorem xW (l:List UInt8):(strOf l).data.toList=l:=rfl

theorem aAK (n:Nat):bits BinOp.or IntKind.u8 ((n:Int) % 256) 128=(((UInt8.ofNat (n % 128+128)).toNat:Nat):Int):=by
 have e:((n:Int) % 256)=((n % 256:Nat):Int):=by omega
 have κ:n % 256<256:=aTY _ (by decide);have key:∀ x:Fin 256,(x.val ||| 128)=x.val % 128+128:=by decide +kernel
 have aa:=key ⟨n % 256,κ⟩;simp only at aa;rw [e,show (128:Int)=((128:Nat):Int) from rfl,(aVQ .u8 8 (by decide) wraps_u8 _ _ (by omega) (by decide)).2,aa];simp only [aST];omega

theorem aqY (w:World) (base g n cap:Nat) (l:List UInt8) (hn:n=l.length) (h:w.ownsRow base 5 1 (.slice (some ⟨g,0,none⟩) n cap) n (cells l)):
  (convert 76 9 (.slice (some ⟨g,0,none⟩) n cap)).run prog w= .ok (.string (strOf l)) w:=by
 subst hn;refine aWu (P:=prog) w 76 9 5 ⟨g,0,none⟩ cap l underlying76 underlying5 underlying9 ?_;intro j ay;rw [ack,h.cellAt j (by omega),aqD l j ay]

theorem Rw (n:Nat) (hn:n<18446744073709551616) (x:Int) (hx:x=n) (w:World):
  Calls prog 130 #[.int .u64 x] w fun e w'=>e= .returned (.string (strOf (dZ n)))∧Below w.heap.size w w':=by
 subst hx;obtain ⟨i0,ar,oW,qH,qI⟩:=aUk aye;have fa:=aRV (Fj hn);clear hn;go_enter func130,ntmps130;go_wp2_with fail
 go_loopw [0,3] (fun x v wr=>∃ (k m:Nat) (acc:List UInt8),k≤9∧x= .int .u64 (m:Int)∧Hid (m<128 ^ (k+1))∧Hid (acc++kc k m=dZ n)∧wr.ownsRow w.heap.size 5 1 v acc.length (cells acc)∧Below w.heap.size w wr) (fun x _ _=>(intOf x).toNat)
 case atStart=>exact ⟨9,n, [],aR3 _,rfl,fa,rfl,World.ownsRow_nil _ _ _ _,aSm _ _⟩
 case round =>
  obtain ⟨k,m,acc,av,rfl,k1,jo,fg,Φ⟩:=hrel;by_cases bC:128≤m
  ·obtain ⟨k',rfl⟩:∃ k',k=k'+1:=by
    cases k with
    | zero=>have:=k1.out;simp at this;omega
    | succ k'=>exact ⟨k',rfl⟩
   obtain ⟨b,aM⟩:∃ b,Hid (b=UInt8.ofNat (m % 128+128)):=⟨_,aRV rfl⟩;have QC:=aAK m;rw [← aM.out] at QC;have wK:Hid ((acc++ [b])++kc k' (m / 128)=dZ n):=by
    show _=_;rw [← jo.out,A_ (by omega),← aM.out,aSw];rfl
   have Gx:Hid (m / 128<128 ^ (k'+1)):=Is k1.out;have avw:acc.length≤9:=by
    have κ:=(Ba n).1;have aa:=aS4 List.length wK.out;have aw:=(Yz k' (m / 128)).2;simp at aa;omega
   have K2:=Φ.alloc Φ.size (.cells #[.int .u8 (b.toNat:Int)] 5);go_wp2_with (at_builtin;refine wpList_append_own _ rfl _ _ 76 rfl w.heap.size 5 i0 (.int .u8 0) 1 1 underlying76 ar oW qH qI rfl (by decide) _ acc.length (cells acc) rfl (fg.alloc _) ⟨wr.heap.size,0,none⟩ 1 1 [.int .u8 (b.toNat:Int)] rfl rfl ?d1 ?d2 ?d3 ?d4 ?d5 ?_)
   case d1 =>
    intro j u ay
    match j,ay with
    | 0,ay=>simp at ay;subst ay;simp [Addr.add]
   case d2=>intro u hu;simp at hu;subst hu;rfl
   case d3=>unfold maxLen;omega
   case d4=>omega
   case d5=>have:=Φ.size;simp;omega
   intro v' aW xu jF _;have cQ:=K2.grown jF (by have:=Φ.size;simp;omega) (fun q I=>(fg.lt q I).1);rw [← ac8,show acc.length+1=(acc++ [b]).length by simp] at xu;clear jF fg K2 Φ;go_wp2_with fail
   go_roundw
   case rel=>exact ⟨k',m / 128,acc++ [b],by omega,by go_num,Gx,wK,xu,cQ⟩
   case measure=>simp [intOf];omega
  ·have ha:acc++ [UInt8.ofNat m]=dZ n:=by rw [← jo.out,A' (by omega)]
   have agK:(UInt8.ofNat m).toNat=m:=by rw [aST];omega
   have avw:acc.length≤9:=by
    have κ:=(Ba n).1;have aa:=aS4 List.length ha;simp at aa;omega
   have anS:=aRV agK;have wK:=aRV ha;have K2:=Φ.alloc Φ.size (.cells #[.int .u8 (m:Int)] 5);clear ha agK;go_wp2_with (at_builtin;refine wpList_append_own _ rfl _ _ 76 rfl w.heap.size 5 i0 (.int .u8 0) 1 1 underlying76 ar oW qH qI rfl (by decide) _ acc.length (cells acc) rfl (fg.alloc _) ⟨wr.heap.size,0,none⟩ 1 1 [.int .u8 (m:Int)] rfl rfl ?c1 ?c2 ?c3 ?c4 ?c5 ?_)
   case c1 =>
    intro j u ay
    match j,ay with
    | 0,ay=>simp at ay;subst ay;simp [Addr.add]
   case c2=>intro u hu;simp at hu;subst hu;rfl
   case c3=>unfold maxLen;omega
   case c4=>omega
   case c5=>have:=Φ.size;simp;omega
   intro v' aW xu jF _;have cQ:=K2.grown jF (by have:=Φ.size;simp;omega) (fun q I=>(fg.lt q I).1);have af8:cells acc++ [Value.int .u8 (m:Int)]=cells (dZ n):=by rw [← wK.out,ac8,anS.out]
   have hlen:acc.length+1=(dZ n).length:=by rw [← wK.out];simp
   rw [af8,hlen] at xu;have hex:∃ g cap,v'= .slice (some ⟨g,0,none⟩) (dZ n).length cap:=by
    rcases xu.2 with ⟨_,h⟩ | ⟨g,cap,cur,h,_⟩
    ·omega
    ·exact ⟨g,cap,h⟩
   obtain ⟨g,cap,hv⟩:=hex;rw [hv] at xu ⊢;have hcv:=aqY aW _ g _ cap (dZ n) rfl xu;clear hv jF fg K2 Φ af8 hlen xu;go_wp2_with fail
   go_ret;exact ⟨Z,cQ⟩

theorem MI {a b:Int} (h:a=b):Ending.returned (.int .u64 a)= .returned (.int .u64 b):=by rw [h]
theorem aFt (n:Nat) (h:n<18446744073709551616):n ^^^ 18446744073709551615=18446744073709551615 - n:=by
 have e:(BitVec.ofNat 64 n ^^^ BitVec.allOnes 64).toNat=(~~~(BitVec.ofNat 64 n)).toNat:=by rw [aWF]
 rw [BitVec.toNat_xor,BitVec.toNat_not,aTx,BitVec.toNat_allOnes,aS9 h] at e;exact e
theorem at8 (x:Int) (aG: -9223372036854775808≤x) (κ:x≤9223372036854775807) (w:World):
  Calls prog 131 #[.int .i64 x] w fun e w'=>e= .returned (.int .u64 (oQ x))∧w=w':=by
 by_cases hx:0≤x
 ·go_enter func131,ntmps131;go_wp2
  go_ret;refine ⟨MI ?_,Z⟩;have e:x / 9223372036854775808=((0:Nat):Int):=by omega
  obtain ⟨m,rfl⟩:=aTJ hx;rw [e,show ((m:Int) * 2)=((m * 2:Nat):Int) by omega,u64_xor_nat _ _ (by omega) (by omega),Nat.xor_zero];unfold oQ;rw [aR5 hx];omega
 ·go_enter func131,ntmps131;go_wp2
  go_ret;refine ⟨MI ?_,Z⟩;have axQ:¬ 0≤x:=by omega
  have e:IntKind.u64.wrap (x / 9223372036854775808)=((18446744073709551615:Nat):Int):=by rw [aS2];omega
  have bl:IntKind.u64.wrap (IntKind.u64.wrap x * 2)=(((2 * x+18446744073709551616).toNat:Nat):Int):=by rw [aS2,aS2];omega
  rw [e,bl,u64_xor_nat _ _ (by omega) (by omega)];unfold oQ;rw [aR0 axQ];have cH:(2 * x+18446744073709551616).toNat ^^^ 18446744073709551615=18446744073709551615 - (2 * x+18446744073709551616).toNat:=by
   exact aFt _ (by omega)
  rw [cH];omega

theorem amF (n:Int) (axV:0≤n) (h₁:n<2 ^ 64):IntKind.u64.wrap n=n:=by rw [aS2];omega
theorem apk (b:UInt8):bits BinOp.and IntKind.u8 (b.toNat:Int) 127=((b.toNat % 128:Nat):Int):=by
 have h:=bits_mask .u8 8 (by decide) wraps_u8 7 (by decide) (b.toNat:Int) (aTP _) (by have:=b.toNat_lt;omega);simpa using h
theorem Zd (l:List UInt8) (b:UInt8) (k:Nat) (av:k=l.length) (awr:k≤9):
  bits BinOp.or IntKind.u64 ((val l % 18446744073709551616:Nat):Int) (((b.toNat % 128:Nat):Int) * 2 ^ (7 * k) % 18446744073709551616)=((val (l++ [b]) % 18446744073709551616:Nat):Int):=by
 subst av;have hp:(128:Nat) ^ l.length=2 ^ (7 * l.length):=by rw [show (128:Nat)=2 ^ 7 from rfl,← Nat.pow_mul]
 have hv:=aEj l;have hle:(128:Nat) ^ l.length≤128 ^ 9:=Nat.pow_le_pow_right (by decide) awr;have CX:val l<18446744073709551616:=aTw hv (aSn hle (by decide));rw [aEm,aS9 CX,hp];have Φ:b.toNat % 128<128:=aTY _ (by decide);generalize b.toNat % 128=d at *
 obtain ⟨r,hr⟩:∃ r,64=7 * l.length+r:=⟨64 - 7 * l.length,by omega⟩;have UK:18446744073709551616=2 ^ (7 * l.length) * 2 ^ r:=by rw [← Nat.pow_add,← hr]
 have bc:((d:Int) * 2 ^ (7 * l.length) % 18446744073709551616)=((2 ^ (7 * l.length) * (d % 2 ^ r):Nat):Int):=by
  rw [← Nat.mul_mod_mul_left,← UK,Int.natCast_emod,Int.natCast_mul,Int.natCast_pow,Int.mul_comm];rfl
 rw [hp] at hv;have aa:2 ^ (7 * l.length) * (d % 2 ^ r)<18446744073709551616:=by
  rw [UK];exact Nat.mul_lt_mul_of_pos_left (aTY _ (aUV _)) (aUV _)
 have bl:(val l+2 ^ (7 * l.length) * d) % 18446744073709551616=2 ^ (7 * l.length) * (d % 2 ^ r)+val l:=by
  rw [UK,Nat.mod_mul,Nat.add_mul_mod_self_left,aS9 hv,Nat.add_mul_div_left _ _ (aUV _),aVK hv,aS5,aVz]
 rw [bc,bl,(aVQ .u64 64 (by decide) amF _ _ CX aa).2];rw [Nat.two_pow_add_eq_or_of_lt hv,Nat.or_comm]

theorem MH {a a':Int} {b pH:ByteArray} {c b8:Int} (κ:a=a') (aa:b=pH) (aw:c=b8):Ending.returned (.tuple #[.int .u64 a, .string b, .int .i64 c])= .returned (.tuple #[.int .u64 a', .string pH, .int .i64 b8]):=by rw [κ,aa,aw]
def anO (l:List UInt8) (w:World) (e:Ending) (w':World):Prop :=
 ∃ (n:Nat) (rest:List UInt8) (k:Int),JB l n rest k∧e= .returned (.tuple #[.int .u64 (n:Int), .string (strOf rest), .int .i64 k])∧Below w.heap.size w w'

theorem afn (s:ByteArray) (hs:s.size≤9223372036854775807) (w:World):Calls prog 119 #[.string s] w (anO s.data.toList w):=by
 go_enter func119,ntmps119;go_wp2_with fail
 go_loopw [5,6] (fun v i wr=>∃ k:Nat,k≤s.size∧k≤10∧i= .int .i64 k∧v= .int .u64 ((val (s.data.toList.take k) % 18446744073709551616:Nat):Int)∧Hid (∀ i (h:i<s.data.toList.length),i<k→128≤(s.data.toList[i]).toNat)∧Below w.heap.size w wr) (fun _ i _=>s.size - (intOf i).toNat)
 case atStart=>exact ⟨0,aSG _,aSG _,rfl,rfl,fun i h aa=>absurd aa (by omega),aSm _ _⟩
 case round =>
  obtain ⟨k,av,aKs,rfl,rfl,mC,Φ⟩:=hrel;by_cases bC:k<s.size
  ·by_cases PY:k<10
   ·have i_:k<s.data.toList.length:=by simpa using bC
    have Xf:s[k]=s.data.toList[k]:=rfl;have iu:=Zd (s.data.toList.take k) s[k] k (by simp;omega) (by omega);rw [Xf,← aSk i_,← Xf] at iu;have aa4:bits BinOp.or IntKind.u64 ((val (s.data.toList.take k) % 18446744073709551616:Nat):Int) (IntKind.u64.wrap (IntKind.u64.wrap (bits BinOp.and IntKind.u8 (s[k].toNat:Int) 127) * 2 ^ (7 * k)))=((val (s.data.toList.take (k+1)) % 18446744073709551616:Nat):Int):=by
     rw [← iu,apk,aS2,aS2];congr 3;omega
    obtain ⟨M',Gw⟩:∃ M',Hid (val (s.data.toList.take (k+1)) % 18446744073709551616=M'):=⟨_,aRV rfl⟩;have KJ:M'<18446744073709551616:=by rw [← Gw.out];exact aTY _ (by decide)
    rw [Gw.out] at aa4;generalize val (s.data.toList.take k) % 18446744073709551616=M at aa4 ⊢;have aM:=aRV KJ;clear Xf iu KJ;by_cases VP:128≤s[k].toNat
    ·go_wp2_with fail
     go_roundw
     case rel =>
      refine ⟨k+1,by omega,by omega,by go_num,by rw [Gw.out], ?_,Φ⟩;intro i h ar;by_cases lY:i=k
      ·subst lY;exact VP
      ·exact mC.out i h (by omega)
     case measure=>simp [intOf];omega
    ·have pW:k+1≤s.size:=bC;have gl:(0:Int)≤(k:Int)+1:=by omega
     have WN:(k:Int)+1≤(s.size:Int):=by omega
     have awq:IntKind.i64.wrap ((k:Int)+1)=(k:Int)+1:=IntWalk.i64_in _ (by omega);have aKt:((k:Int)+1).toNat=k+1:=by omega
     by_cases hp:dZ M'=s.data.toList.take (k+1)
     ·have I:((strOf (dZ M')).toList == (s.extract 0 (k+1)).toList)=true:=acQ (Ue (by rw [xW,aUY,aUl,hp];rfl));have zX:=aRV hp;clear hp;go_wp2_with fail
      go_region_held3 (fun l6=>Below w.heap.size w l6) (first | exact Φ.drew | exact Φ.drew.trans (by assumption) | assumption) ((go_at_call 130;refine (Rw M' aM.out _ rfl _).mono ?_;rintro e w' ⟨rfl,bw⟩;have dG:=Φ.drew.trans (bw.mono Φ.size)))
      clear Φ bw I;go_wp2_with fail
      go_quiet (fail)
      go_wp2_with fail
      go_ret3
      refine ⟨M',s.data.toList.drop (k+1),0, .inl ⟨k,PY,i_,mC.out,fun _=>by have:=VP;show s[k].toNat<128;omega, .inl ⟨by rw [Gw.out];exact zX.out,Gw.out.symm,rfl,rfl⟩⟩,MH Z (Ue ?_) Z,below_drewN (by assumption) _⟩;rw [xW,aUY,aSh (by simp)]
     ·have I:((strOf (dZ M')).toList == (s.extract 0 (k+1)).toList)=false:=acP (fun h=>hp (by
       have aa:=aS4 (fun x:ByteArray=>x.data.toList) h;simp only [xW,aUY,aUl] at aa;exact aa))
      have zX:=aRV hp;clear hp;go_wp2_with fail
      go_region_held3 (fun l6=>Below w.heap.size w l6) (first | exact Φ.drew | exact Φ.drew.trans (by assumption) | assumption) ((go_at_call 130;refine (Rw M' aM.out _ rfl _).mono ?_;rintro e w' ⟨rfl,bw⟩;have dG:=Φ.drew.trans (bw.mono Φ.size)))
      clear Φ bw I;go_wp2_with fail
      go_ret3
      exact ⟨0, [],4, .inl ⟨k,PY,i_,mC.out,fun _=>by have:=VP;show s[k].toNat<128;omega, .inr ⟨by rw [Gw.out];exact zX.out,rfl,rfl,rfl⟩⟩,MH Z Z Z,by assumption⟩
   ·have awp:k=10:=by omega
    subst awp;have hlen:¬ (s.size:Int)<10:=by omega
    go_wp2_with fail
    go_ret3
    exact ⟨0, [],4, .inr (.inr ⟨by simp;have e:s.data.size=s.size:=rfl;omega,fun i h ar=>mC.out i h ar,rfl,rfl,rfl⟩),MH Z Z Z,Φ⟩
  ·have Qp:k=s.size:=by omega
   have dF:∀ i (h:i<s.data.toList.length),i<k:=by
    intro i h;have e:s.data.toList.length=s.size:=by simp
    omega
   have e:s.data.toList.length=s.size:=by simp
   by_cases PY:s.size<10
   ·have jq:=aRV e;have jo:=aRV dF;have hY:=aRV Qp;clear e dF Qp;have hlen:(s.size:Int)<10:=by omega
    have uf:(s.size:Int)≤(k:Int):=by omega
    go_wp2_with fail
    go_ret3
    exact ⟨0, [],3, .inr (.inl ⟨by have:=jq.out;omega,fun i h=>mC.out i h (jo.out i h),rfl,rfl,rfl⟩),MH Z Z Z,Φ⟩
   ·have jq:=aRV e;have jo:=aRV dF;have hY:=aRV Qp;clear e dF Qp;have hlen:¬ (s.size:Int)<10:=by omega
    have uf:(s.size:Int)≤(k:Int):=by omega
    go_wp2_with fail
    go_ret3
    exact ⟨0, [],4, .inr (.inr ⟨by have:=jq.out;omega,fun i h ar=>mC.out i h (jo.out i h),rfl,rfl,rfl⟩),MH Z Z Z,Φ⟩
end Go.Proofs.YtlikikpgmmkjbaaGreat.Pack
namespace Go.Proofs.YtlikikpgmmkjbaaGreat
open Tryz
section
def vh (l:List Int):List Value:=l.map (Value.int .i64)
theorem ac6 (l:List Int) (i:Nat) (h:i<l.length):(vh l)[i]? =some (.int .i64 l[i]):=by unfold vh;simp [h]
theorem aqA (l:List Int) (x:Int):vh (l++ [x])=vh l++ [.int .i64 x]:=by unfold vh;simp
def N9 (_:Nat) (u:Value):Prop:=∃ n:Int,u= .int .i64 n
theorem ayd:(prog.info? 3).map (fun i=>(i.zero,i.size,i.bytes))=some (some (.int .i64 0),1,8):=by kernel_rfl
def sA (l:List Int):Prop:=∀ x∈l, -9223372036854775808≤x∧x≤9223372036854775807
end
end Go.Proofs.YtlikikpgmmkjbaaGreat
namespace Go.Proofs.YtlikikpgmmkjbaaGreat.Pack
open Tryz
open Go.Proofs.YtlikikpgmmkjbaaGreat Go.Proofs.YtlikikpgmmkjbaaGreat.fy

theorem aBH (k x y:Nat) (u v:List UInt8) (hx:x<128 ^ (k+1)) (aK:y<128 ^ (k+1)) (h:kc k x++u=kc k y++v):x=y∧u=v:=by
 induction k generalizing x y with
 | zero =>
  simp only [kc,aWn,aUc] at h;have:=aS4 UInt8.toNat h.1;simp only [aST] at this;simp at hx aK;exact ⟨by omega,h.2⟩
 | succ k bF =>
  by_cases κ:x<128
  ·by_cases aa:y<128
   ·rw [A' κ,A' aa] at h;simp only [aWn,aUc] at h;have:=aS4 UInt8.toNat h.1;simp only [aST] at this;exact ⟨by omega,h.2⟩
   ·rw [A' κ,A_ aa] at h;simp only [aTI,aUc] at h;have:=aS4 UInt8.toNat h.1;simp only [aST] at this;omega
  ·by_cases aa:y<128
   ·rw [A_ κ,A' aa] at h;simp only [aTI,aUc] at h;have:=aS4 UInt8.toNat h.1;simp only [aST] at this;omega
   ·rw [A_ κ,A_ aa] at h;simp only [aTI,aUc] at h;have e:=aS4 UInt8.toNat h.1;simp only [aST] at e;obtain ⟨aw,a6⟩:=bF (x / 128) (y / 128) (Is hx) (Is aK) h.2;exact ⟨by omega,a6⟩
theorem Rv {x y:Nat} {u v:List UInt8} (hx:x<18446744073709551616) (aK:y<18446744073709551616) (h:dZ x++u=dZ y++v):x=y∧u=v:=aBH 9 x y u v (Fj hx) (Fj aK) h
theorem afo {l:List UInt8} {n:Nat} {rest:List UInt8} (h:JB l n rest 0):l=dZ n++rest∧n<18446744073709551616:=by
 rcases h with ⟨k,av,i_,_,_,⟨κ,aa,aw,_⟩ | ⟨_,_,_,h⟩⟩ | ⟨_,_,_,_,h⟩ | ⟨_,_,_,_,h⟩
 ·subst aa;subst aw;exact ⟨by rw [κ,aTT],aTY _ (by decide)⟩
 all_goals cases h
theorem at2 {n k:Nat} {r:List UInt8} (hn:n<18446744073709551616) (av:k<(dZ n++r).length) (fS:∀ i (h:i<(dZ n++r).length),i<k→128≤((dZ n++r)[i]).toNat) (aB:((dZ n++r)[k]).toNat<128):k+1=(dZ n).length:=by
 have κ:=(Ba n).2;rcases aWI (k+1) (dZ n).length with h | h | h
 ·rw [aT8 (by omega)] at aB;have:=aBG 9 n k (Fj hn) h (by show k<(dZ n).length;omega);have e:(kc 9 n)[k]'(by show k<(dZ n).length;omega)=(dZ n)[k]'(by omega):=rfl;rw [e] at this;omega
 ·exact h
 ·have aa:=fS ((dZ n).length - 1) (by simp;omega) (by omega);rw [aT8 (by omega)] at aa;have:=akq 9 n (Fj hn) ((dZ n).length - 1) (by show _<(dZ n).length;omega) (by show _=(dZ n).length;omega);have e:(kc 9 n)[(dZ n).length - 1]'(by show _<(dZ n).length;omega)=(dZ n)[(dZ n).length - 1]'(by omega):=rfl;rw [e] at this;omega
theorem AB {n:Nat} {r:List UInt8} {m:Nat} {rest:List UInt8} {e:Int} (hn:n<18446744073709551616) (h:JB (dZ n++r) m rest e):m=n∧rest=r∧e=0:=by
 have hlen:=Ba n;have i':∃ i,∃ ar:i<(dZ n++r).length,i<10∧((dZ n++r)[i]).toNat<128:=by
  refine ⟨(dZ n).length - 1,by simp;omega,by omega, ?_⟩;rw [aT8 (by omega)];exact akq 9 n (Fj hn) ((dZ n).length - 1) (by show _<(dZ n).length;omega) (by show _=(dZ n).length;omega)
 rcases h with ⟨k,av,i_,fS,aB,h⟩ | ⟨_,dF,_⟩ | ⟨_,dF,_⟩
 ·have pW:=at2 hn i_ fS (aB i_);have aE:(dZ n++r).take (k+1)=dZ n:=by rw [pW,aVa]
  have hv:val (dZ n) % 18446744073709551616=n:=by rw [aEl n hn,aS9 hn]
  rw [aE,hv] at h;rcases h with ⟨_,aa,aw,a6⟩ | ⟨κ,_⟩
  ·refine ⟨aa, ?_,a6⟩;rw [aw,pW,List.drop_left]
  ·exact absurd Z κ
 ·obtain ⟨i,ar,_,i'⟩:=i';have:=dF i ar;omega
 ·obtain ⟨i,ar,awb,i'⟩:=i';have:=dF i ar awb;omega
def we (n:Nat):Int:=if n % 2=0 then ((n / 2:Nat):Int) else -((n / 2:Nat):Int) - 1
theorem aub (n:Nat):oQ (we n)=n:=by
 unfold oQ we;split<;>split<;>omega
theorem al4 (x:Int):we (oQ x)=x:=by
 unfold oQ we;split<;>split<;>omega
theorem PQ (x:Int) (aG: -9223372036854775808≤x) (κ:x≤9223372036854775807):oQ x<18446744073709551616:=by
 unfold oQ;split<;>omega
theorem aD7 (n:Nat) (h:n<18446744073709551616): -9223372036854775808≤we n∧we n≤9223372036854775807:=by
 unfold we;split<;>omega
def items (l:List Int):List UInt8:=l.flatMap fun x=>dZ (oQ x)
def qU (l:List Int):List UInt8:=dZ l.length++items l
theorem LN (x:Int) (l:List Int):items (x::l)=dZ (oQ x)++items l:=rfl
theorem ayo (a b:List Int):items (a++b)=items a++items b:=by unfold items;rw [aTc]
theorem ahA (a:List Int) (x:Int):items (a++ [x])=items a++dZ (oQ x):=by rw [ayo,LN];simp [items]
theorem Xv (l:List Int):(items l).length≤10 * l.length:=by
 induction l with
 | nil=>simp [items]
 | cons x l bF=>rw [LN];have:=(Ba (oQ x)).1;simp;omega
theorem at7 {x y:Int} (h:oQ x=oQ y):x=y:=by rw [← al4 x,h,al4]
theorem QT:∀ (a b:List Int) (s:List UInt8),sA a→sA b→a.length≤b.length→items a++s=items b→a=b.take a.length∧s=items (b.drop a.length)
 | [],b,s,_,_,_,h=>⟨by simp,by simpa [items] using h⟩
 | x::a, [],s,_,_,aB,_=>by simp at aB
 | x::a,y::b,s,ha,Φ,aB,h=>by
  rw [LN,LN,aSw] at h;have hx:=ha x (by simp);have aK:=Φ y (by simp);obtain ⟨κ,aa⟩:=Rv (PQ x hx.1 hx.2) (PQ y aK.1 aK.2) h;obtain ⟨aw,a6⟩:=QT a b s (fun z bE=>ha z (by simp [bE])) (fun z bE=>Φ z (by simp [bE])) (by simpa using aB) aa;rw [at7 κ];exact ⟨by simp;exact aw,by simpa using a6⟩
def zP (s:List UInt8) (out:List Int) (e:Int):Prop :=
 sA out∧(e=0→s=qU out∧out.length≤1000)∧(e≠0→out= []∧∀ l,sA l→l.length≤1000→s≠qU l)
theorem auK {l out:List Int} {e:Int} (aB:sA l) (κ:l.length≤1000) (h:zP (qU l) out e):e=0∧out=l:=by
 obtain ⟨b7,aa,aw⟩:=h;by_cases he:e=0
 ·obtain ⟨a6,bL⟩:=aa he;unfold qU at a6;obtain ⟨ch,ef⟩:=Rv (by omega) (by omega) a6;obtain ⟨gB,_⟩:=QT l out [] aB b7 (by omega) (by rw [aSu];exact ef);rw [ch,aSA] at gB;exact ⟨he,gB.symm⟩
 ·exact absurd Z ((aw he).2 l aB κ)
theorem acC {s:List UInt8} {n:Nat} {r:List UInt8} {e:Int} (h:JB s n r e) (he:e≠0∨1000<n) {k:Int} (av:k≠0):zP s [] k:=by
 refine ⟨fun x hx=>(by cases hx),fun h=>absurd h av,fun _=>⟨Z,fun l aB κ hs=> ?_⟩⟩;subst hs;obtain ⟨aa,_,aw⟩:=AB (by omega) h;rcases he with he | he
 ·exact he aw
 ·omega
theorem apD {s:List UInt8} {n:Nat} {out:List Int} {r:List UInt8} {m:Nat} {r':List UInt8} {e:Int} (hs:s=dZ n++(items out++r)) (hn:n<18446744073709551616) (b7:sA out) (bC:out.length<n) (h:JB r m r' e) (he:e≠0):zP s [] e:=by
 refine ⟨fun x hx=>(by cases hx),fun h=>absurd h he,fun _=>⟨Z,fun l aB κ gD=> ?_⟩⟩;rw [gD] at hs;unfold qU at hs;obtain ⟨aa,aw⟩:=Rv (by omega) hn hs;obtain ⟨a6,bL⟩:=QT out l r b7 aB (by omega) aw.symm;have ch:l.drop out.length=l[out.length]'(by omega)::l.drop (out.length+1):=aTB (by omega);rw [ch,LN] at bL;subst bL;have hx:=aB (l[out.length]'(by omega)) (aS0 _);exact he (AB (PQ _ hx.1 hx.2) h).2.2
theorem apC {s:List UInt8} {n:Nat} {out:List Int} {r:List UInt8} (hs:s=dZ n++(items out++r)) (hn:n<18446744073709551616) (b7:sA out) (bC:out.length=n) (hr:r≠ []) {k:Int} (av:k≠0):zP s [] k:=by
 refine ⟨fun x hx=>(by cases hx),fun h=>absurd h av,fun _=>⟨Z,fun l aB κ gD=> ?_⟩⟩;rw [gD] at hs;unfold qU at hs;obtain ⟨aa,aw⟩:=Rv (by omega) hn hs;obtain ⟨a6,bL⟩:=QT out l r b7 aB (by omega) aw.symm;rw [aWl (by omega)] at bL;exact hr bL
theorem auJ {s:List UInt8} {n:Nat} {out:List Int} (hs:s=dZ n++(items out++ [])) (b7:sA out) (bC:out.length=n) (hn:n≤1000):zP s out 0 :=
 ⟨b7,fun _=>⟨by rw [hs,aSu,← bC];rfl,by omega⟩,fun h=>absurd rfl h⟩
end Go.Proofs.YtlikikpgmmkjbaaGreat.Pack
namespace Go.Proofs.YtlikikpgmmkjbaaGreat
open Tryz
end Go.Proofs.YtlikikpgmmkjbaaGreat
namespace Go.Proofs.YtlikikpgmmkjbaaGreat.Pack
open Tryz
open Go.RowKit Go.Proofs.YtlikikpgmmkjbaaGreat

theorem alc:(prog.info? 212).map (·.size)=some 2:=by kernel_rfl
theorem azd:liesAt prog prog.depth 212 (2 / prog.cellsOf 212) 0 212 1=true:=by kernel_rfl
theorem infoByte:(prog.info? 5).map (fun i=>(i.zero,i.size,i.bytes))=some (some (.int .u8 0),1,1):=by kernel_rfl
theorem aqJ (b:Nat) (w:World) (aG:w.cell? ⟨b,0,none⟩=some (.pointer (some ⟨b,0,none⟩))):
  Calls prog 160 #[.pointer (some ⟨b,0,none⟩)] w fun e w'=>e= .returned (.tuple #[])∧w'=w:=by
 obtain ⟨j,ay,_⟩:=aWf.1 alc;go_enter func160,ntmps160;go_wp2
 rw [Lib.run_neq_ptr_same w _ underlying210 ay];go_wp2
 go_end0
 exact ⟨Z,Z⟩
theorem aqI (b:Nat) (w:World) (aG:w.cell? ⟨b,0,none⟩=some (.pointer none)) (QH:w.shape? b=some (212,2)) (av6:w.frozen? ⟨b,0,none⟩=false):
  Calls prog 160 #[.pointer (some ⟨b,0,none⟩)] w fun e w'=>e= .returned (.tuple #[])∧w'=w.setCell ⟨b,0,none⟩ (.pointer (some ⟨b,0,none⟩)):=by
 obtain ⟨j,ay,awn⟩:=aWf.1 alc;go_enter func160,ntmps160;go_wp2
 rw [Lib.run_to_unsafe w ⟨b,0,none⟩ underlying210 underlying287 ay (by rw [awn];decide) QH (Nat.zero_lt_succ 1)];simp only [Result.andThen];rw [aV5];go_wp2
 rw [run_callFunc_extern func192 (by kernel_rfl) (by kernel_rfl) (by kernel_rfl) (e:=Extern.AbiNoEscape.same) (by kernel_rfl)];rw [Lib.run_noEscape];simp only [Result.andThen];rw [aV5];go_wp2
 rw [Lib.run_from_unsafe w ⟨b,0,none⟩ underlying287 underlying210 ay QH azd];simp only [Result.andThen];rw [aV5];go_wp2
 go_end0
 exact ⟨Z,Z⟩
theorem Ch (B b:Nat) (cV:List Value) (w:World) (h:Lib.IsBuilder 212 5 B b cV w):
  Calls prog 160 #[.pointer (some ⟨b,0,none⟩)] w fun e w'=>e= .returned (.tuple #[])∧(Lib.BuilderAt 212 5 B b (.pointer (some ⟨b,0,none⟩)) cV w'∧Below B w w'):=by
 rcases h with h | h
 ·refine (aqI b w h.cell0 h.shape h.frozen0).mono ?_;rintro e w' ⟨rfl,rfl⟩;exact ⟨Z,h.used _,(aSm B w).setCell (p:=⟨b,0,none⟩) h.1 _⟩
 ·refine (aqJ b w h.cell0).mono ?_;rintro e w' ⟨rfl,rfl⟩;exact ⟨Z,h,aSm B _⟩
theorem amG (B b:Nat) (cV:List Value) (s:ByteArray) (w:World) (h:Lib.IsBuilder 212 5 B b cV w) (hlen:cV.length+s.size≤140737488355328) (afy:B≤w.heap.size):
  Calls prog 129 #[.pointer (some ⟨b,0,none⟩), .string s] w fun e w'=>e= .returned (.tuple #[.int .i64 s.size, .nilIface])∧(Lib.BuilderAt 212 5 B b (.pointer (some ⟨b,0,none⟩)) (cV++Lib.strCells s) w'∧Below B w w'):=by
 obtain ⟨i0,ar,oW,qH,qI⟩:=aUk infoByte;go_enter func129,ntmps129;go_wp2_with fail
 refine (Ch B b cV _ h).mono ?_;rintro e aW ⟨rfl,κ,cQ⟩;obtain ⟨bg,v,Hz,fg,ff⟩:=κ;have bX:aW.cell? ⟨b,0,none⟩=some (.pointer (some ⟨b,0,none⟩)):=by rw [aUZ Hz];rfl
 have c1:aW.cell? ⟨b,1,none⟩=some v:=by rw [aUZ Hz];rfl
 go_wp2_with (at_builtin;refine Lib.wpList_append_own_string _ rfl _ _ 76 9 rfl B 5 i0 underlying76 underlying9 ar oW qH qI _ _ _ rfl fg s rfl ?c3 ?c4 ?c5 ?_)
 case c3=>unfold maxLen;omega
 case c4=>omega
 case c5=>have:=cQ.size;omega
 intro v' cF xu jF _;have bC:b<aW.heap.size:=by
  rcases aSU b aW.heap.size with c6 | c6
  ·exact c6
  ·simp [aSR c6] at Hz
 have bw:cF.heap[b]? =some (.cells #[.pointer (some ⟨b,0,none⟩),v] 212 (0,0)):=by
  rw [jF.block b bC (fun e=>ff e.symm)];exact Hz
 have d0:cF.cell? ⟨b,0,none⟩=some (.pointer (some ⟨b,0,none⟩)):=by rw [aUZ bw];rfl
 have d1:cF.cell? ⟨b,1,none⟩=some v:=by rw [aUZ bw];rfl
 have f1:cF.frozen? ⟨b,1,none⟩=false:=Lib.frozen_of_heap bw 1;obtain ⟨acp,jJ,cap,rfl⟩:∃ acp jJ cap,v'= .slice acp jJ cap:=by
  rcases xu.2 with ⟨hv,_⟩ | ⟨g,cap,cur,hv,_⟩
  ·exact ⟨_,_,_,hv⟩
  ·exact ⟨_,_,_,hv⟩
 go_wp2
 go_ret2
 refine ⟨Z, ?_, ?_⟩
 ·exact Lib.BuilderAt.put (T:= 212) (e:= 5) bg bw (bs':=cV++Lib.strCells s) (by simpa [Lib.strCells_length] using xu) (by decide)
 ·exact (cQ.grown jF (by have:=cQ.size;omega) (fun k av=>(fg.lt k av).1)).setCell (p:=⟨b,1,none⟩) bg _
end Go.Proofs.YtlikikpgmmkjbaaGreat.Pack
namespace Go.Proofs.YtlikikpgmmkjbaaGreat
open Tryz
end Go.Proofs.YtlikikpgmmkjbaaGreat
namespace Go.Proofs.YtlikikpgmmkjbaaGreat.Pack
open Tryz
open Go.RowKit Go.Proofs.YtlikikpgmmkjbaaGreat Go.Proofs.YtlikikpgmmkjbaaGreat.fy

theorem OR (op:BinOp) (a b:Int): -9223372036854775808≤bits op .i64 a b∧bits op .i64 a b≤9223372036854775807:=by
 have h:bits op .i64 a b=IntKind.i64.wrap (bits op .i64 a b):=by
  unfold bits;rw [aU0,aU0];omega
 rw [h,aU0];omega
theorem aeT {x y:Int} (aG: -9223372036854775808≤x) (κ:x≤9223372036854775807) (g0: -9223372036854775808≤y) (g1:y≤9223372036854775807) (h:BitVec.ofInt 64 x=BitVec.ofInt 64 y):x=y:=by
 have e:=aS4 BitVec.toInt h;rw [aVs,aVs] at e;simp only [Int.bmod] at e;omega
theorem aFu (x:Int) (aG: -9223372036854775808≤x) (κ:x≤9223372036854775807):bits .xor .i64 x 0=x:=by
 refine aeT (OR _ _ _).1 (OR _ _ _).2 aG κ ?_;rw [ajV];simp
theorem aFr (x:Int) (aG: -9223372036854775808≤x) (κ:x≤9223372036854775807):bits .xor .i64 x (-1)= -x - 1:=by
 refine aeT (OR _ _ _).1 (OR _ _ _).2 (by omega) (by omega) ?_;rw [ajV];have bc:BitVec.ofInt 64 (-1)=BitVec.allOnes 64:=by decide
 rw [bc,aWF];have bl:(-x - 1:Int)= -x+ -1:=by omega
 rw [bl,BitVec.ofInt_add,BitVec.ofInt_neg,bc];rw [BitVec.not_eq_neg_add,BitVec.sub_eq_add_neg,show -1#64=BitVec.allOnes 64 from by decide]
theorem aD8 (n:Nat) (hn:n<18446744073709551616) (w:World):
  Calls prog 120 #[.int .u64 (n:Int)] w fun e w'=>e= .returned (.int .i64 (we n))∧w=w':=by
 have aa:n / 2<9223372036854775808:=by omega
 have jb:=aFu ((n / 2:Nat):Int) (by omega) (by omega);have j':=aFr ((n / 2:Nat):Int) (by omega) (by omega);have hd:(n:Int) / 2=((n / 2:Nat):Int):=by omega
 have ha:bits .and .u64 (n:Int) 1=((n % 2:Nat):Int):=by
  have h:=(aVQ .u64 64 (by decide) amF n 1 (by omega) (by decide)).1;rw [aWC] at h;exact h
 unfold we;obtain ⟨m,k1⟩:∃ m,Hid (n / 2=m):=⟨_,aRV rfl⟩;rw [k1.out] at aa jb j' hd ⊢;rcases aVW n with h | h
 ·rw [h] at ha ⊢;rw [aR5 rfl];have ha:bits .and .u64 (n:Int) 1=0:=ha;clear h;go_enter func120,ntmps120;go_wp2_with fail
  go_ret;exact ⟨Z,Z⟩
 ·rw [h] at ha ⊢;rw [aR0 (by decide)];have ha:bits .and .u64 (n:Int) 1=1:=ha;clear h;go_enter func120,ntmps120;go_wp2_with fail
  go_ret;exact ⟨Z,Z⟩
theorem Ud {T e:TypeId} {B b:Nat} {p:Value} {cV:List Value} {w w':World} (h:Lib.BuilderAt T e B b p cV w) (Φ:Below w.heap.size w w'):Lib.BuilderAt T e B b p cV w':=by
 have bC:=h.lt;obtain ⟨bg,v,Hz,fg,ff⟩:=h;exact ⟨bg,v,by rw [Φ.block b bC];exact Hz,aAX fg Φ,ff⟩
theorem aBE (A:Option Addr) (n c:Nat) (hn:1000<n) (w:World):
  Calls prog 92 #[.slice A n c] w fun e w'=>e= .returned (.tuple #[.string ⟨#[]⟩, .int .i64 2])∧w=w':=by
 have Qy:(1000:Int)<(n:Int):=by omega
 go_enter func92,ntmps92;go_wp2_with fail
 go_ret2
 exact ⟨Z,Z⟩
theorem ako (A:Option Addr) (n c:Nat) (l:List Int) (aB:l.length=n) (hn:n≤1000) (PZ:sA l) (w:World) (hr:Rd w 1 A n (vh l)):
  Calls prog 92 #[.slice A n c] w fun e w'=>e= .returned (.tuple #[.string (strOf (qU l)), .int .i64 0])∧Below w.heap.size w w':=by
 have bg:Lib.IsBuilder 212 5 w.heap.size w.heap.size [] (w.alloc (.cells #[.pointer none, .slice none 0 0] 212)):=
  .inl ⟨aR3 _, .slice none 0 0,aUF w _,World.ownsRow_nil _ _ _ _,by simp [Value.ownBlock]⟩
 have cC:Below w.heap.size w (w.alloc (.cells #[.pointer none, .slice none 0 0] 212)):=(aSm _ _).alloc (aR3 _) _;have hw:IntKind.u64.wrap (n:Int)=(n:Int):=by rw [aS2];omega
 have qs:=aRV aB;clear aB;go_enter func92,ntmps92;go_wp2_with fail
 refine (Rw n (by omega) _ Z _).mono ?_;rintro e aW ⟨rfl,cQ⟩;have aft:Lib.IsBuilder 212 5 w.heap.size w.heap.size [] aW:=by
  rcases bg with h | h
  ·exact .inl (Ud h cQ)
  ·exact .inr (Ud h cQ)
 have bw:=cC.trans (cQ.mono cC.size);clear bg cQ;have nA:=Ba n;go_wp2_with fail
 refine (amG w.heap.size w.heap.size [] (strOf (dZ n)) aW aft (by rw [ID];simp;omega) bw.size).mono ?_;rintro e cF ⟨rfl,VV,dG⟩;have du:=bw.trans dG;rw [aUa,Lib.strCells_eq,xW] at VV;clear aft bw dG;go_wp2_with fail
 go_loopw [17] (fun i wr=>∃ k:Nat,k≤n∧i= .int .i64 (k:Int)∧Lib.BuilderAt 212 5 w.heap.size w.heap.size (.pointer (some ⟨w.heap.size,0,none⟩)) (Lib.byteCells (dZ n++items (l.take k))) wr∧Below w.heap.size w wr) (fun i _=>n - (intOf i).toNat)
 case atStart=>exact ⟨0,aSG _,rfl,by simpa [items] using VV,du⟩
 case round =>
  clear VV du;obtain ⟨k,av,rfl,bg,Φ⟩:=hrel;by_cases bC:k<n
  ·obtain ⟨b,o,rfl,hc⟩:=hr.2 (by omega);have i_:k<l.length:=by rw [qs.out];exact bC
   have hx:=aqz Φ (hc k _ (ac6 l k i_)) (aTL w _ (hc k _ (ac6 l k i_)));have QN:=PZ l[k] (aS0 i_);have LG:items (l.take (k+1))=items (l.take k)++dZ (oQ l[k]):=by rw [aSk i_,ahA]
   have rb:=aRV LG;generalize l[k]=x at *
   have qE:=PQ x QN.1 QN.2;have av3:=at8 x QN.1 QN.2;have aK6:=Ba (oQ x);have HJ:=Xv (l.take k);have axD:(l.take k).length≤k:=aWy _ _;clear LG;generalize oQ x=y at *
   go_wp2_with fail
   refine (av3 _).mono ?_;rintro e w' ⟨rfl,rfl⟩;go_wp2_with fail
   refine (Rw y qE _ Z _).mono ?_;rintro e qW ⟨rfl,n8⟩;have AD:=Ud bg n8;have Hv:=Φ.trans (n8.mono Φ.size);go_wp2_with fail
   refine (amG w.heap.size w.heap.size _ (strOf (dZ y)) qW (.inr AD) (by rw [ID,Lib.byteCells_length];simp;omega) Hv.size).mono ?_;rintro e Sk ⟨rfl,afv,EV⟩;have Hw:=Hv.trans EV;rw [Lib.strCells_eq,xW,← Lib.byteCells_append,aSw,← rb.out] at afv;clear bg AD Φ n8 Hv EV;go_wp2_with fail
   go_roundw
   case rel=>exact ⟨k+1,by omega,by go_num,afv,Hw⟩
   case measure=>simp [intOf];omega
  ·obtain rfl:k=n:=by omega
   rw [aSh (by rw [qs.out];exact aR3 _)] at bg;go_wp2_with fail
   refine (Builder_String_any w.heap.size w.heap.size (dZ k++items l) wr (.inr bg) Φ.size).mono ?_;rintro e Zv ⟨rfl,Qe⟩;go_wp2_with fail
   go_ret2
   refine ⟨?_,Φ.trans Qe⟩;unfold qU strOf;rw [qs.out];rfl
def anN (s:ByteArray) (w:World) (e:Ending) (w':World):Prop :=
 ∃ (out:List Int) (k:Int) (A:Option Addr) (n c:Nat),zP s.data.toList out k∧e= .returned (.tuple #[.slice A n c, .int .i64 k])∧Own w' w.heap.size 3 1 N9 (.slice A n c) out.length (vh out)∧Below w.heap.size w w'
theorem auz (s:ByteArray) (hs:s.size≤9223372036854775807) (w:World):Calls prog 85 #[.string s] w (anN s w):=by
 obtain ⟨i0,ar,oW,qH,qI⟩:=aUk ayd;go_enter func85,ntmps85;go_wp2_with fail
 refine (afn s hs w).mono ?_;rintro e aW ⟨n,rest,k,bB,rfl,cQ⟩;have k0:=aRV bB;by_cases av:k=0
 ·subst av;obtain ⟨QI,CR⟩:=afo bB;have fp:=aRV QI;have fa:=aRV CR;have ja:rest.length≤s.size:=by
   have h:=aS4 List.length QI;simp at h;have e:s.data.size=s.size:=rfl;omega
  clear QI bB CR;by_cases hn:1000<n
  ·have Qy:(1000:Int)<(n:Int):=by omega
   go_wp2_with fail
   go_ret2
   exact ⟨[],2,none,0,0,acC k0.out (.inr hn) (by decide),Z,Own.nil _ _ _ _ _,cQ⟩
  ·have Qy:¬ (1000:Int)<(n:Int):=by omega
   go_wp2_with fail
   go_loopw [0,5,6,24] (fun S E v i wr=>∃ (j:Nat) (out:List Int) (r:List UInt8),j≤n∧i= .int .u64 (j:Int)∧S= .string (strOf r)∧E= .int .i64 0∧out.length=j∧Own wr w.heap.size 3 1 N9 v j (vh out)∧Below w.heap.size w wr∧
     Hid (s.data.toList=dZ n++(items out++r))∧Hid (sA out)∧r.length≤s.size) (fun _ _ _ i _=>n - (intOf i).toNat)
   case atStart=>exact ⟨0, [],rest,aSG _,rfl,rfl,rfl,rfl,Own.nil _ _ _ _ _,cQ,fp,(fun x hx=>by cases hx),ja⟩
   case round =>
    clear cQ fp ja;obtain ⟨j,out,r,ay,rfl,rfl,rfl,ag0,fg,Φ,fp,mb,aLd⟩:=hrel;have aR:=aRV ag0;clear ag0;by_cases bC:j<n
    ·go_wp2_with fail
     refine (afn (strOf r) (by rw [ID];omega) wr).mono ?_;rintro e cF ⟨m,r2,eD,KG,rfl,bw⟩;rw [xW] at KG;have dG:=Φ.trans (bw.mono Φ.size);by_cases gl:eD=0
     ·subst gl;obtain ⟨W7,Qt⟩:=afo KG;have axG:=aD8 m Qt;have Qf:=aD7 m Qt;have ags:=aub m;have zY:Hid (s.data.toList=dZ n++(items (out++ [we m])++r2)):=by
       show _=_;rw [fp.out,W7,ahA,ags,aSw]
      have an4:Hid (sA (out++ [we m])):=by
       intro x hx;rcases aR6.1 hx with h | h
       ·exact mb.out x h
       ·simp at h;subst h;exact Qf
      have axs:r2.length≤s.size:=by
       have h:=aS4 List.length W7;simp at h;omega
      have ag4:=fg.later bw;have k1:=aRV Qt;clear W7 Qt ags KG Qf fg fp mb;generalize we m=x at *
      have du:=dG.alloc dG.size (.cells #[.int .i64 x] 3);have ag5:=ag4.later ((aSm cF.heap.size cF).alloc (aR3 _) (.cells #[.int .i64 x] 3));have Lx:Rd (cF.alloc (.cells #[.int .i64 x] 3)) 1 (some ⟨cF.heap.size,0,none⟩) 1 [.int .i64 x] :=
       ⟨rfl,fun _=>⟨cF.heap.size,0,rfl,fun q u I=>by
        match q,I with
        | 0,I=>simp at I;subst I;simp⟩⟩
      have abb:=aRV ag5;have aoc:=aRV Lx;clear ag4 ag5 Lx;go_wp2_with fail
      refine (axG _).mono ?_;rintro e w' ⟨rfl,rfl⟩;go_wp2_with (at_builtin;refine I7 _ rfl _ _ 22 rfl w.heap.size 3 i0 (.int .i64 0) 1 8 underlying22 ar oW qH qI rfl (by decide) N9 ?g1 _ j (vh out) rfl abb.out (some ⟨cF.heap.size,0,none⟩) 1 1 [.int .i64 x] rfl aoc.out ?g2 ?g3 ?g4 ?g5 ?g6 ?_)
      case g1=>intro q u I;match q,I with | 0,I=>exact ⟨0,(aRR I).symm⟩
      case g2=>intro u hu;simp at hu;subst hu;rfl
      case g3=>intro q u I;match q,I with | 0,I=>exact ⟨x,(aRR I).symm⟩
      case g4=>unfold maxLen;omega
      case g5=>omega
      case g6=>exact du.size
      intro v' qW ag6 jF _ fL;have n8:=du.grown jF du.size (fun q I=>(abb.out.row.lt q I).1);rw [← aqA] at ag6;clear jF fL du dG bw;go_wp2_with fail
      go_roundw
      case rel=>exact ⟨j+1,out++ [x],r2,by omega,by go_num,rfl,rfl,by simp [aR.out],ag6,n8,zY,an4,axs⟩
      case measure=>simp [intOf];omega
     ·have WN:(eD != 0)=true:=by rw [aVn];exact gl
      have hY:=aRV gl;have jC:=apD fp.out fa.out mb.out (by rw [aR.out];exact bC) KG hY.out;have aM:=aRV jC;clear gl KG jC;go_wp2_with fail
      go_ret2
      exact ⟨[],eD,none,0,0,aM.out,Z,Own.nil _ _ _ _ _,dG⟩
    ·obtain rfl:j=n:=by omega
     by_cases hr:r= []
     ·subst hr;have κ:(strOf []).toList= []:=by rw [aTK,xW]
      have aa:(!(strOf []).toList.isEmpty)=false:=by rw [aTK,xW];rfl
      obtain ⟨A,c,rfl,_⟩:=fg.shape;have jq:=aRV (auJ fp.out mb.out aR.out (by omega));clear fp;go_wp2_with fail
      go_ret2
      exact ⟨out,0,A,j,c,jq.out,Z,by rw [aR.out];exact fg,Φ⟩
     ·have κ:¬ (strOf r).toList= []:=by rw [aTK,xW];exact hr
      have aa:(!(strOf r).toList.isEmpty)=true:=by rw [aTK,xW];simpa using hr
      have jq:=aRV (apC (k:=4) fp.out fa.out mb.out aR.out hr (by decide));clear fp hr;go_wp2_with fail
      go_ret2
      exact ⟨[],4,none,0,0,jq.out,Z,Own.nil _ _ _ _ _,Φ⟩
 ·have WN:(k != 0)=true:=by rw [aVn];exact av
  have awq:(k == 0)=false:=by rw [aT2];exact av
  have hY:=aRV av;clear av bB;go_wp2_with fail
  go_ret2
  exact ⟨[],k,none,0,0,acC k0.out (.inl hY.out) hY.out,Z,Own.nil _ _ _ _ _,cQ⟩
end Go.Proofs.YtlikikpgmmkjbaaGreat.Pack
namespace Go.Proofs.YtlikikpgmmkjbaaGreat
open Tryz
section
open Go.RowKit Go.Proofs.YtlikikpgmmkjbaaGreat.fy
def qb:τ (BitVec 64):=τ.flat 1 (λ b=> [.int .u64 (U b)]) (λ _=>True) (λ _ u=>∃ n:Int,u= .int .u64 n) (λ _=>rfl) (by intro a u hu;simp at hu;subst hu;rfl) (by
 intro a j u hu;cases j with
 | zero=>simp at hu;exact ⟨_,hu.symm⟩
 | succ j=>simp at hu)
theorem ahx:(prog.info? 41).map (λ i=>(i.zero,i.size,i.bytes))=some (some (.int .u64 0),1,8):=by kernel_rfl
theorem akF:∀ (j:Nat) u,(Value.int .u64 0).cells[j]? =some u→qb.raw j u:=by
 intro j u hu;have hu:(#[(.int .u64 0:Value)]:Array Value)[j]? =some u:=hu
 match j,hu with
 | 0,hu=>exact ⟨0,(aRR hu).symm⟩
 | j+1,hu=>simp at hu
theorem aCX {by_:Nat} {w:World} {A:Option Addr} {c:Nat} {l:List (BitVec 64)} (h:qb.aJ by_ w A c l):Mark.Eo w A l.length l:=by
 refine ⟨Z,h.dU, ?_⟩;cases aB:l with
 | nil=>exact .inl rfl
 | cons x r =>
  rw [← aB];obtain ⟨b,o,e,hc⟩:=h.at_ (by rw [aB];simp);refine .inr ⟨b,o,e,λ i ar=> ?_⟩;obtain ⟨es,⟨rfl,_⟩,ay⟩:=hc i _ (aRT ar);have:=ay 0 _ rfl;simpa [qb,τ.flat] using this
theorem ae1 {w:World}:∀ {ess:List (List Value)} {l:List Int},c_ (λ es a=>bQ.has w es a) ess l→ess.flatten=l.map (Value.int .i64)
 | [], [],_=>rfl
 | es::ess,a::l,h=>by
  obtain ⟨κ,aa⟩:=h;rw [aSN,gx κ,ae1 aa];rfl
 | [],_::_,h=>h.elim
 | _::_, [],h=>h.elim
def Ip (l:List Int):List UInt8:=if l.length≤1000 then Pack.qU l else []
def qL (l:List Int):BitVec 64:=Tree.C3 (Ip l)
theorem aA0 (l:List Int):(Ip l).length≤20000:=by
 unfold Ip;split
 ·rename_i h
  unfold Pack.qU;rw [aRX];have:=(Pack.Ba l.length).1;have:=Pack.Xv l;omega
 ·simp
theorem aA1 (l:List Int) (A:Option Addr) (c:Nat) (w:World) (h:bQ.aJ 8 w A c l):Calls prog 92 #[.slice A l.length c] w λ e w'=>(∃ k,e= .returned (.tuple #[.string (Pack.strOf (Ip l)), .int .i64 k]))∧Ext w w':=by
 unfold Ip;by_cases hn:l.length≤1000
 ·rw [aR5 hn];have hr:Rd w 1 A l.length (vh l):=by
   obtain ⟨s1,s2,ML,akT,ess,MM,FJ⟩:=h;rw [ae1 MM] at FJ;exact FJ
  exact (Pack.ako A l.length c l Z hn (λ x hx=>bG.1 (Iz h x hx)) w hr).mono λ e w' h=>⟨⟨0,h.1⟩,h.2⟩
 ·rw [aR0 hn];exact (Pack.aBE A l.length c (by omega) w).mono λ e w' h=>⟨⟨2,h.1⟩,by rw [← h.2];exact Ext.bI w⟩
theorem ay5 (s:List UInt8) (hs:s.length≤20000) (w:World):Calls prog 83 #[.string (Pack.strOf s)] w λ e w'=>e= .returned (.int .u64 (U (Tree.C3 s)))∧Ext w w':=by
 refine (Tree.HW (Pack.strOf s) (by rw [Pack.ID];omega) w).mono ?_;rintro e w' ⟨rfl,q,rfl⟩;exact ⟨by rw [Pack.xW],below_drewN (aSm _ w) q⟩
theorem aAC (l:List (BitVec 64)) (A:Option Addr) (c:Nat) (w:World) (h:qb.aJ 8 w A c l):Calls prog 58 #[.slice A l.length c] w λ e w'=>e= .returned (.int .u64 (U (Mark.FB Mark.mix l)))∧Ext w w':=Mark.Yk A l.length c l w (aCX h)
def Rf (W:ah):BitVec 64:=qL ([1,W.field.wide,W.field.high,W.next,W.now]++W.field.aS)
def Re (W:ah) (i:Nat):BitVec 64:=qL [2,(i:Int),(W.aU.getD i default).x,(W.aU.getD i default).y,W.bh.getD i 0]
def A5 (W:ah):Nat→List (BitVec 64)
 | 0=> []
 | k+1=>A5 W k++(if W.br.getD k 0=0 then [] else [qL [3,(k:Int),W.br.getD k 0]])
def Mw (t:bf):BitVec 64:=qL [4,t.id,t.owner,t.kind,t.spot.x,t.spot.y,t.c7,t.load]
def A4 (W:ah) (k:Nat):List (BitVec 64):= [Rf W]++(List.range k).map (Re W)
def marks (W:ah):List (BitVec 64):=A4 W W.aU.length++A5 W W.br.length++W.ao.map Mw
def r4 (W:ah):BitVec 64:=if W.bp=0 then Mark.FB Mark.mix (marks W) else 0#64
theorem azO (W:ah) (k:Nat):A4 W (k+1)=A4 W k++ [Re W k]:=by
 unfold A4;rw [aTs,aSi,← aSw];rfl
theorem Yb (W:ah):∀ k,(A5 W k).length≤k
 | 0=>aR3 0
 | k+1=>by
  have:=Yb W k;rw [A5,aRX];split<;>simp<;>omega
theorem X9 (W:ah) (k:Nat):(A4 W k).length=k+1:=by unfold A4;simp
theorem azZ {l:List bf} {k:Nat} {t:bf} (av:k<l.length) (aE:l.getD k default=t):(l.take (k+1)).map Mw=(l.take k).map Mw++ [Mw t]:=by
 rw [← aE,aRQ,aRT av,← aV9 av,aSi];rfl
end
section
theorem Xu:(prog.info? 44).map (λ i=>(i.zero,i.size,i.bytes))=some (some (.slice none 0 0),1,24):=by kernel_rfl
def nk (w:World) (T:List gL) (L:List (List aL)):Prop:=T.length=L.length∧∀ (i:Nat) (v:gL),T[i]? =some v→∃ l:List aL,L[i]? =some l∧v.n=l.length∧aL.rep.aJ 48 w v.a v.c l
section
variable {w w':World} {T j2:List gL} {L yk:List (List aL)} {W:ah} {l:List aL} {k:Nat} {e:Int} {V:ah} {ms:List (BitVec 64)}
theorem nk.keep (h:nk w T L) (hx:Ext w w'):nk w' T L:=⟨h.1,λ i v ar=>by
 obtain ⟨l,κ,aa,aw⟩:=h.2 i v ar;exact ⟨l,κ,aa,aw.keep hx⟩⟩
theorem nk.nil:nk w [] []:=⟨rfl,λ i v h=>by simp at h⟩
theorem nk.at_ (h:nk w T L) (av:k<T.length):∃ A c l,T[k]? =some ⟨A,l.length,c⟩∧L[k]? =some l∧aL.rep.aJ 48 w A c l:=by
 obtain ⟨v,hv⟩:∃ v,T[k]? =some v:=⟨_,aRT av⟩;obtain ⟨l,κ,aa,aw⟩:=h.2 k v hv;obtain ⟨a,n,c⟩:=v;dsimp only at aa aw;subst aa;exact ⟨a,c,l,hv,κ,aw⟩
noncomputable def lG (W:ah) (L:List (List aL)):ah:=L.foldl oo W
noncomputable def xU (W:ah):List (List aL)→List (BitVec 64)
 | []=> [r4 W]
 | l::r=>r4 W::xU (oo W l) r
noncomputable def ks (W:ah):List (List aL)→Int
 | []=>0
 | l::r=>if h5 W l≠0 then h5 W l else ks (oo W l) r
def B6 (W:ah) (L:List (List aL)) (e:Int) (V:ah) (ms:List (BitVec 64)):Prop:=(e=0∧L.length≤200∧W.bp=0∧ks W L=0∧V=lG W L∧ms=xU W L)∨(e≠0∧(200<L.length∨W.bp≠0∨ks W L≠0)∧V=ah.zero∧ms= [])
theorem akN:lG W (L++yk)=lG (lG W L) yk:=aTo
theorem akO:∀ (L:List (List aL)) (W:ah),(xU W L).length=L.length+1
 | [],_=>rfl
 | l::r,W=>by rw [xU,aRW,aRW,akO r]
theorem akP:∀ (L:List (List aL)) (W:ah),xU W (L++ [l])=xU W L++ [r4 (oo (lG W L) l)]
 | [],_=>rfl
 | l::r,W=>by rw [aTI,xU,xU,akP r];rfl
theorem MJ:∀ (L:List (List aL)) (W:ah),ks W (L++yk)=if ks W L≠0 then ks W L else ks (lG W L) yk
 | [],W=>by rw [aUa];unfold ks;rw [aR0 (by simp)];rfl
 | l::r,W=>by
  rw [aTI,ks,ks];by_cases h:h5 W l≠0
  ·rw [aR5 h,aR5 h,aR5 h]
  ·rw [aR0 h,aR0 h,MJ r];rfl
theorem RH:ks W [l]=h5 W l:=by
 unfold ks;split
 ·rfl
 ·rename_i h;unfold ks;have:h5 W l=0:=by simpa using h
  rw [this]
theorem Dj {α:Type} {L:List α} {l:α} (h:L[k]? =some l):L.take (k+1)=L.take k++ [l]:=by
 have av:=(aRS.1 h).1;have e:=(aRS.1 h).2;rw [← e,aV9]
theorem RJ (aG:ks W (L.take k)=0) (aB:L[k]? =some l):ks W (L.take (k+1))=h5 (lG W (L.take k)) l:=by
 rw [Dj aB,MJ,aR0 (by simpa using aG),RH]
theorem RI (aG:ks W (L.take k)≠0):ks W L≠0:=by
 have:L=L.take k++L.drop k:=(aTT k L).symm;rw [this,MJ,aR5 aG];exact aG
theorem B6.ok (h:B6 W L e V ms) (aG:e=0):L.length≤200∧W.bp=0∧ks W L=0∧V=lG W L∧ms=xU W L:=by
 rcases h with ⟨_,h⟩ | ⟨κ,_⟩
 ·exact h
 ·exact absurd aG κ
theorem B6.zero (h:B6 W L e V ms) (κ:L.length≤200) (aa:W.bp=0) (aw:ks W L=0):e=0∧V=lG W L∧ms=xU W L:=by
 rcases h with ⟨aG,_,_,_,a6,bL⟩ | ⟨_,a6,_⟩
 ·exact ⟨aG,a6,bL⟩
 ·omega
end
end
end Go.Proofs.YtlikikpgmmkjbaaGreat
