import Derived.Test.YtlikikpgmmkjbaaGreatGra
import Derived.Test.YtlikikpgmmkjbaaGreatGolR
import Derived.Test.YtlikikpgmmkjbaaGreatBas
import Derived.Test.YtlikikpgmmkjbaaGreatEqI
import Derived.Handy
import Derived.Test.YtlikikpgmmkjbaaGreatGol
import Derived.Test.YtlikikpgmmkjbaaGreatCelK
set_option linter.unusedVariables false
set_option linter.unusedSimpArgs false
set_option maxRecDepth 100000
set_option maxHeartbeats 4000000
namespace Go.Proofs.YtlikikpgmmkjbaaGreat
end Go.Proofs.YtlikikpgmmkjbaaGreat
set_option linter.unusedVariables false
set_option linter.unusedSimpArgs false
namespace Go.Proofs.YtlikikpgmmkjbaaGreat
open Go.RowKit

def Fld.badPlace (p:Int):Bool:= !Fld.placeOk p
theorem badPlace_mk {p:Int}:(p<0→Fld.badPlace p=true)∧(4≤p→Fld.badPlace p=true)∧(0≤p→p<4→Fld.badPlace p=false):=by
 unfold Fld.badPlace Fld.placeOk
 refine ⟨λ h=>by rw [inB_not (.inl h)];rfl,λ h=>by rw [inB_not (.inr (by omega))];rfl,λ h1 h2=>by rw [inB_mk h1 (by omega)];rfl⟩
theorem fcheck1 (p:Int) (w:World):Calls Tryz.prog 124 #[.int .i64 p] w λ e w'=>e= .returned (.bool (Fld.badPlace p))∧Below w.heap.size w w':=by
 obtain ⟨b1,b2,b3⟩:=badPlace_mk (p:=p)
 rcases Int.lt_or_le p 0 with h | h
 ·have hb:=b1 h
  have hd:decide (p<0)=true:=by simpa using h
  rw [hb];clear b1 b2 b3 hb
  go_enter Tryz.func124,Tryz.ntmps124
  go_wp2
  go_ret
  exact ⟨rfl,Below.refl _ _⟩
 ·rcases Int.lt_or_le p 4 with h4 | h4
  ·have hb:=b3 h h4
   have hd:decide (p<0)=false:=by simpa using h
   rw [hb];clear b1 b2 b3 hb
   go_enter Tryz.func124,Tryz.ntmps124
   go_wp2
   go_ret
   exact ⟨ret_bool (by simp<;>omega),Below.refl _ _⟩
  ·have hb:=b2 h4
   have hd:decide (p<0)=false:=by simpa using h
   rw [hb];clear b1 b2 b3 hb
   go_enter Tryz.func124,Tryz.ntmps124
   go_wp2
   go_ret
   exact ⟨ret_bool (by simp<;>omega),Below.refl _ _⟩
theorem idx_place  (A:Option Addr) (c:Nat) (l:List Int) (w:World) (hl:repI.SHas 8 w A c l):
  Calls Tryz.prog 157 #[.slice A l.length c, .func (.func 124) #[] #[]] w λ e w'=>e= .returned (.int .i64 (idxI (Fld.badPlace) l))∧Below w.heap.size w w':=by
 obtain ⟨n,hn⟩:∃ n,l.length=n:=⟨_,rfl⟩
 have hle:n≤9223372036854775807:=by have:=hl.1;have:=hl.2.1;omega
 rw [hn]
 have HL:=Lib.hid hl
 have HN:=Lib.hid hn
 clear hl hn
 go_enter Tryz.func157,Tryz.ntmps157
 go_wp2_with fail
 go_loopw [5,8] (λ _ iv wr=>∃ k:Nat,k≤n∧iv= .int .i64 (k:Int)∧Hid (∀ j (hj:j<k) (hj2:j<l.length),(Fld.badPlace) l[j]=false)∧Below w.heap.size w wr) (λ _ iv _=>n - (intOf iv).toNat)
 case atStart=>exact ⟨0,Nat.zero_le _,rfl,(λ j hj=>by omega),Below.refl _ _⟩
 case round =>
  obtain ⟨k,hk,rfl,HK,hb⟩:=hrel
  by_cases hlt:k<n
  ·have hkl:k<l.length:=by rw [HN.out];exact hlt
   obtain ⟨b,o,rfl,hcell⟩:=repI_at (HL.out.keep hb) (by omega)
   obtain ⟨x,hxe⟩:∃ x,l[k]'hkl=x:=⟨_,rfl⟩
   have q0:=hcell k x (by rw [List.getElem?_eq_getElem hkl,hxe])
   have HXE:=Lib.hid hxe

   have hc:=fcheck1 x wr
   clear hcell hxe
   cases hbad:(Fld.badPlace) x with
   | true =>
    have hres:idxI (Fld.badPlace) l=(k:Int):=idxI_some hkl (by rw [HXE.out];exact hbad) λ j hj=>HK.out j hj (by omega)
    rw [hbad] at hc
    have HRES:=Lib.hid hres
    clear hres hbad
    go_wp2_with (go_at_call 124;refine hc.mono ?_;rintro e w' ⟨rfl,hb2⟩)
    go_ret
    exact ⟨by rw [HRES.out];rfl,hb.trans (hb2.mono hb.size)⟩
   | false =>
    rw [hbad] at hc
    have HK2:Hid (∀ j (hj:j<k+1) (hj2:j<l.length),(Fld.badPlace) l[j]=false):=by
     intro j hj hj2
     by_cases h:j<k
     ·exact HK.out j h hj2
     ·obtain rfl:j=k:=by omega
      rw [HXE.out];exact hbad
    clear hbad
    go_wp2_with (go_at_call 124;refine hc.mono ?_;rintro e w' ⟨rfl,hb2⟩)
    go_roundw
    case rel=>exact ⟨k+1,by omega,by go_num,HK2,hb.trans (hb2.mono hb.size)⟩
    case measure=>simp [intOf];omega
  ·have hres:idxI (Fld.badPlace) l= -1:=idxI_none λ j hj=>HK.out j (by have:=HN.out;omega) hj
   have HRES:=Lib.hid hres
   clear hres
   go_wp2_with fail
   go_ret
   exact ⟨by rw [HRES.out];rfl,hb⟩
theorem has_place  (A:Option Addr) (c:Nat) (l:List Int) (w:World) (hl:repI.SHas 8 w A c l):
  Calls Tryz.prog 123 #[.slice A l.length c, .func (.func 124) #[] #[]] w λ e w'=>e= .returned (.bool (l.any (Fld.badPlace)))∧Below w.heap.size w w':=by
 have hc:=idx_place  A c l w hl 
 rw [← idxI_any]
 generalize idxI (Fld.badPlace) l=r at *
 generalize l.length=n at *
 clear hl 
 go_enter Tryz.func123,Tryz.ntmps123
 go_wp2_with (go_at_call 157;refine hc.mono ?_;rintro e w' ⟨rfl,hb2⟩)
 go_ret
 exact ⟨rfl,hb2⟩
theorem within_any (n lo hi:Int) (w:World):Calls Tryz.prog 127 #[.int .i64 n, .int .i64 lo, .int .i64 hi] w λ e w'=>e= .returned (.bool (inB n lo hi))∧w=w':=by
 rcases Int.lt_or_le n lo with h | h
 ·rw [inB_not (.inl h)]
  go_enter Tryz.func127,Tryz.ntmps127
  go_wp2
  go_ret
  exact ⟨rfl,rfl⟩
 ·rcases Int.lt_or_le hi n with h4 | h4
  ·rw [inB_not (.inr h4)]
   go_enter Tryz.func127,Tryz.ntmps127
   go_wp2
   go_ret
   exact ⟨ret_bool (by simp<;>omega),rfl⟩
  ·rw [inB_mk h h4]
   go_enter Tryz.func127,Tryz.ntmps127
   go_wp2
   go_ret
   exact ⟨ret_bool (by simp<;>omega),rfl⟩
theorem side_any (n:Int) (w:World):Calls Tryz.prog 122 #[.int .i64 n] w λ e w'=>e= .returned (.bool (inB n 1 40))∧w=w':=by
 rcases Int.lt_or_le n 1 with h | h
 ·rw [inB_not (.inl h)]
  go_enter Tryz.func122,Tryz.ntmps122
  go_wp2
  go_ret
  exact ⟨rfl,rfl⟩
 ·rcases Int.lt_or_le 40 n with h4 | h4
  ·rw [inB_not (.inr h4)]
   go_enter Tryz.func122,Tryz.ntmps122
   go_wp2
   go_ret
   exact ⟨ret_bool (by simp<;>omega),rfl⟩
  ·rw [inB_mk h h4]
   go_enter Tryz.func122,Tryz.ntmps122
   go_wp2
   go_ret
   exact ⟨ret_bool (by simp<;>omega),rfl⟩
end Go.Proofs.YtlikikpgmmkjbaaGreat
set_option linter.unusedVariables false
set_option linter.unusedSimpArgs false
namespace Go.Proofs.YtlikikpgmmkjbaaGreat
open Go.RowKit

theorem Fld.chk_none {f:Fld} (h1:inB f.wide 1 40=true) (h2:inB f.high 1 40=true) (h3:¬ (f.places.length:Int)=f.wide * f.high):f.chk=4:=by
 unfold Fld.chk
 rw [h1,h2,decide_eq_false h3];rfl
theorem Fld.chk_any {f:Fld} (h1:inB f.wide 1 40=true) (h2:inB f.high 1 40=true) (h3:(f.places.length:Int)=f.wide * f.high):f.chk=if f.places.any Fld.badPlace then 4 else 0:=by
 unfold Fld.chk
 rw [h1,h2,decide_eq_true h3]
 have:f.places.all Fld.placeOk= !f.places.any Fld.badPlace:=by
  rw [List.all_eq_not_any_not];rfl
 rw [this]
 cases f.places.any Fld.badPlace<;>rfl
theorem fldCheck (f:Fld) (A:Option Addr) (c:Nat) (w:World) (hP:repI.SHas 8 w A c f.places):
  Calls Tryz.prog 88 #[.agg #[.int .i64 f.wide, .int .i64 f.high, .slice A f.places.length c]] w λ e w'=>e= .returned (.int .i64 f.chk)∧Below w.heap.size w w':=by
 have hb:=below_alloc0 w (.cells #[.int .i64 f.wide, .int .i64 f.high, .slice A f.places.length c] 24)
 have hs1:=side_any f.wide
 have hs2:=side_any f.high
 have hle:f.places.length≤9223372036854775807:=by have:=hP.1;have:=hP.2.1;omega
 cases h1:inB f.wide 1 40 with
 | false =>
  rw [h1] at hs1
  rw [Fld.chk_one (by rw [h1];rfl)]
  clear h1 hs2 hP
  go_enter Tryz.func88,Tryz.ntmps88
  go_wp2_with (go_at_call 122;refine (hs1 _).mono ?_;rintro e w' ⟨rfl,rfl⟩)
  go_ret
  exact ⟨rfl,hb⟩
 | true =>
  rw [h1] at hs1
  cases h2:inB f.high 1 40 with
  | false =>
   rw [h2] at hs2
   rw [Fld.chk_one (by rw [h1,h2];rfl)]
   clear h1 h2 hP
   go_enter Tryz.func88,Tryz.ntmps88
   go_wp2_with fail
   refine (hs1 _).mono ?_;rintro e w' ⟨rfl,rfl⟩
   go_wp2_with fail
   refine (hs2 _).mono ?_;rintro e w' ⟨rfl,rfl⟩
   go_wp2_with fail
   go_ret
   exact ⟨rfl,hb⟩
  | true =>
   rw [h2] at hs2
   have hw:=inB_true h1
   have hh:=inB_true h2
   have hm0:0≤f.wide * f.high:=Int.mul_nonneg (by omega) (by omega)
   have hm1:f.wide * f.high≤40 * 40:=Int.mul_le_mul hw.2 hh.2 (by omega) (by omega)
   by_cases h3:(f.places.length:Int)=f.wide * f.high
   ·have hc:=has_place A c f.places _ (hP.keep hb)
    have hd:((f.places.length:Int)== f.wide * f.high)=true:=by simpa using h3
    have hd2:((f.places.length:Int) != f.wide * f.high)=false:=by simpa using h3
    rw [Fld.chk_any h1 h2 h3]
    clear h1 h2 h3 hP
    generalize f.places.any Fld.badPlace=r at *
    generalize f.places.length=n at *
    cases r with
    | true =>
     go_enter Tryz.func88,Tryz.ntmps88
     go_wp2_with fail
     refine (hs1 _).mono ?_;rintro e w' ⟨rfl,rfl⟩
     go_wp2_with fail
     refine (hs2 _).mono ?_;rintro e w' ⟨rfl,rfl⟩
     go_wp2_with fail
     refine hc.mono ?_;rintro e w' ⟨rfl,hb2⟩
     go_wp2_with fail
     go_ret
     exact ⟨rfl,hb.trans (hb2.mono hb.size)⟩
    | false =>
     go_enter Tryz.func88,Tryz.ntmps88
     go_wp2_with fail
     refine (hs1 _).mono ?_;rintro e w' ⟨rfl,rfl⟩
     go_wp2_with fail
     refine (hs2 _).mono ?_;rintro e w' ⟨rfl,rfl⟩
     go_wp2_with fail
     refine hc.mono ?_;rintro e w' ⟨rfl,hb2⟩
     go_wp2_with fail
     go_ret
     exact ⟨rfl,hb.trans (hb2.mono hb.size)⟩
   ·have hd:((f.places.length:Int)== f.wide * f.high)=false:=by simpa using h3
    have hd2:((f.places.length:Int) != f.wide * f.high)=true:=by simpa using h3
    rw [Fld.chk_none h1 h2 h3]
    clear h1 h2 h3 hP
    generalize f.places.length=n at *
    go_enter Tryz.func88,Tryz.ntmps88
    go_wp2_with fail
    refine (hs1 _).mono ?_;rintro e w' ⟨rfl,rfl⟩
    go_wp2_with fail
    refine (hs2 _).mono ?_;rintro e w' ⟨rfl,rfl⟩
    go_wp2_with fail
    go_ret
    exact ⟨rfl,hb⟩
theorem kind_1 (w:World):Calls Tryz.prog 128 #[.int .i64 1] w λ e w'=>e= .returned (.tuple #[.agg #[.int .i64 10, .int .i64 1, .int .i64 1, .int .i64 5], .int .i64 0])∧Below w.heap.size w w':=by
 go_enter Tryz.func128,Tryz.ntmps128
 go_wp2
 refine bodyPost_ret (v:= .tuple #[.agg #[.int .i64 10, .int .i64 1, .int .i64 1, .int .i64 5], .int .i64 0]) (by simp [results,Tryz.results128,go_sem]) rfl ⟨rfl,(Below.refl _ _).alloc (Nat.le_refl _) _⟩
theorem kind_2 (w:World):Calls Tryz.prog 128 #[.int .i64 2] w λ e w'=>e= .returned (.tuple #[.agg #[.int .i64 20, .int .i64 2, .int .i64 4, .int .i64 12], .int .i64 0])∧Below w.heap.size w w':=by
 go_enter Tryz.func128,Tryz.ntmps128
 go_wp2
 refine bodyPost_ret (v:= .tuple #[.agg #[.int .i64 20, .int .i64 2, .int .i64 4, .int .i64 12], .int .i64 0]) (by simp [results,Tryz.results128,go_sem]) rfl ⟨rfl,(Below.refl _ _).alloc (Nat.le_refl _) _⟩
theorem kind_no (k:Int) (w:World) (h:inB k 1 2=false):Calls Tryz.prog 128 #[.int .i64 k] w λ e w'=>e= .returned (.tuple #[.agg #[.int .i64 0, .int .i64 0, .int .i64 0, .int .i64 0], .int .i64 1])∧Below w.heap.size w w':=by
 have h':=inB_false h
 have h1:(k == 1)=false:=by simp;omega
 have h2:(k == 2)=false:=by simp;omega
 clear h h'
 go_enter Tryz.func128,Tryz.ntmps128
 go_wp2
 refine bodyPost_ret (v:= .tuple #[.agg #[.int .i64 0, .int .i64 0, .int .i64 0, .int .i64 0], .int .i64 1]) (by simp [results,Tryz.results128,go_sem]) rfl ⟨rfl,(Below.refl _ _).alloc (Nat.le_refl _) _⟩
end Go.Proofs.YtlikikpgmmkjbaaGreat
set_option linter.unusedVariables false
set_option linter.unusedSimpArgs false
namespace Go.Proofs.YtlikikpgmmkjbaaGreat
open Go.RowKit

theorem ret_two {k k':IntKind} {a b a' b':Int} (h1:a=a') (h2:b=b'):Ending.returned (.tuple #[.int k a, .int k' b])= .returned (.tuple #[.int k a', .int k' b']):=by rw [h1,h2]
def AtPost (f:Fld) (c:Cel) (w:World) (e:Ending) (w':World):Prop:=e= .returned (.tuple #[.int .i64 (f.atV c), .int .i64 (f.atE c)])∧Below w.heap.size w w'
theorem fldAt (f:Fld) (p:Cel) (A:Option Addr) (c:Nat) (w:World) (hP:repI.SHas 8 w A c f.places):
  Calls Tryz.prog 158 #[.agg #[.int .i64 f.wide, .int .i64 f.high, .slice A f.places.length c], .agg #[.int .i64 p.x, .int .i64 p.y]] w (AtPost f p w):=by
 have hA:=Blk.new w (Wd.fcells A c f) 24 (0,0)
 have hb:=below_alloc0 w (.cells (Wd.fcells A c f).toArray 24 (0,0))
 have hB:=Blk.new (w.alloc (.cells (Wd.fcells A c f).toArray 24 (0,0))) p.cells 49 (0,0)
 have hb1:=below_alloc0 (w.alloc (.cells (Wd.fcells A c f).toArray 24 (0,0))) (.cells p.cells.toArray 49 (0,0))
 have hA1:=hA.later hb1
 have hbb:=hb.trans (hb1.mono hb.size)
 have hc:=fldCheck f A c _ (hP.keep hbb)
 have hP1:=hP.keep hbb
 obtain ⟨w1,HW1⟩:∃ w1,Hid ((w.alloc (.cells (Wd.fcells A c f).toArray 24 (0,0))).alloc (.cells p.cells.toArray 49 (0,0))=w1):=⟨_,Lib.hid rfl⟩
 rw [HW1.out] at hA1 hB hc hbb hP1
 rw [World.size_alloc] at hB
 clear hA hb hb1 hP
 have hst:∀ K:World→Prop,K w1→K ((w.alloc (.cells #[.int .i64 f.wide, .int .i64 f.high, .slice A f.places.length c] 24)).alloc (.cells #[.int .i64 p.x, .int .i64 p.y] 49)):=λ K h=>by
  have:=HW1.out
  rw [← this] at h;exact h
 by_cases h0:f.chk=0
 ·have hfl:=Fld.len_le h0
  obtain ⟨g1,g2,g3,g4,_,_⟩:=Fld.good h0
  rw [h0] at hc
  by_cases hin:0≤p.x∧p.x<f.wide∧0≤p.y∧p.y<f.high
  ·obtain ⟨i1,i2,i3,i4⟩:=hin
   have hIn:=Fld.isIn_mk i1 i2 i3 i4
   obtain ⟨e1,e2⟩:=Fld.at_in h0 hIn
   obtain ⟨x1,x2,_⟩:=Fld.idx h0 hIn
   have y1:0≤p.y * f.wide:=Int.mul_nonneg i3 (by omega)
   have y2:p.y * f.wide≤1600:=by omega
   obtain ⟨b,o,rfl,hcell⟩:=repI_at hP1 (by omega)
   have hce:=hcell (p.y * f.wide+p.x).toNat (f.place p) (by
    unfold Fld.place
    rw [List.getD_eq_getElem?_getD,List.getElem?_eq_getElem (show (p.y * f.wide+p.x).toNat<f.places.length by omega)];rfl)
   have HCE:=Lib.hid hce
   have HE:=Lib.hid (And.intro e1 e2)
   have HA1:=Lib.hid hA1
   have HB:=Lib.hid hB
   have d1:decide (p.x<0)=false:=by simpa using i1
   have d2:decide (p.y<0)=false:=by simpa using i3
   clear h0 hIn e1 e2 hcell hce hP1 hA1 hB
   go_enter Tryz.func158,Tryz.ntmps158
   go_wp2_with fail
   refine hst (λ W=>Calls _ _ _ W _) ?_
   refine hc.mono ?_
   rintro e w2 ⟨rfl,hb2⟩
   obtain ⟨q0,q1,q2⟩:=Wd.fblk (HA1.out.later hb2)
   obtain ⟨r0,r1⟩:=Cel.blk (HB.out.later hb2)
   have hcell2:=cell_later hb2 HCE.out
   go_wp2_with fail
   go_ret2
   exact ⟨ret_two HE.out.2.symm HE.out.1.symm,hbb.trans (hb2.mono hbb.size)⟩
  ·have hout:p.x<0∨f.wide≤p.x∨p.y<0∨f.high≤p.y:=by omega
   have HE:=Lib.hid (Fld.at_out h0 (Fld.isIn_out hout))
   have HA1:=Lib.hid hA1
   have HB:=Lib.hid hB
   clear h0 hP1 hA1 hB hin
   have HOUT:=Lib.hid hout
   clear hout
   go_enter Tryz.func158,Tryz.ntmps158
   go_wp2_with fail
   refine hst (λ W=>Calls _ _ _ W _) ?_
   refine hc.mono ?_
   rintro e w2 ⟨rfl,hb2⟩
   obtain ⟨q0,q1,q2⟩:=Wd.fblk (HA1.out.later hb2)
   obtain ⟨r0,r1⟩:=Cel.blk (HB.out.later hb2)
   have key:decide (p.x<0)=true∨(decide (p.x<0)=false∧decide (f.wide≤p.x)=true)∨(decide (p.x<0)=false∧decide (f.wide≤p.x)=false∧decide (p.y<0)=true)∨(decide (p.x<0)=false∧decide (f.wide≤p.x)=false∧decide (p.y<0)=false∧decide (f.high≤p.y)=true):=by
    have:=HOUT.out
    by_cases k1:p.x<0
    ·simp [k1]
    by_cases k2:f.wide≤p.x
    ·simp [k1,k2]
    by_cases k3:p.y<0
    ·simp [k1,k2,k3]
    ·simp [k1,k2,k3];omega
   rcases key with h | ⟨h,h2⟩ | ⟨h,h2,h3⟩ | ⟨h,h2,h3,h4⟩
   all_goals
    go_wp2_with fail
    go_ret2
    exact ⟨ret_two HE.out.2.symm HE.out.1.symm,hbb.trans (hb2.mono hbb.size)⟩
 ·obtain ⟨e1,e2⟩:=Fld.at_bad (c:=p) h0
  have HE:=Lib.hid (And.intro e1 e2)
  have hne:(f.chk == 0)=false:=by simpa using h0
  have hne2:(f.chk != 0)=true:=by simpa using h0
  clear e1 e2 h0 hP1 hA1 hB
  generalize f.chk=k at *
  go_enter Tryz.func158,Tryz.ntmps158
  go_wp2_with fail
  refine hst (λ W=>Calls _ _ _ W _) ?_
  refine hc.mono ?_
  rintro e w2 ⟨rfl,hb2⟩
  go_wp2_with fail
  go_ret2
  exact ⟨ret_two HE.out.2.symm HE.out.1.symm,hbb.trans (hb2.mono hbb.size)⟩
theorem ground_any (f:Fld) (p:Cel) (A:Option Addr) (c:Nat) (w:World) (hP:repI.SHas 8 w A c f.places) (h0:f.chk=0):
  Calls Tryz.prog 125 #[.agg #[.int .i64 f.wide, .int .i64 f.high, .slice A f.places.length c], .agg #[.int .i64 p.x, .int .i64 p.y]] w λ e w'=>e= .returned (.bool (f.ground p))∧Below w.heap.size w w':=by
 have hb:=below_alloc0 w (.cells #[.int .i64 f.wide, .int .i64 f.high, .slice A f.places.length c] 24)
 have hb1:=below_alloc0 (w.alloc (.cells #[.int .i64 f.wide, .int .i64 f.high, .slice A f.places.length c] 24)) (.cells #[.int .i64 p.x, .int .i64 p.y] 49)
 have hbb:=hb.trans (hb1.mono hb.size)
 have hc:=fldAt f p A c _ (hP.keep hbb)
 unfold AtPost at hc
 clear hb hb1 hP
 cases hin:f.isIn p with
 | true =>
  obtain ⟨e1,e2⟩:=Fld.at_in h0 hin
  rw [e1,e2] at hc
  have hg:f.ground p=(f.place p != 1):=by unfold Fld.ground;rw [hin];rfl
  rw [hg]
  clear e1 e2 hin hg h0
  generalize f.place p=v at *
  generalize f.places.length=n at *
  cases hv:v != 1 with
  | true =>
   have hv2:(v == 1)=false:=by simpa using hv
   go_enter Tryz.func125,Tryz.ntmps125
   go_wp2_with fail
   refine hc.mono ?_
   rintro e w2 ⟨rfl,hb2⟩
   go_wp2_with fail
   go_ret
   exact ⟨ret_bool (by simp),hbb.trans (hb2.mono hbb.size)⟩
  | false =>
   have hv2:(v == 1)=true:=by simpa using hv
   go_enter Tryz.func125,Tryz.ntmps125
   go_wp2_with fail
   refine hc.mono ?_
   rintro e w2 ⟨rfl,hb2⟩
   go_wp2_with fail
   go_ret
   exact ⟨ret_bool (by simp),hbb.trans (hb2.mono hbb.size)⟩
 | false =>
  obtain ⟨e1,e2⟩:=Fld.at_out h0 hin
  rw [e1,e2] at hc
  have hg:f.ground p=false:=by unfold Fld.ground;rw [hin];rfl
  rw [hg]
  clear e1 e2 hin hg h0
  generalize f.places.length=n at *
  go_enter Tryz.func125,Tryz.ntmps125
  go_wp2_with fail
  refine hc.mono ?_
  rintro e w2 ⟨rfl,hb2⟩
  go_wp2_with fail
  go_ret
  exact ⟨rfl,hbb.trans (hb2.mono hbb.size)⟩
end Go.Proofs.YtlikikpgmmkjbaaGreat
set_option linter.unusedVariables false
set_option linter.unusedSimpArgs false
namespace Go.Proofs.YtlikikpgmmkjbaaGreat
open Go.RowKit

def Cel.is (p x:Cel):Bool:=decide (x=p)
theorem Cel.is_true {p x:Cel} (h:Cel.is p x=true):x=p:=by simpa [Cel.is] using h
theorem Cel.is_false {p x:Cel} (h:Cel.is p x=false):((p.x == x.x)=false)∨((p.x == x.x)=true∧(p.y == x.y)=false):=by
 have:¬ x=p:=by simpa [Cel.is] using h
 obtain ⟨a,b⟩:=p
 obtain ⟨c,d⟩:=x
 simp at this ⊢
 omega
theorem idx_cell (p:Cel) (A:Option Addr) (c:Nat) (l:List Cel) (w:World) (hl:Cel.rep.SHas 16 w A c l):
  Calls Tryz.prog 159 #[.slice A l.length c, .agg #[.int .i64 p.x, .int .i64 p.y]] w λ e w'=>e= .returned (.int .i64 (idxI (Cel.is p) l))∧Below w.heap.size w w':=by
 obtain ⟨n,hn⟩:∃ n,l.length=n:=⟨_,rfl⟩
 have hle:n≤9223372036854775807:=by have:=hl.1;have:=hl.2.1;omega
 rw [hn]
 have hb0:=below_alloc0 w (.cells #[.int .i64 p.x, .int .i64 p.y] 49)
 have HB:=Lib.hid (Blk.new w p.cells 49 (0,0))
 have HL:=Lib.hid (hl.keep hb0)
 have HN:=Lib.hid hn
 clear hl hn
 go_enter Tryz.func159,Tryz.ntmps159
 go_wp2_with fail
 obtain ⟨w0,HW0⟩:∃ w0,Hid (w0=w.alloc (.cells #[.int .i64 p.x, .int .i64 p.y] 49)):=⟨_,Lib.hid rfl⟩
 rw [← HW0.out] at hb0 ⊢
 have HB:Hid (Blk w0 w.heap.size p.cells 49 (0,0)):=by rw [HW0.out];exact HB
 have HL:Hid (Cel.rep.SHas 16 w0 A c l):=by rw [HW0.out];exact HL
 go_loopw [5,8] (λ _ iv wr=>∃ k m:Nat,k≤n∧iv= .int .i64 (k:Int)∧Hid (∀ j (hj:j<k) (hj2:j<l.length),(Cel.is p) l[j]=false)∧Hid (wr=w0.drewN m)) (λ _ iv _=>n - (intOf iv).toNat)
 case atStart=>exact ⟨0,0,Nat.zero_le _,rfl,(λ j hj=>by omega),rfl⟩
 case round =>
  obtain ⟨k,m,hk,rfl,HK,HW⟩:=hrel
  by_cases hlt:k<n
  ·have hkl:k<l.length:=by rw [HN.out];exact hlt
   have hLr:Cel.rep.SHas 16 wr A c l:=by rw [HW.out];exact HL.out.drewN m
   have hBr:Blk wr w.heap.size p.cells 49 (0,0):=by rw [HW.out];exact HB.out.drewN m
   have hbr:Below w.heap.size w wr:=by rw [HW.out];exact below_drewN hb0 m
   obtain ⟨b,o,rfl,hcell⟩:=Cel.at_ hLr (by omega)
   obtain ⟨x,hxe⟩:∃ x,l[k]'hkl=x:=⟨_,rfl⟩
   obtain ⟨q0,q1⟩:=hcell k x (by rw [List.getElem?_eq_getElem hkl,hxe])
   obtain ⟨r0,r1⟩:=Cel.blk hBr
   have HXE:=Lib.hid hxe
   have hki:(k:Int)<(n:Int):=by omega
   have hk0:(0:Int)≤(k:Int):=by omega
   clear hcell hxe hLr hBr
   cases hbad:(Cel.is p) x with
   | true =>
    have hres:idxI (Cel.is p) l=(k:Int):=idxI_some hkl (by rw [HXE.out];exact hbad) λ j hj=>HK.out j hj (by omega)
    have HRES:=Lib.hid hres
    have hxp:=Cel.is_true hbad
    subst hxp
    clear hres hbad
    go_wp2_with fail
    go_quiet (fail)
    go_wp2_with fail
    go_ret
    exact ⟨by rw [HRES.out];rfl,below_drewN hbr _⟩
   | false =>
    have HK2:Hid (∀ j (hj:j<k+1) (hj2:j<l.length),(Cel.is p) l[j]=false):=by
     intro j hj hj2
     by_cases h:j<k
     ·exact HK.out j h hj2
     ·obtain rfl:j=k:=by omega
      rw [HXE.out];exact hbad
    have hne:=Cel.is_false hbad
    clear hbad
    rcases hne with h1 | ⟨h1,h2⟩
    all_goals
     go_wp2_with fail
     go_quiet (fail)
     go_wp2_with fail
     go_roundw
     case rel=>exact ⟨k+1,_,by omega,by go_num,HK2,by show _=_;rw [HW.out];simp;rfl⟩
     case measure=>simp [intOf];omega
  ·have hres:idxI (Cel.is p) l= -1:=idxI_none λ j hj=>HK.out j (by have:=HN.out;omega) hj
   have HRES:=Lib.hid hres
   have hwr:=HW.out
   subst hwr
   clear hres
   go_wp2_with fail
   go_ret
   exact ⟨by rw [HRES.out];rfl,below_drewN hb0 _⟩
theorem has_cell (p:Cel) (A:Option Addr) (c:Nat) (l:List Cel) (w:World) (hl:Cel.rep.SHas 16 w A c l):
  Calls Tryz.prog 126 #[.slice A l.length c, .agg #[.int .i64 p.x, .int .i64 p.y]] w λ e w'=>e= .returned (.bool (l.contains p))∧Below w.heap.size w w':=by
 have hb0:=below_alloc0 w (.cells #[.int .i64 p.x, .int .i64 p.y] 49)
 have hc:=idx_cell p A c l _ (hl.keep hb0)
 have hany:l.contains p=decide (0≤idxI (Cel.is p) l):=by
  rw [idxI_any,List.contains_eq_any_beq]
  congr 1
  funext x
  unfold Cel.is
  by_cases h:x=p
  ·simp [h]
  ·simp [h,Ne.symm h]
 rw [hany]
 generalize idxI (Cel.is p) l=r at *
 generalize l.length=n at *
 clear hl hany
 go_enter Tryz.func126,Tryz.ntmps126
 go_wp2_with (go_at_call 159;refine hc.mono ?_;rintro e w' ⟨rfl,hb2⟩)
 go_ret
 exact ⟨rfl,hb0.trans (hb2.mono hb0.size)⟩
end Go.Proofs.YtlikikpgmmkjbaaGreat
namespace Go.Proofs.YtlikikpgmmkjbaaGreat
section
open Go.RowKit
theorem WOwn.disj {w:World} {Z:Nat} {a:Wd.At} {W:Wd} (h:WOwn w Z a W):
  (∀ x∈Rep.blkOf a.M,x∉Rep.blkOf a.P∧x∉Rep.blkOf a.B∧x∉Rep.blkOf a.S∧x∉Rep.blkOf a.T)∧
  (∀ x∈Rep.blkOf a.T,x∉Rep.blkOf a.P∧x∉Rep.blkOf a.B∧x∉Rep.blkOf a.S∧x∉Rep.blkOf a.M)∧
  (∀ x∈Rep.blkOf a.S,x∉Rep.blkOf a.P∧x∉Rep.blkOf a.B∧x∉Rep.blkOf a.M∧x∉Rep.blkOf a.T):=by
 have hn:=h.apart
 rw [List.nodup_append,List.nodup_append,List.nodup_append,List.nodup_append] at hn
 obtain ⟨⟨⟨⟨_,_,n1⟩,_,n2⟩,_,n3⟩,_,n4⟩:=hn
 refine ⟨λ x hx=>⟨λ hp=> ?_,λ hp=> ?_,λ hp=> ?_,λ hp=> ?_⟩,λ x hx=>⟨λ hp=> ?_,λ hp=> ?_,λ hp=> ?_,λ hp=> ?_⟩,λ x hx=>⟨λ hp=> ?_,λ hp=> ?_,λ hp=> ?_,λ hp=> ?_⟩⟩
 ·exact n3 x (by simp [hp]) x hx rfl
 ·exact n3 x (by simp [hp]) x hx rfl
 ·exact n3 x (by simp [hp]) x hx rfl
 ·exact n4 x (by simp [hx]) x hp rfl
 ·exact n4 x (by simp [hp]) x hx rfl
 ·exact n4 x (by simp [hp]) x hx rfl
 ·exact n4 x (by simp [hp]) x hx rfl
 ·exact n4 x (by simp [hp]) x hx rfl
 ·exact n2 x (by simp [hp]) x hx rfl
 ·exact n2 x (by simp [hp]) x hx rfl
 ·exact n3 x (by simp [hx]) x hp rfl
 ·exact n4 x (by simp [hx]) x hp rfl
theorem foot_mem {a:Wd.At} {g:Nat}:g∈WOwn.foot a↔g∈Rep.blkOf a.P∨g∈Rep.blkOf a.B∨g∈Rep.blkOf a.S∨g∈Rep.blkOf a.M∨g∈Rep.blkOf a.T:=by
 unfold WOwn.foot
 simp only [List.mem_append]
 constructor
 ·rintro ((((h | h) | h) | h) | h)<;>simp [h]
 ·rintro (h | h | h | h | h)<;>simp [h]
namespace Wd
def priceOf (k:Int):Int:=if k=1 then 5 else if k=2 then 12 else 0
end Wd
theorem WOwn.mod {w w1:World} {Z:Nat} {a:Wd.At} {W:Wd} {S:List Nat} (h:WOwn w Z a W) (m:Mod S w w1) (hd:∀ x∈WOwn.foot a,x∉S):WOwn w1 Z a W :=
 ⟨h.P.mod m λ x hx=>hd x (foot_mem.2 (.inl hx)),h.B.mod m λ x hx=>hd x (foot_mem.2 (.inr (.inl hx))),h.S.mod m λ x hx=>hd x (foot_mem.2 (.inr (.inr (.inl hx)))),h.M.mod m λ x hx=>hd x (foot_mem.2 (.inr (.inr (.inr (.inl hx))))),h.T.mod m λ x hx=>hd x (foot_mem.2 (.inr (.inr (.inr (.inr hx))))),h.apart,h.nums⟩
theorem foot_T {a:Wd.At} {q:Nat} (h:q∈Rep.blkOf a.T):q∈WOwn.foot a:=foot_mem.2 (.inr (.inr (.inr (.inr h))))
theorem foot_S {a:Wd.At} {q:Nat} (h:q∈Rep.blkOf a.S):q∈WOwn.foot a:=foot_mem.2 (.inr (.inr (.inl h)))
theorem foot_M {a:Wd.At} {q:Nat} (h:q∈Rep.blkOf a.M):q∈WOwn.foot a:=foot_mem.2 (.inr (.inr (.inr (.inl h))))
theorem foot_B {a:Wd.At} {q:Nat} (h:q∈Rep.blkOf a.B):q∈WOwn.foot a:=foot_mem.2 (.inr (.inl h))
theorem foot_P {a:Wd.At} {q:Nat} (h:q∈Rep.blkOf a.P):q∈WOwn.foot a:=foot_mem.2 (.inl h)
theorem WOwn.setS {w w1:World} {Z:Nat} {a:Wd.At} {W:Wd} {l:List Int} (h:WOwn w Z a W) (m:Mod (Rep.blkOf a.S) w w1) (hS:repI.SOwn 3 8 w1 Z (Rep.blkOf a.S) a.S a.s l):WOwn w1 Z a {W with stocks:=l}:=by
 obtain ⟨d1,d2,d3⟩:=h.disj
 exact ⟨h.P.mod m λ x hx hs=>(d3 x hs).1 hx,h.B.mod m λ x hx hs=>(d3 x hs).2.1 hx,hS,h.M.mod m λ x hx hs=>(d3 x hs).2.2.1 hx,h.T.mod m λ x hx hs=>(d3 x hs).2.2.2 hx,h.apart,h.nums⟩
theorem WOwn.swapT {w w1:World} {Z:Nat} {a:Wd.At} {W:Wd} {l:List Trp} {A:Option Addr} {c:Nat} (h:WOwn w Z a W) (m:Mod (Rep.blkOf a.T) w w1) (hT:Trp.rep.SOwn 66 56 w1 Z (Rep.blkOf A) A c l) (hq:∀ q∈Rep.blkOf A,q∈Rep.blkOf a.T∨w.heap.size≤q):
  WOwn w1 Z {a with T:=A,t:=c} {W with troops:=l}:=by
 obtain ⟨d1,d2,d3⟩:=h.disj
 refine ⟨h.P.mod m λ x hx hs=>(d2 x hs).1 hx,h.B.mod m λ x hx hs=>(d2 x hs).2.1 hx,h.S.mod m λ x hx hs=>(d2 x hs).2.2.1 hx,h.M.mod m λ x hx hs=>(d2 x hs).2.2.2 hx,hT, ?_,h.nums⟩
 have hn:=h.apart
 rw [List.nodup_append] at hn ⊢
 refine ⟨hn.1,blk_nodup A,λ x hx y hy e=> ?_⟩
 subst e
 rcases hq x hy with hy | hy
 ·exact hn.2.2 x hx x hy rfl
 ·have hf:x∈WOwn.foot a:=by unfold WOwn.foot;rw [List.mem_append];exact .inl hx
  have:=(h.lt x hf).2
  omega
theorem WOwn.setN {w:World} {Z:Nat} {a:Wd.At} {W V:Wd} (h:WOwn w Z a W) (h1:V.field.places=W.field.places) (h2:V.bases=W.bases) (h3:V.stocks=W.stocks) (h4:V.mines=W.mines) (h5:V.troops=W.troops) (hn:okI V.field.wide∧okI V.field.high∧okI V.next∧okI V.now):WOwn w Z a V :=
 ⟨by rw [h1];exact h.P,by rw [h2];exact h.B,by rw [h3];exact h.S,by rw [h4];exact h.M,by rw [h5];exact h.T,h.apart,hn⟩
theorem foot_swapT {w:World} {Z:Nat} {a:Wd.At} {W:Wd} {A:Option Addr} {c q:Nat} (h:q∈WOwn.foot {a with T:=A,t:=c}):q∈WOwn.foot a∨q∈Rep.blkOf A:=by
 rcases foot_mem.1 h with h | h | h | h | h
 ·exact .inl (foot_P h)
 ·exact .inl (foot_B h)
 ·exact .inl (foot_S h)
 ·exact .inl (foot_M h)
 ·exact .inr h
def reachOf (k:Int):Int:=if k=1 then 1 else if k=2 then 2 else 0
def harmOf (k:Int):Int:=if k=1 then 1 else if k=2 then 4 else 0
def kindE (k:Int):Int:=if k=1 then 0 else if k=2 then 0 else 1
theorem kind_any (k:Int) (w:World):Calls Tryz.prog 128 #[.int .i64 k] w λ e w'=>e= .returned (.tuple #[.agg #[.int .i64 (Wd.lifeOf k), .int .i64 (reachOf k), .int .i64 (harmOf k), .int .i64 (Wd.priceOf k)], .int .i64 (kindE k)])∧Ext w w':=by
 by_cases h1:k=1
 ·subst h1;exact kind_1 w
 ·by_cases h2:k=2
  ·subst h2;exact kind_2 w
  ·have:=kind_no k w (inB_not (by omega))
   simpa [Wd.lifeOf,reachOf,harmOf,Wd.priceOf,kindE,h1,h2] using this
theorem WOwn.down {w:World} {Z Z':Nat} {a:Wd.At} {W:Wd} (h:WOwn w Z a W) (hz:Z'≤Z):WOwn w Z' a W:=⟨h.P.down hz,h.B.down hz,h.S.down hz,h.M.down hz,h.T.down hz,h.apart,h.nums⟩
def Wd.zero:Wd:=⟨⟨0,0, []⟩, [], [], [], [],0,0⟩
theorem WOwn.zero (w:World) (Z:Nat):WOwn w Z ⟨none,none,none,none,none,0,0,0,0,0⟩ Wd.zero:=⟨Rep.SOwn.nil w,Rep.SOwn.nil w,Rep.SOwn.nil w,Rep.SOwn.nil w,Rep.SOwn.nil w,by simp [Rep.blkOf],okI_iff.2 (by decide),okI_iff.2 (by decide),okI_iff.2 (by decide),okI_iff.2 (by decide)⟩
theorem atE_zero {f:Fld} {c:Cel} (h:f.chk=0) (he:f.atE c=0):f.isIn c=true:=by
 cases hi:f.isIn c with
 | true=>rfl
 | false=>rw [(Fld.at_out h hi).1] at he;omega
theorem fldAt2 (f:Fld) (p:Cel) (A:Option Addr) (c:Nat) (w:World) (hP:repI.SHas 8 w A c f.places):
  Calls Tryz.prog 158 #[.agg #[.int .i64 f.wide, .int .i64 f.high, .slice A f.places.length c], .agg #[.int .i64 p.x, .int .i64 p.y]] w λ e w'=>e= .returned (.tuple #[.int .i64 (f.atV p), .int .i64 (f.atE p)])∧Below w.heap.size w w':=fldAt f p A c w hP
theorem WOwn.of5 {w:World} {Z:Nat} {P B S M T:Option Addr} {p b s m t:Nat} {W:Wd} (hP:repI.SOwn 3 8 w Z (Rep.blkOf P) P p W.field.places) (hB:Cel.rep.SOwn 49 16 w Z (Rep.blkOf B) B b W.bases) (hS:repI.SOwn 3 8 w Z (Rep.blkOf S) S s W.stocks) (hM:repI.SOwn 3 8 w Z (Rep.blkOf M) M m W.mines) (hT:Trp.rep.SOwn 66 56 w Z (Rep.blkOf T) T t W.troops)
  (h1:∀ q∈Rep.blkOf B,q∈Rep.blkOf P→False) (h2:∀ q∈Rep.blkOf S,q∈Rep.blkOf P→False) (h3:∀ q∈Rep.blkOf S,q∈Rep.blkOf B→False) (h4:∀ q∈Rep.blkOf M,q∈Rep.blkOf P→False) (h5:∀ q∈Rep.blkOf M,q∈Rep.blkOf B→False) (h6:∀ q∈Rep.blkOf M,q∈Rep.blkOf S→False)
  (h7:∀ q∈Rep.blkOf T,q∈Rep.blkOf P→False) (h8:∀ q∈Rep.blkOf T,q∈Rep.blkOf B→False) (h9:∀ q∈Rep.blkOf T,q∈Rep.blkOf S→False) (h10:∀ q∈Rep.blkOf T,q∈Rep.blkOf M→False) (hn:okI W.field.wide∧okI W.field.high∧okI W.next∧okI W.now):
  WOwn w Z ⟨P,B,S,M,T,p,b,s,m,t⟩ W:=by
 refine ⟨hP,hB,hS,hM,hT, ?_,hn⟩
 have e1:=blk_nodup P
 have e2:=blk_nodup B
 have e3:=blk_nodup S
 have e4:=blk_nodup M
 have e5:=blk_nodup T
 simp only [List.nodup_append,List.mem_append]
 grind
theorem WOwn.newT {w:World} {Z:Nat} {a:Wd.At} {W:Wd} {A:Option Addr} {c:Nat} {p:List Trp} (h:WOwn w Z a W) (hT:Trp.rep.SOwn 66 56 w Z (Rep.blkOf A) A c p) (h1:∀ q∈Rep.blkOf A,q∈WOwn.foot a→False):WOwn w Z {a with T:=A,t:=c} {W with troops:=p}:=by
 refine ⟨h.P,h.B,h.S,h.M,hT, ?_,h.nums⟩
 have hn:=h.apart
 have e1:=blk_nodup A
 have f1:∀ q∈Rep.blkOf A,(q∈Rep.blkOf a.P→False)∧(q∈Rep.blkOf a.B→False)∧(q∈Rep.blkOf a.S→False)∧(q∈Rep.blkOf a.M→False):=λ q hq=>⟨λ h=>h1 q hq (foot_P h),λ h=>h1 q hq (foot_B h),λ h=>h1 q hq (foot_S h),λ h=>h1 q hq (foot_M h)⟩
 simp only [List.nodup_append,List.mem_append] at hn ⊢
 grind
theorem foot_newT {a:Wd.At} {A:Option Addr} {c q:Nat} (h:q∈WOwn.foot {a with T:=A,t:=c}):q∈WOwn.foot a∨q∈Rep.blkOf A:=by
 rcases foot_mem.1 h with h | h | h | h | h
 ·exact .inl (foot_P h)
 ·exact .inl (foot_B h)
 ·exact .inl (foot_S h)
 ·exact .inl (foot_M h)
 ·exact .inr h
structure Pairs (a:Wd.At):Prop where
 PS:∀ q∈Rep.blkOf a.P,q∈Rep.blkOf a.S→False
 PM:∀ q∈Rep.blkOf a.P,q∈Rep.blkOf a.M→False
 PB:∀ q∈Rep.blkOf a.P,q∈Rep.blkOf a.B→False
 PT:∀ q∈Rep.blkOf a.P,q∈Rep.blkOf a.T→False
 SM:∀ q∈Rep.blkOf a.S,q∈Rep.blkOf a.M→False
 SB:∀ q∈Rep.blkOf a.S,q∈Rep.blkOf a.B→False
 ST:∀ q∈Rep.blkOf a.S,q∈Rep.blkOf a.T→False
 MB:∀ q∈Rep.blkOf a.M,q∈Rep.blkOf a.B→False
 MT:∀ q∈Rep.blkOf a.M,q∈Rep.blkOf a.T→False
 BT:∀ q∈Rep.blkOf a.B,q∈Rep.blkOf a.T→False
end
section
open Go.RowKit
def pcK (f:Fld) (c:Cel):Int:=if f.isIn c then costK (f.place c) else 0
theorem cost_ground {f:Fld} {c:Cel} (hf:f.chk=0) (hc:f.isIn c=true):(costE (f.place c)== 0)=f.ground c∧(f.ground c=true→costK (f.place c)=f.kost c):=by
 obtain ⟨_,_,_,_,_,g6⟩:=Fld.good hf
 have hp:=g6 (f.place c) (by unfold Fld.place;exact mem_dd (Fld.at_lt hf hc).1)
 unfold Fld.ground
 rw [hc]
 have:f.place c=0∨f.place c=1∨f.place c=2∨f.place c=3:=by omega
 unfold Fld.kost costE costK
 rcases this with h | h | h | h<;>rw [h]<;>simp
theorem pc_out {f:Fld} {c:Cel} (hf:f.chk=0) (h:¬ f.atE c=0):pcK f c=0∧f.ground c=false:=by
 have hc:f.isIn c=false:=by
  cases hc:f.isIn c with
  | false=>rfl
  | true=>exact absurd (Fld.at_in hf hc).1 h
 unfold pcK Fld.ground;rw [hc];exact ⟨rfl,rfl⟩
theorem pc_in {f:Fld} {c:Cel} (hf:f.chk=0) (h:f.atE c=0):pcK f c=costK (f.atV c)∧f.ground c=(costE (f.atV c)== 0):=by
 have hc:=atE_zero hf h
 rw [(Fld.at_in hf hc).2]
 unfold pcK;rw [hc];exact ⟨rfl,(cost_ground hf hc).1.symm⟩
theorem pcK_ground {f:Fld} {c:Cel} (hf:f.chk=0) (h:f.ground c=true):pcK f c=f.kost c:=by
 have hc:=Fld.ground_in h
 unfold pcK;rw [if_pos hc];exact (cost_ground hf hc).2 h
theorem fcost_any (p:Int) (w:World):
  Calls Tryz.prog 199 #[.int .i64 p] w (λ e w'=>e= .returned (.tuple #[.int .i64 (costK p), .int .i64 (costE p)])∧Ext w w'):=by
 refine calls_W (n:=12) Tryz.func199 rfl rfl rfl ?_
 refine sg<|va rfl<|va rfl<|nK<|sq<|sg<|vm rfl<|nK<|bk<|sq<|sg<|vL (beq rfl rfl)<|va rfl<|nK<| ?_
 refine ceq rfl (λ h_1=> ?_) (λ h_1=> ?_)
 ·have k_2:(p == 0)=true:=by simpa using h_1
  refine sK<| ?_
  refine ceq rfl (λ h_3=> ?_) (λ h_3=> ?_)
  ·have k_4:(p == 0)=true:=by simpa using h_3
   refine sg<|va rfl<|va rfl<|nK<|rt<|tB<|tT<|tR (.tmp rfl (.tmp rfl .nil))<| ?_
   exact ⟨by simp_all [costK,costE,tup],(Ext.rf w)⟩
  ·have k_5:(p == 0)=false:=by simpa using h_3
   refine sg<|vL (beq rfl rfl)<|va rfl<|nK<| ?_
   refine ceq rfl (λ h_6=> ?_) (λ h_6=> ?_)
   ·have k_7:(p == 2)=true:=by simpa using h_6
    refine sg<|va rfl<|va rfl<|nK<|rt<|tB<|tT<|tR (.tmp rfl (.tmp rfl .nil))<| ?_
    exact ⟨by simp_all [costK,costE,tup],(Ext.rf w)⟩
   ·have k_8:(p == 2)=false:=by simpa using h_6
    refine sg<|vL (beq rfl rfl)<|va rfl<|nK<| ?_
    refine ceq rfl (λ h_9=> ?_) (λ h_9=> ?_)
    ·have k_10:(p == 1)=true:=by simpa using h_9
     refine sg<|va rfl<|va rfl<|nK<|rt<|tB<|tT<|tR (.tmp rfl (.tmp rfl .nil))<| ?_
     exact ⟨by simp_all [costK,costE,tup],(Ext.rf w)⟩
    ·have k_11:(p == 1)=false:=by simpa using h_9
     refine sk<|nB<|nT<|sg<|va rfl<|va rfl<|nK<|rt<|tR (.tmp rfl (.tmp rfl .nil))<| ?_
     exact ⟨by simp_all [costK,costE,tup],(Ext.rf w)⟩
 ·have k_12:(p == 0)=false:=by simpa using h_1
  refine rg<|vL (beq rfl rfl)<|va rfl<|nK<| ?_
  refine ceq rfl (λ h_13=> ?_) (λ h_13=> ?_)
  ·have k_14:(p == 3)=true:=by simpa using h_13
   refine sg<|va rfl<|va rfl<|nK<|rt<|tB<|tT<|tR (.tmp rfl (.tmp rfl .nil))<| ?_
   exact ⟨by simp_all [costK,costE,tup],(Ext.rf w)⟩
  ·have k_15:(p == 3)=false:=by simpa using h_13
   refine sg<|vL (beq rfl rfl)<|va rfl<|nK<| ?_
   refine ceq rfl (λ h_16=> ?_) (λ h_16=> ?_)
   ·have k_17:(p == 2)=true:=by simpa using h_16
    refine sg<|va rfl<|va rfl<|nK<|rt<|tB<|tT<|tR (.tmp rfl (.tmp rfl .nil))<| ?_
    exact ⟨by simp_all [costK,costE,tup],(Ext.rf w)⟩
   ·have k_18:(p == 2)=false:=by simpa using h_16
    refine sg<|vL (beq rfl rfl)<|va rfl<|nK<| ?_
    refine ceq rfl (λ h_19=> ?_) (λ h_19=> ?_)
    ·have k_20:(p == 1)=true:=by simpa using h_19
     refine sg<|va rfl<|va rfl<|nK<|rt<|tB<|tT<|tR (.tmp rfl (.tmp rfl .nil))<| ?_
     exact ⟨by simp_all [costK,costE,tup],(Ext.rf w)⟩
    ·have k_21:(p == 1)=false:=by simpa using h_19
     refine sk<|nB<|nT<|sg<|va rfl<|va rfl<|nK<|rt<|tR (.tmp rfl (.tmp rfl .nil))<| ?_
     exact ⟨by simp_all [costK,costE,tup],(Ext.rf w)⟩
theorem pindex_any (w0:World) (f:Fld) (P F A:Option Addr) (pc cf c b:Nat) (far:List Int) (l:List Nod) (to_:Cel) (p:Cel) (w:World) (hx0:Ext w0 w) (hf:f.chk=0) (hP:repI.SHas 8 w0 P pc f.places) (HB:Blk w b [.int .i64 f.wide, .int .i64 f.high, .slice P f.places.length pc, .int .i64 to_.x, .int .i64 to_.y, .slice F far.length cf, .slice A l.length c] 265 (0,0)) (hp: -500≤p.x∧p.x≤500∧ -500≤p.y∧p.y≤500):
  Calls Tryz.prog 166 #[.pointer (some ⟨b,0,none⟩), .agg #[.int .i64 p.x, .int .i64 p.y]] w (λ e w'=>e= .returned (.int .i64 (p.y * f.wide+p.x))∧Ext w w'):=by
 have qB:=HB.lt
 obtain ⟨g1,g2,g3,g4,g5,g6⟩:=Fld.good hf
 have q0:=hx0.size
 refine calls_W (n:=16) Tryz.func166 rfl rfl rfl ?_
 refine sg<|bx rfl rfl rfl rfl λ w_1 b_2 x_3 l_4 B_5=> ?_
 have:=x_3.size
 have z_1:=eT hx0 x_3
 have q_7:=B_5.lt
 refine va rfl<|nK<|sq<| ?_
 refine rd [(1,0),(6,0),(9,0)] [0,1,2,3,4,5,6,7,8,9,10,11] (by kernel_rfl) (by kernel_rfl) ?_
 refine fw1 rfl (λ _=>fa eF2 rfl)<|fq1 rfl (λ _ x=>ld rfl ((B_5.later x).one eF1 rfl))<|fw1 rfl (λ _=>mv rfl)<|fw1 rfl (λ _=>nc rfl)<|fw1 rfl (λ _=>fa eF21 rfl)<|fw1 rfl (λ _=>fa eF22 rfl)<| ?_
 have HB:=HB.later x_3
 refine fq1 rfl (λ _ x=>ld rfl ((HB.later x).one eF1 rfl))<|fw1 rfl (λ _=>bmu rfl rfl (inI ((by have:=Int.mul_le_mul (show p.y≤500 by omega) g2 (by omega) (by omega);have:=Int.mul_le_mul (show -p.y≤500 by omega) g2 (by omega) (by omega);rw [Int.neg_mul] at this;omega))))<|fw1 rfl (λ _=>fa eF0 rfl)<|fq1 rfl (λ _ x=>ld rfl ((B_5.later x).one eF1 rfl))<|fw1 rfl (λ _=>bad rfl rfl (inI ((by have:=Int.mul_le_mul (show p.y≤500 by omega) g2 (by omega) (by omega);have:=Int.mul_le_mul (show -p.y≤500 by omega) g2 (by omega) (by omega);rw [Int.neg_mul] at this;omega))))<|fw1 rfl (λ _=>as_ rfl)<|fn λ w_8 x_9=> ?_
 have:=x_9.size
 have z_8:=eT z_1 x_9
 refine nT<|rt<|tR (.tmp rfl .nil)<| ?_
 exact ⟨rfl,eT x_3 x_9⟩
theorem pcost_any (w0:World) (f:Fld) (P F A:Option Addr) (pc cf c b:Nat) (far:List Int) (l:List Nod) (to_:Cel) (p:Cel) (w:World) (hx0:Ext w0 w) (hf:f.chk=0) (hP:repI.SHas 8 w0 P pc f.places) (HB:Blk w b [.int .i64 f.wide, .int .i64 f.high, .slice P f.places.length pc, .int .i64 to_.x, .int .i64 to_.y, .slice F far.length cf, .slice A l.length c] 265 (0,0)):
  Calls Tryz.prog 164 #[.pointer (some ⟨b,0,none⟩), .agg #[.int .i64 p.x, .int .i64 p.y]] w (λ e w'=>e= .returned (.tuple #[.int .i64 (pcK f p), .bool (f.ground p)])∧Ext w w'):=by
 have qB:=HB.lt
 obtain ⟨g1,g2,g3,g4,g5,g6⟩:=Fld.good hf
 have q0:=hx0.size
 refine calls_W (n:=28) Tryz.func164 rfl rfl rfl ?_
 refine sg<|bx rfl rfl rfl rfl λ w_1 b_2 x_3 l_4 B_5=> ?_
 have:=x_3.size
 have z_1:=eT hx0 x_3
 have q_7:=B_5.lt
 refine va rfl<|va rfl<|nK<|sq<| ?_
 refine rd [(3,0),(4,0),(5,0)] [0,1,2,3,4,5,6,7,8,9,10] (by kernel_rfl) (by kernel_rfl) ?_
 refine fw1 rfl (λ _=>mv rfl)<|fw1 rfl (λ _=>nc rfl)<|fw1 rfl (λ _=>fa eF21 rfl)<| ?_
 have HB:=HB.later x_3
 refine fq1 rfl (λ _ x=>ld rfl ((HB.later x).par [.int .i64 f.wide, .int .i64 f.high, .slice P f.places.length pc] eF23 eF24 rfl))<|fq1 rfl (λ _ x=>ld rfl ((B_5.later x).all eF3 eF4))<|fc rfl rfl eF25 rfl (λ _ x=>fldAt2 f p _ _ _ (hP.keep (eT z_1 x))) rfl<|fw1 rfl (λ _=>mv rfl)<|fw1 rfl (λ _=>ex rfl rfl)<|fw1 rfl (λ _=>ex rfl rfl)<|fw1 rfl (λ _=>as_ rfl)<|fw1 rfl (λ _=>as_ rfl)<|fn λ w_8 x_9=> ?_
 have:=x_9.size
 have z_8:=eT z_1 x_9
 refine nT<|sq<|sg<|vm rfl<|vL (bne rfl rfl)<|nK<| ?_
 refine cne rfl (λ h_11=> ?_) (λ h_11=> ?_)
 ·have hpc:=pc_out hf h_11
  refine sg<|va rfl<|va rfl<|nK<|rt<|tT<|tR (.tmp rfl (.tmp rfl .nil))<| ?_
  exact ⟨by rw [hpc.1,hpc.2];rfl,eT x_3 x_9⟩
 ·have hpc:=pc_in hf h_11
  refine sK<|sg<|vm rfl<|ca eF26 rfl rfl ((fcost_any (f.atV p) _).mono ?_)
  rintro e w_12 ⟨rfl,x_13⟩
  refine ⟨_,rfl, ?_⟩
  have:=x_13.size
  have z_12:=eT z_8 x_13
  refine vm rfl<|vL (ex rfl rfl)<|vL (ex rfl rfl)<|va rfl<|va rfl<|nK<|sg<|vm rfl<|vm rfl<|vL (beq rfl rfl)<|va rfl<|va rfl<|nK<|rt<|tR (.tmp rfl (.tmp rfl .nil))<| ?_
  exact ⟨by rw [hpc.1,hpc.2];rfl,eT (eT x_3 x_9) x_13⟩
theorem psides_any (p:Cel) (w:World) (hp: -100000≤p.x∧p.x≤100000∧ -100000≤p.y∧p.y≤100000):
  Calls Tryz.prog 165 #[.agg #[.int .i64 p.x, .int .i64 p.y]] w (λ e w'=>e= .returned (.agg #[.int .i64 p.x, .int .i64 (p.y - 1), .int .i64 (p.x - 1), .int .i64 p.y, .int .i64 (p.x+1), .int .i64 p.y, .int .i64 p.x, .int .i64 (p.y+1)])∧Ext w w'):=by
 refine calls_W (n:=28) Tryz.func165 rfl rfl rfl ?_
 refine sg<|bx rfl rfl rfl rfl λ w_1 b_2 x_3 l_4 B_5=> ?_
 have:=x_3.size
 have z_1:=eT (Ext.rf w) x_3
 have q_7:=B_5.lt
 refine al rfl eF27 rfl rfl λ w_8 b_9 x_10 l_11 B_12=> ?_
 have:=x_10.size
 have z_8:=eT z_1 x_10
 have q_14:=B_12.lt
 refine nK<|sg<|vL (fa eF0 rfl)<| ?_
 have B_5:=B_5.later x_10
 refine vL (ld rfl (B_5.one eF1 rfl))<|vL (fa eF2 rfl)<|vL (ld rfl (B_5.one eF1 rfl))<|vL (bsu rfl rfl (inI (by omega)))<|vL (v:= .agg #[.int .i64 p.x, .int .i64 (p.y - 1)]) (bd rfl (by kernel_rfl))<|vL (fa eF0 rfl)<|vL (ld rfl (B_5.one eF1 rfl))<|vL (bsu rfl rfl (inI (by omega)))<|vL (fa eF2 rfl)<|vL (ld rfl (B_5.one eF1 rfl))<|vL (v:= .agg #[.int .i64 (p.x - 1), .int .i64 p.y]) (bd rfl (by kernel_rfl))<|vL (fa eF0 rfl)<|vL (ld rfl (B_5.one eF1 rfl))<|vL (bad rfl rfl (inI (by omega)))<|vL (fa eF2 rfl)<|vL (ld rfl (B_5.one eF1 rfl))<|vL (v:= .agg #[.int .i64 (p.x+1), .int .i64 p.y]) (bd rfl (by kernel_rfl))<|vL (fa eF0 rfl)<|vL (ld rfl (B_5.one eF1 rfl))<|vL (fa eF2 rfl)<|vL (ld rfl (B_5.one eF1 rfl))<|vL (bad rfl rfl (inI (by omega)))<|vL (v:= .agg #[.int .i64 p.x, .int .i64 (p.y+1)]) (bd rfl (by kernel_rfl))<|vL (v:= .agg #[.int .i64 p.x, .int .i64 (p.y - 1), .int .i64 (p.x - 1), .int .i64 p.y, .int .i64 (p.x+1), .int .i64 p.y, .int .i64 p.x, .int .i64 (p.y+1)]) (bd rfl (by kernel_rfl))<| ?_
 refine st (new:= [.int .i64 p.x, .int .i64 (p.y - 1), .int .i64 (p.x - 1), .int .i64 p.y, .int .i64 (p.x+1), .int .i64 p.y, .int .i64 p.x, .int .i64 (p.y+1)]) rfl rfl B_12 rfl eF28 rfl rfl rfl λ w_15 m_16 B_12=> ?_
 have:=m_16.size
 have z_15:=Ext.mod z_8 m_16 (ge1 (by omega))
 have:=m_16.size
 refine nK<|rt<|tR (.cell rfl (B_12.all eF29 eF28) .nil)<| ?_
 exact ⟨rfl,z_15⟩
end
section
open Go.RowKit
theorem fU {P:Program} {n:Nat} {ops:Array Oper} {Q:Exit→Act→World→Prop} {kd:Nat→Nat} {τ:List Nat} {E:List (Nat×Value)} {w0:World} {i d:Nat} {op:Op} {ty:TypeId} {pos:String} {af:Array Edge} {j:Nat} {q:Bool} {u:Value} {oj:Oper} {dj:Nat} (hi:ops[i]? =some ⟨some d,op,ty,pos,af,some (j,q)⟩) (hk:Nat.ble (kd i) 1=true) (hj:ops[j]? =some oj) (hdj:oj.dst=some dj) (hb:look E dj=some (gv false u)) (hd:Nat.blt d n=true)
  (h:FL P n ops Q kd τ ((d,undef)::E) w0):FL P n ops Q kd (i::τ) E w0:=λ a ha=>by
 have h1:=ha.g _ _ hb
 simp only [gv,Bool.false_eq_true,if_false] at h1
 have hw:Region.wanted ⟨some d,op,ty,pos,af,some (j,q)⟩ (yielded ops a.tmps)=false:=by simp [Region.wanted,yielded,hj,hdj,h1,undef]
 have hk:=Nat.le_of_ble_eq_true hk
 rcases Nat.lt_or_ge 0 (kd i) with h0 | h0
 ·exact ⟨_,hi, .inr (.inl ⟨by omega,undef, .inr ⟨hw,rfl⟩,h _ (ha.put hd _)⟩)⟩
 ·exact ⟨_,hi, .inl ⟨by omega,undef, .inr ⟨hw,rfl⟩,h _ (ha.put hd _)⟩⟩
end
section
open Go.RowKit
theorem ppush_any (w0:World) (f:Fld) (P F A:Option Addr) (pc cf c b:Nat) (far:List Int) (l:List Nod) (to_:Cel) (p:Cel) (d:Int) (w:World) (hx0:Ext w0 w) (hf:f.chk=0) (hP:repI.SHas 8 w0 P pc f.places) (HB:Blk w b [.int .i64 f.wide, .int .i64 f.high, .slice P f.places.length pc, .int .i64 to_.x, .int .i64 to_.y, .slice F far.length cf, .slice A l.length c] 265 (0,0)) (hb:w0.heap.size≤b) (HQ:Nod.rep.SOwn 313 32 w w0.heap.size (Rep.blkOf A) A c l) (hdQ:∀ q∈Rep.blkOf A,q=b→False) (hok:∀ y∈l,y.ok) (hl:l.length≤1000000) (hp: -500≤p.x∧p.x≤500∧ -500≤p.y∧p.y≤500) (ht: -500≤to_.x∧to_.x≤500∧ -500≤to_.y∧to_.y≤500) (hd:0≤d∧d≤100000):
  Calls Tryz.prog 197 #[.pointer (some ⟨b,0,none⟩), .agg #[.int .i64 p.x, .int .i64 p.y], .int .i64 d] w (λ e w'=>∃ A' c',e= .returned (.tuple #[])∧Blk w' b [.int .i64 f.wide, .int .i64 f.high, .slice P f.places.length pc, .int .i64 to_.x, .int .i64 to_.y, .slice F far.length cf, .slice A' ((Hp.push Nod.all l ⟨p,d,d+Fld.est to_ p⟩).length) c'] 265 (0,0)∧Nod.rep.SOwn 313 32 w' w0.heap.size (Rep.blkOf A') A' c' (Hp.push Nod.all l ⟨p,d,d+Fld.est to_ p⟩)∧(∀ q∈Rep.blkOf A',q=b→False)∧(∀ q∈Rep.blkOf A',q∈Rep.blkOf A∨w.heap.size≤q)∧Mod (b::Rep.blkOf A) w w'):=by
 have qB:=HB.lt
 obtain ⟨g1,g2,g3,g4,g5,g6⟩:=Fld.good hf
 have q0:=hx0.size
 have uHQ:=λ q hq=>(HQ.lt q hq).2
 have hll:=HQ.has.len_le
 have hzb:∀ q∈b::Rep.blkOf A,w0.heap.size≤q:=λ q hq=>(List.mem_cons.1 hq).elim (λ h=>by omega) λ h=>(HQ.lt q h).1
 have hsz1:=sz_bd (to_.x - p.x)
 have hsz2:=sz_bd (to_.y - p.y)
 refine calls_W (n:=32) Tryz.func197 rfl rfl rfl ?_
 refine sg<|bx rfl rfl rfl rfl λ w_1 b_2 x_3 l_4 B_5=> ?_
 have:=x_3.size
 have z_1:=(Mod.rf (b::Rep.blkOf A) w).trans (Mod.of_ext x_3)
 have q_7:=B_5.lt
 refine nK<|sq<| ?_
 refine rd [(0,0),(4,0),(5,0)] [0,1,2,3,4,5,6,7,8,9,10,11,12] (by kernel_rfl) (by kernel_rfl) ?_
 refine fq1 rfl (λ _ x=>ld rfl ((B_5.later x).all eF3 eF4))<|fw1 rfl (λ _=>mv rfl)<|fw1 rfl (λ _=>nc rfl)<|fw1 rfl (λ _=>fa eF30 rfl)<| ?_
 have HB:=HB.later x_3
 refine fq1 rfl (λ _ x=>ld rfl ((HB.later x).par [.int .i64 to_.x, .int .i64 to_.y] eF3 eF4 rfl))<|fc rfl rfl eF31 rfl (λ _ x=>apart_in p to_ _ (by omega) (by omega)) rfl<|fw1 rfl (λ _=>mv rfl)<|fw1 rfl (λ _=>ex rfl rfl)<|fw1 rfl (λ _=>ex rfl rfl)<|fw1 rfl (λ _=>ex rfl rfl)<|fw1 rfl (λ _=>as_ rfl)<|fw1 rfl (λ _=>as_ rfl)<|fw1 rfl (λ _=>as_ rfl)<|fn λ w_8 x_9=> ?_
 have:=x_9.size
 have z_8:=z_1.trans (Mod.of_ext x_9)
 refine nT<| ?_
 refine rd [(4,0),(12,3)] [0,1,2,3,4,5,6,7,8,9,10,11,12] (by kernel_rfl) (by kernel_rfl) ?_
 refine fw1 rfl (λ _=>mv rfl)<|fw1 rfl (λ _=>nc rfl)<|fw1 rfl (λ _=>fa eF32 rfl)<|fw1 rfl (λ _=>mkI (λ w=>by kernel_rfl) rfl)<| ?_
 have B_5:=B_5.later x_9
 refine fq1 rfl (λ _ x=>ld rfl ((B_5.later x).all eF3 eF4))<|fw1 rfl (λ _=>mv rfl)<|fw1 rfl (λ _=>mv rfl)<|fw1 rfl (λ _=>mv rfl)<|fw1 rfl (λ _=>bmu rfl rfl (inI (by omega)))<|fw1 rfl (λ _=>bad rfl rfl (inI (by omega)))<|fw (v:= .agg #[.int .i64 p.x, .int .i64 p.y, .int .i64 d, .int .i64 (d+(2 * (sz (to_.x - p.x)+sz (to_.y - p.y))))]) rfl rfl (λ _=>bd rfl (by kernel_rfl)) rfl<|fw1 rfl (λ _=>mkI (λ w=>by kernel_rfl) rfl)<| ?_
 have HQ:=HQ.later (eT x_3 x_9)
 have HB:=HB.later x_9
 refine fb rfl rfl rfl λ w_11 x_12 Q hK=>ca eF33 rfl rfl ((xP_push b A c w0.heap.size l (.int .i64 f.wide) (.int .i64 f.high) (.slice P f.places.length pc) (.int .i64 to_.x) (.int .i64 to_.y) (.slice F far.length cf) ((⟨⟨p.x,p.y⟩,d,d+(2 * (sz (to_.x - p.x)+sz (to_.y - p.y)))⟩:Nod)) _ (HB.later x_12) (HQ.later x_12) hok hdQ ⟨okI_iff.2 (by dsimp only;omega),okI_iff.2 (by dsimp only;omega),okI_iff.2 (by dsimp only;omega),okI_iff.2 (by dsimp only;omega)⟩ hl (by have:=x_12.size;omega)).mono ?_)
 rintro e w_15 ⟨A13,c13,rfl,HB13,HQ13,hg13,m_14⟩
 refine ⟨_,rfl,hK _ _ ?_⟩
 have:=x_12.size
 have z_11:=z_8.trans (Mod.of_ext x_12)
 have:=m_14.size
 have z_15:=z_11.md m_14 (λ q hq=> .inl hq)
 have u_18:=λ q hq=>(HQ13.lt q hq).2
 refine fn λ w_19 x_20=> ?_
 have:=x_20.size
 have z_19:=z_15.trans (Mod.of_ext x_20)
 refine ne<|tR .nil<| ?_
 have HQ13:=HQ13.later x_20
 have HB13:=HB13.later x_20
 exact ⟨A13,c13,rfl,HB13,HQ13,λ q hq hb=>by exfalso;(exact Or.elim (hg13 q hq) (λ k_22=>by (exact hdQ q k_22 hb)) (λ k_22=>by omega)),λ q hq=>(hg13 q hq).imp id λ h=>by omega,z_19⟩
end
end Go.Proofs.YtlikikpgmmkjbaaGreat
