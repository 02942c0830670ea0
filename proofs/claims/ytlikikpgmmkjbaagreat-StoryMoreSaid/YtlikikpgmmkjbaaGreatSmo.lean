import Derived.Test.YtlikikpgmmkjbaaGreatGra
import Derived.Test.YtlikikpgmmkjbaaGreatBlw
import Derived.Test.YtlikikpgmmkjbaaGreatCelK
import Derived.Test.YtlikikpgmmkjbaaGreatGooD
import Derived.Test.YtlikikpgmmkjbaaGreatOrwZ
import Derived.Test.YtlikikpgmmkjbaaGreatSop
set_option linter.unusedVariables false
set_option linter.unusedSimpArgs false
set_option maxRecDepth 100000
set_option maxHeartbeats 4000000
namespace Go.Proofs.YtlikikpgmmkjbaaGreat
section
open Go.RowKit
theorem clone_O (A:Option Addr) (c:Nat) (l:List Odr) (w:World) (h:Odr.rep.SHas 48 w A c l):
  Calls Tryz.prog 28 #[.slice A l.length c] w λ e w'=>∃ A' c',e= .returned (.slice A' l.length c')∧Odr.rep.SOwn 51 48 w' w.heap.size (Rep.blkOf A') A' c' l∧(A'=none↔A=none)∧Below w.heap.size w w':=by
 obtain ⟨i0,hi,hz0,hz1,hz2⟩:=info_parts Odr.info
 have qnil:∀ (w:World) (a:Option Addr) (n c n' c':Nat),(binOp .eql 44 (.slice a n c) (.slice none n' c')).run Tryz.prog w= .ok (.bool a.isNone) w:=λ w a n c n' c'=>Lib.run_eql_slice_nil w _ _ a n c n' c' Tryz.underlying44
 cases A with
 | none =>
  obtain rfl:c=0:=h.2.2.2.1 rfl
  obtain rfl:l= []:=List.eq_nil_of_length_eq_zero (by have:=h.1;omega)
  go_enter Tryz.func28,Tryz.ntmps28
  go_wp2_with fail
  go_ret
  exact ⟨none,0,rfl,Rep.SOwn.nil _,by simp,Below.refl _ _⟩
 | some a =>
  have hb0:Below w.heap.size w (w.alloc (.cells #[] 51)):=(Below.refl _ w).alloc (Nat.le_refl _) _
  obtain ⟨n,HN⟩:∃ n,Hid (l.length=n):=⟨_,Lib.hid rfl⟩
  obtain ⟨h1,h2,h3,h4,ess,h5,h6⟩:=h.keep hb0
  have H5:=Lib.hid h5
  have hone:∀ u∈ess.flatten,u.oneCell'=true:=by
   intro u hu
   obtain ⟨y,hy,hu⟩:=List.mem_flatten.1 hu
   obtain ⟨a,ha⟩:=h5.left y hy
   exact Odr.rep.one ha u hu
  have hraw:∀ (j:Nat) u,ess.flatten[j]? =some u→Odr.rep.raw (j % Odr.rep.size) u:=λ j u hu=>flat_raw h5 (by decide) hu
  rw [HN.out] at h1 h3 h6
  have HR:=Lib.hid h6
  have HE:=Lib.hid (Own.empty (e:= 51) (size:=Odr.rep.size) (G:=Odr.rep.raw) w (Nat.le_refl w.heap.size))
  clear h h4 h5 h6
  rw [HN.out]
  go_enter Tryz.func28,Tryz.ntmps28
  go_wp2_with (at_builtin;refine wpList_append_all _ rfl _ _ 44 rfl w.heap.size 51 i0 Odr.zero Odr.rep.size 48 Tryz.underlying44 hi hz0 hz1 hz2 rfl (by decide) Odr.rep.raw Odr.zero_raw _ _ _ rfl HE.out (some a) n c ess.flatten rfl HR.out hone hraw ?qc4 ?qc5 ?qc6 ?_)
  case qc4=>unfold maxLen;omega
  case qc5=>omega
  case qc6=>simp
  intro v' w1 hown hgrow hnil hat
  have hb1:=hb0.grown hgrow (by simp) (by intro k hk;simp [Value.ownBlock] at hk;omega)
  obtain ⟨A1,c1,rfl,hle,_,_,_,hnn⟩:=hown.shape
  have hA1:A1≠none:=by
   intro h
   subst h
   exact hnil (hnn rfl)
  have HO:Hid (Odr.rep.SOwn 51 48 w1 w.heap.size (Rep.blkOf A1) A1 c1 l):=Lib.hid (Rep.SOwn.of_plain Odr.plain H5.out (by rw [HN.out];exact h3) (by rw [HN.out];simpa using hown))
  have HA1:=Lib.hid hA1
  clear hgrow hnil hat hown hA1 hnn hone hraw
  go_wp2_with fail
  go_ret
  exact ⟨A1,c1,rfl,HO.out,⟨λ h=>absurd h HA1.out,λ h=>by cases h⟩,hb1⟩
end
section
open Go.RowKit
theorem Smo_el_S_S_api_Order:ElT Tryz.prog svRep 29 44 24:=ElT.mk_ (z:= .slice none 0 0) (k:=1) Tryz.underlying29 info_ords rfl rfl (by decide) (λ j u h=>raw0V j u h)
open Go.Proofs.YtlikikpgmmkjbaaGreat.Bv
def tlB (T:List SV):List Nat:=T.flatMap λ v:SV=>Rep.blkOf v.a
def TlOwn (w:World) (Z:Nat) (T:List SV) (L:List (List Odr)):Prop:=T.length=L.length∧∀ (i:Nat) (v:SV),T[i]? =some v→∃ l:List Odr,L[i]? =some l∧v.n=l.length∧Odr.rep.SOwn 51 48 w Z (Rep.blkOf v.a) v.a v.c l
theorem TlOwn.nil (w:World) (Z:Nat):TlOwn w Z [] []:=⟨rfl,λ i v h=>by simp at h⟩
theorem tlB_mem {T:List SV} {q:Nat} (h:q∈tlB T):∃ (i:Nat) (v:SV),T[i]? =some v∧q∈Rep.blkOf v.a:=by
 obtain ⟨v,hv,hq⟩:=List.mem_flatMap.1 h
 obtain ⟨i,hi,rfl⟩:=List.mem_iff_getElem.1 hv
 exact ⟨i,_,List.getElem?_eq_getElem hi,hq⟩
theorem tlB_of {T:List SV} {q i:Nat} {v:SV} (h:T[i]? =some v) (hq:q∈Rep.blkOf v.a):q∈tlB T:=List.mem_flatMap.2 ⟨v,List.mem_of_getElem? h,hq⟩
theorem tlB_snoc {T:List SV} {v:SV} {q:Nat} (h:q∈tlB (T++ [v])):q∈tlB T∨q∈Rep.blkOf v.a:=by
 unfold tlB at h ⊢
 rw [List.flatMap_append,List.mem_append] at h
 exact h.imp id λ h=>by simpa using h
section
variable {w w':World} {Z:Nat} {T:List SV} {L:List (List Odr)}
theorem TlOwn.later (h:TlOwn w Z T L) (x:Ext w w'):TlOwn w' Z T L:=⟨h.1,λ i v hi=>by
 obtain ⟨l,h1,h2,h3⟩:=h.2 i v hi
 exact ⟨l,h1,h2,h3.later x⟩⟩
theorem TlOwn.mod {S:List Nat} (h:TlOwn w Z T L) (m:Mod S w w') (hd:∀ q∈tlB T,q∉S):TlOwn w' Z T L:=⟨h.1,λ i v hi=>by
 obtain ⟨l,h1,h2,h3⟩:=h.2 i v hi
 exact ⟨l,h1,h2,h3.mod m λ q hq=>hd q (tlB_of hi hq)⟩⟩
theorem TlOwn.down {Z':Nat} (h:TlOwn w Z T L) (hz:Z'≤Z):TlOwn w Z' T L:=⟨h.1,λ i v hi=>by
 obtain ⟨l,h1,h2,h3⟩:=h.2 i v hi
 exact ⟨l,h1,h2,h3.down hz⟩⟩
theorem TlOwn.lt (h:TlOwn w Z T L):∀ q∈tlB T,Z≤q∧q<w.heap.size:=λ q hq=>by
 obtain ⟨i,v,hi,hq⟩:=tlB_mem hq
 obtain ⟨l,h1,h2,h3⟩:=h.2 i v hi
 exact h3.lt q hq
theorem TlOwn.snoc {A:Option Addr} {c:Nat} {l:List Odr} (h:TlOwn w Z T L) (o:Odr.rep.SOwn 51 48 w Z (Rep.blkOf A) A c l):TlOwn w Z (T++ [⟨A,l.length,c⟩]) (L++ [l]):=⟨by simp [h.1],λ i v hi=>by
 rcases Nat.lt_or_ge i T.length with hlt | hge
 ·rw [List.getElem?_append_left hlt] at hi
  obtain ⟨l',h1,h2,h3⟩:=h.2 i v hi
  exact ⟨l',by rw [List.getElem?_append_left (by rw [← h.1];exact hlt)];exact h1,h2,h3⟩
 ·rw [List.getElem?_append_right hge] at hi
  have h0:i - T.length=0:=by
   rcases Nat.eq_zero_or_pos (i - T.length) with h0 | h0
   ·exact h0
   ·rw [List.getElem?_eq_none (by simp;omega)] at hi;cases hi
  rw [h0] at hi
  obtain rfl:=Option.some.inj (show some (⟨A,l.length,c⟩:SV)=some v from hi)
  refine ⟨l,by rw [List.getElem?_append_right (by rw [← h.1];exact hge),← h.1,h0];rfl,rfl,o⟩⟩
theorem TlOwn.tells (h:TlOwn w Z T L):Tells w T L:=⟨h.1,λ i v hi=>by
 obtain ⟨l,h1,h2,h3⟩:=h.2 i v hi
 exact ⟨l,h1,h2,h3.has⟩⟩
end
def MoreR (W:Wd) (L:List (List Odr)) (l:List Odr) (e:Int) (V:Wd) (L':List (List Odr)):Prop :=
 (e=0∧StOk W L∧L.length<200∧turnE (runW W L) l=0∧V=W∧L'=L++ [l])∨(e≠0∧¬(StOk W L∧L.length<200∧turnE (runW W L) l=0)∧V=Wd.zero∧L'= [])
theorem more_any (a:Wd.At) (W:Wd) (A:Option Addr) (c:Nat) (T:List SV) (L:List (List Odr)) (Al:Option Addr) (cl:Nat) (l:List Odr) (w:World) (hW:Wd.Has w a W) (hT:svRep.SHas 24 w A c T) (hL:Tells w T L) (hl:Odr.rep.SHas 48 w Al cl l):
  Calls Tryz.prog 23 #[.agg #[.int .i64 W.field.wide, .int .i64 W.field.high, .slice a.P W.field.places.length a.p, .slice a.B W.bases.length a.b, .slice a.S W.stocks.length a.s, .slice a.M W.mines.length a.m, .slice a.T W.troops.length a.t, .int .i64 W.next, .int .i64 W.now, .slice A T.length c], .slice Al l.length cl] w (λ e w'=>∃ (e':Int) (a':Wd.At) (V:Wd) (A':Option Addr) (c':Nat) (T':List SV) (L':List (List Odr)),e= .returned (.tuple #[.agg #[.int .i64 V.field.wide, .int .i64 V.field.high, .slice a'.P V.field.places.length a'.p, .slice a'.B V.bases.length a'.b, .slice a'.S V.stocks.length a'.s, .slice a'.M V.mines.length a'.m, .slice a'.T V.troops.length a'.t, .int .i64 V.next, .int .i64 V.now, .slice A' T'.length c'], .int .i64 e'])∧MoreR W L l e' V L'∧WOwn w' w.heap.size a' V∧svRep.SOwn 44 24 w' w.heap.size (Rep.blkOf A') A' c' T'∧TlOwn w' w.heap.size T' L'∧Ext w w'):=by
 have hlT:=hT.len_le
 refine calls_W (n:=79) Tryz.func23 rfl rfl rfl ?_
 refine sg<|bx rfl rfl rfl rfl λ w_1 b_2 x_3 l_4 B_5=> ?_
 have:=x_3.size
 have z_1:=eT (Ext.rf w) x_3
 have q_7:=B_5.lt
 refine al rfl eF199 rfl rfl λ w_8 b_9 x_10 l_11 B_12=> ?_
 have:=x_10.size
 have z_8:=eT z_1 x_10
 have q_14:=B_12.lt
 refine va rfl<|nK<|sg<|vL (fa eF177 rfl)<| ?_
 have B_5:=B_5.later x_10
 refine vL (ld rfl (B_5.par [.int .i64 W.field.wide, .int .i64 W.field.high, .slice a.P W.field.places.length a.p, .slice a.B W.bases.length a.b, .slice a.S W.stocks.length a.s, .slice a.M W.mines.length a.m, .slice a.T W.troops.length a.t, .int .i64 W.next, .int .i64 W.now] eF61 eF62 rfl))<|vL (fa eF178 rfl)<|vL (ld rfl (B_5.one eF179 rfl))<|ca eF180 rfl rfl ((run_any a W _ _ T L _ (hW.keep z_8) (hT.keep z_8) (hL.keep z_8)).mono ?_)
 rintro e w_20 ⟨E15,a15,V15,A15,c15,ms15,rfl,hr15,HO15,OM15,hd15,x_21⟩
 refine ⟨_,rfl, ?_⟩
 have:=x_21.size
 have z_20:=eT z_8 x_21
 have u_16:=λ q hq=>(HO15.lt q hq).2
 have lo_17:=λ q hq=>(HO15.lt q hq).1
 have u_18:=λ q hq=>(OM15.lt q hq).2
 have lo_19:=λ q hq=>(OM15.lt q hq).1
 have dd15:∀ q∈Rep.blkOf A15,q∈WOwn.foot a15→False:=hd15
 have dw15:∀ q∈WOwn.foot a15,q∈Rep.blkOf A15→False:=λ q h1 h2=>hd15 q h2 h1
 refine vm rfl<|vL (ex rfl rfl)<|vL (ex rfl rfl)<|vL (ex rfl rfl)<|al rfl eF80 rfl rfl λ w_23 b_24 x_25 l_26 B_27=> ?_
 have:=x_25.size
 have z_23:=eT z_20 x_25
 have q_29:=B_27.lt
 refine st rfl rfl B_27 rfl eF62 rfl rfl rfl λ w_30 m_31 B_27=> ?_
 have:=m_31.size
 have z_30:=Ext.mod z_23 m_31 (ge1 (by omega))
 have:=m_31.size
 refine va rfl<|va rfl<|nK<|sq<|sg<|vm rfl<|vL (bne rfl rfl)<|nK<| ?_
 refine cne rfl (λ h_34=> ?_) (λ h_34=> ?_)
 ·refine sg<|vL (v:= .agg #[.int .i64 0, .int .i64 0, .slice none 0 0, .slice none 0 0, .slice none 0 0, .slice none 0 0, .slice none 0 0, .int .i64 0, .int .i64 0, .slice none 0 0]) (bd rfl (by kernel_rfl))<|vm rfl<| ?_
  have B_12:=B_12.later (eT x_21 x_25)
  have B_12:=B_12.mod m_31 (nm1 (by omega))
  refine st (new:= [.int .i64 0, .int .i64 0, .slice none 0 0, .slice none 0 0, .slice none 0 0, .slice none 0 0, .slice none 0 0, .int .i64 0, .int .i64 0, .slice none 0 0]) rfl rfl B_12 rfl eF182 rfl rfl rfl λ w_35 m_36 B_12=> ?_
  have:=m_36.size
  have z_35:=Ext.mod z_30 m_36 (ge1 (by omega))
  have:=m_36.size
  refine va rfl<|nK<|rt<|tT<|tR (.cell rfl (B_12.all eF181 eF182) (.tmp rfl .nil))<| ?_
  exact ⟨E15,⟨none,none,none,none,none,0,0,0,0,0⟩,Wd.zero,none,0, [], [],rfl, .inr ⟨(by simpa using h_34),λ h_=>(show ¬ E15=0 by simpa using h_34) (hr15.stOk.2 h_.1),rfl,rfl⟩,WOwn.zero _ _,Rep.SOwn.nil _,TlOwn.nil _ _,z_35⟩
 ·obtain ⟨o1,o2,o3,o4,o5⟩:=hr15.ok (by simpa using h_34)
  have hlL:=hL.1
  refine sK<|sq<|sg<|vL (fa eF178 rfl)<| ?_
  have B_5:=B_5.later (eT x_21 x_25)
  have B_5:=B_5.mod m_31 (nm1 (by omega))
  refine vL (ld rfl (B_5.one eF179 rfl))<|vL (ln Tryz.underlying29 rfl)<|vL (beq rfl rfl)<|nK<| ?_
  refine ceq rfl (λ h_39=> ?_) (λ h_39=> ?_)
  ·refine sg<|vL (v:= .agg #[.int .i64 0, .int .i64 0, .slice none 0 0, .slice none 0 0, .slice none 0 0, .slice none 0 0, .slice none 0 0, .int .i64 0, .int .i64 0, .slice none 0 0]) (bd rfl (by kernel_rfl))<| ?_
   have B_12:=B_12.later (eT x_21 x_25)
   have B_12:=B_12.mod m_31 (nm1 (by omega))
   refine st (new:= [.int .i64 0, .int .i64 0, .slice none 0 0, .slice none 0 0, .slice none 0 0, .slice none 0 0, .slice none 0 0, .int .i64 0, .int .i64 0, .slice none 0 0]) rfl rfl B_12 rfl eF182 rfl rfl rfl λ w_40 m_41 B_12=> ?_
   have:=m_41.size
   have z_40:=Ext.mod z_30 m_41 (ge1 (by omega))
   have:=m_41.size
   refine va rfl<|nK<|rt<|tT<|tR (.cell rfl (B_12.all eF181 eF182) (.tmp rfl .nil))<| ?_
   exact ⟨6,⟨none,none,none,none,none,0,0,0,0,0⟩,Wd.zero,none,0, [], [],rfl, .inr ⟨(by decide),λ h_=>by have:=h_.2.1;have hb_:=h_39;omega,rfl,rfl⟩,WOwn.zero _ _,Rep.SOwn.nil _,TlOwn.nil _ _,z_40⟩
  ·have hlt:L.length<200:=by have hb_:=h_39;omega
   refine sK<|sq<|sg<|vL (ld rfl (B_27.all eF61 eF62))<|vm rfl<| ?_
   have HO15:=HO15.later x_25
   have HO15:=HO15.mod m_31 (fk1 u_16 (by omega))
   refine ca eF176 rfl rfl ((turn_any a15 V15 _ _ l _ HO15.has (hl.keep z_30)).mono ?_)
   rintro e w_53 ⟨a44,A440,c440,A441,c441,A442,c442,rfl,HO44,OR440,OR441,OR442,hd44,x_54⟩
   refine ⟨_,rfl, ?_⟩
   have:=x_54.size
   have z_53:=eT z_30 x_54
   have u_45:=λ q hq=>(HO44.lt q hq).2
   have lo_46:=λ q hq=>(HO44.lt q hq).1
   have u_47:=λ q hq=>(OR440.lt q hq).2
   have lo_48:=λ q hq=>(OR440.lt q hq).1
   have u_49:=λ q hq=>(OR441.lt q hq).2
   have lo_50:=λ q hq=>(OR441.lt q hq).1
   have u_51:=λ q hq=>(OR442.lt q hq).2
   have lo_52:=λ q hq=>(OR442.lt q hq).1
   have dd440:∀ q∈Rep.blkOf A440,q∈WOwn.foot a44→False:=λ q hq=>hd44 q (.inl hq)
   have dw440:∀ q∈WOwn.foot a44,q∈Rep.blkOf A440→False:=λ q h1 h2=>dd440 q h2 h1
   have dd441:∀ q∈Rep.blkOf A441,q∈WOwn.foot a44→False:=λ q hq=>hd44 q (.inr (.inl hq))
   have dw441:∀ q∈WOwn.foot a44,q∈Rep.blkOf A441→False:=λ q h1 h2=>dd441 q h2 h1
   have dd442:∀ q∈Rep.blkOf A442,q∈WOwn.foot a44→False:=λ q hq=>hd44 q (.inr (.inr hq))
   have dw442:∀ q∈WOwn.foot a44,q∈Rep.blkOf A442→False:=λ q h1 h2=>dd442 q h2 h1
   refine vm rfl<|vL (ex rfl rfl)<|vL (ex rfl rfl)<|vL (ex rfl rfl)<|al rfl eF80 rfl rfl λ w_56 b_57 x_58 l_59 B_60=> ?_
   have:=x_58.size
   have z_56:=eT z_53 x_58
   have q_62:=B_60.lt
   refine al rfl eF158 rfl rfl λ w_63 b_64 x_65 l_66 B_67=> ?_
   have:=x_65.size
   have z_63:=eT z_56 x_65
   have q_69:=B_67.lt
   have B_60:=B_60.later x_65
   refine st rfl rfl B_60 rfl eF62 rfl rfl rfl λ w_70 m_71 B_60=> ?_
   have:=m_71.size
   have z_70:=Ext.mod z_63 m_71 (ge1 (by omega))
   have:=m_71.size
   have B_67:=B_67.mod m_71 (nm1 (by omega))
   refine st (new:= [.slice A440 ((turnG V15 l).length) c440, .slice A441 ((turnM V15 l).length) c441, .slice A442 ((turnD V15 l).length) c442]) rfl rfl B_67 rfl eF160 rfl rfl rfl λ w_74 m_75 B_67=> ?_
   have:=m_75.size
   have z_74:=Ext.mod z_70 m_75 (ge1 (by omega))
   have:=m_75.size
   refine va rfl<|nK<|sg<|vm rfl<|vL (bne rfl rfl)<|nK<| ?_
   refine cne rfl (λ h_78=> ?_) (λ h_78=> ?_)
   ·refine sg<|vL (v:= .agg #[.int .i64 0, .int .i64 0, .slice none 0 0, .slice none 0 0, .slice none 0 0, .slice none 0 0, .slice none 0 0, .int .i64 0, .int .i64 0, .slice none 0 0]) (bd rfl (by kernel_rfl))<|vm rfl<| ?_
    have B_12:=B_12.later (eT x_21 x_25)
    have B_12:=B_12.mod m_31 (nm1 (by omega))
    have B_12:=B_12.later (eT x_54 (eT x_58 x_65))
    have B_12:=B_12.mod m_71 (nm1 (by omega))
    have B_12:=B_12.mod m_75 (nm1 (by omega))
    refine st (new:= [.int .i64 0, .int .i64 0, .slice none 0 0, .slice none 0 0, .slice none 0 0, .slice none 0 0, .slice none 0 0, .int .i64 0, .int .i64 0, .slice none 0 0]) rfl rfl B_12 rfl eF182 rfl rfl rfl λ w_79 m_80 B_12=> ?_
    have:=m_80.size
    have z_79:=Ext.mod z_74 m_80 (ge1 (by omega))
    have:=m_80.size
    refine va rfl<|nK<|rt<|tT<|tR (.cell rfl (B_12.all eF181 eF182) (.tmp rfl .nil))<| ?_
    exact ⟨turnE V15 l,⟨none,none,none,none,none,0,0,0,0,0⟩,Wd.zero,none,0, [], [],rfl, .inr ⟨(by simpa using h_78),λ h_=>absurd h_.2.2 (by rw [← o4];simpa using h_78),rfl,rfl⟩,WOwn.zero _ _,Rep.SOwn.nil _,TlOwn.nil _ _,z_79⟩
   ·have ht0:turnE (runW W L) l=0:=by rw [← o4];simpa using h_78
    refine sK<|sg<|vL (fa eF177 rfl)<| ?_
    have B_5:=B_5.later (eT x_54 (eT x_58 x_65))
    have B_5:=B_5.mod m_71 (nm1 (by omega))
    have B_5:=B_5.mod m_75 (nm1 (by omega))
    refine vL (ld rfl (B_5.par [.int .i64 W.field.wide, .int .i64 W.field.high, .slice a.P W.field.places.length a.p, .slice a.B W.bases.length a.b, .slice a.S W.stocks.length a.s, .slice a.M W.mines.length a.m, .slice a.T W.troops.length a.t, .int .i64 W.next, .int .i64 W.now] eF61 eF62 rfl))<|ca eF180 rfl rfl ((run_any a W _ _ ([]:List SV) ([]) _ (hW.keep z_74) (Rep.SHas.nil _) Tells.nil).mono ?_)
    rintro e w_88 ⟨E83,a83,V83,A83,c83,ms83,rfl,hr83,HO83,OM83,hd83,x_89⟩
    refine ⟨_,rfl, ?_⟩
    have:=x_89.size
    have z_88:=eT z_74 x_89
    have u_84:=λ q hq=>(HO83.lt q hq).2
    have lo_85:=λ q hq=>(HO83.lt q hq).1
    have u_86:=λ q hq=>(OM83.lt q hq).2
    have lo_87:=λ q hq=>(OM83.lt q hq).1
    have dd83:∀ q∈Rep.blkOf A83,q∈WOwn.foot a83→False:=hd83
    have dw83:∀ q∈WOwn.foot a83,q∈Rep.blkOf A83→False:=λ q h1 h2=>hd83 q h2 h1
    refine vm rfl<|vL (ex rfl rfl)<|vL (ex rfl rfl)<|vL (ex rfl rfl)<|al rfl eF80 rfl rfl λ w_91 b_92 x_93 l_94 B_95=> ?_
    have:=x_93.size
    have z_91:=eT z_88 x_93
    have q_97:=B_95.lt
    refine st rfl rfl B_95 rfl eF62 rfl rfl rfl λ w_98 m_99 B_95=> ?_
    have:=m_99.size
    have z_98:=Ext.mod z_91 m_99 (ge1 (by omega))
    have:=m_99.size
    refine va rfl<|va rfl<|nK<|sg<|vL (ld rfl (B_95.all eF61 eF62))<|vL (v:= .agg #[.int .i64 V83.field.wide, .int .i64 V83.field.high, .slice a83.P V83.field.places.length a83.p, .slice a83.B V83.bases.length a83.b, .slice a83.S V83.stocks.length a83.s, .slice a83.M V83.mines.length a83.m, .slice a83.T V83.troops.length a83.t, .int .i64 V83.next, .int .i64 V83.now, .slice none 0 0]) (bd rfl (by kernel_rfl))<|al rfl eF199 rfl rfl λ w_102 b_103 x_104 l_105 B_106=> ?_
    have:=x_104.size
    have z_102:=eT z_98 x_104
    have q_108:=B_106.lt
    refine st (new:= [.int .i64 V83.field.wide, .int .i64 V83.field.high, .slice a83.P V83.field.places.length a83.p, .slice a83.B V83.bases.length a83.b, .slice a83.S V83.stocks.length a83.s, .slice a83.M V83.mines.length a83.m, .slice a83.T V83.troops.length a83.t, .int .i64 V83.next, .int .i64 V83.now, .slice none 0 0]) rfl rfl B_106 rfl eF182 rfl rfl rfl λ w_109 m_110 B_106=> ?_
    have:=m_110.size
    have z_109:=Ext.mod z_102 m_110 (ge1 (by omega))
    have:=m_110.size
    refine nK<|sq<|sg<|vL (fa eF178 rfl)<| ?_
    have B_5:=B_5.later (eT x_89 x_93)
    have B_5:=B_5.mod m_99 (nm1 (by omega))
    have B_5:=B_5.later x_104
    have B_5:=B_5.mod m_110 (nm1 (by omega))
    refine vL (ld rfl (B_5.one eF179 rfl))<|vL (ln Tryz.underlying29 rfl)<|vm rfl<|nK<|bk<| ?_
    have HO83:=HO83.later x_93
    have HO83:=HO83.mod m_99 (fk1 u_84 (by omega))
    have HO83:=HO83.later x_104
    have HO83:=HO83.mod m_110 (fk1 u_84 (by omega))
    have B_12:=B_12.later (eT x_21 x_25)
    have B_12:=B_12.mod m_31 (nm1 (by omega))
    have B_12:=B_12.later (eT x_54 (eT x_58 x_65))
    have B_12:=B_12.mod m_71 (nm1 (by omega))
    have B_12:=B_12.mod m_75 (nm1 (by omega))
    have B_12:=B_12.later (eT x_89 x_93)
    have B_12:=B_12.mod m_99 (nm1 (by omega))
    have B_12:=B_12.later x_104
    have B_12:=B_12.mod m_110 (nm1 (by omega))
    have OR440:=OR440.later (eT x_58 x_65)
    have OR440:=OR440.mod m_71 (fk1 u_47 (by omega))
    have OR440:=OR440.mod m_75 (fk1 u_47 (by omega))
    have OR440:=OR440.later (eT x_89 x_93)
    have OR440:=OR440.mod m_99 (fk1 u_47 (by omega))
    have OR440:=OR440.later x_104
    have OR440:=OR440.mod m_110 (fk1 u_47 (by omega))
    have OR441:=OR441.later (eT x_58 x_65)
    have OR441:=OR441.mod m_71 (fk1 u_49 (by omega))
    have OR441:=OR441.mod m_75 (fk1 u_49 (by omega))
    have OR441:=OR441.later (eT x_89 x_93)
    have OR441:=OR441.mod m_99 (fk1 u_49 (by omega))
    have OR441:=OR441.later x_104
    have OR441:=OR441.mod m_110 (fk1 u_49 (by omega))
    have OR442:=OR442.later (eT x_58 x_65)
    have OR442:=OR442.mod m_71 (fk1 u_51 (by omega))
    have OR442:=OR442.mod m_75 (fk1 u_51 (by omega))
    have OR442:=OR442.later (eT x_89 x_93)
    have OR442:=OR442.mod m_99 (fk1 u_51 (by omega))
    have OR442:=OR442.later x_104
    have OR442:=OR442.mod m_110 (fk1 u_51 (by omega))
    refine lp (λ mI EI wI=>∃ k:Nat,∃ Ts:List SV,∃ AL:Option Addr,∃ cL:Nat,EI= [(1, .slice Al l.length cl),(4, .pointer (some ⟨b_9,0,none⟩)),(5, .int .i64 0),(15, .pointer (some ⟨b_103,0,none⟩)),(57, .slice A T.length c),(58, .int .i64 (T.length:Int)),(59, .int .i64 (k:Int))]∧mI=T.length - k∧Ext w wI∧Blk wI b_9 [.int .i64 0, .int .i64 0, .slice none 0 0, .slice none 0 0, .slice none 0 0, .slice none 0 0, .slice none 0 0, .int .i64 0, .int .i64 0, .slice none 0 0] 31 (0,0)∧repI.SOwn 3 8 wI w_30.heap.size (Rep.blkOf A440) A440 c440 (turnG V15 l)∧repI.SOwn 3 8 wI w_30.heap.size (Rep.blkOf A441) A441 c441 (turnM V15 l)∧repB.SOwn 4 1 wI w_30.heap.size (Rep.blkOf A442) A442 c442 (turnD V15 l)∧WOwn wI w_74.heap.size a83 V83∧Blk wI b_103 [.int .i64 V83.field.wide, .int .i64 V83.field.high, .slice a83.P V83.field.places.length a83.p, .slice a83.B V83.bases.length a83.b, .slice a83.S V83.stocks.length a83.s, .slice a83.M V83.mines.length a83.m, .slice a83.T V83.troops.length a83.t, .int .i64 V83.next, .int .i64 V83.now, .slice AL Ts.length cL] 31 (0,0)∧svRep.SOwn 44 24 wI w_109.heap.size (Rep.blkOf AL) AL cL Ts∧TlOwn wI w_109.heap.size Ts (L.take k)∧(k≤T.length)∧(Ts.length=k)∧(w_109.heap.size≤wI.heap.size)∧(∀ q∈tlB Ts,q∈Rep.blkOf AL→False)∧(∀ q∈Rep.blkOf AL,q=b_9→False)∧(∀ q∈Rep.blkOf AL,q=b_103→False)∧(∀ q∈Rep.blkOf AL,q∈WOwn.foot a83→False)∧(∀ q∈Rep.blkOf AL,q∈Rep.blkOf A440→False)∧(∀ q∈Rep.blkOf AL,q∈Rep.blkOf A441→False)∧(∀ q∈Rep.blkOf AL,q∈Rep.blkOf A442→False)) _ _ ⟨0, [],none,0,rfl,rfl,z_109,B_12,OR440,OR441,OR442,HO83,B_106,(Rep.SOwn.nil _),(TlOwn.nil _ _),by omega,rfl,Nat.le_refl _,λ q h1 h2=>by simp [tlB] at h1,(λ q hq hb=>by (simp [Rep.blkOf] at hq)),(λ q hq hb=>by (simp [Rep.blkOf] at hq)),(λ q hq hb=>by (simp [Rep.blkOf] at hq)),(λ q hq hb=>by (simp [Rep.blkOf] at hq)),(λ q hq hb=>by (simp [Rep.blkOf] at hq)),(λ q hq hb=>by (simp [Rep.blkOf] at hq))⟩ (.cons rfl (.cons rfl (.cons rfl (.cons rfl (.cons rfl (.cons rfl (.cons (loI rfl (by first | omega | rfl | (simp<;>omega))) .nil))))))) ?_
    rintro m_120 E_121 w_119 ⟨k,Ts,AL,cL,rfl,rfl,z_119,B_12,OR440,OR441,OR442,HO83,HB,OLx,HTl,hk,hTs,hwP,dAL,d_113,d_114,d_115,d_116,d_117,d_118⟩
    have:=z_119.size
    have q_123:=B_12.lt
    have u_124:=λ q hq=>(OR440.lt q hq).2
    have u_125:=λ q hq=>(OR441.lt q hq).2
    have u_126:=λ q hq=>(OR442.lt q hq).2
    have u_127:=λ q hq=>(HO83.lt q hq).2
    have q_128:=HB.lt
    have u_129:=λ q hq=>(OLx.lt q hq).2
    have gA1:∀ q∈Rep.blkOf AL,w_109.heap.size≤q:=λ q hq=>(OLx.lt q hq).1
    have gA2:∀ q∈Rep.blkOf AL,w.heap.size≤q:=λ q hq=>by have:=gA1 q hq;omega
    have bAL:∀ q∈Rep.blkOf AL,q=b_103→False:=λ q hq hb=>by have:=gA1 q hq;omega
    have uT:∀ q∈tlB Ts,q<w_119.heap.size:=λ q hq=>(HTl.lt q hq).2
    have lT:∀ q∈tlB Ts,w_109.heap.size≤q:=λ q hq=>(HTl.lt q hq).1
    refine sg<|vL (blt rfl rfl)<|nK<|sq<| ?_
    refine clt rfl (λ h_130=> ?_) (λ h_130=> ?_)
    ·obtain ⟨Ax,cx,lx,hTx,hLx,hx⟩:=hL.at_ (k:=k) (by omega)
     refine sK<|sq<|bk<|sg<|vL (iA k Tryz.underlying29 eF174 rfl rfl ((hT.keep z_119).adr (zl k (by omega))) rfl (by omega))<|vL (v:= .slice Ax lx.length cx) (ld rfl (Rep.SHas.one' hcV ((hT.keep z_119).adh (zl k (by omega))) hTx rfl eF175))<|va rfl<|nK<| ?_
     refine rd [(1,0),(3,2),(4,2),(5,3),(7,3)] [0,1,2,3,4,5,6,7] (by kernel_rfl) (by kernel_rfl) ?_
     refine fw1 rfl (λ _=>fa eF178 rfl)<|fq1 rfl (λ _ x=>ld rfl ((HB.later x).one eF179 rfl))<|fw1 rfl (λ _=>mv rfl)<|fx rfl rfl rfl λ w_131 x_132 Q hK=>ca eF207 rfl rfl ((clone_O _ _ lx _ (hx.keep (eT z_119 x_132))).mono ?_)
     rintro e w_136 ⟨A133,c133,rfl,OC133,hn133,x_137⟩
     refine ⟨_,rfl,hK _ _ ⟨eT x_132 x_137, ?_⟩⟩
     have:=x_132.size
     have z_131:=eT z_119 x_132
     have:=x_137.size
     have z_136:=eT z_131 x_137
     have u_134:=λ q hq=>(OC133.lt q hq).2
     have lo_135:=λ q hq=>(OC133.lt q hq).1
     refine fx rfl rfl rfl λ w_140 x_141 Q hK=>bs (e:= 44) (cs:= [.slice A133 ((lx).length) c133]) rfl (λ _=>by kernel_rfl) rfl λ w_142 b_143 x_144 l_145 B_146=>hK _ _ ⟨eT x_141 x_144, ?_⟩
     have:=x_141.size
     have z_140:=eT z_136 x_141
     have:=x_144.size
     have z_142:=eT z_140 x_144
     have q_149:=B_146.lt
     have OLx:=OLx.later (eT x_132 (eT x_137 (eT x_141 x_144)))
     refine fb rfl rfl rfl λ w_150 x_151 Q hK=>ap Smo_el_S_S_api_Order Rep.flat_bare (OLx.later x_151) ((Blk.has1 (R:=svRep) (by_:=24) (q:=(⟨A133,(lx).length,c133⟩:SV)) B_146 ⟨rfl,trivial⟩ (by decide)).keep x_151) rfl rfl (by simp only [List.length_cons,List.length_nil];omega) (by simp only [List.length_cons,List.length_nil];omega) (by have:=x_151.size;omega) rfl λ w_152 A_153 c_154 m_155 O_156 g_157 n_158=>hK _ _ ?_
     have:=x_151.size
     have z_150:=eT z_142 x_151
     have:=m_155.size
     have z_152:=Ext.mod z_150 m_155 (λ q hq=>Nat.le_trans (by omega) ((OLx.later x_151).lt q hq).1)
     have u_161:=λ q hq=>(O_156.lt q hq).2
     have:=m_155.size
     refine fw1 rfl (λ _=>fa eF178 rfl)<| ?_
     have HB:=HB.later (eT x_132 (eT x_137 (eT x_141 (eT x_144 x_151))))
     have HB:=HB.mod m_155 (λ hq=>d_114 _ hq rfl)
     refine fb rfl rfl rfl λ w_163 x_164 Q hK=>st (new:= [.int .i64 V83.field.wide, .int .i64 V83.field.high, .slice a83.P V83.field.places.length a83.p, .slice a83.B V83.bases.length a83.b, .slice a83.S V83.stocks.length a83.s, .slice a83.M V83.mines.length a83.m, .slice a83.T V83.troops.length a83.t, .int .i64 V83.next, .int .i64 V83.now, .slice A_153 ((Ts++ [(⟨A133,(lx).length,c133⟩:SV)]).length) c_154]) rfl rfl (HB.later x_164) rfl eF208 rfl rfl rfl λ w_165 m_166 HB=>hK _ _ ?_
     have:=x_164.size
     have z_163:=eT z_152 x_164
     have:=m_166.size
     have z_165:=Ext.mod z_163 m_166 (ge1 (by omega))
     have:=m_166.size
     refine fn λ w_170 x_171=> ?_
     have:=x_171.size
     have z_170:=eT z_165 x_171
     refine nB<|nT<|rg<|vL (bad rfl rfl (inI (by omega)))<|vm rfl<|nl<| ?_
     have B_12:=B_12.later (eT x_132 (eT x_137 (eT x_141 (eT x_144 x_151))))
     have B_12:=B_12.mod m_155 (λ hq=>d_113 _ hq rfl)
     have B_12:=B_12.later x_164
     have B_12:=B_12.mod m_166 (nm1 (by omega))
     have B_12:=B_12.later x_171
     have OR440:=OR440.later (eT x_132 (eT x_137 (eT x_141 (eT x_144 x_151))))
     have OR440:=OR440.mod m_155 (λ q hq h=>by exfalso;(exact d_116 q h hq))
     have OR440:=OR440.later x_164
     have OR440:=OR440.mod m_166 (λ q hq h=>by have hb:=List.mem_singleton.1 h;exfalso;(have:=u_124 q hq;have:=u_47 q hq;omega))
     have OR440:=OR440.later x_171
     have OR441:=OR441.later (eT x_132 (eT x_137 (eT x_141 (eT x_144 x_151))))
     have OR441:=OR441.mod m_155 (λ q hq h=>by exfalso;(exact d_117 q h hq))
     have OR441:=OR441.later x_164
     have OR441:=OR441.mod m_166 (λ q hq h=>by have hb:=List.mem_singleton.1 h;exfalso;(have:=u_125 q hq;have:=u_49 q hq;omega))
     have OR441:=OR441.later x_171
     have OR442:=OR442.later (eT x_132 (eT x_137 (eT x_141 (eT x_144 x_151))))
     have OR442:=OR442.mod m_155 (λ q hq h=>by exfalso;(exact d_118 q h hq))
     have OR442:=OR442.later x_164
     have OR442:=OR442.mod m_166 (λ q hq h=>by have hb:=List.mem_singleton.1 h;exfalso;(have:=u_126 q hq;have:=u_51 q hq;omega))
     have OR442:=OR442.later x_171
     have HO83:=HO83.later (eT x_132 (eT x_137 (eT x_141 (eT x_144 x_151))))
     have HO83:=HO83.mod m_155 (λ q hq h=>by exfalso;(exact d_115 q h hq))
     have HO83:=HO83.later x_164
     have HO83:=HO83.mod m_166 (λ q hq h=>by have hb:=List.mem_singleton.1 h;exfalso;(have:=u_127 q hq;have:=u_84 q hq;omega))
     have HO83:=HO83.later x_171
     have HB:=HB.later x_171
     have O_156:=O_156.later x_164
     have O_156:=O_156.mod m_166 (λ q hq h=>by have hb:=List.mem_singleton.1 h;exfalso;(exact Or.elim (g_157 q hq) (λ k_175=>by (exact d_114 q k_175 hb)) (λ k_175=>by omega)))
     have O_156:=O_156.later x_171
     have HTl:=HTl.later (eT x_132 (eT x_137 (eT x_141 (eT x_144 x_151))))
     have HTl:=HTl.mod m_155 (λ q hq h=>by exfalso;(exact dAL q hq h))
     have HTl:=HTl.later x_164
     have HTl:=HTl.mod m_166 (λ q hq h=>by have hb:=List.mem_singleton.1 h;exfalso;have:=lT q hq;omega)
     have HTl:=HTl.later x_171
     have OC133:=OC133.later (eT x_141 (eT x_144 x_151))
     have OC133:=OC133.mod m_155 (λ q hq h=>by exfalso;(have:=lo_135 q hq;(have:=u_129 q h;omega)))
     have OC133:=OC133.later x_164
     have OC133:=OC133.mod m_166 (fk2 lo_135 (by omega))
     have OC133:=OC133.later x_171
     exact nI _ _ ⟨k+1,Ts++ [(⟨A133,(lx).length,c133⟩:SV)],A_153,c_154,rfl,rfl,z_170,B_12,OR440,OR441,OR442,HO83,HB,O_156,(by rw [take_snoc_ hLx];exact HTl.snoc (OC133.down (by omega))),by omega,by rw [List.length_append,hTs];rfl,by omega,λ q h1 h2=>(tlB_snoc h1).elim (λ h1=>by exfalso;(exact Or.elim (g_157 q h2) (λ k_173=>by (exact dAL q h1 k_173)) (λ k_173=>by (have:=uT q h1;omega)))) (λ h1=>by exfalso;(exact Or.elim (g_157 q h2) (λ k_174=>by (have:=lo_135 q h1;(have:=u_129 q k_174;omega))) (λ k_174=>by (have:=u_134 q h1;omega)))),(λ q hq hb=>by (exact Or.elim (g_157 q hq) (λ k_176=>by (exact d_113 q k_176 hb)) (λ k_176=>by omega))),(λ q hq hb=>by (exact Or.elim (g_157 q hq) (λ k_177=>by (exact d_114 q k_177 hb)) (λ k_177=>by omega))),(λ q hq hb=>by (exact Or.elim (g_157 q hq) (λ k_178=>by (exact d_115 q k_178 hb)) (λ k_178=>by (have:=u_127 q hb;have:=u_84 q hb;omega)))),(λ q hq hb=>by (exact Or.elim (g_157 q hq) (λ k_179=>by (exact d_116 q k_179 hb)) (λ k_179=>by (have:=u_124 q hb;have:=u_47 q hb;omega)))),(λ q hq hb=>by (exact Or.elim (g_157 q hq) (λ k_180=>by (exact d_117 q k_180 hb)) (λ k_180=>by (have:=u_125 q hb;have:=u_49 q hb;omega)))),(λ q hq hb=>by (exact Or.elim (g_157 q hq) (λ k_181=>by (exact d_118 q k_181 hb)) (λ k_181=>by (have:=u_126 q hb;have:=u_51 q hb;omega))))⟩ (by omega) (.cons rfl (.cons rfl (.cons rfl (.cons rfl (.cons rfl (.cons rfl (.cons (loI rfl (by first | omega | rfl | (simp<;>omega))) .nil)))))))
    ·have ek:k=L.length:=by rw [← hL.1];omega
     refine xt<|xT<|xK<|xB<|nT<|sq<| ?_
     refine rd [(1,0),(3,2),(4,2),(5,3),(7,3)] [0,1,2,3,4,5,6,7] (by kernel_rfl) (by kernel_rfl) ?_
     refine fw1 rfl (λ _=>fa eF178 rfl)<|fq1 rfl (λ _ x=>ld rfl ((HB.later x).one eF179 rfl))<|fw1 rfl (λ _=>mv rfl)<|fx rfl rfl rfl λ w_182 x_183 Q hK=>ca eF207 rfl rfl ((clone_O _ _ l _ (hl.keep (eT z_119 x_183))).mono ?_)
     rintro e w_187 ⟨A184,c184,rfl,OC184,hn184,x_188⟩
     refine ⟨_,rfl,hK _ _ ⟨eT x_183 x_188, ?_⟩⟩
     have:=x_183.size
     have z_182:=eT z_119 x_183
     have:=x_188.size
     have z_187:=eT z_182 x_188
     have u_185:=λ q hq=>(OC184.lt q hq).2
     have lo_186:=λ q hq=>(OC184.lt q hq).1
     refine fx rfl rfl rfl λ w_191 x_192 Q hK=>bs (e:= 44) (cs:= [.slice A184 ((l).length) c184]) rfl (λ _=>by kernel_rfl) rfl λ w_193 b_194 x_195 l_196 B_197=>hK _ _ ⟨eT x_192 x_195, ?_⟩
     have:=x_192.size
     have z_191:=eT z_187 x_192
     have:=x_195.size
     have z_193:=eT z_191 x_195
     have q_200:=B_197.lt
     have OLx:=OLx.later (eT x_183 (eT x_188 (eT x_192 x_195)))
     refine fb rfl rfl rfl λ w_201 x_202 Q hK=>ap Smo_el_S_S_api_Order Rep.flat_bare (OLx.later x_202) ((Blk.has1 (R:=svRep) (by_:=24) (q:=(⟨A184,(l).length,c184⟩:SV)) B_197 ⟨rfl,trivial⟩ (by decide)).keep x_202) rfl rfl (by simp only [List.length_cons,List.length_nil];omega) (by simp only [List.length_cons,List.length_nil];omega) (by have:=x_202.size;omega) rfl λ w_203 A_204 c_205 m_206 O_207 g_208 n_209=>hK _ _ ?_
     have:=x_202.size
     have z_201:=eT z_193 x_202
     have:=m_206.size
     have z_203:=Ext.mod z_201 m_206 (λ q hq=>Nat.le_trans (by omega) ((OLx.later x_202).lt q hq).1)
     have u_212:=λ q hq=>(O_207.lt q hq).2
     have:=m_206.size
     refine fw1 rfl (λ _=>fa eF178 rfl)<| ?_
     have HB:=HB.later (eT x_183 (eT x_188 (eT x_192 (eT x_195 x_202))))
     have HB:=HB.mod m_206 (λ hq=>d_114 _ hq rfl)
     refine fb rfl rfl rfl λ w_214 x_215 Q hK=>st (new:= [.int .i64 V83.field.wide, .int .i64 V83.field.high, .slice a83.P V83.field.places.length a83.p, .slice a83.B V83.bases.length a83.b, .slice a83.S V83.stocks.length a83.s, .slice a83.M V83.mines.length a83.m, .slice a83.T V83.troops.length a83.t, .int .i64 V83.next, .int .i64 V83.now, .slice A_204 ((Ts++ [(⟨A184,(l).length,c184⟩:SV)]).length) c_205]) rfl rfl (HB.later x_215) rfl eF208 rfl rfl rfl λ w_216 m_217 HB=>hK _ _ ?_
     have:=x_215.size
     have z_214:=eT z_203 x_215
     have:=m_217.size
     have z_216:=Ext.mod z_214 m_217 (ge1 (by omega))
     have:=m_217.size
     refine fn λ w_221 x_222=> ?_
     have:=x_222.size
     have z_221:=eT z_216 x_222
     refine nT<|sg<| ?_
     have HB:=HB.later x_222
     refine vL (ld rfl (HB.all eF181 eF182))<| ?_
     have B_12:=B_12.later (eT x_183 (eT x_188 (eT x_192 (eT x_195 x_202))))
     have B_12:=B_12.mod m_206 (λ hq=>d_113 _ hq rfl)
     have B_12:=B_12.later x_215
     have B_12:=B_12.mod m_217 (nm1 (by omega))
     have B_12:=B_12.later x_222
     refine st (new:= [.int .i64 V83.field.wide, .int .i64 V83.field.high, .slice a83.P V83.field.places.length a83.p, .slice a83.B V83.bases.length a83.b, .slice a83.S V83.stocks.length a83.s, .slice a83.M V83.mines.length a83.m, .slice a83.T V83.troops.length a83.t, .int .i64 V83.next, .int .i64 V83.now, .slice A_204 ((Ts++ [(⟨A184,(l).length,c184⟩:SV)]).length) c_205]) rfl rfl B_12 rfl eF182 rfl rfl rfl λ w_224 m_225 B_12=> ?_
     have:=m_225.size
     have z_224:=Ext.mod z_221 m_225 (ge1 (by omega))
     have:=m_225.size
     refine va rfl<|nK<|rt<|tR (.cell rfl (B_12.all eF181 eF182) (.tmp rfl .nil))<| ?_
     have O_207:=O_207.later x_215
     have O_207:=O_207.mod m_217 (λ q hq h=>by have hb:=List.mem_singleton.1 h;exfalso;(exact Or.elim (g_208 q hq) (λ k_228=>by (exact d_114 q k_228 hb)) (λ k_228=>by omega)))
     have O_207:=O_207.later x_222
     have O_207:=O_207.mod m_225 (λ q hq h=>by have hb:=List.mem_singleton.1 h;exfalso;(exact Or.elim (g_208 q hq) (λ k_229=>by (exact d_113 q k_229 hb)) (λ k_229=>by omega)))
     have OC184:=OC184.later (eT x_192 (eT x_195 x_202))
     have OC184:=OC184.mod m_206 (λ q hq h=>by exfalso;(have:=lo_186 q hq;(have:=u_129 q h;omega)))
     have OC184:=OC184.later x_215
     have OC184:=OC184.mod m_217 (fk2 lo_186 (by omega))
     have OC184:=OC184.later x_222
     have OC184:=OC184.mod m_225 (fk2 lo_186 (by omega))
     have HTl:=HTl.later (eT x_183 (eT x_188 (eT x_192 (eT x_195 x_202))))
     have HTl:=HTl.mod m_206 (λ q hq h=>by exfalso;(exact dAL q hq h))
     have HTl:=HTl.later x_215
     have HTl:=HTl.mod m_217 (λ q hq h=>by have hb:=List.mem_singleton.1 h;exfalso;have:=lT q hq;omega)
     have HTl:=HTl.later x_222
     have HTl:=HTl.mod m_225 (λ q hq h=>by have hb:=List.mem_singleton.1 h;exfalso;have:=lT q hq;omega)
     have HO83:=HO83.later (eT x_183 (eT x_188 (eT x_192 (eT x_195 x_202))))
     have HO83:=HO83.mod m_206 (λ q hq h=>by exfalso;(exact d_115 q h hq))
     have HO83:=HO83.later x_215
     have HO83:=HO83.mod m_217 (λ q hq h=>by have hb:=List.mem_singleton.1 h;exfalso;(have:=u_127 q hq;have:=u_84 q hq;omega))
     have HO83:=HO83.later x_222
     have HO83:=HO83.mod m_225 (fk2 lo_85 (by omega))
     subst ek
     rw [List.take_length] at HTl
     obtain ⟨_,hv,_⟩:=hr83.zero (by simp) o2 rfl
     have hv:V83=W:=hv
     exact ⟨0,a83,_,A_204,c_205,_,L++ [l],rfl, .inl ⟨rfl,⟨o1,o2,o3⟩,hlt,ht0,hv,rfl⟩,HO83.down (by omega),O_207.down (by omega),(HTl.snoc (OC184.down (by omega))).down (by omega),z_224⟩
end
end Go.Proofs.YtlikikpgmmkjbaaGreat
