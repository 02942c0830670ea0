import Derived.Test.YtlikikpgmmkjbaaGreatGra
import Derived.Test.YtlikikpgmmkjbaaGreatTmk
import Derived.Test.YtlikikpgmmkjbaaGreatInts
import Derived.Test.YtlikikpgmmkjbaaGreatPpt
import Derived.Test.YtlikikpgmmkjbaaGreatGolR
import Derived.Test.YtlikikpgmmkjbaaGreatGol
import Derived.Test.YtlikikpgmmkjbaaGreatCelK
import Derived.Test.YtlikikpgmmkjbaaGreatBas
import Derived.Test.YtlikikpgmmkjbaaGreatProg
import Derived.Laws.IdiomStrings
import Derived.Laws.Strings
import Derived.Test.YtlikikpgmmkjbaaGreatPtq
import Derived.Test.YtlikikpgmmkjbaaGreatOrwZ
set_option linter.unusedVariables false
set_option linter.unusedSimpArgs false
set_option maxRecDepth 100000
set_option maxHeartbeats 4000000
namespace Go.Proofs.YtlikikpgmmkjbaaGreat
section
open Go.RowKit
theorem Tcr_el_S_uint64:ElT Tryz.prog repU 38 41 8:=ElT.mk_ (z:= .int .u64 0) (k:=1) Tryz.underlying38 info_u64 rfl rfl (by decide) (λ j u h=>raw0U j u h)
open Go.Proofs.YtlikikpgmmkjbaaGreat.Bv
theorem run_any (a:Wd.At) (W:Wd) (A:Option Addr) (c:Nat) (T:List SV) (L:List (List Odr)) (w:World) (hW:Wd.Has w a W) (hT:svRep.SHas 24 w A c T) (hL:Tells w T L):
  Calls Tryz.prog 47 #[.agg ((Wd.cells a W).toArray), .slice A T.length c] w (λ e w'=>∃ e' a' V A' c' ms,e= .returned (.tuple #[.agg (Wd.cells a' V).toArray, .slice A' (ms:List (BitVec 64)).length c', .int .i64 e'])∧RRes W L e' V ms∧WOwn w' w.heap.size a' V∧repU.SOwn 41 8 w' w.heap.size (Rep.blkOf A') A' c' ms∧(∀ q,q∈Rep.blkOf A'→q∈WOwn.foot a'→False)∧Ext w w'):=by
 refine calls_W (n:=64) Tryz.func47 rfl rfl rfl ?_
 refine sg<|bx rfl rfl rfl rfl λ w_1 b_2 x_3 l_4 B_5=> ?_
 have:=x_3.size
 have z_1:=eT (Ext.rf w) x_3
 have q_7:=B_5.lt
 refine al rfl eF80 rfl rfl λ w_8 b_9 x_10 l_11 B_12=> ?_
 have:=x_10.size
 have z_8:=eT z_1 x_10
 have q_14:=B_12.lt
 refine va rfl<|va rfl<|nK<|sq<|sg<|vm rfl<|vL (ln Tryz.underlying29 rfl)<|vL (bgt rfl rfl)<|nK<| ?_
 refine clt rfl (λ h_15=> ?_) (λ h_15=> ?_)
 ·refine sg<|vL (v:= .agg #[.int .i64 0, .int .i64 0, .slice none 0 0, .slice none 0 0, .slice none 0 0, .slice none 0 0, .slice none 0 0, .int .i64 0, .int .i64 0]) (bd rfl (by kernel_rfl))<|st (new:= [.int .i64 0, .int .i64 0, .slice none 0 0, .slice none 0 0, .slice none 0 0, .slice none 0 0, .slice none 0 0, .int .i64 0, .int .i64 0]) rfl rfl B_12 rfl eF62 rfl rfl rfl λ w_16 m_17 B_12=> ?_
  have:=m_17.size
  have z_16:=Ext.mod z_8 m_17 (ge1 (by omega))
  have:=m_17.size
  refine va rfl<|va rfl<|nK<|rt<|tT<|tR (.cell rfl (B_12.all eF61 eF62) (.tmp rfl (.tmp rfl .nil)))<| ?_
  exact ⟨2,⟨none,none,none,none,none,0,0,0,0,0⟩,Wd.zero,none,0, [],rfl, .inr ⟨by decide, .inl (by rw [← hL.1];omega),rfl,rfl⟩,WOwn.zero _ _,Rep.SOwn.nil _,λ q hq=>by simp [Rep.blkOf] at hq,z_16⟩
 ·have hT200:L.length≤200:=by rw [← hL.1];omega
  refine sK<|sg<| ?_
  have B_5:=B_5.later x_10
  refine vL (ld rfl (B_5.all eF61 eF62))<|ca eF162 rfl rfl ((struck_any ([]:List Blw) _ _ a W _ (hW.keep z_8) (Rep.SHas.nil _)).mono ?_)
  rintro e w_25 ⟨a20,A20,c20,rfl,HO20,OG20,hd20,x_26⟩
  refine ⟨_,rfl, ?_⟩
  have:=x_26.size
  have z_25:=eT z_8 x_26
  have u_21:=λ q hq=>(HO20.lt q hq).2
  have lo_22:=λ q hq=>(HO20.lt q hq).1
  have u_23:=λ q hq=>(OG20.lt q hq).2
  have lo_24:=λ q hq=>(OG20.lt q hq).1
  have dd20:∀ q∈Rep.blkOf A20,q∈WOwn.foot a20→False:=hd20
  have dw20:∀ q∈WOwn.foot a20,q∈Rep.blkOf A20→False:=λ q h1 h2=>hd20 q h2 h1
  refine vm rfl<|vL (ex rfl rfl)<|vL (ex rfl rfl)<|vL (ex rfl rfl)<| ?_
  have B_5:=B_5.later x_26
  refine st rfl rfl B_5 rfl eF62 rfl rfl rfl λ w_28 m_29 B_5=> ?_
  have:=m_29.size
  have z_28:=Ext.mod z_25 m_29 (ge1 (by omega))
  have:=m_29.size
  refine va rfl<|va rfl<|nK<|sq<|sg<|vm rfl<|vL (bne rfl rfl)<|nK<| ?_
  refine cne rfl (λ h_32=> ?_) (λ h_32=> ?_)
  ·have hbE:W.chk≠0:=λ h_=>h_32 (blowE_mk h_ (by simp))
   refine sg<|vL (v:= .agg #[.int .i64 0, .int .i64 0, .slice none 0 0, .slice none 0 0, .slice none 0 0, .slice none 0 0, .slice none 0 0, .int .i64 0, .int .i64 0]) (bd rfl (by kernel_rfl))<|vm rfl<| ?_
   have B_12:=B_12.later x_26
   have B_12:=B_12.mod m_29 (nm1 (by omega))
   refine st (new:= [.int .i64 0, .int .i64 0, .slice none 0 0, .slice none 0 0, .slice none 0 0, .slice none 0 0, .slice none 0 0, .int .i64 0, .int .i64 0]) rfl rfl B_12 rfl eF62 rfl rfl rfl λ w_33 m_34 B_12=> ?_
   have:=m_34.size
   have z_33:=Ext.mod z_28 m_34 (ge1 (by omega))
   have:=m_34.size
   refine va rfl<|va rfl<|nK<|rt<|tT<|tR (.cell rfl (B_12.all eF61 eF62) (.tmp rfl (.tmp rfl .nil)))<| ?_
   exact ⟨blowE W ([]:List Blw),⟨none,none,none,none,none,0,0,0,0,0⟩,Wd.zero,none,0, [],rfl, .inr ⟨h_32, .inr (.inl hbE),rfl,rfl⟩,WOwn.zero _ _,Rep.SOwn.nil _,λ q hq=>by simp [Rep.blkOf] at hq,z_33⟩
  ·have hc0:W.chk=0:=(blowE_ok (by first | exact h_32 | simpa using h_32)).1
   have hsn:=struck_nil hc0
   refine sK<|sg<|vL (ld rfl (B_5.all eF61 eF62))<| ?_
   have HO20:=HO20.mod m_29 (fk2 lo_22 (by omega))
   refine ca eF173 rfl rfl ((mark_any a20 (struckW W ([]:List Blw)) _ HO20.has).mono ?_)
   rintro e w_37 ⟨rfl,x_38⟩
   refine ⟨_,rfl, ?_⟩
   have:=x_38.size
   have z_37:=eT z_28 x_38
   refine vm rfl<|vL (ex rfl rfl)<|vL (ex rfl rfl)<|va rfl<|va rfl<|nK<|sg<|vm rfl<|bs (e:= 41) (cs:= [.int .u64 (U (markN (struckW W ([]:List Blw))))]) rfl (λ _=>by kernel_rfl) rfl λ w_40 b_41 x_42 l_43 B_44=> ?_
   have:=x_42.size
   have z_40:=eT z_37 x_42
   have q_46:=B_44.lt
   refine va rfl<|nK<|sq<|sg<|vm rfl<|vL (ln Tryz.underlying29 rfl)<|vm rfl<|nK<|bk<| ?_
   have OL0:=Blk.ownN (R:=repU) (by_:=8) (B:=w.heap.size) (k:= [markN (struckW W ([]:List Blw))]) B_44 [[.int .u64 (U (markN (struckW W ([]:List Blw))))]] rfl (⟨⟨rfl,trivial⟩,trivial⟩) (by simp) (by simp) (by decide) (by omega)
   have eL0:∀ q∈Rep.blkOf (some ⟨b_41,0,none⟩),q=b_41:=λ q hq=>List.mem_singleton.1 hq
   have B_5:=B_5.later (eT x_38 x_42)
   have HO20:=HO20.later (eT x_38 x_42)
   have B_12:=B_12.later x_26
   have B_12:=B_12.mod m_29 (nm1 (by omega))
   have B_12:=B_12.later (eT x_38 x_42)
   refine lp (λ mI EI wI=>∃ k:Nat,∃ Ms:List (BitVec 64),∃ AL:Option Addr,∃ cL:Nat,∃ ax:Wd.At,∃ Wx:Wd,EI= [(2, .pointer (some ⟨b_2,0,none⟩)),(4, .pointer (some ⟨b_9,0,none⟩)),(11, .slice AL Ms.length cL),(35, .slice A T.length c),(36, .int .i64 (T.length:Int)),(37, .int .i64 (k:Int))]∧mI=T.length - k∧Ext w wI∧Blk wI b_9 [.int .i64 0, .int .i64 0, .slice none 0 0, .slice none 0 0, .slice none 0 0, .slice none 0 0, .slice none 0 0, .int .i64 0, .int .i64 0] 28 (0,0)∧repU.SOwn 41 8 wI w.heap.size (Rep.blkOf AL) AL cL Ms∧Blk wI b_2 (Wd.cells ax Wx) 28 (0,0)∧WOwn wI w.heap.size ax Wx∧(k≤T.length)∧(runE W (L.take k)=0)∧(Wx=runW W (L.take k))∧(Ms=runX W (L.take k))∧(∀ q∈WOwn.foot ax,q=b_2→False)∧(∀ q∈WOwn.foot ax,q=b_9→False)∧(∀ q∈Rep.blkOf AL,q=b_9→False)∧(∀ q∈Rep.blkOf AL,q=b_2→False)∧(∀ q∈Rep.blkOf AL,q∈WOwn.foot ax→False)) _ _ ⟨0, [markN (struckW W ([]:List Blw))],some ⟨b_41,0,none⟩,1,a20,struckW W ([]:List Blw),rfl,rfl,z_40,B_12,OL0,B_5,(HO20.down (by omega)),by omega,rfl,hsn.1,(by rw [hsn.1];rfl),(λ q hq hb=>by exfalso;(have:=lo_22 q hq;omega)),(λ q hq hb=>by exfalso;(have:=lo_22 q hq;omega)),(λ q hq hb=>by (have:=eL0 q hq;omega)),(λ q hq hb=>by (have:=eL0 q hq;omega)),(λ q hq hb=>by (have:=eL0 q hq;(have:=u_21 q hb;omega)))⟩ (.cons rfl (.cons rfl (.cons rfl (.cons rfl (.cons rfl (.cons (loI rfl (by first | omega | rfl | (simp<;>omega))) .nil)))))) ?_
   rintro m_51 E_52 w_50 ⟨k,Ms,AL,cL,ax,Wx,rfl,rfl,z_50,B_12,OLx,HB2,HWx,hk,hE,hWx,hMs,dW2,dW4,d_47,d_48,d_49⟩
   have:=z_50.size
   have q_54:=B_12.lt
   have u_55:=λ q hq=>(OLx.lt q hq).2
   have q_56:=HB2.lt
   have u_57:=λ q hq=>(HWx.lt q hq).2
   have hMl:Ms.length≤k+1:=by rw [hMs,runX_len,List.length_take];omega
   refine sg<|vL (blt rfl rfl)<|nK<|sq<| ?_
   refine clt rfl (λ h_58=> ?_) (λ h_58=> ?_)
   ·obtain ⟨Ax,cx,lx,hTx,hLx,hx⟩:=hL.at_ (k:=k) (by omega)
    refine sK<|sq<|bk<|sg<|vL (iA k Tryz.underlying29 eF174 rfl rfl ((hT.keep z_50).adr (zl k (by omega))) rfl (by omega))<|vL (v:= .slice Ax lx.length cx) (ld rfl (Rep.SHas.one' hcV ((hT.keep z_50).adh (zl k (by omega))) hTx rfl eF175))<|va rfl<|nK<|sq<|sg<|vL (ld rfl (HB2.all eF61 eF62))<|vm rfl<|ca eF176 rfl rfl ((turn_any ax Wx _ _ lx _ HWx.has (hx.keep z_50)).mono ?_)
    rintro e w_68 ⟨a59,A590,c590,A591,c591,A592,c592,rfl,HO59,OR590,OR591,OR592,hd59,x_69⟩
    refine ⟨_,rfl, ?_⟩
    have:=x_69.size
    have z_68:=eT z_50 x_69
    have u_60:=λ q hq=>(HO59.lt q hq).2
    have lo_61:=λ q hq=>(HO59.lt q hq).1
    have u_62:=λ q hq=>(OR590.lt q hq).2
    have lo_63:=λ q hq=>(OR590.lt q hq).1
    have u_64:=λ q hq=>(OR591.lt q hq).2
    have lo_65:=λ q hq=>(OR591.lt q hq).1
    have u_66:=λ q hq=>(OR592.lt q hq).2
    have lo_67:=λ q hq=>(OR592.lt q hq).1
    have dd590:∀ q∈Rep.blkOf A590,q∈WOwn.foot a59→False:=λ q hq=>hd59 q (.inl hq)
    have dw590:∀ q∈WOwn.foot a59,q∈Rep.blkOf A590→False:=λ q h1 h2=>dd590 q h2 h1
    have dd591:∀ q∈Rep.blkOf A591,q∈WOwn.foot a59→False:=λ q hq=>hd59 q (.inr (.inl hq))
    have dw591:∀ q∈WOwn.foot a59,q∈Rep.blkOf A591→False:=λ q h1 h2=>dd591 q h2 h1
    have dd592:∀ q∈Rep.blkOf A592,q∈WOwn.foot a59→False:=λ q hq=>hd59 q (.inr (.inr hq))
    have dw592:∀ q∈WOwn.foot a59,q∈Rep.blkOf A592→False:=λ q h1 h2=>dd592 q h2 h1
    refine vm rfl<|vL (ex rfl rfl)<|vL (ex rfl rfl)<|vL (ex rfl rfl)<| ?_
    have HB2:=HB2.later x_69
    refine st rfl rfl HB2 rfl eF62 rfl rfl rfl λ w_71 m_72 HB2=> ?_
    have:=m_72.size
    have z_71:=Ext.mod z_68 m_72 (ge1 (by omega))
    have:=m_72.size
    refine va rfl<|nK<|sg<|vm rfl<|vL (bne rfl rfl)<|nK<| ?_
    refine cne rfl (λ h_75=> ?_) (λ h_75=> ?_)
    ·refine sg<|vL (v:= .agg #[.int .i64 0, .int .i64 0, .slice none 0 0, .slice none 0 0, .slice none 0 0, .slice none 0 0, .slice none 0 0, .int .i64 0, .int .i64 0]) (bd rfl (by kernel_rfl))<|vm rfl<| ?_
     have B_12:=B_12.later x_69
     have B_12:=B_12.mod m_72 (nm1 (by omega))
     refine st (new:= [.int .i64 0, .int .i64 0, .slice none 0 0, .slice none 0 0, .slice none 0 0, .slice none 0 0, .slice none 0 0, .int .i64 0, .int .i64 0]) rfl rfl B_12 rfl eF62 rfl rfl rfl λ w_76 m_77 B_12=> ?_
     have:=m_77.size
     have z_76:=Ext.mod z_71 m_77 (ge1 (by omega))
     have:=m_77.size
     refine va rfl<|va rfl<|nK<|rt<|tT<|tB<|tT<|tK<|tB<|tT<|tR (.cell rfl (B_12.all eF61 eF62) (.tmp rfl (.tmp rfl .nil)))<| ?_
     exact ⟨turnE Wx lx,⟨none,none,none,none,none,0,0,0,0,0⟩,Wd.zero,none,0, [],rfl, .inr ⟨h_75, .inr (.inr (run_bad (k:=k+1) (by rw [run_step hE hLx,← hWx];exact h_75))),rfl,rfl⟩,WOwn.zero _ _,Rep.SOwn.nil _,λ q hq=>by simp [Rep.blkOf] at hq,z_76⟩
    ·have hE2:runE W (L.take (k+1))=0:=by rw [run_step hE hLx,← hWx];first | exact h_75 | simpa using h_75
     refine sK<|sg<|vL (ld rfl (HB2.all eF61 eF62))<| ?_
     have HO59:=HO59.mod m_72 (fk2 lo_61 (by omega))
     refine ca eF173 rfl rfl ((mark_any a59 (turnW Wx lx) _ HO59.has).mono ?_)
     rintro e w_80 ⟨rfl,x_81⟩
     refine ⟨_,rfl, ?_⟩
     have:=x_81.size
     have z_80:=eT z_71 x_81
     refine vm rfl<|vL (ex rfl rfl)<|vL (ex rfl rfl)<|va rfl<|nK<|rg<|vm rfl<|vm rfl<|bs (e:= 41) (cs:= [.int .u64 (U (markN (turnW Wx lx)))]) rfl (λ _=>by kernel_rfl) rfl λ w_83 b_84 x_85 l_86 B_87=> ?_
     have:=x_85.size
     have z_83:=eT z_80 x_85
     have q_89:=B_87.lt
     have OLx:=OLx.later x_69
     have OLx:=OLx.mod m_72 (λ q hq h=>by have hb:=List.mem_singleton.1 h;exfalso;(exact d_48 q hq hb))
     have OLx:=OLx.later (eT x_81 x_85)
     refine ap Tcr_el_S_uint64 Rep.flat_bare OLx (Blk.has1 (R:=repU) (by_:=8) (q:=(markN (turnW Wx lx))) B_87 ⟨rfl,trivial⟩ (by decide)) rfl rfl (by simp only [List.length_cons,List.length_nil];omega) (by simp only [List.length_cons,List.length_nil];omega) (by omega) rfl λ w_90 A_91 c_92 m_93 O_94 g_95 n_96=> ?_
     have:=m_93.size
     have z_90:=Ext.mod z_83 m_93 (λ q hq=>Nat.le_trans (by omega) (OLx.lt q hq).1)
     have u_98:=λ q hq=>(O_94.lt q hq).2
     have:=m_93.size
     refine va rfl<|nl<|nB<|nT<|rg<|vL (bad rfl rfl (inI (by omega)))<|vm rfl<|nl<| ?_
     have B_12:=B_12.later x_69
     have B_12:=B_12.mod m_72 (nm1 (by omega))
     have B_12:=B_12.later (eT x_81 x_85)
     have B_12:=B_12.mod m_93 (λ hq=>d_47 _ hq rfl)
     have HB2:=HB2.later (eT x_81 x_85)
     have HB2:=HB2.mod m_93 (λ hq=>d_48 _ hq rfl)
     have HWx:=HWx.later x_69
     have HWx:=HWx.mod m_72 (λ q hq h=>by have hb:=List.mem_singleton.1 h;exfalso;(exact dW2 q hq hb))
     have HWx:=HWx.later (eT x_81 x_85)
     have HWx:=HWx.mod m_93 (λ q hq h=>by exfalso;(exact d_49 q h hq))
     have HO59:=HO59.later (eT x_81 x_85)
     have HO59:=HO59.mod m_93 (λ q hq h=>by exfalso;(have:=lo_61 q hq;(have:=u_55 q h;omega)))
     exact nI _ _ ⟨k+1,Ms++ [(markN (turnW Wx lx))],A_91,c_92,a59,turnW Wx lx,rfl,rfl,z_90,B_12,O_94,HB2,(HO59.down (by omega)),by omega,hE2,by rw [take_snoc_ hLx,runW_app,hWx];rfl,by rw [hMs,take_snoc_ hLx,runX_snoc,hWx],(λ q hq hb=>by exfalso;(have:=lo_61 q hq;omega)),(λ q hq hb=>by exfalso;(have:=lo_61 q hq;omega)),(λ q hq hb=>by (exact Or.elim (g_95 q hq) (λ k_100=>by (exact d_47 q k_100 hb)) (λ k_100=>by omega))),(λ q hq hb=>by (exact Or.elim (g_95 q hq) (λ k_101=>by (exact d_48 q k_101 hb)) (λ k_101=>by omega))),(λ q hq hb=>by (exact Or.elim (g_95 q hq) (λ k_102=>by (have:=lo_61 q hb;(have:=u_55 q k_102;omega))) (λ k_102=>by (have:=u_60 q hb;omega))))⟩ (by omega) (.cons rfl (.cons rfl (.cons rfl (.cons rfl (.cons rfl (.cons (loI rfl (by first | omega | rfl | (simp<;>omega))) .nil))))))
   ·have ek:k=L.length:=by rw [← hL.1];omega
    refine xt<|xT<|xK<|xB<|nT<|sg<|vL (ld rfl (HB2.all eF61 eF62))<|vm rfl<|st rfl rfl B_12 rfl eF62 rfl rfl rfl λ w_103 m_104 B_12=> ?_
    have:=m_104.size
    have z_103:=Ext.mod z_50 m_104 (ge1 (by omega))
    have:=m_104.size
    refine va rfl<|va rfl<|nK<|rt<|tR (.cell rfl (B_12.all eF61 eF62) (.tmp rfl (.tmp rfl .nil)))<| ?_
    have OLx:=OLx.mod m_104 (λ q hq h=>by have hb:=List.mem_singleton.1 h;exfalso;(exact d_47 q hq hb))
    have HWx:=HWx.mod m_104 (λ q hq h=>by have hb:=List.mem_singleton.1 h;exfalso;(exact dW4 q hq hb))
    rw [ek,List.take_length] at hE hWx hMs
    exact ⟨0,ax,Wx,AL,cL,Ms,rfl, .inl ⟨rfl,hT200,hc0,hE,hWx,hMs⟩,HWx.down (by omega),OLx,λ q hq hf=>by exfalso;(exact d_49 q hq hf),z_103⟩
end
section
open Go.RowKit
inductive OT where
 | last (i:Nat) (τ:List Nat)
 | two (i:Nat) (τ:List Nat) (t1 t2:OT)
def OT.hd:OT→Nat
 | .last i _=>i
 | .two i _ _ _=>i
section
variable {P:Program} {n:Nat} {E:List (Nat×Value)} {w:World} {Q:Exit→Act→World→Prop} {ops:Array Oper} {kd:Nat→Nat}
def wpT (P:Program) (ops:Array Oper) (Q:Exit→Act→World→Prop) (kd:Nat→Nat):OT→Act→World→Prop
 | .last i τ=>wpFlow P ops (nrm (Q .normal)) kd (i::τ)
 | .two i τ t1 t2=>wpFlow P ops (nrm (λ a w=>wpT P ops Q kd t1 a w∧wpT P ops Q kd t2 a w)) kd (i::τ)
def treeB (ops:Array Oper) (kd:Nat→Nat):OT→Array Bool→Nat→Bool
 | .last i τ,l,m=>Nat.blt 1 (kd i) && flowB ops kd τ (l.setIfInBounds i true) && Nat.beq (τ.length+1) m
 | .two i τ t1 t2,l,m=>Nat.blt 1 (kd i) && flow1B ops kd τ (l.setIfInBounds i true) && (Region.ready .any ops (setAll τ (l.setIfInBounds i true))== [t1.hd,t2.hd]) && Nat.ble (τ.length+2) m && treeB ops kd t1 (setAll τ (l.setIfInBounds i true)) (m - 1 - τ.length) && treeB ops kd t2 (setAll τ (l.setIfInBounds i true)) (m - 1 - τ.length)
def AT (P:Program) (ops:Array Oper) (Q:Exit→Act→World→Prop) (kd:Nat→Nat) (t1 t2:OT):Exit→Act→World→Prop:=nrm (λ a w=>wpT P ops Q kd t1 a w∧wpT P ops Q kd t2 a w)
end
end
section
open Go.RowKit
def BE (D:Nat) (w w':World):Prop:=w.heap.size≤w'.heap.size∧(D≤w.heap.size→Below D w w')
theorem BE.tr {D:Nat} {a b c:World} (h:BE D a b) (k:BE D b c):BE D a c:=⟨Nat.le_trans h.1 k.1,λ hd=>Below.trans (h.2 hd) (k.2 (Nat.le_trans hd h.1))⟩
section
variable {D:Nat} {P:Program} {ops:Array Oper} {Q:Exit→Act→World→Prop} {kd:Nat→Nat}
def QInD (D:Nat) (P:Program) (ops:Array Oper) (w0:World) (o:Oper) (v:Value) (a:Act):Prop :=
  (Region.wanted o (yielded ops a.tmps)=true∧∀ w,BE D w0 w→qUpon P w v ((execOp a.eval o).run P w))∨
  (Region.wanted o (yielded ops a.tmps)=false∧v=undef)
def stepFD (D:Nat) (P:Program) (ops:Array Oper) (Q:Exit→Act→World→Prop) (kd:Nat→Nat) (i:Nat) (K:Act→World→Prop) (a:Act) (w0:World):Prop :=
  ∃ o,ops[i]? =some o∧
    ((kd i≤1∧∃ v,QInD D P ops w0 o v a∧K (a.put o.dst v) w0)∨
     (1<kd i∧∀ w,Ext w0 w→wpOp P ops Q i (λ a' w'=>(kd i=2→BE D w0 w')∧K a' w') a w))
def anyFD (D:Nat) (P:Program) (ops:Array Oper) (Q:Exit→Act→World→Prop) (kd:Nat→Nat):Nat→Array Bool→Act→World→Prop
  | 0,l,a,w0=>Region.ready .any ops l= []∧∀ w,Ext w0 w→Q .normal a w
  | f+1,l,a,w0=>(Region.ready .any ops l= []→∀ w,Ext w0 w→Q .normal a w)∧∀ i∈Region.ready .any ops l,stepFD D P ops Q kd i (anyFD D P ops Q kd f (l.setIfInBounds i true)) a w0
def wpFlowD (D:Nat) (P:Program) (ops:Array Oper) (Q:Exit→Act→World→Prop) (kd:Nat→Nat):List Nat→Act→World→Prop
  | [],a,w0=>∀ w,Ext w0 w→Q .normal a w
  | i::r,a,w0=>∃ o,ops[i]? =some o∧
      ((kd i=0∧∃ v,QInD D P ops w0 o v a∧wpFlowD D P ops Q kd r (a.put o.dst v) w0)∨
       (kd i=1∧∃ v,Yields P ops o v a∧wpFlowD D P ops Q kd r (a.put o.dst v) w0)∨
       (1<kd i∧∀ w,Ext w0 w→wpOp P ops Q i (λ a' w'=>(kd i=2→BE D w0 w')∧wpFlowD D P ops Q kd r a' w') a w))
end
section
variable {D:Nat} {P:Program} {n:Nat} {E E':List (Nat×Value)} {a:Act} {w w' w0 w1:World} {Q:Exit→Act→World→Prop} {ops:Array Oper} {v:Value} {kd:Nat→Nat}
variable {d:Option Nat} {ty:TypeId} {pos:String} {af:Array Edge} {g:Option (Nat×Bool)} {x y z:Operand} {t:TypeId} {rest:List Oper} {τ:List Nat} {i:Nat}
def FLD (D:Nat) (P:Program) (n:Nat) (ops:Array Oper) (Q:Exit→Act→World→Prop) (kd:Nat→Nat) (τ:List Nat) (E:List (Nat×Value)) (w0:World):Prop:=∀ a,Agr n E a→wpFlowD D P ops (nrm (Q .normal)) kd τ a w0
end
end
section
open Go.RowKit
section
variable {D:Nat} {P:Program} {n:Nat} {E:List (Nat×Value)} {w:World} {Q:Exit→Act→World→Prop} {ops:Array Oper} {kd:Nat→Nat}
def wpTD (D:Nat) (P:Program) (ops:Array Oper) (Q:Exit→Act→World→Prop) (kd:Nat→Nat):OT→Act→World→Prop
 | .last i τ=>wpFlowD D P ops (nrm (Q .normal)) kd (i::τ)
 | .two i τ t1 t2=>wpFlowD D P ops (nrm (λ a w=>wpTD D P ops Q kd t1 a w∧wpTD D P ops Q kd t2 a w)) kd (i::τ)
def ATD (D:Nat) (P:Program) (ops:Array Oper) (Q:Exit→Act→World→Prop) (kd:Nat→Nat) (t1 t2:OT):Exit→Act→World→Prop:=nrm (λ a w=>wpTD D P ops Q kd t1 a w∧wpTD D P ops Q kd t2 a w)
end
end
section
open Go.RowKit
open Go.Proofs.YtlikikpgmmkjbaaGreat.Bv
def StOk (W:Wd) (L:List (List Odr)):Prop:=L.length≤200∧W.chk=0∧runE W L=0
def ARes (W:Wd) (L:List (List Odr)) (n e:Int) (V:Wd):Prop :=
 (e=0∧StOk W L∧0≤n∧n≤(L.length:Int)∧V=runW W (L.take n.toNat))∨(e≠0∧¬(StOk W L∧0≤n∧n≤(L.length:Int))∧V=Wd.zero)
theorem RRes.stOk {W:Wd} {L:List (List Odr)} {e:Int} {V:Wd} {ms:List (BitVec 64)} (h:RRes W L e V ms):e=0↔StOk W L :=
 ⟨λ h0=>by obtain ⟨h1,h2,h3,_,_⟩:=h.ok h0;exact ⟨h1,h2,h3⟩,λ ⟨h1,h2,h3⟩=>(h.zero h1 h2 h3).1⟩
theorem StOk.take {W:Wd} {L:List (List Odr)} (h:StOk W L) (k:Nat):StOk W (L.take k):=
 ⟨by have:=h.1;rw [List.length_take];omega,h.2.1,Classical.byContradiction λ h0=>run_bad h0 h.2.2⟩
theorem StOk.at_ {W:Wd} {L:List (List Odr)} {n e:Int} {V:Wd} {ms:List (BitVec 64)} (h:StOk W L) (hr:RRes W (L.take n.toNat) e V ms) (h0:0≤n) (h1:n≤(L.length:Int)):e=0∧StOk W L∧0≤n∧n≤(L.length:Int)∧V=runW W (L.take n.toNat):=by
 have h2:=h.take n.toNat
 have h3:=hr.zero h2.1 h2.2.1 h2.2.2
 exact ⟨h3.1,h,h0,h1,h3.2.1⟩
theorem Tells.take {w:World} {T:List SV} {L:List (List Odr)} (h:Tells w T L) (k:Nat):Tells w (T.take k) (L.take k):=
 ⟨by rw [List.length_take,List.length_take,h.1],λ i v hi=>by
  rw [List.getElem?_take] at hi
  split at hi
  ·next h1 =>
   obtain ⟨l,h2,h3,h4⟩:=h.2 i v hi
   exact ⟨l,by rw [List.getElem?_take,if_pos h1];exact h2,h3,h4⟩
  ·exact absurd hi (by simp)⟩
theorem check_story (a:Wd.At) (W:Wd) (A:Option Addr) (c:Nat) (T:List SV) (L:List (List Odr)) (w:World) (hW:Wd.Has w a W) (hT:svRep.SHas 24 w A c T) (hL:Tells w T L):
  Calls Tryz.prog 46 #[.agg #[.int .i64 W.field.wide, .int .i64 W.field.high, .slice a.P W.field.places.length a.p, .slice a.B W.bases.length a.b, .slice a.S W.stocks.length a.s, .slice a.M W.mines.length a.m, .slice a.T W.troops.length a.t, .int .i64 W.next, .int .i64 W.now, .slice A T.length c]] w (λ e w'=>∃ e':Int,e= .returned (.int .i64 e')∧(e'=0↔StOk W L)∧Ext w w'):=by
 have hlT:=hT.len_le
 refine calls_W (n:=16) Tryz.func46 rfl rfl rfl ?_
 refine sg<|bx rfl rfl rfl rfl λ w_1 b_2 x_3 l_4 B_5=> ?_
 have:=x_3.size
 have z_1:=eT (Ext.rf w) x_3
 have q_7:=B_5.lt
 refine va rfl<|nK<|sg<|vL (fa eF177 rfl)<|vL (ld rfl (B_5.par [.int .i64 W.field.wide, .int .i64 W.field.high, .slice a.P W.field.places.length a.p, .slice a.B W.bases.length a.b, .slice a.S W.stocks.length a.s, .slice a.M W.mines.length a.m, .slice a.T W.troops.length a.t, .int .i64 W.next, .int .i64 W.now] eF61 eF62 rfl))<|vL (fa eF178 rfl)<|vL (ld rfl (B_5.one eF179 rfl))<|ca eF180 rfl rfl ((run_any a W _ _ T L _ (hW.keep z_1) (hT.keep z_1) (hL.keep z_1)).mono ?_)
 rintro e w_13 ⟨E8,a8,V8,A8,c8,ms8,rfl,hr8,HO8,OM8,hd8,x_14⟩
 refine ⟨_,rfl, ?_⟩
 have:=x_14.size
 have z_13:=eT z_1 x_14
 have u_9:=λ q hq=>(HO8.lt q hq).2
 have lo_10:=λ q hq=>(HO8.lt q hq).1
 have u_11:=λ q hq=>(OM8.lt q hq).2
 have lo_12:=λ q hq=>(OM8.lt q hq).1
 have dd8:∀ q∈Rep.blkOf A8,q∈WOwn.foot a8→False:=hd8
 have dw8:∀ q∈WOwn.foot a8,q∈Rep.blkOf A8→False:=λ q h1 h2=>hd8 q h2 h1
 refine vm rfl<|vL (ex rfl rfl)<|vL (ex rfl rfl)<|vL (ex rfl rfl)<|al rfl eF80 rfl rfl λ w_16 b_17 x_18 l_19 B_20=> ?_
 have:=x_18.size
 have z_16:=eT z_13 x_18
 have q_22:=B_20.lt
 refine st rfl rfl B_20 rfl eF62 rfl rfl rfl λ w_23 m_24 B_20=> ?_
 have:=m_24.size
 have z_23:=Ext.mod z_16 m_24 (ge1 (by omega))
 have:=m_24.size
 refine va rfl<|va rfl<|nK<|sg<|vm rfl<|va rfl<|nK<|rt<|tR (.tmp rfl .nil)<| ?_
 exact ⟨E8,rfl,hr8.stOk,z_23⟩
theorem at_any (a:Wd.At) (W:Wd) (A:Option Addr) (c:Nat) (T:List SV) (L:List (List Odr)) (n:Int) (w:World) (hW:Wd.Has w a W) (hT:svRep.SHas 24 w A c T) (hL:Tells w T L):
  Calls Tryz.prog 13 #[.agg #[.int .i64 W.field.wide, .int .i64 W.field.high, .slice a.P W.field.places.length a.p, .slice a.B W.bases.length a.b, .slice a.S W.stocks.length a.s, .slice a.M W.mines.length a.m, .slice a.T W.troops.length a.t, .int .i64 W.next, .int .i64 W.now, .slice A T.length c], .int .i64 n] w (λ e w'=>∃ e' a' V,e= .returned (.tuple #[.agg (Wd.cells a' V).toArray, .int .i64 e'])∧ARes W L n e' V∧WOwn w' w.heap.size a' V∧Ext w w'):=by
 have hlT:=hT.len_le
 refine calls_W (n:=39) Tryz.func13 rfl rfl rfl ?_
 refine sg<|bx rfl rfl rfl rfl λ w_1 b_2 x_3 l_4 B_5=> ?_
 have:=x_3.size
 have z_1:=eT (Ext.rf w) x_3
 have q_7:=B_5.lt
 refine al rfl eF80 rfl rfl λ w_8 b_9 x_10 l_11 B_12=> ?_
 have:=x_10.size
 have z_8:=eT z_1 x_10
 have q_14:=B_12.lt
 refine va rfl<|nK<|sq<|sg<| ?_
 have B_5:=B_5.later x_10
 refine vL (ld rfl (B_5.all eF181 eF182))<|ca eF183 rfl rfl ((check_story a W _ _ T L _ (hW.keep z_8) (hT.keep z_8) (hL.keep z_8)).mono ?_)
 rintro e w_16 ⟨E15,rfl,hc15,x_17⟩
 refine ⟨_,rfl, ?_⟩
 have:=x_17.size
 have z_16:=eT z_8 x_17
 refine va rfl<|nK<|sg<|vm rfl<|vL (bne rfl rfl)<|nK<| ?_
 refine cne rfl (λ h_19=> ?_) (λ h_19=> ?_)
 ·refine sg<|vL (v:= .agg #[.int .i64 0, .int .i64 0, .slice none 0 0, .slice none 0 0, .slice none 0 0, .slice none 0 0, .slice none 0 0, .int .i64 0, .int .i64 0]) (bd rfl (by kernel_rfl))<|vm rfl<| ?_
  have B_12:=B_12.later x_17
  refine st (new:= [.int .i64 0, .int .i64 0, .slice none 0 0, .slice none 0 0, .slice none 0 0, .slice none 0 0, .slice none 0 0, .int .i64 0, .int .i64 0]) rfl rfl B_12 rfl eF62 rfl rfl rfl λ w_20 m_21 B_12=> ?_
  have:=m_21.size
  have z_20:=Ext.mod z_16 m_21 (ge1 (by omega))
  have:=m_21.size
  refine va rfl<|nK<|rt<|tT<|tR (.cell rfl (B_12.all eF61 eF62) (.tmp rfl .nil))<| ?_
  exact ⟨E15,⟨none,none,none,none,none,0,0,0,0,0⟩,Wd.zero,rfl, .inr ⟨(by simpa using h_19),λ h_=>(show ¬ E15=0 by simpa using h_19) (hc15.2 h_.1),rfl⟩,WOwn.zero _ _,z_20⟩
 ·have hok:StOk W L:=hc15.1 (by simpa using h_19)
  have hlL:=hL.1
  refine sK<|sq<|sg<|vm rfl<|vL (blt rfl rfl)<|vm rfl<|vQ rfl rfl rfl rfl (λ hc=>mv rfl) rfl<|vQ rfl rfl rfl rfl (λ hc=>fa eF178 rfl) rfl<| ?_
  have B_5:=B_5.later x_17
  refine vQ rfl rfl rfl rfl (λ hc=>ld (gt hc rfl) (B_5.one eF179 rfl)) rfl<|vQ rfl rfl rfl rfl (λ hc=>ln Tryz.underlying29 (gt hc rfl)) rfl<|vQ rfl rfl rfl rfl (λ hc=>bgt (gt hc rfl) (gt hc rfl)) rfl<|vL (pO rfl rfl rfl rfl)<|nK<| ?_
  refine cb rfl (λ h_24=> ?_) (λ h_24=> ?_)
  ·simp only [bS] at h_24
   refine sg<|vL (v:= .agg #[.int .i64 0, .int .i64 0, .slice none 0 0, .slice none 0 0, .slice none 0 0, .slice none 0 0, .slice none 0 0, .int .i64 0, .int .i64 0]) (bd rfl (by kernel_rfl))<| ?_
   have B_12:=B_12.later x_17
   refine st (new:= [.int .i64 0, .int .i64 0, .slice none 0 0, .slice none 0 0, .slice none 0 0, .slice none 0 0, .slice none 0 0, .int .i64 0, .int .i64 0]) rfl rfl B_12 rfl eF62 rfl rfl rfl λ w_25 m_26 B_12=> ?_
   have:=m_26.size
   have z_25:=Ext.mod z_16 m_26 (ge1 (by omega))
   have:=m_26.size
   refine va rfl<|nK<|rt<|tT<|tR (.cell rfl (B_12.all eF61 eF62) (.tmp rfl .nil))<| ?_
   exact ⟨1,⟨none,none,none,none,none,0,0,0,0,0⟩,Wd.zero,rfl, .inr ⟨(by decide),λ h_=>by have hlL:=hL.1;have:=h_.2;have hb_:=h_24;omega,rfl⟩,WOwn.zero _ _,z_25⟩
  ·simp only [bS] at h_24
   have hn_:0≤n∧n≤(T.length:Int):=by have hb_:=h_24;omega
   refine sK<|sq<| ?_
   refine rF [(1,0),(3,0),(6,2),(11,2),(12,3)] [0,1,2,3,4,5] 6 [7,8,9,10,11,12,13,14] 11 [6,7,8,9,10,12,13,14] (by kernel_rfl) (by kernel_rfl) ?_
   refine fw1 rfl (λ _=>fa eF177 rfl)<|fq1 rfl (λ _ x=>ld rfl ((B_5.later x).par [.int .i64 W.field.wide, .int .i64 W.field.high, .slice a.P W.field.places.length a.p, .slice a.B W.bases.length a.b, .slice a.S W.stocks.length a.s, .slice a.M W.mines.length a.m, .slice a.T W.troops.length a.t, .int .i64 W.next, .int .i64 W.now] eF61 eF62 rfl))<|fw1 rfl (λ _=>fa eF178 rfl)<|fq1 rfl (λ _ x=>ld rfl ((B_5.later x).one eF179 rfl))<|fw1 rfl (λ _=>mv rfl)<|fw1 rfl (λ _=>sP ((n).toNat) (T.take ((n).toNat)).length Tryz.underlying29 eF174 rfl rfl (by omega) (by have:=hT.1;omega) (by rw [List.length_take];omega))<|fn λ w_29 x_30=> ?_
   have:=x_30.size
   have z_29:=eT z_16 x_30
   refine fk ?_ ?_
   ·refine fx rfl rfl rfl λ w_32 x_33 Q hK=>ca eF180 rfl rfl ((run_any a W _ _ (T.take ((n).toNat)) (L.take ((n).toNat)) _ (hW.keep (eT z_29 x_33)) ((hT.keep (eT z_29 x_33)).pre ((n).toNat)) ((hL.take ((n).toNat)).keep (eT z_29 x_33))).mono ?_)
    rintro e w_39 ⟨E34,a34,V34,A34,c34,ms34,rfl,hr34,HO34,OM34,hd34,x_40⟩
    refine ⟨_,rfl,hK _ _ ⟨eT x_33 x_40, ?_⟩⟩
    have:=x_33.size
    have z_32:=eT z_29 x_33
    have:=x_40.size
    have z_39:=eT z_32 x_40
    have u_35:=λ q hq=>(HO34.lt q hq).2
    have lo_36:=λ q hq=>(HO34.lt q hq).1
    have u_37:=λ q hq=>(OM34.lt q hq).2
    have lo_38:=λ q hq=>(OM34.lt q hq).1
    have dd34:∀ q∈Rep.blkOf A34,q∈WOwn.foot a34→False:=hd34
    have dw34:∀ q∈WOwn.foot a34,q∈Rep.blkOf A34→False:=λ q h1 h2=>hd34 q h2 h1
    refine fw1 rfl (λ _=>mv rfl)<|fw1 rfl (λ _=>ex rfl rfl)<|fw1 rfl (λ _=>ex rfl rfl)<|fw1 rfl (λ _=>ex rfl rfl)<|fx rfl rfl rfl λ w_43 x_44 Q hK=>al rfl eF80 rfl rfl λ w_45 b_46 x_47 l_48 B_49=>hK _ _ ⟨eT x_44 x_47, ?_⟩
    have:=x_44.size
    have z_43:=eT z_39 x_44
    have:=x_47.size
    have z_45:=eT z_43 x_47
    have q_52:=B_49.lt
    refine fb rfl rfl rfl λ w_53 x_54 Q hK=>st rfl rfl (B_49.later x_54) rfl eF62 rfl rfl rfl λ w_55 m_56 B_49=>hK _ _ ?_
    have:=x_54.size
    have z_53:=eT z_45 x_54
    have:=m_56.size
    have z_55:=Ext.mod z_53 m_56 (ge1 (by omega))
    have:=m_56.size
    refine fw1 rfl (λ _=>as_ rfl)<|fw1 rfl (λ _=>as_ rfl)<|fn λ w_60 x_61=> ?_
    have:=x_61.size
    have z_60:=eT z_55 x_61
    refine nT<|sg<| ?_
    have B_49:=B_49.later x_61
    refine vL (ld rfl (B_49.all eF61 eF62))<|vm rfl<| ?_
    have B_12:=B_12.later (eT x_17 (eT x_30 (eT x_33 (eT x_40 (eT x_44 (eT x_47 x_54))))))
    have B_12:=B_12.mod m_56 (nm1 (by omega))
    have B_12:=B_12.later x_61
    refine st rfl rfl B_12 rfl eF62 rfl rfl rfl λ w_63 m_64 B_12=> ?_
    have:=m_64.size
    have z_63:=Ext.mod z_60 m_64 (ge1 (by omega))
    have:=m_64.size
    refine va rfl<|nK<|rt<|tR (.cell rfl (B_12.all eF61 eF62) (.tmp rfl .nil))<| ?_
    have HO34:=HO34.later (eT x_44 (eT x_47 x_54))
    have HO34:=HO34.mod m_56 (fk1 u_35 (by omega))
    have HO34:=HO34.later x_61
    have HO34:=HO34.mod m_64 (fk2 lo_36 (by omega))
    exact ⟨E34,a34,V34,rfl, .inl (hok.at_ hr34 hn_.1 (by omega)),HO34.down (by omega),z_63⟩
   ·refine fx rfl rfl rfl λ w_67 x_68 Q hK=>al rfl eF80 rfl rfl λ w_69 b_70 x_71 l_72 B_73=>hK _ _ ⟨eT x_68 x_71, ?_⟩
    have:=x_68.size
    have z_67:=eT z_29 x_68
    have:=x_71.size
    have z_69:=eT z_67 x_71
    have q_76:=B_73.lt
    refine fx rfl rfl rfl λ w_77 x_78 Q hK=>ca eF180 rfl rfl ((run_any a W _ _ (T.take ((n).toNat)) (L.take ((n).toNat)) _ (hW.keep (eT z_69 x_78)) ((hT.keep (eT z_69 x_78)).pre ((n).toNat)) ((hL.take ((n).toNat)).keep (eT z_69 x_78))).mono ?_)
    rintro e w_84 ⟨E79,a79,V79,A79,c79,ms79,rfl,hr79,HO79,OM79,hd79,x_85⟩
    refine ⟨_,rfl,hK _ _ ⟨eT x_78 x_85, ?_⟩⟩
    have:=x_78.size
    have z_77:=eT z_69 x_78
    have:=x_85.size
    have z_84:=eT z_77 x_85
    have u_80:=λ q hq=>(HO79.lt q hq).2
    have lo_81:=λ q hq=>(HO79.lt q hq).1
    have u_82:=λ q hq=>(OM79.lt q hq).2
    have lo_83:=λ q hq=>(OM79.lt q hq).1
    have dd79:∀ q∈Rep.blkOf A79,q∈WOwn.foot a79→False:=hd79
    have dw79:∀ q∈WOwn.foot a79,q∈Rep.blkOf A79→False:=λ q h1 h2=>hd79 q h2 h1
    refine fw1 rfl (λ _=>mv rfl)<|fw1 rfl (λ _=>ex rfl rfl)<|fw1 rfl (λ _=>ex rfl rfl)<|fw1 rfl (λ _=>ex rfl rfl)<| ?_
    have B_73:=B_73.later (eT x_78 x_85)
    refine fb rfl rfl rfl λ w_88 x_89 Q hK=>st rfl rfl (B_73.later x_89) rfl eF62 rfl rfl rfl λ w_90 m_91 B_73=>hK _ _ ?_
    have:=x_89.size
    have z_88:=eT z_84 x_89
    have:=m_91.size
    have z_90:=Ext.mod z_88 m_91 (ge1 (by omega))
    have:=m_91.size
    refine fw1 rfl (λ _=>as_ rfl)<|fw1 rfl (λ _=>as_ rfl)<|fn λ w_95 x_96=> ?_
    have:=x_96.size
    have z_95:=eT z_90 x_96
    refine nT<|sg<| ?_
    have B_73:=B_73.later x_96
    refine vL (ld rfl (B_73.all eF61 eF62))<|vm rfl<| ?_
    have B_12:=B_12.later (eT x_17 (eT x_30 (eT x_68 (eT x_71 (eT x_78 (eT x_85 x_89))))))
    have B_12:=B_12.mod m_91 (nm1 (by omega))
    have B_12:=B_12.later x_96
    refine st rfl rfl B_12 rfl eF62 rfl rfl rfl λ w_98 m_99 B_12=> ?_
    have:=m_99.size
    have z_98:=Ext.mod z_95 m_99 (ge1 (by omega))
    have:=m_99.size
    refine va rfl<|nK<|rt<|tR (.cell rfl (B_12.all eF61 eF62) (.tmp rfl .nil))<| ?_
    have HO79:=HO79.later x_89
    have HO79:=HO79.mod m_91 (fk2 lo_81 (by omega))
    have HO79:=HO79.later x_96
    have HO79:=HO79.mod m_99 (fk2 lo_81 (by omega))
    exact ⟨E79,a79,V79,rfl, .inl (hok.at_ hr79 hn_.1 (by omega)),HO79.down (by omega),z_98⟩
end
section
open Go.RowKit
theorem ess_ints {w:World}:∀ {ess:List (List Value)} {l:List Int},All2 (λ es a=>repI.has w es a) ess l→ess.flatten=l.map (Value.int .i64)
 | [], [],_=>rfl
 | es::ess,a::l,h=>by
  obtain ⟨h1,h2⟩:=h
  rw [List.flatten_cons,hcI h1,ess_ints h2];rfl
 | [],_::_,h=>h.elim
 | _::_, [],h=>h.elim
theorem all_ints {w:World}:∀ {l:List Int},(∀ a∈l,okI a)→All2 (λ es a=>repI.has w es a) (l.map λ a=> [Value.int .i64 a]) l
 | [],_=>trivial
 | a::l,h=>⟨⟨rfl,h a List.mem_cons_self⟩,all_ints λ b hb=>h b (List.mem_cons_of_mem _ hb)⟩
end
end Go.Proofs.YtlikikpgmmkjbaaGreat
namespace Go.Proofs.YtlikikpgmmkjbaaGreat.Crc
open Go.Proofs.YtlikikpgmmkjbaaGreat.Bv
def step (n:BitVec 32):BitVec 32:=n >>> 1 ^^^ (3988292384#32 &&& -(n &&& 1#32))
def steps:Nat→BitVec 32→BitVec 32
 | 0,n=>n
 | k+1,n=>steps k (step n)
def take (n:BitVec 32) (b:UInt8):BitVec 32:=steps 8 (n ^^^ b.toBitVec.setWidth 32)
def fold (n:BitVec 32) (l:List UInt8):BitVec 32:=l.foldl take n
def more (n:BitVec 32) (l:List UInt8):BitVec 32:= ~~~(fold (~~~n) l)
def of (l:List UInt8):BitVec 32:=more 0#32 l

theorem fold_append (n:BitVec 32) (l m:List UInt8):fold n (l++m)=fold (fold n l) m:=by
 unfold fold;rw [List.foldl_append]
theorem fold_snoc (n:BitVec 32) (l:List UInt8) (b:UInt8):fold n (l++ [b])=take (fold n l) b:=by
 rw [fold_append];rfl

theorem step_num (m:BitVec 32):bits BinOp.xor IntKind.u32 (U m / 2) (bits BinOp.and IntKind.u32 3988292384 (-bits BinOp.and IntKind.u32 (U m) 1 % 4294967296))=U (step m):=by
 refine eq32 (bits32_nonneg _ _ _) (bits32_lt _ _ _) ?_
 have h1:=of_shr (n:=32) (U m) 1 (U_nonneg m) (by have:=U32_lt m;omega)
 rw [of_xor32,of_and32,of_emod32,of_neg,of_and32,of_U]
 rw [show (U m / 2:Int)=U m / 2 ^ 1 by rfl,h1,of_U]
 rfl
theorem in_num (x y:Int) (h0:0≤y) (h1:y<256):bits BinOp.xor IntKind.u32 x y=U (BitVec.ofInt 32 x ^^^ (BitVec.ofInt 8 y).setWidth 32):=by
 refine eq32 (bits32_nonneg _ _ _) (bits32_lt _ _ _) ?_
 rw [of_xor32]
 obtain ⟨m,rfl⟩:=Int.eq_ofNat_of_zero_le h0
 congr 1
 rw [BitVec.ofInt_natCast,BitVec.ofInt_natCast]
 apply BitVec.eq_of_toNat_eq
 simp only [BitVec.toNat_ofNat,BitVec.toNat_setWidth]
 omega
end Go.Proofs.YtlikikpgmmkjbaaGreat.Crc
namespace Go.Proofs.YtlikikpgmmkjbaaGreat
end Go.Proofs.YtlikikpgmmkjbaaGreat
set_option linter.unusedVariables false
set_option linter.unusedSimpArgs false
namespace Go.Proofs.YtlikikpgmmkjbaaGreat.Crc
open Go.RowKit Go.Proofs.YtlikikpgmmkjbaaGreat.Bv

theorem ret_u32 {a b:Int} (h:a=b):Ending.returned (.int .u32 a)= .returned (.int .u32 b):=by rw [h]

theorem take_core (m:BitVec 32) (x y:Int) (h0:0≤x) (h1:x≤4294967295) (h2:0≤y) (h3:y≤255) (hm:m=BitVec.ofInt 32 x ^^^ (BitVec.ofInt 8 y).setWidth 32) (w:World):
  Calls Tryz.prog 215 #[.int .u32 x, .int .u8 y] w fun e w'=>e= .returned (.int .u32 (U (steps 8 m)))∧w=w':=by
 have HI:=Lib.hid (in_num x y h2 (by omega));rw [← hm] at HI;clear hm
 go_enter Tryz.func215,Tryz.ntmps215
 go_wp2
 go_loop [0,9] (fun x i=>∃ (k:Nat) (q:BitVec 32),k≤8∧i= .int .i64 k∧x= .int .u32 (U q)∧Hid (steps (8 - k) q=steps 8 m)) (fun _ i=>8 - (intOf i).toNat)
 case atStart=>exact ⟨0,m,by omega,rfl,by rw [HI.out],rfl⟩
 case round =>
  obtain ⟨k,q,hk,rfl,rfl,hq⟩:=hrel
  by_cases hlt:k<8
  ·go_wp2
   go_round
   case rel =>
    refine ⟨k+1,step q,by omega,by go_num,by rw [step_num], ?_⟩
    have h:=hq.out
    rw [show 8 - k=(8 - (k+1))+1 by omega] at h
    exact h
   case measure=>simp [intOf];omega
  ·have hk8:k=8:=by omega
   have h:=hq.out
   rw [hk8] at h
   clear hq hk8
   have HF:=Lib.hid h
   clear h
   go_wp2
   go_ret
   exact ⟨ret_u32 (by rw [← HF.out];rfl),rfl⟩
theorem take_any (n:BitVec 32) (b:UInt8) (x y:Int) (hx:x=U n) (hy:y=(b.toNat:Int)) (w:World):
  Calls Tryz.prog 215 #[.int .u32 x, .int .u8 y] w fun e w'=>e= .returned (.int .u32 (U (take n b)))∧w=w':=by
 subst hx hy
 have hb:=b.toNat_lt
 refine take_core _ _ _ (U_nonneg _) (U32_le _) (by omega) (by omega) ?_ w
 rw [of_U]
 congr 2
 rw [BitVec.ofInt_natCast]
 exact (BitVec.ofNat_toNat 8 b.toBitVec).trans (BitVec.setWidth_eq _) |>.symm

theorem not_num (x:Int):bits BinOp.xor IntKind.u32 IntKind.u32.max x=U (~~~(BitVec.ofInt 32 x)):=by
 refine eq32 (bits32_nonneg _ _ _) (bits32_lt _ _ _) ?_
 rw [of_xor32]
 exact BitVec.allOnes_xor

theorem take_succ' (s:ByteArray) (k:Nat) (h:k<s.size):s.data.toList.take (k+1)=s.data.toList.take k++ [s[k]]:=by
 rw [List.take_succ_eq_append_getElem (by simpa using h)];rfl
theorem more_any (x:Int) (s:ByteArray) (h0:0≤x) (h1:x≤4294967295) (hs:s.size≤9223372036854775807) (w:World):
  Calls Tryz.prog 189 #[.int .u32 x, .string s] w fun e w'=>e= .returned (.int .u32 (U (more (BitVec.ofInt 32 x) s.data.toList)))∧w=w':=by
 obtain ⟨n,HM⟩:∃ n,Hid (n=BitVec.ofInt 32 x):=⟨_,rfl⟩
 have HN:=Lib.hid (not_num x)
 rw [← HM.out] at HN
 rw [← HM.out]
 clear h0 h1
 go_enter Tryz.func189,Tryz.ntmps189
 go_wp2
 go_loop [0,10] (fun x i=>∃ k:Nat,k≤s.size∧i= .int .i64 k∧x= .int .u32 (U (fold (~~~n) (s.data.toList.take k)))) (fun _ i=>s.size - (intOf i).toNat)
 case atStart=>exact ⟨0,Nat.zero_le _,rfl,by rw [HN.out];rfl⟩
 case round =>
  obtain ⟨k,hk,rfl,rfl⟩:=hrel
  by_cases hlt:k<s.size
  ·go_wp2_with (go_at_call 215;refine (take_any _ s[k] _ _ rfl rfl _).mono ?_;rintro e w' ⟨rfl,rfl⟩)
   go_round
   case rel =>
    refine ⟨k+1,by omega,by go_num, ?_⟩
    rw [take_succ' s k hlt,fold_snoc]
   case measure=>simp [intOf];omega
  ·go_wp2
   go_ret
   have hk':k=s.size:=by omega
   exact ⟨ret_u32 (by rw [not_num,of_U,hk',List.take_of_length_le (by simp)];rfl),rfl⟩
theorem of_any (s:ByteArray) (hs:s.size≤9223372036854775807) (w:World):
  Calls Tryz.prog 154 #[.string s] w fun e w'=>e= .returned (.int .u32 (U (of s.data.toList)))∧w=w':=by
 go_enter Tryz.func154,Tryz.ntmps154
 go_wp2_with (go_at_call 189;refine (more_any _ s (by decide) (by decide) hs _).mono ?_;rintro e w' ⟨rfl,rfl⟩)
 go_ret
 exact ⟨rfl,rfl⟩

end Go.Proofs.YtlikikpgmmkjbaaGreat.Crc
namespace Go.Proofs.YtlikikpgmmkjbaaGreat
end Go.Proofs.YtlikikpgmmkjbaaGreat
set_option linter.unusedVariables false
set_option linter.unusedSimpArgs false
namespace Go.Proofs.YtlikikpgmmkjbaaGreat.Crc
open Go.RowKit Go.Proofs.YtlikikpgmmkjbaaGreat.Bv
def le4 (n:BitVec 32):List UInt8:= [UInt8.ofNat n.toNat,UInt8.ofNat (n.toNat / 256),UInt8.ofNat (n.toNat / 65536),UInt8.ofNat (n.toNat / 16777216)]
def sealS (s:ByteArray):ByteArray:=s++⟨(le4 (of s.data.toList)).toArray⟩
theorem sealS_list (s:ByteArray):(sealS s).data.toList=s.data.toList++le4 (of s.data.toList):=by
 unfold sealS;rw [ByteArray.data_append,Array.toList_append]
theorem sealS_size (s:ByteArray):(sealS s).size=s.size+4:=by
 have h:=congrArg List.length (sealS_list s)
 rw [List.length_append] at h
 simp only [Array.length_toList] at h
 exact h

theorem conv4 (n:BitVec 32) (u:World):(convert 76 9 (.slice (some ⟨u.heap.size,0,none⟩) 4 4)).run Tryz.prog (u.alloc (.cells #[.int .u8 (U n % 256), .int .u8 (U n / 256 % 256), .int .u8 (U n / 65536 % 256), .int .u8 (U n / 16777216 % 256)] 5))=
  .ok (.string ⟨(le4 n).toArray⟩) (u.alloc (.cells #[.int .u8 (U n % 256), .int .u8 (U n / 256 % 256), .int .u8 (U n / 65536 % 256), .int .u8 (U n / 16777216 % 256)] 5)):=by
 refine run_convert_bytes_back (P:=Tryz.prog) _ 76 9 5 ⟨u.heap.size,0,none⟩ 4 (le4 n) Tryz.underlying76 Tryz.underlying5 Tryz.underlying9 ?_
 intro j hj
 rw [add0]
 have hj4:j<4:=hj
 have hU:U n=(n.toNat:Int):=rfl
 rw [hU]
 match j,hj4 with
 | 0,_=>simp [le4,World.cell?_alloc_new]
 | 1,_=>simp [le4,World.cell?_alloc_new]
 | 2,_=>simp [le4,World.cell?_alloc_new]
 | 3,_=>simp [le4,World.cell?_alloc_new]

theorem seal_any (s:ByteArray) (hs:s.size≤9223372036854775800) (w:World):
  Calls Tryz.prog 115 #[.string s] w fun e w'=>e= .returned (.string (sealS s))∧Below w.heap.size w w':=by
 have hcv:=conv4 (of s.data.toList)
 have hl:(le4 (of s.data.toList)).length≤4:=Nat.le_refl _
 go_enter Tryz.func115,Tryz.ntmps115
 go_wp2_with (go_at_call 154;refine (of_any _ (by omega) _).mono ?_;rintro e w' ⟨rfl,rfl⟩)
 go_ret
 exact ⟨rfl,(Below.refl _ _).alloc (Nat.le_refl _) _⟩
def openS (s:ByteArray):ByteArray×Int :=
 if s.size<4 then (⟨#[]⟩,3) else if sealS (s.extract 0 (s.size - 4))=s then (s.extract 0 (s.size - 4),0) else (⟨#[]⟩,5)

theorem ret_open {a b:ByteArray×Int} (h:b=a):Ending.returned (.tuple #[.string a.1, .int .i64 a.2])= .returned (.tuple #[.string b.1, .int .i64 b.2]):=by rw [h]

theorem open_any (s:ByteArray) (hs:s.size≤9223372036854775800) (w:World):
  Calls Tryz.prog 84 #[.string s] w fun e w'=>e= .returned (.tuple #[.string (openS s).1, .int .i64 (openS s).2])∧Below w.heap.size w w':=by
 by_cases h4:s.size<4
 ·have HF:=Lib.hid (show openS s=(⟨#[]⟩,3) by unfold openS;rw [if_pos h4])
  go_enter Tryz.func84,Tryz.ntmps84
  go_wp2_with fail
  go_ret2
  exact ⟨ret_open HF.out,Below.refl _ _⟩
 ·have hm:((s.size:Int) - 4)=((s.size - 4:Nat):Int):=by omega
  have hz:(s.extract 0 (s.size - 4)).size≤9223372036854775800:=by rw [ByteArray.size_extract];omega
  obtain ⟨m,HM⟩:∃ m,Hid (m=s.size - 4):=⟨_,rfl⟩
  rw [← HM.out] at hm hz
  have hms:m+4≤s.size:=by have:=HM.out;omega
  have hms':s.size≤m+4:=by have:=HM.out;omega
  by_cases h5:sealS (s.extract 0 m)=s
  ·have HF:=Lib.hid (show openS s=(s.extract 0 m,0) by unfold openS;rw [← HM.out,if_neg h4,if_pos h5])
   have h5':=bytes_true h5
   have H5:=Lib.hid h5
   clear h5
   go_enter Tryz.func84,Tryz.ntmps84
   go_wp2_with (go_at_call 115;refine (seal_any _ hz _).mono ?_;rintro e w1 ⟨rfl,hb⟩)
   go_ret2
   exact ⟨ret_open HF.out,by assumption⟩
  ·have HF:=Lib.hid (show openS s=(⟨#[]⟩,5) by unfold openS;rw [← HM.out,if_neg h4,if_neg h5])
   have h5':=bytes_false h5
   clear h5
   go_enter Tryz.func84,Tryz.ntmps84
   go_wp2_with (go_at_call 115;refine (seal_any _ hz _).mono ?_;rintro e w1 ⟨rfl,hb⟩)
   go_ret2
   exact ⟨ret_open HF.out,by assumption⟩

theorem open_seal (s:ByteArray):openS (sealS s)=(s,0):=by
 have h1:(sealS s).extract 0 ((sealS s).size - 4)=s:=by
  apply bytes_ext
  rw [Lib.extract_data,sealS_list,sealS_size,List.drop_zero]
  have e:s.size+4 - 4 - 0=s.data.toList.length:=by simp
  rw [e,List.take_left]
 have h2:=sealS_size s
 unfold openS
 rw [if_neg (by omega),h1,if_pos rfl]
theorem open_back (s:ByteArray):(openS s).2=0∧sealS (openS s).1=s∨((openS s).2=3∨(openS s).2=5)∧(openS s).1=⟨#[]⟩:=by
 unfold openS
 split
 ·exact .inr ⟨.inl rfl,rfl⟩
 ·split
  ·rename_i h;exact .inl ⟨rfl,h⟩
  ·exact .inr ⟨.inr rfl,rfl⟩
end Go.Proofs.YtlikikpgmmkjbaaGreat.Crc
namespace Go.Proofs.YtlikikpgmmkjbaaGreat
section
open Go.RowKit
theorem chunk_any (A:Option Addr) (len c n:Nat) (w:World) (hn:1≤n):
  Calls Tryz.prog 86 #[.slice A len c, .int .i64 (n:Int)] w (λ e w'=>∃ b2 b3,e= .returned (.func (.func 121) #[] #[.pointer (some ⟨b2,0,none⟩), .pointer (some ⟨b3,0,none⟩)])∧Blk w' b2 [.slice A len c] 22 (0,0)∧Blk w' b3 [.int .i64 (n:Int)] 3 (0,0)∧w.heap.size≤b2∧b2<b3∧Ext w w'):=by
 refine calls_W (n:=9) Tryz.func86 rfl rfl rfl ?_
 refine sg<|bx rfl rfl rfl rfl λ w_1 b_2 x_3 l_4 B_5=> ?_
 have:=x_3.size
 have z_1:=eT (Ext.rf w) x_3
 have q_7:=B_5.lt
 refine bx rfl rfl rfl rfl λ w_8 b_9 x_10 l_11 B_12=> ?_
 have:=x_10.size
 have z_8:=eT z_1 x_10
 have q_14:=B_12.lt
 refine va rfl<|nK<|sq<|sg<|vL (ld rfl (B_12.one eF1 rfl))<|vL (blt rfl rfl)<|nK<| ?_
 have h_15:(decide ((n:Int)<1))=false:=by rw [decide_eq_false_iff_not];omega
 refine cF (by rw [← h_15];rfl)<|sK<|sg<|vL (mf rfl rfl)<|va rfl<|nK<|rt<|tR (.tmp rfl .nil)<| ?_
 have B_5:=B_5.later x_10
 exact ⟨b_2,b_9,rfl,B_5,B_12,by omega,by omega,z_8⟩
theorem chunk_in (q n len c b2 b3:Nat) (A:Option Addr) (w0:World) (hn:1≤n) (hlen:len=q * n) (hlc:len≤c) (hcm:c≤9223372036854775807) (m:Nat) (B20:Blk w0 b2 [.slice A len c] 22 (0,0)) (B30:Blk w0 b3 [.int .i64 (n:Int)] 3 (0,0)):
  SeqStopsK (fen none) m Tryz.prog 121 #[.pointer (some ⟨b2,0,none⟩), .pointer (some ⟨b3,0,none⟩)] (λ k:Fin q=>#[.slice (sA A (k.1 * n+n) (k.1 * n) 1) n n]) (Keep2 b2 b3) (λ xs=>xs=List.finRange q) (λ _=>True) q w0:=by
 intro l J Jx W hb hab habx hY hj0
 have B2:=B20.keepc (hb.block b2 B20.lt)
 have B3:=B30.keepc (hb.block b3 B30.lt)
 have hJ:JAt W.heap.size J [] W:=⟨hab,hj0⟩
 refine Rd.calls_I (n:=31) Tryz.func121 rfl rfl rfl ?_
 refine Rd.sq<|Rd.rg<|va rfl<|nl<|Rd.nT<|Rd.bk<| ?_
 refine Rd.lp (λ mI EI wI=>∃ k:Nat,EI= [(0, .func (.yield l) #[] #[]),(1, .pointer (some ⟨b2,0,none⟩)),(2, .pointer (some ⟨b3,0,none⟩)),(4, .int .i64 (((k * n:Nat):Int)))]∧mI=q - k∧True∧Blk wI b2 [.slice A len c] 22 (0,0)∧Blk wI b3 [.int .i64 (n:Int)] 3 (0,0)∧JAt W.heap.size J ((List.finRange q).take k) wI∧(k≤q)) _ _ ⟨0,rfl,rfl,trivial,B2,B3,(hJ:JAt W.heap.size J [] _),by omega⟩ (.cons rfl (.cons rfl (.cons rfl (.cons (loI rfl (by first | omega | rfl | (simp<;>omega))) .nil)))) ?_
 rintro m_2 E_3 w_1 ⟨k,rfl,rfl,z_1,B2,B3,hJ,hk⟩
 have q_4:=B2.lt
 have q_5:=B3.lt
 have hc:=k
 refine Rd.sq<|Rd.sq<|Rd.rg<|vm rfl<|vL (ld rfl (B2.one eF36 rfl))<|vL (ln Tryz.underlying22 rfl)<|vL (blt rfl rfl)<|nl<|Rd.nT<| ?_
 refine Rd.clt rfl (λ h_6=> ?_) (λ h_6=> ?_)
 ·have hkq:k<q:=Nat.lt_of_mul_lt_mul_right (a:=n) (by omega)
  have hkn:k * n+n≤q * n:=by rw [← Nat.succ_mul];exact Nat.mul_le_mul_right _ hkq
  refine Rd.sk<|Rd.nT<|Rd.sq<|Rd.bk<|Rd.sq<| ?_
  refine Rd.rd [(0,0),(1,0)] [0,1,2,3,4,5,6] (by kernel_rfl) (by kernel_rfl) ?_
  refine fq1 rfl (λ _ x=>ld rfl ((B3.later x).one eF1 rfl))<|fq1 rfl (λ _ x=>ld rfl ((B2.later x).one eF36 rfl))<|fw1 rfl (λ _=>mv rfl)<|fw1 rfl (λ _=>sL (k * n) Tryz.underlying22 eF7 rfl rfl rfl (by omega))<|fw1 rfl (λ _=>ln Tryz.underlying22 rfl)<|fw1 rfl (λ _=>mn rfl rfl)<|fw1 rfl (λ _=>as_ rfl)<|fn λ w_7 x_8=> ?_
  have:=x_8.size
  refine Rd.nT<|Rd.sq<|Ri.rg<|Ri.vl (mv rfl) rfl<| ?_
  have B2:=B2.later x_8
  refine Ri.vl (ld rfl (B2.one eF36 rfl)) rfl<|Ri.vl (mv rfl) rfl<|Ri.vl (mv rfl) rfl<|Ri.vl (mv rfl) rfl<|Ri.vl (bad rfl rfl (inI (by omega))) rfl<|Ri.vl (mv rfl) rfl<|Ri.vl (mv rfl) rfl<|Ri.vl (bad rfl rfl (inI (by omega))) rfl<|Ri.vl (sJ (k * n) (k * n+n) n Tryz.underlying22 eF7 rfl rfl rfl rfl rfl (by omega) (by omega) (by omega) (by omega) (by omega)) rfl<| ?_
  have B3:=B3.later x_8
  have hJ:=hJ.later x_8
  refine Ri.yd rfl rfl rfl (ymono (hY _ (⟨k,hkq⟩:Fin q) _ hJ.at_ (by rw [List.length_take,List.length_finRange];omega)) ?_)
  rintro e wy hres
  obtain ⟨bq,rfl,h1,h2⟩:=yres hres
  refine ⟨_,rfl, ?_⟩
  replace h1:bq=true→JAt W.heap.size J ((List.finRange q).take k++ [⟨k,hkq⟩]) wy∧Keep2 b2 b3 _ wy:=λ h=>⟨⟨hJ.ab,(h1 h).1⟩,(h1 h).2⟩
  refine Ri.vl (nt rfl) rfl<|Ri.nl<|Rd.nT<| ?_
  refine Rd.cb rfl (λ h_10=> ?_) (λ h_10=> ?_)
  ·refine Rd.rt<|tB<|Rd.tT<|tK<|tB<|tR .nil<| ?_
   exact ⟨⟨_,rfl⟩, .inr ⟨_,trivial,h2 (by simpa using h_10)⟩⟩
  ·obtain ⟨hJ2,hk2⟩:=h1 (by simpa using h_10)
   have B2:=B2.keepc hk2.1
   have B3:=B3.keepc hk2.2
   refine Rd.sk<|Rd.nB<|Rd.nT<|Rd.rg<|vm rfl<|vL (ld rfl (B3.one eF1 rfl))<|vL (bad rfl rfl (inI (by omega)))<|va rfl<|nl<| ?_
   exact Rd.nI _ _ ⟨k+1,rfl,rfl,trivial,B2,B3,(by rw [← fin_take hkq];exact hJ2),by omega⟩ (by omega) (.cons rfl (.cons rfl (.cons rfl (.cons (loI rfl (by rw [Nat.succ_mul];omega)) .nil))))
 ·have hkq:k=q:=Nat.le_antisymm hk (Nat.le_of_mul_le_mul_right (c:=n) (by omega) hn)
  refine Rd.xt<|Rd.xT<|xK<|Rd.xB<|Rd.ne<|tR .nil<| ?_
  exact ⟨⟨_,rfl⟩, .inl ⟨_,rfl,by have:=hJ.at_;rwa [hkq,List.take_of_length_le (by rw [List.length_finRange];omega)] at this⟩⟩
end
section
open Go.RowKit
def repY:Rep UInt8:=Rep.flat 1 (λ b=> [.int .u8 (b.toNat:Int)]) (λ _=>True) (λ _ u=>∃ n:Int,u= .int .u8 n) (λ _=>rfl) (by intro a u hu;simp at hu;subst hu;rfl) (by
 intro a j u hu
 cases j with
 | zero=>simp at hu;exact ⟨_,hu.symm⟩
 | succ j=>simp at hu)
def bytesS (l:List UInt8):ByteArray:=⟨l.toArray⟩
section
variable {P:Program} {n:Nat} {E E':List (Nat×Value)} {w:World} {d:Option Nat} {ty:TypeId} {pos:String} {af:Array Edge} {g:Option (Nat×Bool)} {x y z u:Operand} {t t2:TypeId}
end
end
section
open Go.RowKit
def sgn8 (p:Int):UInt8:=([46,35,116,111]:List UInt8).getD p.toNat 0
def rowT (f:Fld) (k j:Nat):List UInt8:=(((f.places.drop (k * f.wide.toNat)).take (k * f.wide.toNat+f.wide.toNat - k * f.wide.toNat)).take j).map sgn8
def txt (f:Fld) (pre:List (Fin f.high.toNat)):List UInt8:=pre.flatMap λ k=>rowT f k.1 f.wide.toNat++ [10]
theorem chunk_anyZ (A:Option Addr) (len c:Nat) (i:Int) (w:World) (hi:1≤i):Calls Tryz.prog 86 #[.slice A len c, .int .i64 i] w (λ e w'=>∃ b2 b3,e= .returned (.func (.func 121) #[] #[.pointer (some ⟨b2,0,none⟩), .pointer (some ⟨b3,0,none⟩)])∧Blk w' b2 [.slice A len c] 22 (0,0)∧Blk w' b3 [.int .i64 (i.toNat:Int)] 3 (0,0)∧w.heap.size≤b2∧b2<b3∧Ext w w'):=by
 have e:i=(i.toNat:Int):=by omega
 have:=chunk_any A len c i.toNat w (by omega)
 rw [← e] at this
 rw [← e];exact this
def fldText (f:Fld):ByteArray:=if f.chk≠0 then bytesS [] else bytesS (txt f (List.finRange f.high.toNat))
end
section
open Go.RowKit
theorem Orw_el_S_int:ElT Tryz.prog repI 22 3 8:=ElT.mk_ (z:= .int .i64 0) (k:=1) Tryz.underlying22 info_int rfl rfl (by decide) (λ j u h=>raw0I j u h)
theorem Orw_el_S_api_Order:ElT Tryz.prog Odr.rep 44 51 48:=ElT.mk_ (z:=Odr.zero) (k:=6) Tryz.underlying44 Odr.info rfl rfl (by decide) Odr.zero_raw
def nums (l:List Odr):List Int:=l.flatMap λ o=> [o.by_,o.kind,o.who,o.spot.x,o.spot.y,o.what]
theorem nums_len:∀ l:List Odr,(nums l).length=6 * l.length
 | []=>rfl
 | o::l=>by unfold nums;rw [List.flatMap_cons,List.length_append,List.length_cons];have:=nums_len l;unfold nums at this;rw [this];simp;omega
theorem nums_succ {l:List Odr} {k:Nat} (h:k<l.length):nums (l.take (k+1))=nums (l.take k)++ [(l.getD k default).by_,(l.getD k default).kind,(l.getD k default).who,(l.getD k default).spot.x,(l.getD k default).spot.y,(l.getD k default).what]:=by
 unfold nums;rw [take_succ_dd (d:=default) h,List.flatMap_append];simp
def wrT (l:List Odr):ByteArray:=if ordsE l≠0 then bytesS [] else Crc.sealS (Pack.strOf (Pack.putAllL (nums l)))
theorem wrT_no {l:List Odr} (h:¬ ordsE l=0):wrT l=bytesS []:=by unfold wrT;rw [if_pos h]
theorem wrT_ok {l:List Odr} (h:ordsE l=0):wrT l=Crc.sealS (Pack.strOf (Pack.putAllL (nums l))):=by unfold wrT;rw [if_neg (by simpa using h)]
theorem Pack.putAll_len (l:List Int):(Pack.putAllL l).length≤10+10 * l.length:=by
 unfold Pack.putAllL;rw [List.length_append]
 have:=(Pack.putL_len l.length).1
 have:=Pack.items_len l
 omega
theorem rdI_of {w:World} {A:Option Addr} {c:Nat} {l:List Int} (h:repI.SHas 8 w A c l):Rd w 1 A l.length (cellsI l):=by
 obtain ⟨s1,s2,s3,s4,ess,s5,s6⟩:=h
 rw [ess_ints s5] at s6;exact s6
theorem i64_of {w:World} {A:Option Addr} {c:Nat} {l:List Int} (h:repI.SHas 8 w A c l):I64 l:=λ x hx=>okI_iff.1 (repI_ok h x hx)
theorem putAll_o (l:List Int) (A:Option Addr) (c:Nat) (w:World) (hn:l.length≤1000) (h:repI.SHas 8 w A c l):Calls Tryz.prog 92 #[.slice A l.length c] w λ e w'=>e= .returned (.tuple #[.string (Pack.strOf (Pack.putAllL l)), .int .i64 0])∧Ext w w' :=
 Pack.putAll_any A l.length c l rfl hn (i64_of h) w (rdI_of h)
theorem got_len {s:List UInt8} {out:List Int} {j:Int} (h:Pack.GotAll s out j):out.length≤1000:=by
 obtain ⟨_,h1,h2⟩:=h
 by_cases e:j=0
 ·exact (h1 e).2
 ·rw [(h2 e).1];exact Nat.zero_le _
theorem own_ofI {w:World} {B n c:Nat} {A:Option Addr} {l:List Int} (h:Own w B 3 1 GI (.slice A n c) l.length (cellsI l)) (hl:l.length≤1000) (h64:I64 l):n=l.length∧repI.SOwn 3 8 w B (Rep.blkOf A) A c l:=by
 have hn:n=l.length:=by
  rcases h.2 with ⟨h1,h2⟩ | ⟨g,cap,cur,hv,_⟩
  ·injection h1 with _ e _;rw [e,h2]
  ·injection hv
 subst hn
 refine ⟨rfl,Rep.SOwn.of_plain (ess:=l.map λ a=> [Value.int .i64 a]) repI_plain (all_ints λ a ha=>okI_iff.2 (h64 a ha)) (by omega) ?_⟩
 have hfl:(l.map λ a=> [Value.int .i64 a]).flatten=l.map (Value.int .i64):=ess_ints (w:=w) (all_ints λ a ha=>okI_iff.2 (h64 a ha))
 rw [hfl];exact h
theorem getAll_o (s:ByteArray) (hs:s.size≤9223372036854775807) (w:World):Calls Tryz.prog 85 #[.string s] w (λ e w'=>∃ out k A c,Pack.GotAll s.data.toList out k∧e= .returned (.tuple #[.slice A out.length c, .int .i64 k])∧repI.SOwn 3 8 w' w.heap.size (Rep.blkOf A) A c out∧Ext w w'):=by
 refine (Pack.getAll_any s hs w).mono λ e w' he=> ?_
 obtain ⟨out,k,A,n,c,h1,h2,h3,h4⟩:=he
 obtain ⟨rfl,h5⟩:=own_ofI h3 (got_len h1) h1.1
 exact ⟨out,k,A,c,h1,h2,h5,h4⟩
theorem open_size {s:ByteArray} (h:s.size≤140737488351232):(Crc.openS s).1.size≤9223372036854775807:=by
 rcases Crc.open_back s with ⟨_,h2⟩ | ⟨_,h2⟩
 ·have:=congrArg ByteArray.size h2
  rw [Crc.sealS_size] at this;omega
 ·rw [h2];decide
def chunkAt (l:List Int) (k:Nat):List Int:=(l.drop (k * 6)).take (k * 6+6 - k * 6)
theorem chunk_len {l:List Int} {k:Nat} (h:k * 6+6≤l.length):(chunkAt l k).length=6:=by unfold chunkAt;rw [List.length_take,List.length_drop];omega
theorem chunk_ok {l:List Int} (h:∀ a∈l,okI a) (k i:Nat):okI ((chunkAt l k).getD i 0):=by
 by_cases hi:i<(chunkAt l k).length
 ·exact h _ (List.mem_of_mem_drop (List.mem_of_mem_take (mem_dd (d:=0) hi)))
 ·rw [List.getD_eq_getElem?_getD,List.getElem?_eq_none (by omega)];exact okI_iff.2 (by decide)
def ordOf (n:List Int):Odr:=⟨n.getD 0 0,n.getD 1 0,n.getD 2 0,⟨n.getD 3 0,n.getD 4 0⟩,n.getD 5 0⟩
def ordsQ (out:List Int) (q:Nat):List Odr:=(List.finRange q).map λ k=>ordOf (chunkAt out k.1)
def ordsF (out:List Int):List Odr:=ordsQ out (out.length / 6)
theorem ordsF_q {out:List Int} {q:Nat} (h:out.length=q * 6):ordsF out=ordsQ out q:=by unfold ordsF;rw [show out.length / 6=q by omega]
def ReadIs (s:ByteArray) (m:List Odr) (k:Int):Prop :=
 ((Crc.openS s).2≠0∧m= []∧k=(Crc.openS s).2)∨((Crc.openS s).2=0∧∃ out j,Pack.GotAll (Crc.openS s).1.data.toList out j∧((j≠0∧m= []∧k=j)∨(j=0∧out.length % 6≠0∧m= []∧k=4)∨
  (j=0∧out.length % 6=0∧((ordsE (ordsF out)≠0∧m= []∧k=ordsE (ordsF out))∨(ordsE (ordsF out)=0∧m=ordsF out∧k=0)))))
theorem owrite_any (A:Option Addr) (c:Nat) (l:List Odr) (w:World) (hl:Odr.rep.SHas 48 w A c l):
  Calls Tryz.prog 79 #[.slice A l.length c] w (λ e w'=>e= .returned (.tuple #[.string (wrT l), .int .i64 (ordsE l)])∧Ext w w'):=by
 have hll:=hl.len_le
 refine calls_W (n:=49) Tryz.func79 rfl rfl rfl ?_
 refine sg<|va rfl<|va rfl<|nK<|sq<|sg<|vm rfl<|ca eF155 rfl rfl ((oall_any _ _ l _ (hl.keep (Ext.rf w))).mono ?_)
 rintro e w_1 ⟨rfl,x_2⟩
 refine ⟨_,rfl, ?_⟩
 have:=x_2.size
 have z_1:=eT (Ext.rf w) x_2
 refine va rfl<|nK<|sg<|vm rfl<|vL (bne rfl rfl)<|nK<| ?_
 refine cne rfl (λ h_4=> ?_) (λ h_4=> ?_)
 ·refine sg<|vm rfl<|va rfl<|va rfl<|nK<|rt<|tT<|tR (.tmp rfl (.tmp rfl .nil))<| ?_
  exact ⟨by rw [wrT_no h_4];rfl,z_1⟩
 ·obtain ⟨hl100,_⟩:=ordsE_zero (by simpa using h_4)
  refine sK<|sg<|va rfl<|nK<|sq<|sg<|vm rfl<|vL (ln Tryz.underlying44 rfl)<|vm rfl<|nK<|bk<| ?_
  refine lp (λ mI EI wI=>∃ k:Nat,∃ An:Option Addr,∃ cn:Nat,EI= [(2, .string (bytesS [])),(3, .int .i64 0),(5, .slice An ((nums (l.take k)).length) cn),(15, .slice A l.length c),(16, .int .i64 (l.length:Int)),(17, .int .i64 (k:Int))]∧mI=l.length - k∧Ext w wI∧repI.SOwn 3 8 wI w.heap.size (Rep.blkOf An) An cn (nums (l.take k))∧(k≤l.length)) _ _ ⟨0,none,0,rfl,rfl,z_1,(Rep.SOwn.nil _),by omega⟩ (.cons rfl (.cons rfl (.cons rfl (.cons rfl (.cons rfl (.cons (loI rfl (by first | omega | rfl | (simp<;>omega))) .nil)))))) ?_
  rintro m_6 E_7 w_5 ⟨k,An,cn,rfl,rfl,z_5,ON,hk⟩
  have:=z_5.size
  have u_9:=λ q hq=>(ON.lt q hq).2
  have hnl:=nums_len (l.take k)
  have htk:(l.take k).length=k:=by rw [List.length_take];omega
  refine sg<|vL (blt rfl rfl)<|nK<|sq<| ?_
  refine clt rfl (λ h_10=> ?_) (λ h_10=> ?_)
  ·have hox:=Odr.all_ok hl _ (mem_dd (d:=default) (show k<l.length by omega))
   refine sK<|sq<|bk<|sg<|vL (iA k Tryz.underlying44 eF141 rfl rfl ((hl.keep z_5).adr (zl k (by omega))) rfl (by omega))<|vL (ld rfl (Rep.SHas.elt hcO ((hl.keep z_5).adh (zl k (by omega))) (get_d (l:=l) (u:=default) (by omega)) eF140 eF141))<|al rfl eF135 rfl rfl λ w_11 b_12 x_13 l_14 B_15=> ?_
   have:=x_13.size
   have z_11:=eT z_5 x_13
   have q_17:=B_15.lt
   refine st (new:= [.int .i64 ((l.getD k default).by_), .int .i64 ((l.getD k default).kind), .int .i64 ((l.getD k default).who), .int .i64 ((l.getD k default).spot.x), .int .i64 ((l.getD k default).spot.y), .int .i64 ((l.getD k default).what)]) rfl rfl B_15 rfl eF141 rfl rfl rfl λ w_18 m_19 B_15=> ?_
   have:=m_19.size
   have z_18:=Ext.mod z_11 m_19 (ge1 (by omega))
   have:=m_19.size
   refine nK<|rg<|vm rfl<|vL (fa eF142 rfl)<|vL (ld rfl (B_15.one eF1 rfl))<|vL (fa eF136 rfl)<|vL (ld rfl (B_15.one eF1 rfl))<|vL (fa eF137 rfl)<|vL (ld rfl (B_15.one eF1 rfl))<|vL (fa eF138 rfl)<|vL (fa eF0 rfl)<|vL (ld rfl (B_15.one eF1 rfl))<|vL (fa eF138 rfl)<|vL (fa eF2 rfl)<|vL (ld rfl (B_15.one eF1 rfl))<|vL (fa eF139 rfl)<|vL (ld rfl (B_15.one eF1 rfl))<|bs (e:= 3) (cs:= [.int .i64 ((l.getD k default).by_), .int .i64 ((l.getD k default).kind), .int .i64 ((l.getD k default).who), .int .i64 ((l.getD k default).spot.x), .int .i64 ((l.getD k default).spot.y), .int .i64 ((l.getD k default).what)]) rfl (λ _=>by kernel_rfl) rfl λ w_22 b_23 x_24 l_25 B_26=> ?_
   have:=x_24.size
   have z_22:=eT z_18 x_24
   have q_28:=B_26.lt
   have ON:=ON.later x_13
   have ON:=ON.mod m_19 (fk1 u_9 (by omega))
   have ON:=ON.later x_24
   refine ap Orw_el_S_int Rep.flat_bare ON (Blk.hasN (R:=repI) (by_:=8) (k:= [(l.getD k default).by_,(l.getD k default).kind,(l.getD k default).who,(l.getD k default).spot.x,(l.getD k default).spot.y,(l.getD k default).what]) B_26 [[.int .i64 ((l.getD k default).by_)], [.int .i64 ((l.getD k default).kind)], [.int .i64 ((l.getD k default).who)], [.int .i64 ((l.getD k default).spot.x)], [.int .i64 ((l.getD k default).spot.y)], [.int .i64 ((l.getD k default).what)]] rfl (⟨⟨rfl,(hox.1)⟩,⟨⟨rfl,(hox.2.1)⟩,⟨⟨rfl,(hox.2.2.1)⟩,⟨⟨rfl,(hox.2.2.2.1)⟩,⟨⟨rfl,(hox.2.2.2.2.1)⟩,⟨⟨rfl,(hox.2.2.2.2.2)⟩,trivial⟩⟩⟩⟩⟩⟩) (by simp) (by simp)) rfl rfl (by simp only [List.length_cons,List.length_nil];omega) (by simp only [List.length_cons,List.length_nil];omega) z_22.size rfl λ w_29 A_30 c_31 m_32 O_33 g_34 n_35=> ?_
   have:=m_32.size
   have z_29:=Ext.mod z_22 m_32 (λ q hq=>(ON.lt q hq).1)
   have u_37:=λ q hq=>(O_33.lt q hq).2
   have:=m_32.size
   refine va rfl<|nl<|nB<|nT<|rg<|vL (bad rfl rfl (inI (by omega)))<|vm rfl<|nl<| ?_
   have e1:nums (l.take (k+1))=nums (l.take k)++ [(l.getD k default).by_,(l.getD k default).kind,(l.getD k default).who,(l.getD k default).spot.x,(l.getD k default).spot.y,(l.getD k default).what]:=nums_succ (by omega)
   exact nI _ _ ⟨k+1,A_30,c_31,rfl,rfl,z_29,(by rw [e1];exact O_33),by omega⟩ (by omega) (.cons rfl (.cons rfl (.cons (by rw [e1];rfl) (.cons rfl (.cons rfl (.cons (loI rfl (by first | omega | rfl | (simp<;>omega))) .nil))))))
  ·refine xt<|xT<|xK<|xB<|nT<|sg<|vm rfl<|ca eF169 rfl rfl ((putAll_o (nums (l.take k)) _ _ _ (by omega) ON.has).mono ?_)
   rintro e w_39 ⟨rfl,x_40⟩
   refine ⟨_,rfl, ?_⟩
   have:=x_40.size
   have z_39:=eT z_5 x_40
   refine vm rfl<|vL (ex rfl rfl)<|vL (ex rfl rfl)<|va rfl<|va rfl<|nK<|sq<|sg<|vm rfl<|vL (bne rfl rfl)<|nK<|cF rfl<|sK<|sg<|vm rfl<|ca eF184 rfl rfl ((Crc.seal_any _ (by rw [Pack.strOf_size];have:=Pack.putAll_len (nums (l.take k));omega) _).mono ?_)
   rintro e w_42 ⟨rfl,x_43⟩
   refine ⟨_,rfl, ?_⟩
   have:=x_43.size
   have z_42:=eT z_39 x_43
   refine va rfl<|va rfl<|nK<|rt<|tR (.tmp rfl (.tmp rfl .nil))<| ?_
   have ek:k=l.length:=by omega
   subst ek
   exact ⟨by rw [wrT_ok (by simpa using h_4),show ordsE l=0 by simpa using h_4,List.take_length];rfl,z_42⟩
theorem oread_any (s:ByteArray) (w:World) (hs:s.size≤140737488351232):
  Calls Tryz.prog 55 #[.string s] w (λ e w'=>∃ m k A c,ReadIs s m k∧e= .returned (.tuple #[.slice A m.length c, .int .i64 k])∧Odr.rep.SOwn 51 48 w' w.heap.size (Rep.blkOf A) A c m∧Ext w w'):=by
 refine Rd.calls_W (m:=5) (n:=61) Tryz.func55 rfl rfl rfl ?_
 refine Rd.sq<|Rd.rg<|va rfl<|va rfl<|nl<|Rd.nT<|Rd.sq<|Rd.rg<|vm rfl<|ca eF185 rfl rfl ((Crc.open_any s (by omega) _).mono ?_)
 rintro e w_1 ⟨rfl,x_2⟩
 refine ⟨_,rfl, ?_⟩
 have:=x_2.size
 have z_1:=eT (Ext.rf w) x_2
 refine vm rfl<|vL (ex rfl rfl)<|vL (ex rfl rfl)<|va rfl<|va rfl<|nl<|Rd.nT<|Rd.sq<|Rd.sq<|Rd.rg<|vm rfl<|vL (bne rfl rfl)<|nl<|Rd.nT<| ?_
 refine Rd.cne rfl (λ h_4=> ?_) (λ h_4=> ?_)
 ·refine Rd.sq<|Rd.rg<|vm rfl<|va rfl<|va rfl<|nl<|Rd.nT<|Rd.rt<|Rd.tT<|Rd.tR (.tmp rfl (.tmp rfl .nil))<| ?_
  exact ⟨[],_,none,0, .inl ⟨by simpa using h_4,rfl,rfl⟩,rfl,Rep.SOwn.nil _,z_1⟩
 ·refine Rd.sk<|Rd.nT<|Rd.sq<|Rd.rg<|vm rfl<|ca eF186 rfl rfl ((getAll_o ((Crc.openS s).1) (open_size (by omega)) _).mono ?_)
  rintro e w_8 ⟨out,j,AG,cG,hGA,rfl,OG,x_9⟩
  refine ⟨_,rfl, ?_⟩
  have:=x_9.size
  have z_8:=eT z_1 x_9
  have u_6:=λ q hq=>(OG.lt q hq).2
  have lo_7:=λ q hq=>(OG.lt q hq).1
  have hgl:=got_len hGA
  refine vm rfl<|vL (ex rfl rfl)<|vL (ex rfl rfl)<|va rfl<|va rfl<|nl<|Rd.nT<|Rd.sq<|Rd.sq<|Rd.rg<|vm rfl<|vL (bne rfl rfl)<|nl<|Rd.nT<| ?_
  refine Rd.cne rfl (λ h_11=> ?_) (λ h_11=> ?_)
  ·refine Rd.sq<|Rd.rg<|vm rfl<|va rfl<|va rfl<|nl<|Rd.nT<|Rd.rt<|Rd.tT<|Rd.tR (.tmp rfl (.tmp rfl .nil))<| ?_
   exact ⟨[],_,none,0, .inr ⟨by simpa using h_4,out,j,hGA, .inl ⟨by simpa using h_11,rfl,rfl⟩⟩,rfl,Rep.SOwn.nil _,z_8⟩
  ·have hg1000:out.length≤1000:=hgl
   refine Rd.sk<|Rd.nT<|Rd.sq<|Rd.sq<|Rd.rg<|vm rfl<|vL (ln Tryz.underlying22 rfl)<|vL (bre rfl rfl (by omega) (by omega))<|vL (bne rfl rfl)<|nl<|Rd.nT<| ?_
   refine Rd.cne rfl (λ h_12=> ?_) (λ h_12=> ?_)
   ·refine Rd.sq<|Rd.rg<|va rfl<|va rfl<|nl<|Rd.nT<|Rd.rt<|Rd.tT<|Rd.tR (.tmp rfl (.tmp rfl .nil))<| ?_
    exact ⟨[],_,none,0, .inr ⟨by simpa using h_4,out,j,hGA, .inr (.inl ⟨by simpa using h_11,by omega,rfl,rfl⟩)⟩,rfl,Rep.SOwn.nil _,z_8⟩
   ·obtain ⟨q,hq6⟩:∃ q,out.length=q * 6:=⟨out.length / 6,by omega⟩
    refine Rd.sk<|Rd.nT<|Rd.sq<|Rd.rg<|al rfl eF187 rfl rfl λ w_13 b_14 x_15 l_16 B_17=> ?_
    have:=x_15.size
    have z_13:=eT z_8 x_15
    have q_19:=B_17.lt
    refine nl<|Rd.nT<|Rd.sq<|Rd.sq<|Rd.rg<|vm rfl<|ca eF188 rfl rfl ((chunk_anyZ _ _ _ 6 _ (by omega)).mono ?_)
    rintro e w_20 ⟨b2,b3,rfl,C2,C3,l2,l3,x_21⟩
    refine ⟨_,rfl, ?_⟩
    have:=x_21.size
    have z_20:=eT z_13 x_21
    have q2:=C2.lt
    have q3:=C3.lt
    refine nl<|Rd.nT<|Rd.bk<| ?_
    have B_17:=B_17.later x_21
    have OG:=OG.later (eT x_15 x_21)
    refine Rd.rf (enc:=(λ k:Fin q=> .slice (sA AG (k.1 * 6+6) (k.1 * 6) 1) 6 6)) rfl eF189 (chunk_in q 6 out.length cG b2 b3 AG _ (by omega) hq6 OG.has.1 OG.has.2.1 _ C2 C3) (by omega) (by omega) (Ext.rf _) (by decide) rfl rfl (λ pre W=>∃ Ao:Option Addr,∃ co:Nat,Blk W b_14 [.slice Ao (((pre.map λ k=>ordOf (chunkAt out k.1))).length) co] 44 (0,0)∧Odr.rep.SOwn 51 48 W w_20.heap.size (Rep.blkOf Ao) Ao co ((pre.map λ k=>ordOf (chunkAt out k.1)))∧repI.SOwn 3 8 W w_1.heap.size (Rep.blkOf AG) AG cG (out)∧Mod [b_14] w_20 W) (by rintro s_ W1_ W2_ S_ ⟨Ao,co,B5,OO,OG,z_⟩ m_ hS_;exact ⟨Ao,co,B5.mod m_ (λ hq=>(hS_ _ hq).2 _ _ _ B5),OO.mod m_ (λ q hq hs=>by obtain ⟨_,_,_,hc⟩:=OO.cellsAt q hq;exact (hS_ q hs).2 _ _ _ hc),OG.mod m_ (λ q hq hs=>by obtain ⟨_,_,_,hc⟩:=OG.cellsAt q hq;exact (hS_ q hs).2 _ _ _ hc),z_.md m_ (λ q hq=> .inr (hS_ q hq).1)⟩) ⟨none,0,B_17,Rep.SOwn.nil _,OG,Mod.rf _ _⟩ ?_ ?_
    ·intro l_ pre xr wB hI_ hlen_
     obtain ⟨Ao,co,B5,OO,OG,zB⟩:=hI_
     have hzb:∀ q∈ [b_14],w.heap.size≤q:=λ q hq=>by rw [List.mem_singleton.1 hq];omega
     have hKF:KF w_20.heap.size wB wB:=KF.rf _ _
     have:=zB.size
     have q_24:=B5.lt
     have u_25:=λ q hq=>(OO.lt q hq).2
     have lo_26:=λ q hq=>(OO.lt q hq).1
     have u_27:=λ q hq=>(OG.lt q hq).2
     have lo_28:=λ q hq=>(OG.lt q hq).1
     have hx:=xr.2
     have hxm:xr.1 * 6+6≤q * 6:=by omega
     have hpre:pre.length<q:=hlen_
     have hcl:=chunk_len (l:=out) (k:=xr.1) (by omega)
     have hoc:=λ i=>chunk_ok (repI_ok OG.has) xr.1 i
     have hpl:((pre.map λ k=>ordOf (chunkAt out k.1))).length=pre.length:=List.length_map _
     refine Rd.bk<| ?_
     refine Rd.rd [(0,0),(3,0),(6,0),(9,0),(12,0),(15,0),(19,0),(21,2),(22,3),(23,3)] [0,1,2,3,4,5,6,7,8,9,10,11,12,13,14,15,16,17,18,19,20,21,22,23] (by kernel_rfl) (by kernel_rfl) ?_
     refine fq1 rfl (λ _ x=>ld rfl ((B5.later x).one eF175 rfl))<|fw1 rfl (λ _=>mv rfl)<|fw1 rfl (λ _=>iA 0 Tryz.underlying22 eF7 rfl rfl ((OG.has.chunk (xr.1 * 6) (xr.1 * 6+6) (by omega) (by omega)).adr (zl 0 (by first | (rw [List.length_take,List.length_drop];omega) | omega))) rfl (by omega))<|fq1 rfl (λ _ x=>ld rfl (Rep.SHas.one' hcI (((OG.later x).has.chunk (xr.1 * 6) (xr.1 * 6+6) (by omega) (by omega)).adh (zl 0 (by first | (rw [List.length_take,List.length_drop];omega) | omega))) (get_d (l:=chunkAt out xr.1) (u:=0) (by first | (rw [List.length_take,List.length_drop];omega) | omega)) rfl eF1))<|fw1 rfl (λ _=>mv rfl)<|fw1 rfl (λ _=>iA 1 Tryz.underlying22 eF7 rfl rfl ((OG.has.chunk (xr.1 * 6) (xr.1 * 6+6) (by omega) (by omega)).adr (zl 1 (by first | (rw [List.length_take,List.length_drop];omega) | omega))) rfl (by omega))<|fq1 rfl (λ _ x=>ld rfl (Rep.SHas.one' hcI (((OG.later x).has.chunk (xr.1 * 6) (xr.1 * 6+6) (by omega) (by omega)).adh (zl 1 (by first | (rw [List.length_take,List.length_drop];omega) | omega))) (get_d (l:=chunkAt out xr.1) (u:=0) (by first | (rw [List.length_take,List.length_drop];omega) | omega)) rfl eF1))<|fw1 rfl (λ _=>mv rfl)<|fw1 rfl (λ _=>iA 2 Tryz.underlying22 eF7 rfl rfl ((OG.has.chunk (xr.1 * 6) (xr.1 * 6+6) (by omega) (by omega)).adr (zl 2 (by first | (rw [List.length_take,List.length_drop];omega) | omega))) rfl (by omega))<|fq1 rfl (λ _ x=>ld rfl (Rep.SHas.one' hcI (((OG.later x).has.chunk (xr.1 * 6) (xr.1 * 6+6) (by omega) (by omega)).adh (zl 2 (by first | (rw [List.length_take,List.length_drop];omega) | omega))) (get_d (l:=chunkAt out xr.1) (u:=0) (by first | (rw [List.length_take,List.length_drop];omega) | omega)) rfl eF1))<|fw1 rfl (λ _=>mv rfl)<|fw1 rfl (λ _=>iA 3 Tryz.underlying22 eF7 rfl rfl ((OG.has.chunk (xr.1 * 6) (xr.1 * 6+6) (by omega) (by omega)).adr (zl 3 (by first | (rw [List.length_take,List.length_drop];omega) | omega))) rfl (by omega))<|fq1 rfl (λ _ x=>ld rfl (Rep.SHas.one' hcI (((OG.later x).has.chunk (xr.1 * 6) (xr.1 * 6+6) (by omega) (by omega)).adh (zl 3 (by first | (rw [List.length_take,List.length_drop];omega) | omega))) (get_d (l:=chunkAt out xr.1) (u:=0) (by first | (rw [List.length_take,List.length_drop];omega) | omega)) rfl eF1))<|fw1 rfl (λ _=>mv rfl)<|fw1 rfl (λ _=>iA 4 Tryz.underlying22 eF7 rfl rfl ((OG.has.chunk (xr.1 * 6) (xr.1 * 6+6) (by omega) (by omega)).adr (zl 4 (by first | (rw [List.length_take,List.length_drop];omega) | omega))) rfl (by omega))<|fq1 rfl (λ _ x=>ld rfl (Rep.SHas.one' hcI (((OG.later x).has.chunk (xr.1 * 6) (xr.1 * 6+6) (by omega) (by omega)).adh (zl 4 (by first | (rw [List.length_take,List.length_drop];omega) | omega))) (get_d (l:=chunkAt out xr.1) (u:=0) (by first | (rw [List.length_take,List.length_drop];omega) | omega)) rfl eF1))<|fw (v:= .agg #[.int .i64 ((chunkAt out xr.1).getD 3 0), .int .i64 ((chunkAt out xr.1).getD 4 0)]) rfl rfl (λ _=>bd rfl (by kernel_rfl)) rfl<|fw1 rfl (λ _=>mv rfl)<|fw1 rfl (λ _=>iA 5 Tryz.underlying22 eF7 rfl rfl ((OG.has.chunk (xr.1 * 6) (xr.1 * 6+6) (by omega) (by omega)).adr (zl 5 (by first | (rw [List.length_take,List.length_drop];omega) | omega))) rfl (by omega))<|fq1 rfl (λ _ x=>ld rfl (Rep.SHas.one' hcI (((OG.later x).has.chunk (xr.1 * 6) (xr.1 * 6+6) (by omega) (by omega)).adh (zl 5 (by first | (rw [List.length_take,List.length_drop];omega) | omega))) (get_d (l:=chunkAt out xr.1) (u:=0) (by first | (rw [List.length_take,List.length_drop];omega) | omega)) rfl eF1))<|fw (v:= .agg #[.int .i64 ((chunkAt out xr.1).getD 0 0), .int .i64 ((chunkAt out xr.1).getD 1 0), .int .i64 ((chunkAt out xr.1).getD 2 0), .int .i64 ((chunkAt out xr.1).getD 3 0), .int .i64 ((chunkAt out xr.1).getD 4 0), .int .i64 ((chunkAt out xr.1).getD 5 0)]) rfl rfl (λ _=>bd rfl (by kernel_rfl)) rfl<|fx rfl rfl rfl λ w_29 x_30 Q hK=>bs (e:= 51) (cs:= [.int .i64 ((chunkAt out xr.1).getD 0 0), .int .i64 ((chunkAt out xr.1).getD 1 0), .int .i64 ((chunkAt out xr.1).getD 2 0), .int .i64 ((chunkAt out xr.1).getD 3 0), .int .i64 ((chunkAt out xr.1).getD 4 0), .int .i64 ((chunkAt out xr.1).getD 5 0)]) rfl (λ _=>by kernel_rfl) rfl λ w_31 b_32 x_33 l_34 B_35=>hK _ _ ⟨eT x_30 x_33, ?_⟩
     have:=x_30.size
     have z_29:=zB.trans (Mod.of_ext x_30)
     have:=x_33.size
     have z_31:=z_29.trans (Mod.of_ext x_33)
     have q_38:=B_35.lt
     have OO:=OO.later (eT x_30 x_33)
     have pc_41:=OO
     refine fb rfl rfl rfl λ w_39 x_40 Q hK=>ap Orw_el_S_api_Order Rep.flat_bare (OO.later x_40) ((Blk.has1 (R:=Odr.rep) (by_:=48) (q:=(⟨(chunkAt out xr.1).getD 0 0,(chunkAt out xr.1).getD 1 0,(chunkAt out xr.1).getD 2 0,⟨(chunkAt out xr.1).getD 3 0,(chunkAt out xr.1).getD 4 0⟩,(chunkAt out xr.1).getD 5 0⟩:Odr)) B_35 ⟨rfl,⟨hoc 0,hoc 1,hoc 2,hoc 3,hoc 4,hoc 5⟩⟩ (by decide)).keep x_40) rfl rfl (by simp only [List.length_cons,List.length_nil];omega) (by simp only [List.length_cons,List.length_nil];omega) (by have:=x_40.size;omega) rfl λ w_42 A_43 c_44 m_45 O_46 g_47 n_48=>hK _ _ ?_
     have:=x_40.size
     have z_39:=z_31.trans (Mod.of_ext x_40)
     have:=m_45.size
     have z_42:=z_39.md m_45 (λ q hq=> .inr ((λ q hq=>Nat.le_trans (by omega) ((OO.later x_40).lt q hq).1) q hq))
     have u_51:=λ q hq=>(O_46.lt q hq).2
     have:=m_45.size
     have B5:=B5.later (eT x_30 (eT x_33 x_40))
     have d_56:∀ q∈Rep.blkOf Ao,q=b_14→False:=λ q hq hb=>by (have:=lo_26 q hq;omega)
     have B5:=B5.mod m_45 (λ hq=>d_56 _ hq rfl)
     have pc_55:=B5
     refine fb rfl rfl rfl λ w_53 x_54 Q hK=>st (new:= [.slice A_43 (((pre.map λ k=>ordOf (chunkAt out k.1))++ [(⟨(chunkAt out xr.1).getD 0 0,(chunkAt out xr.1).getD 1 0,(chunkAt out xr.1).getD 2 0,⟨(chunkAt out xr.1).getD 3 0,(chunkAt out xr.1).getD 4 0⟩,(chunkAt out xr.1).getD 5 0⟩:Odr)]).length) c_44]) rfl rfl (B5.later x_54) rfl eF174 rfl rfl rfl λ w_57 m_58 B5=>hK _ _ ?_
     have:=x_54.size
     have z_53:=z_42.trans (Mod.of_ext x_54)
     have:=m_58.size
     have z_57:=z_53.md m_58 (λ q hq=> .inl hq)
     have:=m_58.size
     refine fn λ w_62 x_63=> ?_
     have:=x_63.size
     have z_62:=z_57.trans (Mod.of_ext x_63)
     refine Rd.nB<| ?_
     have hKF:=hKF.later (eT x_30 (eT x_33 x_40))
     have hKF:=hKF.mod m_45 (λ q hq=>(pc_41.later x_40).cellsAt q hq)
     have hKF:=hKF.later x_54
     have hKF:=hKF.mod m_58 (λ q hq=>by rw [List.mem_singleton.1 hq];exact ⟨_,_,_,(pc_55.later x_54)⟩)
     have hKF:=hKF.later x_63
     have B5:=B5.later x_63
     have O_46:=O_46.later x_54
     have O_46:=O_46.mod m_58 (λ q hq h=>by have hb:=List.mem_singleton.1 h;exfalso;(exact Or.elim (g_47 q hq) (λ k_65=>by (exact d_56 q k_65 hb)) (λ k_65=>by omega)))
     have O_46:=O_46.later x_63
     have OG:=OG.later (eT x_30 (eT x_33 x_40))
     have OG:=OG.mod m_45 (λ q hq h=>by exfalso;(have:=lo_26 q h;(have:=u_27 q hq;have:=u_6 q hq;omega)))
     have OG:=OG.later x_54
     have OG:=OG.mod m_58 (λ q hq h=>by have hb:=List.mem_singleton.1 h;exfalso;(have:=u_27 q hq;have:=u_6 q hq;omega))
     have OG:=OG.later x_63
     exact λ _ _=>⟨hKF,Mod.keep22 zB z_62 ⟨by omega,by omega⟩ (nm1 (by omega)) (nm1 (by omega)),⟨A_43,c_44,(by rw [List.map_append];exact B5),(by rw [List.map_append];exact O_46),OG,z_62⟩⟩
    ·intro D xs_ wD hD_ hS_ hI_ hDK
     obtain ⟨Ao,co,B5,OO,OG,zD⟩:=hI_
     have hS2:xs_=List.finRange q:=hS_
     subst hS2
     have:=zD.size
     have zD2:=Ext.mod z_20 zD (λ q hq=>by rw [List.mem_singleton.1 hq];omega)
     refine Rt.nB<|Rt.nT<|Rt.sq<|Rt.sq<|Rt.rg<|Rt.vl (ld rfl (B5.one eF175 rfl)) rfl<|Rt.ca eF155 rfl rfl ((oall_any _ _ (ordsQ out q) _ OO.has).mono ?_)
     rintro e w_67 ⟨rfl,x_68⟩
     refine ⟨_,rfl, ?_⟩
     have:=x_68.size
     have z_67:=eT zD2 x_68
     refine Rt.vl (as_ rfl) rfl<|Rt.nl<|Rt.nT<|Rt.sq<|Rt.rg<|Rt.vl (mv rfl) rfl<|Rt.vl (bne rfl rfl) rfl<|Rt.nl<|Rt.nT<| ?_
     refine Rt.cne rfl (λ h_70=> ?_) (λ h_70=> ?_)
     ·refine Rt.sq<|Rt.rg<|Rt.vl (mv rfl) rfl<|Rt.vl (as_ rfl) rfl<|Rt.vl (as_ rfl) rfl<|Rt.nl<|Rt.nT<|Rt.rt<|Rt.tT<| ?_
      have hDK:=hDK.later x_68
      refine Rt.tR hDK (.tmp rfl (.tmp rfl .nil))<| ?_
      exact ⟨[],_,none,0, .inr ⟨by simpa using h_4,out,j,hGA, .inr (.inr ⟨by simpa using h_11,by omega, .inl ⟨by rw [ordsF_q hq6];simpa using h_70,rfl,by rw [ordsF_q hq6]⟩⟩)⟩,rfl,Rep.SOwn.nil _,Ext.mod z_67 hDK.un (λ q hq=>by rw [List.mem_singleton.1 hq];omega)⟩
     ·refine Rt.sk<|Rt.nT<|Rt.sq<|Rt.rg<| ?_
      have B5:=B5.later x_68
      refine Rt.vl (ld rfl (B5.one eF175 rfl)) rfl<|Rt.vl (as_ rfl) rfl<|Rt.vl (as_ rfl) rfl<|Rt.nl<|Rt.nT<|Rt.rt<| ?_
      have hDK:=hDK.later x_68
      refine Rt.tR hDK (.tmp rfl (.tmp rfl .nil))<| ?_
      have OO:=OO.later x_68
      exact ⟨_,_,Ao,co, .inr ⟨by simpa using h_4,out,j,hGA, .inr (.inr ⟨by simpa using h_11,by omega, .inr ⟨by rw [ordsF_q hq6];simpa using h_70,(ordsF_q hq6).symm,rfl⟩⟩)⟩,rfl,(OO.down (by omega)).mod hDK.un (λ q1 h1 h2=>by have h3:=List.mem_singleton.1 h2;subst h3;obtain ⟨_,_,_,hc⟩:=OO.cellsAt _ h1;rw [show _=_ from hDK] at hc;exact nomatch hc),Ext.mod z_67 hDK.un (λ q hq=>by rw [List.mem_singleton.1 hq];omega)⟩
end
end Go.Proofs.YtlikikpgmmkjbaaGreat
