import Derived.Test.YtlikikpgmmkjbaaGreatGra
import Derived.Test.YtlikikpgmmkjbaaGreatOrwZ
import Derived.Test.YtlikikpgmmkjbaaGreatHitG
import Derived.Test.YtlikikpgmmkjbaaGreatGooD
import Derived.Test.YtlikikpgmmkjbaaGreatPpt
import Derived.Test.YtlikikpgmmkjbaaGreatGol
import Derived.Test.YtlikikpgmmkjbaaGreatTroI
import Derived.Test.YtlikikpgmmkjbaaGreatBlw
set_option linter.unusedVariables false
set_option linter.unusedSimpArgs false
set_option maxRecDepth 100000
set_option maxHeartbeats 4000000
namespace Go.Proofs.YtlikikpgmmkjbaaGreat
section
open Go.RowKit
def ownK (W:Wd) (k:Nat):List (Int×Int):=(W.troops.take k).map λ t=>(t.id,t.owner)
theorem ownK_succ {W:Wd} {k:Nat} (h:k<W.troops.length):ownK W (k+1)=ownK W k++ [((W.troops.getD k default).id,(W.troops.getD k default).owner)]:=by
 unfold ownK;rw [take_succ_dd (d:=default) h,List.map_append];rfl
theorem own_new {W:Wd} (hG:Good W) {k:Nat} (h:k<W.troops.length):getI (ownK W k) (W.troops.getD k default).id=none:=by
 unfold getI ownK
 rw [List.find?_map,Option.map_eq_none_iff,Option.map_eq_none_iff,List.find?_eq_none]
 intro x hx
 obtain ⟨i,hi,e⟩:=List.mem_iff_getElem.1 hx
 rw [List.length_take] at hi
 rw [List.getElem_take] at e
 have:=(List.pairwise_iff_getElem.1 hG.pw) i k (by omega) h (by omega)
 rw [← e,getD_dd h]
 have h1:=this.1
 simp only [Function.comp_apply,beq_iff_eq];omega
def may (W:Wd) (o:Odr):Bool:=if o.kind=5 then decide (o.by_<(W.bases.length:Int)) && (o.by_ == o.by_) else (getI (ownK W W.troops.length) o.who).isSome && ((getI (ownK W W.troops.length) o.who).getD 0 == o.by_)
def splB (W:Wd) (l:List Odr) (k:Nat):List Blw:=(l.take k).flatMap λ o=>if may W o=true then spB o else []
theorem splB_yes {W:Wd} {l:List Odr} {k:Nat} (h:k<l.length) (hm:may W (l.getD k default)=true):splB W l (k+1)=splB W l k++spB (l.getD k default):=by
 unfold splB;rw [take_succ_dd (d:=default) h,List.flatMap_append,List.flatMap_cons,List.flatMap_nil,List.append_nil,if_pos hm]
theorem splB_no {W:Wd} {l:List Odr} {k:Nat} (h:k<l.length) (hm:may W (l.getD k default)=false):splB W l (k+1)=splB W l k:=by
 unfold splB;rw [take_succ_dd (d:=default) h,List.flatMap_append,List.flatMap_cons,List.flatMap_nil,List.append_nil,if_neg (by rw [hm];decide),List.append_nil]
theorem splB_len (W:Wd) (l:List Odr):∀ k,(splB W l k).length≤k
 | 0=>by simp [splB]
 | k+1=>by
  have ih:=splB_len W l k
  by_cases h:k<l.length
  ·cases hm:may W (l.getD k default) with
   | true=>rw [splB_yes h hm,List.length_append];have:(spB (l.getD k default)).length≤1:=(by unfold spB;(repeat' split)<;>simp);omega
   | false=>rw [splB_no h hm];omega
  ·have:splB W l (k+1)=splB W l k:=by unfold splB;rw [List.take_of_length_le (by omega),List.take_of_length_le (by omega)]
   rw [this];omega
def splG (W:Wd) (l:List Odr) (k:Nat):List Gox:=(l.take k).flatMap λ o=>if may W o=true then spG o else []
theorem splG_yes {W:Wd} {l:List Odr} {k:Nat} (h:k<l.length) (hm:may W (l.getD k default)=true):splG W l (k+1)=splG W l k++spG (l.getD k default):=by
 unfold splG;rw [take_succ_dd (d:=default) h,List.flatMap_append,List.flatMap_cons,List.flatMap_nil,List.append_nil,if_pos hm]
theorem splG_no {W:Wd} {l:List Odr} {k:Nat} (h:k<l.length) (hm:may W (l.getD k default)=false):splG W l (k+1)=splG W l k:=by
 unfold splG;rw [take_succ_dd (d:=default) h,List.flatMap_append,List.flatMap_cons,List.flatMap_nil,List.append_nil,if_neg (by rw [hm];decide),List.append_nil]
theorem splG_len (W:Wd) (l:List Odr):∀ k,(splG W l k).length≤k
 | 0=>by simp [splG]
 | k+1=>by
  have ih:=splG_len W l k
  by_cases h:k<l.length
  ·cases hm:may W (l.getD k default) with
   | true=>rw [splG_yes h hm,List.length_append];have:(spG (l.getD k default)).length≤1:=(by unfold spG;(repeat' split)<;>simp);omega
   | false=>rw [splG_no h hm];omega
  ·have:splG W l (k+1)=splG W l k:=by unfold splG;rw [List.take_of_length_le (by omega),List.take_of_length_le (by omega)]
   rw [this];omega
def splD (W:Wd) (l:List Odr) (k:Nat):List Ded:=(l.take k).flatMap λ o=>if may W o=true then spD o else []
theorem splD_yes {W:Wd} {l:List Odr} {k:Nat} (h:k<l.length) (hm:may W (l.getD k default)=true):splD W l (k+1)=splD W l k++spD (l.getD k default):=by
 unfold splD;rw [take_succ_dd (d:=default) h,List.flatMap_append,List.flatMap_cons,List.flatMap_nil,List.append_nil,if_pos hm]
theorem splD_no {W:Wd} {l:List Odr} {k:Nat} (h:k<l.length) (hm:may W (l.getD k default)=false):splD W l (k+1)=splD W l k:=by
 unfold splD;rw [take_succ_dd (d:=default) h,List.flatMap_append,List.flatMap_cons,List.flatMap_nil,List.append_nil,if_neg (by rw [hm];decide),List.append_nil]
theorem splD_len (W:Wd) (l:List Odr):∀ k,(splD W l k).length≤k
 | 0=>by simp [splD]
 | k+1=>by
  have ih:=splD_len W l k
  by_cases h:k<l.length
  ·cases hm:may W (l.getD k default) with
   | true=>rw [splD_yes h hm,List.length_append];have:(spD (l.getD k default)).length≤1:=(by unfold spD;(repeat' split)<;>simp);omega
   | false=>rw [splD_no h hm];omega
  ·have:splD W l (k+1)=splD W l k:=by unfold splD;rw [List.take_of_length_le (by omega),List.take_of_length_le (by omega)]
   rw [this];omega
theorem spl_len (W:Wd) (l:List Odr) (k:Nat):(splB W l k).length≤k∧(splG W l k).length≤k∧(splD W l k).length≤k:=⟨splB_len W l k,splG_len W l k,splD_len W l k⟩
theorem split_any (A:Option Addr) (c:Nat) (l:List Odr) (aw:Wd.At) (W:Wd) (w:World) (hl:Odr.rep.SHas 48 w A c l) (hW:Wd.Has w aw W):
  Calls Tryz.prog 60 #[.slice A l.length c, .agg ((Wd.cells aw W).toArray)] w (λ e w'=>∃ A0 c0 A1 c1 A2 c2,((ordsE l≠0∧e= .returned (.tuple #[.slice none 0 0, .slice none 0 0, .slice none 0 0, .int .i64 (ordsE l)]))∨(ordsE l=0∧W.chk≠0∧e= .returned (.tuple #[.slice none 0 0, .slice none 0 0, .slice none 0 0, .int .i64 W.chk]))∨(ordsE l=0∧W.chk=0∧e= .returned (.tuple #[.slice A0 (splB W l l.length).length c0, .slice A1 (splG W l l.length).length c1, .slice A2 (splD W l l.length).length c2, .int .i64 0])∧Blw.rep.SOwn 223 16 w' w.heap.size (Rep.blkOf A0) A0 c0 (splB W l l.length)∧Gox.rep.SOwn 225 24 w' w.heap.size (Rep.blkOf A1) A1 c1 (splG W l l.length)∧Ded.rep.SOwn 178 40 w' w.heap.size (Rep.blkOf A2) A2 c2 (splD W l l.length)))∧Ext w w'):=by
 have hll:=hl.len_le
 refine calls_W (n:=82) Tryz.func60 rfl rfl rfl ?_
 refine sg<|bx rfl rfl rfl rfl λ w_1 b_2 x_3 l_4 B_5=> ?_
 have:=x_3.size
 have z_1:=eT (Ext.rf w) x_3
 have q_7:=B_5.lt
 refine va rfl<|va rfl<|va rfl<|va rfl<|nK<|sq<|sg<|vm rfl<|ca eF155 rfl rfl ((oall_any _ _ l _ (hl.keep z_1)).mono ?_)
 rintro e w_8 ⟨rfl,x_9⟩
 refine ⟨_,rfl, ?_⟩
 have:=x_9.size
 have z_8:=eT z_1 x_9
 refine va rfl<|nK<|sg<|vm rfl<|vL (bne rfl rfl)<|nK<| ?_
 refine cne rfl (λ h_11=> ?_) (λ h_11=> ?_)
 ·refine sg<|vm rfl<|va rfl<|va rfl<|va rfl<|va rfl<|nK<|rt<|tT<|tR (.tmp rfl (.tmp rfl (.tmp rfl (.tmp rfl .nil))))<| ?_
  exact ⟨none,0,none,0,none,0, .inl ⟨h_11,rfl⟩,z_8⟩
 ·obtain ⟨hl100,_⟩:=ordsE_zero (by simpa using h_11)
  refine sK<|sq<|sg<| ?_
  have B_5:=B_5.later x_9
  refine vL (ld rfl (B_5.all eF61 eF62))<|ca eF63 rfl rfl ((check_any aw W _ (hW.keep z_8)).mono ?_)
  rintro e w_12 ⟨rfl,x_13⟩
  refine ⟨_,rfl, ?_⟩
  have:=x_13.size
  have z_12:=eT z_8 x_13
  refine va rfl<|nK<|sg<|vm rfl<|vL (bne rfl rfl)<|nK<| ?_
  refine cne rfl (λ h_15=> ?_) (λ h_15=> ?_)
  ·refine sg<|vm rfl<|va rfl<|va rfl<|va rfl<|va rfl<|nK<|rt<|tT<|tR (.tmp rfl (.tmp rfl (.tmp rfl (.tmp rfl .nil))))<| ?_
   exact ⟨none,0,none,0,none,0, .inr (.inl ⟨by simpa using h_11,h_15,rfl⟩),z_12⟩
  ·have hG:=Good.of_chk (by simpa using h_15)
   have hnt:=hG.nt
   have hnb:=hG.nb
   refine sK<|sg<|mm rfl λ w_16 r_17 x_18 l_19 M_20=> ?_
   have:=x_18.size
   have z_16:=eT z_12 x_18
   have q_22:=M_20.lt
   refine va rfl<|nK<|sq<|sg<|vL (fa eF64 rfl)<| ?_
   have B_5:=B_5.later (eT x_13 x_18)
   refine vL (ld rfl (B_5.one eF65 rfl))<|vL (ln Tryz.underlying26 rfl)<|vm rfl<|nK<|bk<| ?_
   refine lp (λ mI EI wI=>∃ k:Nat,EI= [(0, .slice A l.length c),(3, .pointer (some ⟨b_2,0,none⟩)),(4, .slice none 0 0),(5, .slice none 0 0),(6, .slice none 0 0),(7, .int .i64 0),(10, .map (some r_17)),(30, .slice aw.T W.troops.length aw.t),(31, .int .i64 (W.troops.length:Int)),(32, .int .i64 (k:Int))]∧mI=W.troops.length - k∧Ext w wI∧Blk wI b_2 (Wd.cells aw W) 28 (0,0)∧MapI wI r_17 (ownK W k)∧(k≤W.troops.length)) _ _ ⟨0,rfl,rfl,z_16,B_5,M_20,by omega⟩ (.cons rfl (.cons rfl (.cons rfl (.cons rfl (.cons rfl (.cons rfl (.cons rfl (.cons rfl (.cons rfl (.cons (loI rfl (by first | omega | rfl | (simp<;>omega))) .nil)))))))))) ?_
   rintro m_24 E_25 w_23 ⟨k,rfl,rfl,z_23,B_5,M1,hk⟩
   have:=z_23.size
   have q_27:=B_5.lt
   have q_28:=M1.lt
   refine sg<|vL (blt rfl rfl)<|nK<|sq<| ?_
   refine clt rfl (λ h_29=> ?_) (λ h_29=> ?_)
   ·refine sK<|sq<|bk<|sg<|vL (iA k Tryz.underlying26 eF66 rfl rfl ((hW.T.keep z_23).adr (zl k (by omega))) rfl (by omega))<|vL (ld rfl (Rep.SHas.elt hcT ((hW.T.keep z_23).adh (zl k (by omega))) (get_d (l:=W.troops) (u:=default) (by omega)) eF67 eF66))<|al rfl eF68 rfl rfl λ w_30 b_31 x_32 l_33 B_34=> ?_
    have:=x_32.size
    have z_30:=eT z_23 x_32
    have q_36:=B_34.lt
    refine st (new:= [.int .i64 ((W.troops.getD k default).id), .int .i64 ((W.troops.getD k default).owner), .int .i64 ((W.troops.getD k default).kind), .int .i64 ((W.troops.getD k default).spot.x), .int .i64 ((W.troops.getD k default).spot.y), .int .i64 ((W.troops.getD k default).life), .int .i64 ((W.troops.getD k default).load)]) rfl rfl B_34 rfl eF66 rfl rfl rfl λ w_37 m_38 B_34=> ?_
    have:=m_38.size
    have z_37:=Ext.mod z_30 m_38 (ge1 (by omega))
    have:=m_38.size
    refine nK<|rg<|vm rfl<|vL (fa eF69 rfl)<|vL (ld rfl (B_34.one eF1 rfl))<|vL (fa eF57 rfl)<|vL (ld rfl (B_34.one eF1 rfl))<| ?_
    have M1:=M1.later x_32
    have M1:=M1.mod m_38 (nm1 (by omega))
    refine mu Tryz.underlying167 Tryz.underlying3 M1 (own_new hG (by omega)) rfl rfl rfl λ w_41 m_42 M1=> ?_
    have:=m_42.size
    have z_41:=Ext.mod z_37 m_42 (ge1 (by omega))
    have:=m_42.size
    refine nl<|nB<|nT<|rg<|vL (bad rfl rfl (inI (by omega)))<|vm rfl<|nl<| ?_
    have e1:ownK W (k+1)=ownK W k++ [((W.troops.getD k default).id,(W.troops.getD k default).owner)]:=ownK_succ (by omega)
    have B_5:=B_5.later x_32
    have B_5:=B_5.mod m_38 (nm1 (by omega))
    have B_5:=B_5.mod m_42 (nm1 (by omega))
    exact nI _ _ ⟨k+1,rfl,rfl,z_41,B_5,(by rw [e1];exact M1),by omega⟩ (by omega) (.cons rfl (.cons rfl (.cons rfl (.cons rfl (.cons rfl (.cons rfl (.cons rfl (.cons rfl (.cons rfl (.cons (loI rfl (by first | omega | rfl | (simp<;>omega))) .nil))))))))))
   ·refine xt<|xT<|xK<|xB<|nT<|sg<|al rfl eF156 rfl rfl λ w_45 b_46 x_47 l_48 B_49=> ?_
    have:=x_47.size
    have z_45:=eT z_23 x_47
    have q_51:=B_49.lt
    refine nK<|sq<|sg<|vm rfl<|vL (ln Tryz.underlying44 rfl)<|vm rfl<|nK<|bk<| ?_
    have ek:k=W.troops.length:=by omega
    subst ek
    have B_5:=B_5.later x_47
    have M1:=M1.later x_47
    refine lp (λ mI EI wI=>∃ j:Nat,∃ A0:Option Addr,∃ c0:Nat,∃ A1:Option Addr,∃ c1:Nat,∃ A2:Option Addr,∃ c2:Nat,EI= [(3, .pointer (some ⟨b_2,0,none⟩)),(4, .slice none 0 0),(5, .slice none 0 0),(6, .slice none 0 0),(7, .int .i64 0),(10, .map (some r_17)),(13, .pointer (some ⟨b_46,0,none⟩)),(42, .slice A l.length c),(43, .int .i64 (l.length:Int)),(44, .int .i64 (j:Int))]∧mI=l.length - j∧Ext w wI∧Blk wI b_2 (Wd.cells aw W) 28 (0,0)∧MapI wI r_17 (ownK W W.troops.length)∧Blk wI b_46 [.slice A0 ((splB W l j).length) c0, .slice A1 ((splG W l j).length) c1, .slice A2 ((splD W l j).length) c2] 169 (0,0)∧Blw.rep.SOwn 223 16 wI w.heap.size (Rep.blkOf A0) A0 c0 (splB W l j)∧Gox.rep.SOwn 225 24 wI w.heap.size (Rep.blkOf A1) A1 c1 (splG W l j)∧Ded.rep.SOwn 178 40 wI w.heap.size (Rep.blkOf A2) A2 c2 (splD W l j)∧(j≤l.length)∧(∀ q∈Rep.blkOf A0,q=b_2→False)∧(∀ q∈Rep.blkOf A0,q=r_17→False)∧(∀ q∈Rep.blkOf A0,q=b_46→False)∧(∀ q∈Rep.blkOf A1,q=b_2→False)∧(∀ q∈Rep.blkOf A1,q=r_17→False)∧(∀ q∈Rep.blkOf A1,q=b_46→False)∧(∀ q∈Rep.blkOf A1,q∈Rep.blkOf A0→False)∧(∀ q∈Rep.blkOf A2,q=b_2→False)∧(∀ q∈Rep.blkOf A2,q=r_17→False)∧(∀ q∈Rep.blkOf A2,q=b_46→False)∧(∀ q∈Rep.blkOf A2,q∈Rep.blkOf A0→False)∧(∀ q∈Rep.blkOf A2,q∈Rep.blkOf A1→False)) _ _ ⟨0,none,0,none,0,none,0,rfl,rfl,z_45,B_5,M1,B_49,(Rep.SOwn.nil _),(Rep.SOwn.nil _),(Rep.SOwn.nil _),by omega,(λ q hq hb=>by (simp [Rep.blkOf] at hq)),(λ q hq hb=>by (simp [Rep.blkOf] at hq)),(λ q hq hb=>by (simp [Rep.blkOf] at hq)),(λ q hq hb=>by (simp [Rep.blkOf] at hq)),(λ q hq hb=>by (simp [Rep.blkOf] at hq)),(λ q hq hb=>by (simp [Rep.blkOf] at hq)),(λ q hq hb=>by (simp [Rep.blkOf] at hq)),(λ q hq hb=>by (simp [Rep.blkOf] at hq)),(λ q hq hb=>by (simp [Rep.blkOf] at hq)),(λ q hq hb=>by (simp [Rep.blkOf] at hq)),(λ q hq hb=>by (simp [Rep.blkOf] at hq)),(λ q hq hb=>by (simp [Rep.blkOf] at hq))⟩ (.cons rfl (.cons rfl (.cons rfl (.cons rfl (.cons rfl (.cons rfl (.cons rfl (.cons rfl (.cons rfl (.cons (loI rfl (by first | omega | rfl | (simp<;>omega))) .nil)))))))))) ?_
    rintro m_65 E_66 w_64 ⟨j,A0,c0,A1,c1,A2,c2,rfl,rfl,z_64,B_5,M1,BS,OS0,OS1,OS2,hj,d_52,d_53,d_54,d_55,d_56,d_57,d_58,d_59,d_60,d_61,d_62,d_63⟩
    have:=z_64.size
    have q_68:=B_5.lt
    have q_69:=M1.lt
    have q_70:=BS.lt
    have u_71:=λ q hq=>(OS0.lt q hq).2
    have u_72:=λ q hq=>(OS1.lt q hq).2
    have u_73:=λ q hq=>(OS2.lt q hq).2
    have hsl:=spl_len W l j
    refine sg<|vL (blt rfl rfl)<|nK<|sq<| ?_
    refine clt rfl (λ h_74=> ?_) (λ h_74=> ?_)
    ·have hox:=Odr.all_ok hl _ (mem_dd (d:=default) (show j<l.length by omega))
     refine sK<|sq<|bk<|sg<|vL (iA j Tryz.underlying44 eF141 rfl rfl ((hl.keep z_64).adr (zl j (by omega))) rfl (by omega))<|vL (ld rfl (Rep.SHas.elt hcO ((hl.keep z_64).adh (zl j (by omega))) (get_d (l:=l) (u:=default) (by omega)) eF140 eF141))<|al rfl eF135 rfl rfl λ w_75 b_76 x_77 l_78 B_79=> ?_
     have:=x_77.size
     have z_75:=eT z_64 x_77
     have q_81:=B_79.lt
     refine st (new:= [.int .i64 ((l.getD j default).by_), .int .i64 ((l.getD j default).kind), .int .i64 ((l.getD j default).who), .int .i64 ((l.getD j default).spot.x), .int .i64 ((l.getD j default).spot.y), .int .i64 ((l.getD j default).what)]) rfl rfl B_79 rfl eF141 rfl rfl rfl λ w_82 m_83 B_79=> ?_
     have:=m_83.size
     have z_82:=Ext.mod z_75 m_83 (ge1 (by omega))
     have:=m_83.size
     refine nK<|sg<|vm rfl<|vL (fa eF137 rfl)<|vL (ld rfl (B_79.one eF1 rfl))<| ?_
     have M1:=M1.later x_77
     have M1:=M1.mod m_83 (nm1 (by omega))
     refine vL (lk Tryz.underlying167 Tryz.underlying3 eF74 M1 rfl rfl)<|vm rfl<|vL (ex rfl rfl)<|vL (ex rfl rfl)<|va rfl<|va rfl<|nK<|sq<|sg<|vL (fa eF136 rfl)<|vL (ld rfl (B_79.one eF1 rfl))<|vL (beq rfl rfl)<|nK<| ?_
     refine ceq rfl (λ h_86=> ?_) (λ h_86=> ?_)
     ·refine rd [(1,0),(3,0),(5,0)] [0,1,2,3,4,5,6,7,8,9] (by kernel_rfl) (by kernel_rfl) ?_
      refine fw1 rfl (λ _=>fa eF142 rfl)<|fq1 rfl (λ _ x=>ld rfl ((B_79.later x).one eF1 rfl))<|fw1 rfl (λ _=>fa eF142 rfl)<|fq1 rfl (λ _ x=>ld rfl ((B_79.later x).one eF1 rfl))<|fw1 rfl (λ _=>fa eF83 rfl)<| ?_
      have B_5:=B_5.later x_77
      have B_5:=B_5.mod m_83 (nm1 (by omega))
      refine fq1 rfl (λ _ x=>ld rfl ((B_5.later x).one eF84 rfl))<|fw1 rfl (λ _=>ln Tryz.underlying25 rfl)<|fw1 rfl (λ _=>blt rfl rfl)<|fw1 rfl (λ _=>as_ rfl)<|fw1 rfl (λ _=>as_ rfl)<|fn λ w_87 x_88=> ?_
      have:=x_88.size
      have z_87:=eT z_82 x_88
      refine nT<|sg<|vm rfl<|vm rfl<|vQ rfl rfl rfl rfl (λ hc=>mv rfl) rfl<|vQ rfl rfl rfl rfl (λ hc=>fa eF142 rfl) rfl<| ?_
      have B_79:=B_79.later x_88
      refine vQ rfl rfl rfl rfl (λ hc=>ld (gt hc rfl) (B_79.one eF1 rfl)) rfl<|vQ rfl rfl rfl rfl (λ hc=>beq (gt hc rfl) (gt hc rfl)) rfl<|vL (pA rfl rfl rfl rfl)<|nK<| ?_
      refine cb rfl (λ h_90=> ?_) (λ h_90=> ?_)
      ·have hmay:may W (l.getD j default)=true:=by unfold may;rw [if_pos h_86];rw [← h_90]
       refine rg<|vL (ld rfl (B_79.all eF140 eF141))<| ?_
       have BS:=BS.later x_77
       have BS:=BS.mod m_83 (nm1 (by omega))
       have BS:=BS.later x_88
       have OS0:=OS0.later x_77
       have OS0:=OS0.mod m_83 (fk1 u_71 (by omega))
       have OS0:=OS0.later x_88
       have OS1:=OS1.later x_77
       have OS1:=OS1.mod m_83 (fk1 u_72 (by omega))
       have OS1:=OS1.later x_88
       have OS2:=OS2.later x_77
       have OS2:=OS2.mod m_83 (fk1 u_73 (by omega))
       have OS2:=OS2.later x_88
       have gq_91:∀ q∈(b_46::(Rep.blkOf A0++(Rep.blkOf A1++Rep.blkOf A2))),w.heap.size≤q:=by
        intro q hq
        simp only [List.mem_cons,List.mem_append] at hq
        rcases hq with hq | hq | hq | hq
        ·omega
        ·exact (OS0.lt q hq).1
        ·exact (OS1.lt q hq).1
        ·exact (OS2.lt q hq).1
       refine ca eF157 rfl rfl ((add_any (l.getD j default) w b_46 _ _ _ _ _ _ _ _ _ _ z_87 hox BS OS0 OS1 OS2 (λ q hq hb=>by (exact d_54 q hq hb)) (λ q hq hb=>by (exact d_57 q hq hb)) (λ q hq hb=>by (exact d_61 q hq hb)) (λ q hq hb=>by (exact d_58 q hq hb)) (λ q hq hb=>by (exact d_62 q hq hb)) (λ q hq hb=>by (exact d_63 q hq hb)) (by omega) (by omega) (by omega)).mono ?_)
       rintro e w_93 ⟨A_910,c_910,A_911,c_911,A_912,c_912,rfl,B_91,O_910,O_911,O_912,ds_910,ds_911,ds_912,dp_9110,dp_9120,dp_9121,g_910,g_911,g_912,m_92⟩
       refine ⟨_,rfl, ?_⟩
       have:=m_92.size
       have z_93:=Ext.mod z_87 m_92 gq_91
       have u_95:=λ q hq=>(O_910.lt q hq).2
       have u_96:=λ q hq=>(O_911.lt q hq).2
       have u_97:=λ q hq=>(O_912.lt q hq).2
       refine nl<|nB<|nT<|rg<|vL (bad rfl rfl (inI (by omega)))<|vm rfl<|nl<| ?_
       have e2:splB W l (j+1)=splB W l j++spB (l.getD j default):=splB_yes (by omega) hmay
       have e3:splG W l (j+1)=splG W l j++spG (l.getD j default):=splG_yes (by omega) hmay
       have e4:splD W l (j+1)=splD W l j++spD (l.getD j default):=splD_yes (by omega) hmay
       have B_5:=B_5.later x_88
       have np_98:b_2∉(b_46::(Rep.blkOf A0++(Rep.blkOf A1++Rep.blkOf A2))):=by
        intro hq
        simp only [List.mem_cons,List.mem_append] at hq
        rcases hq with hq | hq | hq | hq
        ·omega
        ·exact (λ q (h1:q∈Rep.blkOf A0) (h2:q=b_2)=>show False by (exact d_52 q h1 h2)) _ hq rfl
        ·exact (λ q (h1:q∈Rep.blkOf A1) (h2:q=b_2)=>show False by (exact d_55 q h1 h2)) _ hq rfl
        ·exact (λ q (h1:q∈Rep.blkOf A2) (h2:q=b_2)=>show False by (exact d_59 q h1 h2)) _ hq rfl
       have B_5:=B_5.mod m_92 np_98
       have M1:=M1.later x_88
       have np_99:r_17∉(b_46::(Rep.blkOf A0++(Rep.blkOf A1++Rep.blkOf A2))):=by
        intro hq
        simp only [List.mem_cons,List.mem_append] at hq
        rcases hq with hq | hq | hq | hq
        ·omega
        ·exact (λ q (h1:q∈Rep.blkOf A0) (h2:q=r_17)=>show False by (exact d_53 q h1 h2)) _ hq rfl
        ·exact (λ q (h1:q∈Rep.blkOf A1) (h2:q=r_17)=>show False by (exact d_56 q h1 h2)) _ hq rfl
        ·exact (λ q (h1:q∈Rep.blkOf A2) (h2:q=r_17)=>show False by (exact d_60 q h1 h2)) _ hq rfl
       have M1:=M1.mod m_92 np_99
       exact nI _ _ ⟨j+1,A_910,c_910,A_911,c_911,A_912,c_912,rfl,rfl,z_93,B_5,M1,(by rw [e2,e3,e4];exact B_91),(by rw [e2];exact O_910),(by rw [e3];exact O_911),(by rw [e4];exact O_912),by omega,(λ q hq hb=>by (exact Or.elim (g_910 q hq) (λ k_100=>by (exact d_52 q k_100 hb)) (λ k_100=>by omega))),(λ q hq hb=>by (exact Or.elim (g_910 q hq) (λ k_101=>by (exact d_53 q k_101 hb)) (λ k_101=>by omega))),(λ q hq hb=>by (exact ds_910 q hq hb)),(λ q hq hb=>by (exact Or.elim (g_911 q hq) (λ k_102=>by (exact d_55 q k_102 hb)) (λ k_102=>by omega))),(λ q hq hb=>by (exact Or.elim (g_911 q hq) (λ k_103=>by (exact d_56 q k_103 hb)) (λ k_103=>by omega))),(λ q hq hb=>by (exact ds_911 q hq hb)),(λ q hq hb=>by (exact dp_9110 q hq hb)),(λ q hq hb=>by (exact Or.elim (g_912 q hq) (λ k_104=>by (exact d_59 q k_104 hb)) (λ k_104=>by omega))),(λ q hq hb=>by (exact Or.elim (g_912 q hq) (λ k_105=>by (exact d_60 q k_105 hb)) (λ k_105=>by omega))),(λ q hq hb=>by (exact ds_912 q hq hb)),(λ q hq hb=>by (exact dp_9120 q hq hb)),(λ q hq hb=>by (exact dp_9121 q hq hb))⟩ (by omega) (.cons rfl (.cons rfl (.cons rfl (.cons rfl (.cons rfl (.cons rfl (.cons rfl (.cons rfl (.cons rfl (.cons (loI rfl (by first | omega | rfl | (simp<;>omega))) .nil))))))))))
      ·have hmay:may W (l.getD j default)=false:=by unfold may;rw [if_pos h_86];rw [← h_90]
       refine sk<|nB<|nT<|rg<|vL (bad rfl rfl (inI (by omega)))<|vm rfl<|nl<| ?_
       have e2:splB W l (j+1)=splB W l j:=splB_no (by omega) hmay
       have e3:splG W l (j+1)=splG W l j:=splG_no (by omega) hmay
       have e4:splD W l (j+1)=splD W l j:=splD_no (by omega) hmay
       have B_5:=B_5.later x_88
       have M1:=M1.later x_88
       have BS:=BS.later x_77
       have BS:=BS.mod m_83 (nm1 (by omega))
       have BS:=BS.later x_88
       have OS0:=OS0.later x_77
       have OS0:=OS0.mod m_83 (fk1 u_71 (by omega))
       have OS0:=OS0.later x_88
       have OS1:=OS1.later x_77
       have OS1:=OS1.mod m_83 (fk1 u_72 (by omega))
       have OS1:=OS1.later x_88
       have OS2:=OS2.later x_77
       have OS2:=OS2.mod m_83 (fk1 u_73 (by omega))
       have OS2:=OS2.later x_88
       exact nI _ _ ⟨j+1,A0,c0,A1,c1,A2,c2,rfl,rfl,z_87,B_5,M1,(by rw [e2,e3,e4];exact BS),(by rw [e2];exact OS0),(by rw [e3];exact OS1),(by rw [e4];exact OS2),by omega,(λ q hq hb=>by (exact d_52 q hq hb)),(λ q hq hb=>by (exact d_53 q hq hb)),(λ q hq hb=>by (exact d_54 q hq hb)),(λ q hq hb=>by (exact d_55 q hq hb)),(λ q hq hb=>by (exact d_56 q hq hb)),(λ q hq hb=>by (exact d_57 q hq hb)),(λ q hq hb=>by (exact d_58 q hq hb)),(λ q hq hb=>by (exact d_59 q hq hb)),(λ q hq hb=>by (exact d_60 q hq hb)),(λ q hq hb=>by (exact d_61 q hq hb)),(λ q hq hb=>by (exact d_62 q hq hb)),(λ q hq hb=>by (exact d_63 q hq hb))⟩ (by omega) (.cons rfl (.cons rfl (.cons rfl (.cons rfl (.cons rfl (.cons rfl (.cons rfl (.cons rfl (.cons rfl (.cons (loI rfl (by first | omega | rfl | (simp<;>omega))) .nil))))))))))
     ·refine sK<|sg<|vm rfl<|vm rfl<|vQ rfl rfl rfl rfl (λ hc=>mv rfl) rfl<|vQ rfl rfl rfl rfl (λ hc=>fa eF142 rfl) rfl<|vQ rfl rfl rfl rfl (λ hc=>ld (gt hc rfl) (B_79.one eF1 rfl)) rfl<|vQ rfl rfl rfl rfl (λ hc=>beq (gt hc rfl) (gt hc rfl)) rfl<|vL (pA rfl rfl rfl rfl)<|nK<| ?_
      refine cb rfl (λ h_106=> ?_) (λ h_106=> ?_)
      ·have hmay:may W (l.getD j default)=true:=by unfold may;rw [if_neg h_86];rw [← h_106]
       refine rg<|vL (ld rfl (B_79.all eF140 eF141))<| ?_
       have BS:=BS.later x_77
       have BS:=BS.mod m_83 (nm1 (by omega))
       have OS0:=OS0.later x_77
       have OS0:=OS0.mod m_83 (fk1 u_71 (by omega))
       have OS1:=OS1.later x_77
       have OS1:=OS1.mod m_83 (fk1 u_72 (by omega))
       have OS2:=OS2.later x_77
       have OS2:=OS2.mod m_83 (fk1 u_73 (by omega))
       have gq_107:∀ q∈(b_46::(Rep.blkOf A0++(Rep.blkOf A1++Rep.blkOf A2))),w.heap.size≤q:=by
        intro q hq
        simp only [List.mem_cons,List.mem_append] at hq
        rcases hq with hq | hq | hq | hq
        ·omega
        ·exact (OS0.lt q hq).1
        ·exact (OS1.lt q hq).1
        ·exact (OS2.lt q hq).1
       refine ca eF157 rfl rfl ((add_any (l.getD j default) w b_46 _ _ _ _ _ _ _ _ _ _ z_82 hox BS OS0 OS1 OS2 (λ q hq hb=>by (exact d_54 q hq hb)) (λ q hq hb=>by (exact d_57 q hq hb)) (λ q hq hb=>by (exact d_61 q hq hb)) (λ q hq hb=>by (exact d_58 q hq hb)) (λ q hq hb=>by (exact d_62 q hq hb)) (λ q hq hb=>by (exact d_63 q hq hb)) (by omega) (by omega) (by omega)).mono ?_)
       rintro e w_109 ⟨A_1070,c_1070,A_1071,c_1071,A_1072,c_1072,rfl,B_107,O_1070,O_1071,O_1072,ds_1070,ds_1071,ds_1072,dp_10710,dp_10720,dp_10721,g_1070,g_1071,g_1072,m_108⟩
       refine ⟨_,rfl, ?_⟩
       have:=m_108.size
       have z_109:=Ext.mod z_82 m_108 gq_107
       have u_111:=λ q hq=>(O_1070.lt q hq).2
       have u_112:=λ q hq=>(O_1071.lt q hq).2
       have u_113:=λ q hq=>(O_1072.lt q hq).2
       refine nl<|nB<|nT<|rg<|vL (bad rfl rfl (inI (by omega)))<|vm rfl<|nl<| ?_
       have e2:splB W l (j+1)=splB W l j++spB (l.getD j default):=splB_yes (by omega) hmay
       have e3:splG W l (j+1)=splG W l j++spG (l.getD j default):=splG_yes (by omega) hmay
       have e4:splD W l (j+1)=splD W l j++spD (l.getD j default):=splD_yes (by omega) hmay
       have B_5:=B_5.later x_77
       have B_5:=B_5.mod m_83 (nm1 (by omega))
       have np_114:b_2∉(b_46::(Rep.blkOf A0++(Rep.blkOf A1++Rep.blkOf A2))):=by
        intro hq
        simp only [List.mem_cons,List.mem_append] at hq
        rcases hq with hq | hq | hq | hq
        ·omega
        ·exact (λ q (h1:q∈Rep.blkOf A0) (h2:q=b_2)=>show False by (exact d_52 q h1 h2)) _ hq rfl
        ·exact (λ q (h1:q∈Rep.blkOf A1) (h2:q=b_2)=>show False by (exact d_55 q h1 h2)) _ hq rfl
        ·exact (λ q (h1:q∈Rep.blkOf A2) (h2:q=b_2)=>show False by (exact d_59 q h1 h2)) _ hq rfl
       have B_5:=B_5.mod m_108 np_114
       have np_115:r_17∉(b_46::(Rep.blkOf A0++(Rep.blkOf A1++Rep.blkOf A2))):=by
        intro hq
        simp only [List.mem_cons,List.mem_append] at hq
        rcases hq with hq | hq | hq | hq
        ·omega
        ·exact (λ q (h1:q∈Rep.blkOf A0) (h2:q=r_17)=>show False by (exact d_53 q h1 h2)) _ hq rfl
        ·exact (λ q (h1:q∈Rep.blkOf A1) (h2:q=r_17)=>show False by (exact d_56 q h1 h2)) _ hq rfl
        ·exact (λ q (h1:q∈Rep.blkOf A2) (h2:q=r_17)=>show False by (exact d_60 q h1 h2)) _ hq rfl
       have M1:=M1.mod m_108 np_115
       exact nI _ _ ⟨j+1,A_1070,c_1070,A_1071,c_1071,A_1072,c_1072,rfl,rfl,z_109,B_5,M1,(by rw [e2,e3,e4];exact B_107),(by rw [e2];exact O_1070),(by rw [e3];exact O_1071),(by rw [e4];exact O_1072),by omega,(λ q hq hb=>by (exact Or.elim (g_1070 q hq) (λ k_116=>by (exact d_52 q k_116 hb)) (λ k_116=>by omega))),(λ q hq hb=>by (exact Or.elim (g_1070 q hq) (λ k_117=>by (exact d_53 q k_117 hb)) (λ k_117=>by omega))),(λ q hq hb=>by (exact ds_1070 q hq hb)),(λ q hq hb=>by (exact Or.elim (g_1071 q hq) (λ k_118=>by (exact d_55 q k_118 hb)) (λ k_118=>by omega))),(λ q hq hb=>by (exact Or.elim (g_1071 q hq) (λ k_119=>by (exact d_56 q k_119 hb)) (λ k_119=>by omega))),(λ q hq hb=>by (exact ds_1071 q hq hb)),(λ q hq hb=>by (exact dp_10710 q hq hb)),(λ q hq hb=>by (exact Or.elim (g_1072 q hq) (λ k_120=>by (exact d_59 q k_120 hb)) (λ k_120=>by omega))),(λ q hq hb=>by (exact Or.elim (g_1072 q hq) (λ k_121=>by (exact d_60 q k_121 hb)) (λ k_121=>by omega))),(λ q hq hb=>by (exact ds_1072 q hq hb)),(λ q hq hb=>by (exact dp_10720 q hq hb)),(λ q hq hb=>by (exact dp_10721 q hq hb))⟩ (by omega) (.cons rfl (.cons rfl (.cons rfl (.cons rfl (.cons rfl (.cons rfl (.cons rfl (.cons rfl (.cons rfl (.cons (loI rfl (by first | omega | rfl | (simp<;>omega))) .nil))))))))))
      ·have hmay:may W (l.getD j default)=false:=by unfold may;rw [if_neg h_86];rw [← h_106]
       refine sk<|nB<|nT<|rg<|vL (bad rfl rfl (inI (by omega)))<|vm rfl<|nl<| ?_
       have e2:splB W l (j+1)=splB W l j:=splB_no (by omega) hmay
       have e3:splG W l (j+1)=splG W l j:=splG_no (by omega) hmay
       have e4:splD W l (j+1)=splD W l j:=splD_no (by omega) hmay
       have B_5:=B_5.later x_77
       have B_5:=B_5.mod m_83 (nm1 (by omega))
       have BS:=BS.later x_77
       have BS:=BS.mod m_83 (nm1 (by omega))
       have OS0:=OS0.later x_77
       have OS0:=OS0.mod m_83 (fk1 u_71 (by omega))
       have OS1:=OS1.later x_77
       have OS1:=OS1.mod m_83 (fk1 u_72 (by omega))
       have OS2:=OS2.later x_77
       have OS2:=OS2.mod m_83 (fk1 u_73 (by omega))
       exact nI _ _ ⟨j+1,A0,c0,A1,c1,A2,c2,rfl,rfl,z_82,B_5,M1,(by rw [e2,e3,e4];exact BS),(by rw [e2];exact OS0),(by rw [e3];exact OS1),(by rw [e4];exact OS2),by omega,(λ q hq hb=>by (exact d_52 q hq hb)),(λ q hq hb=>by (exact d_53 q hq hb)),(λ q hq hb=>by (exact d_54 q hq hb)),(λ q hq hb=>by (exact d_55 q hq hb)),(λ q hq hb=>by (exact d_56 q hq hb)),(λ q hq hb=>by (exact d_57 q hq hb)),(λ q hq hb=>by (exact d_58 q hq hb)),(λ q hq hb=>by (exact d_59 q hq hb)),(λ q hq hb=>by (exact d_60 q hq hb)),(λ q hq hb=>by (exact d_61 q hq hb)),(λ q hq hb=>by (exact d_62 q hq hb)),(λ q hq hb=>by (exact d_63 q hq hb))⟩ (by omega) (.cons rfl (.cons rfl (.cons rfl (.cons rfl (.cons rfl (.cons rfl (.cons rfl (.cons rfl (.cons rfl (.cons (loI rfl (by first | omega | rfl | (simp<;>omega))) .nil))))))))))
    ·refine xt<|xT<|xK<|xB<|nT<|sq<| ?_
     refine rd [(1,0),(3,0),(5,0)] [0,1,2,3,4,5,6,7,8,9] (by kernel_rfl) (by kernel_rfl) ?_
     refine fw1 rfl (λ _=>fa eF146 rfl)<|fq1 rfl (λ _ x=>ld rfl ((BS.later x).one eF147 rfl))<|fw1 rfl (λ _=>fa eF149 rfl)<|fq1 rfl (λ _ x=>ld rfl ((BS.later x).one eF150 rfl))<|fw1 rfl (λ _=>fa eF152 rfl)<|fq1 rfl (λ _ x=>ld rfl ((BS.later x).one eF153 rfl))<|fw1 rfl (λ _=>as_ rfl)<|fw1 rfl (λ _=>as_ rfl)<|fw1 rfl (λ _=>as_ rfl)<|fw1 rfl (λ _=>as_ rfl)<|fn λ w_122 x_123=> ?_
     have:=x_123.size
     have z_122:=eT z_64 x_123
     refine nT<|rt<|tR (.tmp rfl (.tmp rfl (.tmp rfl (.tmp rfl .nil))))<| ?_
     have OS0:=OS0.later x_123
     have OS1:=OS1.later x_123
     have OS2:=OS2.later x_123
     have ej:j=l.length:=by omega
     subst ej
     exact ⟨A0,c0,A1,c1,A2,c2, .inr (.inr ⟨by simpa using h_11,by simpa using h_15,rfl,OS0,OS1,OS2⟩),z_122⟩
end
section
open Go.RowKit
def splE (W:Wd) (l:List Odr):Int:=if ordsE l≠0 then ordsE l else W.chk
theorem splE_zero {W:Wd} {l:List Odr} (h:splE W l=0):ordsE l=0∧W.chk=0:=by
 unfold splE at h;split at h
 ·rename_i h1;exact absurd h h1
 ·rename_i h1;exact ⟨by simpa using h1,h⟩
theorem splE_len {W:Wd} {l:List Odr} (h:splE W l=0):l.length≤100:=(ordsE_zero (splE_zero h).1).1
theorem split_bad (A:Option Addr) (c:Nat) (l:List Odr) (aw:Wd.At) (W:Wd) (w:World) (hl:Odr.rep.SHas 48 w A c l) (hW:Wd.Has w aw W) (h:splE W l≠0):Calls Tryz.prog 60 #[.slice A l.length c, .agg (Wd.cells aw W).toArray] w (λ e w'=>e= .returned (.tuple #[.slice none 0 0, .slice none 0 0, .slice none 0 0, .int .i64 (splE W l)])∧Ext w w'):=by
 refine (split_any A c l aw W w hl hW).mono λ e w' he=> ?_
 obtain ⟨A0,c0,A1,c1,A2,c2,(⟨h1,h2⟩ | ⟨h1,h2,h3⟩ | ⟨h1,h2,_⟩),hx⟩:=he
 ·exact ⟨by rw [h2];unfold splE;rw [if_pos h1],hx⟩
 ·exact ⟨by rw [h3];unfold splE;rw [if_neg (by simpa using h1)],hx⟩
 ·exact absurd (by unfold splE;rw [if_neg (by simpa using h1)];exact h2) h
theorem split_ok (A:Option Addr) (c:Nat) (l:List Odr) (aw:Wd.At) (W:Wd) (w:World) (hl:Odr.rep.SHas 48 w A c l) (hW:Wd.Has w aw W) (h:splE W l=0):Calls Tryz.prog 60 #[.slice A l.length c, .agg (Wd.cells aw W).toArray] w (λ e w'=>∃ A0 c0 A1 c1 A2 c2,e= .returned (.tuple #[.slice A0 (splB W l l.length).length c0, .slice A1 (splG W l l.length).length c1, .slice A2 (splD W l l.length).length c2, .int .i64 0])∧Blw.rep.SOwn 223 16 w' w.heap.size (Rep.blkOf A0) A0 c0 (splB W l l.length)∧Gox.rep.SOwn 225 24 w' w.heap.size (Rep.blkOf A1) A1 c1 (splG W l l.length)∧Ded.rep.SOwn 178 40 w' w.heap.size (Rep.blkOf A2) A2 c2 (splD W l l.length)∧Ext w w'):=by
 obtain ⟨a1,a2⟩:=splE_zero h
 refine (split_any A c l aw W w hl hW).mono λ e w' he=> ?_
 obtain ⟨A0,c0,A1,c1,A2,c2,(⟨h1,h2⟩ | ⟨h1,h2,h3⟩ | ⟨h1,h2,h3,h4,h5,h6⟩),hx⟩:=he
 ·exact absurd a1 h1
 ·exact absurd a2 h2
 ·exact ⟨A0,c0,A1,c1,A2,c2,h3,h4,h5,h6,hx⟩
end
section
open Go.RowKit
section
variable {F:List Nat} {P:Program} {ops:Array Oper} {Q:Exit→Act→World→Prop} {kd:Nat→Nat}
def QInW (F:List Nat) (P:Program) (ops:Array Oper) (w0:World) (o:Oper) (v:Value) (a:Act):Prop :=
  (Region.wanted o (yielded ops a.tmps)=true∧∀ w,Mod F w0 w→qUpon P w v ((execOp a.eval o).run P w))∨
  (Region.wanted o (yielded ops a.tmps)=false∧v=undef)
theorem QInW.of_same {w0:World} {o:Oper} {v:Value} {a a':Act} (h:QInW F P ops w0 o v a) (he:execOp a'.eval o=execOp a.eval o) (hw:Region.wanted o (yielded ops a'.tmps)=Region.wanted o (yielded ops a.tmps)):QInW F P ops w0 o v a':=by
  unfold QInW at *;rw [he,hw];exact h
theorem QInW.on {w0 w1:World} {o:Oper} {v:Value} {a:Act} (h:QInW F P ops w0 o v a) (hx:Mod F w0 w1):QInW F P ops w1 o v a :=
  h.imp (λ ⟨h1,h2⟩=>⟨h1,λ w hw=>h2 w (hx.trans hw)⟩) id
theorem Yields.qinW {w0:World} {o:Oper} {v:Value} {a:Act} (h:Yields P ops o v a):QInW F P ops w0 o v a :=
  h.imp (λ ⟨h1,h2⟩=>⟨h1,λ w _=>by rw [h2 w];exact ⟨rfl,rfl⟩⟩) id
def stepFW (F:List Nat) (P:Program) (ops:Array Oper) (Q:Exit→Act→World→Prop) (kd:Nat→Nat) (i:Nat) (K:Act→World→Prop) (a:Act) (w0:World):Prop :=
  ∃ o,ops[i]? =some o∧
    ((kd i≤1∧∃ v,QInW F P ops w0 o v a∧K (a.put o.dst v) w0)∨
     (1<kd i∧∀ w,Ext w0 w→wpOp P ops Q i (λ a' w'=>(kd i=2→Mod F w0 w')∧K a' w') a w))
def anyFW (F:List Nat) (P:Program) (ops:Array Oper) (Q:Exit→Act→World→Prop) (kd:Nat→Nat):Nat→Array Bool→Act→World→Prop
  | 0,l,a,w0=>Region.ready .any ops l= []∧∀ w,Ext w0 w→Q .normal a w
  | f+1,l,a,w0=>(Region.ready .any ops l= []→∀ w,Ext w0 w→Q .normal a w)∧∀ i∈Region.ready .any ops l,stepFW F P ops Q kd i (anyFW F P ops Q kd f (l.setIfInBounds i true)) a w0
theorem any_of_FW:∀ (f:Nat) (l:Array Bool) (a:Act) (w0:World),anyFW F P ops Q kd f l a w0→∀ w,Ext w0 w→wpAny P .any ops Q f l a w
  | 0,_,_,_,h,w,hw=>⟨h.1,h.2 w hw⟩
  | f+1,l,a,w0,h,w,hw=>⟨λ h0=>h.1 h0 w hw,λ i hi=>by
      obtain ⟨o,ho,h2⟩:=h.2 i hi
      rcases h2 with ⟨_,v,hq,hk⟩ | ⟨_,h2⟩
      · unfold wpOp
        simp only [ho]
        rcases hq with ⟨hw1,hq⟩ | ⟨hw1,rfl⟩
        · rw [if_pos hw1]
          refine .inl ?_
          have hq:=hq w (Mod.of_ext hw)
          unfold Oper.wp
          generalize (execOp a.eval o).run P w=r at *
          cases r with
          | ok n w' =>
            cases n<;>simp only [qUpon] at hq<;>simp only [Oper.upon]
            case value u=>obtain ⟨rfl,rfl⟩:=hq;exact any_of_FW f _ _ _ hk _ hw
            case skip=>obtain ⟨rfl,rfl⟩:=hq;exact any_of_FW f _ _ _ hk _ hw
            case enter f' args=>obtain ⟨rfl,hc⟩:=hq;exact hc.mono λ e w'' ⟨he,hx⟩=>by subst he;exact any_of_FW f _ _ _ hk _ (hw.tr hx)
          | halt x w'=>simp only [qUpon] at hq
        · rw [if_neg (by rw [hw1];decide)]
          exact any_of_FW f _ _ _ hk _ hw
      · exact wpOp_mono (λ a' w' h3=>any_of_FW f _ _ _ h3.2 _ (Ext.rf w')) (h2 w hw)⟩
theorem firstFW {i:Nat} {oi:Oper} {v:Value} (hi:ops[i]? =some oi) (hk:kd i≤1) (hsel:∀ (j:Nat) (o:Oper) cs b,ops[j]? =some o→o.op≠ .select cs b)
    (hQ:∀ c a w,¬ Q (.panic c) a w) (Z:World→Act→Prop) (z1:∀ w0 a,Z w0 a→QInW F P ops w0 oi v a)
    (z2:∀ w0 a a',Z w0 a→execOp a'.eval oi=execOp a.eval oi→Region.wanted oi (yielded ops a'.tmps)=Region.wanted oi (yielded ops a.tmps)→Z w0 a')
    (z3:∀ w0 w1 a,Mod F w0 w1→Z w0 a→Z w1 a) (R:Nat→Bool) (l0:Array Bool)
    (hR:∀ j oj,ops[j]? =some oj→j≠i→(∀ e∈oj.after,Region.binds .any e=true→R e.on=true)→R j=true)
    (hB:(∀ w0 w1 a,Z w0 a→Z w1 a)∨∀ j,R j=true→3≤kd j→l0.getD j true=true):
    ∀ (f:Nat) (l:Array Bool) (a:Act) (w0:World),(∀ j,l.getD j false=true→R j=true)→(∀ j,l0.getD j true=true→l.getD j true=true)→
      (∀ j oj,ops[j]? =some oj→j≠i→l.getD j true=false→(∀ e∈oj.after,Region.binds .any e=true→e.on≠i)→oi.apart ops oj=true)→
      i∈Region.ready .any ops l→Z w0 a→anyFW F P ops Q kd f (l.setIfInBounds i true) (a.put oi.dst v) w0→anyFW F P ops Q kd (f+1) l a w0:=by
  intro f
  induction f with
  | zero =>
    intro l a w0 _ _ _ hr hz H
    refine ⟨λ h=>(by rw [h] at hr;cases hr),λ j hj=> ?_⟩
    by_cases hji:j=i
    · subst hji;exact ⟨oi,hi, .inl ⟨hk,v,z1 _ _ hz,H⟩⟩
    · have:=ready_mono hj hji
      rw [H.1] at this
      cases this
  | succ f ih =>
    intro l a w0 hlR hl0 hfree hr hz H
    refine ⟨λ h=>(by rw [h] at hr;cases hr),λ j hj=> ?_⟩
    by_cases hji:j=i
    · subst hji;exact ⟨oi,hi, .inl ⟨hk,v,z1 _ _ hz,H⟩⟩
    · obtain ⟨oj,hoj,h1⟩:=H.2 j (ready_mono hj hji)
      obtain ⟨hjun,oj',hoj',hall⟩:=mem_ready.1 hj
      obtain rfl:oj'=oj:=by rw [hoj] at hoj';exact (Option.some.inj hoj').symm
      have hnot:∀ e∈oj'.after,Region.binds .any e=true→e.on≠i:=λ e he hb heq=>by
        have h1:=hall e he hb
        have h0:=(mem_ready.1 hr).1
        rw [heq] at h1
        rcases Nat.lt_or_ge i l.size with h' | h'
        · simp [h'] at h0 h1;rw [h0] at h1;cases h1
        · simp [Array.getElem?_eq_none h'] at h1
      have hap:=hfree j oj' hoj hji hjun hnot
      obtain ⟨a1,a2,a3⟩:=Oper.apart_spec hap
      have hsi:∀ cs b,oi.op≠ .select cs b:=λ cs b=>hsel i oi cs b hi
      have hsj:∀ cs b,oj'.op≠ .select cs b:=λ cs b=>hsel j oj' cs b hoj
      have keep:∀ w1 a u,Z w1 a→Z w1 (a.put oj'.dst u):=λ w1 a u hz=>z2 _ _ _ hz (execOp_put oi hsi a oj'.dst u a3) (wanted_put oi a oj'.dst u a3)
      have hRj:R j=true:=hR j oj' hoj hji λ e he hb=>hlR _ (hall e he hb)
      have hlR':∀ k,(l.setIfInBounds j true).getD k false=true→R k=true:=λ k hk=>by
        by_cases hjk:j=k
        · rw [← hjk];exact hRj
        · rw [getD_set_ne false hjk] at hk;exact hlR k hk
      have hl0':∀ k,l0.getD k true=true→(l.setIfInBounds j true).getD k true=true:=λ k hk=>by
        by_cases hjk:j=k
        · subst hjk
          rcases Nat.lt_or_ge j l.size with h' | h'
          · simp [h']
          · simp [Array.getElem?_eq_none h']
        · rw [getD_set_ne true hjk];exact hl0 k hk
      have hfree':∀ k ok,ops[k]? =some ok→k≠i→(l.setIfInBounds j true).getD k true=false→
          (∀ e∈ok.after,Region.binds .any e=true→e.on≠i)→oi.apart ops ok=true:=λ k ok hk hki hun hno=>by
        refine hfree k ok hk hki ?_ hno
        by_cases hjk:j=k
        · subst hjk;exact hjun
        · rw [getD_set_ne true hjk] at hun;exact hun
      have hri:=ready_mono hr (Ne.symm hji)
      rcases h1 with ⟨hkj,u,hq,hK⟩ | ⟨hkj,h1⟩
      · refine ⟨oj',hoj, .inl ⟨hkj,u,hq.of_same (execOp_put oj' hsj a oi.dst v a1).symm (wanted_put oj' a oi.dst v a1).symm, ?_⟩⟩
        refine ih _ _ _ hlR' hl0' hfree' hri (keep _ _ _ hz) ?_
        rw [Array.setIfInBounds_comm _ _ hji,← Act.put_comm a v u a2]
        exact hK
      · refine ⟨oj',hoj, .inr ⟨hkj,λ w hw=> ?_⟩⟩
        refine wpOp_mono (λ a' w' h3=>⟨h3.2.1, ?_⟩) (wpOp_putZ (Z:=Z w0) hoj a1 a2 hsj hQ (keep w0) (λ a d hz=>z2 _ _ _ hz rfl rfl) hz (h1 w hw))
        have hzw:Z w' a':=by
          rcases Nat.lt_or_ge (kd j) 3 with hlt | hge
          · exact z3 _ _ _ (h3.2.1 (by omega)) h3.1
          · rcases hB with hB | hB
            · exact hB _ _ _ h3.1
            · have:=hl0 j (hB j hRj hge);rw [hjun] at this;cases this
        refine ih _ _ _ hlR' hl0' hfree' hri hzw ?_
        rw [Array.setIfInBounds_comm _ _ hji]
        exact h3.2.2
def wpFlowW (F:List Nat) (P:Program) (ops:Array Oper) (Q:Exit→Act→World→Prop) (kd:Nat→Nat):List Nat→Act→World→Prop
  | [],a,w0=>∀ w,Ext w0 w→Q .normal a w
  | i::r,a,w0=>∃ o,ops[i]? =some o∧
      ((kd i=0∧∃ v,QInW F P ops w0 o v a∧wpFlowW F P ops Q kd r (a.put o.dst v) w0)∨
       (kd i=1∧∃ v,Yields P ops o v a∧wpFlowW F P ops Q kd r (a.put o.dst v) w0)∨
       (1<kd i∧∀ w,Ext w0 w→wpOp P ops Q i (λ a' w'=>(kd i=2→Mod F w0 w')∧wpFlowW F P ops Q kd r a' w') a w))
theorem any_of_flowW (hs:Region.noSelect ops=true) (hQ:∀ c a w,¬ Q (.panic c) a w):∀ (r:List Nat) (l:Array Bool) (a:Act) (w0:World),l.size=ops.size→flowB ops kd r l=true→wpFlowW F P ops Q kd r a w0→anyFW F P ops Q kd r.length l a w0
  | [],l,a,w0,_,hB,h=>⟨by simpa [flowB] using hB,h⟩
  | i::r,l,a,w0,hl,hB,h=>by
    obtain ⟨o,ho,h⟩:=h
    have hsel:=Region.noSelect_spec hs
    rcases h with ⟨hk,v,hq,hK⟩ | ⟨hk,v,hq,hK⟩ | ⟨hk,h⟩
    · simp only [flowB,hk,Bool.and_eq_true] at hB
      obtain ⟨⟨⟨hf,hr⟩,hb⟩,hB⟩:=hB
      obtain ⟨R,r1,r2,r3⟩:=barOk_spec hl hb
      exact firstFW ho (by omega) hsel hQ (λ w0 a=>QInW F P ops w0 o v a) (λ _ _ h=>h) (λ _ _ _ h he hw=>h.of_same he hw) (λ _ _ _ hx h=>h.on hx) R l r1 (.inr r3) _ _ _ _ r2 (λ _ h=>h) (Region.free_spec ho hf) (by simpa using hr) hq
        (any_of_flowW hs hQ r _ _ _ (by simpa using hl) hB hK)
    · simp only [flowB,hk,Bool.and_eq_true] at hB
      obtain ⟨⟨hf,hr⟩,hB⟩:=hB
      exact firstFW ho (by omega) hsel hQ (λ _ a=>Yields P ops o v a) (λ _ _ h=>Yields.qinW h) (λ _ _ _ h he hw=>h.of_same he hw) (λ _ _ _ _ h=>h) (λ _=>true) l (λ _ _ _ _ _=>rfl) (.inl λ _ _ _ h=>h) _ _ _ _ (λ _ _=>rfl) (λ _ h=>h) (Region.free_spec ho hf) (by simpa using hr) hq
        (any_of_flowW hs hQ r _ _ _ (by simpa using hl) hB hK)
    · obtain ⟨k,hk2⟩:∃ k,kd i=k+2:=⟨kd i - 2,by omega⟩
      simp only [flowB,hk2,Bool.and_eq_true,beq_iff_eq] at hB
      obtain ⟨hr,hB⟩:=hB
      refine ⟨λ h0=>(by rw [hr] at h0;cases h0),λ j hj=> ?_⟩
      rw [hr] at hj
      obtain rfl:j=i:=by simpa using hj
      exact ⟨o,ho, .inr ⟨hk,λ w hw=>wpOp_mono (λ a' w' h3=>⟨h3.1,any_of_flowW hs hQ r _ _ _ (by simpa using hl) hB h3.2⟩) (h w hw)⟩⟩
theorem region_flowW {id:Nat} {a:Act} {w:World} (τ:List Nat) (hm:P.follows .mixedOrders=true) (hB:(Region.noSelect ops && (τ.length == ops.size) && flowB ops kd τ (Array.replicate ops.size false))=true)
    (h:wpFlowW F P ops (nrm (Q .normal)) kd τ a w):(Code.region id ops true).wp P Q a w:=by
  simp only [Bool.and_eq_true,beq_iff_eq] at hB
  obtain ⟨⟨hs,hl⟩,hB⟩:=hB
  refine wp_mono (wp_region_any hm (Q:=nrm (Q .normal)) ?_) (λ e a w hq=>by cases e<;>first | exact hq | exact hq.elim)
  have:=any_of_flowW (P:=P) hs (Q:=nrm (Q .normal)) (λ _ _ _ h=>h) τ (Array.replicate ops.size false) a w (by simp) hB h
  rw [hl] at this
  exact any_of_FW _ _ _ _ this _ (Below.refl _ w).drew
end
section
variable {F:List Nat} {P:Program} {n:Nat} {E E':List (Nat×Value)} {a:Act} {w w' w0 w1:World} {Q:Exit→Act→World→Prop} {ops:Array Oper} {v:Value} {kd:Nat→Nat}
variable {d:Option Nat} {ty:TypeId} {pos:String} {af:Array Edge} {g:Option (Nat×Bool)} {x y z:Operand} {t:TypeId} {rest:List Oper} {τ:List Nat} {i:Nat}
def FLW (F:List Nat) (P:Program) (n:Nat) (ops:Array Oper) (Q:Exit→Act→World→Prop) (kd:Nat→Nat) (τ:List Nat) (E:List (Nat×Value)) (w0:World):Prop:=∀ a,Agr n E a→wpFlowW F P ops (nrm (Q .normal)) kd τ a w0
theorem rdW {id:Nat} (F:List Nat) (ks:List (Nat×Nat)) (τ:List Nat) (hm:P.follows .mixedOrders=true) (hB:(Region.noSelect ops && (τ.length == ops.size) && flowB ops (kds ks) τ (Array.replicate ops.size false))=true)
    (h:FLW F P n ops Q (kds ks) τ E w):W P n (.region id ops true) Q E w:=λ a ha=>region_flowW τ hm hB (h a ha)
theorem fnW (h:∀ w,Ext w0 w→N n Q E w):FLW F P n ops Q kd [] E w0:=λ a ha w hw=>h w hw a ha
theorem fqW {d:Nat} {op:Op} (hi:ops[i]? =some ⟨some d,op,ty,pos,af,none⟩) (hk:kd i=0) (hr:∀ w,Mod F w0 w→Runs P E ⟨some d,op,ty,pos,af,none⟩ w v w) (hd:Nat.blt d n=true)
    (h:FLW F P n ops Q kd τ ((d,v)::E) w0):FLW F P n ops Q kd (i::τ) E w0:=λ a ha =>
  ⟨_,hi, .inl ⟨hk,v, .inl ⟨wanted_none rfl,λ w hw=>by rw [hr w hw n a ha];exact ⟨rfl,rfl⟩⟩,h _ (ha.put hd v)⟩⟩
theorem fwW {d:Nat} {op:Op} (hi:ops[i]? =some ⟨some d,op,ty,pos,af,none⟩) (hk:kd i=1) (hr:∀ w,Runs P E ⟨some d,op,ty,pos,af,none⟩ w v w) (hd:Nat.blt d n=true)
    (h:FLW F P n ops Q kd τ ((d,v)::E) w0):FLW F P n ops Q kd (i::τ) E w0:=λ a ha =>
  ⟨_,hi, .inr (.inl ⟨hk,v, .inl ⟨wanted_none rfl,λ w=>hr w n a ha⟩,h _ (ha.put hd v)⟩)⟩
theorem fxW {o:Oper} (hg:o.guard=none) (hi:ops[i]? =some o) (hk:kd i=2) (h:∀ w,Ext w0 w→Stp P n ops o E w λ E' w'=>Mod F w0 w'∧FLW F P n ops Q kd τ E' w'):FLW F P n ops Q kd (i::τ) E w0:=λ a ha =>
  ⟨_,hi, .inr (.inr ⟨by omega,λ w hw=>stp_op hg hi (h w hw) (λ E' w' a' hk ha'=>⟨λ _=>hk.1,hk.2 a' ha'⟩) ha⟩)⟩
theorem fbW {o:Oper} (hg:o.guard=none) (hi:ops[i]? =some o) (hk:kd i=3) (h:∀ w,Ext w0 w→Stp P n ops o E w λ E' w'=>FLW F P n ops Q kd τ E' w'):FLW F P n ops Q kd (i::τ) E w0:=λ a ha =>
  ⟨_,hi, .inr (.inr ⟨by omega,λ w hw=>stp_op hg hi (h w hw) (λ E' w' a' hk ha'=>⟨λ h2=>by omega,hk a' ha'⟩) ha⟩)⟩
end
end
section
open Go.RowKit
def turnE (W:Wd) (l:List Odr):Int:=if splE W l≠0 then splE W l else if 1000000≤W.now then 6 else 0
def turn1 (W:Wd) (l:List Odr):Wd:=struckW W (splB W l l.length)
noncomputable def turn2 (W:Wd) (l:List Odr):Wd:=marchW (turn1 W l) (splG W l l.length)
noncomputable def turn3 (W:Wd) (l:List Odr):Wd:=(turn2 W l).doW (splD W l l.length)
noncomputable def turnW (W:Wd) (l:List Odr):Wd:=if turnE W l≠0 then Wd.zero else {turn3 W l with now:=(turn3 W l).now+1}
def turnG (W:Wd) (l:List Odr):List Int:=if turnE W l≠0 then [] else struckG W (splB W l l.length)
noncomputable def turnM (W:Wd) (l:List Odr):List Int:=if turnE W l≠0 then [] else marchM (turn1 W l) (splG W l l.length)
noncomputable def turnD (W:Wd) (l:List Odr):List Bool:=if turnE W l≠0 then [] else (turn2 W l).doB (splD W l l.length)
theorem turn_no {W:Wd} {l:List Odr} (h:turnE W l≠0):turnW W l=Wd.zero∧turnG W l= []∧turnM W l= []∧turnD W l= []:=by
 unfold turnW turnG turnM turnD;simp only [if_pos h,and_self]
theorem turn_yes {W:Wd} {l:List Odr} (h:turnE W l=0):turnW W l= {turn3 W l with now:=(turn3 W l).now+1}∧turnG W l=struckG W (splB W l l.length)∧turnM W l=marchM (turn1 W l) (splG W l l.length)∧turnD W l=(turn2 W l).doB (splD W l l.length):=by
 have h':¬ turnE W l≠0:=by simpa using h
 unfold turnW turnG turnM turnD;simp only [if_neg h',and_self]
theorem turnE_zero {W:Wd} {l:List Odr} (h:turnE W l=0):splE W l=0∧W.now<1000000∧W.chk=0∧l.length≤100:=by
 unfold turnE at h
 split at h
 ·contradiction
 ·rename_i h1
  have h1:splE W l=0:=by simpa using h1
  split at h
  ·exact nomatch h
  ·exact ⟨h1,by omega,(splE_zero h1).2,splE_len h1⟩
theorem doE_ok {W:Wd} {l:List Ded} (h:W.chk=0) (hl:l.length≤200):W.doE l=0∧W.doW l=(W.deeds l).1:=by
 have e:W.doE l=0:=by unfold Wd.doE;rw [if_neg (by omega),if_neg (by omega)]
 exact ⟨e,by unfold Wd.doW;rw [if_pos e]⟩
theorem blowE_mk {W:Wd} {l:List Blw} (h:W.chk=0) (hl:l.length≤200):blowE W l=0:=by unfold blowE;rw [if_neg (by omega),if_neg (by omega)]
theorem turn_dat {W:Wd} {l:List Odr} (h:turnE W l=0):blowE W (splB W l l.length)=0∧marchE (turn1 W l) (splG W l l.length)=0∧(turn2 W l).doE (splD W l l.length)=0∧Good (turn1 W l)∧Good (turn2 W l)∧Good (turn3 W l):=by
 obtain ⟨h1,h2,h3,h4⟩:=turnE_zero h
 obtain ⟨b1,b2,b3⟩:=spl_len W l l.length
 have e1:=blowE_mk (l:=splB W l l.length) h3 (by omega)
 have g1:Good (turn1 W l):=(struck_of e1).right
 have e2:=(march_ok (W:=turn1 W l) (l:=splG W l l.length) g1.chk (by omega)).1
 have g2:Good (turn2 W l):=(march_right e2).1
 obtain ⟨e3,e4⟩:=doE_ok (W:=turn2 W l) (l:=splD W l l.length) g2.chk (by omega)
 refine ⟨e1,e2,e3,g1,g2, ?_⟩
 unfold turn3;rw [e4];exact g2.deeds _
def TurnPost (W:Wd) (l:List Odr) (w:World) (e:Ending) (w':World):Prop :=
 ∃ a' A0 c0 A1 c1 A2 c2,e= .returned (.tuple #[.agg (Wd.cells a' (turnW W l)).toArray, .agg #[.slice A0 (turnG W l).length c0, .slice A1 (turnM W l).length c1, .slice A2 (turnD W l).length c2], .int .i64 (turnE W l)])∧WOwn w' w.heap.size a' (turnW W l)∧
  repI.SOwn 3 8 w' w.heap.size (Rep.blkOf A0) A0 c0 (turnG W l)∧repI.SOwn 3 8 w' w.heap.size (Rep.blkOf A1) A1 c1 (turnM W l)∧repB.SOwn 4 1 w' w.heap.size (Rep.blkOf A2) A2 c2 (turnD W l)∧
  (∀ q,(q∈Rep.blkOf A0∨q∈Rep.blkOf A1∨q∈Rep.blkOf A2)→q∉WOwn.foot a')∧Ext w w'
theorem turn_A (a:Wd.At) (W:Wd) (A:Option Addr) (c:Nat) (l:List Odr) (w:World) (hW:Wd.Has w a W) (hl:Odr.rep.SHas 48 w A c l) (h1:splE W l≠0):
  Calls Tryz.prog 25 #[.agg ((Wd.cells a W).toArray), .slice A l.length c] w (TurnPost W l w):=by
 have k1:(splE W l == 0)=false:=by simpa using h1
 have k2:(splE W l != 0)=true:=by simpa using h1
 refine calls_W (n:=62) Tryz.func25 rfl rfl rfl ?_
 refine sg<|bx rfl rfl rfl rfl λ w_1 b_2 x_3 l_4 B_5=> ?_
 have:=x_3.size
 have z_1:=eT (Ext.rf w) x_3
 have q_7:=B_5.lt
 refine al rfl eF80 rfl rfl λ w_8 b_9 x_10 l_11 B_12=> ?_
 have:=x_10.size
 have z_8:=eT z_1 x_10
 have q_14:=B_12.lt
 refine al rfl eF158 rfl rfl λ w_15 b_16 x_17 l_18 B_19=> ?_
 have:=x_17.size
 have z_15:=eT z_8 x_17
 have q_21:=B_19.lt
 refine va rfl<|nK<|sg<|vm rfl<| ?_
 have B_5:=B_5.later (eT x_10 x_17)
 refine vL (ld rfl (B_5.all eF61 eF62))<|ca eF159 rfl rfl ((split_bad _ _ l a W _ (hl.keep z_15) (hW.keep z_15) h1).mono ?_)
 rintro e w_22 ⟨rfl,x_23⟩
 refine ⟨_,rfl, ?_⟩
 have:=x_23.size
 have z_22:=eT z_15 x_23
 refine vm rfl<|vL (ex rfl rfl)<|vL (ex rfl rfl)<|vL (ex rfl rfl)<|vL (ex rfl rfl)<|va rfl<|va rfl<|va rfl<|va rfl<|nK<|sq<|sg<|vm rfl<|vL (beq rfl rfl)<|vm (evb rfl k1)<|vQ (v:=undef) rfl rfl rfl rfl (λ hc=>nomatch hc) rfl<|vQ (v:=undef) rfl rfl rfl rfl (λ hc=>nomatch hc) rfl<|vQ (v:=undef) rfl rfl rfl rfl (λ hc=>nomatch hc) rfl<|vL (pkF rfl rfl)<|nK<|cF rfl<| ?_
 refine sK<|sq<|sg<|vm rfl<|vL (bne rfl rfl)<|nK<|cT (evb rfl k2)<|sg<|vL (v:= .agg #[.int .i64 0, .int .i64 0, .slice none 0 0, .slice none 0 0, .slice none 0 0, .slice none 0 0, .slice none 0 0, .int .i64 0, .int .i64 0]) (bd rfl (by kernel_rfl))<|vL (v:= .agg #[.slice none 0 0, .slice none 0 0, .slice none 0 0]) (bd rfl (by kernel_rfl))<|vm rfl<| ?_
 have B_12:=B_12.later (eT x_17 x_23)
 refine st (new:= [.int .i64 0, .int .i64 0, .slice none 0 0, .slice none 0 0, .slice none 0 0, .slice none 0 0, .slice none 0 0, .int .i64 0, .int .i64 0]) rfl rfl B_12 rfl eF62 rfl rfl rfl λ w_25 m_26 B_12=> ?_
 have:=m_26.size
 have z_25:=Ext.mod z_22 m_26 (ge1 (by omega))
 have:=m_26.size
 have B_19:=B_19.later x_23
 have B_19:=B_19.mod m_26 (nm1 (by omega))
 refine st (new:= [.slice none 0 0, .slice none 0 0, .slice none 0 0]) rfl rfl B_19 rfl eF160 rfl rfl rfl λ w_29 m_30 B_19=> ?_
 have:=m_30.size
 have z_29:=Ext.mod z_25 m_30 (ge1 (by omega))
 have:=m_30.size
 refine va rfl<|nK<|rt<|tT<| ?_
 have B_12:=B_12.mod m_30 (nm1 (by omega))
 refine tR (.cell rfl (B_12.all eF61 eF62) (.cell rfl (B_19.all eF161 eF160) (.tmp rfl .nil)))<| ?_
 have e0:turnE W l=splE W l:=by unfold turnE;rw [if_pos h1]
 obtain ⟨z1,z2,z3,z4⟩:=turn_no (W:=W) (l:=l) (by rw [e0];first | exact h1 | decide)
 exact ⟨⟨none,none,none,none,none,0,0,0,0,0⟩,none,0,none,0,none,0,by rw [e0,z1,z2,z3,z4];rfl,by rw [z1];exact WOwn.zero _ _,by rw [z2];exact Rep.SOwn.nil _,by rw [z3];exact Rep.SOwn.nil _,by rw [z4];exact Rep.SOwn.nil _,λ q hq=>by simp [Rep.blkOf] at hq,z_29⟩
theorem turn_B (a:Wd.At) (W:Wd) (A:Option Addr) (c:Nat) (l:List Odr) (w:World) (hW:Wd.Has w a W) (hl:Odr.rep.SHas 48 w A c l) (h1:splE W l=0) (h2:1000000≤W.now):
  Calls Tryz.prog 25 #[.agg ((Wd.cells a W).toArray), .slice A l.length c] w (TurnPost W l w):=by
 refine calls_W (n:=62) Tryz.func25 rfl rfl rfl ?_
 refine sg<|bx rfl rfl rfl rfl λ w_1 b_2 x_3 l_4 B_5=> ?_
 have:=x_3.size
 have z_1:=eT (Ext.rf w) x_3
 have q_7:=B_5.lt
 refine al rfl eF80 rfl rfl λ w_8 b_9 x_10 l_11 B_12=> ?_
 have:=x_10.size
 have z_8:=eT z_1 x_10
 have q_14:=B_12.lt
 refine al rfl eF158 rfl rfl λ w_15 b_16 x_17 l_18 B_19=> ?_
 have:=x_17.size
 have z_15:=eT z_8 x_17
 have q_21:=B_19.lt
 refine va rfl<|nK<|sg<|vm rfl<| ?_
 have B_5:=B_5.later (eT x_10 x_17)
 refine vL (ld rfl (B_5.all eF61 eF62))<|ca eF159 rfl rfl ((split_ok _ _ l a W _ (hl.keep z_15) (hW.keep z_15) h1).mono ?_)
 rintro e w_29 ⟨A_220,c_220,A_221,c_221,A_222,c_222,rfl,OS_220,OS_221,OS_222,x_30⟩
 refine ⟨_,rfl, ?_⟩
 have:=x_30.size
 have z_29:=eT z_15 x_30
 have u_23:=λ q hq=>(OS_220.lt q hq).2
 have lo_24:=λ q hq=>(OS_220.lt q hq).1
 have u_25:=λ q hq=>(OS_221.lt q hq).2
 have lo_26:=λ q hq=>(OS_221.lt q hq).1
 have u_27:=λ q hq=>(OS_222.lt q hq).2
 have lo_28:=λ q hq=>(OS_222.lt q hq).1
 refine vm rfl<|vL (ex rfl rfl)<|vL (ex rfl rfl)<|vL (ex rfl rfl)<|vL (ex rfl rfl)<|va rfl<|va rfl<|va rfl<|va rfl<|nK<|sq<|sg<|vm rfl<|vL (beq rfl rfl)<|vm rfl<|ug rfl rfl rfl<|vL (fa eF134 rfl)<|ug rfl rfl rfl<| ?_
 have B_5:=B_5.later x_30
 refine vL (ld rfl (B_5.one eF1 rfl))<|ug rfl rfl rfl<|vL (bge rfl rfl)<|vL (pkT rfl rfl)<|nK<| ?_
 have h_32:(decide (1000000≤W.now))=true:=by exact decide_eq_true h2
 refine cT (by rw [← h_32];rfl)<|rg<|va rfl<|nK<|sq<|sg<|vm rfl<|vL (bne rfl rfl)<|nK<|cT rfl<|sg<|vL (v:= .agg #[.int .i64 0, .int .i64 0, .slice none 0 0, .slice none 0 0, .slice none 0 0, .slice none 0 0, .slice none 0 0, .int .i64 0, .int .i64 0]) (bd rfl (by kernel_rfl))<|vL (v:= .agg #[.slice none 0 0, .slice none 0 0, .slice none 0 0]) (bd rfl (by kernel_rfl))<|vm rfl<| ?_
 have B_12:=B_12.later (eT x_17 x_30)
 refine st (new:= [.int .i64 0, .int .i64 0, .slice none 0 0, .slice none 0 0, .slice none 0 0, .slice none 0 0, .slice none 0 0, .int .i64 0, .int .i64 0]) rfl rfl B_12 rfl eF62 rfl rfl rfl λ w_33 m_34 B_12=> ?_
 have:=m_34.size
 have z_33:=Ext.mod z_29 m_34 (ge1 (by omega))
 have:=m_34.size
 have B_19:=B_19.later x_30
 have B_19:=B_19.mod m_34 (nm1 (by omega))
 refine st (new:= [.slice none 0 0, .slice none 0 0, .slice none 0 0]) rfl rfl B_19 rfl eF160 rfl rfl rfl λ w_37 m_38 B_19=> ?_
 have:=m_38.size
 have z_37:=Ext.mod z_33 m_38 (ge1 (by omega))
 have:=m_38.size
 refine va rfl<|nK<|rt<|tT<| ?_
 have B_12:=B_12.mod m_38 (nm1 (by omega))
 refine tR (.cell rfl (B_12.all eF61 eF62) (.cell rfl (B_19.all eF161 eF160) (.tmp rfl .nil)))<| ?_
 have e0:turnE W l=6:=by unfold turnE;rw [if_neg (by simpa using h1),if_pos h2]
 obtain ⟨z1,z2,z3,z4⟩:=turn_no (W:=W) (l:=l) (by rw [e0];first | exact h1 | decide)
 exact ⟨⟨none,none,none,none,none,0,0,0,0,0⟩,none,0,none,0,none,0,by rw [e0,z1,z2,z3,z4];rfl,by rw [z1];exact WOwn.zero _ _,by rw [z2];exact Rep.SOwn.nil _,by rw [z3];exact Rep.SOwn.nil _,by rw [z4];exact Rep.SOwn.nil _,λ q hq=>by simp [Rep.blkOf] at hq,z_37⟩
theorem turn_C (a:Wd.At) (W:Wd) (A:Option Addr) (c:Nat) (l:List Odr) (w:World) (hW:Wd.Has w a W) (hl:Odr.rep.SHas 48 w A c l) (h0:turnE W l=0):
  Calls Tryz.prog 25 #[.agg ((Wd.cells a W).toArray), .slice A l.length c] w (TurnPost W l w):=by
 obtain ⟨h1,h2,h3,h4⟩:=turnE_zero h0
 obtain ⟨e1,e2,e3,g1,g2,g3⟩:=turn_dat h0
 have hnow:0≤(turn3 W l).now∧(turn3 W l).now≤1000000:=g3.now
 refine calls_W (n:=62) Tryz.func25 rfl rfl rfl ?_
 refine sg<|bx rfl rfl rfl rfl λ w_1 b_2 x_3 l_4 B_5=> ?_
 have:=x_3.size
 have z_1:=eT (Ext.rf w) x_3
 have q_7:=B_5.lt
 refine al rfl eF80 rfl rfl λ w_8 b_9 x_10 l_11 B_12=> ?_
 have:=x_10.size
 have z_8:=eT z_1 x_10
 have q_14:=B_12.lt
 refine al rfl eF158 rfl rfl λ w_15 b_16 x_17 l_18 B_19=> ?_
 have:=x_17.size
 have z_15:=eT z_8 x_17
 have q_21:=B_19.lt
 refine va rfl<|nK<|sg<|vm rfl<| ?_
 have B_5:=B_5.later (eT x_10 x_17)
 refine vL (ld rfl (B_5.all eF61 eF62))<|ca eF159 rfl rfl ((split_ok _ _ l a W _ (hl.keep z_15) (hW.keep z_15) h1).mono ?_)
 rintro e w_29 ⟨A_220,c_220,A_221,c_221,A_222,c_222,rfl,OS_220,OS_221,OS_222,x_30⟩
 refine ⟨_,rfl, ?_⟩
 have:=x_30.size
 have z_29:=eT z_15 x_30
 have u_23:=λ q hq=>(OS_220.lt q hq).2
 have lo_24:=λ q hq=>(OS_220.lt q hq).1
 have u_25:=λ q hq=>(OS_221.lt q hq).2
 have lo_26:=λ q hq=>(OS_221.lt q hq).1
 have u_27:=λ q hq=>(OS_222.lt q hq).2
 have lo_28:=λ q hq=>(OS_222.lt q hq).1
 refine vm rfl<|vL (ex rfl rfl)<|vL (ex rfl rfl)<|vL (ex rfl rfl)<|vL (ex rfl rfl)<|va rfl<|va rfl<|va rfl<|va rfl<|nK<|sq<|sg<|vm rfl<|vL (beq rfl rfl)<|vm rfl<|ug rfl rfl rfl<|vL (fa eF134 rfl)<|ug rfl rfl rfl<| ?_
 have B_5:=B_5.later x_30
 refine vL (ld rfl (B_5.one eF1 rfl))<|ug rfl rfl rfl<|vL (bge rfl rfl)<|vL (pkT rfl rfl)<|nK<| ?_
 have h_32:(decide (1000000≤W.now))=false:=by exact decide_eq_false (by omega)
 refine cF (by rw [← h_32];rfl)<|sK<|sq<|sg<|vm rfl<|vL (bne rfl rfl)<|nK<|cF rfl<|sK<|sg<|al rfl eF158 rfl rfl λ w_33 b_34 x_35 l_36 B_37=> ?_
 have:=x_35.size
 have z_33:=eT z_29 x_35
 have q_39:=B_37.lt
 refine nK<|sg<| ?_
 have B_5:=B_5.later x_35
 refine vL (ld rfl (B_5.all eF61 eF62))<|vm rfl<| ?_
 have OS_220:=OS_220.later x_35
 refine ca eF162 rfl rfl ((struck_any (splB W l (l).length) _ _ a W _ (hW.keep z_33) OS_220.has).mono ?_)
 rintro e w_45 ⟨a40,A40,c40,rfl,HO40,OG40,hd40,x_46⟩
 refine ⟨_,rfl, ?_⟩
 have:=x_46.size
 have z_45:=eT z_33 x_46
 have u_41:=λ q hq=>(HO40.lt q hq).2
 have lo_42:=λ q hq=>(HO40.lt q hq).1
 have u_43:=λ q hq=>(OG40.lt q hq).2
 have lo_44:=λ q hq=>(OG40.lt q hq).1
 have dd40:∀ q∈Rep.blkOf A40,q∈WOwn.foot a40→False:=hd40
 have dw40:∀ q∈WOwn.foot a40,q∈Rep.blkOf A40→False:=λ q h1 h2=>hd40 q h2 h1
 refine vm rfl<|vL (ex rfl rfl)<|vL (ex rfl rfl)<|vL (ex rfl rfl)<| ?_
 have B_5:=B_5.later x_46
 refine st rfl rfl B_5 rfl eF62 rfl rfl rfl λ w_48 m_49 B_5=> ?_
 have:=m_49.size
 have z_48:=Ext.mod z_45 m_49 (ge1 (by omega))
 have:=m_49.size
 refine vL (fa eF163 rfl)<| ?_
 have B_37:=B_37.later x_46
 have B_37:=B_37.mod m_49 (nm1 (by omega))
 refine st (new:= [.slice A40 ((struckG W (splB W l (l).length)).length) c40, .slice none 0 0, .slice none 0 0]) rfl rfl B_37 rfl eF82 rfl rfl rfl λ w_52 m_53 B_37=> ?_
 have:=m_53.size
 have z_52:=Ext.mod z_48 m_53 (ge1 (by omega))
 have:=m_53.size
 refine nK<|sg<| ?_
 have B_5:=B_5.mod m_53 (nm1 (by omega))
 refine vL (ld rfl (B_5.all eF61 eF62))<|vm rfl<| ?_
 have OS_221:=OS_221.later (eT x_35 x_46)
 have OS_221:=OS_221.mod m_49 (fk2 lo_26 (by omega))
 have OS_221:=OS_221.mod m_53 (fk1 u_25 (by omega))
 have HO40:=HO40.mod m_49 (fk2 lo_42 (by omega))
 have HO40:=HO40.mod m_53 (fk2 lo_42 (by omega))
 refine ca eF164 rfl rfl ((mstep_any a40 (struckW W (splB W l (l).length)) _ _ (splG W l (l).length) _ HO40.has OS_221.has).mono ?_)
 rintro e w_61 ⟨a56,A56,c56,rfl,HO56,OM56,hd56,x_62⟩
 refine ⟨_,rfl, ?_⟩
 have:=x_62.size
 have z_61:=eT z_52 x_62
 have u_57:=λ q hq=>(HO56.lt q hq).2
 have lo_58:=λ q hq=>(HO56.lt q hq).1
 have u_59:=λ q hq=>(OM56.lt q hq).2
 have lo_60:=λ q hq=>(OM56.lt q hq).1
 have dd56:∀ q∈Rep.blkOf A56,q∈WOwn.foot a56→False:=hd56
 have dw56:∀ q∈WOwn.foot a56,q∈Rep.blkOf A56→False:=λ q h1 h2=>hd56 q h2 h1
 refine vm rfl<|vL (ex rfl rfl)<|vL (ex rfl rfl)<|vL (ex rfl rfl)<| ?_
 have B_5:=B_5.later x_62
 refine st rfl rfl B_5 rfl eF62 rfl rfl rfl λ w_64 m_65 B_5=> ?_
 have:=m_65.size
 have z_64:=Ext.mod z_61 m_65 (ge1 (by omega))
 have:=m_65.size
 refine vL (fa eF165 rfl)<| ?_
 have B_37:=B_37.later x_62
 have B_37:=B_37.mod m_65 (nm1 (by omega))
 refine st (new:= [.slice A40 ((struckG W (splB W l (l).length)).length) c40, .slice A56 ((marchM (struckW W (splB W l (l).length)) (splG W l (l).length)).length) c56, .slice none 0 0]) rfl rfl B_37 rfl eF82 rfl rfl rfl λ w_68 m_69 B_37=> ?_
 have:=m_69.size
 have z_68:=Ext.mod z_64 m_69 (ge1 (by omega))
 have:=m_69.size
 refine nK<|sg<| ?_
 have B_5:=B_5.mod m_69 (nm1 (by omega))
 refine vL (ld rfl (B_5.all eF61 eF62))<|vm rfl<| ?_
 have OS_222:=OS_222.later (eT x_35 x_46)
 have OS_222:=OS_222.mod m_49 (fk2 lo_28 (by omega))
 have OS_222:=OS_222.mod m_53 (fk1 u_27 (by omega))
 have OS_222:=OS_222.later x_62
 have OS_222:=OS_222.mod m_65 (fk2 lo_28 (by omega))
 have OS_222:=OS_222.mod m_69 (fk1 u_27 (by omega))
 have HO56:=HO56.mod m_65 (fk2 lo_58 (by omega))
 have HO56:=HO56.mod m_69 (fk2 lo_58 (by omega))
 refine ca eF166 rfl rfl ((do_any (splD W l (l).length) _ _ _ a56 (marchW (struckW W (splB W l (l).length)) (splG W l (l).length)) HO56.has OS_222.has).mono ?_)
 rintro e w_77 ⟨a_72,A_72,c_72,rfl,HO_72,OD_72,hd_72,x_78⟩
 refine ⟨_,rfl, ?_⟩
 have:=x_78.size
 have z_77:=eT z_68 x_78
 have u_73:=λ q hq=>(HO_72.lt q hq).2
 have lo_74:=λ q hq=>(HO_72.lt q hq).1
 have u_75:=λ q hq=>(OD_72.lt q hq).2
 have lo_76:=λ q hq=>(OD_72.lt q hq).1
 have dd_72:∀ q∈Rep.blkOf A_72,q∈WOwn.foot a_72→False:=hd_72
 have dw_72:∀ q∈WOwn.foot a_72,q∈Rep.blkOf A_72→False:=λ q h1 h2=>hd_72 q h2 h1
 refine vm rfl<|vL (ex rfl rfl)<|vL (ex rfl rfl)<|vL (ex rfl rfl)<| ?_
 have B_5:=B_5.later x_78
 refine st rfl rfl B_5 rfl eF62 rfl rfl rfl λ w_80 m_81 B_5=> ?_
 have:=m_81.size
 have z_80:=Ext.mod z_77 m_81 (ge1 (by omega))
 have:=m_81.size
 refine vL (fa eF167 rfl)<| ?_
 have B_37:=B_37.later x_78
 have B_37:=B_37.mod m_81 (nm1 (by omega))
 refine st (new:= [.slice A40 ((struckG W (splB W l (l).length)).length) c40, .slice A56 ((marchM (struckW W (splB W l (l).length)) (splG W l (l).length)).length) c56, .slice A_72 (((marchW (struckW W (splB W l (l).length)) (splG W l (l).length)).doB (splD W l (l).length)).length) c_72]) rfl rfl B_37 rfl eF168 rfl rfl rfl λ w_84 m_85 B_37=> ?_
 have:=m_85.size
 have z_84:=Ext.mod z_80 m_85 (ge1 (by omega))
 have:=m_85.size
 refine nK<|sg<|vL (fa eF134 rfl)<| ?_
 have B_5:=B_5.mod m_85 (nm1 (by omega))
 refine vL (ld rfl (B_5.one eF1 rfl))<|vL (bad rfl rfl (inI ((by have hq:_∧_:=hnow;unfold turn3 turn2 turn1 at hq;omega))))<|vL (fa eF134 rfl)<|st (new:= [.int .i64 (((marchW (struckW W (splB W l (l).length)) (splG W l (l).length)).doW (splD W l (l).length)).field.wide), .int .i64 (((marchW (struckW W (splB W l (l).length)) (splG W l (l).length)).doW (splD W l (l).length)).field.high), .slice a_72.P (((marchW (struckW W (splB W l (l).length)) (splG W l (l).length)).doW (splD W l (l).length)).field.places.length) a_72.p, .slice a_72.B (((marchW (struckW W (splB W l (l).length)) (splG W l (l).length)).doW (splD W l (l).length)).bases.length) a_72.b, .slice a_72.S (((marchW (struckW W (splB W l (l).length)) (splG W l (l).length)).doW (splD W l (l).length)).stocks.length) a_72.s, .slice a_72.M (((marchW (struckW W (splB W l (l).length)) (splG W l (l).length)).doW (splD W l (l).length)).mines.length) a_72.m, .slice a_72.T (((marchW (struckW W (splB W l (l).length)) (splG W l (l).length)).doW (splD W l (l).length)).troops.length) a_72.t, .int .i64 (((marchW (struckW W (splB W l (l).length)) (splG W l (l).length)).doW (splD W l (l).length)).next), .int .i64 ((((marchW (struckW W (splB W l (l).length)) (splG W l (l).length)).doW (splD W l (l).length)).now)+1)]) rfl rfl B_5 rfl eF7 rfl rfl rfl λ w_88 m_89 B_5=> ?_
 have:=m_89.size
 have z_88:=Ext.mod z_84 m_89 (ge1 (by omega))
 have:=m_89.size
 refine nK<|sq<| ?_
 refine rdW [b_9] [(0,0),(1,0),(2,2),(3,3)] [0,1,2,3,4] (by kernel_rfl) (by kernel_rfl) ?_
 refine fqW rfl rfl (λ _ x=>ld rfl ((B_5.mod x (nm1 (by omega))).all eF61 eF62)) rfl<| ?_
 have B_37:=B_37.mod m_89 (nm1 (by omega))
 refine fqW rfl rfl (λ _ x=>ld rfl ((B_37.mod x (nm1 (by omega))).all eF161 eF160)) rfl<| ?_
 have B_12:=B_12.later (eT x_17 (eT x_30 (eT x_35 x_46)))
 have B_12:=B_12.mod m_49 (nm1 (by omega))
 have B_12:=B_12.mod m_53 (nm1 (by omega))
 have B_12:=B_12.later x_62
 have B_12:=B_12.mod m_65 (nm1 (by omega))
 have B_12:=B_12.mod m_69 (nm1 (by omega))
 have B_12:=B_12.later x_78
 have B_12:=B_12.mod m_81 (nm1 (by omega))
 have B_12:=B_12.mod m_85 (nm1 (by omega))
 have B_12:=B_12.mod m_89 (nm1 (by omega))
 refine fxW rfl rfl rfl λ w_92 x_93 Q hK=>st (new:= [.int .i64 (((marchW (struckW W (splB W l (l).length)) (splG W l (l).length)).doW (splD W l (l).length)).field.wide), .int .i64 (((marchW (struckW W (splB W l (l).length)) (splG W l (l).length)).doW (splD W l (l).length)).field.high), .slice a_72.P (((marchW (struckW W (splB W l (l).length)) (splG W l (l).length)).doW (splD W l (l).length)).field.places.length) a_72.p, .slice a_72.B (((marchW (struckW W (splB W l (l).length)) (splG W l (l).length)).doW (splD W l (l).length)).bases.length) a_72.b, .slice a_72.S (((marchW (struckW W (splB W l (l).length)) (splG W l (l).length)).doW (splD W l (l).length)).stocks.length) a_72.s, .slice a_72.M (((marchW (struckW W (splB W l (l).length)) (splG W l (l).length)).doW (splD W l (l).length)).mines.length) a_72.m, .slice a_72.T (((marchW (struckW W (splB W l (l).length)) (splG W l (l).length)).doW (splD W l (l).length)).troops.length) a_72.t, .int .i64 (((marchW (struckW W (splB W l (l).length)) (splG W l (l).length)).doW (splD W l (l).length)).next), .int .i64 ((((marchW (struckW W (splB W l (l).length)) (splG W l (l).length)).doW (splD W l (l).length)).now)+1)]) rfl rfl (B_12.later x_93) rfl eF62 rfl rfl rfl λ w_94 m_95 B_12=>hK _ _ ⟨(Mod.of_ext x_93).trans m_95, ?_⟩
 have:=x_93.size
 have z_92:=eT z_88 x_93
 have:=m_95.size
 have z_94:=Ext.mod z_92 m_95 (ge1 (by omega))
 have:=m_95.size
 have B_19:=B_19.later (eT x_30 (eT x_35 x_46))
 have B_19:=B_19.mod m_49 (nm1 (by omega))
 have B_19:=B_19.mod m_53 (nm1 (by omega))
 have B_19:=B_19.later x_62
 have B_19:=B_19.mod m_65 (nm1 (by omega))
 have B_19:=B_19.mod m_69 (nm1 (by omega))
 have B_19:=B_19.later x_78
 have B_19:=B_19.mod m_81 (nm1 (by omega))
 have B_19:=B_19.mod m_85 (nm1 (by omega))
 have B_19:=B_19.mod m_89 (nm1 (by omega))
 have B_19:=B_19.later x_93
 have B_19:=B_19.mod m_95 (nm1 (by omega))
 refine fbW rfl rfl rfl λ w_99 x_100 Q hK=>st (new:= [.slice A40 ((struckG W (splB W l (l).length)).length) c40, .slice A56 ((marchM (struckW W (splB W l (l).length)) (splG W l (l).length)).length) c56, .slice A_72 (((marchW (struckW W (splB W l (l).length)) (splG W l (l).length)).doB (splD W l (l).length)).length) c_72]) rfl rfl (B_19.later x_100) rfl eF160 rfl rfl rfl λ w_101 m_102 B_19=>hK _ _ ?_
 have:=x_100.size
 have z_99:=eT z_94 x_100
 have:=m_102.size
 have z_101:=Ext.mod z_99 m_102 (ge1 (by omega))
 have:=m_102.size
 refine fwW rfl rfl (λ _=>as_ rfl) rfl<|fnW λ w_106 x_107=> ?_
 have:=x_107.size
 have z_106:=eT z_101 x_107
 refine nT<|rt<| ?_
 have B_12:=B_12.later x_100
 have B_12:=B_12.mod m_102 (nm1 (by omega))
 have B_12:=B_12.later x_107
 have B_19:=B_19.later x_107
 refine tR (.cell rfl (B_12.all eF61 eF62) (.cell rfl (B_19.all eF161 eF160) (.tmp rfl .nil)))<| ?_
 have HO_72:=HO_72.mod m_81 (fk2 lo_74 (by omega))
 have HO_72:=HO_72.mod m_85 (fk2 lo_74 (by omega))
 have HO_72:=HO_72.mod m_89 (fk2 lo_74 (by omega))
 have HO_72:=HO_72.later x_93
 have HO_72:=HO_72.mod m_95 (fk2 lo_74 (by omega))
 have HO_72:=HO_72.later x_100
 have HO_72:=HO_72.mod m_102 (fk2 lo_74 (by omega))
 have HO_72:=HO_72.later x_107
 have OG40:=OG40.mod m_49 (fk2 lo_44 (by omega))
 have OG40:=OG40.mod m_53 (fk2 lo_44 (by omega))
 have OG40:=OG40.later x_62
 have OG40:=OG40.mod m_65 (fk2 lo_44 (by omega))
 have OG40:=OG40.mod m_69 (fk2 lo_44 (by omega))
 have OG40:=OG40.later x_78
 have OG40:=OG40.mod m_81 (fk2 lo_44 (by omega))
 have OG40:=OG40.mod m_85 (fk2 lo_44 (by omega))
 have OG40:=OG40.mod m_89 (fk2 lo_44 (by omega))
 have OG40:=OG40.later x_93
 have OG40:=OG40.mod m_95 (fk2 lo_44 (by omega))
 have OG40:=OG40.later x_100
 have OG40:=OG40.mod m_102 (fk2 lo_44 (by omega))
 have OG40:=OG40.later x_107
 have OM56:=OM56.mod m_65 (fk2 lo_60 (by omega))
 have OM56:=OM56.mod m_69 (fk2 lo_60 (by omega))
 have OM56:=OM56.later x_78
 have OM56:=OM56.mod m_81 (fk2 lo_60 (by omega))
 have OM56:=OM56.mod m_85 (fk2 lo_60 (by omega))
 have OM56:=OM56.mod m_89 (fk2 lo_60 (by omega))
 have OM56:=OM56.later x_93
 have OM56:=OM56.mod m_95 (fk2 lo_60 (by omega))
 have OM56:=OM56.later x_100
 have OM56:=OM56.mod m_102 (fk2 lo_60 (by omega))
 have OM56:=OM56.later x_107
 have OD_72:=OD_72.mod m_81 (fk2 lo_76 (by omega))
 have OD_72:=OD_72.mod m_85 (fk2 lo_76 (by omega))
 have OD_72:=OD_72.mod m_89 (fk2 lo_76 (by omega))
 have OD_72:=OD_72.later x_93
 have OD_72:=OD_72.mod m_95 (fk2 lo_76 (by omega))
 have OD_72:=OD_72.later x_100
 have OD_72:=OD_72.mod m_102 (fk2 lo_76 (by omega))
 have OD_72:=OD_72.later x_107
 obtain ⟨z1,z2,z3,z4⟩:=turn_yes h0
 have hR:WOwn w_106 w.heap.size a_72 (turnW W l):=by rw [z1];exact (HO_72.down (by omega)).setN rfl rfl rfl rfl rfl ⟨HO_72.nums.1,HO_72.nums.2.1,HO_72.nums.2.2.1,okI_iff.2 (by show _≤(turn3 W l).now+1∧(turn3 W l).now+1≤_;omega)⟩
 exact ⟨a_72,A40,c40,A56,c56,A_72,c_72,by rw [h0,z1,z2,z3,z4];rfl,hR,by rw [z2];exact OG40.down (by omega),by rw [z3];exact OM56.down (by omega),by rw [z4];exact OD_72.down (by omega),λ q hq hf=>hq.elim (λ hq=>by exfalso;(have:=lo_74 q hf;(have:=u_43 q hq;omega))) (λ hq=>hq.elim (λ hq=>by exfalso;(have:=lo_74 q hf;(have:=u_59 q hq;omega))) (λ hq=>by exfalso;(exact dd_72 q hq hf))),z_106⟩
theorem turn_any (a:Wd.At) (W:Wd) (A:Option Addr) (c:Nat) (l:List Odr) (w:World) (hW:Wd.Has w a W) (hl:Odr.rep.SHas 48 w A c l):Calls Tryz.prog 25 #[.agg (Wd.cells a W).toArray, .slice A l.length c] w (TurnPost W l w):=by
 by_cases h1:splE W l=0
 ·by_cases h2:1000000≤W.now
  ·exact turn_B a W A c l w hW hl h1 h2
  ·exact turn_C a W A c l w hW hl (by unfold turnE;rw [if_neg (by simpa using h1),if_neg h2])
 ·exact turn_A a W A c l w hW hl h1
end
section
open Go.RowKit
structure Kept (W V:Wd):Prop where
 field:V.field=W.field
 bases:V.bases=W.bases
 now:V.now=W.now
 next:V.next=W.next+((V.troops.length:Int) - W.troops.length)
 len:W.troops.length≤V.troops.length
 old:∀ (i:Nat) (t:Trp),W.troops[i]? =some t→∃ u:Trp,V.troops[i]? =some u∧ {u with load:=t.load}=t
 new:∀ (i:Nat) (u:Trp),W.troops.length≤i→V.troops[i]? =some u→W.next≤u.id
theorem Kept.rf (W:Wd):Kept W W:=⟨rfl,rfl,rfl,by omega,Nat.le_refl _,λ i t h=>⟨t,h,rfl⟩,λ i u h hu=>by
 rw [List.getElem?_eq_none (by omega)] at hu;cases hu⟩
theorem Kept.tr {U V W:Wd} (h:Kept U V) (k:Kept V W):Kept U W where
 field:=k.field.trans h.field
 bases:=k.bases.trans h.bases
 now:=k.now.trans h.now
 next:=by rw [k.next,h.next];omega
 len:=Nat.le_trans h.len k.len
 old i t ht:=by
  obtain ⟨u,hu,e⟩:=h.old i t ht
  obtain ⟨x,hx,e2⟩:=k.old i u hu
  refine ⟨x,hx, ?_⟩
  rw [← e,← e2]
 new i u hi hu:=by
  by_cases h1:i<V.troops.length
  ·obtain ⟨t,ht⟩:=get_of h1
   obtain ⟨x,hx,e⟩:=k.old i t ht
   rw [hu] at hx
   obtain rfl:=Option.some.inj hx
   have:=h.new i t hi ht
   have e3:t.id=u.id:=by rw [← e]
   omega
  ·have h2:=k.new i u (by omega) hu
   have:=h.next
   have:=h.len
   omega
theorem kept_load {W V:Wd} {k:Nat} {t:Trp} {n:Int} (ht:W.troops[k]? =some t) (hf:V.field=W.field) (hb:V.bases=W.bases) (hn:V.now=W.now) (hx:V.next=W.next) (hV:V.troops=W.troops.set k (Wd.addLoad t n)):Kept W V where
 field:=hf
 bases:=hb
 now:=hn
 next:=by rw [hV,List.length_set,hx];omega
 len:=by rw [hV,List.length_set];exact Nat.le_refl _
 old i x hi:=by
  rw [hV]
  by_cases hk:k=i
  ·subst hk
   rw [ht] at hi
   obtain rfl:=Option.some.inj hi
   exact ⟨_,List.getElem?_set_self (List.getElem?_eq_some_iff.1 ht).1,rfl⟩
  ·exact ⟨x,by rw [List.getElem?_set_ne hk];exact hi,rfl⟩
 new i u hi hu:=by
  rw [hV,List.getElem?_eq_none (by rw [List.length_set];exact hi)] at hu;cases hu
theorem kept_deed {W V:Wd} {d:Ded} (h:Good W) (hd:W.deed d=some V):Kept W V:=by
 unfold Wd.deed at hd
 split at hd
 ·obtain ⟨k,t,_,ht,_,hk,hl,_,hin,hm0,rfl⟩:=mine_some hd
  exact kept_load ht rfl rfl rfl rfl rfl
 ·split at hd
  ·obtain ⟨k,t,n,_,ht,_,hl,_,hn,hn0,rfl⟩:=drop_some hd
   exact kept_load ht rfl rfl rfl rfl rfl
  ·split at hd
   ·obtain ⟨c,hfr,hw0,hw1,hk,hp,hnt,hnx,rfl⟩:=hire_some hd
    refine ⟨rfl,rfl,rfl,by simp;omega,by simp,λ i t ht=>⟨t, ?_,rfl⟩,λ i u hi hu=> ?_⟩
    ·simp only
     rw [List.getElem?_append_left (List.getElem?_eq_some_iff.1 ht).1];exact ht
    ·simp only at hu
     rw [List.getElem?_append_right hi] at hu
     have h0:i - W.troops.length=0:=by
      have:=(List.getElem?_eq_some_iff.1 hu).1
      simp at this;omega
     rw [h0] at hu
     have e:u=⟨W.next,d.who,d.what,c,Wd.lifeOf d.what,0⟩:=by simpa using hu.symm
     rw [e];exact Int.le_refl _
   ·cases hd
theorem kept_deeds {W:Wd} (h:Good W):∀ l:List Ded,Kept W (W.deeds l).1:=by
 intro l
 induction l generalizing W with
 | nil=>exact Kept.rf W
 | cons d l ih =>
  simp only [Wd.deeds]
  cases hd:W.deed d with
  | none=>exact ih h
  | some V=>exact (kept_deed h hd).tr (ih (h.deed hd))
theorem Kept.getD {W V:Wd} (h:Kept W V) {i:Nat} (hi:i<W.troops.length): {V.troops.getD i default with load:=(W.troops.getD i default).load}=W.troops.getD i default:=by
 obtain ⟨t,ht⟩:=get_of hi
 obtain ⟨u,hu,e⟩:=h.old i t ht
 rw [List.getD_eq_getElem?_getD,List.getD_eq_getElem?_getD,ht,hu]
 exact e
theorem do_of {W:Wd} {l:List Ded} (h:W.doE l=0):Good W∧l.length≤200∧W.doW l=(W.deeds l).1∧W.doB l=(W.deeds l).2:=by
 have hc:W.chk=0:=by
  cases hd:decide (W.chk=0) with
  | true=>simpa using hd
  | false=>have:=(do_bad (W:=W) (l:=l) (by simpa using hd)).2.2;rw [h] at this;exact this.symm
 have hl:l.length≤200:=by
  cases hd:decide (l.length≤200) with
  | true=>simpa using hd
  | false=>have:=(do_large (W:=W) (l:=l) hc (by simpa using hd)).2.2;rw [h] at this;cases this
 exact ⟨Good.of_chk hc,hl,do_ok1 hc hl,do_ok2 hc hl⟩
def picked:List Ded→List Bool→List Ded
 | d::l,b::bs=>if b then d::picked l bs else picked l bs
 | _,_=> []
end
end Go.Proofs.YtlikikpgmmkjbaaGreat
