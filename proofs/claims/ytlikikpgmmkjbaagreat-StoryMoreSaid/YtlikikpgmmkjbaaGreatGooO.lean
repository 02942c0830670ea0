import Derived.Test.YtlikikpgmmkjbaaGreatGra
import Derived.Test.YtlikikpgmmkjbaaGreatGooD
import Derived.Test.YtlikikpgmmkjbaaGreatGol
import Derived.Test.YtlikikpgmmkjbaaGreatBlw
import Derived.Test.YtlikikpgmmkjbaaGreatGolR
import Derived.Deep.RegionLaw
import Derived.Deep.Cut
import Derived.Deep.DeepCutAuto
set_option linter.unusedVariables false
set_option linter.unusedSimpArgs false
set_option maxRecDepth 100000
set_option maxHeartbeats 4000000
namespace Go.Proofs.YtlikikpgmmkjbaaGreat
section
open Go.RowKit
theorem drop_none {W:Wd} {d:Ded} (hf:W.troops.findIdx? (isId d.who)=none):W.drop d=none:=by unfold Wd.drop;rw [hf]
theorem drop_no {W:Wd} {d:Ded} {k:Nat} {t:Trp} {b:Cel} {s:Int} (hf:W.troops.findIdx? (isId d.who)=some k) (ht:W.troops[k]? =some t) (hb:W.bases[t.owner.toNat]? =some b) (hs:W.stocks[t.owner.toNat]? =some s) (h:(t.load == 0 || !beside b t.spot)=true):W.drop d=none:=by
 rw [drop_eq hf ht hb hs,if_neg]
 intro hc
 simp only [Bool.and_eq_true,bne_iff_ne] at hc
 simp only [hc.1.2,Bool.or_eq_true,beq_iff_eq,Bool.not_true,Bool.false_eq_true,or_false] at h
 exact hc.1.1 h
theorem drop_val2 {W:Wd} {d:Ded} {k:Nat} {t:Trp} {b:Cel} {s:Int} (hf:W.troops.findIdx? (isId d.who)=some k) (ht:W.troops[k]? =some t) (hb:W.bases[t.owner.toNat]? =some b) (hs:W.stocks[t.owner.toNat]? =some s) (hl:¬ t.load=0) (hbe:beside b t.spot=true) (hG:Good W):
  (W.drop d).isSome=decide (0<min t.load (1000000 - s))∧(W.drop d).getD W= {W with stocks:=W.stocks.set t.owner.toNat (s+min t.load (1000000 - s)),troops:=W.troops.set k (Wd.addLoad t (-(min t.load (1000000 - s))))}:=by
 have h1:=(hG.troops k t ht).load.1
 have h2:=hG.stocks _ _ hs
 rw [drop_eq hf ht hb hs]
 by_cases hn:0<min t.load (1000000 - s)
 ·rw [if_pos (by simp [hl,hbe,hn])]
  exact ⟨by simp [hn],rfl⟩
 ·rw [if_neg (by simp [hn])]
  have h0:min t.load (1000000 - s)=0:=by omega
  refine ⟨by simp [hn], ?_⟩
  rw [h0]
  have e1:W.stocks.set t.owner.toNat (s+0)=W.stocks:=by rw [Int.add_zero];exact set_same hs
  have e2:W.troops.set k (Wd.addLoad t (-0))=W.troops:=by
   have:Wd.addLoad t (-0)=t:=by unfold Wd.addLoad;simp
   rw [this];exact set_same ht
  rw [e1,e2];rfl
theorem drop2_none (d:Ded) (w:World) (Z S:Nat) (a:Wd.At) (W:Wd) (h:Shop w Z S a W) (hG:Good W) (hf:W.troops.findIdx? (isId d.who)=none):
  Calls Tryz.prog 139 #[.pointer (some ⟨S,0,none⟩), .agg #[.int .i64 d.kind, .int .i64 d.who, .int .i64 d.spot.x, .int .i64 d.spot.y, .int .i64 d.what]] w (ShopPost W (W.drop d) w Z S a):=by
 have hsl:=hG.sl
 have hml:=hG.ml
 have hlow:=h.low
 have hZ:Z≤w.heap.size:=by have:=h.low;have:=h.blk.lt;omega
 have hfar:=h.far
 have q0:=h.blk.lt
 have BS:=h.blk
 have HO:=h.own
 have dS:∀ q∈WOwn.foot a,q=S→False:=λ q hq hb=>hfar (hb ▸ hq)
 have u_1:=λ q hq=>(HO.lt q hq).2
 have htr:=trOf_none (a:=a) hf
 refine calls_W (n:=80) Tryz.func139 rfl rfl rfl ?_
 refine sg<|bx rfl rfl rfl rfl λ w_2 b_3 x_4 l_5 B_6=> ?_
 have:=x_4.size
 have z_2:=(Mod.rf (S::WOwn.foot a) w).trans (Mod.of_ext x_4)
 have q_8:=B_6.lt
 refine va rfl<|nK<|sg<|vm rfl<|vL (fa eF106 rfl)<|vL (ld rfl (B_6.one eF1 rfl))<| ?_
 have BS:=BS.later x_4
 have HO:=HO.later x_4
 refine ca eF107 rfl rfl (((htr ▸ shopTroop d.who _ Z S a W ⟨BS,HO,hfar,hlow⟩)).mono ?_)
 rintro e w_9 ⟨rfl,x_10⟩
 refine ⟨_,rfl, ?_⟩
 have:=x_10.size
 have z_9:=z_2.trans (Mod.of_ext x_10)
 refine va rfl<|nK<|sq<|sq<| ?_
 refine rd [(6,0),(14,0),(18,0),(20,0),(24,0),(25,0)] [0,1,2,3,4,5,6,7,8,9,10,11,12,13,14,15,16,17,18,19,20,21,22,23,24,25,26,27] (by kernel_rfl) (by kernel_rfl) ?_
 refine fw1 rfl (λ _=>mv rfl)<|fw1 rfl (λ _=>bpN Tryz.underlying227 rfl rfl)<|fw1 rfl (λ _=>mv rfl)<|fW (v:=undef) rfl rfl rfl rfl rfl rfl (λ hc=>nomatch hc) rfl<|fW (v:=undef) rfl rfl rfl rfl rfl rfl (λ hc=>nomatch hc) rfl<|fW (v:=undef) rfl rfl rfl rfl rfl rfl (λ hc=>nomatch hc) rfl<|fQ (v:=undef) rfl rfl rfl rfl rfl rfl (λ hc=>nomatch hc) rfl<|fW (v:=undef) rfl rfl rfl rfl rfl rfl (λ hc=>nomatch hc) rfl<|fw1 rfl (λ _=>pkT rfl rfl)<|fw1 rfl (λ _=>mv rfl)<|fW (v:=undef) rfl rfl rfl rfl rfl rfl (λ hc=>nomatch hc) rfl<|fW (v:=undef) rfl rfl rfl rfl rfl rfl (λ hc=>nomatch hc) rfl<|fW (v:=undef) rfl rfl rfl rfl rfl rfl (λ hc=>nomatch hc) rfl<|fW (v:=undef) rfl rfl rfl rfl rfl rfl (λ hc=>nomatch hc) rfl<|fQ (v:=undef) rfl rfl rfl rfl rfl rfl (λ hc=>nomatch hc) rfl<|fW (v:=undef) rfl rfl rfl rfl rfl rfl (λ hc=>nomatch hc) rfl<|fW (v:=undef) rfl rfl rfl rfl rfl rfl (λ hc=>nomatch hc) rfl<|fW (v:=undef) rfl rfl rfl rfl rfl rfl (λ hc=>nomatch hc) rfl<|fQ (v:=undef) rfl rfl rfl rfl rfl rfl (λ hc=>nomatch hc) rfl<|fW (v:=undef) rfl rfl rfl rfl rfl rfl (λ hc=>nomatch hc) rfl<|fQ (v:=undef) rfl rfl rfl rfl rfl rfl (λ hc=>nomatch hc) rfl<|fW (v:=undef) rfl rfl rfl rfl rfl rfl (λ hc=>nomatch hc) rfl<|fW (v:=undef) rfl rfl rfl rfl rfl rfl (λ hc=>nomatch hc) rfl<|fW (v:=undef) rfl rfl rfl rfl rfl rfl (λ hc=>nomatch hc) rfl<| ?_
 refine fQ (v:=undef) rfl rfl rfl rfl rfl rfl (λ hc=>nomatch hc) rfl<|fC (v:=undef) (args:= []) rfl rfl rfl rfl rfl rfl eF108 (λ hc=>nomatch hc) (λ hc=>nomatch hc) rfl<|fW (v:=undef) rfl rfl rfl rfl rfl rfl (λ hc=>nomatch hc) rfl<|fw1 rfl (λ _=>pkT rfl rfl)<|fn λ w_12 x_13=> ?_
 have:=x_13.size
 have z_12:=z_9.trans (Mod.of_ext x_13)
 refine nT<|cT rfl<|sg<|va rfl<|nK<|rt<|tT<|tR (.tmp rfl .nil)<| ?_
 have HO:=HO.later (eT x_10 x_13)
 have BS:=BS.later (eT x_10 x_13)
 exact ⟨a,by rw [drop_none hf];rfl,by rw [drop_none hf];exact ⟨BS,HO,hfar,hlow⟩,λ q hq=> .inl hq,z_12⟩
theorem drop2 (d:Ded) (w:World) (Z S:Nat) (a:Wd.At) (W:Wd) (h:Shop w Z S a W) (hG:Good W) (k:Nat) (t:Trp) (hf:W.troops.findIdx? (isId d.who)=some k) (ht:W.troops[k]? =some t):
  Calls Tryz.prog 139 #[.pointer (some ⟨S,0,none⟩), .agg #[.int .i64 d.kind, .int .i64 d.who, .int .i64 d.spot.x, .int .i64 d.spot.y, .int .i64 d.what]] w (ShopPost W (W.drop d) w Z S a):=by
 have hsl:=hG.sl
 have hml:=hG.ml
 have hlow:=h.low
 have hZ:Z≤w.heap.size:=by have:=h.low;have:=h.blk.lt;omega
 have hfar:=h.far
 have q0:=h.blk.lt
 have BS:=h.blk
 have HO:=h.own
 have dS:∀ q∈WOwn.foot a,q=S→False:=λ q hq hb=>hfar (hb ▸ hq)
 have u_1:=λ q hq=>(HO.lt q hq).2
 have htr:=trOf_some HO hf
 have hT:=hG.troops k t ht
 have how:=hT.owner
 obtain ⟨b,hb⟩:=get_of (l:=W.bases) (i:=t.owner.toNat) (by omega)
 obtain ⟨sv,hs⟩:=get_of (l:=W.stocks) (i:=t.owner.toNat) (by omega)
 have hsr:=hG.stocks _ _ hs
 have hbg:=hG.bases _ _ hb
 obtain ⟨i1,i2,i3,i4,i5,i6⟩:=Fld.idx hG.field (Fld.ground_in hbg.1)
 obtain ⟨y1,y2,y3,y4,_,_⟩:=Fld.good hG.field
 have hb1:0≤b.x:=by omega
 have hb2:b.x≤40:=by omega
 have hb3:0≤b.y:=by omega
 have hb4:b.y≤40:=by omega
 have hld:=hT.load
 have hmo:Wd.mostOf t.kind≤5:=by unfold Wd.mostOf;split<;>omega
 refine calls_W (n:=80) Tryz.func139 rfl rfl rfl ?_
 refine sg<|bx rfl rfl rfl rfl λ w_2 b_3 x_4 l_5 B_6=> ?_
 have:=x_4.size
 have z_2:=(Mod.rf (S::WOwn.foot a) w).trans (Mod.of_ext x_4)
 have q_8:=B_6.lt
 refine va rfl<|nK<|sg<|vm rfl<|vL (fa eF106 rfl)<|vL (ld rfl (B_6.one eF1 rfl))<| ?_
 have BS:=BS.later x_4
 have HO:=HO.later x_4
 refine ca eF107 rfl rfl (((htr ▸ shopTroop d.who _ Z S a W ⟨BS,HO,hfar,hlow⟩)).mono ?_)
 rintro e w_9 ⟨rfl,x_10⟩
 refine ⟨_,rfl, ?_⟩
 have:=x_10.size
 have z_9:=z_2.trans (Mod.of_ext x_10)
 refine va rfl<|nK<|sq<|sq<| ?_
 refine rd [(6,0),(14,0),(18,0),(20,0),(24,0),(25,0)] [0,1,2,3,4,5,6,7,8,9,10,11,12,13,14,15,16,17,18,19,20,21,22,23,24,25,26,27] (by kernel_rfl) (by kernel_rfl) ?_
 refine fw1 rfl (λ _=>mv rfl)<|fw1 rfl (λ _=>bpN Tryz.underlying227 rfl rfl)<|fw1 rfl (λ _=>mv rfl)<|fW rfl rfl rfl rfl rfl rfl (λ hc _=>mv rfl) rfl<|fW rfl rfl rfl rfl rfl rfl (λ hc _=>nc rfl) rfl<|fW rfl rfl rfl rfl rfl rfl (λ hc _=>fa eF109 rfl) rfl<| ?_
 have HO:=HO.later x_10
 refine fQ rfl rfl rfl rfl rfl rfl (λ hc _ x=>ld rfl (Rep.SHas.fld hcT (by rw [← (HO.later x).T.has.adr (zl k (by have:=(List.getElem?_eq_some_iff.1 ht).1;simpa using this))];exact (HO.later x).T.has) 6 ht rfl eF1)) rfl<|fW rfl rfl rfl rfl rfl rfl (λ hc _=>beq rfl rfl) rfl<|fw1 rfl (λ _=>pkF rfl rfl)<|fw1 rfl (λ _=>mv rfl)<|fW rfl rfl rfl rfl rfl rfl (λ hc _=>mv rfl) rfl<|fW rfl rfl rfl rfl rfl rfl (λ hc _=>nc (gt hc rfl)) rfl<|fW rfl rfl rfl rfl rfl rfl (λ hc _=>fa eF111 (gt hc rfl)) rfl<|fW rfl rfl rfl rfl rfl rfl (λ hc _=>fa eF83 (gt hc rfl)) rfl<| ?_
 have BS:=BS.later x_10
 refine fQ rfl rfl rfl rfl rfl rfl (λ hc _ x=>ld (gt hc rfl) ((BS.later x).one eF84 rfl)) rfl<|fW rfl rfl rfl rfl rfl rfl (λ hc _=>mv rfl) rfl<|fW rfl rfl rfl rfl rfl rfl (λ hc _=>nc (gt hc rfl)) rfl<|fW rfl rfl rfl rfl rfl rfl (λ hc _=>fa eF57 (gt hc rfl)) rfl<|fQ rfl rfl rfl rfl rfl rfl (λ hc _ x=>ld (gt hc rfl) (Rep.SHas.fld hcT (by rw [← (HO.later x).T.has.adr (zl k (by have:=(List.getElem?_eq_some_iff.1 ht).1;simpa using this))];exact (HO.later x).T.has) 1 ht rfl eF1)) rfl<|fW rfl rfl rfl rfl rfl rfl (λ hc _=>iA t.owner.toNat Tryz.underlying25 eF4 (gt hc rfl) (gt hc rfl) (HO.B.has.adr (zl t.owner.toNat (show t.owner.toNat<W.bases.length by omega))) (by (try simp only [bS] at hc);omega) (show t.owner.toNat<W.bases.length by omega)) rfl<|fQ rfl rfl rfl rfl rfl rfl (λ hc _ x=>ld (gt hc rfl) (Rep.SHas.elt hcC (by rw [← (HO.later x).B.has.adr (zl t.owner.toNat (show t.owner.toNat<W.bases.length by omega))];exact (HO.later x).B.has) hb eF3 eF4)) rfl<|fW rfl rfl rfl rfl rfl rfl (λ hc _=>mv rfl) rfl<|fW rfl rfl rfl rfl rfl rfl (λ hc _=>nc (gt hc rfl)) rfl<|fW rfl rfl rfl rfl rfl rfl (λ hc _=>fa eF56 (gt hc rfl)) rfl<|fQ rfl rfl rfl rfl rfl rfl (λ hc _ x=>ld (gt hc rfl) (Rep.SHas.part hcT (by rw [← (HO.later x).T.has.adr (zl k (by have:=(List.getElem?_eq_some_iff.1 ht).1;simpa using this))];exact (HO.later x).T.has) 3 (ds:= [.int .i64 t.spot.x, .int .i64 t.spot.y]) ht rfl eF3 eF4)) rfl<|fC rfl rfl rfl rfl rfl rfl eF108 (λ hc=>ec (gt hc rfl) (ec (gt hc rfl) rfl)) (λ hc _ x=>beside_any b t.spot _ hb1 hb2 hb3 hb4) rfl<|fW rfl rfl rfl rfl rfl rfl (λ hc _=>nt (gt hc rfl)) rfl<|fw1 rfl (λ _=>pO rfl rfl rfl rfl)<|fn λ w_12 x_13=> ?_
 have:=x_13.size
 have z_12:=z_9.trans (Mod.of_ext x_13)
 refine nT<| ?_
 refine cb rfl (λ h_15=> ?_) (λ h_15=> ?_)
 ·refine sg<|va rfl<|nK<|rt<|tT<|tR (.tmp rfl .nil)<| ?_
  have HO:=HO.later x_13
  have BS:=BS.later x_13
  exact ⟨a,by rw [drop_no hf ht hb hs h_15];rfl,by rw [drop_no hf ht hb hs h_15];exact ⟨BS,HO,hfar,hlow⟩,λ q hq=> .inl hq,z_12⟩
 ·simp only [Bool.or_eq_false_iff,beq_eq_false_iff_ne,Bool.not_eq_false',ne_eq] at h_15
  obtain ⟨hl,hbe⟩:=h_15
  have ht2:(W.troops.set k (Wd.addLoad t (-(min t.load (1000000 - sv)))))[k]? =some (Wd.addLoad t (-(min t.load (1000000 - sv)))):=List.getElem?_set_self (List.getElem?_eq_some_iff.1 ht).1
  refine sK<|sq<| ?_
  refine rd [(3,0),(8,0),(12,0),(14,0)] [0,1,2,3,4,5,6,7,8,9,10,11,12,13,14,15,16,17] (by kernel_rfl) (by kernel_rfl) ?_
  refine fw1 rfl (λ _=>mv rfl)<|fw1 rfl (λ _=>nc rfl)<|fw1 rfl (λ _=>fa eF109 rfl)<| ?_
  have HO:=HO.later x_13
  refine fq1 rfl (λ _ x=>ld rfl (Rep.SHas.fld hcT (by rw [← (HO.later x).T.has.adr (zl k (by have:=(List.getElem?_eq_some_iff.1 ht).1;simpa using this))];exact (HO.later x).T.has) 6 ht rfl eF1))<|fw1 rfl (λ _=>mv rfl)<|fw1 rfl (λ _=>nc rfl)<|fw1 rfl (λ _=>fa eF111 rfl)<|fw1 rfl (λ _=>fa eF85 rfl)<| ?_
  have BS:=BS.later x_13
  refine fq1 rfl (λ _ x=>ld rfl ((BS.later x).one eF36 rfl))<|fw1 rfl (λ _=>mv rfl)<|fw1 rfl (λ _=>nc rfl)<|fw1 rfl (λ _=>fa eF57 rfl)<|fq1 rfl (λ _ x=>ld rfl (Rep.SHas.fld hcT (by rw [← (HO.later x).T.has.adr (zl k (by have:=(List.getElem?_eq_some_iff.1 ht).1;simpa using this))];exact (HO.later x).T.has) 1 ht rfl eF1))<|fw1 rfl (λ _=>iA t.owner.toNat Tryz.underlying22 eF7 rfl rfl (HO.S.has.adr (zl t.owner.toNat (show t.owner.toNat<W.stocks.length by omega))) (by omega) (show t.owner.toNat<W.stocks.length by omega))<|fq1 rfl (λ _ x=>ld rfl (Rep.SHas.one' hcI (by rw [← (HO.later x).S.has.adr (zl t.owner.toNat (show t.owner.toNat<W.stocks.length by omega))];exact (HO.later x).S.has) hs rfl eF1))<|fw1 rfl (λ _=>bsu rfl rfl (inI (by omega)))<|fw1 rfl (λ _=>mn rfl rfl)<|fw1 rfl (λ _=>as_ rfl)<|fn λ w_16 x_17=> ?_
  have:=x_17.size
  have z_16:=z_12.trans (Mod.of_ext x_17)
  refine nT<|sg<|vm rfl<|vL (nc rfl)<|vL (fa eF109 rfl)<| ?_
  have HO:=HO.later x_17
  refine vL (ld rfl (Rep.SHas.fld hcT (by rw [← HO.T.has.adr (zl k (by have:=(List.getElem?_eq_some_iff.1 ht).1;simpa using this))];exact HO.T.has) 6 ht rfl eF1))<|vm rfl<|vL (bsu rfl rfl (inI (by omega)))<|vL (nc rfl)<|vL (fa eF109 rfl)<|so (q':=Wd.addLoad t (-(min t.load (1000000 - sv)))) (j:=6) (i:=k) HO.T Rep.flat_bare ht rfl rfl rfl rfl (λ _ cs h=>by have ok_:=(show _∧_ from h).2;obtain rfl:=hcT h;exact ⟨rfl,by obtain ⟨o1,o2,o3,o4,o5,o6,o7⟩:=ok_;exact ⟨o1,o2,o3,o4,o5,o6,okI_iff.2 (by show _≤t.load+ -(min t.load (1000000 - sv))∧t.load+ -(min t.load (1000000 - sv))≤_;omega)⟩⟩) rfl rfl eF7 λ w_19 m_20 O_21=> ?_
  have BS:=BS.later x_17
  have B_6:=B_6.later (eT x_10 (eT x_13 x_17))
  have:=m_20.size
  have z_19:=z_16.md m_20 (λ q hq=> .inl (List.mem_cons_of_mem _ (foot_T hq)))
  have HO_23:=HO.setT m_20 O_21
  have u_24:=λ q hq=>(HO_23.lt q hq).2
  have d_25:∀ q∈Rep.blkOf a.T,q=S→False:=λ q hq hb=>by (exact dS q (foot_T hq) hb)
  have BS:=BS.mod m_20 (λ hq=>d_25 _ hq rfl)
  refine nK<|sq<| ?_
  refine rd [(4,0),(8,0),(10,0),(14,3)] [0,1,2,3,4,5,6,7,8,9,10,11,12,13,14] (by kernel_rfl) (by kernel_rfl) ?_
  refine fw1 rfl (λ _=>mv rfl)<|fw1 rfl (λ _=>nc rfl)<|fw1 rfl (λ _=>fa eF111 rfl)<|fw1 rfl (λ _=>fa eF85 rfl)<|fq1 rfl (λ _ x=>ld rfl ((BS.later x).one eF36 rfl))<|fw1 rfl (λ _=>mv rfl)<|fw1 rfl (λ _=>nc rfl)<|fw1 rfl (λ _=>fa eF57 rfl)<|fq (v:= .int .i64 t.owner) rfl rfl (λ _ x=>ld rfl (Rep.SHas.fld hcT (by rw [← (HO_23.later x).T.has.adr (zl k (by have:=(List.getElem?_eq_some_iff.1 ht).1;simpa using this))];exact (HO_23.later x).T.has) 1 ht2 rfl eF1)) rfl<|fw1 rfl (λ _=>iA t.owner.toNat Tryz.underlying22 eF7 rfl rfl (HO_23.S.has.adr (zl t.owner.toNat (show t.owner.toNat<W.stocks.length by omega))) (by omega) (show t.owner.toNat<W.stocks.length by omega))<|fq1 rfl (λ _ x=>ld rfl (Rep.SHas.one' hcI (by rw [← (HO_23.later x).S.has.adr (zl t.owner.toNat (show t.owner.toNat<W.stocks.length by omega))];exact (HO_23.later x).S.has) hs rfl eF1))<|fw1 rfl (λ _=>mv rfl)<|fw1 rfl (λ _=>bad rfl rfl (inI (by omega)))<|fw1 rfl (λ _=>iA t.owner.toNat Tryz.underlying22 eF7 rfl rfl (HO_23.S.has.adr (zl t.owner.toNat (show t.owner.toNat<W.stocks.length by omega))) (by omega) (show t.owner.toNat<W.stocks.length by omega))<|fb rfl rfl rfl λ w_26 x_27 Q hK=>so (q':=sv+min t.load (1000000 - sv)) (j:=0) (i:=t.owner.toNat) (HO_23.later x_27).S Rep.flat_bare hs rfl rfl rfl rfl (λ _ cs h=>by have ok_:=(show _∧_ from h).2;obtain rfl:=hcI h;exact ⟨rfl,okI_iff.2 (by omega)⟩) rfl rfl eF7 λ w_28 m_29 O_30=>hK _ _ ?_
  have:=x_27.size
  have z_26:=z_19.trans (Mod.of_ext x_27)
  have HO_23:=HO_23.later x_27
  have BS:=BS.later x_27
  have d_32:∀ q∈Rep.blkOf a.T,q=b_3→False:=λ q hq hb=>by (have:=u_1 q (foot_T hq);omega)
  have B_6:=B_6.mod m_20 (λ hq=>d_32 _ hq rfl)
  have B_6:=B_6.later x_27
  have:=m_29.size
  have z_28:=z_26.md m_29 (λ q hq=> .inl (List.mem_cons_of_mem _ (foot_S hq)))
  have HO_34:=HO_23.setS m_29 O_30
  have u_35:=λ q hq=>(HO_34.lt q hq).2
  have d_36:∀ q∈Rep.blkOf a.S,q=S→False:=λ q hq hb=>by (exact dS q (foot_S hq) hb)
  have BS:=BS.mod m_29 (λ hq=>d_36 _ hq rfl)
  refine fn λ w_37 x_38=> ?_
  have:=x_38.size
  have z_37:=z_28.trans (Mod.of_ext x_38)
  refine nT<|sg<|vm rfl<|vL (bgt rfl rfl)<|va rfl<|nK<|rt<|tR (.tmp rfl .nil)<| ?_
  have HO_34:=HO_34.later x_38
  have BS:=BS.later x_38
  obtain ⟨e1,e2⟩:=drop_val2 hf ht hb hs hl hbe hG
  exact ⟨a,by rw [e1];rfl,by rw [e2];exact ⟨by simpa [Wd.cells] using BS,HO_34,hfar,hlow⟩,λ q hq=> .inl hq,z_37⟩
end
section
open Go.RowKit
theorem free1 (t:Trp) (p:Cel) (g:Nat) (w:World) (hg:w.cell? ⟨g,0,none⟩=some (.int .i64 p.x)∧w.cell? ⟨g,1,none⟩=some (.int .i64 p.y)):
  Calls Tryz.prog 203 #[.agg #[.int .i64 t.id, .int .i64 t.owner, .int .i64 t.kind, .int .i64 t.spot.x, .int .i64 t.spot.y, .int .i64 t.life, .int .i64 t.load], .pointer (some ⟨g,0,none⟩)] w λ e w'=>e= .returned (.bool (isAt p t))∧Below w.heap.size w w':=by
 have hb:=below_alloc0 w (.cells #[.int .i64 t.id, .int .i64 t.owner, .int .i64 t.kind, .int .i64 t.spot.x, .int .i64 t.spot.y, .int .i64 t.life, .int .i64 t.load] 66)
 obtain ⟨hg,hg2⟩:=hg
 have hlt:=World.block_lt_of_cell? w _ hg
 simp only at hlt
 by_cases h:t.spot=p
 ·have hr:isAt p t=true:=by unfold isAt;simp [h]
  rw [hr]
  subst h
  clear hr
  go_enter Tryz.func203,Tryz.ntmps203
  go_wp2_with fail
  go_ret
  exact ⟨rfl,hb⟩
 ·have hr:isAt p t=false:=by unfold isAt;simp [h]
  have hne:(t.spot.x == p.x)=false∨((t.spot.x == p.x)=true∧(t.spot.y == p.y)=false):=by
   obtain ⟨_,_,_,⟨a,b⟩,_,_⟩:=t
   obtain ⟨c,d⟩:=p
   simp at h ⊢
   omega
  rw [hr]
  clear hr h
  rcases hne with h1 | ⟨h1,h2⟩
  all_goals
   go_enter Tryz.func203,Tryz.ntmps203
   go_wp2_with fail
   go_ret
   exact ⟨ret_bool (by simp_all),hb⟩
theorem idx_fr (p:Cel) (g:Nat) (A:Option Addr) (c:Nat) (l:List Trp) (w:World) (hl:Trp.rep.SHas 56 w A c l) (hg:w.cell? ⟨g,0,none⟩=some (.int .i64 p.x)∧w.cell? ⟨g,1,none⟩=some (.int .i64 p.y)):
  Calls Tryz.prog 200 #[.slice A l.length c, .func (.func 203) #[] #[.pointer (some ⟨g,0,none⟩)]] w λ e w'=>e= .returned (.int .i64 (idxI (isAt p) l))∧Below w.heap.size w w':=by
 obtain ⟨n,hn⟩:∃ n,l.length=n:=⟨_,rfl⟩
 have hle:n≤9223372036854775807:=by have:=hl.1;have:=hl.2.1;omega
 rw [hn]
 have HL:=Lib.hid hl
 have HN:=Lib.hid hn
 clear hl hn
 go_enter Tryz.func200,Tryz.ntmps200
 go_wp2_with fail
 go_loopw [5,8] (λ _ iv wr=>∃ k:Nat,k≤n∧iv= .int .i64 (k:Int)∧Hid (∀ j (hj:j<k) (hj2:j<l.length),(isAt p) l[j]=false)∧Below w.heap.size w wr) (λ _ iv _=>n - (intOf iv).toNat)
 case atStart=>exact ⟨0,Nat.zero_le _,rfl,(λ j hj=>by omega),Below.refl _ _⟩
 case round =>
  obtain ⟨k,hk,rfl,HK,hb⟩:=hrel
  by_cases hlt:k<n
  ·have hkl:k<l.length:=by rw [HN.out];exact hlt
   obtain ⟨b,o,rfl,hcell⟩:=Trp.at_ (HL.out.keep hb) (by omega)
   obtain ⟨x,hxe⟩:∃ x,l[k]'hkl=x:=⟨_,rfl⟩
   obtain ⟨q0,q1,q2,q3,q4,q5,q6⟩:=hcell k x (by rw [List.getElem?_eq_getElem hkl,hxe])
   have HXE:=Lib.hid hxe
   have hg':wr.cell? ⟨g,0,none⟩=some (.int .i64 p.x)∧wr.cell? ⟨g,1,none⟩=some (.int .i64 p.y):=⟨cell_later hb hg.1,cell_later hb hg.2⟩
   have hc:=free1 x p g wr hg'
   clear hcell hxe
   cases hbad:(isAt p) x with
   | true =>
    have hres:idxI (isAt p) l=(k:Int):=idxI_some hkl (by rw [HXE.out];exact hbad) λ j hj=>HK.out j hj (by omega)
    rw [hbad] at hc
    have HRES:=Lib.hid hres
    clear hres hbad
    go_wp2_with (go_at_call 203;refine hc.mono ?_;rintro e w' ⟨rfl,hb2⟩)
    go_ret
    exact ⟨by rw [HRES.out];rfl,hb.trans (hb2.mono hb.size)⟩
   | false =>
    rw [hbad] at hc
    have HK2:Hid (∀ j (hj:j<k+1) (hj2:j<l.length),(isAt p) l[j]=false):=by
     intro j hj hj2
     by_cases h:j<k
     ·exact HK.out j h hj2
     ·obtain rfl:j=k:=by omega
      rw [HXE.out];exact hbad
    clear hbad
    go_wp2_with (go_at_call 203;refine hc.mono ?_;rintro e w' ⟨rfl,hb2⟩)
    go_roundw
    case rel=>exact ⟨k+1,by omega,by go_num,HK2,hb.trans (hb2.mono hb.size)⟩
    case measure=>simp [intOf];omega
  ·have hres:idxI (isAt p) l= -1:=idxI_none λ j hj=>HK.out j (by have:=HN.out;omega) hj
   have HRES:=Lib.hid hres
   clear hres
   go_wp2_with fail
   go_ret
   exact ⟨by rw [HRES.out];rfl,hb⟩
theorem has_fr (p:Cel) (g:Nat) (A:Option Addr) (c:Nat) (l:List Trp) (w:World) (hl:Trp.rep.SHas 56 w A c l) (hg:w.cell? ⟨g,0,none⟩=some (.int .i64 p.x)∧w.cell? ⟨g,1,none⟩=some (.int .i64 p.y)):
  Calls Tryz.prog 202 #[.slice A l.length c, .func (.func 203) #[] #[.pointer (some ⟨g,0,none⟩)]] w λ e w'=>e= .returned (.bool (l.any (isAt p)))∧Below w.heap.size w w':=by
 have hc:=idx_fr p g A c l w hl hg
 rw [← idxI_any]
 generalize idxI (isAt p) l=r at *
 generalize l.length=n at *
 clear hl hg
 go_enter Tryz.func202,Tryz.ntmps202
 go_wp2_with (go_at_call 200;refine hc.mono ?_;rintro e w' ⟨rfl,hb2⟩)
 go_ret
 exact ⟨rfl,hb2⟩
end
section
open Go.RowKit
theorem GooI_el_S_api_Cell:ElT Tryz.prog Cel.rep 25 49 16:=ElT.mk_ (z:=Cel.zero) (k:=2) Tryz.underlying25 Cel.info rfl rfl (by decide) Cel.zero_raw
theorem open_eq {W:Wd} {c:Cel} (h:W.field.chk=0):((W.field.atE c == 0 && W.field.atV c != 1) && !W.troops.any (isAt c))=W.openTo c:=by
 unfold Wd.openTo Fld.ground
 cases hi:W.field.isIn c with
 | false=>rw [(Fld.at_out h hi).1];rfl
 | true=>rw [(Fld.at_in h hi).1,(Fld.at_in h hi).2];rfl
theorem get_d' {α:Type} {l:List α} {j:Nat} {u:α} (h:j<l.length):l.getD j u=l[j]:=by rw [List.getD_eq_getElem?_getD,List.getElem?_eq_getElem h];rfl
theorem free_some {W:Wd} {p:Cel} {k:Nat} (hk:k<10) (hno:∀ j,j<k→W.openTo ((Wd.around p).getD j default)=false) (h:W.openTo ((Wd.around p).getD k default)=true):W.free p=some ((Wd.around p).getD k default):=by
 have hl:(Wd.around p).length=10:=rfl
 unfold Wd.free
 rw [List.find?_eq_some_iff_getElem]
 refine ⟨h,k,by omega,(get_d' (by omega)).symm,λ j hj=> ?_⟩
 have:=hno j hj
 rw [get_d' (by omega)] at this
 simp [this]
theorem free_none {W:Wd} {p:Cel} (hno:∀ j,j<10→W.openTo ((Wd.around p).getD j default)=false):W.free p=none:=by
 have hl:(Wd.around p).length=10:=rfl
 unfold Wd.free
 rw [List.find?_eq_none]
 intro x hx
 obtain ⟨j,hj,rfl⟩:=List.mem_iff_getElem.1 hx
 have:=hno j (by omega)
 rw [get_d' hj] at this
 simp [this]
theorem free_any (p:Cel) (w:World) (Z S:Nat) (a:Wd.At) (W:Wd) (h:Shop w Z S a W) (hG:Good W) (hp:0≤p.x∧p.x≤100∧0≤p.y∧p.y≤100):
  Calls Tryz.prog 170 #[.pointer (some ⟨S,0,none⟩), .agg #[.int .i64 p.x, .int .i64 p.y]] w (λ e w'=>e= .returned (.tuple #[.agg (((W.free p).getD ⟨0,0⟩).cells).toArray, .bool (W.free p).isSome])∧Ext w w'):=by
 have BS:=h.blk
 have q0:=h.blk.lt
 have HT:=h.own.T.has
 have HP:=h.own.P.has
 refine calls_W (n:=70) Tryz.func170 rfl rfl rfl ?_
 refine sg<|bx rfl rfl rfl rfl λ w_1 b_2 x_3 l_4 B_5=> ?_
 have:=x_3.size
 have z_1:=eT (Ext.rf w) x_3
 have q_7:=B_5.lt
 refine al rfl eF41 rfl rfl λ w_8 b_9 x_10 l_11 B_12=> ?_
 have:=x_10.size
 have z_8:=eT z_1 x_10
 have q_14:=B_12.lt
 refine va rfl<|nK<|sg<| ?_
 have B_5:=B_5.later x_10
 refine vL (ld rfl (B_5.all eF3 eF4))<|bs (e:= 49) (cs:= [.int .i64 p.x, .int .i64 p.y]) rfl (λ _=>by kernel_rfl) rfl λ w_15 b_16 x_17 l_18 B_19=> ?_
 have:=x_17.size
 have z_15:=eT z_8 x_17
 have q_21:=B_19.lt
 refine va rfl<|nK<|sq<|sg<|va rfl<|nK<|bk<|lu 4<|lr<|sq<|sg<|vm rfl<|vL (ble rfl rfl)<|nK<|cT rfl<|sK<|sq<|bk<| ?_
 refine sg<|va rfl<|nK<|bk<|lu 4<|lr<|sq<|sg<|vm rfl<|vL (ble rfl rfl)<|nK<|cT rfl<|sK<|sq<|bk<|rg<|vm rfl<|vL (fa eF0 rfl)<| ?_
 have B_5:=B_5.later x_17
 refine vL (ld rfl (B_5.one eF1 rfl))<|vm rfl<|vL (bad rfl rfl (inI (by omega)))<|vL (fa eF2 rfl)<|vL (ld rfl (B_5.one eF1 rfl))<|vm rfl<|vL (bad rfl rfl (inI (by omega)))<|vL (v:= .agg #[.int .i64 (p.x+(-1)), .int .i64 (p.y+(-1))]) (bd rfl (by kernel_rfl))<|bs (e:= 49) (cs:= [.int .i64 (p.x+(-1)), .int .i64 (p.y+(-1))]) rfl (λ _=>by kernel_rfl) rfl λ w_22 b_23 x_24 l_25 B_26=> ?_
 have:=x_24.size
 have z_22:=eT z_15 x_24
 have q_28:=B_26.lt
 have B_19:=B_19.later x_24
 have O_29:=Blk.ownN (R:=Cel.rep) (by_:=16) (B:=w.heap.size) (k:= [p]) B_19 [[.int .i64 p.x, .int .i64 p.y]] rfl (⟨⟨rfl,⟨okI_iff.2 (by (try dsimp only);omega),okI_iff.2 (by (try dsimp only);omega)⟩⟩,trivial⟩) (by simp) (by simp) (by decide) (by omega)
 have u_30:=λ q hq=>(O_29.lt q hq).2
 have lo_31:∀ q∈Rep.blkOf (some ⟨b_16,0,none⟩),b_16≤q:=λ q hq=>Nat.le_of_eq (List.mem_singleton.1 hq).symm
 refine ap GooI_el_S_api_Cell Rep.flat_bare O_29 (Blk.has1 (R:=Cel.rep) (by_:=16) (q:=(⟨p.x+(-1),p.y+(-1)⟩:Cel)) B_26 ⟨rfl,⟨okI_iff.2 (by (try dsimp only);omega),okI_iff.2 (by (try dsimp only);omega)⟩⟩ (by decide)) rfl rfl (by first | (simp<;>omega) | omega) (by first | (simp<;>omega) | omega) z_22.size rfl λ w_32 A_33 c_34 m_35 O_36 g_37 n_38=> ?_
 have:=m_35.size
 have z_32:=Ext.mod z_22 m_35 (λ q hq=>(O_29.lt q hq).1)
 have u_40:=λ q hq=>(O_36.lt q hq).2
 have:=m_35.size
 refine va rfl<|nl<|nB<|nT<|rg<|vm rfl<|vL (badL (r:=0) rfl rfl (by decide) (by decide))<|va rfl<|nl<|nR<|lr<|sq<|sg<|vm rfl<|vL (ble rfl rfl)<|nK<|cT rfl<|sK<|sq<|bk<|rg<| ?_
 refine vm rfl<|vL (fa eF0 rfl)<| ?_
 have B_5:=B_5.later x_24
 have d_42:∀ q∈Rep.blkOf (some ⟨b_16,0,none⟩),q=b_2→False:=λ q hq hb=>by (have:=lo_31 q hq;omega)
 have B_5:=B_5.mod m_35 (λ hq=>d_42 _ hq rfl)
 refine vL (ld rfl (B_5.one eF1 rfl))<|vm rfl<|vL (bad rfl rfl (inI (by omega)))<|vL (fa eF2 rfl)<|vL (ld rfl (B_5.one eF1 rfl))<|vm rfl<|vL (bad rfl rfl (inI (by omega)))<|vL (v:= .agg #[.int .i64 (p.x+0), .int .i64 (p.y+(-1))]) (bd rfl (by kernel_rfl))<|bs (e:= 49) (cs:= [.int .i64 (p.x+0), .int .i64 (p.y+(-1))]) rfl (λ _=>by kernel_rfl) rfl λ w_43 b_44 x_45 l_46 B_47=> ?_
 have:=x_45.size
 have z_43:=eT z_32 x_45
 have q_49:=B_47.lt
 have O_36:=O_36.later x_45
 refine ap GooI_el_S_api_Cell Rep.flat_bare O_36 (Blk.has1 (R:=Cel.rep) (by_:=16) (q:=(⟨p.x+0,p.y+(-1)⟩:Cel)) B_47 ⟨rfl,⟨okI_iff.2 (by (try dsimp only);omega),okI_iff.2 (by (try dsimp only);omega)⟩⟩ (by decide)) rfl rfl (by first | (simp<;>omega) | omega) (by first | (simp<;>omega) | omega) z_43.size rfl λ w_50 A_51 c_52 m_53 O_54 g_55 n_56=> ?_
 have:=m_53.size
 have z_50:=Ext.mod z_43 m_53 (λ q hq=>(O_36.lt q hq).1)
 have u_58:=λ q hq=>(O_54.lt q hq).2
 have:=m_53.size
 refine va rfl<|nl<|nB<|nT<|rg<|vm rfl<|vL (badL (r:=1) rfl rfl (by decide) (by decide))<|va rfl<|nl<|nR<|lr<|sq<|sg<|vm rfl<|vL (ble rfl rfl)<|nK<|cT rfl<|sK<|sq<|bk<|rg<| ?_
 refine vm rfl<|vL (fa eF0 rfl)<| ?_
 have B_5:=B_5.later x_45
 have d_60:∀ q∈Rep.blkOf A_33,q=b_2→False:=λ q hq hb=>by (exact Or.elim (g_37 q hq) (λ k_61=>by (exact d_42 q k_61 hb)) (λ k_61=>by omega))
 have B_5:=B_5.mod m_53 (λ hq=>d_60 _ hq rfl)
 refine vL (ld rfl (B_5.one eF1 rfl))<|vm rfl<|vL (bad rfl rfl (inI (by omega)))<|vL (fa eF2 rfl)<|vL (ld rfl (B_5.one eF1 rfl))<|vm rfl<|vL (bad rfl rfl (inI (by omega)))<|vL (v:= .agg #[.int .i64 (p.x+1), .int .i64 (p.y+(-1))]) (bd rfl (by kernel_rfl))<|bs (e:= 49) (cs:= [.int .i64 (p.x+1), .int .i64 (p.y+(-1))]) rfl (λ _=>by kernel_rfl) rfl λ w_62 b_63 x_64 l_65 B_66=> ?_
 have:=x_64.size
 have z_62:=eT z_50 x_64
 have q_68:=B_66.lt
 have O_54:=O_54.later x_64
 refine ap GooI_el_S_api_Cell Rep.flat_bare O_54 (Blk.has1 (R:=Cel.rep) (by_:=16) (q:=(⟨p.x+1,p.y+(-1)⟩:Cel)) B_66 ⟨rfl,⟨okI_iff.2 (by (try dsimp only);omega),okI_iff.2 (by (try dsimp only);omega)⟩⟩ (by decide)) rfl rfl (by first | (simp<;>omega) | omega) (by first | (simp<;>omega) | omega) z_62.size rfl λ w_69 A_70 c_71 m_72 O_73 g_74 n_75=> ?_
 have:=m_72.size
 have z_69:=Ext.mod z_62 m_72 (λ q hq=>(O_54.lt q hq).1)
 have u_77:=λ q hq=>(O_73.lt q hq).2
 have:=m_72.size
 refine va rfl<|nl<|nB<|nT<|rg<|vm rfl<|vL (badL (r:=2) rfl rfl (by decide) (by decide))<|va rfl<|nl<|nR<|lr<|sq<|sg<|vm rfl<|vL (ble rfl rfl)<|nK<|cF rfl<|xt<|xT<|xK<|xB<|nB<| ?_
 refine nT<|rg<|vm rfl<|vL (badL (r:=0) rfl rfl (by decide) (by decide))<|va rfl<|nl<|nR<|lr<|sq<|sg<|vm rfl<|vL (ble rfl rfl)<|nK<|cT rfl<|sK<|sq<|bk<|sg<|va rfl<|nl<| ?_
 refine nT<|bk<|lu 4<|lr<|sq<|sg<|vm rfl<|vL (ble rfl rfl)<|nK<|cT rfl<|sK<|sq<|bk<|rg<|vm rfl<|vL (fa eF0 rfl)<| ?_
 have B_5:=B_5.later x_64
 have d_79:∀ q∈Rep.blkOf A_51,q=b_2→False:=λ q hq hb=>by (exact Or.elim (g_55 q hq) (λ k_80=>by (exact d_60 q k_80 hb)) (λ k_80=>by omega))
 have B_5:=B_5.mod m_72 (λ hq=>d_79 _ hq rfl)
 refine vL (ld rfl (B_5.one eF1 rfl))<|vm rfl<|vL (bad rfl rfl (inI (by omega)))<|vL (fa eF2 rfl)<|vL (ld rfl (B_5.one eF1 rfl))<|vm rfl<|vL (bad rfl rfl (inI (by omega)))<|vL (v:= .agg #[.int .i64 (p.x+(-1)), .int .i64 (p.y+0)]) (bd rfl (by kernel_rfl))<|bs (e:= 49) (cs:= [.int .i64 (p.x+(-1)), .int .i64 (p.y+0)]) rfl (λ _=>by kernel_rfl) rfl λ w_81 b_82 x_83 l_84 B_85=> ?_
 have:=x_83.size
 have z_81:=eT z_69 x_83
 have q_87:=B_85.lt
 have O_73:=O_73.later x_83
 refine ap GooI_el_S_api_Cell Rep.flat_bare O_73 (Blk.has1 (R:=Cel.rep) (by_:=16) (q:=(⟨p.x+(-1),p.y+0⟩:Cel)) B_85 ⟨rfl,⟨okI_iff.2 (by (try dsimp only);omega),okI_iff.2 (by (try dsimp only);omega)⟩⟩ (by decide)) rfl rfl (by first | (simp<;>omega) | omega) (by first | (simp<;>omega) | omega) z_81.size rfl λ w_88 A_89 c_90 m_91 O_92 g_93 n_94=> ?_
 have:=m_91.size
 have z_88:=Ext.mod z_81 m_91 (λ q hq=>(O_73.lt q hq).1)
 have u_96:=λ q hq=>(O_92.lt q hq).2
 have:=m_91.size
 refine va rfl<|nl<|nB<|nT<|rg<|vm rfl<|vL (badL (r:=0) rfl rfl (by decide) (by decide))<|va rfl<|nl<|nR<|lr<|sq<|sg<|vm rfl<|vL (ble rfl rfl)<|nK<|cT rfl<|sK<|sq<|bk<|rg<| ?_
 refine vm rfl<|vL (fa eF0 rfl)<| ?_
 have B_5:=B_5.later x_83
 have d_98:∀ q∈Rep.blkOf A_70,q=b_2→False:=λ q hq hb=>by (exact Or.elim (g_74 q hq) (λ k_99=>by (exact d_79 q k_99 hb)) (λ k_99=>by omega))
 have B_5:=B_5.mod m_91 (λ hq=>d_98 _ hq rfl)
 refine vL (ld rfl (B_5.one eF1 rfl))<|vm rfl<|vL (bad rfl rfl (inI (by omega)))<|vL (fa eF2 rfl)<|vL (ld rfl (B_5.one eF1 rfl))<|vm rfl<|vL (bad rfl rfl (inI (by omega)))<|vL (v:= .agg #[.int .i64 (p.x+0), .int .i64 (p.y+0)]) (bd rfl (by kernel_rfl))<|bs (e:= 49) (cs:= [.int .i64 (p.x+0), .int .i64 (p.y+0)]) rfl (λ _=>by kernel_rfl) rfl λ w_100 b_101 x_102 l_103 B_104=> ?_
 have:=x_102.size
 have z_100:=eT z_88 x_102
 have q_106:=B_104.lt
 have O_92:=O_92.later x_102
 refine ap GooI_el_S_api_Cell Rep.flat_bare O_92 (Blk.has1 (R:=Cel.rep) (by_:=16) (q:=(⟨p.x+0,p.y+0⟩:Cel)) B_104 ⟨rfl,⟨okI_iff.2 (by (try dsimp only);omega),okI_iff.2 (by (try dsimp only);omega)⟩⟩ (by decide)) rfl rfl (by first | (simp<;>omega) | omega) (by first | (simp<;>omega) | omega) z_100.size rfl λ w_107 A_108 c_109 m_110 O_111 g_112 n_113=> ?_
 have:=m_110.size
 have z_107:=Ext.mod z_100 m_110 (λ q hq=>(O_92.lt q hq).1)
 have u_115:=λ q hq=>(O_111.lt q hq).2
 have:=m_110.size
 refine va rfl<|nl<|nB<|nT<|rg<|vm rfl<|vL (badL (r:=1) rfl rfl (by decide) (by decide))<|va rfl<|nl<|nR<|lr<|sq<|sg<|vm rfl<|vL (ble rfl rfl)<|nK<|cT rfl<|sK<|sq<|bk<|rg<| ?_
 refine vm rfl<|vL (fa eF0 rfl)<| ?_
 have B_5:=B_5.later x_102
 have d_117:∀ q∈Rep.blkOf A_89,q=b_2→False:=λ q hq hb=>by (exact Or.elim (g_93 q hq) (λ k_118=>by (exact d_98 q k_118 hb)) (λ k_118=>by omega))
 have B_5:=B_5.mod m_110 (λ hq=>d_117 _ hq rfl)
 refine vL (ld rfl (B_5.one eF1 rfl))<|vm rfl<|vL (bad rfl rfl (inI (by omega)))<|vL (fa eF2 rfl)<|vL (ld rfl (B_5.one eF1 rfl))<|vm rfl<|vL (bad rfl rfl (inI (by omega)))<|vL (v:= .agg #[.int .i64 (p.x+1), .int .i64 (p.y+0)]) (bd rfl (by kernel_rfl))<|bs (e:= 49) (cs:= [.int .i64 (p.x+1), .int .i64 (p.y+0)]) rfl (λ _=>by kernel_rfl) rfl λ w_119 b_120 x_121 l_122 B_123=> ?_
 have:=x_121.size
 have z_119:=eT z_107 x_121
 have q_125:=B_123.lt
 have O_111:=O_111.later x_121
 refine ap GooI_el_S_api_Cell Rep.flat_bare O_111 (Blk.has1 (R:=Cel.rep) (by_:=16) (q:=(⟨p.x+1,p.y+0⟩:Cel)) B_123 ⟨rfl,⟨okI_iff.2 (by (try dsimp only);omega),okI_iff.2 (by (try dsimp only);omega)⟩⟩ (by decide)) rfl rfl (by first | (simp<;>omega) | omega) (by first | (simp<;>omega) | omega) z_119.size rfl λ w_126 A_127 c_128 m_129 O_130 g_131 n_132=> ?_
 have:=m_129.size
 have z_126:=Ext.mod z_119 m_129 (λ q hq=>(O_111.lt q hq).1)
 have u_134:=λ q hq=>(O_130.lt q hq).2
 have:=m_129.size
 refine va rfl<|nl<|nB<|nT<|rg<|vm rfl<|vL (badL (r:=2) rfl rfl (by decide) (by decide))<|va rfl<|nl<|nR<|lr<|sq<|sg<|vm rfl<|vL (ble rfl rfl)<|nK<|cF rfl<|xt<|xT<|xK<|xB<|nB<| ?_
 refine nT<|rg<|vm rfl<|vL (badL (r:=1) rfl rfl (by decide) (by decide))<|va rfl<|nl<|nR<|lr<|sq<|sg<|vm rfl<|vL (ble rfl rfl)<|nK<|cT rfl<|sK<|sq<|bk<|sg<|va rfl<|nl<| ?_
 refine nT<|bk<|lu 4<|lr<|sq<|sg<|vm rfl<|vL (ble rfl rfl)<|nK<|cT rfl<|sK<|sq<|bk<|rg<|vm rfl<|vL (fa eF0 rfl)<| ?_
 have B_5:=B_5.later x_121
 have d_136:∀ q∈Rep.blkOf A_108,q=b_2→False:=λ q hq hb=>by (exact Or.elim (g_112 q hq) (λ k_137=>by (exact d_117 q k_137 hb)) (λ k_137=>by omega))
 have B_5:=B_5.mod m_129 (λ hq=>d_136 _ hq rfl)
 refine vL (ld rfl (B_5.one eF1 rfl))<|vm rfl<|vL (bad rfl rfl (inI (by omega)))<|vL (fa eF2 rfl)<|vL (ld rfl (B_5.one eF1 rfl))<|vm rfl<|vL (bad rfl rfl (inI (by omega)))<|vL (v:= .agg #[.int .i64 (p.x+(-1)), .int .i64 (p.y+1)]) (bd rfl (by kernel_rfl))<|bs (e:= 49) (cs:= [.int .i64 (p.x+(-1)), .int .i64 (p.y+1)]) rfl (λ _=>by kernel_rfl) rfl λ w_138 b_139 x_140 l_141 B_142=> ?_
 have:=x_140.size
 have z_138:=eT z_126 x_140
 have q_144:=B_142.lt
 have O_130:=O_130.later x_140
 refine ap GooI_el_S_api_Cell Rep.flat_bare O_130 (Blk.has1 (R:=Cel.rep) (by_:=16) (q:=(⟨p.x+(-1),p.y+1⟩:Cel)) B_142 ⟨rfl,⟨okI_iff.2 (by (try dsimp only);omega),okI_iff.2 (by (try dsimp only);omega)⟩⟩ (by decide)) rfl rfl (by first | (simp<;>omega) | omega) (by first | (simp<;>omega) | omega) z_138.size rfl λ w_145 A_146 c_147 m_148 O_149 g_150 n_151=> ?_
 have:=m_148.size
 have z_145:=Ext.mod z_138 m_148 (λ q hq=>(O_130.lt q hq).1)
 have u_153:=λ q hq=>(O_149.lt q hq).2
 have:=m_148.size
 refine va rfl<|nl<|nB<|nT<|rg<|vm rfl<|vL (badL (r:=0) rfl rfl (by decide) (by decide))<|va rfl<|nl<|nR<|lr<|sq<|sg<|vm rfl<|vL (ble rfl rfl)<|nK<|cT rfl<|sK<|sq<|bk<|rg<| ?_
 refine vm rfl<|vL (fa eF0 rfl)<| ?_
 have B_5:=B_5.later x_140
 have d_155:∀ q∈Rep.blkOf A_127,q=b_2→False:=λ q hq hb=>by (exact Or.elim (g_131 q hq) (λ k_156=>by (exact d_136 q k_156 hb)) (λ k_156=>by omega))
 have B_5:=B_5.mod m_148 (λ hq=>d_155 _ hq rfl)
 refine vL (ld rfl (B_5.one eF1 rfl))<|vm rfl<|vL (bad rfl rfl (inI (by omega)))<|vL (fa eF2 rfl)<|vL (ld rfl (B_5.one eF1 rfl))<|vm rfl<|vL (bad rfl rfl (inI (by omega)))<|vL (v:= .agg #[.int .i64 (p.x+0), .int .i64 (p.y+1)]) (bd rfl (by kernel_rfl))<|bs (e:= 49) (cs:= [.int .i64 (p.x+0), .int .i64 (p.y+1)]) rfl (λ _=>by kernel_rfl) rfl λ w_157 b_158 x_159 l_160 B_161=> ?_
 have:=x_159.size
 have z_157:=eT z_145 x_159
 have q_163:=B_161.lt
 have O_149:=O_149.later x_159
 refine ap GooI_el_S_api_Cell Rep.flat_bare O_149 (Blk.has1 (R:=Cel.rep) (by_:=16) (q:=(⟨p.x+0,p.y+1⟩:Cel)) B_161 ⟨rfl,⟨okI_iff.2 (by (try dsimp only);omega),okI_iff.2 (by (try dsimp only);omega)⟩⟩ (by decide)) rfl rfl (by first | (simp<;>omega) | omega) (by first | (simp<;>omega) | omega) z_157.size rfl λ w_164 A_165 c_166 m_167 O_168 g_169 n_170=> ?_
 have:=m_167.size
 have z_164:=Ext.mod z_157 m_167 (λ q hq=>(O_149.lt q hq).1)
 have u_172:=λ q hq=>(O_168.lt q hq).2
 have:=m_167.size
 refine va rfl<|nl<|nB<|nT<|rg<|vm rfl<|vL (badL (r:=1) rfl rfl (by decide) (by decide))<|va rfl<|nl<|nR<|lr<|sq<|sg<|vm rfl<|vL (ble rfl rfl)<|nK<|cT rfl<|sK<|sq<|bk<|rg<| ?_
 refine vm rfl<|vL (fa eF0 rfl)<| ?_
 have B_5:=B_5.later x_159
 have d_174:∀ q∈Rep.blkOf A_146,q=b_2→False:=λ q hq hb=>by (exact Or.elim (g_150 q hq) (λ k_175=>by (exact d_155 q k_175 hb)) (λ k_175=>by omega))
 have B_5:=B_5.mod m_167 (λ hq=>d_174 _ hq rfl)
 refine vL (ld rfl (B_5.one eF1 rfl))<|vm rfl<|vL (bad rfl rfl (inI (by omega)))<|vL (fa eF2 rfl)<|vL (ld rfl (B_5.one eF1 rfl))<|vm rfl<|vL (bad rfl rfl (inI (by omega)))<|vL (v:= .agg #[.int .i64 (p.x+1), .int .i64 (p.y+1)]) (bd rfl (by kernel_rfl))<|bs (e:= 49) (cs:= [.int .i64 (p.x+1), .int .i64 (p.y+1)]) rfl (λ _=>by kernel_rfl) rfl λ w_176 b_177 x_178 l_179 B_180=> ?_
 have:=x_178.size
 have z_176:=eT z_164 x_178
 have q_182:=B_180.lt
 have O_168:=O_168.later x_178
 refine ap GooI_el_S_api_Cell Rep.flat_bare O_168 (Blk.has1 (R:=Cel.rep) (by_:=16) (q:=(⟨p.x+1,p.y+1⟩:Cel)) B_180 ⟨rfl,⟨okI_iff.2 (by (try dsimp only);omega),okI_iff.2 (by (try dsimp only);omega)⟩⟩ (by decide)) rfl rfl (by first | (simp<;>omega) | omega) (by first | (simp<;>omega) | omega) z_176.size rfl λ w_183 A_184 c_185 m_186 O_187 g_188 n_189=> ?_
 have:=m_186.size
 have z_183:=Ext.mod z_176 m_186 (λ q hq=>(O_168.lt q hq).1)
 have u_191:=λ q hq=>(O_187.lt q hq).2
 have:=m_186.size
 refine va rfl<|nl<|nB<|nT<|rg<|vm rfl<|vL (badL (r:=2) rfl rfl (by decide) (by decide))<|va rfl<|nl<|nR<|lr<|sq<|sg<|vm rfl<|vL (ble rfl rfl)<|nK<|cF rfl<|xt<|xT<|xK<|xB<|nB<| ?_
 refine nT<|rg<|vm rfl<|vL (badL (r:=2) rfl rfl (by decide) (by decide))<|va rfl<|nl<|nR<|lr<|sq<|sg<|vm rfl<|vL (ble rfl rfl)<|nK<|cF rfl<|xt<|xT<|xK<|xB<|nT<|sq<|sg<| ?_
 refine vm rfl<|vL (ln Tryz.underlying25 rfl)<|vm rfl<|nK<|bk<| ?_
 have hL: [p]++ [(⟨p.x+(-1),p.y+(-1)⟩:Cel)]++ [(⟨p.x+0,p.y+(-1)⟩:Cel)]++ [(⟨p.x+1,p.y+(-1)⟩:Cel)]++ [(⟨p.x+(-1),p.y+0⟩:Cel)]++ [(⟨p.x+0,p.y+0⟩:Cel)]++ [(⟨p.x+1,p.y+0⟩:Cel)]++ [(⟨p.x+(-1),p.y+1⟩:Cel)]++ [(⟨p.x+0,p.y+1⟩:Cel)]++ [(⟨p.x+1,p.y+1⟩:Cel)]=(Wd.around p):=by simp [Wd.around,Int.sub_eq_add_neg]
 rw [hL] at O_187
 have BS:=BS.later (eT x_3 (eT x_10 (eT x_17 x_24)))
 have d_194:∀ q∈Rep.blkOf (some ⟨b_16,0,none⟩),q=S→False:=λ q hq hb=>by (have:=lo_31 q hq;omega)
 have BS:=BS.mod m_35 (λ hq=>d_194 _ hq rfl)
 have BS:=BS.later x_45
 have d_195:∀ q∈Rep.blkOf A_33,q=S→False:=λ q hq hb=>by (exact Or.elim (g_37 q hq) (λ k_196=>by (exact d_194 q k_196 hb)) (λ k_196=>by omega))
 have BS:=BS.mod m_53 (λ hq=>d_195 _ hq rfl)
 have BS:=BS.later x_64
 have d_197:∀ q∈Rep.blkOf A_51,q=S→False:=λ q hq hb=>by (exact Or.elim (g_55 q hq) (λ k_198=>by (exact d_195 q k_198 hb)) (λ k_198=>by omega))
 have BS:=BS.mod m_72 (λ hq=>d_197 _ hq rfl)
 have BS:=BS.later x_83
 have d_199:∀ q∈Rep.blkOf A_70,q=S→False:=λ q hq hb=>by (exact Or.elim (g_74 q hq) (λ k_200=>by (exact d_197 q k_200 hb)) (λ k_200=>by omega))
 have BS:=BS.mod m_91 (λ hq=>d_199 _ hq rfl)
 have BS:=BS.later x_102
 have d_201:∀ q∈Rep.blkOf A_89,q=S→False:=λ q hq hb=>by (exact Or.elim (g_93 q hq) (λ k_202=>by (exact d_199 q k_202 hb)) (λ k_202=>by omega))
 have BS:=BS.mod m_110 (λ hq=>d_201 _ hq rfl)
 have BS:=BS.later x_121
 have d_203:∀ q∈Rep.blkOf A_108,q=S→False:=λ q hq hb=>by (exact Or.elim (g_112 q hq) (λ k_204=>by (exact d_201 q k_204 hb)) (λ k_204=>by omega))
 have BS:=BS.mod m_129 (λ hq=>d_203 _ hq rfl)
 have BS:=BS.later x_140
 have d_205:∀ q∈Rep.blkOf A_127,q=S→False:=λ q hq hb=>by (exact Or.elim (g_131 q hq) (λ k_206=>by (exact d_203 q k_206 hb)) (λ k_206=>by omega))
 have BS:=BS.mod m_148 (λ hq=>d_205 _ hq rfl)
 have BS:=BS.later x_159
 have d_207:∀ q∈Rep.blkOf A_146,q=S→False:=λ q hq hb=>by (exact Or.elim (g_150 q hq) (λ k_208=>by (exact d_205 q k_208 hb)) (λ k_208=>by omega))
 have BS:=BS.mod m_167 (λ hq=>d_207 _ hq rfl)
 have BS:=BS.later x_178
 have d_209:∀ q∈Rep.blkOf A_165,q=S→False:=λ q hq hb=>by (exact Or.elim (g_169 q hq) (λ k_210=>by (exact d_207 q k_210 hb)) (λ k_210=>by omega))
 have BS:=BS.mod m_186 (λ hq=>d_209 _ hq rfl)
 have B_12:=B_12.later (eT x_17 x_24)
 have d_211:∀ q∈Rep.blkOf (some ⟨b_16,0,none⟩),q=b_9→False:=λ q hq hb=>by (have:=lo_31 q hq;omega)
 have B_12:=B_12.mod m_35 (λ hq=>d_211 _ hq rfl)
 have B_12:=B_12.later x_45
 have d_212:∀ q∈Rep.blkOf A_33,q=b_9→False:=λ q hq hb=>by (exact Or.elim (g_37 q hq) (λ k_213=>by (exact d_211 q k_213 hb)) (λ k_213=>by omega))
 have B_12:=B_12.mod m_53 (λ hq=>d_212 _ hq rfl)
 have B_12:=B_12.later x_64
 have d_214:∀ q∈Rep.blkOf A_51,q=b_9→False:=λ q hq hb=>by (exact Or.elim (g_55 q hq) (λ k_215=>by (exact d_212 q k_215 hb)) (λ k_215=>by omega))
 have B_12:=B_12.mod m_72 (λ hq=>d_214 _ hq rfl)
 have B_12:=B_12.later x_83
 have d_216:∀ q∈Rep.blkOf A_70,q=b_9→False:=λ q hq hb=>by (exact Or.elim (g_74 q hq) (λ k_217=>by (exact d_214 q k_217 hb)) (λ k_217=>by omega))
 have B_12:=B_12.mod m_91 (λ hq=>d_216 _ hq rfl)
 have B_12:=B_12.later x_102
 have d_218:∀ q∈Rep.blkOf A_89,q=b_9→False:=λ q hq hb=>by (exact Or.elim (g_93 q hq) (λ k_219=>by (exact d_216 q k_219 hb)) (λ k_219=>by omega))
 have B_12:=B_12.mod m_110 (λ hq=>d_218 _ hq rfl)
 have B_12:=B_12.later x_121
 have d_220:∀ q∈Rep.blkOf A_108,q=b_9→False:=λ q hq hb=>by (exact Or.elim (g_112 q hq) (λ k_221=>by (exact d_218 q k_221 hb)) (λ k_221=>by omega))
 have B_12:=B_12.mod m_129 (λ hq=>d_220 _ hq rfl)
 have B_12:=B_12.later x_140
 have d_222:∀ q∈Rep.blkOf A_127,q=b_9→False:=λ q hq hb=>by (exact Or.elim (g_131 q hq) (λ k_223=>by (exact d_220 q k_223 hb)) (λ k_223=>by omega))
 have B_12:=B_12.mod m_148 (λ hq=>d_222 _ hq rfl)
 have B_12:=B_12.later x_159
 have d_224:∀ q∈Rep.blkOf A_146,q=b_9→False:=λ q hq hb=>by (exact Or.elim (g_150 q hq) (λ k_225=>by (exact d_222 q k_225 hb)) (λ k_225=>by omega))
 have B_12:=B_12.mod m_167 (λ hq=>d_224 _ hq rfl)
 have B_12:=B_12.later x_178
 have d_226:∀ q∈Rep.blkOf A_165,q=b_9→False:=λ q hq hb=>by (exact Or.elim (g_169 q hq) (λ k_227=>by (exact d_224 q k_227 hb)) (λ k_227=>by omega))
 have B_12:=B_12.mod m_186 (λ hq=>d_226 _ hq rfl)
 refine lp (λ mI EI wI=>∃ k:Nat,EI= [(0, .pointer (some ⟨S,0,none⟩)),(4, .pointer (some ⟨b_9,0,none⟩)),(35, .slice A_184 ((Wd.around p).length) c_185),(36, .int .i64 10),(37, .int .i64 (k:Int))]∧mI=10 - k∧Ext w wI∧Blk wI S (Wd.cells a W) 176 (0,0)∧Blk wI b_9 [.int .i64 0, .int .i64 0] 49 (0,0)∧Cel.rep.SOwn 49 16 wI w.heap.size (Rep.blkOf A_184) A_184 c_185 ((Wd.around p))∧(k≤10)∧(∀ j,j<k→W.openTo ((Wd.around p).getD j default)=false)) _ _ ⟨0,rfl,rfl,z_183,BS,B_12,O_187,by omega,λ j hj=>absurd hj (by omega)⟩ (.cons rfl (.cons rfl (.cons rfl (.cons (loI rfl (by first | omega | rfl | (simp<;>omega))) (.cons (loI rfl (by first | omega | rfl | (simp<;>omega))) .nil))))) ?_
 rintro m_228 E_229 w_193 ⟨k,rfl,rfl,z_193,BS,B_12,O_187,hk,hno⟩
 have:=z_193.size
 have q_231:=BS.lt
 have q_232:=B_12.lt
 have u_233:=λ q hq=>(O_187.lt q hq).2
 refine sg<|vL (blt rfl rfl)<|nK<|sq<| ?_
 refine clt rfl (λ h_234=> ?_) (λ h_234=> ?_)
 ·refine sK<|sq<|bk<|sg<|vL (iA k Tryz.underlying25 eF4 rfl rfl (O_187.has.adr (zl k (by show k<10;omega))) rfl (by show k<10;omega))<|vL (ld rfl (Rep.SHas.elt hcC (by rw [← O_187.has.adr (zl k (by show k<10;omega))];exact O_187.has) (get_d (l:=(Wd.around p)) (u:=default) (by show k<10;omega)) eF3 eF4))<|al rfl eF41 rfl rfl λ w_235 b_236 x_237 l_238 B_239=> ?_
  have:=x_237.size
  have z_235:=eT z_193 x_237
  have q_241:=B_239.lt
  refine st (new:= [.int .i64 ((((Wd.around p)).getD k default).x), .int .i64 ((((Wd.around p)).getD k default).y)]) rfl rfl B_239 rfl eF4 rfl rfl rfl λ w_242 m_243 B_239=> ?_
  have:=m_243.size
  have z_242:=Ext.mod z_235 m_243 (ge1 (by omega))
  have:=m_243.size
  refine nK<|sq<| ?_
  refine rd [(4,0),(5,0),(6,0)] [0,1,2,3,4,5,6,7,8,9,10,11] (by kernel_rfl) (by kernel_rfl) ?_
  refine fw1 rfl (λ _=>mv rfl)<|fw1 rfl (λ _=>nc rfl)<|fw1 rfl (λ _=>fa eF111 rfl)<|fw1 rfl (λ _=>fa eF59 rfl)<| ?_
  have BS:=BS.later x_237
  have BS:=BS.mod m_243 (nm1 (by omega))
  refine fq1 rfl (λ _ x=>ld rfl ((BS.later x).par [.int .i64 W.field.wide, .int .i64 W.field.high, .slice a.P W.field.places.length a.p] eF23 eF24 rfl))<|fq1 rfl (λ _ x=>ld rfl ((B_239.later x).all eF3 eF4))<|fc rfl rfl eF25 rfl (λ _ x=>fldAt W.field ((Wd.around p).getD k default) a.P a.p _ (HP.keep (z_242.tr x))) rfl<|fw1 rfl (λ _=>mv rfl)<|fw1 rfl (λ _=>ex rfl rfl)<|fw1 rfl (λ _=>ex rfl rfl)<|fw1 rfl (λ _=>as_ rfl)<|fw1 rfl (λ _=>as_ rfl)<|fn λ w_246 x_247=> ?_
  have:=x_247.size
  have z_246:=eT z_242 x_247
  refine nT<|sg<|vm rfl<|vL (beq rfl rfl)<|vm rfl<|vQ rfl rfl rfl rfl (λ hc=>mv rfl) rfl<|vQ rfl rfl rfl rfl (λ hc=>bne (gt hc rfl) rfl) rfl<|vL (pA rfl rfl rfl rfl)<|vm rfl<|vQ rfl rfl rfl rfl (λ hc=>mv rfl) rfl<|vQ rfl rfl rfl rfl (λ hc=>nc (gt hc rfl)) rfl<|vQ rfl rfl rfl rfl (λ hc=>fa eF111 (gt hc rfl)) rfl<|vQ rfl rfl rfl rfl (λ hc=>fa eF64 (gt hc rfl)) rfl<| ?_
  have BS:=BS.later x_247
  refine vQ rfl rfl rfl rfl (λ hc=>ld (gt hc rfl) (BS.one eF65 rfl)) rfl<|vQ rfl rfl rfl rfl (λ hc=>mf rfl rfl) rfl<| ?_
  have B_239:=B_239.later x_247
  refine vC rfl rfl rfl rfl eF112 (λ hc=>ec (gt hc rfl) (ec (gt hc rfl) rfl)) (λ hc=>has_fr ((Wd.around p).getD k default) b_236 a.T a.t W.troops _ (HT.keep z_246) ⟨B_239.cell 0,B_239.cell 1⟩) rfl λ w_249 x_250=> ?_
  have:=x_250.size
  have z_249:=eT z_246 x_250
  refine vQ rfl rfl rfl rfl (λ hc=>nt (gt hc rfl)) rfl<|vL (pA rfl rfl rfl rfl)<|nK<| ?_
  refine cb rfl (λ h_252=> ?_) (λ h_252=> ?_)
  ·rw [open_eq hG.field] at h_252
   refine sg<| ?_
   have B_239:=B_239.later x_250
   refine vL (ld rfl (B_239.all eF3 eF4))<| ?_
   have B_12:=B_12.later x_237
   have B_12:=B_12.mod m_243 (nm1 (by omega))
   have B_12:=B_12.later (eT x_247 x_250)
   refine st (new:= [.int .i64 ((((Wd.around p)).getD k default).x), .int .i64 ((((Wd.around p)).getD k default).y)]) rfl rfl B_12 rfl eF4 rfl rfl rfl λ w_253 m_254 B_12=> ?_
   have:=m_254.size
   have z_253:=Ext.mod z_249 m_254 (ge1 (by omega))
   have:=m_254.size
   refine va rfl<|nK<|rt<|tB<|tT<|tK<|tB<|tT<|tR (.cell rfl (B_12.all eF3 eF4) (.tmp rfl .nil))<| ?_
   exact ⟨by rw [free_some (by omega) hno ‹_›];rfl,z_253⟩
  ·rw [open_eq hG.field] at h_252
   refine sk<|nB<|nT<|rg<|vL (bad rfl rfl (inI (by omega)))<|vm rfl<|nl<| ?_
   have BS:=BS.later x_250
   have B_12:=B_12.later x_237
   have B_12:=B_12.mod m_243 (nm1 (by omega))
   have B_12:=B_12.later (eT x_247 x_250)
   have O_187:=O_187.later x_237
   have O_187:=O_187.mod m_243 (fk1 u_233 (by omega))
   have O_187:=O_187.later (eT x_247 x_250)
   exact nI _ _ ⟨k+1,rfl,rfl,z_249,BS,B_12,O_187,by omega,lt_succ_all hno (by assumption)⟩ (by omega) (.cons rfl (.cons rfl (.cons rfl (.cons rfl (.cons (loI rfl (by first | omega | rfl | (simp<;>omega))) .nil)))))
 ·refine xt<|xT<|xK<|xB<|nT<|sg<|vL (v:= .agg #[.int .i64 0, .int .i64 0]) (bd rfl (by kernel_rfl))<|st (new:= [.int .i64 0, .int .i64 0]) rfl rfl B_12 rfl eF4 rfl rfl rfl λ w_257 m_258 B_12=> ?_
  have:=m_258.size
  have z_257:=Ext.mod z_193 m_258 (ge1 (by omega))
  have:=m_258.size
  refine va rfl<|nK<|rt<|tR (.cell rfl (B_12.all eF3 eF4) (.tmp rfl .nil))<| ?_
  exact ⟨by rw [free_none (λ j hj=>hno j (by omega))];rfl,z_257⟩
end
section
open Go.RowKit
theorem GooP_el_S_api_Troop:ElT Tryz.prog Trp.rep 26 66 56:=ElT.mk_ (z:=Trp.zero) (k:=7) Tryz.underlying26 Trp.info rfl rfl (by decide) Trp.zero_raw
theorem price_le (k:Int):0≤Wd.priceOf k∧Wd.priceOf k≤12:=by unfold Wd.priceOf;split<;>(try split)<;>omega
theorem life_le (k:Int):0≤Wd.lifeOf k∧Wd.lifeOf k≤20:=by unfold Wd.lifeOf;split<;>(try split)<;>omega
theorem kindE_ok {k:Int}:(kindE k != 0)= !inB k 1 2:=by
 unfold kindE
 by_cases h1:k=1
 ·subst h1;rfl
 ·by_cases h2:k=2
  ·subst h2;rfl
  ·rw [if_neg h1,if_neg h2,inB_not (by omega)];rfl
theorem hire_guard {W:Wd} {d:Ded} (hG:Good W) (h:(((((decide (d.who<0) || decide ((W.bases.length:Int)≤d.who)) || kindE d.what != 0) || decide (W.stocks.getD d.who.toNat 0<Wd.priceOf d.what)) || decide (100≤(W.troops.length:Int))) || decide (1000000≤W.next))=false):
  0≤d.who∧d.who<(W.bases.length:Int)∧inB d.what 1 2=true∧Wd.priceOf d.what≤W.stocks.getD d.who.toNat 0∧W.troops.length<100∧W.next<1000000:=by
 simp only [Bool.or_eq_false_iff,decide_eq_false_iff_not,kindE_ok,Bool.not_eq_false'] at h
 obtain ⟨⟨⟨⟨⟨h1,h2⟩,h3⟩,h4⟩,h5⟩,h6⟩:=h
 exact ⟨by omega,by omega,h3,by omega,by omega,by omega⟩
theorem hire_no {W:Wd} {d:Ded} (hG:Good W) (h:(((((decide (d.who<0) || decide ((W.bases.length:Int)≤d.who)) || kindE d.what != 0) || decide (W.stocks.getD d.who.toNat 0<Wd.priceOf d.what)) || decide (100≤(W.troops.length:Int))) || decide (1000000≤W.next))=true):W.hire d=none:=by
 unfold Wd.hire
 rw [if_neg]
 intro hc
 simp only [Bool.and_eq_true,decide_eq_true_eq] at hc
 obtain ⟨⟨⟨⟨c1,c2⟩,c3⟩,c4⟩,c5⟩:=hc
 have c1:=inB_true c1
 simp only [kindE_ok,c2,Bool.or_eq_true,decide_eq_true_eq,Bool.not_true,Bool.false_eq_true,or_false] at h
 omega
theorem hire_cond {W:Wd} {d:Ded} (h1:0≤d.who) (h2:d.who<(W.bases.length:Int)) (h3:inB d.what 1 2=true) (h4:Wd.priceOf d.what≤W.stocks.getD d.who.toNat 0) (h5:W.troops.length<100) (h6:W.next<1000000):
  (inB d.who 0 ((W.bases.length:Int) - 1) && inB d.what 1 2 && decide (Wd.priceOf d.what≤W.stocks.getD d.who.toNat 0) && decide (W.troops.length<100) && decide (W.next<1000000))=true:=by
 rw [inB_mk h1 (by omega),h3,decide_eq_true h4,decide_eq_true h5,decide_eq_true h6];rfl
theorem hire_none {W:Wd} {d:Ded} (h1:0≤d.who) (h2:d.who<(W.bases.length:Int)) (h3:inB d.what 1 2=true) (h4:Wd.priceOf d.what≤W.stocks.getD d.who.toNat 0) (h5:W.troops.length<100) (h6:W.next<1000000) (h:(!(W.free (W.bases.getD d.who.toNat default)).isSome)=true):W.hire d=none:=by
 unfold Wd.hire
 simp only [hire_cond h1 h2 h3 h4 h5 h6,if_true]
 rw [Bool.not_eq_true',Option.isSome_eq_false_iff,Option.isNone_iff_eq_none] at h
 rw [h]
theorem hire_done {W:Wd} {d:Ded} {c:Cel} (h1:0≤d.who) (h2:d.who<(W.bases.length:Int)) (h3:inB d.what 1 2=true) (h4:Wd.priceOf d.what≤W.stocks.getD d.who.toNat 0) (h5:W.troops.length<100) (h6:W.next<1000000) (hc:(W.free (W.bases.getD d.who.toNat default)).getD ⟨0,0⟩=c) (h:(!(W.free (W.bases.getD d.who.toNat default)).isSome)=false):
  W.hire d=some {W with troops:=W.troops++ [⟨W.next,d.who,d.what,c,Wd.lifeOf d.what,0⟩],next:=W.next+1,stocks:=W.stocks.set d.who.toNat (W.stocks.getD d.who.toNat 0 - Wd.priceOf d.what)}:=by
 unfold Wd.hire
 simp only [hire_cond h1 h2 h3 h4 h5 h6,if_true]
 cases hf:W.free (W.bases.getD d.who.toNat default) with
 | none=>rw [hf] at h;cases h
 | some c'=>rw [hf] at hc;obtain rfl:c'=c:=hc;rfl
theorem hire_base {W:Wd} {d:Ded} (hG:Good W) (h1:0≤d.who) (h2:d.who<(W.bases.length:Int)):(0≤(W.bases.getD d.who.toNat default).x∧(W.bases.getD d.who.toNat default).x≤100∧0≤(W.bases.getD d.who.toNat default).y∧(W.bases.getD d.who.toNat default).y≤100)∧d.who.toNat<W.bases.length:=by
 have hlt:d.who.toNat<W.bases.length:=by omega
 have:=(hG.bases _ _ (get_d (u:=default) hlt)).1
 obtain ⟨i1,i2,i3,i4,i5,i6⟩:=Fld.idx hG.field (Fld.ground_in this)
 obtain ⟨y1,y2,y3,y4,_,_⟩:=Fld.good hG.field
 exact ⟨⟨by omega,by omega,by omega,by omega⟩,hlt⟩
theorem free_cell {W:Wd} {p c:Cel} (hp:0≤p.x∧p.x≤100∧0≤p.y∧p.y≤100) (hc:(W.free p).getD ⟨0,0⟩=c): -1≤c.x∧c.x≤101∧ -1≤c.y∧c.y≤101:=by
 cases hf:W.free p with
 | none=>rw [hf] at hc;subst hc;decide
 | some q =>
  rw [hf] at hc
  obtain rfl:q=c:=hc
  have:=List.mem_of_find?_eq_some hf
  simp only [Wd.around,List.mem_cons,List.not_mem_nil,or_false] at this
  rcases this with rfl | rfl | rfl | rfl | rfl | rfl | rfl | rfl | rfl | rfl<;>(try dsimp only)<;>omega
theorem hire2 (d:Ded) (w:World) (Z S:Nat) (a:Wd.At) (W:Wd) (h:Shop w Z S a W) (hG:Good W):
  Calls Tryz.prog 140 #[.pointer (some ⟨S,0,none⟩), .agg #[.int .i64 d.kind, .int .i64 d.who, .int .i64 d.spot.x, .int .i64 d.spot.y, .int .i64 d.what]] w (ShopPost W (W.hire d) w Z S a):=by
 have hsl:=hG.sl
 have hlow:=h.low
 have hZ:Z≤w.heap.size:=by have:=h.low;have:=h.blk.lt;omega
 have hfar:=h.far
 have q0:=h.blk.lt
 have BS:=h.blk
 have HO:=h.own
 have u_1:=λ q hq=>(HO.lt q hq).2
 have dS:∀ q∈WOwn.foot a,q=S→False:=λ q hq hb=>hfar (hb ▸ hq)
 refine calls_W (n:=126) Tryz.func140 rfl rfl rfl ?_
 refine sg<|bx rfl rfl rfl rfl λ w_2 b_3 x_4 l_5 B_6=> ?_
 have:=x_4.size
 have z_2:=(Mod.rf (S::WOwn.foot a) w).trans (Mod.of_ext x_4)
 have q_8:=B_6.lt
 refine va rfl<|nK<|sg<|vL (fa eF113 rfl)<|vL (ld rfl (B_6.one eF1 rfl))<|ca eF53 rfl rfl ((kind_any d.what _).mono ?_)
 rintro e w_9 ⟨rfl,x_10⟩
 refine ⟨_,rfl, ?_⟩
 have:=x_10.size
 have z_9:=z_2.trans (Mod.of_ext x_10)
 refine vm rfl<|vL (ex rfl rfl)<|vL (ex rfl rfl)<|al rfl eF54 rfl rfl λ w_12 b_13 x_14 l_15 B_16=> ?_
 have:=x_14.size
 have z_12:=z_9.trans (Mod.of_ext x_14)
 have q_18:=B_16.lt
 refine st (new:= [.int .i64 (Wd.lifeOf d.what), .int .i64 (reachOf d.what), .int .i64 (harmOf d.what), .int .i64 (Wd.priceOf d.what)]) rfl rfl B_16 rfl eF55 rfl rfl rfl λ w_19 m_20 B_16=> ?_
 have:=m_20.size
 have z_19:=z_12.md m_20 (λ q hq=> .inr (by have:=List.mem_singleton.1 hq;omega))
 have:=m_20.size
 refine va rfl<|nK<|sq<|sq<| ?_
 refine rd [(1,0),(5,0),(10,0),(23,0),(25,0),(27,0),(29,0),(37,0),(46,0)] [0,1,2,3,4,5,6,7,8,9,10,11,12,13,14,15,16,17,18,19,20,21,22,23,24,25,26,27,28,29,30,31,32,33,34,35,36,37,38,39,40,41,42,43,44,45,46,47,48] (by kernel_rfl) (by kernel_rfl) ?_
 refine fw1 rfl (λ _=>fa eF106 rfl)<| ?_
 have B_6:=B_6.later (eT x_10 x_14)
 have B_6:=B_6.mod m_20 (nm1 (by omega))
 refine fq1 rfl (λ _ x=>ld rfl ((B_6.later x).one eF1 rfl))<|fw1 rfl (λ _=>blt rfl rfl)<|fw1 rfl (λ _=>mv rfl)<|fW rfl rfl rfl rfl rfl rfl (λ hc _=>fa eF106 rfl) rfl<|fQ rfl rfl rfl rfl rfl rfl (λ hc _ x=>ld (gt hc rfl) ((B_6.later x).one eF1 rfl)) rfl<|fW rfl rfl rfl rfl rfl rfl (λ hc _=>mv rfl) rfl<|fW rfl rfl rfl rfl rfl rfl (λ hc _=>nc (gt hc rfl)) rfl<|fW rfl rfl rfl rfl rfl rfl (λ hc _=>fa eF111 (gt hc rfl)) rfl<|fW rfl rfl rfl rfl rfl rfl (λ hc _=>fa eF83 (gt hc rfl)) rfl<| ?_
 have BS:=BS.later (eT x_4 (eT x_10 x_14))
 have BS:=BS.mod m_20 (nm1 (by omega))
 refine fQ rfl rfl rfl rfl rfl rfl (λ hc _ x=>ld (gt hc rfl) ((BS.later x).one eF84 rfl)) rfl<|fW rfl rfl rfl rfl rfl rfl (λ hc _=>ln Tryz.underlying25 (gt hc rfl)) rfl<|fW rfl rfl rfl rfl rfl rfl (λ hc _=>bge (gt hc rfl) (gt hc rfl)) rfl<|fw1 rfl (λ _=>pO rfl rfl rfl rfl)<|fw1 rfl (λ _=>mv rfl)<|fW rfl rfl rfl rfl rfl rfl (λ hc _=>mv rfl) rfl<|fW rfl rfl rfl rfl rfl rfl (λ hc _=>bne (gt hc rfl) rfl) rfl<|fw1 rfl (λ _=>pO rfl rfl rfl rfl)<|fw1 rfl (λ _=>mv rfl)<|fW rfl rfl rfl rfl rfl rfl (λ hc _=>mv rfl) rfl<|fW rfl rfl rfl rfl rfl rfl (λ hc _=>nc (gt hc rfl)) rfl<|fW rfl rfl rfl rfl rfl rfl (λ hc _=>fa eF111 (gt hc rfl)) rfl<|fW rfl rfl rfl rfl rfl rfl (λ hc _=>fa eF85 (gt hc rfl)) rfl<|fQ rfl rfl rfl rfl rfl rfl (λ hc _ x=>ld (gt hc rfl) ((BS.later x).one eF36 rfl)) rfl<|fW rfl rfl rfl rfl rfl rfl (λ hc _=>fa eF106 rfl) rfl<|fQ rfl rfl rfl rfl rfl rfl (λ hc _ x=>ld (gt hc rfl) ((B_6.later x).one eF1 rfl)) rfl<| ?_
 have HO:=HO.later (eT x_4 (eT x_10 x_14))
 have HO:=HO.mod m_20 (fk1 u_1 (by omega))
 refine fW rfl rfl rfl rfl rfl rfl (λ hc _=>iA d.who.toNat Tryz.underlying22 eF7 (gt hc rfl) (gt hc rfl) (HO.S.has.adr (zl d.who.toNat (by (try simp only [bS] at hc);omega))) (by (try simp only [bS] at hc);omega) (by (try simp only [bS] at hc);omega)) rfl<|fQ rfl rfl rfl rfl rfl rfl (λ hc _ x=>ld (gt hc rfl) (Rep.SHas.one' hcI (by rw [← (HO.later x).S.has.adr (zl d.who.toNat (by (try simp only [bS] at hc);omega))];exact (HO.later x).S.has) (get_d (l:=W.stocks) (u:=0) (by (try simp only [bS] at hc);omega)) rfl eF1)) rfl<|fW rfl rfl rfl rfl rfl rfl (λ hc _=>fa eF114 rfl) rfl<|fQ rfl rfl rfl rfl rfl rfl (λ hc _ x=>ld (gt hc rfl) ((B_16.later x).one eF1 rfl)) rfl<|fW rfl rfl rfl rfl rfl rfl (λ hc _=>blt (gt hc rfl) (gt hc rfl)) rfl<|fw1 rfl (λ _=>pO rfl rfl rfl rfl)<|fw1 rfl (λ _=>mv rfl)<|fW rfl rfl rfl rfl rfl rfl (λ hc _=>mv rfl) rfl<|fW rfl rfl rfl rfl rfl rfl (λ hc _=>nc (gt hc rfl)) rfl<|fW rfl rfl rfl rfl rfl rfl (λ hc _=>fa eF111 (gt hc rfl)) rfl<|fW rfl rfl rfl rfl rfl rfl (λ hc _=>fa eF64 (gt hc rfl)) rfl<|fQ rfl rfl rfl rfl rfl rfl (λ hc _ x=>ld (gt hc rfl) ((BS.later x).one eF65 rfl)) rfl<|fW rfl rfl rfl rfl rfl rfl (λ hc _=>ln Tryz.underlying26 (gt hc rfl)) rfl<|fW rfl rfl rfl rfl rfl rfl (λ hc _=>bge (gt hc rfl) rfl) rfl<|fw1 rfl (λ _=>pO rfl rfl rfl rfl)<|fw1 rfl (λ _=>mv rfl)<|fW rfl rfl rfl rfl rfl rfl (λ hc _=>mv rfl) rfl<|fW rfl rfl rfl rfl rfl rfl (λ hc _=>nc (gt hc rfl)) rfl<|fW rfl rfl rfl rfl rfl rfl (λ hc _=>fa eF111 (gt hc rfl)) rfl<|fW rfl rfl rfl rfl rfl rfl (λ hc _=>fa eF115 (gt hc rfl)) rfl<|fQ rfl rfl rfl rfl rfl rfl (λ hc _ x=>ld (gt hc rfl) ((BS.later x).one eF1 rfl)) rfl<|fW rfl rfl rfl rfl rfl rfl (λ hc _=>bge (gt hc rfl) rfl) rfl<|fw1 rfl (λ _=>pO rfl rfl rfl rfl)<|fn λ w_23 x_24=> ?_
 have:=x_24.size
 have z_23:=z_19.trans (Mod.of_ext x_24)
 refine nT<| ?_
 refine cb rfl (λ h_26=> ?_) (λ h_26=> ?_)
 ·refine sg<|va rfl<|nK<|rt<|tT<|tR (.tmp rfl .nil)<| ?_
  have BS:=BS.later x_24
  have HO:=HO.later x_24
  exact ⟨a,by rw [hire_no hG h_26];rfl,by rw [hire_no hG h_26];exact ⟨BS,HO,hfar,hlow⟩,λ q hq=> .inl hq,z_23⟩
 ·obtain ⟨h1,h2,h3,h4,h5,h6⟩:=hire_guard hG h_26
  obtain ⟨hbase,hlt⟩:=hire_base hG h1 h2
  have hst:=hG.stocks _ _ (get_d (u:=0) (l:=W.stocks) (j:=d.who.toNat) (by omega))
  obtain ⟨c,hc⟩:∃ c,(W.free (W.bases.getD d.who.toNat default)).getD ⟨0,0⟩=c:=⟨_,rfl⟩
  have hpr:=price_le d.what
  have hwh:=inB_true h3
  have hnx:=hG.next
  have hlen:=hG.nt
  have hbl:=hG.nb
  have hcb:=free_cell hbase hc
  refine sK<|sq<| ?_
  refine rd [(5,0),(7,0),(9,0),(10,0),(14,2),(15,3)] [0,1,2,3,4,5,6,7,8,9,10,11,12,13,14,15,16] (by kernel_rfl) (by kernel_rfl) ?_
  refine fw1 rfl (λ _=>mv rfl)<|fw1 rfl (λ _=>mv rfl)<|fw1 rfl (λ _=>nc rfl)<|fw1 rfl (λ _=>fa eF111 rfl)<|fw1 rfl (λ _=>fa eF83 rfl)<| ?_
  have BS:=BS.later x_24
  refine fq1 rfl (λ _ x=>ld rfl ((BS.later x).one eF84 rfl))<|fw1 rfl (λ _=>fa eF106 rfl)<| ?_
  have B_6:=B_6.later x_24
  refine fq1 rfl (λ _ x=>ld rfl ((B_6.later x).one eF1 rfl))<| ?_
  have HO:=HO.later x_24
  refine fw1 rfl (λ _=>iA d.who.toNat Tryz.underlying25 eF4 rfl rfl (HO.B.has.adr (zl d.who.toNat (by omega))) (by omega) (by omega))<|fq1 rfl (λ _ x=>ld rfl (Rep.SHas.elt hcC (by rw [← (HO.later x).B.has.adr (zl d.who.toNat (by omega))];exact (HO.later x).B.has) (get_d (l:=W.bases) (u:=default) (by omega)) eF3 eF4))<|fc rfl rfl eF116 rfl (λ _ x=>free_any (W.bases.getD d.who.toNat default) _ Z S a W (⟨(BS.later x),(HO.later x),hfar,hlow⟩) hG hbase) rfl<|fw1 rfl (λ _=>mv rfl)<|fw1 rfl (λ _=>ex rfl rfl)<|fw1 rfl (λ _=>ex rfl rfl)<|fx rfl rfl rfl λ w_27 x_28 Q hK=>al rfl eF41 rfl rfl λ w_29 b_30 x_31 l_32 B_33=>hK _ _ ⟨eT x_28 x_31, ?_⟩
  have:=x_28.size
  have z_27:=z_23.trans (Mod.of_ext x_28)
  have:=x_31.size
  have z_29:=z_27.trans (Mod.of_ext x_31)
  have q_36:=B_33.lt
  refine fb rfl rfl rfl λ w_37 x_38 Q hK=>st rfl rfl (B_33.later x_38) rfl eF4 rfl rfl rfl λ w_39 m_40 B_33=>hK _ _ ?_
  have:=x_38.size
  have z_37:=z_29.trans (Mod.of_ext x_38)
  have:=m_40.size
  have z_39:=z_37.md m_40 (λ q hq=> .inr (by have:=List.mem_singleton.1 hq;omega))
  have:=m_40.size
  refine fw1 rfl (λ _=>as_ rfl)<|fn λ w_44 x_45=> ?_
  have:=x_45.size
  have z_44:=z_39.trans (Mod.of_ext x_45)
  refine nT<|sq<|sg<|vm rfl<|vL (nt rfl)<|nK<| ?_
  refine cb rfl (λ h_47=> ?_) (λ h_47=> ?_)
  ·refine sg<|va rfl<|nK<|rt<|tT<|tR (.tmp rfl .nil)<| ?_
   have BS:=BS.later (eT x_28 (eT x_31 x_38))
   have BS:=BS.mod m_40 (nm1 (by omega))
   have BS:=BS.later x_45
   have HO:=HO.later (eT x_28 (eT x_31 x_38))
   have HO:=HO.mod m_40 (fk1 u_1 (by omega))
   have HO:=HO.later x_45
   exact ⟨a,by rw [hire_none h1 h2 h3 h4 h5 h6 h_47];rfl,by rw [hire_none h1 h2 h3 h4 h5 h6 h_47];exact ⟨BS,HO,hfar,hlow⟩,λ q hq=> .inl hq,z_44⟩
  ·refine sK<|sq<| ?_
   refine rd [(5,0),(10,0),(12,0),(14,0),(15,0),(17,0),(19,2),(20,3),(24,3)] [0,1,2,3,4,5,6,7,8,9,10,11,12,13,14,15,16,17,18,19,20,21,22,23,24] (by kernel_rfl) (by kernel_rfl) ?_
   refine fw1 rfl (λ _=>mv rfl)<|fw1 rfl (λ _=>mv rfl)<|fw1 rfl (λ _=>nc rfl)<|fw1 rfl (λ _=>fa eF111 rfl)<|fw1 rfl (λ _=>fa eF64 rfl)<| ?_
   have BS:=BS.later (eT x_28 (eT x_31 x_38))
   have BS:=BS.mod m_40 (nm1 (by omega))
   have BS:=BS.later x_45
   refine fq1 rfl (λ _ x=>ld rfl ((BS.later x).one eF65 rfl))<|fw1 rfl (λ _=>mv rfl)<|fw1 rfl (λ _=>nc rfl)<|fw1 rfl (λ _=>fa eF111 rfl)<|fw1 rfl (λ _=>fa eF115 rfl)<|fq1 rfl (λ _ x=>ld rfl ((BS.later x).one eF1 rfl))<|fw1 rfl (λ _=>fa eF106 rfl)<| ?_
   have B_6:=B_6.later (eT x_28 (eT x_31 x_38))
   have B_6:=B_6.mod m_40 (nm1 (by omega))
   have B_6:=B_6.later x_45
   refine fq1 rfl (λ _ x=>ld rfl ((B_6.later x).one eF1 rfl))<|fw1 rfl (λ _=>fa eF113 rfl)<|fq1 rfl (λ _ x=>ld rfl ((B_6.later x).one eF1 rfl))<| ?_
   have B_33:=B_33.later x_45
   refine fq1 rfl (λ _ x=>ld rfl ((B_33.later x).all eF3 eF4))<|fw1 rfl (λ _=>fa eF117 rfl)<| ?_
   have B_16:=B_16.later (eT x_24 (eT x_28 (eT x_31 x_38)))
   have B_16:=B_16.mod m_40 (nm1 (by omega))
   have B_16:=B_16.later x_45
   refine fq1 rfl (λ _ x=>ld rfl ((B_16.later x).one eF1 rfl))<|fw (v:= .agg #[.int .i64 W.next, .int .i64 d.who, .int .i64 d.what, .int .i64 ((((W.free (W.bases.getD d.who.toNat default)).getD ⟨0,0⟩)).x), .int .i64 ((((W.free (W.bases.getD d.who.toNat default)).getD ⟨0,0⟩)).y), .int .i64 (Wd.lifeOf d.what), .int .i64 0]) rfl rfl (λ _=>bd rfl (by kernel_rfl)) rfl<|fx rfl rfl rfl λ w_48 x_49 Q hK=>bs (e:= 66) (cs:= [.int .i64 W.next, .int .i64 d.who, .int .i64 d.what, .int .i64 ((((W.free (W.bases.getD d.who.toNat default)).getD ⟨0,0⟩)).x), .int .i64 ((((W.free (W.bases.getD d.who.toNat default)).getD ⟨0,0⟩)).y), .int .i64 (Wd.lifeOf d.what), .int .i64 0]) rfl (λ _=>by kernel_rfl) rfl λ w_50 b_51 x_52 l_53 B_54=>hK _ _ ⟨eT x_49 x_52, ?_⟩
   have:=x_49.size
   have z_48:=z_44.trans (Mod.of_ext x_49)
   have:=x_52.size
   have z_50:=z_48.trans (Mod.of_ext x_52)
   have q_57:=B_54.lt
   have HO:=HO.later (eT x_28 (eT x_31 x_38))
   have HO:=HO.mod m_40 (fk1 u_1 (by omega))
   have HO:=HO.later (eT x_45 (eT x_49 x_52))
   refine fb rfl rfl rfl λ w_58 x_59 Q hK=>ap GooP_el_S_api_Troop Rep.flat_bare (HO.later x_59).T ((Blk.has1 (R:=Trp.rep) (by_:=56) (q:=(⟨W.next,d.who,d.what,c,Wd.lifeOf d.what,0⟩:Trp)) B_54 ⟨(by rw [← hc];rfl),okI_iff.2 (by dsimp only;omega),okI_iff.2 (by dsimp only;omega),okI_iff.2 (by dsimp only;omega),okI_iff.2 (by dsimp only;omega),okI_iff.2 (by dsimp only;omega),okI_iff.2 (by dsimp only;have:=life_le d.what;omega),okI_iff.2 (by dsimp only;omega)⟩ (by decide)).keep x_59) rfl rfl (by simp;omega) (by simp;omega) (by have:=x_59.size;omega) rfl λ w_60 A_61 c_62 m_63 O_64 g_65 n_66=>hK _ _ ?_
   have:=x_59.size
   have z_58:=z_50.trans (Mod.of_ext x_59)
   have:=x_59.size
   have HO:=HO.later x_59
   have BS:=BS.later (eT x_49 (eT x_52 x_59))
   have:=m_63.size
   have z_60:=z_58.md m_63 (λ q hq=> .inl (List.mem_cons_of_mem _ (foot_T hq)))
   have:=m_63.size
   have HO2:=HO.swapT m_63 O_64 g_65
   have dS2:∀ q∈WOwn.foot {a with T:=A_61,t:=c_62},q=S→False:=λ q hq hb=>(foot_swapT (Z:=Z) (w:=w) (W:=W) hq).elim (λ h=>dS q h hb) (λ h=>(g_65 q h).elim (λ h2=>dS q (foot_T h2) hb) (λ h2=>by omega))
   have d_71:∀ q∈Rep.blkOf a.T,q=S→False:=λ q hq hb=>by (exact dS q (foot_T hq) hb)
   have BS:=BS.mod m_63 (λ hq=>d_71 _ hq rfl)
   have u_72:=λ q hq=>(HO2.lt q hq).2
   refine fw1 rfl (λ _=>nc rfl)<|fw1 rfl (λ _=>fa eF111 rfl)<|fw1 rfl (λ _=>fa eF64 rfl)<|fb rfl rfl rfl λ w_73 x_74 Q hK=>st (new:= [.int .i64 W.field.wide, .int .i64 W.field.high, .slice a.P W.field.places.length a.p, .slice a.B W.bases.length a.b, .slice a.S W.stocks.length a.s, .slice a.M W.mines.length a.m, .slice A_61 ((W.troops++ [(⟨W.next,d.who,d.what,c,Wd.lifeOf d.what,0⟩:Trp)]).length) c_62, .int .i64 W.next, .int .i64 W.now]) rfl rfl (BS.later x_74) rfl eF90 rfl rfl rfl λ w_75 m_76 BS=>hK _ _ ?_
   have:=x_74.size
   have z_73:=z_60.trans (Mod.of_ext x_74)
   have:=m_76.size
   have z_75:=z_73.md m_76 (λ q hq=> .inl (by rw [List.mem_singleton.1 hq];exact List.mem_cons_self))
   have:=m_76.size
   refine fn λ w_80 x_81=> ?_
   have:=x_81.size
   have z_80:=z_75.trans (Mod.of_ext x_81)
   refine nT<|sg<|vm rfl<|vL (nc rfl)<|vL (fa eF111 rfl)<|vL (fa eF115 rfl)<| ?_
   have BS:=BS.later x_81
   refine vL (ld rfl (BS.one eF1 rfl))<|vL (bad rfl rfl (inI (by omega)))<|vL (nc rfl)<|vL (fa eF111 rfl)<|vL (fa eF115 rfl)<|st (new:= [.int .i64 W.field.wide, .int .i64 W.field.high, .slice a.P W.field.places.length a.p, .slice a.B W.bases.length a.b, .slice a.S W.stocks.length a.s, .slice a.M W.mines.length a.m, .slice A_61 ((W.troops++ [(⟨W.next,d.who,d.what,c,Wd.lifeOf d.what,0⟩:Trp)]).length) c_62, .int .i64 (W.next+1), .int .i64 W.now]) rfl rfl BS rfl eF7 rfl rfl rfl λ w_83 m_84 BS=> ?_
   have:=m_84.size
   have z_83:=z_80.md m_84 (λ q hq=> .inl (by rw [List.mem_singleton.1 hq];exact List.mem_cons_self))
   have:=m_84.size
   refine nK<|sq<| ?_
   refine rd [(4,0),(6,0),(8,0),(10,0),(13,3)] [0,1,2,3,4,5,6,7,8,9,10,11,12,13] (by kernel_rfl) (by kernel_rfl) ?_
   refine fw1 rfl (λ _=>mv rfl)<|fw1 rfl (λ _=>nc rfl)<|fw1 rfl (λ _=>fa eF111 rfl)<|fw1 rfl (λ _=>fa eF85 rfl)<|fq1 rfl (λ _ x=>ld rfl ((BS.later x).one eF36 rfl))<|fw1 rfl (λ _=>fa eF106 rfl)<| ?_
   have B_6:=B_6.later (eT x_49 (eT x_52 x_59))
   have d_87:∀ q∈Rep.blkOf a.T,q=b_3→False:=λ q hq hb=>by (have:=u_1 q (foot_T hq);omega)
   have B_6:=B_6.mod m_63 (λ hq=>d_87 _ hq rfl)
   have B_6:=B_6.later x_74
   have B_6:=B_6.mod m_76 (nm1 (by omega))
   have B_6:=B_6.later x_81
   have B_6:=B_6.mod m_84 (nm1 (by omega))
   refine fq1 rfl (λ _ x=>ld rfl ((B_6.later x).one eF1 rfl))<| ?_
   have HO2:=HO2.later x_74
   have HO2:=HO2.mod m_76 (λ q hq h=>by have hb:=List.mem_singleton.1 h;exfalso;(exact dS2 q hq hb))
   have HO2:=HO2.later x_81
   have HO2:=HO2.mod m_84 (λ q hq h=>by have hb:=List.mem_singleton.1 h;exfalso;(exact dS2 q hq hb))
   refine fw1 rfl (λ _=>iA d.who.toNat Tryz.underlying22 eF7 rfl rfl (HO2.S.has.adr (zl d.who.toNat (by show d.who.toNat<W.stocks.length;omega))) (by omega) (by show d.who.toNat<W.stocks.length;omega))<|fq1 rfl (λ _ x=>ld rfl (Rep.SHas.one' hcI (by rw [← (HO2.later x).S.has.adr (zl d.who.toNat (by show d.who.toNat<W.stocks.length;omega))];exact (HO2.later x).S.has) (get_d (l:=W.stocks) (u:=0) (by show d.who.toNat<W.stocks.length;omega)) rfl eF1))<|fw1 rfl (λ _=>fa eF114 rfl)<| ?_
   have B_16:=B_16.later (eT x_49 (eT x_52 x_59))
   have d_88:∀ q∈Rep.blkOf a.T,q=b_13→False:=λ q hq hb=>by (have:=u_1 q (foot_T hq);omega)
   have B_16:=B_16.mod m_63 (λ hq=>d_88 _ hq rfl)
   have B_16:=B_16.later x_74
   have B_16:=B_16.mod m_76 (nm1 (by omega))
   have B_16:=B_16.later x_81
   have B_16:=B_16.mod m_84 (nm1 (by omega))
   refine fq1 rfl (λ _ x=>ld rfl ((B_16.later x).one eF1 rfl))<|fw1 rfl (λ _=>bsu rfl rfl (inI (by omega)))<|fw1 rfl (λ _=>iA d.who.toNat Tryz.underlying22 eF7 rfl rfl (HO2.S.has.adr (zl d.who.toNat (by show d.who.toNat<W.stocks.length;omega))) (by omega) (by show d.who.toNat<W.stocks.length;omega))<|fb rfl rfl rfl λ w_89 x_90 Q hK=>so (q':=W.stocks.getD d.who.toNat 0 - Wd.priceOf d.what) (j:=0) (i:=d.who.toNat) (HO2.later x_90).S Rep.flat_bare (get_d (u:=0) (l:=W.stocks) (by omega)) rfl rfl rfl rfl (λ _ cs h=>by obtain rfl:=hcI h;exact ⟨rfl,okI_iff.2 (by omega)⟩) rfl rfl eF7 λ w_91 m_92 O_93=>hK _ _ ?_
   have:=x_90.size
   have z_89:=z_83.trans (Mod.of_ext x_90)
   have:=x_90.size
   have HO2:=HO2.later x_90
   have BS:=BS.later x_90
   have:=m_92.size
   have z_91:=z_89.md m_92 (λ q hq=> .inl (List.mem_cons_of_mem _ (foot_S (a:=a) hq)))
   have HO3:=HO2.setS m_92 O_93
   have d_97:∀ q∈Rep.blkOf a.S,q=S→False:=λ q hq hb=>by (exact dS2 q (foot_S hq) hb)
   have BS:=BS.mod m_92 (λ hq=>d_97 _ hq rfl)
   have u_98:=λ q hq=>(HO3.lt q hq).2
   refine fn λ w_99 x_100=> ?_
   have:=x_100.size
   have z_99:=z_91.trans (Mod.of_ext x_100)
   refine nT<|sg<|va rfl<|nK<|rt<|tR (.tmp rfl .nil)<| ?_
   have BS:=BS.later x_100
   have HO3:=HO3.later x_100
   rw [hire_done h1 h2 h3 h4 h5 h6 hc h_47]
   exact ⟨{a with T:=A_61,t:=c_62},rfl,⟨by simpa [Wd.cells] using BS,HO3.setN rfl rfl rfl rfl rfl ⟨HO3.nums.1,HO3.nums.2.1,okI_iff.2 (by show -9223372036854775808≤W.next+1∧W.next+1≤9223372036854775807;omega),HO3.nums.2.2.2⟩,λ hq=>dS2 _ hq rfl,hlow⟩,λ q hq=>(foot_swapT (Z:=Z) (w:=w) (W:=W) hq).elim .inl (λ h=>(g_65 q h).elim (λ h=> .inl (foot_T h)) (λ h=> .inr (by omega))),z_99⟩
end
section
open Go.RowKit
theorem own_any (a:Wd.At) (W:Wd) (w:World) (hW:Wd.Has w a W):
    Calls Tryz.prog 99 #[.agg (Wd.cells a W).toArray] w λ e w'=>∃ a':Wd.At,e= .returned (.agg (Wd.cells a' W).toArray)∧WOwn w' w.heap.size a' W∧Below w.heap.size w w':=by
  obtain ⟨aP,aB,aS,aM,aT,kP,kB,kS,kM,kT⟩:=a
  show Calls _ _ #[.agg #[.int .i64 W.field.wide, .int .i64 W.field.high, .slice aP W.field.places.length kP, .slice aB W.bases.length kB, .slice aS W.stocks.length kS, .slice aM W.mines.length kM, .slice aT W.troops.length kT, .int .i64 W.next, .int .i64 W.now]] _ _
  have hb0:=below_alloc0 w (.cells #[.int .i64 W.field.wide, .int .i64 W.field.high, .slice aP W.field.places.length kP, .slice aB W.bases.length kB, .slice aS W.stocks.length kS, .slice aM W.mines.length kM, .slice aT W.troops.length kT, .int .i64 W.next, .int .i64 W.now] 28)
  have hA:=Blk.new w [.int .i64 W.field.wide, .int .i64 W.field.high, .slice aP W.field.places.length kP, .slice aB W.bases.length kB, .slice aS W.stocks.length kS, .slice aM W.mines.length kM, .slice aT W.troops.length kT, .int .i64 W.next, .int .i64 W.now] 28 (0,0)
  obtain ⟨w0,HW0⟩:∃ w0,Hid (w.alloc (.cells #[.int .i64 W.field.wide, .int .i64 W.field.high, .slice aP W.field.places.length kP, .slice aB W.bases.length kB, .slice aS W.stocks.length kS, .slice aM W.mines.length kM, .slice aT W.troops.length kT, .int .i64 W.next, .int .i64 W.now] 28)=w0):=⟨_,Lib.hid rfl⟩
  rw [HW0.out] at hb0
  have HA:Hid (Blk w0 w.heap.size [.int .i64 W.field.wide, .int .i64 W.field.high, .slice aP W.field.places.length kP, .slice aB W.bases.length kB, .slice aS W.stocks.length kS, .slice aM W.mines.length kM, .slice aT W.troops.length kT, .int .i64 W.next, .int .i64 W.now] 28 (0,0)):=by rw [← HW0.out];exact hA
  have hsz0:w0.heap.size=w.heap.size+1:=by rw [← HW0.out];simp
  have hbr0:=below_alloc0 w0 (.cells #[.int .i64 0, .int .i64 0, .slice none 0 0, .slice none 0 0, .slice none 0 0, .slice none 0 0, .slice none 0 0, .int .i64 0, .int .i64 0] 28)
  have hR:=Blk.new w0 [.int .i64 0, .int .i64 0, .slice none 0 0, .slice none 0 0, .slice none 0 0, .slice none 0 0, .slice none 0 0, .int .i64 0, .int .i64 0] 28 (0,0)
  rw [hsz0] at hR
  obtain ⟨wz,HWZ⟩:∃ wz,Hid (w0.alloc (.cells #[.int .i64 0, .int .i64 0, .slice none 0 0, .slice none 0 0, .slice none 0 0, .slice none 0 0, .slice none 0 0, .int .i64 0, .int .i64 0] 28)=wz):=⟨_,Lib.hid rfl⟩
  rw [HWZ.out] at hbr0
  have HR:Hid (Blk wz (w.heap.size+1) [.int .i64 0, .int .i64 0, .slice none 0 0, .slice none 0 0, .slice none 0 0, .slice none 0 0, .slice none 0 0, .int .i64 0, .int .i64 0] 28 (0,0)):=by rw [← HWZ.out];exact hR
  have HA:=Lib.hid (HA.out.later hbr0)
  have hb0:=hb0.trans (hbr0.mono hb0.size)
  have hW0:=hW.keep hb0
  have HP:=Lib.hid (λ V (h:Below wz.heap.size wz V)=>clone_I aP kP W.field.places V (hW0.P.keep h))
  have HB:=Lib.hid (λ V (h:Below w.heap.size w V)=>clone_C aB kB W.bases V (hW.B.keep h))
  have HS:=Lib.hid (λ V (h:Below w.heap.size w V)=>clone_I aS kS W.stocks V (hW.S.keep h))
  have HM:=Lib.hid (λ V (h:Below w.heap.size w V)=>clone_I aM kM W.mines V (hW.M.keep h))
  have HT:=Lib.hid (λ V (h:Below w.heap.size w V)=>clone_T aT kT W.troops V (hW.T.keep h))
  have HN:=Lib.hid hW.nums
  clear hW hW0 hA
  go_enter Tryz.func99,Tryz.ntmps99
  go_wp2_with fail
  rw [HW0.out,HWZ.out]
  go_wp2_with fail
  refine (HP.out _ (Below.refl _ _)).mono ?_;rintro e w1 ⟨pA,pC,rfl,hsP,_,hb1⟩
  have hA1:=HA.out.later hb1
  have hlt1:=hA1.lt
  obtain ⟨c0,c1,c2,c3,c4,c5,c6,c7,c8⟩:=wcells hA1
  have f2:=hA1.free 2 (.inr (Nat.zero_le _))
  have hb2:Below w.heap.size w (w1.setCell ⟨w.heap.size,2,none⟩ (.slice pA W.field.places.length pC)):=(hb0.trans (hb1.mono hb0.size)).setCell (p:=⟨w.heap.size,2,none⟩) (Nat.le_refl _) _
  have hR2:=(HR.out.later hb1).other (show w.heap.size+1≠w.heap.size by omega) 2 (.slice pA W.field.places.length pC)
  have hA2:=hA1.set 2 (.slice pA W.field.places.length pC)
  have hpn:w.heap.size∉Rep.blkOf pA:=nin hsP (by have:=HA.out.lt;omega)
  have hpn1:w.heap.size+1∉Rep.blkOf pA:=nin hsP (by have:=HR.out.lt;omega)
  have hP2:=hsP.other (p:=⟨w.heap.size,2,none⟩) hpn (.slice pA W.field.places.length pC)
  obtain ⟨w2,HW2⟩:∃ w2,Hid (w1.setCell ⟨w.heap.size,2,none⟩ (.slice pA W.field.places.length pC)=w2):=⟨_,Lib.hid rfl⟩
  rw [HW2.out] at hb2 hA2 hP2 hR2
  have hP2:=hP2.down (show w.heap.size≤_ from hb0.size)
  go_wp2_with fail
  rw [HW2.out]
  go_wp2_with fail
  clear c0 c1 c2 c3 c4 c5 c6 c7 c8 f2 hsP hA1 hb1
  obtain ⟨c0,c1,c2,c3,c4,c5,c6,c7,c8⟩:=wcells hA2
  have HA2:=Lib.hid hA2
  have HP2:=Lib.hid hP2
  have PN:Hid (w.heap.size∉Rep.blkOf pA):=Lib.hid hpn
  have PN1:Hid (w.heap.size+1∉Rep.blkOf pA):=Lib.hid hpn1
  have HR2:=Lib.hid hR2
  have hszR:=HR2.out.lt
  clear hA2 hP2 hR2 hpn hpn1
  have hbr:=Below.refl w2.heap.size w2
  have hszS:=HA2.out.lt
  go_cut [9] (λ _ wx=>Half w wx pA pC W aM kM aT kT w2.heap.size)
  case first =>
   go_region_law (first
    | (refine step_call rfl 101 _ Tryz.func101 (by kernel_rfl) (by kernel_rfl) _ _ rfl #[.slice aB W.bases.length kB] (by simp [Act.eval,Act.put]) ?_
       refine (HB.out _ hb2.drew).mono ?_
       rintro e w3 ⟨bA,bC,rfl,hsB,_,hb3⟩
       have hb23:Below w2.heap.size w2 w3:=below_onD hbr hb3
       have c4:=cell_later hb23 c4
       refine ⟨_,rfl, ?_⟩)
    | (refine step_call rfl 27 _ Tryz.func27 (by kernel_rfl) (by kernel_rfl) _ _ rfl #[.slice aS W.stocks.length kS] (by simp [Act.eval,Act.put]) ?_
       refine (HS.out _ (hb2.trans (hb23.mono hb2.size))).mono ?_
       rintro e w4 ⟨sA,sC,rfl,hsS,_,hb4⟩
       have hb24:Below w2.heap.size w2 w4:=below_on hb23 hb4
       obtain ⟨d0,d1,d2,d3,d4,d5,d6,d7,d8⟩:=wcells (HA2.out.later hb24)
       have f3:=(HA2.out.later hb24).free 3 (.inr (Nat.zero_le _))
       have f4:=(HA2.out.later hb24).free 4 (.inr (Nat.zero_le _))
       refine ⟨_,rfl, ?_⟩))
   all_goals
    have hSz:w.heap.size<w4.heap.size:=by have:=hb24.size;omega
    have hR4:=HR2.out.later hb24
    have hA4:=HA2.out.later hb24
    have hP4:=HP2.out.later hb24
    have hB4:=hsB.later hb4
    have hbw2:=hb2.trans (hb24.mono hb2.size)
    have hA5:=(hA4.set 3 (.slice bA W.bases.length bC)).set 4 (.slice sA W.stocks.length sC)
    have hR5:=(hR4.other (show w.heap.size+1≠w.heap.size by omega) 3 (.slice bA W.bases.length bC)).other (show w.heap.size+1≠w.heap.size by omega) 4 (.slice sA W.stocks.length sC)
    have hP5:=(hP4.other (p:=⟨w.heap.size,3,none⟩) PN.out (.slice bA W.bases.length bC)).other (p:=⟨w.heap.size,4,none⟩) PN.out (.slice sA W.stocks.length sC)
    have hB5:=(hB4.other (p:=⟨w.heap.size,3,none⟩) (nin hsB (by show w.heap.size<w2.heap.size;omega)) (.slice bA W.bases.length bC)).other (p:=⟨w.heap.size,4,none⟩) (nin hsB (by show w.heap.size<w2.heap.size;omega)) (.slice sA W.stocks.length sC)
    have hS5:=(hsS.other (p:=⟨w.heap.size,3,none⟩) (nin hsS (by have:=hb23.size;show w.heap.size<w3.heap.size;omega)) (.slice bA W.bases.length bC)).other (p:=⟨w.heap.size,4,none⟩) (nin hsS (by have:=hb23.size;show w.heap.size<w3.heap.size;omega)) (.slice sA W.stocks.length sC)
    have hb5:Below w.heap.size w ((w4.setCell ⟨w.heap.size,3,none⟩ (.slice bA W.bases.length bC)).setCell ⟨w.heap.size,4,none⟩ (.slice sA W.stocks.length sC)):=(hbw2.setCell (p:=⟨w.heap.size,3,none⟩) (Nat.le_refl _) _).setCell (p:=⟨w.heap.size,4,none⟩) (Nat.le_refl _) _
    have HF:Hid (Half w ((w4.setCell ⟨w.heap.size,3,none⟩ (.slice bA W.bases.length bC)).setCell ⟨w.heap.size,4,none⟩ (.slice sA W.stocks.length sC)) pA pC W aM kM aT kT w2.heap.size):=Lib.hid ⟨bA,bC,sA,sC,w3.heap.size,w4.heap.size,hA5,hR5,hP5,hB5,hS5,hsB.lt,hsS.lt,hb5,hb23.size,hb4.size,by simp [World.setCell]⟩
    clear hA5 hR5 hP5 hB5 hS5 hb5 hsB hsS hR4 hA4 hP4 hB4 hbw2 hb23 hb24 hb3 hb4 c0 c1 c2 c3 c4 c5 c6 c7 c8 d0 d1 d2 d3 d4 d5 d6 d7 d8 f3 f4 hbr
    go_wp2_with fail
    go_meet
    exact HF.out
  case rest =>
    obtain ⟨bA,bC,sA,sC,n3,n4,hA5,hR5,hP5,hB5,hS5,rB,rS,hb5,o1,o2,o3⟩:=hcut
    obtain ⟨w5,HW5⟩:∃ w5:World,Hid (w5=wc):=⟨wc,Lib.hid rfl⟩
    rw [← HW5.out] at hA5 hR5 hP5 hB5 hS5 hb5 o3 ⊢
    have RP:=Lib.hid HP2.out.lt
    have RB:=Lib.hid rB
    have RS:=Lib.hid rS
    have HP5:=Lib.hid hP5
    have HB5:=Lib.hid hB5
    have HS5:=Lib.hid hS5
    have HR5:=Lib.hid hR5
    have HA5:=Lib.hid hA5
    clear hA5 hR5 hP5 hB5 hS5 rB rS c0 c1 c2 c3 c4 c5 c6 c7 c8 hbr
    obtain ⟨c0,c1,c2,c3,c4,c5,c6,c7,c8⟩:=wcells HA5.out
    have hbr:=Below.refl w5.heap.size w5
    go_wp2_with fail
    go_region_law (first
      | (refine step_call rfl 27 _ Tryz.func27 (by kernel_rfl) (by kernel_rfl) _ _ rfl #[.slice aM W.mines.length kM] (by simp [Act.eval,Act.put]) ?_
         refine (HM.out _ hb5.drew).mono ?_
         rintro e w6 ⟨mA,mC,rfl,hsM,_,hb6⟩
         have hb56:Below w5.heap.size w5 w6:=below_onD hbr hb6
         have c6:=cell_later hb56 c6
         refine ⟨_,rfl, ?_⟩)
      | (refine step_call rfl 26 _ Tryz.func26 (by kernel_rfl) (by kernel_rfl) _ _ rfl #[.slice aT W.troops.length kT] (by simp [Act.eval,Act.put]) ?_
         refine (HT.out _ (hb5.trans (hb56.mono hb5.size))).mono ?_
         rintro e w7 ⟨tA,tC,rfl,hsT,_,hb7⟩
         have hb57:Below w5.heap.size w5 w7:=below_on hb56 hb7
         obtain ⟨d0,d1,d2,d3,d4,d5,d6,d7,d8⟩:=wcells (HA5.out.later hb57)
         have f5:=(HA5.out.later hb57).free 5 (.inr (Nat.zero_le _))
         have f6:=(HA5.out.later hb57).free 6 (.inr (Nat.zero_le _))
         refine ⟨_,rfl, ?_⟩))
    all_goals
      have hz57:=hb57.size
      have hz56:=hb56.size
      have hbw5:=hb5.trans (hb57.mono hb5.size)
      have x0:w.heap.size<w6.heap.size:=by omega
      have x1:w.heap.size<w5.heap.size:=by omega
      have hA8:=((HA5.out.later hb57).set 5 (.slice mA W.mines.length mC)).set 6 (.slice tA W.troops.length tC)
      have hR8:=((HR5.out.later hb57).other (show w.heap.size+1≠w.heap.size by omega) 5 (.slice mA W.mines.length mC)).other (show w.heap.size+1≠w.heap.size by omega) 6 (.slice tA W.troops.length tC)
      have hP8:=((HP5.out.later hb57).other (p:=⟨w.heap.size,5,none⟩) PN.out (.slice mA W.mines.length mC)).other (p:=⟨w.heap.size,6,none⟩) PN.out (.slice tA W.troops.length tC)
      have hB8:=((HB5.out.later hb57).other (p:=⟨w.heap.size,5,none⟩) (λ h=>by have:=(RB.out _ h).1;simp at this;omega) (.slice mA W.mines.length mC)).other (p:=⟨w.heap.size,6,none⟩) (λ h=>by have:=(RB.out _ h).1;simp at this;omega) (.slice tA W.troops.length tC)
      have hS8:=((HS5.out.later hb57).other (p:=⟨w.heap.size,5,none⟩) (λ h=>by have:=(RS.out _ h).1;simp at this;omega) (.slice mA W.mines.length mC)).other (p:=⟨w.heap.size,6,none⟩) (λ h=>by have:=(RS.out _ h).1;simp at this;omega) (.slice tA W.troops.length tC)
      have hM8:=((hsM.later hb7).other (p:=⟨w.heap.size,5,none⟩) (λ h=>by have:=(hsM.lt _ h).1;simp at this;omega) (.slice mA W.mines.length mC)).other (p:=⟨w.heap.size,6,none⟩) (λ h=>by have:=(hsM.lt _ h).1;simp at this;omega) (.slice tA W.troops.length tC)
      have hT8:=(hsT.other (p:=⟨w.heap.size,5,none⟩) (λ h=>by have:=(hsT.lt _ h).1;simp at this;omega) (.slice mA W.mines.length mC)).other (p:=⟨w.heap.size,6,none⟩) (λ h=>by have:=(hsT.lt _ h).1;simp at this;omega) (.slice tA W.troops.length tC)
      have hb8:Below w.heap.size w ((w7.setCell ⟨w.heap.size,5,none⟩ (.slice mA W.mines.length mC)).setCell ⟨w.heap.size,6,none⟩ (.slice tA W.troops.length tC)):=(hbw5.setCell (p:=⟨w.heap.size,5,none⟩) (Nat.le_refl _) _).setCell (p:=⟨w.heap.size,6,none⟩) (Nat.le_refl _) _
      have hnd:(Rep.blkOf pA++Rep.blkOf bA++Rep.blkOf sA++Rep.blkOf mA++Rep.blkOf tA).Nodup:=by
        have h1:=app_nodup (m:=n3) ⟨blk_nodup pA,λ g hg=>(RP.out g hg).2⟩ (blk_nodup bA) RB.out o1
        have h2:=app_nodup h1 (blk_nodup sA) RS.out o2
        have h3:=app_nodup (n:=w5.heap.size) (m:=w6.heap.size) ⟨h2.1,λ g hg=>by have:=h2.2 g hg;omega⟩ (blk_nodup mA) hsM.lt hz56
        exact (app_nodup h3 (blk_nodup tA) hsT.lt (by have:=hb7.size;omega)).1
      obtain ⟨w8,HW8⟩:∃ w8,Hid ((w7.setCell ⟨w.heap.size,5,none⟩ (.slice mA W.mines.length mC)).setCell ⟨w.heap.size,6,none⟩ (.slice tA W.troops.length tC)=w8):=⟨_,Lib.hid rfl⟩
      rw [HW8.out] at hb8 hA8 hR8 hP8 hB8 hS8 hM8 hT8 ⊢
      have HFIN:=Lib.hid (show WOwn w8 w.heap.size ⟨pA,bA,sA,mA,tA,pC,bC,sC,mC,tC⟩ W from ⟨hP8,hB8.down (by show w.heap.size≤w2.heap.size;omega),hS8.down (by omega),hM8.down (by show w.heap.size≤w5.heap.size;omega),hT8.down (by omega),hnd,HN.out⟩)
      have HNF:Hid (w.heap.size+1∉WOwn.foot ⟨pA,bA,sA,mA,tA,pC,bC,sC,mC,tC⟩):=Lib.hid (λ h=>by
        unfold WOwn.foot at h
        simp only [List.mem_append] at h
        rcases h with (((h | h) | h) | h) | h
        · exact PN1.out h
        · have:=(RB.out _ h).1;omega
        · have:=(RS.out _ h).1;omega
        · have:=(hsM.lt _ h).1;(try simp at this);omega
        · have:=(hsT.lt _ h).1;(try simp at this);omega)
      have HR8:=Lib.hid hR8
      have HA8:Hid (Blk w8 w.heap.size [.int .i64 W.field.wide, .int .i64 W.field.high, .slice pA W.field.places.length pC, .slice bA W.bases.length bC, .slice sA W.stocks.length sC, .slice mA W.mines.length mC, .slice tA W.troops.length tC, .int .i64 W.next, .int .i64 W.now] 28 (0,0)):=Lib.hid hA8
      clear hA8 hR8 hP8 hB8 hS8 hM8 hT8 hnd hsM hsT hb7 hb6 hb57 hb56 c0 c1 c2 c3 c4 c5 c6 c7 c8 d0 d1 d2 d3 d4 d5 d6 d7 d8 f5 f6
      obtain ⟨c0,c1,c2,c3,c4,c5,c6,c7,c8⟩:=wcells HA8.out
      obtain ⟨e0,e1,e2,e3,e4,e5,e6,e7,e8⟩:=wcells HR8.out
      have fr:=λ j=>HR8.out.free j (.inr (Nat.zero_le _))
      have fr0:=fr 0;have fr1:=fr 1;have fr2:=fr 2;have fr3:=fr 3;have fr4:=fr 4;have fr5:=fr 5;have fr6:=fr 6;have fr7:=fr 7;have fr8:=fr 8
      clear fr
      go_wp2_with fail
      obtain ⟨w9,HW9⟩:∃ w9,Hid ((((((((((w8.setCell ⟨w.heap.size+1,0,none⟩ (.int .i64 W.field.wide)).setCell ⟨w.heap.size+1,1,none⟩ (.int .i64 W.field.high)).setCell ⟨w.heap.size+1,2,none⟩ (.slice pA W.field.places.length pC)).setCell ⟨w.heap.size+1,3,none⟩ (.slice bA W.bases.length bC)).setCell ⟨w.heap.size+1,4,none⟩ (.slice sA W.stocks.length sC)).setCell ⟨w.heap.size+1,5,none⟩ (.slice mA W.mines.length mC)).setCell ⟨w.heap.size+1,6,none⟩ (.slice tA W.troops.length tC)).setCell ⟨w.heap.size+1,7,none⟩ (.int .i64 W.next)).setCell ⟨w.heap.size+1,8,none⟩ (.int .i64 W.now))=w9):=⟨_,Lib.hid rfl⟩
      have hR9:=nine_blk HR8.out (.int .i64 W.field.wide) (.int .i64 W.field.high) (.slice pA W.field.places.length pC) (.slice bA W.bases.length bC) (.slice sA W.stocks.length sC) (.slice mA W.mines.length mC) (.slice tA W.troops.length tC) (.int .i64 W.next) (.int .i64 W.now)
      have hO9:=HFIN.out.nine HNF.out (.int .i64 W.field.wide) (.int .i64 W.field.high) (.slice pA W.field.places.length pC) (.slice bA W.bases.length bC) (.slice sA W.stocks.length sC) (.slice mA W.mines.length mC) (.slice tA W.troops.length tC) (.int .i64 W.next) (.int .i64 W.now)
      have hb9:=below_nine hb8 (show w.heap.size≤w.heap.size+1 by omega) (.int .i64 W.field.wide) (.int .i64 W.field.high) (.slice pA W.field.places.length pC) (.slice bA W.bases.length bC) (.slice sA W.stocks.length sC) (.slice mA W.mines.length mC) (.slice tA W.troops.length tC) (.int .i64 W.next) (.int .i64 W.now)
      rw [HW9.out] at hR9 hO9 hb9 ⊢
      obtain ⟨v0,v1,v2,v3,v4,v5,v6,v7,v8⟩:=wcells hR9
      refine bodyPost_ret (v:= .agg #[.int .i64 W.field.wide, .int .i64 W.field.high, .slice pA W.field.places.length pC, .slice bA W.bases.length bC, .slice sA W.stocks.length sC, .slice mA W.mines.length mC, .slice tA W.troops.length tC, .int .i64 W.next, .int .i64 W.now]) ?_ rfl ⟨⟨pA,bA,sA,mA,tA,pC,bC,sC,mC,tC⟩,rfl,hO9,hb9⟩
      simp [results,Tryz.results99,go_sem,v0,v1,v2,v3,v4,v5,v6,v7,v8]
end
end Go.Proofs.YtlikikpgmmkjbaaGreat
