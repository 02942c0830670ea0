import Derived.Test.YtlikikpgmmkjbaaGreatGra
import Derived.Test.YtlikikpgmmkjbaaGreatPtq
import Derived.Test.YtlikikpgmmkjbaaGreatCelK
import Derived.Shelf.Bits.Mul64
import Derived.Shelf.Spec.SlicesInsertGrow
import Derived.Shelf.Slices.SearchI
import Derived.Shelf.Slices.Empties
import Derived.Test.YtlikikpgmmkjbaaGreatGolR
set_option linter.unusedVariables false
set_option linter.unusedSimpArgs false
set_option maxRecDepth 100000
set_option maxHeartbeats 4000000
namespace Go.Proofs.YtlikikpgmmkjbaaGreat
section
open Go.RowKit
theorem psides_ix0 (c:Cel) (w:World):(Instr.index 260 (.agg #[.int .i64 c.x, .int .i64 (c.y - 1), .int .i64 (c.x - 1), .int .i64 c.y, .int .i64 (c.x+1), .int .i64 c.y, .int .i64 c.x, .int .i64 (c.y+1)]) (.int .i64 0)).run Tryz.prog w= .ok (.agg #[.int .i64 c.x, .int .i64 (c.y - 1)]) w:=by kernel_rfl
theorem psides_ix1 (c:Cel) (w:World):(Instr.index 260 (.agg #[.int .i64 c.x, .int .i64 (c.y - 1), .int .i64 (c.x - 1), .int .i64 c.y, .int .i64 (c.x+1), .int .i64 c.y, .int .i64 c.x, .int .i64 (c.y+1)]) (.int .i64 1)).run Tryz.prog w= .ok (.agg #[.int .i64 (c.x - 1), .int .i64 c.y]) w:=by kernel_rfl
theorem psides_ix2 (c:Cel) (w:World):(Instr.index 260 (.agg #[.int .i64 c.x, .int .i64 (c.y - 1), .int .i64 (c.x - 1), .int .i64 c.y, .int .i64 (c.x+1), .int .i64 c.y, .int .i64 c.x, .int .i64 (c.y+1)]) (.int .i64 2)).run Tryz.prog w= .ok (.agg #[.int .i64 (c.x+1), .int .i64 c.y]) w:=by kernel_rfl
theorem psides_ix3 (c:Cel) (w:World):(Instr.index 260 (.agg #[.int .i64 c.x, .int .i64 (c.y - 1), .int .i64 (c.x - 1), .int .i64 c.y, .int .i64 (c.x+1), .int .i64 c.y, .int .i64 c.x, .int .i64 (c.y+1)]) (.int .i64 3)).run Tryz.prog w= .ok (.agg #[.int .i64 c.x, .int .i64 (c.y+1)]) w:=by kernel_rfl
theorem psides_ix (c:Cel) (j:Nat) (hj:j<4) {nd:Cel} (h:(sidesC c).getD j default=nd) (w:World):(Instr.index 260 (.agg #[.int .i64 c.x, .int .i64 (c.y - 1), .int .i64 (c.x - 1), .int .i64 c.y, .int .i64 (c.x+1), .int .i64 c.y, .int .i64 c.x, .int .i64 (c.y+1)]) (.int .i64 (j:Int))).run Tryz.prog w= .ok (.agg #[.int .i64 nd.x, .int .i64 nd.y]) w:=by
 subst h
 have:j=0∨j=1∨j=2∨j=3:=by omega
 rcases this with rfl | rfl | rfl | rfl
 ·exact psides_ix0 c w
 ·exact psides_ix1 c w
 ·exact psides_ix2 c w
 ·exact psides_ix3 c w
theorem sides_bd {c:Cel} {j:Nat} (hj:j<4):c.x - 1≤((sidesC c).getD j default).x∧((sidesC c).getD j default).x≤c.x+1∧c.y - 1≤((sidesC c).getD j default).y∧((sidesC c).getD j default).y≤c.y+1:=by
 have:j=0∨j=1∨j=2∨j=3:=by omega
 rcases this with rfl | rfl | rfl | rfl<;>simp [sidesC]<;>omega
theorem prun_any (w0:World) (f:Fld) (P F A:Option Addr) (pc cf c b:Nat) (far:List Int) (l:List Nod) (to_:Cel) (a x0:Cel) (w:World) (hx0:Ext w0 w) (hf:f.chk=0) (hP:repI.SHas 8 w0 P pc f.places) (HB:Blk w b [.int .i64 f.wide, .int .i64 f.high, .slice P f.places.length pc, .int .i64 to_.x, .int .i64 to_.y, .slice F far.length cf, .slice A l.length c] 265 (0,0)) (hb:w0.heap.size≤b) (HF:repI.SOwn 3 8 w w0.heap.size (Rep.blkOf F) F cf far) (HQ:Nod.rep.SOwn 313 32 w w0.heap.size (Rep.blkOf A) A c l) (hdF:∀ q∈Rep.blkOf F,q=b→False) (hdQ:∀ q∈Rep.blkOf A,q=b→False) (hdQF:∀ q∈Rep.blkOf A,q∈Rep.blkOf F→False) (hs:PS f a to_ far l x0 []) (hv:Vis f to_ far) (hin:f.isIn to_=true) (hbnd:l.length+5 * und far≤20000):
  Calls Tryz.prog 198 #[.pointer (some ⟨b,0,none⟩)] w (λ e w'=>∃ far' A' c' l',e= .returned (.tuple #[])∧Blk w' b [.int .i64 f.wide, .int .i64 f.high, .slice P f.places.length pc, .int .i64 to_.x, .int .i64 to_.y, .slice F far'.length cf, .slice A' ((l':List Nod).length) c'] 265 (0,0)∧repI.SOwn 3 8 w' w0.heap.size (Rep.blkOf F) F cf far'∧PEnd f a to_ far'∧Mod (b::(Rep.blkOf F++Rep.blkOf A)) w w'):=by
 have qB:=HB.lt
 obtain ⟨g1,g2,g3,g4,g5,g6⟩:=Fld.good hf
 have q0:=hx0.size
 have uHF:=λ q hq=>(HF.lt q hq).2
 have uHQ:=λ q hq=>(HQ.lt q hq).2
 have hll:=HQ.has.len_le
 have hzb:∀ q∈b::(Rep.blkOf F++Rep.blkOf A),w0.heap.size≤q:=λ q hq=>(List.mem_cons.1 hq).elim (λ h=>by omega) λ h=>(List.mem_append.1 h).elim (λ h=>(HF.lt q h).1) λ h=>(HQ.lt q h).1
 obtain ⟨_,_,ti1,ti2,ti3,ti4⟩:=Fld.idx hf hin
 refine calls_W (n:=108) Tryz.func198 rfl rfl rfl ?_
 refine sg<|vm rfl<|vm rfl<|vL (nc rfl)<|vL (fa eF30 rfl)<|vL (ld rfl (HB.par [.int .i64 to_.x, .int .i64 to_.y] eF3 eF4 rfl))<|ca eF34 rfl rfl ((pindex_any w0 f P F A pc cf c b far l to_ to_ _ (Ext.mod hx0 (Mod.rf (b::(Rep.blkOf F++Rep.blkOf A)) w) hzb) hf hP HB (by first | omega | (dsimp only;omega))).mono ?_)
 rintro e w_1 ⟨rfl,x_2⟩
 refine ⟨_,rfl, ?_⟩
 have:=x_2.size
 have z_1:=(Mod.rf (b::(Rep.blkOf F++Rep.blkOf A)) w).trans (Mod.of_ext x_2)
 refine va rfl<|nK<|bk<| ?_
 have HB:=HB.later x_2
 have HF:=HF.later x_2
 have HQ:=HQ.later x_2
 refine lp (λ mI EI wI=>∃ far1:List Int,∃ l1:List Nod,∃ A1:Option Addr,∃ c1:Nat,∃ x1:Cel,EI= [(0, .pointer (some ⟨b,0,none⟩)),(2, .int .i64 (to_.y * f.wide+to_.x))]∧mI=(l1.length+5 * und far1)∧Mod (b::(Rep.blkOf F++Rep.blkOf A)) w wI∧Blk wI b [.int .i64 f.wide, .int .i64 f.high, .slice P f.places.length pc, .int .i64 to_.x, .int .i64 to_.y, .slice F far1.length cf, .slice A1 l1.length c1] 265 (0,0)∧repI.SOwn 3 8 wI w0.heap.size (Rep.blkOf F) F cf far1∧Nod.rep.SOwn 313 32 wI w0.heap.size (Rep.blkOf A1) A1 c1 l1∧(PS f a to_ far1 l1 x1 [])∧(Vis f to_ far1)∧(l1.length+5 * und far1≤20000)∧(∀ q∈Rep.blkOf A1,q∈Rep.blkOf A∨w.heap.size≤q)∧(∀ q∈Rep.blkOf F,q=b→False)∧(∀ q∈Rep.blkOf A1,q=b→False)∧(∀ q∈Rep.blkOf A1,q∈Rep.blkOf F→False)) _ _ ⟨far,l,A,c,x0,rfl,rfl,z_1,HB,HF,HQ,hs,hv,hbnd,λ q hq=> .inl hq,(λ q hq hb=>by (exact hdF q hq hb)),(λ q hq hb=>by (exact hdQ q hq hb)),(λ q hq hb=>by (exact hdQF q hq hb))⟩ (sba rfl) ?_
 rintro m_8 E_9 w_7 ⟨far1,l1,A1,c1,x1,rfl,rfl,z_7,HB1,HF1,HQ1,hs1,hv1,hbn,hgA1,d_4,d_5,d_6⟩
 have:=z_7.size
 have q_11:=HB1.lt
 have u_12:=λ q hq=>(HF1.lt q hq).2
 have u_13:=λ q hq=>(HQ1.lt q hq).2
 obtain ⟨tl1,tl2,tl3⟩:=fr_lt hf hs1.len hin
 refine sq<|sq<| ?_
 rcases b3g_ (decide (0<(l1.length:Int))) ((decide (f.fr far1 to_<0)) || (decide ((l1.getD 0 default).all≤f.fr far1 to_))) with c0 | ⟨c0,c1_⟩ | ⟨c0,c1_⟩
 ·have hend:=pend_nil hs1 hv1 (by have h9:=of_decide_eq_false c0;omega)
  refine rd [(3,0),(4,0),(10,0),(13,0),(19,0),(22,0),(26,0),(29,0)] [0,1,2,3,4,5,6,7,8,9,10,11,12,13,14,15,16,17,18,19,20,21,22,23,24,25,26,27,28,29,30,31,32] (by kernel_rfl) (by kernel_rfl) ?_
  refine fw1 rfl (λ _=>mv rfl)<|fw1 rfl (λ _=>nc rfl)<|fw1 rfl (λ _=>fa eF32 rfl)<|fq1 rfl (λ _ x=>ld rfl ((HB1.later x).one eF11 rfl))<|fc rfl rfl eF17 rfl (λ _ x=>xP_len _ l1.length _ _) rfl<|fw1 rfl (λ _=>bgt rfl rfl)<|fw1 rfl (λ _=>mv (evb rfl c0))<|fW (v:=undef) rfl rfl rfl rfl rfl rfl (λ hc=>nomatch hc) rfl<|fW (v:=undef) rfl rfl rfl rfl rfl rfl (λ hc=>nomatch hc) rfl<|fW (v:=undef) rfl rfl rfl rfl rfl rfl (λ hc=>nomatch hc) rfl<|fQ (v:=undef) rfl rfl rfl rfl rfl rfl (λ hc=>nomatch hc) rfl<|fW (v:=undef) rfl rfl rfl rfl rfl rfl (λ hc=>nomatch hc) rfl<|fW (v:=undef) rfl rfl rfl rfl rfl rfl (λ hc=>nomatch hc) rfl<|fQ (v:=undef) rfl rfl rfl rfl rfl rfl (λ hc=>nomatch hc) rfl<|fW (v:=undef) rfl rfl rfl rfl rfl rfl (λ hc=>nomatch hc) rfl<|fW (v:=undef) rfl rfl rfl rfl rfl rfl (λ hc=>nomatch hc) rfl<|fU rfl rfl rfl rfl rfl rfl<|fU rfl rfl rfl rfl rfl rfl<|fU rfl rfl rfl rfl rfl rfl<|fU rfl rfl rfl rfl rfl rfl<|fU rfl rfl rfl rfl rfl rfl<|fU rfl rfl rfl rfl rfl rfl<|fU rfl rfl rfl rfl rfl rfl<|fU rfl rfl rfl rfl rfl rfl<| ?_
  refine fU rfl rfl rfl rfl rfl rfl<|fU rfl rfl rfl rfl rfl rfl<|fU rfl rfl rfl rfl rfl rfl<|fU rfl rfl rfl rfl rfl rfl<|fU rfl rfl rfl rfl rfl rfl<|fU rfl rfl rfl rfl rfl rfl<|fU rfl rfl rfl rfl rfl rfl<|fW (v:=undef) rfl rfl rfl rfl rfl rfl (λ hc=>nomatch hc) rfl<|fw1 rfl (λ _=>pkF rfl rfl)<|fn λ w_14 x_15=> ?_
  have:=x_15.size
  have z_14:=z_7.trans (Mod.of_ext x_15)
  refine nT<|cF rfl<|xt<|xT<|xK<|xB<|ne<|tR .nil<| ?_
  have HQ1:=HQ1.later x_15
  have HF1:=HF1.later x_15
  have HB1:=HB1.later x_15
  exact ⟨far1,A1,c1,l1,rfl,HB1,HF1,hend,z_14⟩
 ·have h0p:0<l1.length:=by simpa using c0
  obtain ⟨xn,hxn⟩:∃ xn,l1.getD 0 default=xn:=⟨_,rfl⟩
  have hxm:xn∈l1:=by rw [← hxn];exact mem_dd h0p
  obtain ⟨nx1,nx2,nx3,nx4,nx5,nx6,nx7,nx8,nx9⟩:=hs1.node hf hin hxm
  have hxi:=Fld.ground_in (hs1.all xn hxm).2
  obtain ⟨xl1,xl2,xl3⟩:=fr_lt hf hs1.len hxi
  have hcon:f.fr far1 to_<0∨xn.all≤f.fr far1 to_:=by rw [hxn] at c1_;rw [Bool.or_eq_true,decide_eq_true_eq,decide_eq_true_eq] at c1_;exact c1_
  refine rd [(3,0),(4,0),(10,0),(13,0),(19,0),(22,0),(26,0),(29,0)] [0,1,2,3,4,5,6,7,8,9,10,11,12,13,14,15,16,17,18,19,20,21,22,23,24,25,26,27,28,29,30,31,32] (by kernel_rfl) (by kernel_rfl) ?_
  refine fw1 rfl (λ _=>mv rfl)<|fw1 rfl (λ _=>nc rfl)<|fw1 rfl (λ _=>fa eF32 rfl)<|fq1 rfl (λ _ x=>ld rfl ((HB1.later x).one eF11 rfl))<|fc rfl rfl eF17 rfl (λ _ x=>xP_len _ l1.length _ _) rfl<|fw1 rfl (λ _=>bgt rfl rfl)<|fw1 rfl (λ _=>mv (evb rfl c0))<|fW rfl rfl rfl rfl rfl rfl (λ hc _=>mv rfl) rfl<|fW rfl rfl rfl rfl rfl rfl (λ hc _=>nc rfl) rfl<|fW rfl rfl rfl rfl rfl rfl (λ hc _=>fa eF35 rfl) rfl<|fQ rfl rfl rfl rfl rfl rfl (λ hc _ x=>ld rfl ((HB1.later x).one eF36 rfl)) rfl<|fW rfl rfl rfl rfl rfl rfl (λ hc _=>mv rfl) rfl<|fW rfl rfl rfl rfl rfl rfl (λ hc _=>iA ((to_.y * f.wide+to_.x).toNat) Tryz.underlying22 eF7 rfl rfl (HF1.has.adr (zl ((to_.y * f.wide+to_.x).toNat) (by have h_:=(fr_lt hf hs1.len hin).1;omega))) (by (try simp only [bS] at hc);omega) (by have h_:=(fr_lt hf hs1.len hin).1;omega)) rfl<|fQ rfl rfl rfl rfl rfl rfl (λ hc _ x=>ld rfl (Rep.SHas.one' hcI ((HF1.later x).has.adh (zl ((to_.y * f.wide+to_.x).toNat) (by have h_:=(fr_lt hf hs1.len hin).1;omega))) (fr_get hf hs1.len hin) rfl eF1)) rfl<|fW rfl rfl rfl rfl rfl rfl (λ hc _=>blt rfl rfl) rfl<|fW rfl rfl rfl rfl rfl rfl (λ hc _=>mv rfl) rfl<|fW rfl rfl rfl rfl rfl rfl (λ hc _=>mv rfl) rfl<|fW rfl rfl rfl rfl rfl rfl (λ hc _=>nc (gt hc rfl)) rfl<|fW rfl rfl rfl rfl rfl rfl (λ hc _=>fa eF32 (gt hc rfl)) rfl<|fQ rfl rfl rfl rfl rfl rfl (λ hc _ x=>ld (gt hc rfl) ((HB1.later x).one eF11 rfl)) rfl<|fW rfl rfl rfl rfl rfl rfl (λ hc _=>iA 0 Tryz.underlying263 eF8 (gt hc rfl) rfl (HQ1.has.adr (zl 0 (by (try simp only [bS] at hc);omega))) rfl (by (try simp only [bS] at hc);omega)) rfl<|fW rfl rfl rfl rfl rfl rfl (λ hc _=>fa eF9 (gt hc rfl)) rfl<|fQ rfl rfl rfl rfl rfl rfl (λ hc _ x=>ld (gt hc rfl) (Rep.SHas.fld hcNo ((HQ1.later x).has.adh (zl 0 (by (try simp only [bS] at hc);omega))) 3 (get_d (l:=l1) (u:=default) (by (try simp only [bS] at hc);omega)) rfl eF1)) rfl<|fW rfl rfl rfl rfl rfl rfl (λ hc _=>mv rfl) rfl<| ?_
  refine fW rfl rfl rfl rfl rfl rfl (λ hc _=>nc (gt hc rfl)) rfl<|fW rfl rfl rfl rfl rfl rfl (λ hc _=>fa eF35 (gt hc rfl)) rfl<|fQ rfl rfl rfl rfl rfl rfl (λ hc _ x=>ld (gt hc rfl) ((HB1.later x).one eF36 rfl)) rfl<|fW rfl rfl rfl rfl rfl rfl (λ hc _=>mv rfl) rfl<|fW rfl rfl rfl rfl rfl rfl (λ hc _=>iA ((to_.y * f.wide+to_.x).toNat) Tryz.underlying22 eF7 (gt hc rfl) (gt hc rfl) (HF1.has.adr (zl ((to_.y * f.wide+to_.x).toNat) (by have h_:=(fr_lt hf hs1.len hin).1;omega))) (by (try simp only [bS] at hc);omega) (by have h_:=(fr_lt hf hs1.len hin).1;omega)) rfl<|fQ rfl rfl rfl rfl rfl rfl (λ hc _ x=>ld (gt hc rfl) (Rep.SHas.one' hcI ((HF1.later x).has.adh (zl ((to_.y * f.wide+to_.x).toNat) (by have h_:=(fr_lt hf hs1.len hin).1;omega))) (fr_get hf hs1.len hin) rfl eF1)) rfl<|fW rfl rfl rfl rfl rfl rfl (λ hc _=>ble (gt hc rfl) (gt hc rfl)) rfl<|fW rfl rfl rfl rfl rfl rfl (λ hc _=>pO rfl rfl rfl rfl) rfl<|fw1 rfl (λ _=>pkT rfl (evb rfl c1_))<|fn λ w_17 x_18=> ?_
  have:=x_18.size
  have z_17:=z_7.trans (Mod.of_ext x_18)
  refine nT<|cT rfl<|sK<|bk<|sg<|vm rfl<|vL (nc rfl)<|vL (fa eF32 rfl)<|vL (mkI (λ w=>by kernel_rfl) rfl)<| ?_
  have HQ1:=HQ1.later x_18
  have HB1:=HB1.later x_18
  have hPo:=xP_pop b A1 l1.length c1 w0.heap.size l1 (.int .i64 f.wide) (.int .i64 f.high) (.slice P f.places.length pc) (.int .i64 to_.x) (.int .i64 to_.y) (.slice F far1.length cf) _ HB1 HQ1 (λ y hy=>(hs1.node hf hin hy).2.2.2.2.2.2.2.2) rfl (λ q hq hb=>by exfalso;(exact d_5 q hq hb)) h0p (by omega)
  rw [hxn] at hPo
  refine ca eF37 rfl rfl ((hPo).mono ?_)
  rintro e w_22 ⟨rfl,HB20,HQ20,m_21⟩
  refine ⟨_,rfl, ?_⟩
  have:=m_21.size
  have z_22:=z_17.md m_21 (λ q hq=>(List.mem_cons.1 hq).elim (λ h=> .inl (by rw [h];exact List.mem_cons_self)) (λ h=>(hgA1 q h).imp (λ h=>List.mem_cons_of_mem _ (List.mem_append_right _ h)) id))
  refine vL (tyA (λ w=>by kernel_rfl) rfl)<|al rfl eF15 rfl rfl λ w_24 b_25 x_26 l_27 B_28=> ?_
  have:=x_26.size
  have z_24:=z_22.trans (Mod.of_ext x_26)
  have q_30:=B_28.lt
  refine st (new:= [.int .i64 xn.cell.x, .int .i64 xn.cell.y, .int .i64 xn.far, .int .i64 xn.all]) rfl rfl B_28 rfl eF8 rfl rfl rfl λ w_31 m_32 B_28=> ?_
  have:=m_32.size
  have z_31:=z_24.md m_32 (λ q hq=> .inr (by have:=List.mem_singleton.1 hq;omega))
  have:=m_32.size
  refine nK<|sq<|sq<| ?_
  refine rd [(3,0),(6,0),(7,0),(9,0)] [0,1,2,3,4,5,6,7,8,9,10] (by kernel_rfl) (by kernel_rfl) ?_
  refine fw1 rfl (λ _=>mv rfl)<|fw1 rfl (λ _=>nc rfl)<|fw1 rfl (λ _=>fa eF35 rfl)<| ?_
  have HB20:=HB20.later x_26
  have HB20:=HB20.mod m_32 (nm1 (by omega))
  refine fq1 rfl (λ _ x=>ld rfl ((HB20.later x).one eF36 rfl))<|fw1 rfl (λ _=>mv rfl)<|fw1 rfl (λ _=>fa eF38 rfl)<|fq1 rfl (λ _ x=>ld rfl ((B_28.later x).par [.int .i64 xn.cell.x, .int .i64 xn.cell.y] eF3 eF4 rfl))<|fc rfl rfl eF34 rfl (λ _ x=>pindex_any w0 f P F A1 pc cf c1 b far1 (Hp.popL Nod.all l1) to_ xn.cell _ (eT (Ext.mod hx0 z_31 hzb) x) hf hP (HB20.later x) (by first | omega | (dsimp only;omega))) rfl<| ?_
  have HF1:=HF1.later x_18
  have HF1:=HF1.mod m_21 (λ q hq h=>(List.mem_cons.1 h).elim (λ h=>by exfalso;(exact d_4 q hq h)) (λ h=>by exfalso;(exact d_6 q h hq)))
  have HF1:=HF1.later x_26
  have HF1:=HF1.mod m_32 (fk1 u_12 (by omega))
  refine fw1 rfl (λ _=>iA ((xn.cell.y * f.wide+xn.cell.x).toNat) Tryz.underlying22 eF7 rfl rfl (HF1.has.adr (zl ((xn.cell.y * f.wide+xn.cell.x).toNat) (by have h_:=(fr_lt hf hs1.len hxi).1;omega))) (by omega) (by have h_:=(fr_lt hf hs1.len hxi).1;omega))<|fq1 rfl (λ _ x=>ld rfl (Rep.SHas.one' hcI ((HF1.later x).has.adh (zl ((xn.cell.y * f.wide+xn.cell.x).toNat) (by have h_:=(fr_lt hf hs1.len hxi).1;omega))) (fr_get hf hs1.len hxi) rfl eF1))<|fw1 rfl (λ _=>bge rfl rfl)<|fn λ w_35 x_36=> ?_
  have:=x_36.size
  have z_35:=z_31.trans (Mod.of_ext x_36)
  refine nT<| ?_
  refine cle rfl (λ h_38=> ?_) (λ h_38=> ?_)
  ·have hk:=h_38
   refine xt<|xT<|xB<| ?_
   have HB20:=HB20.later x_36
   have HF1:=HF1.later x_36
   have HQ20:=HQ20.later x_26
   have HQ20:=HQ20.mod m_32 (fk1 u_13 (by omega))
   have HQ20:=HQ20.later x_36
   exact nI _ _ ⟨far1,Hp.popL Nod.all l1,A1,c1,x1,rfl,rfl,z_35,(by first | exact HB20 | (rw [hlen2];exact HB20)),HF1,HQ20,hs1.skip0 h0p (by rw [hxn];exact hk),hv1,by rw [Hp.popL_len];omega,hgA1,(λ q hq hb=>by (exact d_4 q hq hb)),(λ q hq hb=>by (exact d_5 q hq hb)),(λ q hq hb=>by (exact d_6 q hq hb))⟩ (by first | (rw [Hp.popL_len];omega) | omega) (sba rfl)
  ·have hk:f.fr far1 xn.cell<0:=by omega
   obtain ⟨hs2,hu2⟩:=hs1.new hf (Fld.okA f to_) h0p (by rw [hxn];exact hk)
   rw [hxn] at hs2 hu2
   have hv2:=vis_new hs1 hf h0p hxn hk hv1 hcon
   refine sK<|sq<| ?_
   refine rd [(3,0),(6,0),(7,0),(9,0),(11,3)] [0,1,2,3,4,5,6,7,8,9,10,11] (by kernel_rfl) (by kernel_rfl) ?_
   refine fw1 rfl (λ _=>mv rfl)<|fw1 rfl (λ _=>nc rfl)<|fw1 rfl (λ _=>fa eF35 rfl)<| ?_
   have HB20:=HB20.later x_36
   refine fq1 rfl (λ _ x=>ld rfl ((HB20.later x).one eF36 rfl))<|fw1 rfl (λ _=>mv rfl)<|fw1 rfl (λ _=>fa eF38 rfl)<| ?_
   have B_28:=B_28.later x_36
   refine fq1 rfl (λ _ x=>ld rfl ((B_28.later x).par [.int .i64 xn.cell.x, .int .i64 xn.cell.y] eF3 eF4 rfl))<|fc rfl rfl eF34 rfl (λ _ x=>pindex_any w0 f P F A1 pc cf c1 b far1 (Hp.popL Nod.all l1) to_ xn.cell _ (eT (Ext.mod hx0 z_35 hzb) x) hf hP (HB20.later x) (by first | omega | (dsimp only;omega))) rfl<|fw1 rfl (λ _=>fa eF39 rfl)<|fq1 rfl (λ _ x=>ld rfl ((B_28.later x).one eF1 rfl))<| ?_
   have HF1:=HF1.later x_36
   refine fw1 rfl (λ _=>iA ((xn.cell.y * f.wide+xn.cell.x).toNat) Tryz.underlying22 eF7 rfl rfl (HF1.has.adr (zl ((xn.cell.y * f.wide+xn.cell.x).toNat) (by have h_:=(fr_lt hf hs1.len hxi).1;omega))) (by omega) (by have h_:=(fr_lt hf hs1.len hxi).1;omega))<|fb rfl rfl rfl λ w_39 x_40 Q hK=>so (q':=xn.far) (j:=0) (i:=((xn.cell.y * f.wide+xn.cell.x).toNat)) (HF1.later x_40) Rep.flat_bare (fr_get hf hs1.len hxi) rfl rfl rfl rfl (λ _ cs h=>by have ok_:=(show _∧_ from h).2;obtain rfl:=hcI h;exact ⟨rfl,okI_iff.2 (by omega)⟩) rfl rfl eF7 λ w_41 m_42 O_43=>hK _ _ ?_
   have:=x_40.size
   have z_39:=z_35.trans (Mod.of_ext x_40)
   have:=m_42.size
   have z_41:=z_39.md m_42 (λ q hq=> .inl (List.mem_cons_of_mem _ (List.mem_append_left _ hq)))
   have:=m_42.size
   refine fn λ w_47 x_48=> ?_
   have:=x_48.size
   have z_47:=z_41.trans (Mod.of_ext x_48)
   refine nT<|sg<|vL (fa eF38 rfl)<| ?_
   have B_28:=B_28.later x_40
   have d_50:∀ q∈Rep.blkOf F,q=b_25→False:=λ q hq hb=>by (have:=u_12 q hq;omega)
   have B_28:=B_28.mod m_42 (λ hq=>d_50 _ hq rfl)
   have B_28:=B_28.later x_48
   refine vL (ld rfl (B_28.par [.int .i64 xn.cell.x, .int .i64 xn.cell.y] eF3 eF4 rfl))<| ?_
   have O_43:=O_43.later x_48
   have hfar2:∃ far2,far1.set (f.at_ xn.cell) xn.far=far2:=⟨_,rfl⟩
   obtain ⟨far2,hfar2⟩:=hfar2
   rw [hfar2] at hs2 hu2 hv2
   have hlen2:far2.length=far1.length:=by rw [← hfar2,List.length_set]
   have HF2:repI.SOwn 3 8 w_47 w0.heap.size (Rep.blkOf F) F cf far2:=by rw [← hfar2];exact O_43
   have hfx:f.fr far2 xn.cell=xn.far:=by rw [← hfar2];exact Fld.fr_set hf hs1.len hxi
   refine ca eF40 rfl rfl ((psides_any xn.cell _ (by first | omega | (dsimp only;omega))).mono ?_)
   rintro e w_51 ⟨rfl,x_52⟩
   refine ⟨_,rfl, ?_⟩
   have:=x_52.size
   have z_51:=z_47.trans (Mod.of_ext x_52)
   refine vm rfl<|nK<|bk<| ?_
   have HB20:=HB20.later x_40
   have HB20:=HB20.mod m_42 (λ hq=>d_4 _ hq rfl)
   have HB20:=HB20.later (eT x_48 x_52)
   have HQ20:=HQ20.later x_26
   have HQ20:=HQ20.mod m_32 (fk1 u_13 (by omega))
   have HQ20:=HQ20.later (eT x_36 x_40)
   have HQ20:=HQ20.mod m_42 (λ q hq h=>by exfalso;(exact d_6 q hq h))
   have HQ20:=HQ20.later (eT x_48 x_52)
   have HF2:=HF2.later x_52
   have B_28:=B_28.later x_52
   refine lp (λ mI EI wI=>∃ j:Nat,∃ l2:List Nod,∃ A2:Option Addr,∃ c2:Nat,EI= [(0, .pointer (some ⟨b,0,none⟩)),(2, .int .i64 (to_.y * f.wide+to_.x)),(3, .pointer (some ⟨b_25,0,none⟩)),(14, .pointer (some ⟨b,0,none⟩)),(15, .pointer (some ⟨b,0,none⟩)),(16, .pointer (some ⟨b,6,none⟩)),(17, .slice A1 l1.length c1),(18, .int .i64 (l1.length:Int)),(19, .bool (decide (0<(l1.length:Int)))),(20, .bool true),(21, .pointer (some ⟨b,0,none⟩)),(22, .pointer (some ⟨b,0,none⟩)),(23, .pointer (some ⟨b,5,none⟩)),(24, .slice F far1.length cf),(25, .int .i64 (to_.y * f.wide+to_.x)),(26, .pointer (some ⟨bA F,oA F+((to_.y * f.wide+to_.x).toNat) * 1,none⟩)),(27, .int .i64 (f.fr far1 to_)),(28, .bool (decide (f.fr far1 to_<0))),(29, .bool (decide (f.fr far1 to_<0))),(30,gv ((decide (f.fr far1 to_<0))== false) (.pointer (some ⟨b,0,none⟩))),(31,gv ((decide (f.fr far1 to_<0))== false) (.pointer (some ⟨b,0,none⟩))),(32,gv ((decide (f.fr far1 to_<0))== false) (.pointer (some ⟨b,6,none⟩))),(33,gv ((decide (f.fr far1 to_<0))== false) (.slice A1 l1.length c1)),(34,gv ((decide (f.fr far1 to_<0))== false) (.pointer (some ⟨bA A1,oA A1+0 * 4,none⟩))),(35,gv ((decide (f.fr far1 to_<0))== false) (.pointer (some ⟨bA A1,oA A1+0 * 4+3,none⟩))),(36,gv ((decide (f.fr far1 to_<0))== false) (.int .i64 ((l1.getD 0 default).all))),(37,gv ((decide (f.fr far1 to_<0))== false) (.pointer (some ⟨b,0,none⟩))),(38,gv ((decide (f.fr far1 to_<0))== false) (.pointer (some ⟨b,0,none⟩))),(39,gv ((decide (f.fr far1 to_<0))== false) (.pointer (some ⟨b,5,none⟩))),(40,gv ((decide (f.fr far1 to_<0))== false) (.slice F far1.length cf)),(41,gv ((decide (f.fr far1 to_<0))== false) (.int .i64 (to_.y * f.wide+to_.x))),(42,gv ((decide (f.fr far1 to_<0))== false) (.pointer (some ⟨bA F,oA F+((to_.y * f.wide+to_.x).toNat) * 1,none⟩))),(43,gv ((decide (f.fr far1 to_<0))== false) (.int .i64 (f.fr far1 to_))),(44,gv ((decide (f.fr far1 to_<0))== false) (.bool (decide ((l1.getD 0 default).all≤f.fr far1 to_)))),(45, .bool ((decide (f.fr far1 to_<0)) || (decide ((l1.getD 0 default).all≤f.fr far1 to_)))),(46, .bool true),(47, .pointer (some ⟨b,0,none⟩)),(48, .pointer (some ⟨b,0,none⟩)),(49, .pointer (some ⟨b,6,none⟩)),(50, .iface 311 (.pointer (some ⟨b,6,none⟩))),(51, .iface 313 (.agg #[.int .i64 xn.cell.x, .int .i64 xn.cell.y, .int .i64 xn.far, .int .i64 xn.all])),(52, .agg #[.int .i64 xn.cell.x, .int .i64 xn.cell.y, .int .i64 xn.far, .int .i64 xn.all]),(53, .pointer (some ⟨b,0,none⟩)),(54, .pointer (some ⟨b,0,none⟩)),(55, .pointer (some ⟨b,5,none⟩)),(56, .slice F far1.length cf),(57, .pointer (some ⟨b,0,none⟩)),(58, .pointer (some ⟨b_25,0,none⟩)),(59, .agg #[.int .i64 xn.cell.x, .int .i64 xn.cell.y]),(60, .int .i64 (xn.cell.y * f.wide+xn.cell.x)),(61, .pointer (some ⟨bA F,oA F+((xn.cell.y * f.wide+xn.cell.x).toNat) * 1,none⟩)),(62, .int .i64 (f.fr far1 xn.cell)),(63, .bool (decide (0≤f.fr far1 xn.cell))),(64, .pointer (some ⟨b,0,none⟩)),(65, .pointer (some ⟨b,0,none⟩)),(66, .pointer (some ⟨b,5,none⟩)),(67, .slice F far1.length cf),(68, .pointer (some ⟨b,0,none⟩)),(69, .pointer (some ⟨b_25,0,none⟩)),(70, .agg #[.int .i64 xn.cell.x, .int .i64 xn.cell.y]),(71, .int .i64 (xn.cell.y * f.wide+xn.cell.x)),(72, .pointer (some ⟨b_25,2,none⟩)),(73, .int .i64 xn.far),(74, .pointer (some ⟨bA F,oA F+((xn.cell.y * f.wide+xn.cell.x).toNat) * 1,none⟩)),(75, .pointer (some ⟨b_25,0,none⟩)),(76, .agg #[.int .i64 xn.cell.x, .int .i64 xn.cell.y]),(77, .agg #[.int .i64 xn.cell.x, .int .i64 (xn.cell.y - 1), .int .i64 (xn.cell.x - 1), .int .i64 xn.cell.y, .int .i64 (xn.cell.x+1), .int .i64 xn.cell.y, .int .i64 xn.cell.x, .int .i64 (xn.cell.y+1)]),(78, .int .i64 (j:Int))]∧mI=4 - j∧Mod (b::(Rep.blkOf F++Rep.blkOf A)) w wI∧Blk wI b_25 [.int .i64 xn.cell.x, .int .i64 xn.cell.y, .int .i64 xn.far, .int .i64 xn.all] 313 (0,0)∧repI.SOwn 3 8 wI w0.heap.size (Rep.blkOf F) F cf far2∧Blk wI b [.int .i64 f.wide, .int .i64 f.high, .slice P f.places.length pc, .int .i64 to_.x, .int .i64 to_.y, .slice F far1.length cf, .slice A2 l2.length c2] 265 (0,0)∧Nod.rep.SOwn 313 32 wI w0.heap.size (Rep.blkOf A2) A2 c2 l2∧(j≤4)∧(PS f a to_ far2 l2 xn.cell (((sidesC xn.cell).drop j).filter f.ground))∧(l2.length+1≤l1.length+j)∧(∀ q∈Rep.blkOf A2,q∈Rep.blkOf A∨w.heap.size≤q)∧(∀ q∈Rep.blkOf A2,q=b_25→False)∧(∀ q∈Rep.blkOf A2,q=b→False)∧(∀ q∈Rep.blkOf A2,q∈Rep.blkOf F→False)) _ _ ⟨0,Hp.popL Nod.all l1,A1,c1,rfl,rfl,z_51,B_28,HF2,HB20,HQ20,by omega,hs2,by rw [Hp.popL_len];omega,hgA1,(λ q hq hb=>by (have:=u_13 q hq;omega)),(λ q hq hb=>by (exact d_5 q hq hb)),(λ q hq hb=>by (exact d_6 q hq hb))⟩ (.cons rfl (.cons rfl (.cons rfl (.cons rfl (.cons rfl (.cons rfl (.cons rfl (.cons rfl (.cons rfl (.cons rfl (.cons rfl (.cons rfl (.cons rfl (.cons rfl (.cons rfl (.cons rfl (.cons rfl (.cons rfl (.cons rfl (.cons rfl (.cons rfl (.cons rfl (.cons rfl (.cons rfl (.cons rfl (.cons rfl (.cons rfl (.cons rfl (.cons rfl (.cons rfl (.cons rfl (.cons rfl (.cons rfl (.cons rfl (.cons rfl (.cons rfl (.cons rfl (.cons rfl (.cons rfl (.cons rfl (.cons rfl (.cons rfl (.cons rfl (.cons rfl (.cons rfl (.cons rfl (.cons rfl (.cons rfl (.cons rfl (.cons rfl (.cons rfl (.cons rfl (.cons rfl (.cons rfl (.cons rfl (.cons rfl (.cons rfl (.cons rfl (.cons rfl (.cons rfl (.cons rfl (.cons rfl (.cons rfl (.cons rfl (.cons rfl (.cons rfl (.cons rfl (.cons (loI rfl (by first | omega | rfl | (simp<;>omega))) .nil)))))))))))))))))))))))))))))))))))))))))))))))))))))))))))))))))))) ?_
   rintro m_58 E_59 w_57 ⟨j,l2,A2,c2,rfl,rfl,z_57,B_28,HF2,HB2,HQ2,hj,hs2,hl2,hgA2,d_54,d_55,d_56⟩
   have:=z_57.size
   have q_61:=B_28.lt
   have u_62:=λ q hq=>(HF2.lt q hq).2
   have q_63:=HB2.lt
   have u_64:=λ q hq=>(HQ2.lt q hq).2
   refine sg<|vL (blt rfl rfl)<|nK<|sq<| ?_
   refine clt rfl (λ h_65=> ?_) (λ h_65=> ?_)
   ·refine sK<|sq<|bk<|sg<| ?_
    obtain ⟨nd,hnd⟩:∃ nd,(sidesC xn.cell).getD j default=nd:=⟨_,rfl⟩
    have hnb:=sides_bd (c:=xn.cell) (j:=j) (by omega)
    rw [hnd] at hnb
    refine vL (ixk rfl rfl (psides_ix xn.cell j (by omega) hnd _))<|al rfl eF41 rfl rfl λ w_66 b_67 x_68 l_69 B_70=> ?_
    have:=x_68.size
    have z_66:=z_57.trans (Mod.of_ext x_68)
    have q_72:=B_70.lt
    refine st (new:= [.int .i64 nd.x, .int .i64 nd.y]) rfl rfl B_70 rfl eF4 rfl rfl rfl λ w_73 m_74 B_70=> ?_
    have:=m_74.size
    have z_73:=z_66.md m_74 (λ q hq=> .inr (by have:=List.mem_singleton.1 hq;omega))
    have:=m_74.size
    refine nK<|sg<|vm rfl<|vL (ld rfl (B_70.all eF3 eF4))<| ?_
    have HB2:=HB2.later x_68
    have HB2:=HB2.mod m_74 (nm1 (by omega))
    refine ca eF42 rfl rfl ((pcost_any w0 f P F A2 pc cf c2 b far1 l2 to_ nd _ (Ext.mod hx0 z_73 hzb) hf hP HB2).mono ?_)
    rintro e w_77 ⟨rfl,x_78⟩
    refine ⟨_,rfl, ?_⟩
    have:=x_78.size
    have z_77:=z_73.trans (Mod.of_ext x_78)
    refine vm rfl<|vL (ex rfl rfl)<|vL (ex rfl rfl)<|va rfl<|va rfl<|nK<|sq<| ?_
    rcases b3g_ (f.ground nd) (decide (f.fr far2 nd<0)) with c0 | ⟨c0,c1_⟩ | ⟨c0,c1_⟩
    ·have hs3:=hs2.look_out (by omega) (by rw [hnd];exact c0)
     refine rd [(5,0),(7,0),(8,0),(10,0)] [0,1,2,3,4,5,6,7,8,9,10,11,12] (by kernel_rfl) (by kernel_rfl) ?_
     refine fw1 rfl (λ _=>mv (evb rfl c0))<|fw1 rfl (λ _=>mv rfl)<|fW (v:=undef) rfl rfl rfl rfl rfl rfl (λ hc=>nomatch hc) rfl<|fW (v:=undef) rfl rfl rfl rfl rfl rfl (λ hc=>nomatch hc) rfl<|fW (v:=undef) rfl rfl rfl rfl rfl rfl (λ hc=>nomatch hc) rfl<|fQ (v:=undef) rfl rfl rfl rfl rfl rfl (λ hc=>nomatch hc) rfl<|fW (v:=undef) rfl rfl rfl rfl rfl rfl (λ hc=>nomatch hc) rfl<|fQ (v:=undef) rfl rfl rfl rfl rfl rfl (λ hc=>nomatch hc) rfl<|fC (v:=undef) (args:= []) rfl rfl rfl rfl rfl rfl eF34 (λ hc=>nomatch hc) (λ hc=>nomatch hc) rfl<|fW (v:=undef) rfl rfl rfl rfl rfl rfl (λ hc=>nomatch hc) rfl<|fQ (v:=undef) rfl rfl rfl rfl rfl rfl (λ hc=>nomatch hc) rfl<|fW (v:=undef) rfl rfl rfl rfl rfl rfl (λ hc=>nomatch hc) rfl<|fw1 rfl (λ _=>pkF rfl rfl)<|fn λ w_80 x_81=> ?_
     have:=x_81.size
     have z_80:=z_77.trans (Mod.of_ext x_81)
     refine nT<|cF rfl<|sk<|nB<|nT<|rg<|vL (bad rfl rfl (inI (by omega)))<|vm rfl<|nl<| ?_
     have B_28:=B_28.later x_68
     have B_28:=B_28.mod m_74 (nm1 (by omega))
     have B_28:=B_28.later (eT x_78 x_81)
     have HF2:=HF2.later x_68
     have HF2:=HF2.mod m_74 (λ q hq h=>by have hb:=List.mem_singleton.1 h;exfalso;(have:=u_62 q hq;have:=u_12 q hq;omega))
     have HF2:=HF2.later (eT x_78 x_81)
     have HB2:=HB2.later (eT x_78 x_81)
     have HQ2:=HQ2.later x_68
     have HQ2:=HQ2.mod m_74 (fk1 u_64 (by omega))
     have HQ2:=HQ2.later (eT x_78 x_81)
     exact nI _ _ ⟨j+1,l2,A2,c2,rfl,rfl,z_80,B_28,HF2,HB2,HQ2,by omega,hs3,by omega,hgA2,(λ q hq hb=>by (exact d_54 q hq hb)),(λ q hq hb=>by (exact d_55 q hq hb)),(λ q hq hb=>by (exact d_56 q hq hb))⟩ (by omega) (.cons rfl (.cons rfl (.cons rfl (.cons rfl (.cons rfl (.cons rfl (.cons rfl (.cons rfl (.cons rfl (.cons rfl (.cons rfl (.cons rfl (.cons rfl (.cons rfl (.cons rfl (.cons rfl (.cons rfl (.cons rfl (.cons rfl (.cons rfl (.cons rfl (.cons rfl (.cons rfl (.cons rfl (.cons rfl (.cons rfl (.cons rfl (.cons rfl (.cons rfl (.cons rfl (.cons rfl (.cons rfl (.cons rfl (.cons rfl (.cons rfl (.cons rfl (.cons rfl (.cons rfl (.cons rfl (.cons rfl (.cons rfl (.cons rfl (.cons rfl (.cons rfl (.cons rfl (.cons rfl (.cons rfl (.cons rfl (.cons rfl (.cons rfl (.cons rfl (.cons rfl (.cons rfl (.cons rfl (.cons rfl (.cons rfl (.cons rfl (.cons rfl (.cons rfl (.cons rfl (.cons rfl (.cons rfl (.cons rfl (.cons rfl (.cons rfl (.cons rfl (.cons rfl (.cons (loI rfl (by first | omega | rfl | (simp<;>omega))) .nil))))))))))))))))))))))))))))))))))))))))))))))))))))))))))))))))))))
    ·have hni:=Fld.ground_in c0
     obtain ⟨nl1,nl2,nl3⟩:=fr_lt hf hs2.len hni
     have hkd:=f.kost_bd (c:=nd)
     have hkk:=pcK_ground hf c0
     refine rd [(5,0),(7,0),(8,0),(10,0)] [0,1,2,3,4,5,6,7,8,9,10,11,12] (by kernel_rfl) (by kernel_rfl) ?_
     refine fw1 rfl (λ _=>mv (evb rfl c0))<|fw1 rfl (λ _=>mv rfl)<|fW rfl rfl rfl rfl rfl rfl (λ hc _=>mv rfl) rfl<|fW rfl rfl rfl rfl rfl rfl (λ hc _=>nc rfl) rfl<|fW rfl rfl rfl rfl rfl rfl (λ hc _=>fa eF35 rfl) rfl<| ?_
     have HB2:=HB2.later x_78
     refine fQ rfl rfl rfl rfl rfl rfl (λ hc _ x=>ld rfl ((HB2.later x).one eF36 rfl)) rfl<|fW rfl rfl rfl rfl rfl rfl (λ hc _=>mv rfl) rfl<| ?_
     have B_70:=B_70.later x_78
     refine fQ rfl rfl rfl rfl rfl rfl (λ hc _ x=>ld rfl ((B_70.later x).all eF3 eF4)) rfl<|fC rfl rfl rfl rfl rfl rfl eF34 (λ hc=>rfl) (λ hc _ x=>pindex_any w0 f P F A2 pc cf c2 b far1 l2 to_ nd _ (eT (Ext.mod hx0 z_77 hzb) x) hf hP (HB2.later x) (by first | omega | (dsimp only;omega))) rfl<| ?_
     have HF2:=HF2.later x_68
     have HF2:=HF2.mod m_74 (λ q hq h=>by have hb:=List.mem_singleton.1 h;exfalso;(have:=u_62 q hq;have:=u_12 q hq;omega))
     have HF2:=HF2.later x_78
     refine fW rfl rfl rfl rfl rfl rfl (λ hc _=>iA ((nd.y * f.wide+nd.x).toNat) Tryz.underlying22 eF7 rfl rfl (HF2.has.adr (zl ((nd.y * f.wide+nd.x).toNat) (by have h_:=(fr_lt hf hs2.len hni).1;omega))) (by (try simp only [bS] at hc);omega) (by have h_:=(fr_lt hf hs2.len hni).1;omega)) rfl<|fQ rfl rfl rfl rfl rfl rfl (λ hc _ x=>ld rfl (Rep.SHas.one' hcI ((HF2.later x).has.adh (zl ((nd.y * f.wide+nd.x).toNat) (by have h_:=(fr_lt hf hs2.len hni).1;omega))) (fr_get hf hs2.len hni) rfl eF1)) rfl<|fW rfl rfl rfl rfl rfl rfl (λ hc _=>blt rfl rfl) rfl<|fw1 rfl (λ _=>pkT rfl (evb rfl c1_))<|fn λ w_83 x_84=> ?_
     have:=x_84.size
     have z_83:=z_77.trans (Mod.of_ext x_84)
     refine nT<|cT rfl<|rg<|vm rfl<| ?_
     have B_70:=B_70.later x_84
     refine vL (ld rfl (B_70.all eF3 eF4))<|vL (fa eF39 rfl)<| ?_
     have B_28:=B_28.later x_68
     have B_28:=B_28.mod m_74 (nm1 (by omega))
     have B_28:=B_28.later (eT x_78 x_84)
     refine vL (ld rfl (B_28.one eF1 rfl))<|vm rfl<|vL (bad rfl rfl (inI (by omega)))<| ?_
     have HQ2:=HQ2.later x_68
     have HQ2:=HQ2.mod m_74 (fk1 u_64 (by omega))
     have HQ2:=HQ2.later (eT x_78 x_84)
     have HB2:=HB2.later x_84
     refine ca eF43 rfl rfl ((ppush_any w0 f P F A2 pc cf c2 b far1 l2 to_ nd (xn.far+(pcK f nd)) _ (Ext.mod hx0 z_83 hzb) hf hP HB2 hb HQ2 (λ q hq hb=>by exfalso;(exact d_55 q hq hb)) (λ y hy=>(hs2.node hf hin hy).2.2.2.2.2.2.2.2) (by omega) (by omega) (by omega) (by omega)).mono ?_)
     rintro e w_88 ⟨A86,c86,rfl,HB86,HQ86,hdQ86,hg86,m_87⟩
     refine ⟨_,rfl, ?_⟩
     have:=m_87.size
     have z_88:=z_83.md m_87 (λ q hq=>(List.mem_cons.1 hq).elim (λ h=> .inl (by rw [h];exact List.mem_cons_self)) (λ h=>(hgA2 q h).imp (λ h=>List.mem_cons_of_mem _ (List.mem_append_right _ h)) id))
     have u_90:=λ q hq=>(HQ86.lt q hq).2
     have hs4:=hs2.look_new (n:=⟨nd,xn.far+(pcK f nd),xn.far+(pcK f nd)+Fld.est to_ nd⟩) (Fld.okA f to_) (by omega) (by rw [hnd];exact c0) (by rw [hnd]) (by rw [hnd,hfx,← hkk]) (by rw [hnd])
     refine nl<|nB<|nT<|rg<|vL (bad rfl rfl (inI (by omega)))<|vm rfl<|nl<| ?_
     have B_28:=B_28.mod m_87 (λ hq=>(List.mem_cons.1 hq).elim (λ h=>by omega) (λ h=>(show ∀ q,q∈Rep.blkOf A2→q=b_25→False from λ q h hb=>by (exact d_54 q h hb)) _ h rfl))
     have HF2:=HF2.later x_84
     have HF2:=HF2.mod m_87 (λ q hq h=>(List.mem_cons.1 h).elim (λ h=>by exfalso;(exact d_4 q hq h)) (λ h=>by exfalso;(exact d_56 q h hq)))
     exact nI _ _ ⟨j+1,Hp.push Nod.all l2 ⟨nd,xn.far+(pcK f nd),xn.far+(pcK f nd)+Fld.est to_ nd⟩,A86,c86,rfl,rfl,z_88,B_28,HF2,HB86,HQ86,by omega,hs4,by rw [Hp.push_len];omega,(λ q hq=>(hg86 q hq).elim (hgA2 q) (λ h=> .inr (by omega))),(λ q hq hb=>by (exact Or.elim (hg86 q hq) (λ k_91=>by (exact d_54 q k_91 hb)) (λ k_91=>by omega))),(λ q hq hb=>by (exact hdQ86 q hq hb)),(λ q hq hb=>by (exact Or.elim (hg86 q hq) (λ k_92=>by (exact d_56 q k_92 hb)) (λ k_92=>by (have:=u_62 q hb;have:=u_12 q hb;omega))))⟩ (by omega) (.cons rfl (.cons rfl (.cons rfl (.cons rfl (.cons rfl (.cons rfl (.cons rfl (.cons rfl (.cons rfl (.cons rfl (.cons rfl (.cons rfl (.cons rfl (.cons rfl (.cons rfl (.cons rfl (.cons rfl (.cons rfl (.cons rfl (.cons rfl (.cons rfl (.cons rfl (.cons rfl (.cons rfl (.cons rfl (.cons rfl (.cons rfl (.cons rfl (.cons rfl (.cons rfl (.cons rfl (.cons rfl (.cons rfl (.cons rfl (.cons rfl (.cons rfl (.cons rfl (.cons rfl (.cons rfl (.cons rfl (.cons rfl (.cons rfl (.cons rfl (.cons rfl (.cons rfl (.cons rfl (.cons rfl (.cons rfl (.cons rfl (.cons rfl (.cons rfl (.cons rfl (.cons rfl (.cons rfl (.cons rfl (.cons rfl (.cons rfl (.cons rfl (.cons rfl (.cons rfl (.cons rfl (.cons rfl (.cons rfl (.cons rfl (.cons rfl (.cons rfl (.cons rfl (.cons (loI rfl (by first | omega | rfl | (simp<;>omega))) .nil))))))))))))))))))))))))))))))))))))))))))))))))))))))))))))))))))))
    ·have hni:=Fld.ground_in c0
     obtain ⟨nl1,nl2,nl3⟩:=fr_lt hf hs2.len hni
     have hs3:=hs2.look_known (by omega) (by rw [hnd];have h9:=of_decide_eq_false c1_;omega) (by rw [hnd];exact c0)
     refine rd [(5,0),(7,0),(8,0),(10,0)] [0,1,2,3,4,5,6,7,8,9,10,11,12] (by kernel_rfl) (by kernel_rfl) ?_
     refine fw1 rfl (λ _=>mv (evb rfl c0))<|fw1 rfl (λ _=>mv rfl)<|fW rfl rfl rfl rfl rfl rfl (λ hc _=>mv rfl) rfl<|fW rfl rfl rfl rfl rfl rfl (λ hc _=>nc rfl) rfl<|fW rfl rfl rfl rfl rfl rfl (λ hc _=>fa eF35 rfl) rfl<| ?_
     have HB2:=HB2.later x_78
     refine fQ rfl rfl rfl rfl rfl rfl (λ hc _ x=>ld rfl ((HB2.later x).one eF36 rfl)) rfl<|fW rfl rfl rfl rfl rfl rfl (λ hc _=>mv rfl) rfl<| ?_
     have B_70:=B_70.later x_78
     refine fQ rfl rfl rfl rfl rfl rfl (λ hc _ x=>ld rfl ((B_70.later x).all eF3 eF4)) rfl<|fC rfl rfl rfl rfl rfl rfl eF34 (λ hc=>rfl) (λ hc _ x=>pindex_any w0 f P F A2 pc cf c2 b far1 l2 to_ nd _ (eT (Ext.mod hx0 z_77 hzb) x) hf hP (HB2.later x) (by first | omega | (dsimp only;omega))) rfl<| ?_
     have HF2:=HF2.later x_68
     have HF2:=HF2.mod m_74 (λ q hq h=>by have hb:=List.mem_singleton.1 h;exfalso;(have:=u_62 q hq;have:=u_12 q hq;omega))
     have HF2:=HF2.later x_78
     refine fW rfl rfl rfl rfl rfl rfl (λ hc _=>iA ((nd.y * f.wide+nd.x).toNat) Tryz.underlying22 eF7 rfl rfl (HF2.has.adr (zl ((nd.y * f.wide+nd.x).toNat) (by have h_:=(fr_lt hf hs2.len hni).1;omega))) (by (try simp only [bS] at hc);omega) (by have h_:=(fr_lt hf hs2.len hni).1;omega)) rfl<|fQ rfl rfl rfl rfl rfl rfl (λ hc _ x=>ld rfl (Rep.SHas.one' hcI ((HF2.later x).has.adh (zl ((nd.y * f.wide+nd.x).toNat) (by have h_:=(fr_lt hf hs2.len hni).1;omega))) (fr_get hf hs2.len hni) rfl eF1)) rfl<|fW rfl rfl rfl rfl rfl rfl (λ hc _=>blt rfl rfl) rfl<|fw1 rfl (λ _=>pkT rfl (evb rfl c1_))<|fn λ w_93 x_94=> ?_
     have:=x_94.size
     have z_93:=z_77.trans (Mod.of_ext x_94)
     refine nT<|cF rfl<|sk<|nB<|nT<|rg<|vL (bad rfl rfl (inI (by omega)))<|vm rfl<|nl<| ?_
     have B_28:=B_28.later x_68
     have B_28:=B_28.mod m_74 (nm1 (by omega))
     have B_28:=B_28.later (eT x_78 x_94)
     have HF2:=HF2.later x_94
     have HB2:=HB2.later x_94
     have HQ2:=HQ2.later x_68
     have HQ2:=HQ2.mod m_74 (fk1 u_64 (by omega))
     have HQ2:=HQ2.later (eT x_78 x_94)
     exact nI _ _ ⟨j+1,l2,A2,c2,rfl,rfl,z_93,B_28,HF2,HB2,HQ2,by omega,hs3,by omega,hgA2,(λ q hq hb=>by (exact d_54 q hq hb)),(λ q hq hb=>by (exact d_55 q hq hb)),(λ q hq hb=>by (exact d_56 q hq hb))⟩ (by omega) (.cons rfl (.cons rfl (.cons rfl (.cons rfl (.cons rfl (.cons rfl (.cons rfl (.cons rfl (.cons rfl (.cons rfl (.cons rfl (.cons rfl (.cons rfl (.cons rfl (.cons rfl (.cons rfl (.cons rfl (.cons rfl (.cons rfl (.cons rfl (.cons rfl (.cons rfl (.cons rfl (.cons rfl (.cons rfl (.cons rfl (.cons rfl (.cons rfl (.cons rfl (.cons rfl (.cons rfl (.cons rfl (.cons rfl (.cons rfl (.cons rfl (.cons rfl (.cons rfl (.cons rfl (.cons rfl (.cons rfl (.cons rfl (.cons rfl (.cons rfl (.cons rfl (.cons rfl (.cons rfl (.cons rfl (.cons rfl (.cons rfl (.cons rfl (.cons rfl (.cons rfl (.cons rfl (.cons rfl (.cons rfl (.cons rfl (.cons rfl (.cons rfl (.cons rfl (.cons rfl (.cons rfl (.cons rfl (.cons rfl (.cons rfl (.cons rfl (.cons rfl (.cons rfl (.cons (loI rfl (by first | omega | rfl | (simp<;>omega))) .nil))))))))))))))))))))))))))))))))))))))))))))))))))))))))))))))))))))
   ·refine xt<|xT<|xK<|xB<|nB<| ?_
    exact nI _ _ ⟨far2,l2,A2,c2,xn.cell,rfl,rfl,z_57,(by first | exact HB2 | (rw [hlen2];exact HB2)),HF2,HQ2,(by have e:j=4:=(by omega);subst e;exact hs2),hv2,by omega,hgA2,(λ q hq hb=>by (exact d_4 q hq hb)),(λ q hq hb=>by (exact d_55 q hq hb)),(λ q hq hb=>by (exact d_56 q hq hb))⟩ (by first | (rw [Hp.popL_len];omega) | omega) (sba rfl)
 ·have h0p:0<l1.length:=by simpa using c0
  have hend:=pend_more hs1 hv1 h0p (by rw [Bool.or_eq_false_iff,decide_eq_false_iff_not,decide_eq_false_iff_not] at c1_;omega) (by rw [Bool.or_eq_false_iff,decide_eq_false_iff_not,decide_eq_false_iff_not] at c1_;omega)
  refine rd [(3,0),(4,0),(10,0),(13,0),(19,0),(22,0),(26,0),(29,0)] [0,1,2,3,4,5,6,7,8,9,10,11,12,13,14,15,16,17,18,19,20,21,22,23,24,25,26,27,28,29,30,31,32] (by kernel_rfl) (by kernel_rfl) ?_
  refine fw1 rfl (λ _=>mv rfl)<|fw1 rfl (λ _=>nc rfl)<|fw1 rfl (λ _=>fa eF32 rfl)<|fq1 rfl (λ _ x=>ld rfl ((HB1.later x).one eF11 rfl))<|fc rfl rfl eF17 rfl (λ _ x=>xP_len _ l1.length _ _) rfl<|fw1 rfl (λ _=>bgt rfl rfl)<|fw1 rfl (λ _=>mv (evb rfl c0))<|fW rfl rfl rfl rfl rfl rfl (λ hc _=>mv rfl) rfl<|fW rfl rfl rfl rfl rfl rfl (λ hc _=>nc rfl) rfl<|fW rfl rfl rfl rfl rfl rfl (λ hc _=>fa eF35 rfl) rfl<|fQ rfl rfl rfl rfl rfl rfl (λ hc _ x=>ld rfl ((HB1.later x).one eF36 rfl)) rfl<|fW rfl rfl rfl rfl rfl rfl (λ hc _=>mv rfl) rfl<|fW rfl rfl rfl rfl rfl rfl (λ hc _=>iA ((to_.y * f.wide+to_.x).toNat) Tryz.underlying22 eF7 rfl rfl (HF1.has.adr (zl ((to_.y * f.wide+to_.x).toNat) (by have h_:=(fr_lt hf hs1.len hin).1;omega))) (by (try simp only [bS] at hc);omega) (by have h_:=(fr_lt hf hs1.len hin).1;omega)) rfl<|fQ rfl rfl rfl rfl rfl rfl (λ hc _ x=>ld rfl (Rep.SHas.one' hcI ((HF1.later x).has.adh (zl ((to_.y * f.wide+to_.x).toNat) (by have h_:=(fr_lt hf hs1.len hin).1;omega))) (fr_get hf hs1.len hin) rfl eF1)) rfl<|fW rfl rfl rfl rfl rfl rfl (λ hc _=>blt rfl rfl) rfl<|fW rfl rfl rfl rfl rfl rfl (λ hc _=>mv rfl) rfl<|fW rfl rfl rfl rfl rfl rfl (λ hc _=>mv rfl) rfl<|fW rfl rfl rfl rfl rfl rfl (λ hc _=>nc (gt hc rfl)) rfl<|fW rfl rfl rfl rfl rfl rfl (λ hc _=>fa eF32 (gt hc rfl)) rfl<|fQ rfl rfl rfl rfl rfl rfl (λ hc _ x=>ld (gt hc rfl) ((HB1.later x).one eF11 rfl)) rfl<|fW rfl rfl rfl rfl rfl rfl (λ hc _=>iA 0 Tryz.underlying263 eF8 (gt hc rfl) rfl (HQ1.has.adr (zl 0 (by (try simp only [bS] at hc);omega))) rfl (by (try simp only [bS] at hc);omega)) rfl<|fW rfl rfl rfl rfl rfl rfl (λ hc _=>fa eF9 (gt hc rfl)) rfl<|fQ rfl rfl rfl rfl rfl rfl (λ hc _ x=>ld (gt hc rfl) (Rep.SHas.fld hcNo ((HQ1.later x).has.adh (zl 0 (by (try simp only [bS] at hc);omega))) 3 (get_d (l:=l1) (u:=default) (by (try simp only [bS] at hc);omega)) rfl eF1)) rfl<|fW rfl rfl rfl rfl rfl rfl (λ hc _=>mv rfl) rfl<| ?_
  refine fW rfl rfl rfl rfl rfl rfl (λ hc _=>nc (gt hc rfl)) rfl<|fW rfl rfl rfl rfl rfl rfl (λ hc _=>fa eF35 (gt hc rfl)) rfl<|fQ rfl rfl rfl rfl rfl rfl (λ hc _ x=>ld (gt hc rfl) ((HB1.later x).one eF36 rfl)) rfl<|fW rfl rfl rfl rfl rfl rfl (λ hc _=>mv rfl) rfl<|fW rfl rfl rfl rfl rfl rfl (λ hc _=>iA ((to_.y * f.wide+to_.x).toNat) Tryz.underlying22 eF7 (gt hc rfl) (gt hc rfl) (HF1.has.adr (zl ((to_.y * f.wide+to_.x).toNat) (by have h_:=(fr_lt hf hs1.len hin).1;omega))) (by (try simp only [bS] at hc);omega) (by have h_:=(fr_lt hf hs1.len hin).1;omega)) rfl<|fQ rfl rfl rfl rfl rfl rfl (λ hc _ x=>ld (gt hc rfl) (Rep.SHas.one' hcI ((HF1.later x).has.adh (zl ((to_.y * f.wide+to_.x).toNat) (by have h_:=(fr_lt hf hs1.len hin).1;omega))) (fr_get hf hs1.len hin) rfl eF1)) rfl<|fW rfl rfl rfl rfl rfl rfl (λ hc _=>ble (gt hc rfl) (gt hc rfl)) rfl<|fW rfl rfl rfl rfl rfl rfl (λ hc _=>pO rfl rfl rfl rfl) rfl<|fw1 rfl (λ _=>pkT rfl (evb rfl c1_))<|fn λ w_96 x_97=> ?_
  have:=x_97.size
  have z_96:=z_7.trans (Mod.of_ext x_97)
  refine nT<|cF rfl<|xt<|xT<|xK<|xB<|ne<|tR .nil<| ?_
  have HQ1:=HQ1.later x_97
  have HF1:=HF1.later x_97
  have HB1:=HB1.later x_97
  exact ⟨far1,A1,c1,l1,rfl,HB1,HF1,hend,z_96⟩
end
section
open Go.RowKit
def mulRen:Go.Shelf.Ren:=⟨fun | 212=> 217 | 263=> 237 | 264=> 238 | n=>n,fun | 46=> 236 | 53=> 41 | 51=> 73 | 146=> 324 | 148=> 326 | n=>n,fun | n=>n⟩
theorem laysMul:Go.Proofs.Lays.n212 Tryz.prog mulRen:= {
 mixed:=by kernel_rfl
 f212:=Tryz.func217.trans (congrArg some (by kernel_rfl))
 f263:=Tryz.func237.trans (congrArg some (by kernel_rfl))
 f264:=Tryz.func238.trans (congrArg some (by kernel_rfl))
 t46:=Tryz.underlying236
 a46:=Tryz.isAgg236
 z46:=Tryz.sizeOf236
 v46:=Tryz.zeroValue236
 t51:=Tryz.underlying73
 a51:=Tryz.isAgg73
 z51:=Tryz.sizeOf73
 v51:=Tryz.zeroValue73
 t53:=Tryz.underlying41
 a53:=Tryz.isAgg41
 z53:=Tryz.sizeOf41
 v53:=Tryz.zeroValue41
 t146:=Tryz.underlying324
 a146:=Tryz.isAgg324
 z146:=Tryz.sizeOf324
 v146:=Tryz.zeroValue324
 t148:=Tryz.underlying326
 a148:=Tryz.isAgg326
 z148:=Tryz.sizeOf326
 v148:=Tryz.zeroValue326 }
theorem mul_one (n:Nat) (hn:n<18446744073709551616) (w:World):Calls Tryz.prog 217 #[.int .u64 1, .int .u64 (n:Int)] w (λ e w'=>e= .returned (.tuple #[.int .u64 0, .int .u64 (n:Int)])∧Ext w w'):=by
 refine (Any.bits_Mul laysMul 1 n (by decide) hn w).mono λ e w' ⟨h1,h2⟩=> ?_
 subst h2
 rw [h1]
 refine ⟨?_,Ext.rf _⟩
 rw [Nat.one_mul,Nat.div_eq_of_lt hn,Nat.mod_eq_of_lt hn];rfl
end
section
open Go.RowKit
def binI (l:List Int) (x:Int):Nat:=l.countP λ y=>decide (y<x)
def encI' (n:Int):Value:= .int .i64 n
theorem flat_ints {w:World} {B:Nat}:∀ {ps:List (List Nat×List Value)} {l:List Int},All2 (λ x a=>repI.own w B x.1 x.2 a) ps l→(ps.map (·.2)).flatten=l.map encI'∧∀ x∈l,okI x
 | [], [],_=>⟨rfl,by simp⟩
 | p::ps,a::l,h=>by
  obtain ⟨⟨_,h1,h2⟩,h3⟩:=h
  obtain ⟨e,ho⟩:=flat_ints h3
  refine ⟨by rw [List.map_cons,List.flatten_cons,e,h1];rfl,λ x hx=> ?_⟩
  rcases List.mem_cons.1 hx with rfl | hx
  ·exact h2
  ·exact ho x hx
 | [],_::_,h=>h.elim
 | _::_, [],h=>h.elim
theorem ins_all_ints {w:World}:∀ {l:List Int},(∀ x∈l,okI x)→All2 (λ es a=>repI.has w es a) (l.map λ n=> [encI' n]) l
 | [],_=>trivial
 | a::l,h=>⟨⟨rfl,h a List.mem_cons_self⟩,ins_all_ints λ x hx=>h x (List.mem_cons_of_mem _ hx)⟩
theorem flat_sing (l:List Int):(l.map λ n=> [encI' n]).flatten=l.map encI':=by
 induction l with
 | nil=>rfl
 | cons a l ih=>rw [List.map_cons,List.flatten_cons,ih];rfl
theorem ints_open {w:World} {B c g:Nat} {l:List Int} (h:repI.SOwn 3 8 w B (Rep.blkOf (some ⟨g,0,none⟩)) (some ⟨g,0,none⟩) c l):
  ∃ cur:List Value,Blk w g cur 3 (0,0)∧B≤g∧c≤maxLen∧cur.length=c∧l.length≤c∧cur.take l.length=l.map encI'∧(∀ u∈cur,∃ n:Int,u= .int .i64 n)∧∀ x∈l,okI x:=by
 obtain ⟨hb,ps,hf,hn,ho,hall⟩:=h
 obtain ⟨e,hok⟩:=flat_ints hall
 rw [e] at ho
 obtain ⟨_,h2⟩:=ho
 rcases h2 with ⟨h2,_⟩ | ⟨g',cap,cur,hv,hB,hh,hnc,hcm,hs,ht,hG⟩
 ·cases h2
 ·injection hv with e1 e2 e3
  injection e1 with e1
  injection e1 with e1
  subst e1 e3
  refine ⟨cur.toList,hh,hB,hcm,by have hs:cur.size=c * 1:=hs;rw [Nat.mul_one] at hs;simpa using hs,hnc,by have ht:cur.toList.take (l.length * 1)=_:=ht;rwa [Nat.mul_one] at ht,λ u hu=> ?_,hok⟩
  obtain ⟨j,hj,rfl⟩:=List.mem_iff_getElem.1 hu
  exact hG j _ (by rw [← Array.getElem?_toList,List.getElem?_eq_getElem hj])
theorem ints_close {w:World} {B c g:Nat} {l:List Int} {cur:List Value} (h:Blk w g cur 3 (0,0)) (hB:B≤g) (hcm:c≤maxLen) (hs:cur.length=c) (hn:l.length≤c) (hb:l.length * 8≤140737488355328) (ht:cur.take l.length=l.map encI') (hG:∀ u∈cur,∃ n:Int,u= .int .i64 n) (hok:∀ x∈l,okI x):
  repI.SOwn 3 8 w B (Rep.blkOf (some ⟨g,0,none⟩)) (some ⟨g,0,none⟩) c l:=by
 refine Rep.SOwn.of_plain Rep.flat_plain (ins_all_ints hok) hb ?_
 rw [flat_sing]
 refine ⟨by rw [List.length_map];exact (Nat.mul_one _).symm, .inr ⟨g,c,cur.toArray,rfl,hB,h,hn,hcm,by rw [List.size_toArray,hs];exact (Nat.mul_one _).symm, ?_,λ j u hu=> ?_⟩⟩
 ·show cur.toArray.toList.take (l.length * 1)=_
  rw [Nat.mul_one];exact ht
 ·exact hG u (by rw [List.getElem?_toArray] at hu;exact List.mem_of_getElem? hu)
def setL (cur:List Value):Nat→List Value→List Value
 | _, []=>cur
 | o,v::r=>setL (cur.set o v) (o+1) r
theorem Blk.setCells {g:Nat} {e:TypeId}:∀ (zs:List Value) (o:Nat) (w:World) (cur:List Value),Blk w g cur e (0,0)→Blk (w.setCells g o zs) g (setL cur o zs) e (0,0)
 | [],_,_,_,h=>h
 | v::r,o,w,cur,h=>Blk.setCells r (o+1) _ _ (h.set o v)
theorem setL_eq:∀ (zs:List Value) (o:Nat) (cur:List Value),o+zs.length≤cur.length→setL cur o zs=cur.take o++zs++cur.drop (o+zs.length)
 | [],o,cur,_=>by simp [setL]
 | v::r,o,cur,h=>by
  rw [List.length_cons] at h
  rw [setL,setL_eq r (o+1) _ (by rw [List.length_set];omega),List.length_cons,List.drop_set_of_lt (by omega),show o+1+r.length=o+(r.length+1) by omega]
  have:(cur.set o v).take (o+1)=cur.take o++ [v]:=by
   rw [List.take_succ_eq_append_getElem (by rw [List.length_set];omega),List.take_set_of_le (Nat.le_refl _),List.getElem_set_self]
  rw [this];simp
theorem setL_mem {u:Value}:∀ (zs:List Value) (o:Nat) (cur:List Value),u∈setL cur o zs→u∈cur∨u∈zs
 | [],_,_,h=> .inl h
 | v::r,o,cur,h=>by
  rcases setL_mem r (o+1) _ h with h | h
  ·rcases List.mem_or_eq_of_mem_set h with h | rfl
   ·exact .inl h
   ·exact .inr List.mem_cons_self
  ·exact .inr (List.mem_cons_of_mem _ h)
theorem setL_len:∀ (zs:List Value) (o:Nat) (cur:List Value),(setL cur o zs).length=cur.length
 | [],_,_=>rfl
 | v::r,o,cur=>by rw [setL,setL_len r,List.length_set]
theorem mem_enc {l:List Int} {u:Value} (h:u∈l.map encI'):∃ n:Int,u= .int .i64 n:=by
 obtain ⟨n,_,rfl⟩:=List.mem_map.1 h;exact ⟨n,rfl⟩
theorem one_enc {l:List Int}:∀ v∈l.map encI',v.oneCell'=true:=λ v hv=>by obtain ⟨n,rfl⟩:=mem_enc hv;rfl
theorem Mod.cells (g:Nat):∀ (zs:List Value) (o:Nat) (w:World),Mod [g] w (w.setCells g o zs)
 | [],_,w=>Mod.of_ext (Ext.rf w)
 | v::r,o,w=>by
  rw [World.setCells]
  exact (Mod.setCell w ⟨g,o,none⟩ v).trans (Mod.cells g r (o+1) _)
end
section
open Go.RowKit
theorem cvn {P:Program} {E:List (Nat×Value)} {w:World} {d:Option Nat} {ty:TypeId} {pos:String} {af:Array Edge} {g:Option (Nat×Bool)} {x:Operand} {src dst:TypeId} {k k':IntKind} {i r:Int} (hr:∀ w,(convert src dst (.int k i)).run P w= .ok (.int k' (k'.wrap i)) w) (h:k'.wrap i=r) (hx:ev E x=some (.int k i)):
  Runs P E ⟨d, .convert src dst x,ty,pos,af,g⟩ w (.int k' r) w:=λ n a ha=>by
 subst h
 simp only [execOp,ha.ev hx,Sem.run_bind,hr w,Result.andThen_ok,Sem.run_pure]
theorem take_setL {cur:List Value} {lo k:Nat} {zs:List Value} (h:lo+zs.length≤k) (hk:k≤cur.length):(setL cur lo zs).take k=(cur.take k).take lo++zs++(cur.take k).drop (lo+zs.length):=by
 rw [setL_eq _ _ _ (by omega)]
 have h1:(cur.take lo++zs).length=lo+zs.length:=by rw [List.length_append,List.length_take];omega
 rw [List.take_append,h1,List.take_of_length_le (by rw [h1];exact h),List.take_take,Nat.min_eq_left (by omega),List.drop_take]
theorem cpy {n:Nat} {E:List (Nat×Value)} {w:World} {Q:Exit→Act→World→Prop} {ops:Array Oper} {ty:TypeId} {pos:String} {af:Array Edge} {x y:Operand} {rest:List Oper} {Z c b lo dl dc sl sc d:Nat} {A D S:Option Addr} {sa:Addr} {l zs:List Int}
  (h:repI.SOwn 3 8 w Z (Rep.blkOf A) A c l) (hA:A=some ⟨b,0,none⟩) (hx:ev E x=some (.slice D dl dc)) (hD:D=some ⟨b,lo,none⟩) (hy:ev E y=some (.slice S sl sc)) (hS:S=some sa) (hsrc:∀ (j:Nat) (v:Int),zs[j]? =some v→w.cell? (sa.add j)=some (.int .i64 v)) (hz:∀ v∈zs,okI v)
  (hm:zs.length=Nat.min sl dl) (hle:lo+zs.length≤l.length) (hbd:Nat.blt d n=true)
  (hk:∀ w1,Mod (Rep.blkOf A) w w1→repI.SOwn 3 8 w1 Z (Rep.blkOf A) A c (l.take lo++zs++l.drop (lo+zs.length))→WL Tryz.prog n ops Q rest ((d, .int .i64 (zs.length:Int))::E) w1):
  WL Tryz.prog n ops Q (⟨some d, .call {callee:= .builtin .copy,args:=#[x,y],argTypes:=#[22, 22]},ty,pos,af,none⟩::rest) E w:=λ a ha=>by
 subst hA hD hS
 obtain ⟨cur,h1,h2,h3,h4,h5,h6,h7,h8⟩:=ints_open h
 have hcl:(zs.map encI').length=zs.length:=List.length_map _
 have hrun:(Builtin.copy_ #[22, 22] ty #[.slice (some ⟨b,lo,none⟩) dl dc, .slice (some sa) sl sc]).run Tryz.prog w= .ok (goInt (zs.map encI').length) (w.setCells b lo (zs.map encI')):=
  run_copy_cells w _ _ ty 3 b lo dl dc sa sl sc (zs.map encI') Tryz.underlying22 (by
    obtain ⟨i0,hi0,hz0,hzs,hzb⟩:=info_parts info_int
    rw [hi0];simp [hzs]) (by rw [hcl];exact hm)
   (λ j v hj=>by
    rw [List.getElem?_map] at hj
    cases hv:zs[j]? with
    | none=>rw [hv] at hj;cases hj
    | some u=>rw [hv] at hj;rw [← Option.some.inj hj];exact hsrc j u hv)
   (λ j hj=>by rw [hcl] at hj;rw [h1.cell,List.getElem?_eq_getElem (by omega)];rfl) (λ j _=>h.free _) one_enc
 refine WL_one rfl ?_
 unfold Oper.wp execOp
 simp only [resolve,invoke,builtin,Sem.run_bind,Sem.run_pure,Result.andThen_ok,List.map_toArray,List.map_cons,List.map_nil,ha.ev hx,ha.ev hy,hrun]
 rw [hcl]
 refine hk _ (Mod.cells b _ _ _) (ints_close (cur:=setL cur lo (zs.map encI')) (Blk.setCells _ _ _ _ h1) h2 h3 (by rw [setL_len];exact h4) ?_ ?_ ?_ ?_ ?_) _ (ha.put hbd _)
 ·have:(l.take lo++zs++l.drop (lo+zs.length)).length=l.length:=by rw [List.length_append,List.length_append,List.length_take,List.length_drop];omega
  rw [this];exact h5
 ·have:(l.take lo++zs++l.drop (lo+zs.length)).length=l.length:=by rw [List.length_append,List.length_append,List.length_take,List.length_drop];omega
  rw [this]
  obtain ⟨hb,_⟩:=h
  exact hb
 ·have:(l.take lo++zs++l.drop (lo+zs.length)).length=l.length:=by rw [List.length_append,List.length_append,List.length_take,List.length_drop];omega
  rw [this,take_setL (by rw [hcl];exact hle) (by omega),h6,hcl,List.map_append,List.map_append,List.map_take,List.map_drop]
 ·intro u hu
  rcases setL_mem _ _ _ hu with hu | hu
  ·exact h7 u hu
  ·exact mem_enc hu
 ·intro u hu
  rcases List.mem_append.1 hu with hu | hu
  ·rcases List.mem_append.1 hu with hu | hu
   ·exact h8 u (List.mem_of_mem_take hu)
   ·exact hz u hu
  ·exact h8 u (List.mem_of_mem_drop hu)
theorem sA_lit {b c lo:Nat} (h:lo<c):sA (some ⟨b,0,none⟩) c lo 1=some ⟨b,lo,none⟩:=by
 unfold sA
 rw [if_neg (by omega)]
 show some (Addr.add _ _)=_
 unfold Addr.add
 split
 ·have:lo=0:=by omega
  subst this;rfl
 ·simp
theorem rpt_step {N k:Nat} {v:Int} (h0:0<k) (h1:k<N):(List.replicate k v++List.replicate (N - k) (0:Int)).take k++List.replicate (Nat.min k (N - k)) v++(List.replicate k v++List.replicate (N - k) (0:Int)).drop (k+(List.replicate (Nat.min k (N - k)) v).length)=List.replicate (k+Nat.min k (N - k)) v++List.replicate (N - (k+Nat.min k (N - k))) (0:Int):=by
 have hm:Nat.min k (N - k)≤N - k:=Nat.min_le_right _ _
 rw [List.take_append_of_le_length (by rw [List.length_replicate];exact Nat.le_refl _),List.take_of_length_le (by rw [List.length_replicate];exact Nat.le_refl _),List.length_replicate,List.drop_append,List.length_replicate,List.drop_of_length_le (by rw [List.length_replicate];omega),List.nil_append,List.drop_replicate,List.replicate_append_replicate]
 congr 2
 omega
theorem wU {x:Int} (h0:0≤x) (h1:x<18446744073709551616):IntKind.u64.wrap x=x:=by rw [IntKind.wrap_u64];omega
theorem src_one {w:World} {X:Option Addr} {cx:Nat} {v u:Int} {j:Nat} (hX:repI.SHas 8 w X cx [v]) (hj: [v][j]? =some u):w.cell? ((⟨bA X,oA X,none⟩:Addr).add j)=some (.int .i64 u):=by
 obtain ⟨b,o,rfl,hc⟩:=repI_at hX (by simp)
 rw [show (⟨bA (some ⟨b,o,none⟩),oA (some ⟨b,o,none⟩),none⟩:Addr)=⟨b,o,none⟩ from rfl,addAt]
 exact hc j u hj
theorem src_rep {w:World} {b c k N:Nat} {v u:Int} {j:Nat} (h:repI.SHas 8 w (some ⟨b,0,none⟩) c (List.replicate k v++List.replicate (N - k) (0:Int))) (h0:0<k) (hj:(List.replicate (Nat.min k (N - k)) v)[j]? =some u):w.cell? ((⟨b,0,none⟩:Addr).add j)=some (.int .i64 u):=by
 obtain ⟨b',o,e,hc⟩:=repI_at h (by rw [List.length_append,List.length_replicate];omega)
 have e:=Option.some.inj e
 injection e with e1 e2
 subst e1;subst e2
 rw [addAt]
 have hlt:=(List.getElem?_eq_some_iff.1 hj).1
 rw [List.length_replicate] at hlt
 have hm:Nat.min k (N - k)≤k:=Nat.min_le_left _ _
 have hu:u=v:=by rw [List.getElem?_replicate] at hj;split at hj<;>simp_all
 refine hc j u ?_
 rw [List.getElem?_append_left (by rw [List.length_replicate];omega),List.getElem?_replicate,if_pos (by omega),hu]
theorem repeat_any (X:Option Addr) (cx N:Nat) (v:Int) (w:World) (hX:repI.SHas 8 w X cx [v]) (h0:0<N) (hN:N≤1000000):
  Calls Tryz.prog 196 #[.slice X 1 cx, .int .i64 (N:Int)] w (λ e w'=>∃ A c,e= .returned (.slice A (List.replicate N v).length c)∧repI.SOwn 3 8 w' w.heap.size (Rep.blkOf A) A c (List.replicate N v)∧Ext w w'):=by
 have hok1:=repI_ok hX
 have hokv:=hok1 v (List.mem_singleton.2 rfl)
 refine calls_W (n:=48) Tryz.func196 rfl rfl rfl ?_
 refine sg<|va rfl<|nK<|sq<|sg<|vm rfl<|vL (blt rfl rfl)<|nK<| ?_
 have h_1:(decide ((N:Int)<0))=false:=by (first | exact decide_eq_false (by omega) | simp only [decide_eq_false_iff_not];omega | (rw [Bool.or_eq_false_iff];exact ⟨by decide,decide_eq_false (by omega)⟩))
 refine cF (by rw [← h_1];rfl)<|sK<|sg<|vm rfl<|vL (ln Tryz.underlying22 rfl)<|vL (cvn (r:=(1:Int)) (λ _=>by kernel_rfl) (wU (by omega) (by omega)) rfl)<|vm rfl<|vL (cvn (r:=(N:Int)) (λ _=>by kernel_rfl) (wU (by omega) (by omega)) rfl)<|ca eF44 rfl rfl ((mul_one N (by omega) _).mono ?_)
 rintro e w_2 ⟨rfl,x_3⟩
 refine ⟨_,rfl, ?_⟩
 have:=x_3.size
 have z_2:=eT (Ext.rf w) x_3
 refine vm rfl<|vL (ex rfl rfl)<|vL (ex rfl rfl)<|va rfl<|va rfl<|nK<|sq<|sg<|vm rfl<|vL (bgt rfl rfl)<|vm rfl<|ug rfl rfl rfl<|vm rfl<|ug rfl rfl rfl<|vL (bgt rfl rfl)<|vL (pkF rfl rfl)<|nK<| ?_
 have h_5:(decide (9223372036854775807<(N:Int)))=false:=by (first | exact decide_eq_false (by omega) | simp only [decide_eq_false_iff_not];omega | (rw [Bool.or_eq_false_iff];exact ⟨by decide,decide_eq_false (by omega)⟩))
 refine cF (by rw [← h_5];rfl)<|sK<|sg<|vm rfl<|vL (cvn (r:=(N:Int)) (λ _=>by kernel_rfl) (inI (by omega)) rfl)<|mO (R:=repI) (by_:=8) (B:=w.heap.size) (c:=N) (zv:=(.int .i64 0)) (q:=0) Rep.flat_plain Tryz.underlying22 info_int rfl rfl (λ j u h=>raw0I j u h) (λ _=>⟨rfl,okI_iff.2 (by decide)⟩) rfl rfl rfl (by omega) (by omega) (by omega) λ w_6 b_7 x_8 l_9 O_10=> ?_
 have:=x_8.size
 have z_6:=eT z_2 x_8
 have u_12:=λ q hq=>(O_10.lt q hq).2
 refine va rfl<|nK<|sg<|vm rfl<|vm rfl<|cpy (zs:= [v]) (lo:=0) O_10 rfl rfl rfl rfl (hX.adr (by simp)) (λ j u hj=>src_one (hX.keep z_6) hj) hok1 (by rw [List.length_singleton];exact (Nat.min_eq_left (by omega)).symm) (by rw [List.length_replicate];simp;omega) rfl λ w_14 m_15 O_16=> ?_
 have O_16:repI.SOwn 3 8 w_14 w.heap.size (Rep.blkOf (some ⟨b_7,0,none⟩)) (some ⟨b_7,0,none⟩) N (List.replicate 1 v++List.replicate (N - 1) (0:Int)):=by have h:=O_16;rw [List.take_zero,List.nil_append,List.length_singleton,List.drop_replicate] at h;exact h
 have:=m_15.size
 have z_14:=Ext.mod z_6 m_15 (λ q hq=>by have:=(O_16.lt q hq).1;omega)
 refine va rfl<|nK<|sq<|bk<| ?_
 refine lp (λ mI EI wI=>∃ k:Nat,EI= [(4, .slice none 0 0),(7, .slice (some ⟨b_7,0,none⟩) N N),(8, .int .i64 (k:Int))]∧mI=N - k∧Ext w wI∧repI.SOwn 3 8 wI w.heap.size (Rep.blkOf (some ⟨b_7,0,none⟩)) (some ⟨b_7,0,none⟩) N (List.replicate k v++List.replicate (N - k) (0:Int))∧(0<k)∧(k≤N)) _ _ ⟨1,rfl,rfl,z_14,O_16,by omega,by omega⟩ (sba rfl) ?_
 rintro m_19 E_20 w_18 ⟨k,rfl,rfl,z_18,OR,hk0,hkN⟩
 have:=z_18.size
 have u_22:=λ q hq=>(OR.lt q hq).2
 refine sq<|sg<|vm rfl<|vm rfl<|vL (ln Tryz.underlying22 rfl)<|vL (blt rfl rfl)<|nK<| ?_
 refine clt rfl (λ h_23=> ?_) (λ h_23=> ?_)
 ·refine sK<|bk<| ?_
  refine rd [(7,3)] [0,1,2,3,4,5,6,7,8,9] (by kernel_rfl) (by kernel_rfl) ?_
  refine fw1 rfl (λ _=>mv rfl)<|fw1 rfl (λ _=>mv rfl)<|fw1 rfl (λ _=>mv rfl)<|fw1 rfl (λ _=>sT k Tryz.underlying22 eF7 rfl rfl rfl (by omega))<|fw1 rfl (λ _=>mv rfl)<|fw1 rfl (λ _=>mv rfl)<|fw1 rfl (λ _=>sP k k Tryz.underlying22 eF7 rfl rfl rfl (by omega) rfl)<|fb rfl rfl rfl λ w_24 x_25 Q hK=>cpy (zs:=List.replicate (Nat.min k (N - k)) v) (lo:=k) (OR.later x_25) rfl rfl (sA_lit (by omega)) rfl rfl (λ j u hj=>src_rep (N:=N) (OR.later x_25).has hk0 hj) (λ y hy=>by rw [List.eq_of_mem_replicate hy];exact hokv) (by rw [List.length_replicate]) (by rw [List.length_replicate,List.length_append,List.length_replicate,List.length_replicate];have:Nat.min k (N - k)≤N - k:=Nat.min_le_right _ _;omega) rfl λ w_26 m_27 O_28=>hK _ _ ?_
  have:=x_25.size
  have z_24:=eT z_18 x_25
  have O_28:repI.SOwn 3 8 w_26 w.heap.size (Rep.blkOf (some ⟨b_7,0,none⟩)) (some ⟨b_7,0,none⟩) N (List.replicate (k+Nat.min k (N - k)) v++List.replicate (N - (k+Nat.min k (N - k))) (0:Int)):=by have h:=O_28;rw [rpt_step hk0 (by omega)] at h;exact h
  have:=m_27.size
  have z_26:=Ext.mod z_24 m_27 (λ q hq=>by have:=(O_28.lt q hq).1;omega)
  have hcl:(List.replicate (Nat.min k (N - k)) v).length=Nat.min k (N - k):=List.length_replicate
  rw [hcl]
  refine fw1 rfl (λ _=>bad rfl rfl (inI ((by have:Nat.min k (N - k)≤N - k:=Nat.min_le_right _ _;omega))))<|fw1 rfl (λ _=>as_ rfl)<|fn λ w_31 x_32=> ?_
  have:=x_32.size
  have z_31:=eT z_26 x_32
  refine nB<| ?_
  have O_28:=O_28.later x_32
  exact nI _ _ ⟨(k+Nat.min k (N - k)),rfl,rfl,z_31,O_28,by have:0<Nat.min k (N - k):=Nat.lt_min.2 ⟨hk0,by omega⟩;omega,by have:Nat.min k (N - k)≤N - k:=Nat.min_le_right _ _;omega⟩ (by have:0<Nat.min k (N - k):=Nat.lt_min.2 ⟨hk0,by omega⟩;have:Nat.min k (N - k)≤N - k:=Nat.min_le_right _ _;omega) (.cons rfl (.cons rfl (.cons (loI rfl (by omega)) .nil)))
 ·refine xt<|xT<|xK<|xB<|nT<|sg<|vm rfl<|va rfl<|nK<|rt<|tR (.tmp rfl .nil)<| ?_
  obtain rfl:k=N:=by omega
  exact ⟨_,_,by rw [List.length_replicate];rfl,by have h:=OR;rw [Nat.sub_self,List.replicate_zero,List.append_nil] at h;exact h,z_18⟩
end
section
open Go.RowKit
theorem psearched_bad1 (f:Fld) (a b:Cel) (P:Option Addr) (pc:Nat) (w:World) (hP:repI.SHas 8 w P pc f.places) (he:f.atE a≠0):
  Calls Tryz.prog 163 #[.agg #[.int .i64 f.wide, .int .i64 f.high, .slice P f.places.length pc], .agg #[.int .i64 a.x, .int .i64 a.y], .agg #[.int .i64 b.x, .int .i64 b.y]] w (λ e w'=>e= .returned (.tuple #[.pointer none, .int .i64 (f.atE a)])∧Ext w w'):=by
 have k1:(f.atE a != 0)=true:=by simpa using he
 refine calls_W (n:=61) Tryz.func163 rfl rfl rfl ?_
 refine sg<|bx rfl rfl rfl rfl λ w_1 b_2 x_3 l_4 B_5=> ?_
 have:=x_3.size
 have z_1:=eT (Ext.rf w) x_3
 have q_7:=B_5.lt
 refine bx rfl rfl rfl rfl λ w_8 b_9 x_10 l_11 B_12=> ?_
 have:=x_10.size
 have z_8:=eT z_1 x_10
 have q_14:=B_12.lt
 refine bx rfl rfl rfl rfl λ w_15 b_16 x_17 l_18 B_19=> ?_
 have:=x_17.size
 have z_15:=eT z_8 x_17
 have q_21:=B_19.lt
 refine va rfl<|va rfl<|nK<|sg<| ?_
 have B_5:=B_5.later (eT x_10 x_17)
 refine vL (ld rfl (B_5.all eF23 eF24))<| ?_
 have B_12:=B_12.later x_17
 refine vL (ld rfl (B_12.all eF3 eF4))<|ca eF25 rfl rfl ((fldAt2 f a _ _ _ (hP.keep z_15)).mono ?_)
 rintro e w_22 ⟨rfl,x_23⟩
 refine ⟨_,rfl, ?_⟩
 have:=x_23.size
 have z_22:=eT z_15 x_23
 refine vm rfl<|vL (ex rfl rfl)<|vL (ex rfl rfl)<|va rfl<|va rfl<|nK<|sq<|sg<|vm rfl<|vL (bne rfl rfl)<|nK<|cT (evb rfl k1)<|sg<|vm rfl<|va rfl<|va rfl<|nK<|rt<|tT<| ?_
 refine tR (.tmp rfl (.tmp rfl .nil))<| ?_
 exact ⟨rfl,z_22⟩
theorem psearched_bad2 (f:Fld) (a b:Cel) (P:Option Addr) (pc:Nat) (w:World) (hP:repI.SHas 8 w P pc f.places) (he1:f.atE a=0) (he:f.atE b≠0):
  Calls Tryz.prog 163 #[.agg #[.int .i64 f.wide, .int .i64 f.high, .slice P f.places.length pc], .agg #[.int .i64 a.x, .int .i64 a.y], .agg #[.int .i64 b.x, .int .i64 b.y]] w (λ e w'=>e= .returned (.tuple #[.pointer none, .int .i64 (f.atE b)])∧Ext w w'):=by
 have k1:(f.atE a != 0)=false:=by simpa using he1
 have k2:(f.atE b != 0)=true:=by simpa using he
 refine calls_W (n:=61) Tryz.func163 rfl rfl rfl ?_
 refine sg<|bx rfl rfl rfl rfl λ w_1 b_2 x_3 l_4 B_5=> ?_
 have:=x_3.size
 have z_1:=eT (Ext.rf w) x_3
 have q_7:=B_5.lt
 refine bx rfl rfl rfl rfl λ w_8 b_9 x_10 l_11 B_12=> ?_
 have:=x_10.size
 have z_8:=eT z_1 x_10
 have q_14:=B_12.lt
 refine bx rfl rfl rfl rfl λ w_15 b_16 x_17 l_18 B_19=> ?_
 have:=x_17.size
 have z_15:=eT z_8 x_17
 have q_21:=B_19.lt
 refine va rfl<|va rfl<|nK<|sg<| ?_
 have B_5:=B_5.later (eT x_10 x_17)
 refine vL (ld rfl (B_5.all eF23 eF24))<| ?_
 have B_12:=B_12.later x_17
 refine vL (ld rfl (B_12.all eF3 eF4))<|ca eF25 rfl rfl ((fldAt2 f a _ _ _ (hP.keep z_15)).mono ?_)
 rintro e w_22 ⟨rfl,x_23⟩
 refine ⟨_,rfl, ?_⟩
 have:=x_23.size
 have z_22:=eT z_15 x_23
 refine vm rfl<|vL (ex rfl rfl)<|vL (ex rfl rfl)<|va rfl<|va rfl<|nK<|sq<|sg<|vm rfl<|vL (bne rfl rfl)<|nK<|cF (evb rfl k1)<|sK<|sg<| ?_
 have B_5:=B_5.later x_23
 refine vL (ld rfl (B_5.all eF23 eF24))<| ?_
 have B_19:=B_19.later x_23
 refine vL (ld rfl (B_19.all eF3 eF4))<|ca eF25 rfl rfl ((fldAt2 f b _ _ _ (hP.keep z_22)).mono ?_)
 rintro e w_25 ⟨rfl,x_26⟩
 refine ⟨_,rfl, ?_⟩
 have:=x_26.size
 have z_25:=eT z_22 x_26
 refine vm rfl<|vL (ex rfl rfl)<|vL (ex rfl rfl)<|va rfl<|va rfl<|nK<|sq<|sg<|vm rfl<|vL (bne rfl rfl)<|nK<|cT (evb rfl k2)<|sg<|vm rfl<|va rfl<|va rfl<|nK<|rt<|tT<| ?_
 refine tR (.tmp rfl (.tmp rfl .nil))<| ?_
 exact ⟨rfl,z_25⟩
theorem psearched_bad3 (f:Fld) (a b:Cel) (P:Option Addr) (pc:Nat) (w:World) (hP:repI.SHas 8 w P pc f.places) (he1:f.atE a=0) (he2:f.atE b=0) (he:f.place a=1∨f.place b=1):
  Calls Tryz.prog 163 #[.agg #[.int .i64 f.wide, .int .i64 f.high, .slice P f.places.length pc], .agg #[.int .i64 a.x, .int .i64 a.y], .agg #[.int .i64 b.x, .int .i64 b.y]] w (λ e w'=>e= .returned (.tuple #[.pointer none, .int .i64 9])∧Ext w w'):=by
 have k1:(f.atE a != 0)=false:=by simpa using he1
 have k2:(f.atE b != 0)=false:=by simpa using he2
 have k3:((f.atV a == 1) || (f.atV b == 1))=true:=by obtain ⟨hf,ia⟩:=atE_chkF he1;obtain ⟨_,ib⟩:=atE_chkF he2;rw [(Fld.at_in hf ia).2,(Fld.at_in hf ib).2];simpa using he
 refine calls_W (n:=61) Tryz.func163 rfl rfl rfl ?_
 refine sg<|bx rfl rfl rfl rfl λ w_1 b_2 x_3 l_4 B_5=> ?_
 have:=x_3.size
 have z_1:=eT (Ext.rf w) x_3
 have q_7:=B_5.lt
 refine bx rfl rfl rfl rfl λ w_8 b_9 x_10 l_11 B_12=> ?_
 have:=x_10.size
 have z_8:=eT z_1 x_10
 have q_14:=B_12.lt
 refine bx rfl rfl rfl rfl λ w_15 b_16 x_17 l_18 B_19=> ?_
 have:=x_17.size
 have z_15:=eT z_8 x_17
 have q_21:=B_19.lt
 refine va rfl<|va rfl<|nK<|sg<| ?_
 have B_5:=B_5.later (eT x_10 x_17)
 refine vL (ld rfl (B_5.all eF23 eF24))<| ?_
 have B_12:=B_12.later x_17
 refine vL (ld rfl (B_12.all eF3 eF4))<|ca eF25 rfl rfl ((fldAt2 f a _ _ _ (hP.keep z_15)).mono ?_)
 rintro e w_22 ⟨rfl,x_23⟩
 refine ⟨_,rfl, ?_⟩
 have:=x_23.size
 have z_22:=eT z_15 x_23
 refine vm rfl<|vL (ex rfl rfl)<|vL (ex rfl rfl)<|va rfl<|va rfl<|nK<|sq<|sg<|vm rfl<|vL (bne rfl rfl)<|nK<|cF (evb rfl k1)<|sK<|sg<| ?_
 have B_5:=B_5.later x_23
 refine vL (ld rfl (B_5.all eF23 eF24))<| ?_
 have B_19:=B_19.later x_23
 refine vL (ld rfl (B_19.all eF3 eF4))<|ca eF25 rfl rfl ((fldAt2 f b _ _ _ (hP.keep z_22)).mono ?_)
 rintro e w_25 ⟨rfl,x_26⟩
 refine ⟨_,rfl, ?_⟩
 have:=x_26.size
 have z_25:=eT z_22 x_26
 refine vm rfl<|vL (ex rfl rfl)<|vL (ex rfl rfl)<|va rfl<|va rfl<|nK<|sq<|sg<|vm rfl<|vL (bne rfl rfl)<|nK<|cF (evb rfl k2)<|sK<|sq<|sg<|vm rfl<|vL (beq rfl rfl)<|vm rfl<|vQ rfl rfl rfl rfl (λ hc=>mv rfl) rfl<| ?_
 refine vQ rfl rfl rfl rfl (λ hc=>beq (gt hc rfl) rfl) rfl<|vL (pO rfl rfl rfl rfl)<|nK<|cT (evb rfl k3)<|sg<|va rfl<|va rfl<|nK<|rt<|tT<|tR (.tmp rfl (.tmp rfl .nil))<| ?_
 exact ⟨rfl,z_25⟩
theorem psearched_none (f:Fld) (a b:Cel) (P:Option Addr) (pc:Nat) (w:World) (hP:repI.SHas 8 w P pc f.places) (hf:f.chk=0) (ga:f.ground a=true) (gb:f.ground b=true) (hfr:frF f a b b<0):
  Calls Tryz.prog 163 #[.agg #[.int .i64 f.wide, .int .i64 f.high, .slice P f.places.length pc], .agg #[.int .i64 a.x, .int .i64 a.y], .agg #[.int .i64 b.x, .int .i64 b.y]] w (λ e w'=>(∃ far,PEnd f a b far)∧e= .returned (.tuple #[.pointer none, .int .i64 6])∧Ext w w'):=by
 obtain ⟨g1,g2,g3,g4,g5,g6⟩:=Fld.good hf
 have hl16:=Fld.len_le hf
 have hia:=Fld.ground_in ga
 have hib:=Fld.ground_in gb
 obtain ⟨_,_,a1,a2,a3,a4⟩:=Fld.idx hf hia
 obtain ⟨_,_,b1,b2,b3,b4⟩:=Fld.idx hf hib
 have hea:=(Fld.at_in hf hia).1
 have heb:=(Fld.at_in hf hib).1
 have hva:=(Fld.at_in hf hia).2
 have hvb:=(Fld.at_in hf hib).2
 have hra:=Fld.ground_place ga
 have hrb:=Fld.ground_place gb
 have hpos:0<f.places.length:=by have:=(Fld.at_lt hf hia).1;omega
 have ke1:(f.atE a != 0)=false:=by rw [hea];rfl
 have ke2:(f.atE b != 0)=false:=by rw [heb];rfl
 have kr1:(f.atV a == 1)=false:=by rw [hva];simpa using hra
 have kr2:(f.atV b == 1)=false:=by rw [hvb];simpa using hrb
 have kfr:decide (frF f a b b<0)=true:=decide_eq_true hfr
 refine calls_W (n:=61) Tryz.func163 rfl rfl rfl ?_
 refine sg<|bx rfl rfl rfl rfl λ w_1 b_2 x_3 l_4 B_5=> ?_
 have:=x_3.size
 have z_1:=eT (Ext.rf w) x_3
 have q_7:=B_5.lt
 refine bx rfl rfl rfl rfl λ w_8 b_9 x_10 l_11 B_12=> ?_
 have:=x_10.size
 have z_8:=eT z_1 x_10
 have q_14:=B_12.lt
 refine bx rfl rfl rfl rfl λ w_15 b_16 x_17 l_18 B_19=> ?_
 have:=x_17.size
 have z_15:=eT z_8 x_17
 have q_21:=B_19.lt
 refine va rfl<|va rfl<|nK<|sg<| ?_
 have B_5:=B_5.later (eT x_10 x_17)
 refine vL (ld rfl (B_5.all eF23 eF24))<| ?_
 have B_12:=B_12.later x_17
 refine vL (ld rfl (B_12.all eF3 eF4))<|ca eF25 rfl rfl ((fldAt2 f a _ _ _ (hP.keep z_15)).mono ?_)
 rintro e w_22 ⟨rfl,x_23⟩
 refine ⟨_,rfl, ?_⟩
 have:=x_23.size
 have z_22:=eT z_15 x_23
 refine vm rfl<|vL (ex rfl rfl)<|vL (ex rfl rfl)<|va rfl<|va rfl<|nK<|sq<|sg<|vm rfl<|vL (bne rfl rfl)<|nK<|cF (evb rfl ke1)<|sK<|sg<| ?_
 have B_5:=B_5.later x_23
 refine vL (ld rfl (B_5.all eF23 eF24))<| ?_
 have B_19:=B_19.later x_23
 refine vL (ld rfl (B_19.all eF3 eF4))<|ca eF25 rfl rfl ((fldAt2 f b _ _ _ (hP.keep z_22)).mono ?_)
 rintro e w_25 ⟨rfl,x_26⟩
 refine ⟨_,rfl, ?_⟩
 have:=x_26.size
 have z_25:=eT z_22 x_26
 refine vm rfl<|vL (ex rfl rfl)<|vL (ex rfl rfl)<|va rfl<|va rfl<|nK<|sq<|sg<|vm rfl<|vL (bne rfl rfl)<|nK<|cF (evb rfl ke2)<|sK<|sq<|sg<|vm rfl<|vL (beq rfl rfl)<|vm (evb rfl kr1)<|ug rfl rfl rfl<| ?_
 refine vm rfl<|ug rfl rfl rfl<|vL (beq rfl rfl)<|vL (pkF rfl (evb rfl kr2))<|nK<|cF rfl<|sK<|sq<| ?_
 refine rd [(0,0),(1,0),(2,2),(4,0),(6,2),(8,2)] [0,1,3,4,5,2,6,7,8,9] (by kernel_rfl) (by kernel_rfl) ?_
 have B_5:=B_5.later x_26
 refine fq1 rfl (λ _ x=>ld rfl ((B_5.later x).all eF23 eF24))<| ?_
 have B_19:=B_19.later x_26
 refine fq1 rfl (λ _ x=>ld rfl ((B_19.later x).all eF3 eF4))<|fw1 rfl (λ _=>fa eF45 rfl)<|fq1 rfl (λ _ x=>ld rfl ((B_5.later x).one eF36 rfl))<|fw1 rfl (λ _=>ln Tryz.underlying22 rfl)<|fx rfl rfl rfl λ w_28 x_29 Q hK=>bs (e:= 3) (cs:= [.int .i64 (-1)]) rfl (λ _=>by kernel_rfl) rfl λ w_30 b_31 x_32 l_33 B_34=>hK _ _ ⟨eT x_29 x_32, ?_⟩
 have:=x_29.size
 have z_28:=eT z_25 x_29
 have:=x_32.size
 have z_30:=eT z_28 x_32
 have q_37:=B_34.lt
 refine fx rfl rfl rfl λ w_38 x_39 Q hK=>ca eF46 rfl rfl ((repeat_any _ _ f.places.length (-1) _ (Blk.has1 (R:=repI) (by_:=8) (q:= -1) (B_34.later x_39) ⟨rfl,okI_iff.2 (by decide)⟩ (by decide)) hpos (by omega)).mono ?_)
 rintro e w_43 ⟨F40,cf40,rfl,HF40,x_44⟩
 refine ⟨_,rfl,hK _ _ ⟨eT x_39 x_44, ?_⟩⟩
 have:=x_39.size
 have z_38:=eT z_30 x_39
 have:=x_44.size
 have z_43:=eT z_38 x_44
 have u_41:=λ q hq=>(HF40.lt q hq).2
 have lo_42:=λ q hq=>(HF40.lt q hq).1
 have HF40:=HF40.down (show w.heap.size≤w_38.heap.size by omega)
 refine fw (v:= .agg #[.int .i64 f.wide, .int .i64 f.high, .slice P f.places.length pc, .int .i64 b.x, .int .i64 b.y, .slice F40 ((List.replicate f.places.length (-1)).length) cf40, .slice none 0 0]) rfl rfl (λ _=>bd rfl (by kernel_rfl)) rfl<|fx rfl rfl rfl λ w_47 x_48 Q hK=>bx rfl rfl rfl rfl λ w_49 b_50 x_51 l_52 B_53=>hK _ _ ⟨eT x_48 x_51, ?_⟩
 have:=x_48.size
 have z_47:=eT z_43 x_48
 have:=x_51.size
 have z_49:=eT z_47 x_51
 have q_56:=B_53.lt
 refine fw1 rfl (λ _=>as_ rfl)<|fn λ w_57 x_58=> ?_
 have:=x_58.size
 have z_57:=eT z_49 x_58
 refine nT<|sg<|vm rfl<| ?_
 have B_12:=B_12.later (eT x_23 (eT x_26 (eT x_29 (eT x_32 (eT x_39 (eT x_44 (eT x_48 (eT x_51 x_58))))))))
 refine vL (ld rfl (B_12.all eF3 eF4))<| ?_
 have B_53:=B_53.later x_58
 have HF40:=HF40.later (eT x_48 (eT x_51 x_58))
 have HQ0:Nod.rep.SOwn 313 32 w_57 w.heap.size (Rep.blkOf none) none 0 ([]:List Nod):=Rep.SOwn.nil _
 refine ca eF43 rfl rfl ((ppush_any w f P F40 none pc cf40 0 b_50 ((List.replicate f.places.length (-1))) ([]:List Nod) b a 0 _ z_57 hf hP B_53 (by omega) HQ0 (λ q hq=>by simp [Rep.blkOf] at hq) (λ y hy=>by simp at hy) (by simp) (by omega) (by omega) (by omega)).mono ?_)
 rintro e w_61 ⟨A1,c1,rfl,HB1,HQ1,hdQ1,hg1,m_60⟩
 refine ⟨_,rfl, ?_⟩
 have:=m_60.size
 have z_61:=Ext.mod z_57 m_60 (λ q hq=>(List.mem_cons.1 hq).elim (λ h=>by omega) (λ h=>by simp [Rep.blkOf] at h))
 have u1:=λ q hq=>(HQ1.lt q hq).2
 have lo1:∀ q∈Rep.blkOf A1,w_57.heap.size≤q:=λ q hq=>(hg1 q hq).elim (λ h=>by simp [Rep.blkOf] at h) id
 refine nK<|sg<|vm rfl<| ?_
 have HF40:=HF40.mod m_60 (λ q hq h=>(List.mem_cons.1 h).elim (λ h=>by exfalso;(have:=u_41 q hq;omega)) (λ h=>by simp [Rep.blkOf] at h))
 refine ca eF47 rfl rfl ((prun_any w f P F40 A1 pc cf40 c1 b_50 ((List.replicate f.places.length (-1))) (Hp.push Nod.all ([]:List Nod) ⟨a,0,0+Fld.est b a⟩) b a a _ z_61 hf hP HB1 (by omega) HF40 HQ1 (λ q hq hb=>by exfalso;(have:=u_41 q hq;omega)) hdQ1 (λ q h1 h2=>by exfalso;(have:=lo1 q h1;(have:=u_41 q h2;omega))) (PS.start hf ga a) Vis.start hib (by rw [Hp.push_len,und_all];simp;omega)).mono ?_)
 rintro e w_64 ⟨far,A2,c2,l2,rfl,HB2,HF2,hpe,m_63⟩
 refine ⟨_,rfl, ?_⟩
 have:=m_63.size
 have z_64:=Ext.mod z_61 m_63 (λ q hq=>(List.mem_cons.1 hq).elim (λ h=>by omega) (λ h=>(List.mem_append.1 h).elim (λ h=>(HF40.lt q h).1) (λ h=>(HQ1.lt q h).1)))
 have hfl:=fr_lt hf hpe.len hib
 refine nK<|sq<|sq<| ?_
 refine rd [(3,0),(5,0),(6,0),(8,0)] [0,1,2,3,4,5,6,7,8,9] (by kernel_rfl) (by kernel_rfl) ?_
 refine fw1 rfl (λ _=>mv rfl)<|fw1 rfl (λ _=>nc rfl)<|fw1 rfl (λ _=>fa eF35 rfl)<|fq1 rfl (λ _ x=>ld rfl ((HB2.later x).one eF36 rfl))<|fw1 rfl (λ _=>mv rfl)<| ?_
 have B_19:=B_19.later (eT x_29 (eT x_32 (eT x_39 (eT x_44 (eT x_48 (eT x_51 x_58))))))
 have B_19:=B_19.mod m_60 (λ hq=>(List.mem_cons.1 hq).elim (λ h=>by omega) (λ h=>by simp [Rep.blkOf] at h))
 have B_19:=B_19.mod m_63 (λ hq=>(List.mem_cons.1 hq).elim (λ h=>by omega) (λ h=>(List.mem_append.1 h).elim (λ h=>(show ∀ q,q∈Rep.blkOf F40→q=b_16→False from λ q h hb=>by (have:=lo_42 q h;omega)) _ h rfl) (λ h=>(show ∀ q,q∈Rep.blkOf A1→q=b_16→False from λ q h hb=>by (have:=lo1 q h;omega)) _ h rfl)))
 refine fq1 rfl (λ _ x=>ld rfl ((B_19.later x).all eF3 eF4))<|fc rfl rfl eF34 rfl (λ _ x=>pindex_any w f P F40 A2 pc cf40 c2 b_50 far l2 b b _ (eT z_64 x) hf hP (HB2.later x) (by first | omega | (dsimp only;omega))) rfl<|fw1 rfl (λ _=>iA ((b.y * f.wide+b.x).toNat) Tryz.underlying22 eF7 rfl rfl (HF2.has.adr (zl ((b.y * f.wide+b.x).toNat) (by have h_:=hfl.1;omega))) (by omega) (by have h_:=hfl.1;omega))<|fq1 rfl (λ _ x=>ld rfl (Rep.SHas.one' hcI ((HF2.later x).has.adh (zl ((b.y * f.wide+b.x).toNat) (by have h_:=hfl.1;omega))) (hpe.get hf hib) rfl eF1))<|fw1 rfl (λ _=>blt rfl rfl)<|fn λ w_66 x_67=> ?_
 have:=x_67.size
 have z_66:=eT z_64 x_67
 refine nT<|cT (evb rfl kfr)<|sg<|va rfl<|va rfl<|nK<|rt<|tT<|tR (.tmp rfl (.tmp rfl .nil))<| ?_
 have HB2:=HB2.later x_67
 have HF2:=HF2.later x_67
 exact ⟨⟨far,hpe⟩,rfl,z_66⟩
theorem psearched_some (f:Fld) (a b:Cel) (P:Option Addr) (pc:Nat) (w:World) (hP:repI.SHas 8 w P pc f.places) (hf:f.chk=0) (ga:f.ground a=true) (gb:f.ground b=true) (hfr:0≤frF f a b b):
  Calls Tryz.prog 163 #[.agg #[.int .i64 f.wide, .int .i64 f.high, .slice P f.places.length pc], .agg #[.int .i64 a.x, .int .i64 a.y], .agg #[.int .i64 b.x, .int .i64 b.y]] w (λ e w'=>∃ p F A cf c far l,e= .returned (.tuple #[.pointer (some ⟨p,0,none⟩), .int .i64 0])∧PEnd f a b far∧Blk w' p [.int .i64 f.wide, .int .i64 f.high, .slice P f.places.length pc, .int .i64 b.x, .int .i64 b.y, .slice F far.length cf, .slice A ((l:List Nod).length) c] 265 (0,0)∧w.heap.size≤p∧repI.SOwn 3 8 w' w.heap.size (Rep.blkOf F) F cf far∧(∀ q∈Rep.blkOf F,q=p→False)∧Ext w w'):=by
 obtain ⟨g1,g2,g3,g4,g5,g6⟩:=Fld.good hf
 have hl16:=Fld.len_le hf
 have hia:=Fld.ground_in ga
 have hib:=Fld.ground_in gb
 obtain ⟨_,_,a1,a2,a3,a4⟩:=Fld.idx hf hia
 obtain ⟨_,_,b1,b2,b3,b4⟩:=Fld.idx hf hib
 have hea:=(Fld.at_in hf hia).1
 have heb:=(Fld.at_in hf hib).1
 have hva:=(Fld.at_in hf hia).2
 have hvb:=(Fld.at_in hf hib).2
 have hra:=Fld.ground_place ga
 have hrb:=Fld.ground_place gb
 have hpos:0<f.places.length:=by have:=(Fld.at_lt hf hia).1;omega
 have ke1:(f.atE a != 0)=false:=by rw [hea];rfl
 have ke2:(f.atE b != 0)=false:=by rw [heb];rfl
 have kr1:(f.atV a == 1)=false:=by rw [hva];simpa using hra
 have kr2:(f.atV b == 1)=false:=by rw [hvb];simpa using hrb
 have kfr:decide (frF f a b b<0)=false:=decide_eq_false (by omega)
 refine calls_W (n:=61) Tryz.func163 rfl rfl rfl ?_
 refine sg<|bx rfl rfl rfl rfl λ w_1 b_2 x_3 l_4 B_5=> ?_
 have:=x_3.size
 have z_1:=eT (Ext.rf w) x_3
 have q_7:=B_5.lt
 refine bx rfl rfl rfl rfl λ w_8 b_9 x_10 l_11 B_12=> ?_
 have:=x_10.size
 have z_8:=eT z_1 x_10
 have q_14:=B_12.lt
 refine bx rfl rfl rfl rfl λ w_15 b_16 x_17 l_18 B_19=> ?_
 have:=x_17.size
 have z_15:=eT z_8 x_17
 have q_21:=B_19.lt
 refine va rfl<|va rfl<|nK<|sg<| ?_
 have B_5:=B_5.later (eT x_10 x_17)
 refine vL (ld rfl (B_5.all eF23 eF24))<| ?_
 have B_12:=B_12.later x_17
 refine vL (ld rfl (B_12.all eF3 eF4))<|ca eF25 rfl rfl ((fldAt2 f a _ _ _ (hP.keep z_15)).mono ?_)
 rintro e w_22 ⟨rfl,x_23⟩
 refine ⟨_,rfl, ?_⟩
 have:=x_23.size
 have z_22:=eT z_15 x_23
 refine vm rfl<|vL (ex rfl rfl)<|vL (ex rfl rfl)<|va rfl<|va rfl<|nK<|sq<|sg<|vm rfl<|vL (bne rfl rfl)<|nK<|cF (evb rfl ke1)<|sK<|sg<| ?_
 have B_5:=B_5.later x_23
 refine vL (ld rfl (B_5.all eF23 eF24))<| ?_
 have B_19:=B_19.later x_23
 refine vL (ld rfl (B_19.all eF3 eF4))<|ca eF25 rfl rfl ((fldAt2 f b _ _ _ (hP.keep z_22)).mono ?_)
 rintro e w_25 ⟨rfl,x_26⟩
 refine ⟨_,rfl, ?_⟩
 have:=x_26.size
 have z_25:=eT z_22 x_26
 refine vm rfl<|vL (ex rfl rfl)<|vL (ex rfl rfl)<|va rfl<|va rfl<|nK<|sq<|sg<|vm rfl<|vL (bne rfl rfl)<|nK<|cF (evb rfl ke2)<|sK<|sq<|sg<|vm rfl<|vL (beq rfl rfl)<|vm (evb rfl kr1)<|ug rfl rfl rfl<| ?_
 refine vm rfl<|ug rfl rfl rfl<|vL (beq rfl rfl)<|vL (pkF rfl (evb rfl kr2))<|nK<|cF rfl<|sK<|sq<| ?_
 refine rd [(0,0),(1,0),(2,2),(4,0),(6,2),(8,2)] [0,1,3,4,5,2,6,7,8,9] (by kernel_rfl) (by kernel_rfl) ?_
 have B_5:=B_5.later x_26
 refine fq1 rfl (λ _ x=>ld rfl ((B_5.later x).all eF23 eF24))<| ?_
 have B_19:=B_19.later x_26
 refine fq1 rfl (λ _ x=>ld rfl ((B_19.later x).all eF3 eF4))<|fw1 rfl (λ _=>fa eF45 rfl)<|fq1 rfl (λ _ x=>ld rfl ((B_5.later x).one eF36 rfl))<|fw1 rfl (λ _=>ln Tryz.underlying22 rfl)<|fx rfl rfl rfl λ w_28 x_29 Q hK=>bs (e:= 3) (cs:= [.int .i64 (-1)]) rfl (λ _=>by kernel_rfl) rfl λ w_30 b_31 x_32 l_33 B_34=>hK _ _ ⟨eT x_29 x_32, ?_⟩
 have:=x_29.size
 have z_28:=eT z_25 x_29
 have:=x_32.size
 have z_30:=eT z_28 x_32
 have q_37:=B_34.lt
 refine fx rfl rfl rfl λ w_38 x_39 Q hK=>ca eF46 rfl rfl ((repeat_any _ _ f.places.length (-1) _ (Blk.has1 (R:=repI) (by_:=8) (q:= -1) (B_34.later x_39) ⟨rfl,okI_iff.2 (by decide)⟩ (by decide)) hpos (by omega)).mono ?_)
 rintro e w_43 ⟨F40,cf40,rfl,HF40,x_44⟩
 refine ⟨_,rfl,hK _ _ ⟨eT x_39 x_44, ?_⟩⟩
 have:=x_39.size
 have z_38:=eT z_30 x_39
 have:=x_44.size
 have z_43:=eT z_38 x_44
 have u_41:=λ q hq=>(HF40.lt q hq).2
 have lo_42:=λ q hq=>(HF40.lt q hq).1
 have HF40:=HF40.down (show w.heap.size≤w_38.heap.size by omega)
 refine fw (v:= .agg #[.int .i64 f.wide, .int .i64 f.high, .slice P f.places.length pc, .int .i64 b.x, .int .i64 b.y, .slice F40 ((List.replicate f.places.length (-1)).length) cf40, .slice none 0 0]) rfl rfl (λ _=>bd rfl (by kernel_rfl)) rfl<|fx rfl rfl rfl λ w_47 x_48 Q hK=>bx rfl rfl rfl rfl λ w_49 b_50 x_51 l_52 B_53=>hK _ _ ⟨eT x_48 x_51, ?_⟩
 have:=x_48.size
 have z_47:=eT z_43 x_48
 have:=x_51.size
 have z_49:=eT z_47 x_51
 have q_56:=B_53.lt
 refine fw1 rfl (λ _=>as_ rfl)<|fn λ w_57 x_58=> ?_
 have:=x_58.size
 have z_57:=eT z_49 x_58
 refine nT<|sg<|vm rfl<| ?_
 have B_12:=B_12.later (eT x_23 (eT x_26 (eT x_29 (eT x_32 (eT x_39 (eT x_44 (eT x_48 (eT x_51 x_58))))))))
 refine vL (ld rfl (B_12.all eF3 eF4))<| ?_
 have B_53:=B_53.later x_58
 have HF40:=HF40.later (eT x_48 (eT x_51 x_58))
 have HQ0:Nod.rep.SOwn 313 32 w_57 w.heap.size (Rep.blkOf none) none 0 ([]:List Nod):=Rep.SOwn.nil _
 refine ca eF43 rfl rfl ((ppush_any w f P F40 none pc cf40 0 b_50 ((List.replicate f.places.length (-1))) ([]:List Nod) b a 0 _ z_57 hf hP B_53 (by omega) HQ0 (λ q hq=>by simp [Rep.blkOf] at hq) (λ y hy=>by simp at hy) (by simp) (by omega) (by omega) (by omega)).mono ?_)
 rintro e w_61 ⟨A1,c1,rfl,HB1,HQ1,hdQ1,hg1,m_60⟩
 refine ⟨_,rfl, ?_⟩
 have:=m_60.size
 have z_61:=Ext.mod z_57 m_60 (λ q hq=>(List.mem_cons.1 hq).elim (λ h=>by omega) (λ h=>by simp [Rep.blkOf] at h))
 have u1:=λ q hq=>(HQ1.lt q hq).2
 have lo1:∀ q∈Rep.blkOf A1,w_57.heap.size≤q:=λ q hq=>(hg1 q hq).elim (λ h=>by simp [Rep.blkOf] at h) id
 refine nK<|sg<|vm rfl<| ?_
 have HF40:=HF40.mod m_60 (λ q hq h=>(List.mem_cons.1 h).elim (λ h=>by exfalso;(have:=u_41 q hq;omega)) (λ h=>by simp [Rep.blkOf] at h))
 refine ca eF47 rfl rfl ((prun_any w f P F40 A1 pc cf40 c1 b_50 ((List.replicate f.places.length (-1))) (Hp.push Nod.all ([]:List Nod) ⟨a,0,0+Fld.est b a⟩) b a a _ z_61 hf hP HB1 (by omega) HF40 HQ1 (λ q hq hb=>by exfalso;(have:=u_41 q hq;omega)) hdQ1 (λ q h1 h2=>by exfalso;(have:=lo1 q h1;(have:=u_41 q h2;omega))) (PS.start hf ga a) Vis.start hib (by rw [Hp.push_len,und_all];simp;omega)).mono ?_)
 rintro e w_64 ⟨far,A2,c2,l2,rfl,HB2,HF2,hpe,m_63⟩
 refine ⟨_,rfl, ?_⟩
 have:=m_63.size
 have z_64:=Ext.mod z_61 m_63 (λ q hq=>(List.mem_cons.1 hq).elim (λ h=>by omega) (λ h=>(List.mem_append.1 h).elim (λ h=>(HF40.lt q h).1) (λ h=>(HQ1.lt q h).1)))
 have hfl:=fr_lt hf hpe.len hib
 refine nK<|sq<|sq<| ?_
 refine rd [(3,0),(5,0),(6,0),(8,0)] [0,1,2,3,4,5,6,7,8,9] (by kernel_rfl) (by kernel_rfl) ?_
 refine fw1 rfl (λ _=>mv rfl)<|fw1 rfl (λ _=>nc rfl)<|fw1 rfl (λ _=>fa eF35 rfl)<|fq1 rfl (λ _ x=>ld rfl ((HB2.later x).one eF36 rfl))<|fw1 rfl (λ _=>mv rfl)<| ?_
 have B_19:=B_19.later (eT x_29 (eT x_32 (eT x_39 (eT x_44 (eT x_48 (eT x_51 x_58))))))
 have B_19:=B_19.mod m_60 (λ hq=>(List.mem_cons.1 hq).elim (λ h=>by omega) (λ h=>by simp [Rep.blkOf] at h))
 have B_19:=B_19.mod m_63 (λ hq=>(List.mem_cons.1 hq).elim (λ h=>by omega) (λ h=>(List.mem_append.1 h).elim (λ h=>(show ∀ q,q∈Rep.blkOf F40→q=b_16→False from λ q h hb=>by (have:=lo_42 q h;omega)) _ h rfl) (λ h=>(show ∀ q,q∈Rep.blkOf A1→q=b_16→False from λ q h hb=>by (have:=lo1 q h;omega)) _ h rfl)))
 refine fq1 rfl (λ _ x=>ld rfl ((B_19.later x).all eF3 eF4))<|fc rfl rfl eF34 rfl (λ _ x=>pindex_any w f P F40 A2 pc cf40 c2 b_50 far l2 b b _ (eT z_64 x) hf hP (HB2.later x) (by first | omega | (dsimp only;omega))) rfl<|fw1 rfl (λ _=>iA ((b.y * f.wide+b.x).toNat) Tryz.underlying22 eF7 rfl rfl (HF2.has.adr (zl ((b.y * f.wide+b.x).toNat) (by have h_:=hfl.1;omega))) (by omega) (by have h_:=hfl.1;omega))<|fq1 rfl (λ _ x=>ld rfl (Rep.SHas.one' hcI ((HF2.later x).has.adh (zl ((b.y * f.wide+b.x).toNat) (by have h_:=hfl.1;omega))) (hpe.get hf hib) rfl eF1))<|fw1 rfl (λ _=>blt rfl rfl)<|fn λ w_66 x_67=> ?_
 have:=x_67.size
 have z_66:=eT z_64 x_67
 refine nT<|cF (evb rfl kfr)<|sK<|sg<|vm rfl<|va rfl<|va rfl<|nK<|rt<|tR (.tmp rfl (.tmp rfl .nil))<| ?_
 have HB2:=HB2.later x_67
 have HF2:=HF2.later x_67
 exact ⟨b_50,F40,A2,cf40,c2,far,l2,rfl,hpe,HB2,by omega,HF2,(λ q hq hb=>by exfalso;(have:=u_41 q hq;omega)),z_66⟩
theorem psearched_no (f:Fld) (a b:Cel) (P:Option Addr) (pc:Nat) (w:World) (hP:repI.SHas 8 w P pc f.places) (h:findE f a b≠0):
  Calls Tryz.prog 163 #[.agg #[.int .i64 f.wide, .int .i64 f.high, .slice P f.places.length pc], .agg #[.int .i64 a.x, .int .i64 a.y], .agg #[.int .i64 b.x, .int .i64 b.y]] w (λ e w'=>e= .returned (.tuple #[.pointer none, .int .i64 (findE f a b)])∧Ext w w'):=by
 rcases find_cases f a b with ⟨h1,h2⟩ | ⟨h1,h2,h3⟩ | ⟨h1,h2,h3,h4⟩ | ⟨h1,h2,h3,h4 | h4⟩
 ·rw [h2];exact psearched_bad1 f a b P pc w hP h1
 ·rw [h3];exact psearched_bad2 f a b P pc w hP h1 h2
 ·rw [h4];exact psearched_bad3 f a b P pc w hP h1 h2 h3
 ·rw [h4.2];exact (psearched_none f a b P pc w hP h1 h2 h3 h4.1).mono λ e w' h=>⟨h.2.1,h.2.2⟩
 ·exact absurd h4.2 h
end
section
open Go.RowKit
namespace Rv
section
variable {α:Type} [Inhabited α] {l:List α} {k i:Nat}
def rv (l:List α):Nat→List α
 | 0=>l
 | k+1=>Hp.swp (rv l k) k (l.length - 1 - k)
theorem rv_len:(rv l k).length=l.length:=by
 induction k with
 | zero=>rfl
 | succ k ih=>rw [rv,Hp.swp_len,ih]
theorem rv_perm:∀ k,2 * k≤l.length+1→(rv l k).Perm l:=by
 intro k
 induction k with
 | zero=>intro _;exact List.Perm.refl _
 | succ k ih =>
  intro hk
  rw [rv]
  exact (Hp.swp_perm (by rw [rv_len];omega) (by rw [rv_len];omega)).trans (ih (by omega))
theorem rv_get:∀ k,2 * k≤l.length→∀ i,i<l.length→(rv l k).getD i default=if i<k∨l.length - 1 - i<k then l.getD (l.length - 1 - i) default else l.getD i default:=by
 intro k
 induction k with
 | zero=>intro _ i _;rw [if_neg (by omega)];rfl
 | succ k ih =>
  intro hk i hi
  have hl:=rv_len (l:=l) (k:=k)
  rw [rv,Hp.swp_get (by omega) (by omega)]
  by_cases e1:i=l.length - 1 - k
  ·rw [if_pos e1,ih (by omega) k (by omega),if_neg (by omega),if_pos (by omega)]
   congr 1;omega
  ·rw [if_neg e1]
   by_cases e2:i=k
   ·rw [if_pos e2,ih (by omega) _ (by omega),if_neg (by omega),if_pos (by omega)]
    congr 1;omega
   ·rw [if_neg e2,ih (by omega) i hi]
    by_cases e3:i<k∨l.length - 1 - i<k
    ·rw [if_pos e3,if_pos (by omega)]
    ·rw [if_neg e3,if_neg (by omega)]
theorem rv_end (h:(l.length:Int) - 1≤2 * (k:Int)) (h2:2 * k≤l.length):rv l k=l.reverse:=by
 refine List.ext_getElem (by rw [rv_len,List.length_reverse]) λ i h1 h2'=> ?_
 rw [rv_len] at h1
 have hg:=rv_get k h2 i h1
 rw [List.getElem_reverse]
 have e:(rv l k).getD i default=(rv l k)[i]'(by rw [rv_len];exact h1):=by rw [List.getD_eq_getElem?_getD,List.getElem?_eq_getElem];rfl
 rw [← e,hg]
 split
 ·rw [List.getD_eq_getElem?_getD,List.getElem?_eq_getElem (by omega)];rfl
 ·rw [List.getD_eq_getElem?_getD,List.getElem?_eq_getElem h1]
  have:l.length - 1 - i=i:=by omega
  simp only [Option.getD_some,this]
end
end Rv
end
section
open Go.RowKit
theorem reverse_C (A:Option Addr) (c Z:Nat) (l:List Cel) (w:World) (HO:Cel.rep.SOwn 49 16 w Z (Rep.blkOf A) A c (l)) (hok:∀ y∈l,y.ok):
  Calls Tryz.prog 167 #[.slice A l.length c] w (λ e w'=>e= .returned (.tuple #[])∧Cel.rep.SOwn 49 16 w' Z (Rep.blkOf A) A c (l.reverse)∧Mod (Rep.blkOf A) w w'):=by
 have uO:=λ q hq=>(HO.lt q hq).2
 have hl63:=HO.has.len_le
 refine calls_W (n:=28) Tryz.func167 rfl rfl rfl ?_
 refine sg<|vm rfl<|vL (ln Tryz.underlying25 rfl)<|vL (bsu rfl rfl (inI (by omega)))<|va rfl<|va rfl<|nK<|bk<| ?_
 refine lp (λ mI EI wI=>∃ k:Nat,∃ J:Int,EI= [(0, .slice A l.length c),(2, .int .i64 (k:Int)),(3, .int .i64 J)]∧mI=(l.length - k)∧Mod (Rep.blkOf A) w wI∧Cel.rep.SOwn 49 16 wI Z (Rep.blkOf A) A c (Rv.rv l k)∧(J=(l.length:Int) - 1 - (k:Int))∧(2 * k≤l.length)) _ _ ⟨0,((l.length:Int) - 1),rfl,rfl,(Mod.rf (Rep.blkOf A) w),HO,by omega,by omega⟩ (.cons rfl (.cons (loI rfl (by first | omega | rfl | (simp<;>omega))) (.cons (loI rfl (by first | omega | rfl | (simp<;>omega))) .nil))) ?_
 rintro m_2 E_3 w_1 ⟨k,J,rfl,rfl,z_1,HR,hJ,hk⟩
 have:=z_1.size
 have u_5:=λ q hq=>(HR.lt q hq).2
 have hlr:(Rv.rv l k).length=l.length:=Rv.rv_len
 have hokr:∀ y∈Rv.rv l k,y.ok:=λ y hy=>hok y ((Rv.rv_perm k (by omega)).subset hy)
 refine sq<|sg<|vm rfl<|vm rfl<|vL (blt rfl rfl)<|nK<| ?_
 refine clt rfl (λ h_6=> ?_) (λ h_6=> ?_)
 ·refine sK<|sq<|bk<| ?_
  refine rd [(7,0),(11,0),(13,3),(15,3)] [0,1,2,3,4,5,6,7,8,9,10,11,12,13,14,15] (by kernel_rfl) (by kernel_rfl) ?_
  refine fw1 rfl (λ _=>mv rfl)<|fw1 rfl (λ _=>mv rfl)<|fw1 rfl (λ _=>mv rfl)<|fw1 rfl (λ _=>mv rfl)<|fw1 rfl (λ _=>mv rfl)<|fw1 rfl (λ _=>mv rfl)<|fw1 rfl (λ _=>iA J.toNat Tryz.underlying25 eF4 rfl rfl (HR.has.adr (zl J.toNat (by first | omega | (rw [List.length_set];omega)))) (by omega) (by first | omega | (rw [List.length_set];omega)))<|fq1 rfl (λ _ x=>ld rfl (Rep.SHas.elt hcC ((HR.later x).has.adh (zl J.toNat (by first | omega | (rw [List.length_set];omega)))) (get_d (l:=Rv.rv l k) (u:=default) (by first | omega | (rw [List.length_set];omega))) eF3 eF4))<|fw1 rfl (λ _=>mv rfl)<|fw1 rfl (λ _=>mv rfl)<|fw1 rfl (λ _=>iA k Tryz.underlying25 eF4 rfl rfl (HR.has.adr (zl k (by first | omega | (rw [List.length_set];omega)))) rfl (by first | omega | (rw [List.length_set];omega)))<|fq1 rfl (λ _ x=>ld rfl (Rep.SHas.elt hcC ((HR.later x).has.adh (zl k (by first | omega | (rw [List.length_set];omega)))) (get_d (l:=Rv.rv l k) (u:=default) (by first | omega | (rw [List.length_set];omega))) eF3 eF4))<|fw1 rfl (λ _=>iA k Tryz.underlying25 eF4 rfl rfl (HR.has.adr (zl k (by first | omega | (rw [List.length_set];omega)))) rfl (by first | omega | (rw [List.length_set];omega)))<|fb rfl rfl rfl λ w_7 x_8 Q hK=>soE (q':=(Rv.rv l k).getD J.toNat default) (i:=k) (es:= [.int .i64 (((Rv.rv l k).getD J.toNat default).x), .int .i64 (((Rv.rv l k).getD J.toNat default).y)]) (HR.later x_8) Rep.flat_bare (by first | omega | (rw [List.length_set];omega)) rfl rfl rfl rfl (λ _=>⟨rfl,(hokr _ (mem_dd (by omega)))⟩) eF4 λ w_9 m_10 O_11=>hK _ _ ?_
  have:=x_8.size
  have z_7:=z_1.trans (Mod.of_ext x_8)
  have:=m_10.size
  have z_9:=z_7.md m_10 (λ q hq=> .inl hq)
  have:=m_10.size
  refine fw1 rfl (λ _=>iA J.toNat Tryz.underlying25 eF4 rfl rfl (O_11.has.adr (zl J.toNat (by first | omega | (rw [List.length_set];omega)))) (by omega) (by first | omega | (rw [List.length_set];omega)))<|fb rfl rfl rfl λ w_15 x_16 Q hK=>soE (q':=(Rv.rv l k).getD k default) (i:=J.toNat) (es:= [.int .i64 (((Rv.rv l k).getD k default).x), .int .i64 (((Rv.rv l k).getD k default).y)]) (O_11.later x_16) Rep.flat_bare (by first | omega | (rw [List.length_set];omega)) rfl rfl rfl rfl (λ _=>⟨rfl,(hokr _ (mem_dd (by omega)))⟩) eF4 λ w_17 m_18 O_19=>hK _ _ ?_
  have:=x_16.size
  have z_15:=z_9.trans (Mod.of_ext x_16)
  have:=m_18.size
  have z_17:=z_15.md m_18 (λ q hq=> .inl hq)
  have:=m_18.size
  refine fn λ w_23 x_24=> ?_
  have:=x_24.size
  have z_23:=z_17.trans (Mod.of_ext x_24)
  refine nB<|nT<|rg<|vm rfl<|vL (bad rfl rfl (inI (by omega)))<|vm rfl<|vL (bsu rfl rfl (inI (by omega)))<|va rfl<|va rfl<|nl<| ?_
  have O_19:=O_19.later x_24
  exact nI _ _ ⟨k+1,(J - 1),rfl,rfl,z_23,(by have h:=O_19;rw [show J.toNat=l.length - 1 - k by omega] at h;exact h),by omega,by omega⟩ (by omega) (.cons rfl (.cons (loI rfl (by first | omega | rfl | (simp<;>omega))) (.cons (loI rfl (by first | omega | rfl | (simp<;>omega))) .nil)))
 ·refine xt<|xT<|xK<|xB<|ne<|tR .nil<| ?_
  exact ⟨rfl,by have h:=HR;rw [Rv.rv_end (by omega) (by omega)] at h;exact h,z_1⟩
end
end Go.Proofs.YtlikikpgmmkjbaaGreat
