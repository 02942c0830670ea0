import Derived.Test.YtlikikpgmmkjbaaGreatGra
import Derived.Test.YtlikikpgmmkjbaaGreatStl
import Derived.Test.YtlikikpgmmkjbaaGreatSop
set_option linter.unusedVariables false
set_option linter.unusedSimpArgs false
set_option maxRecDepth 100000
set_option maxHeartbeats 4000000
namespace Go.Proofs.YtlikikpgmmkjbaaGreat
section
open Go.RowKit
open Go.Proofs.YtlikikpgmmkjbaaGreat.Bv
theorem Tells.oks {w:World} {T:List SV} {L:List (List Odr)} (h:Tells w T L) (i:Nat):∀ o∈L.getD i [],o.ok:=by
 by_cases hi:i<T.length
 ·obtain ⟨A,c,l,_,h1,h2⟩:=h.at_ hi
  rw [List.getD_eq_getElem?_getD,h1]
  exact Odr.all_ok h2
 ·rw [List.getD_eq_getElem?_getD,List.getElem?_eq_none (by rw [← h.1];omega)]
  intro o ho
  exact absurd ho (by simp)
theorem storyProves_w (a:Wd.At) (W:Wd) (A:Option Addr) (c:Nat) (T:List SV) (L:List (List Odr)) (n m:Int) (w:World) (hW:Wd.Has w a W) (hT:svRep.SHas 24 w A c T) (hL:Tells w T L):
  Calls Tryz.prog 4 #[.agg #[.int .i64 W.field.wide, .int .i64 W.field.high, .slice a.P W.field.places.length a.p, .slice a.B W.bases.length a.b, .slice a.S W.stocks.length a.s, .slice a.M W.mines.length a.m, .slice a.T W.troops.length a.t, .int .i64 W.next, .int .i64 W.now, .slice A T.length c], .int .i64 n, .int .i64 m] w (λ e w'=>e= .returned (.bool true)∧Ext w w'):=by
 have hlT:=hT.len_le
 refine calls_W (n:=101) Tryz.func4 rfl rfl rfl ?_
 refine sg<|bx rfl rfl rfl rfl λ w_1 b_2 x_3 l_4 B_5=> ?_
 have:=x_3.size
 have z_1:=eT (Ext.rf w) x_3
 have q_7:=B_5.lt
 refine va rfl<|nK<|sg<|vL (ld rfl (B_5.all eF181 eF182))<|vm rfl<|ca eF201 rfl rfl ((show_any a W _ _ T L n _ (hW.keep z_1) (hT.keep z_1) (hL.keep z_1)).mono ?_)
 rintro e w_11 ⟨E8,s8,A8,c8,t8,rfl,hr8,OT8,x_12⟩
 refine ⟨_,rfl, ?_⟩
 have:=x_12.size
 have z_11:=eT z_1 x_12
 have u_9:=λ q hq=>(OT8.lt q hq).2
 have lo_10:=λ q hq=>(OT8.lt q hq).1
 refine vm rfl<|vL (ex rfl rfl)<|vL (ex rfl rfl)<|vL (ex rfl rfl)<|va rfl<|va rfl<|va rfl<|nK<|sg<| ?_
 have B_5:=B_5.later x_12
 refine vL (ld rfl (B_5.all eF181 eF182))<|vL (fa eF178 rfl)<|vL (ld rfl (B_5.one eF179 rfl))<|vL (ln Tryz.underlying29 rfl)<|ca eF202 rfl rfl ((root_any_ a W _ _ T L (T.length:Int) _ (hW.keep z_11) (hT.keep z_11) (hL.keep z_11)).mono ?_)
 rintro e w_15 ⟨E14,r14,rfl,hr14,x_16⟩
 refine ⟨_,rfl, ?_⟩
 have:=x_16.size
 have z_15:=eT z_11 x_16
 refine vm rfl<|vL (ex rfl rfl)<|vL (ex rfl rfl)<|va rfl<|va rfl<|nK<|sq<|sg<|ca eF205 rfl rfl ((storyLives_any _).mono ?_)
 rintro e w_18 ⟨rfl,x_19⟩
 refine ⟨_,rfl, ?_⟩
 have:=x_19.size
 have z_18:=eT z_15 x_19
 refine vL (nt rfl)<|vm rfl<|ug rfl rfl rfl<|vm rfl<|ug rfl rfl rfl<|vL (bne rfl rfl)<|vL (pkF rfl rfl)<|vm rfl<|vQ rfl rfl rfl rfl (λ hc=>mv rfl) rfl<|vQ rfl rfl rfl rfl (λ hc=>bne (gt hc rfl) rfl) rfl<|vL (pO rfl rfl rfl rfl)<|nK<| ?_
 refine cb rfl (λ h_21=> ?_) (λ h_21=> ?_)
 ·simp only [bS] at h_21
  refine sg<|ca eF205 rfl rfl ((storyLives_any _).mono ?_)
  rintro e w_22 ⟨rfl,x_23⟩
  refine ⟨_,rfl, ?_⟩
  have:=x_23.size
  have z_22:=eT z_18 x_23
  refine va rfl<|nK<|rt<|tT<|tR (.tmp rfl .nil)<| ?_
  exact ⟨rfl,z_22⟩
 ·simp only [bS] at h_21
  have hE1:E8=0:=by omega
  have hE2:E14=0:=by omega
  obtain ⟨o1,o2,o3,o4,o5⟩:=hr8.ok hE1
  obtain ⟨_,p2,p3,p4⟩:=hr14.ok hE2
  have hlL:=hL.1
  have h200:=o1.1
  obtain ⟨Ax,cx,lx,hTx,hLx,hx⟩:=hL.at_ (k:=n.toNat) (by omega)
  have hgx:L.getD n.toNat []=lx:=by rw [List.getD_eq_getElem?_getD,hLx];rfl
  refine sK<|sg<|vm rfl<|vL (fa eF178 rfl)<| ?_
  have B_5:=B_5.later (eT x_16 x_19)
  refine vL (ld rfl (B_5.one eF179 rfl))<|vL (ln Tryz.underlying29 rfl)<|vm rfl<|vm rfl<|vm rfl<| ?_
  have OT8:=OT8.later (eT x_16 x_19)
  refine ca eF203 rfl rfl ((shown_any r14 (T.length:Int) n s8 _ _ t8 _ OT8.has hr8.size (by omega) (by omega) (by omega) (by omega)).mono ?_)
  rintro e w_28 ⟨A25,c25,m25,k25,b25,rfl,hr25,OR25,x_29⟩
  refine ⟨_,rfl, ?_⟩
  have:=x_29.size
  have z_28:=eT z_18 x_29
  have u_26:=λ q hq=>(OR25.lt q hq).2
  have lo_27:=λ q hq=>(OR25.lt q hq).1
  refine vm rfl<|vL (ex rfl rfl)<|vL (ex rfl rfl)<|vL (ex rfl rfl)<|va rfl<|va rfl<|va rfl<|nK<|sq<|sg<|vm rfl<|vL (bne rfl rfl)<|vm rfl<|vQ rfl rfl rfl rfl (λ hc=>mv rfl) rfl<|vQ rfl rfl rfl rfl (λ hc=>nt (gt hc rfl)) rfl<|vL (pO rfl rfl rfl rfl)<|vm rfl<|vQ rfl rfl rfl rfl (λ hc=>mv rfl) rfl<|vQ rfl rfl rfl rfl (λ hc=>fa eF178 rfl) rfl<| ?_
  have B_5:=B_5.later x_29
  refine vQ rfl rfl rfl rfl (λ hc=>ld (gt hc rfl) (B_5.one eF179 rfl)) rfl<|vQ rfl rfl rfl rfl (λ hc=>mv rfl) rfl<|vQ rfl rfl rfl rfl (λ hc=>iA n.toNat Tryz.underlying29 eF174 (gt hc rfl) (gt hc rfl) ((hT.keep z_28).adr (zl n.toNat (by (try simp only [bS] at hc);omega))) (by (try simp only [bS] at hc);omega) (by (try simp only [bS] at hc);omega)) rfl<|vQ (v:= .slice Ax lx.length cx) rfl rfl rfl rfl (λ hc=>ld (gt hc rfl) (Rep.SHas.one' hcV ((hT.keep z_28).adh (zl n.toNat (by (try simp only [bS] at hc);omega))) hTx rfl eF175)) rfl<|vC rfl rfl rfl rfl eF204 (λ hc=>ec (gt hc rfl) (ec (gt hc rfl) rfl)) (λ hc=>equal_O _ _ _ _ _ _ m25 lx _ OR25.has (hx.keep z_28)) rfl λ w_31 x_32=> ?_
  have:=x_32.size
  have z_31:=eT z_28 x_32
  refine vQ rfl rfl rfl rfl (λ hc=>nt (gt hc rfl)) rfl<|vL (pO rfl rfl rfl rfl)<|nK<| ?_
  obtain ⟨f1,f2,f3⟩:=shown_ok o1 o2 o3 o4 o5 p4 (hL.oks n.toNat) hr25 (by omega)
  rw [hgx] at f3
  have h_34:(((k25 != 0) || (!b25)) || (!(decide (m25=lx))))=false:=by simp [f1,f2,f3]
  refine cF (by rw [← h_34];rfl)<|sK<|sg<| ?_
  have B_5:=B_5.later x_32
  refine vL (ld rfl (B_5.all eF181 eF182))<|vm rfl<|ca eF201 rfl rfl ((show_any a W _ _ T L m _ (hW.keep z_31) (hT.keep z_31) (hL.keep z_31)).mono ?_)
  rintro e w_38 ⟨E35,s35,A35,c35,t35,rfl,hr35,OT35,x_39⟩
  refine ⟨_,rfl, ?_⟩
  have:=x_39.size
  have z_38:=eT z_31 x_39
  have u_36:=λ q hq=>(OT35.lt q hq).2
  have lo_37:=λ q hq=>(OT35.lt q hq).1
  refine vm rfl<|vL (ex rfl rfl)<|vL (ex rfl rfl)<|vL (ex rfl rfl)<|va rfl<|va rfl<|va rfl<|nK<|sq<|sg<|vm rfl<|vL (bne rfl rfl)<|nK<| ?_
  refine cne rfl (λ h_41=> ?_) (λ h_41=> ?_)
  ·refine sg<|va rfl<|nK<|rt<|tT<|tR (.tmp rfl .nil)<| ?_
   exact ⟨rfl,z_38⟩
  ·have hE3:E35=0:=by omega
   obtain ⟨_,u2,u3,u4,u5⟩:=hr35.ok hE3
   refine sK<|sg<|vm rfl<|vL (fa eF178 rfl)<| ?_
   have B_5:=B_5.later x_39
   refine vL (ld rfl (B_5.one eF179 rfl))<|vL (ln Tryz.underlying29 rfl)<|vm rfl<|vm rfl<|vm rfl<|ca eF203 rfl rfl ((shown_any r14 (T.length:Int) m s35 _ _ t35 _ OT35.has hr35.size (by omega) (by omega) (by omega) (by omega)).mono ?_)
   rintro e w_45 ⟨A42,c42,m42,k42,b42,rfl,hr42,OR42,x_46⟩
   refine ⟨_,rfl, ?_⟩
   have:=x_46.size
   have z_45:=eT z_38 x_46
   have u_43:=λ q hq=>(OR42.lt q hq).2
   have lo_44:=λ q hq=>(OR42.lt q hq).1
   refine vm rfl<|vL (ex rfl rfl)<|vL (ex rfl rfl)<|vL (ex rfl rfl)<|va rfl<|va rfl<|va rfl<|nK<|sg<|vm rfl<|vL (beq rfl rfl)<|vm rfl<|vQ rfl rfl rfl rfl (λ hc=>mv rfl) rfl<|vL (pA rfl rfl rfl rfl)<|va rfl<|nK<|rt<|tR (.tmp rfl .nil)<| ?_
   obtain ⟨g1,g2,g3⟩:=shown_ok o1 u2 u3 u4 u5 p4 (hL.oks m.toNat) hr42 (by omega)
   exact ⟨ret_true (by simp [g1,g2]),z_45⟩
theorem storyProves_any (c0:Array Value) (a1:Int) (a2:Int) (w:World) (h0:(.cons (.cons (.cons (.int .i64) (.cons (.int .i64) (.cons (.slice (.int .i64) 8) .nil))) (.cons (.slice (.cons (.int .i64) (.cons (.int .i64) .nil)) 16) (.cons (.slice (.int .i64) 8) (.cons (.slice (.int .i64) 8) (.cons (.slice (.cons (.int .i64) (.cons (.int .i64) (.cons (.int .i64) (.cons (.cons (.int .i64) (.cons (.int .i64) .nil)) (.cons (.int .i64) (.cons (.int .i64) .nil)))))) 56) (.cons (.int .i64) (.cons (.int .i64) .nil))))))) (.cons (.slice (.slice (.cons (.int .i64) (.cons (.int .i64) (.cons (.int .i64) (.cons (.cons (.int .i64) (.cons (.int .i64) .nil)) (.cons (.int .i64) .nil))))) 48) 24) .nil):Sh).Ok w c0.toList) (w1:(Lit.int .i64 a1).wf=true) (w2:(Lit.int .i64 a2).wf=true):
  Calls Tryz.prog 4 #[.agg c0, .int .i64 a1, .int .i64 a2] w λ e w'=>e= .returned (.bool true)∧Below w.heap.size w w':=by
 obtain ⟨a,W,A,c,T,L,rfl,hW,hT,hL⟩:=story_open h0
 exact storyProves_w a W A c T L a1 a2 w hW hT hL
end
end Go.Proofs.YtlikikpgmmkjbaaGreat
