import Derived.Test.YtlikikpgmmkjbaaGreatGra
import Derived.Test.YtlikikpgmmkjbaaGreatStl
import Derived.Test.YtlikikpgmmkjbaaGreatSop
set_option linter.unusedVariables false
set_option linter.unusedSimpArgs false
set_option maxRecDepth 100000
set_option maxHeartbeats 4000000
namespace Go.Proofs.YtlikikpgmmkjbaaGreat
section
open Go.RowKit
open Go.Proofs.YtlikikpgmmkjbaaGreat.Bv
theorem eqFV_any (fC:FuncId) (cs:List Value) (A Bq:Option Addr) (c d:Nat) (T Tm:List SV) (L Lm:List (List Odr)) (w:World) (hT:svRep.SHas 24 w A c T) (hL:Tells w T L) (hTm:svRep.SHas 24 w Bq d Tm) (hLm:Tells w Tm Lm) (hE:Enters Tryz.prog fC) (hC:∀ (A B:Option Addr) (c d:Nat) (l m:List Odr) w',Odr.rep.SHas 48 w' A c l→Odr.rep.SHas 48 w' B d m→Calls Tryz.prog fC (([.slice A l.length c, .slice B m.length d]:List Value)++cs).toArray w' λ e w''=>e= .returned (.bool (decide (l=m)))∧Ext w' w''):
  Calls Tryz.prog 21 #[.slice A T.length c, .slice Bq Tm.length d, .func (.func fC) #[] cs.toArray] w (λ e w'=>e= .returned (.bool (decide (L=Lm)))∧Ext w w'):=by
 have hlT:=hT.len_le
 have hlTm:=hTm.len_le
 have hlL:=hL.1
 have hlLm:=hLm.1
 refine calls_W (n:=32) Tryz.func21 rfl rfl rfl ?_
 refine sg<|va rfl<|nK<|sq<|sg<|vm rfl<|vL (ln Tryz.underlying29 rfl)<|vm rfl<|vL (ln Tryz.underlying29 rfl)<|vL (bne rfl rfl)<|nK<| ?_
 refine cne rfl (λ h_1=> ?_) (λ h_1=> ?_)
 ·have hne:L≠Lm:=λ h_=>by have:=hL.1;have:=hLm.1;have:=congrArg List.length h_;omega
  refine sg<|va rfl<|nK<|rt<|tT<|tR (.tmp rfl .nil)<| ?_
  exact ⟨by rw [decide_eq_false hne];rfl,(Ext.rf w)⟩
 ·refine sK<|sq<|sg<|vm rfl<|vL (ln Tryz.underlying29 rfl)<|vm rfl<|nK<|bk<| ?_
  refine lp (λ mI EI wI=>∃ k:Nat,EI= [(1, .slice Bq Tm.length d),(2, .func (.func fC) #[] cs.toArray),(15, .slice A T.length c),(16, .int .i64 (T.length:Int)),(17, .int .i64 (k:Int))]∧mI=T.length - k∧Ext w wI∧(k≤T.length)∧(L.take k=Lm.take k)) _ _ ⟨0,rfl,rfl,(Ext.rf w),by omega,rfl⟩ (.cons rfl (.cons rfl (.cons rfl (.cons rfl (.cons (loI rfl (by first | omega | rfl | (simp<;>omega))) .nil))))) ?_
  rintro m_3 E_4 w_2 ⟨k,rfl,rfl,z_2,hk,hg⟩
  have:=z_2.size
  refine sg<|vL (blt rfl rfl)<|nK<|sq<| ?_
  refine clt rfl (λ h_6=> ?_) (λ h_6=> ?_)
  ·obtain ⟨Ax,cx,lx,hTx,hLx,hx⟩:=hL.at_ (k:=k) (by omega)
   obtain ⟨Ay,cy,ly,hTy,hLy,hy⟩:=hLm.at_ (k:=k) (by omega)
   refine sK<|sq<|bk<|sg<|vm rfl<|vL (iA k Tryz.underlying29 eF174 rfl rfl ((hT.keep z_2).adr (zl k (by omega))) rfl (by omega))<|vL (v:= .slice Ax lx.length cx) (ld rfl (Rep.SHas.one' hcV ((hT.keep z_2).adh (zl k (by omega))) hTx rfl eF175))<|va rfl<|va rfl<|nK<|sg<|vm rfl<|vm rfl<|vL (iA k Tryz.underlying29 eF174 rfl rfl ((hTm.keep z_2).adr (zl k (by omega))) rfl (by omega))<|vL (v:= .slice Ay ly.length cy) (ld rfl (Rep.SHas.one' hcV ((hTm.keep z_2).adh (zl k (by omega))) hTy rfl eF175))<|va rfl<|nK<|sg<| ?_
   refine vm rfl<|vm rfl<|vm rfl<|cv hE rfl rfl rfl ((hC _ _ _ _ lx ly _ (hx.keep z_2) (hy.keep z_2)).mono ?_)
   rintro e w_7 ⟨rfl,x_8⟩
   refine ⟨_,rfl, ?_⟩
   have:=x_8.size
   have z_7:=eT z_2 x_8
   refine vL (nt rfl)<|nK<| ?_
   refine cb rfl (λ h_10=> ?_) (λ h_10=> ?_)
   ·have hne:L≠Lm:=λ h_=>by rw [h_,hLy] at hLx;exact absurd (Option.some.inj hLx).symm (by simpa using h_10)
    refine sg<|va rfl<|nK<|rt<|tB<|tT<|tK<|tB<|tT<|tR (.tmp rfl .nil)<| ?_
    exact ⟨by rw [decide_eq_false hne];rfl,z_7⟩
   ·have hxy:lx=ly:=by simpa using h_10
    refine sk<|nB<|nT<|rg<|vL (bad rfl rfl (inI (by omega)))<|vm rfl<|nl<| ?_
    exact nI _ _ ⟨k+1,rfl,rfl,z_7,by omega,by rw [take_snoc_ hLx,take_snoc_ hLy,hg,hxy]⟩ (by omega) (.cons rfl (.cons rfl (.cons rfl (.cons rfl (.cons (loI rfl (by first | omega | rfl | (simp<;>omega))) .nil)))))
  ·have hee:L=Lm:=by have h1:=hL.1;have h2:=hLm.1;rwa [List.take_of_length_le (by omega),List.take_of_length_le (by omega)] at hg
   refine xt<|xT<|xK<|xB<|nT<|sg<|va rfl<|nK<|rt<|tR (.tmp rfl .nil)<| ?_
   exact ⟨by rw [decide_eq_true hee];rfl,z_2⟩
end
end Go.Proofs.YtlikikpgmmkjbaaGreat
