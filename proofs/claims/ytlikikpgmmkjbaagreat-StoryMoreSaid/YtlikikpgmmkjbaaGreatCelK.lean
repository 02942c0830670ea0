import Derived.Test.YtlikikpgmmkjbaaGreatGra
import Derived.Test.YtlikikpgmmkjbaaGreatGolR
import Derived.Laws.IdiomCopy
import Derived.Test.YtlikikpgmmkjbaaGreatGol
import Derived.Test.YtlikikpgmmkjbaaGreatBas
import Derived.Test.YtlikikpgmmkjbaaGreatProg
set_option linter.unusedVariables false
set_option linter.unusedSimpArgs false
set_option maxRecDepth 100000
set_option maxHeartbeats 4000000
namespace Go.Proofs.YtlikikpgmmkjbaaGreat
section
open Go.RowKit
namespace Rep
variable {α:Type} {R:Rep α}
theorem SOwn.fsts {E by_ B c:Nat} {A:Option Addr} {l:List α} {w:World} {ps:List (List Nat×List Value)} (hp:R.Bare) (hall:All2 (λ x a=>R.own w B x.1 x.2 a) ps l):∀ y∈ps,y.1= []:=λ y hy=>by
 obtain ⟨b,hb⟩:=hall.left y hy
 exact hp.2 hb
theorem fst_flat {ps:List (List Nat×List Value)} (h:∀ y∈ps,y.1= []):(ps.map (·.1)).flatten= []:=by
 rw [List.flatten_eq_nil_iff]
 intro x hx
 obtain ⟨y,hy,rfl⟩:=List.mem_map.1 hx
 exact h y hy
theorem SOwn.cut {E by_ B c:Nat} {A:Option Addr} {l:List α} {w:World} (h:R.SOwn E by_ w B (blkOf A) A c l) (hp:R.Bare) (k:Nat) (hk:k≤l.length):R.SOwn E by_ w B (blkOf A) A c (l.take k):=by
 obtain ⟨hb,ps,hf,hn,ho,hall⟩:=h
 have hl:=olens hall
 have hpl:ps.length=l.length:=hall.length
 have h1:=SOwn.fsts (E:=E) (by_:=by_) (c:=c) (A:=A) hp hall
 have hlen:(l.take k).length=k:=by rw [List.length_take];omega
 have hm:=Nat.mul_le_mul_right by_ hk
 refine ⟨by rw [hlen];omega,ps.take k, ?_,hn, ?_,hall.take_ k⟩
 ·rw [fst_flat λ y hy=>h1 y (List.mem_of_mem_take hy),List.append_nil]
 ·rw [hlen,List.map_take,flatten_take k hl]
  obtain ⟨hx1,hx2⟩:=ho
  have hle:k * R.size≤l.length * R.size:=Nat.mul_le_mul_right _ hk
  refine ⟨by rw [List.length_take,hx1];omega, ?_⟩
  rcases hx2 with ⟨hx2,hx3⟩ | ⟨g,cap,cur,hv,hB,hh,hnc,hcm,hs,ht,hG⟩
  ·injection hx2 with e1 e2 e3
   subst e1 e3
   have:k=0:=by omega
   subst this
   exact .inl ⟨rfl,rfl⟩
  ·injection hv with e1 e2 e3
   subst e1 e3
   exact .inr ⟨g,c,cur,rfl,hB,hh,by omega,hcm,hs,by rw [← ht,List.take_take,Nat.min_eq_left hle],hG⟩
end Rep
section
variable {P:Program} {n:Nat} {E E':List (Nat×Value)} {a:Act} {w w' w0 w1:World} {Q:Exit→Act→World→Prop} {ops:Array Oper} {v:Value}
variable {d:Option Nat} {ty:TypeId} {pos:String} {af:Array Edge} {g:Option (Nat×Bool)} {x y z:Operand} {t:TypeId} {rest:List Oper}
theorem sT {A:Option Addr} {len cap e s:Nat} {k:IntKind} (lo:Nat) {i:Int} (ht:P.underlying t=some (.slice e)) (hs:Sz P e s) (hx:ev E x=some (.slice A len cap)) (hy:ev E y=some (.int k i)) (hi:i=(lo:Int)) (h1:lo≤len):
  Runs P E ⟨d, .slice t x (some y) none none,ty,pos,af,g⟩ w (.slice (sA A cap lo s) (len - lo) (cap - lo)) w:=λ n a ha=>by
 subst hi
 have q1:P.underlying t=some (.slice (P.elem t)):=by simp [Program.elem,ht]
 have q2:P.elem t=e:=by simp [Program.elem,ht]
 have h3:=run_slice_l (P:=P) (w:=w) t A len cap q1 k (lo:Int) (by omega) (by omega)
 have h4:=run_sliceAt_slice (P:=P) (w:=w) t (.slice A len cap) (some (.int k (lo:Int))) none none q1
 rw [q2,hs w] at h3
 simp only [execOp,ha.ev hx,ha.ev hy,Option.map,h4,h3,Sem.run_bind,Result.andThen_ok,Sem.run_pure,sliced,Int.toNat_natCast,sA]
theorem intDiv_rem {k:IntKind} {i j:Int} (h0:0≤i) (h1:0<j):Op.intDiv .rem k i j=pure (.int k (i % j)):=by
 unfold Op.intDiv
 have e:i.tmod j=i % j:=Int.tmod_eq_emod_of_nonneg h0
 rw [if_neg (by omega)]
 simp only [e]
section
variable {k:IntKind} {i j:Int} {u:TypeId}
theorem bre (hx:ev E x=some (.int k i)) (hy:ev E y=some (.int k j)) (h0:0≤i) (h1:0<j):Runs P E ⟨d, .binOp .rem t x y u,ty,pos,af,g⟩ w (.int k (i % j)) w:=run_bin hx hy (binOp_rem t k i j) (by rw [intDiv_rem h0 h1];rfl)
end
end
end
section
open Go.RowKit
section
variable {α:Type} {p:α→Bool} {l L:List α} {d:α} {i j k:Nat}
theorem mem_dd (h:k<l.length):l.getD k d∈l:=by rw [List.getD_eq_getElem?_getD,List.getElem?_eq_getElem h];exact List.getElem_mem h
theorem getD_dd (h:k<l.length):l.getD k d=l[k]:=by rw [List.getD_eq_getElem?_getD,List.getElem?_eq_getElem h];rfl
theorem idx_none_dd (h:∀ i,i<l.length→p (l.getD i d)=false):idxI p l= -1:=idxI_none λ j hj=>by rw [← getD_dd (d:=d) hj];exact h j hj
theorem idx_some_dd (hk:k<l.length) (h1:p (l.getD k d)=true) (h:∀ i,i<k→p (l.getD i d)=false):idxI p l=(k:Int):=
 idxI_some hk (by rw [← getD_dd (d:=d) hk];exact h1) λ j hj=>by rw [← getD_dd (d:=d) (by omega:j<l.length)];exact h j hj
theorem take_succ_dd (h:k<l.length):l.take (k+1)=l.take k++ [l.getD k d]:=by rw [List.take_succ_eq_append_getElem h,getD_dd h]
end
end
section
open Go.RowKit
theorem LinG_el_S_api_Cell:ElT Tryz.prog Cel.rep 25 49 16:=ElT.mk_ (z:=Cel.zero) (k:=2) Tryz.underlying25 Cel.info rfl rfl (by decide) Cel.zero_raw
def sgn (n:Int):Int:=if n<0 then -1 else if 0<n then 1 else 0
def sz (n:Int):Int:=if n<0 then -n else if 0<n then n else 0
theorem sz_bd (n:Int):0≤sz n∧(-2000≤n∧n≤2000→sz n≤2000)∧(0≤n→sz n=n)∧(n<0→sz n= -n):=by unfold sz;split<;>(try split)<;>omega
theorem sgn_bd (n:Int): -1≤sgn n∧sgn n≤1:=by unfold sgn;split<;>(try split)<;>omega
def far (a b:Cel):Int:=max (sz (b.x - a.x)) (sz (b.y - a.y))
def nar (a b:Cel):Int:=min (sz (b.x - a.x)) (sz (b.y - a.y))
def lstep (a b:Cel) (s:Int×Cel):Int×Cel :=
  (if decide (far a b≤s.1+2 * nar a b) then s.1+2 * nar a b - 2 * far a b else s.1+2 * nar a b,
   ⟨if !decide (sz (b.x - a.x)<sz (b.y - a.y)) || decide (far a b≤s.1+2 * nar a b) then s.2.x+sgn (b.x - a.x) else s.2.x,
    if decide (sz (b.x - a.x)<sz (b.y - a.y)) || decide (far a b≤s.1+2 * nar a b) then s.2.y+sgn (b.y - a.y) else s.2.y⟩)
def lst (a b:Cel):Nat→Int×Cel
  | 0=>(0,a)
  | k+1=>lstep a b (lst a b k)
def pts (a b:Cel) (k:Nat):List Cel:=(List.range (k+1)).map λ i=>(lst a b i).2
def lineC (a b:Cel):List Cel:=pts a b (far a b).toNat
theorem pts_succ (a b:Cel) (k:Nat):pts a b (k+1)=pts a b k++ [(lst a b (k+1)).2]:=by unfold pts;rw [List.range_succ,List.map_append];rfl
theorem pts_len (a b:Cel) (k:Nat):(pts a b k).length=k+1:=by simp [pts]
theorem far_bd (a b:Cel):0≤nar a b∧nar a b≤far a b:=by
  have h1:=sz_bd (b.x - a.x);have h2:=sz_bd (b.y - a.y)
  unfold nar far;omega
theorem lst_bd (a b:Cel) (k:Nat): -far a b≤(lst a b k).1∧(lst a b k).1≤far a b:=by
  have hf:=far_bd a b
  induction k with
  | zero=>show -far a b≤0∧0≤far a b;omega
  | succ k ih =>
    show -far a b≤(lstep a b (lst a b k)).1∧(lstep a b (lst a b k)).1≤far a b
    unfold lstep
    simp only [decide_eq_true_eq]
    split<;>omega
theorem lst_pos (a b:Cel) (k:Nat):a.x - k≤(lst a b k).2.x∧(lst a b k).2.x≤a.x+k∧a.y - k≤(lst a b k).2.y∧(lst a b k).2.y≤a.y+k:=by
  have h1:=sgn_bd (b.x - a.x);have h2:=sgn_bd (b.y - a.y)
  induction k with
  | zero=>show a.x - _≤a.x∧a.x≤a.x+_∧a.y - _≤a.y∧a.y≤a.y+_;omega
  | succ k ih =>
    show a.x - _≤(lstep a b (lst a b k)).2.x∧(lstep a b (lst a b k)).2.x≤a.x+_∧a.y - _≤(lstep a b (lst a b k)).2.y∧(lstep a b (lst a b k)).2.y≤a.y+_
    unfold lstep
    simp only
    split<;>split<;>omega
theorem near_in (c:Cel) (w:World) (h: -1000≤c.x∧c.x≤1000∧ -1000≤c.y∧c.y≤1000):
    Calls Tryz.prog 193 #[.agg #[.int .i64 c.x, .int .i64 c.y]] w (λ e w'=>e= .returned (.bool true)∧Ext w w'):=by
  refine calls_W (n:=23) Tryz.func193 rfl rfl rfl ?_
  refine sg<|bx rfl rfl rfl rfl λ w_1 b_2 x_3 l_4 B_5=> ?_
  have:=x_3.size
  have z_1:=eT (Ext.rf w) x_3
  have q_7:=B_5.lt
  refine va rfl<|nK<|sg<|vL (fa eF0 rfl)<|vL (ld rfl (B_5.one eF1 rfl))<|vL (fa eF0 rfl)<|vL (ld rfl (B_5.one eF1 rfl))<|vL (ng rfl (inI (by omega)))<|vL (fa eF2 rfl)<|vL (ld rfl (B_5.one eF1 rfl))<|vL (fa eF2 rfl)<|vL (ld rfl (B_5.one eF1 rfl))<|vL (ng rfl (inI (by omega)))<|vL (mX rfl rfl rfl rfl)<|vL (ble rfl rfl)<|vm rfl<|vQ rfl rfl rfl rfl (λ hc=>fa eF0 rfl) rfl<|vQ rfl rfl rfl rfl (λ hc=>ld (gt hc rfl) (B_5.one eF1 rfl)) rfl<|vQ rfl rfl rfl rfl (λ hc=>fa eF2 rfl) rfl<|vQ rfl rfl rfl rfl (λ hc=>ld (gt hc rfl) (B_5.one eF1 rfl)) rfl<|vQ rfl rfl rfl rfl (λ hc=>mn (gt hc rfl) (gt hc rfl)) rfl<|vQ rfl rfl rfl rfl (λ hc=>bge (gt hc rfl) rfl) rfl<| ?_
  refine vL (pA rfl rfl rfl rfl)<|va rfl<|nK<|rt<|tR (.tmp rfl .nil)<| ?_
  exact ⟨ret_true (by simp only [Bool.and_eq_true,decide_eq_true_eq];omega),z_1⟩
theorem sign_in (n:Int) (w:World) (h: -2000≤n∧n≤2000):
    Calls Tryz.prog 194 #[.int .i64 n] w (λ e w'=>e= .returned (.tuple #[.int .i64 (sgn n), .int .i64 (sz n)])∧Ext w w'):=by
  refine calls_W (n:=13) Tryz.func194 rfl rfl rfl ?_
  refine sg<|va rfl<|va rfl<|nK<|sq<|bk<|sg<|vm rfl<|vL (blt rfl rfl)<|va rfl<|nK<| ?_
  refine clt rfl (λ h_1=> ?_) (λ h_1=> ?_)
  · refine sg<|vm rfl<|vL (ng rfl (inI (by omega)))<|va rfl<|va rfl<|nK<|rt<|tB<|tT<|tR (.tmp rfl (.tmp rfl .nil))<| ?_
    exact ⟨by unfold sgn sz;simp only [*,if_true,if_false];try rfl,(Ext.rf w)⟩
  · refine sg<|vm rfl<|vL (bgt rfl rfl)<|va rfl<|nK<| ?_
    refine clt rfl (λ h_2=> ?_) (λ h_2=> ?_)
    · refine sg<|vm rfl<|va rfl<|va rfl<|nK<|rt<|tB<|tT<|tR (.tmp rfl (.tmp rfl .nil))<| ?_
      exact ⟨by unfold sgn sz;simp only [*,if_true,if_false];try rfl,(Ext.rf w)⟩
    · refine sk<|nB<|nT<|sg<|va rfl<|va rfl<|nK<|rt<|tR (.tmp rfl (.tmp rfl .nil))<| ?_
      exact ⟨by unfold sgn sz;simp only [*,if_true,if_false];try rfl,(Ext.rf w)⟩
theorem apart_in (a b:Cel) (w:World) (h: -1000≤a.x∧a.x≤1000∧ -1000≤a.y∧a.y≤1000) (h2: -1000≤b.x∧b.x≤1000∧ -1000≤b.y∧b.y≤1000):
    Calls Tryz.prog 161 #[.agg #[.int .i64 a.x, .int .i64 a.y], .agg #[.int .i64 b.x, .int .i64 b.y]] w (λ e w'=>e= .returned (.tuple #[.int .i64 (far a b), .int .i64 (sz (b.x - a.x)+sz (b.y - a.y)), .int .i64 0])∧Ext w w'):=by
  refine calls_W (n:=43) Tryz.func161 rfl rfl rfl ?_
  refine sg<|bx rfl rfl rfl rfl λ w_1 b_2 x_3 l_4 B_5=> ?_
  have:=x_3.size
  have z_1:=eT (Ext.rf w) x_3
  have q_7:=B_5.lt
  refine bx rfl rfl rfl rfl λ w_8 b_9 x_10 l_11 B_12=> ?_
  have:=x_10.size
  have z_8:=eT z_1 x_10
  have q_14:=B_12.lt
  refine va rfl<|va rfl<|va rfl<|nK<|sq<|sg<| ?_
  have B_5:=B_5.later x_10
  refine vL (ld rfl (B_5.all eF3 eF4))<|ca eF5 rfl rfl ((near_in a _ (by omega)).mono ?_)
  rintro e w_15 ⟨rfl,x_16⟩
  refine ⟨_,rfl, ?_⟩
  have:=x_16.size
  have z_15:=eT z_8 x_16
  refine vL (nt rfl)<|vm rfl<|ug rfl rfl rfl<| ?_
  have B_12:=B_12.later x_16
  refine vL (ld rfl (B_12.all eF3 eF4))<|ug rfl rfl rfl<|ca eF5 rfl rfl ((near_in b _ (by omega)).mono ?_)
  rintro e w_18 ⟨rfl,x_19⟩
  refine ⟨_,rfl, ?_⟩
  have:=x_19.size
  have z_18:=eT z_15 x_19
  refine ug rfl rfl rfl<|vL (nt rfl)<|vL (pkF rfl rfl)<|nK<|cF rfl<|sK<|sg<|vL (fa eF0 rfl)<| ?_
  have B_12:=B_12.later x_19
  refine vL (ld rfl (B_12.one eF1 rfl))<|vL (fa eF0 rfl)<| ?_
  have B_5:=B_5.later (eT x_16 x_19)
  refine vL (ld rfl (B_5.one eF1 rfl))<|vL (bsu rfl rfl (inI (by have:=sz_bd (b.x - a.x);have:=sz_bd (b.y - a.y);omega)))<|ca eF6 rfl rfl ((sign_in (b.x - a.x) _ (by omega)).mono ?_)
  rintro e w_21 ⟨rfl,x_22⟩
  refine ⟨_,rfl, ?_⟩
  have:=x_22.size
  have z_21:=eT z_18 x_22
  refine vm rfl<|vL (ex rfl rfl)<|vL (ex rfl rfl)<|va rfl<|va rfl<|nK<|sg<|vL (fa eF2 rfl)<| ?_
  have B_12:=B_12.later x_22
  refine vL (ld rfl (B_12.one eF1 rfl))<|vL (fa eF2 rfl)<| ?_
  have B_5:=B_5.later x_22
  refine vL (ld rfl (B_5.one eF1 rfl))<|vL (bsu rfl rfl (inI (by have:=sz_bd (b.x - a.x);have:=sz_bd (b.y - a.y);omega)))<|ca eF6 rfl rfl ((sign_in (b.y - a.y) _ (by omega)).mono ?_)
  rintro e w_24 ⟨rfl,x_25⟩
  refine ⟨_,rfl, ?_⟩
  have:=x_25.size
  have z_24:=eT z_21 x_25
  refine vm rfl<|vL (ex rfl rfl)<|vL (ex rfl rfl)<|va rfl<|va rfl<|nK<|sg<|vm rfl<|vm rfl<|vL (mx rfl rfl)<|vm rfl<|vm rfl<|vL (bad rfl rfl (inI (by have:=sz_bd (b.x - a.x);have:=sz_bd (b.y - a.y);omega)))<|va rfl<|va rfl<|va rfl<|nK<|rt<|tR (.tmp rfl (.tmp rfl (.tmp rfl .nil)))<| ?_
  exact ⟨rfl,z_24⟩
theorem cells_in (a b:Cel) (w:World) (h: -1000≤a.x∧a.x≤1000∧ -1000≤a.y∧a.y≤1000) (h2: -1000≤b.x∧b.x≤1000∧ -1000≤b.y∧b.y≤1000):
    Calls Tryz.prog 216 #[.agg #[.int .i64 a.x, .int .i64 a.y], .agg #[.int .i64 b.x, .int .i64 b.y]] w (λ e w'=>∃ A c,e= .returned (.tuple #[.slice A (lineC a b).length c, .int .i64 0])∧Cel.rep.SOwn 49 16 w' w.heap.size (Rep.blkOf A) A c (lineC a b)∧Ext w w'):=by
  refine calls_W (n:=93) Tryz.func216 rfl rfl rfl ?_
  refine sg<|bx rfl rfl rfl rfl λ w_1 b_2 x_3 l_4 B_5=> ?_
  have:=x_3.size
  have z_1:=eT (Ext.rf w) x_3
  have q_7:=B_5.lt
  refine bx rfl rfl rfl rfl λ w_8 b_9 x_10 l_11 B_12=> ?_
  have:=x_10.size
  have z_8:=eT z_1 x_10
  have q_14:=B_12.lt
  refine va rfl<|va rfl<|nK<|sq<|sg<| ?_
  have B_5:=B_5.later x_10
  refine vL (ld rfl (B_5.all eF3 eF4))<|ca eF5 rfl rfl ((near_in a _ (by omega)).mono ?_)
  rintro e w_15 ⟨rfl,x_16⟩
  refine ⟨_,rfl, ?_⟩
  have:=x_16.size
  have z_15:=eT z_8 x_16
  refine vL (nt rfl)<|vm rfl<|ug rfl rfl rfl<| ?_
  have B_12:=B_12.later x_16
  refine vL (ld rfl (B_12.all eF3 eF4))<|ug rfl rfl rfl<|ca eF5 rfl rfl ((near_in b _ (by omega)).mono ?_)
  rintro e w_18 ⟨rfl,x_19⟩
  refine ⟨_,rfl, ?_⟩
  have:=x_19.size
  have z_18:=eT z_15 x_19
  refine ug rfl rfl rfl<|vL (nt rfl)<|vL (pkF rfl rfl)<|nK<|cF rfl<|sK<|sg<|vL (fa eF0 rfl)<| ?_
  have B_12:=B_12.later x_19
  refine vL (ld rfl (B_12.one eF1 rfl))<|vL (fa eF0 rfl)<| ?_
  have B_5:=B_5.later (eT x_16 x_19)
  refine vL (ld rfl (B_5.one eF1 rfl))<|vL (bsu rfl rfl (inI (by omega)))<|ca eF6 rfl rfl ((sign_in (b.x - a.x) _ (by omega)).mono ?_)
  rintro e w_21 ⟨rfl,x_22⟩
  refine ⟨_,rfl, ?_⟩
  have:=x_22.size
  have z_21:=eT z_18 x_22
  refine vm rfl<|vL (ex rfl rfl)<|vL (ex rfl rfl)<|va rfl<|va rfl<|nK<|sg<|vL (fa eF2 rfl)<| ?_
  have B_12:=B_12.later x_22
  refine vL (ld rfl (B_12.one eF1 rfl))<|vL (fa eF2 rfl)<| ?_
  have B_5:=B_5.later x_22
  refine vL (ld rfl (B_5.one eF1 rfl))<|vL (bsu rfl rfl (inI (by omega)))<|ca eF6 rfl rfl ((sign_in (b.y - a.y) _ (by omega)).mono ?_)
  rintro e w_24 ⟨rfl,x_25⟩
  refine ⟨_,rfl, ?_⟩
  have:=x_25.size
  have z_24:=eT z_21 x_25
  refine vm rfl<|vL (ex rfl rfl)<|vL (ex rfl rfl)<|va rfl<|va rfl<|nK<|sg<|vm rfl<|vm rfl<|va rfl<|va rfl<|nK<|sq<|sg<|vm rfl<|vm rfl<|vL (bgt rfl rfl)<|nK<| ?_
  refine clt rfl (λ h_27=> ?_) (λ h_27=> ?_)
  · have hl1:=sz_bd (b.x - a.x)
    have hl2:=sz_bd (b.y - a.y)
    have hfar:far a b=sz (b.y - a.y):=by unfold far;omega
    have hnar:nar a b=sz (b.x - a.x):=by unfold nar;omega
    have hdec:decide (sz (b.x - a.x)<sz (b.y - a.y))=true:=by exact decide_eq_true h_27
    refine rg<|vm rfl<|vm rfl<|va rfl<|va rfl<|nK<|sg<| ?_
    have B_5:=B_5.later x_25
    refine vL (ld rfl (B_5.all eF3 eF4))<|bs (e:= 49) (cs:= [.int .i64 a.x, .int .i64 a.y]) rfl (λ _=>by kernel_rfl) rfl λ w_28 b_29 x_30 l_31 B_32=> ?_
    have:=x_30.size
    have z_28:=eT z_24 x_30
    have q_34:=B_32.lt
    refine va rfl<|nK<|sg<|va rfl<|nK<|sq<|sg<|vm rfl<|vm rfl<|nK<|bk<| ?_
    have B_5:=B_5.later x_30
    have lo_35:∀ q∈Rep.blkOf (some ⟨b_29,0,none⟩),b_29≤q:=λ q hq=>Nat.le_of_eq (List.mem_singleton.1 hq).symm
    refine lp (λ mI EI wI=>∃ k:Nat,∃ Ao:Option Addr,∃ co:Nat,EI= [(2, .pointer (some ⟨b_2,0,none⟩)),(4, .slice none 0 0),(5, .int .i64 0),(6, .int .i64 (sgn (b.x - a.x))),(7, .int .i64 (sz (b.x - a.x))),(8, .int .i64 (sgn (b.y - a.y))),(9, .int .i64 (sz (b.y - a.y))),(10, .int .i64 (sz (b.y - a.y))),(11, .int .i64 (sz (b.x - a.x))),(12, .slice Ao ((pts a b k).length) co),(13, .int .i64 ((lst a b k).1)),(50, .int .i64 (sz (b.y - a.y))),(51, .int .i64 (k:Int))]∧mI=(sz (b.y - a.y)).toNat - k∧Ext w wI∧Blk wI b_2 [.int .i64 ((lst a b k).2.x), .int .i64 ((lst a b k).2.y)] 49 (0,0)∧Cel.rep.SOwn 49 16 wI w.heap.size (Rep.blkOf Ao) Ao co (pts a b k)∧((k:Int)≤sz (b.y - a.y))∧(∀ q∈Rep.blkOf Ao,q=b_2→False)) _ _ ⟨0,some ⟨b_29,0,none⟩,1,rfl,rfl,z_28,B_5,(Blk.ownN (R:=Cel.rep) (by_:=16) (B:=w.heap.size) (k:= [a]) B_32 [[.int .i64 a.x, .int .i64 a.y]] rfl ⟨⟨rfl,okI_iff.2 (by omega),okI_iff.2 (by omega)⟩,trivial⟩ (by simp) (by simp) (by decide) (by omega)),(by have:=sz_bd (b.y - a.y);have:=sz_bd (b.x - a.x);omega),(λ q hq hb=>by (have:=lo_35 q hq;omega))⟩ (.cons rfl (.cons rfl (.cons rfl (.cons rfl (.cons rfl (.cons rfl (.cons rfl (.cons rfl (.cons rfl (.cons rfl (.cons (loI rfl (by first | omega | rfl | (simp<;>omega))) (.cons rfl (.cons (loI rfl (by first | omega | rfl | (simp<;>omega))) .nil))))))))))))) ?_
    rintro m_38 E_39 w_37 ⟨k,Ao,co,rfl,rfl,z_37,BL,OO,hk,d_36⟩
    have:=z_37.size
    have q_41:=BL.lt
    have u_42:=λ q hq=>(OO.lt q hq).2
    have hb:=lst_bd a b k
    have hp:=lst_pos a b k
    have hs1:=sgn_bd (b.x - a.x)
    have hs2:=sgn_bd (b.y - a.y)
    have hl1:=sz_bd (b.x - a.x)
    have hl2:=sz_bd (b.y - a.y)
    have hpl:=pts_len a b k
    refine sg<|vL (blt rfl rfl)<|nK<|sq<| ?_
    refine clt rfl (λ h_43=> ?_) (λ h_43=> ?_)
    · refine sK<|sq<|bk<|sg<|vm rfl<|vm rfl<|vL (bmu rfl rfl (inI (by omega)))<|vL (bad rfl rfl (inI (by omega)))<|va rfl<|nK<|sg<|vm rfl<|vm rfl<|vL (bge rfl rfl)<|va rfl<|nK<|sq<|sg<| ?_
      refine vm rfl<|nK<| ?_
      refine cle rfl (λ h_44=> ?_) (λ h_44=> ?_)
      · rw [hfar] at hb
        have hasd:decide (sz (b.y - a.y)≤((lst a b k).1)+(2 * (sz (b.x - a.x))))=true:=by exact decide_eq_true h_44
        refine rg<|vm rfl<|vm rfl<|vL (bmu rfl rfl (inI (by omega)))<|vL (bsu rfl rfl (inI (by omega)))<|va rfl<|nK<|sq<|sg<|vm rfl<|vm rfl<|vL (bge rfl rfl)<|vm rfl<|vQ rfl rfl rfl rfl (λ hc=>mv rfl) rfl<|vL (pO rfl rfl rfl rfl)<|nK<| ?_
        have h_45:((decide (sz (b.y - a.y)≤sz (b.x - a.x))) || (decide (sz (b.y - a.y)≤((lst a b k).1)+(2 * (sz (b.x - a.x))))))=true:=by simp only [Bool.or_eq_true,decide_eq_true_eq];omega
        refine cT (by rw [← h_45];rfl)<|rg<|vL (fa eF0 rfl)<|vL (ld rfl (BL.one eF1 rfl))<|vm rfl<|vL (bad rfl rfl (inI (by omega)))<|vL (fa eF0 rfl)<|st (new:= [.int .i64 (((lst a b k).2.x)+(sgn (b.x - a.x))), .int .i64 ((lst a b k).2.y)]) rfl rfl BL rfl eF7 rfl rfl rfl λ w_46 m_47 BL=> ?_
        have:=m_47.size
        have z_46:=Ext.mod z_37 m_47 (ge1 (by omega))
        have:=m_47.size
        refine nK<|sq<|sg<|vm rfl<|vm rfl<|vL (bgt rfl rfl)<|vm rfl<|vQ rfl rfl rfl rfl (λ hc=>mv rfl) rfl<|vL (pO rfl rfl rfl rfl)<|nK<| ?_
        have h_50:((decide (sz (b.x - a.x)<sz (b.y - a.y))) || (decide (sz (b.y - a.y)≤((lst a b k).1)+(2 * (sz (b.x - a.x))))))=true:=by simp only [Bool.or_eq_true,decide_eq_true_eq];omega
        refine cT (by rw [← h_50];rfl)<|rg<|vL (fa eF2 rfl)<|vL (ld rfl (BL.one eF1 rfl))<|vm rfl<|vL (bad rfl rfl (inI (by omega)))<|vL (fa eF2 rfl)<|st (new:= [.int .i64 (((lst a b k).2.x)+(sgn (b.x - a.x))), .int .i64 (((lst a b k).2.y)+(sgn (b.y - a.y)))]) rfl rfl BL rfl eF7 rfl rfl rfl λ w_51 m_52 BL=> ?_
        have:=m_52.size
        have z_51:=Ext.mod z_46 m_52 (ge1 (by omega))
        have:=m_52.size
        refine nK<|rg<|vm rfl<|vL (ld rfl (BL.all eF3 eF4))<|bs (e:= 49) (cs:= [.int .i64 (((lst a b k).2.x)+(sgn (b.x - a.x))), .int .i64 (((lst a b k).2.y)+(sgn (b.y - a.y)))]) rfl (λ _=>by kernel_rfl) rfl λ w_55 b_56 x_57 l_58 B_59=> ?_
        have:=x_57.size
        have z_55:=eT z_51 x_57
        have q_61:=B_59.lt
        have OO:=OO.mod m_47 (λ q hq h=>by have hb:=List.mem_singleton.1 h;exfalso;(exact d_36 q hq hb))
        have OO:=OO.mod m_52 (λ q hq h=>by have hb:=List.mem_singleton.1 h;exfalso;(exact d_36 q hq hb))
        have OO:=OO.later x_57
        refine ap LinG_el_S_api_Cell Rep.flat_bare OO (Blk.has1 (R:=Cel.rep) (by_:=16) (q:=(⟨((lst a b k).2.x)+(sgn (b.x - a.x)),((lst a b k).2.y)+(sgn (b.y - a.y))⟩:Cel)) B_59 ⟨rfl,⟨okI_iff.2 (by (try dsimp only);omega),okI_iff.2 (by (try dsimp only);omega)⟩⟩ (by decide)) rfl rfl (by simp only [List.length_cons,List.length_nil];omega) (by simp only [List.length_cons,List.length_nil];omega) z_55.size rfl λ w_62 A_63 c_64 m_65 O_66 g_67 n_68=> ?_
        have:=m_65.size
        have z_62:=Ext.mod z_55 m_65 (λ q hq=>(OO.lt q hq).1)
        have u_70:=λ q hq=>(O_66.lt q hq).2
        have:=m_65.size
        refine va rfl<|nl<|nB<|nT<|rg<|vL (bad rfl rfl (inI (by omega)))<|vm rfl<|nl<| ?_
        have e1:lst a b (k+1)=((((lst a b k).1)+(2 * (sz (b.x - a.x)))) - (2 * (sz (b.y - a.y))),⟨((lst a b k).2.x)+(sgn (b.x - a.x)),((lst a b k).2.y)+(sgn (b.y - a.y))⟩):=by
          show lstep a b (lst a b k)=_
          unfold lstep
          simp only [hfar,hnar,hdec,hasd,if_true,if_false,Bool.or_true,Bool.true_or,Bool.or_false,Bool.false_or,Bool.false_eq_true,decide_true,decide_false,Bool.not_true,Bool.not_false]
        have e2:=pts_succ a b k
        rw [e1] at e2
        have e3:(pts a b (k+1)).length=k+2:=pts_len a b (k+1)
        have BL:=BL.later x_57
        have BL:=BL.mod m_65 (λ hq=>d_36 _ hq rfl)
        exact nI _ _ ⟨k+1,A_63,c_64,rfl,rfl,z_62,(by rw [e1];exact BL),(by rw [e2];exact O_66),by omega,(λ q hq hb=>by (exact Or.elim (g_67 q hq) (λ k_72=>by (exact d_36 q k_72 hb)) (λ k_72=>by omega)))⟩ (by omega) (.cons rfl (.cons rfl (.cons rfl (.cons rfl (.cons rfl (.cons rfl (.cons rfl (.cons rfl (.cons rfl (.cons (by rw [e2];rfl) (.cons (loI rfl (by rw [e1])) (.cons rfl (.cons (loI rfl (by first | omega | rfl | (simp<;>omega))) .nil)))))))))))))
      · rw [hfar] at hb
        have hasd:decide (sz (b.y - a.y)≤((lst a b k).1)+(2 * (sz (b.x - a.x))))=false:=by exact decide_eq_false h_44
        refine sK<|sq<|sg<|vm rfl<|vm rfl<|vL (bge rfl rfl)<|vm rfl<|vQ rfl rfl rfl rfl (λ hc=>mv rfl) rfl<|vL (pO rfl rfl rfl rfl)<|nK<| ?_
        have h_73:((decide (sz (b.y - a.y)≤sz (b.x - a.x))) || (decide (sz (b.y - a.y)≤((lst a b k).1)+(2 * (sz (b.x - a.x))))))=false:=by simp only [Bool.or_eq_false_iff,decide_eq_false_iff_not];omega
        refine cF (by rw [← h_73];rfl)<|sK<|sq<|sg<|vm rfl<|vm rfl<|vL (bgt rfl rfl)<|vm rfl<|vQ rfl rfl rfl rfl (λ hc=>mv rfl) rfl<|vL (pO rfl rfl rfl rfl)<|nK<| ?_
        have h_74:((decide (sz (b.x - a.x)<sz (b.y - a.y))) || (decide (sz (b.y - a.y)≤((lst a b k).1)+(2 * (sz (b.x - a.x))))))=true:=by simp only [Bool.or_eq_true,decide_eq_true_eq];omega
        refine cT (by rw [← h_74];rfl)<|rg<|vL (fa eF2 rfl)<|vL (ld rfl (BL.one eF1 rfl))<|vm rfl<|vL (bad rfl rfl (inI (by omega)))<|vL (fa eF2 rfl)<|st (new:= [.int .i64 ((lst a b k).2.x), .int .i64 (((lst a b k).2.y)+(sgn (b.y - a.y)))]) rfl rfl BL rfl eF7 rfl rfl rfl λ w_75 m_76 BL=> ?_
        have:=m_76.size
        have z_75:=Ext.mod z_37 m_76 (ge1 (by omega))
        have:=m_76.size
        refine nK<|rg<|vm rfl<|vL (ld rfl (BL.all eF3 eF4))<|bs (e:= 49) (cs:= [.int .i64 ((lst a b k).2.x), .int .i64 (((lst a b k).2.y)+(sgn (b.y - a.y)))]) rfl (λ _=>by kernel_rfl) rfl λ w_79 b_80 x_81 l_82 B_83=> ?_
        have:=x_81.size
        have z_79:=eT z_75 x_81
        have q_85:=B_83.lt
        have OO:=OO.mod m_76 (λ q hq h=>by have hb:=List.mem_singleton.1 h;exfalso;(exact d_36 q hq hb))
        have OO:=OO.later x_81
        refine ap LinG_el_S_api_Cell Rep.flat_bare OO (Blk.has1 (R:=Cel.rep) (by_:=16) (q:=(⟨(lst a b k).2.x,((lst a b k).2.y)+(sgn (b.y - a.y))⟩:Cel)) B_83 ⟨rfl,⟨okI_iff.2 (by (try dsimp only);omega),okI_iff.2 (by (try dsimp only);omega)⟩⟩ (by decide)) rfl rfl (by simp only [List.length_cons,List.length_nil];omega) (by simp only [List.length_cons,List.length_nil];omega) z_79.size rfl λ w_86 A_87 c_88 m_89 O_90 g_91 n_92=> ?_
        have:=m_89.size
        have z_86:=Ext.mod z_79 m_89 (λ q hq=>(OO.lt q hq).1)
        have u_94:=λ q hq=>(O_90.lt q hq).2
        have:=m_89.size
        refine va rfl<|nl<|nB<|nT<|rg<|vL (bad rfl rfl (inI (by omega)))<|vm rfl<|nl<| ?_
        have e1:lst a b (k+1)=(((lst a b k).1)+(2 * (sz (b.x - a.x))),⟨(lst a b k).2.x,((lst a b k).2.y)+(sgn (b.y - a.y))⟩):=by
          show lstep a b (lst a b k)=_
          unfold lstep
          simp only [hfar,hnar,hdec,hasd,if_true,if_false,Bool.or_true,Bool.true_or,Bool.or_false,Bool.false_or,Bool.false_eq_true,decide_true,decide_false,Bool.not_true,Bool.not_false]
        have e2:=pts_succ a b k
        rw [e1] at e2
        have e3:(pts a b (k+1)).length=k+2:=pts_len a b (k+1)
        have BL:=BL.later x_81
        have BL:=BL.mod m_89 (λ hq=>d_36 _ hq rfl)
        exact nI _ _ ⟨k+1,A_87,c_88,rfl,rfl,z_86,(by rw [e1];exact BL),(by rw [e2];exact O_90),by omega,(λ q hq hb=>by (exact Or.elim (g_91 q hq) (λ k_96=>by (exact d_36 q k_96 hb)) (λ k_96=>by omega)))⟩ (by omega) (.cons rfl (.cons rfl (.cons rfl (.cons rfl (.cons rfl (.cons rfl (.cons rfl (.cons rfl (.cons rfl (.cons (by rw [e2];rfl) (.cons (loI rfl (by rw [e1])) (.cons rfl (.cons (loI rfl (by first | omega | rfl | (simp<;>omega))) .nil)))))))))))))
    · refine xt<|xT<|xK<|xB<|nT<|sg<|vm rfl<|va rfl<|va rfl<|nK<|rt<|tR (.tmp rfl (.tmp rfl .nil))<| ?_
      have hkk:k=(far a b).toNat:=by omega
      subst hkk
      exact ⟨Ao,co,rfl,OO,z_37⟩
  · have hl1:=sz_bd (b.x - a.x)
    have hl2:=sz_bd (b.y - a.y)
    have hfar:far a b=sz (b.x - a.x):=by unfold far;omega
    have hnar:nar a b=sz (b.y - a.y):=by unfold nar;omega
    have hdec:decide (sz (b.x - a.x)<sz (b.y - a.y))=false:=by exact decide_eq_false h_27
    refine sK<|sg<| ?_
    have B_5:=B_5.later x_25
    refine vL (ld rfl (B_5.all eF3 eF4))<|bs (e:= 49) (cs:= [.int .i64 a.x, .int .i64 a.y]) rfl (λ _=>by kernel_rfl) rfl λ w_97 b_98 x_99 l_100 B_101=> ?_
    have:=x_99.size
    have z_97:=eT z_24 x_99
    have q_103:=B_101.lt
    refine va rfl<|nK<|sg<|va rfl<|nK<|sq<|sg<|vm rfl<|vm rfl<|nK<|bk<| ?_
    have B_5:=B_5.later x_99
    have lo_104:∀ q∈Rep.blkOf (some ⟨b_98,0,none⟩),b_98≤q:=λ q hq=>Nat.le_of_eq (List.mem_singleton.1 hq).symm
    refine lp (λ mI EI wI=>∃ k:Nat,∃ Ao:Option Addr,∃ co:Nat,EI= [(2, .pointer (some ⟨b_2,0,none⟩)),(4, .slice none 0 0),(5, .int .i64 0),(6, .int .i64 (sgn (b.x - a.x))),(7, .int .i64 (sz (b.x - a.x))),(8, .int .i64 (sgn (b.y - a.y))),(9, .int .i64 (sz (b.y - a.y))),(10, .int .i64 (sz (b.x - a.x))),(11, .int .i64 (sz (b.y - a.y))),(12, .slice Ao ((pts a b k).length) co),(13, .int .i64 ((lst a b k).1)),(50, .int .i64 (sz (b.x - a.x))),(51, .int .i64 (k:Int))]∧mI=(sz (b.x - a.x)).toNat - k∧Ext w wI∧Blk wI b_2 [.int .i64 ((lst a b k).2.x), .int .i64 ((lst a b k).2.y)] 49 (0,0)∧Cel.rep.SOwn 49 16 wI w.heap.size (Rep.blkOf Ao) Ao co (pts a b k)∧((k:Int)≤sz (b.x - a.x))∧(∀ q∈Rep.blkOf Ao,q=b_2→False)) _ _ ⟨0,some ⟨b_98,0,none⟩,1,rfl,rfl,z_97,B_5,(Blk.ownN (R:=Cel.rep) (by_:=16) (B:=w.heap.size) (k:= [a]) B_101 [[.int .i64 a.x, .int .i64 a.y]] rfl ⟨⟨rfl,okI_iff.2 (by omega),okI_iff.2 (by omega)⟩,trivial⟩ (by simp) (by simp) (by decide) (by omega)),(by have:=sz_bd (b.y - a.y);have:=sz_bd (b.x - a.x);omega),(λ q hq hb=>by (have:=lo_104 q hq;omega))⟩ (.cons rfl (.cons rfl (.cons rfl (.cons rfl (.cons rfl (.cons rfl (.cons rfl (.cons rfl (.cons rfl (.cons rfl (.cons (loI rfl (by first | omega | rfl | (simp<;>omega))) (.cons rfl (.cons (loI rfl (by first | omega | rfl | (simp<;>omega))) .nil))))))))))))) ?_
    rintro m_107 E_108 w_106 ⟨k,Ao,co,rfl,rfl,z_106,BL,OO,hk,d_105⟩
    have:=z_106.size
    have q_110:=BL.lt
    have u_111:=λ q hq=>(OO.lt q hq).2
    have hb:=lst_bd a b k
    have hp:=lst_pos a b k
    have hs1:=sgn_bd (b.x - a.x)
    have hs2:=sgn_bd (b.y - a.y)
    have hl1:=sz_bd (b.x - a.x)
    have hl2:=sz_bd (b.y - a.y)
    have hpl:=pts_len a b k
    refine sg<|vL (blt rfl rfl)<|nK<|sq<| ?_
    refine clt rfl (λ h_112=> ?_) (λ h_112=> ?_)
    · refine sK<|sq<|bk<|sg<|vm rfl<|vm rfl<|vL (bmu rfl rfl (inI (by omega)))<|vL (bad rfl rfl (inI (by omega)))<|va rfl<|nK<|sg<|vm rfl<|vm rfl<|vL (bge rfl rfl)<|va rfl<|nK<|sq<|sg<| ?_
      refine vm rfl<|nK<| ?_
      refine cle rfl (λ h_113=> ?_) (λ h_113=> ?_)
      · rw [hfar] at hb
        have hasd:decide (sz (b.x - a.x)≤((lst a b k).1)+(2 * (sz (b.y - a.y))))=true:=by exact decide_eq_true h_113
        refine rg<|vm rfl<|vm rfl<|vL (bmu rfl rfl (inI (by omega)))<|vL (bsu rfl rfl (inI (by omega)))<|va rfl<|nK<|sq<|sg<|vm rfl<|vm rfl<|vL (bge rfl rfl)<|vm rfl<|vQ rfl rfl rfl rfl (λ hc=>mv rfl) rfl<|vL (pO rfl rfl rfl rfl)<|nK<| ?_
        have h_114:((decide (sz (b.y - a.y)≤sz (b.x - a.x))) || (decide (sz (b.x - a.x)≤((lst a b k).1)+(2 * (sz (b.y - a.y))))))=true:=by simp only [Bool.or_eq_true,decide_eq_true_eq];omega
        refine cT (by rw [← h_114];rfl)<|rg<|vL (fa eF0 rfl)<|vL (ld rfl (BL.one eF1 rfl))<|vm rfl<|vL (bad rfl rfl (inI (by omega)))<|vL (fa eF0 rfl)<|st (new:= [.int .i64 (((lst a b k).2.x)+(sgn (b.x - a.x))), .int .i64 ((lst a b k).2.y)]) rfl rfl BL rfl eF7 rfl rfl rfl λ w_115 m_116 BL=> ?_
        have:=m_116.size
        have z_115:=Ext.mod z_106 m_116 (ge1 (by omega))
        have:=m_116.size
        refine nK<|sq<|sg<|vm rfl<|vm rfl<|vL (bgt rfl rfl)<|vm rfl<|vQ rfl rfl rfl rfl (λ hc=>mv rfl) rfl<|vL (pO rfl rfl rfl rfl)<|nK<| ?_
        have h_119:((decide (sz (b.x - a.x)<sz (b.y - a.y))) || (decide (sz (b.x - a.x)≤((lst a b k).1)+(2 * (sz (b.y - a.y))))))=true:=by simp only [Bool.or_eq_true,decide_eq_true_eq];omega
        refine cT (by rw [← h_119];rfl)<|rg<|vL (fa eF2 rfl)<|vL (ld rfl (BL.one eF1 rfl))<|vm rfl<|vL (bad rfl rfl (inI (by omega)))<|vL (fa eF2 rfl)<|st (new:= [.int .i64 (((lst a b k).2.x)+(sgn (b.x - a.x))), .int .i64 (((lst a b k).2.y)+(sgn (b.y - a.y)))]) rfl rfl BL rfl eF7 rfl rfl rfl λ w_120 m_121 BL=> ?_
        have:=m_121.size
        have z_120:=Ext.mod z_115 m_121 (ge1 (by omega))
        have:=m_121.size
        refine nK<|rg<|vm rfl<|vL (ld rfl (BL.all eF3 eF4))<|bs (e:= 49) (cs:= [.int .i64 (((lst a b k).2.x)+(sgn (b.x - a.x))), .int .i64 (((lst a b k).2.y)+(sgn (b.y - a.y)))]) rfl (λ _=>by kernel_rfl) rfl λ w_124 b_125 x_126 l_127 B_128=> ?_
        have:=x_126.size
        have z_124:=eT z_120 x_126
        have q_130:=B_128.lt
        have OO:=OO.mod m_116 (λ q hq h=>by have hb:=List.mem_singleton.1 h;exfalso;(exact d_105 q hq hb))
        have OO:=OO.mod m_121 (λ q hq h=>by have hb:=List.mem_singleton.1 h;exfalso;(exact d_105 q hq hb))
        have OO:=OO.later x_126
        refine ap LinG_el_S_api_Cell Rep.flat_bare OO (Blk.has1 (R:=Cel.rep) (by_:=16) (q:=(⟨((lst a b k).2.x)+(sgn (b.x - a.x)),((lst a b k).2.y)+(sgn (b.y - a.y))⟩:Cel)) B_128 ⟨rfl,⟨okI_iff.2 (by (try dsimp only);omega),okI_iff.2 (by (try dsimp only);omega)⟩⟩ (by decide)) rfl rfl (by simp only [List.length_cons,List.length_nil];omega) (by simp only [List.length_cons,List.length_nil];omega) z_124.size rfl λ w_131 A_132 c_133 m_134 O_135 g_136 n_137=> ?_
        have:=m_134.size
        have z_131:=Ext.mod z_124 m_134 (λ q hq=>(OO.lt q hq).1)
        have u_139:=λ q hq=>(O_135.lt q hq).2
        have:=m_134.size
        refine va rfl<|nl<|nB<|nT<|rg<|vL (bad rfl rfl (inI (by omega)))<|vm rfl<|nl<| ?_
        have e1:lst a b (k+1)=((((lst a b k).1)+(2 * (sz (b.y - a.y)))) - (2 * (sz (b.x - a.x))),⟨((lst a b k).2.x)+(sgn (b.x - a.x)),((lst a b k).2.y)+(sgn (b.y - a.y))⟩):=by
          show lstep a b (lst a b k)=_
          unfold lstep
          simp only [hfar,hnar,hdec,hasd,if_true,if_false,Bool.or_true,Bool.true_or,Bool.or_false,Bool.false_or,Bool.false_eq_true,decide_true,decide_false,Bool.not_true,Bool.not_false]
        have e2:=pts_succ a b k
        rw [e1] at e2
        have e3:(pts a b (k+1)).length=k+2:=pts_len a b (k+1)
        have BL:=BL.later x_126
        have BL:=BL.mod m_134 (λ hq=>d_105 _ hq rfl)
        exact nI _ _ ⟨k+1,A_132,c_133,rfl,rfl,z_131,(by rw [e1];exact BL),(by rw [e2];exact O_135),by omega,(λ q hq hb=>by (exact Or.elim (g_136 q hq) (λ k_141=>by (exact d_105 q k_141 hb)) (λ k_141=>by omega)))⟩ (by omega) (.cons rfl (.cons rfl (.cons rfl (.cons rfl (.cons rfl (.cons rfl (.cons rfl (.cons rfl (.cons rfl (.cons (by rw [e2];rfl) (.cons (loI rfl (by rw [e1])) (.cons rfl (.cons (loI rfl (by first | omega | rfl | (simp<;>omega))) .nil)))))))))))))
      · rw [hfar] at hb
        have hasd:decide (sz (b.x - a.x)≤((lst a b k).1)+(2 * (sz (b.y - a.y))))=false:=by exact decide_eq_false h_113
        refine sK<|sq<|sg<|vm rfl<|vm rfl<|vL (bge rfl rfl)<|vm rfl<|vQ rfl rfl rfl rfl (λ hc=>mv rfl) rfl<|vL (pO rfl rfl rfl rfl)<|nK<| ?_
        have h_142:((decide (sz (b.y - a.y)≤sz (b.x - a.x))) || (decide (sz (b.x - a.x)≤((lst a b k).1)+(2 * (sz (b.y - a.y))))))=true:=by simp only [Bool.or_eq_true,decide_eq_true_eq];omega
        refine cT (by rw [← h_142];rfl)<|rg<|vL (fa eF0 rfl)<|vL (ld rfl (BL.one eF1 rfl))<|vm rfl<|vL (bad rfl rfl (inI (by omega)))<|vL (fa eF0 rfl)<|st (new:= [.int .i64 (((lst a b k).2.x)+(sgn (b.x - a.x))), .int .i64 ((lst a b k).2.y)]) rfl rfl BL rfl eF7 rfl rfl rfl λ w_143 m_144 BL=> ?_
        have:=m_144.size
        have z_143:=Ext.mod z_106 m_144 (ge1 (by omega))
        have:=m_144.size
        refine nK<|sq<|sg<|vm rfl<|vm rfl<|vL (bgt rfl rfl)<|vm rfl<|vQ rfl rfl rfl rfl (λ hc=>mv rfl) rfl<|vL (pO rfl rfl rfl rfl)<|nK<| ?_
        have h_147:((decide (sz (b.x - a.x)<sz (b.y - a.y))) || (decide (sz (b.x - a.x)≤((lst a b k).1)+(2 * (sz (b.y - a.y))))))=false:=by simp only [Bool.or_eq_false_iff,decide_eq_false_iff_not];omega
        refine cF (by rw [← h_147];rfl)<|sK<|rg<|vm rfl<|vL (ld rfl (BL.all eF3 eF4))<|bs (e:= 49) (cs:= [.int .i64 (((lst a b k).2.x)+(sgn (b.x - a.x))), .int .i64 ((lst a b k).2.y)]) rfl (λ _=>by kernel_rfl) rfl λ w_148 b_149 x_150 l_151 B_152=> ?_
        have:=x_150.size
        have z_148:=eT z_143 x_150
        have q_154:=B_152.lt
        have OO:=OO.mod m_144 (λ q hq h=>by have hb:=List.mem_singleton.1 h;exfalso;(exact d_105 q hq hb))
        have OO:=OO.later x_150
        refine ap LinG_el_S_api_Cell Rep.flat_bare OO (Blk.has1 (R:=Cel.rep) (by_:=16) (q:=(⟨((lst a b k).2.x)+(sgn (b.x - a.x)),(lst a b k).2.y⟩:Cel)) B_152 ⟨rfl,⟨okI_iff.2 (by (try dsimp only);omega),okI_iff.2 (by (try dsimp only);omega)⟩⟩ (by decide)) rfl rfl (by simp only [List.length_cons,List.length_nil];omega) (by simp only [List.length_cons,List.length_nil];omega) z_148.size rfl λ w_155 A_156 c_157 m_158 O_159 g_160 n_161=> ?_
        have:=m_158.size
        have z_155:=Ext.mod z_148 m_158 (λ q hq=>(OO.lt q hq).1)
        have u_163:=λ q hq=>(O_159.lt q hq).2
        have:=m_158.size
        refine va rfl<|nl<|nB<|nT<|rg<|vL (bad rfl rfl (inI (by omega)))<|vm rfl<|nl<| ?_
        have e1:lst a b (k+1)=(((lst a b k).1)+(2 * (sz (b.y - a.y))),⟨((lst a b k).2.x)+(sgn (b.x - a.x)),(lst a b k).2.y⟩):=by
          show lstep a b (lst a b k)=_
          unfold lstep
          simp only [hfar,hnar,hdec,hasd,if_true,if_false,Bool.or_true,Bool.true_or,Bool.or_false,Bool.false_or,Bool.false_eq_true,decide_true,decide_false,Bool.not_true,Bool.not_false]
        have e2:=pts_succ a b k
        rw [e1] at e2
        have e3:(pts a b (k+1)).length=k+2:=pts_len a b (k+1)
        have BL:=BL.later x_150
        have BL:=BL.mod m_158 (λ hq=>d_105 _ hq rfl)
        exact nI _ _ ⟨k+1,A_156,c_157,rfl,rfl,z_155,(by rw [e1];exact BL),(by rw [e2];exact O_159),by omega,(λ q hq hb=>by (exact Or.elim (g_160 q hq) (λ k_165=>by (exact d_105 q k_165 hb)) (λ k_165=>by omega)))⟩ (by omega) (.cons rfl (.cons rfl (.cons rfl (.cons rfl (.cons rfl (.cons rfl (.cons rfl (.cons rfl (.cons rfl (.cons (by rw [e2];rfl) (.cons (loI rfl (by rw [e1])) (.cons rfl (.cons (loI rfl (by first | omega | rfl | (simp<;>omega))) .nil)))))))))))))
    · refine xt<|xT<|xK<|xB<|nT<|sg<|vm rfl<|va rfl<|va rfl<|nK<|rt<|tR (.tmp rfl (.tmp rfl .nil))<| ?_
      have hkk:k=(far a b).toNat:=by omega
      subst hkk
      exact ⟨Ao,co,rfl,OO,z_106⟩
end
section
open Go.RowKit
def costK (p:Int):Int:=if p=0∨p=3 then 2 else if p=2 then 3 else 0
def costE (p:Int):Int:=if p=0∨p=3 then 0 else if p=2 then 0 else if p=1 then 9 else 1
def sidesC (c:Cel):List Cel:= [⟨c.x,c.y - 1⟩,⟨c.x - 1,c.y⟩,⟨c.x+1,c.y⟩,⟨c.x,c.y+1⟩]
namespace Fld
section
variable {f:Fld} {c d x y b:Cel} {l far:List Int} {v:Int}
def kost (f:Fld) (c:Cel):Int:=if f.place c=2 then 3 else 2
def adj (f:Fld) (c:Cel):List Cel:=(sidesC c).filter f.ground
def at_ (f:Fld) (c:Cel):Nat:=(c.y * f.wide+c.x).toNat
def fr (f:Fld) (far:List Int) (c:Cel):Int:=if f.isIn c then far.getD (f.at_ c) (-1) else -1
def est (b c:Cel):Int:=2 * (sz (b.x - c.x)+sz (b.y - c.y))
theorem ground_place (h:f.ground c=true):f.place c≠1:=by unfold ground at h;rw [Bool.and_eq_true] at h;simpa using h.2
theorem ground_mk (h:f.isIn c=true) (h2:f.place c≠1):f.ground c=true:=by unfold ground;rw [h];simpa using h2
theorem kost_bd:2≤f.kost c∧f.kost c≤3:=by unfold kost;split<;>omega
theorem mem_adj:y∈f.adj x↔y∈sidesC x∧f.ground y=true:=by unfold adj;rw [List.mem_filter]
theorem mem_sides:y∈sidesC x↔(y=⟨x.x,x.y - 1⟩∨y=⟨x.x - 1,x.y⟩∨y=⟨x.x+1,x.y⟩∨y=⟨x.x,x.y+1⟩):=by unfold sidesC;simp
theorem sides_symm (h:y∈sidesC x):x∈sidesC y:=by
 rw [mem_sides] at h ⊢
 obtain ⟨a,b⟩:=x
 rcases h with rfl | rfl | rfl | rfl
 ·right;right;right;simp
 ·right;right;left;simp
 ·right;left;simp
 ·left;simp
theorem sides_ne (h:y∈sidesC x):y≠x:=by
 rw [mem_sides] at h
 obtain ⟨a,b⟩:=x
 rcases h with rfl | rfl | rfl | rfl<;>simp<;>omega
theorem est_step (b:Cel) (h:y∈sidesC x):est b x≤2+est b y:=by
 rw [mem_sides] at h
 obtain ⟨x1,x2⟩:=x
 have e:∀ n:Int,sz n≤1+sz (n+1)∧sz n≤1+sz (n - 1):=λ n=>by
  have h1:=sz_bd n;have h2:=sz_bd (n+1);have h3:=sz_bd (n - 1)
  rcases (show n<0∨0≤n by omega) with hn | hn
  ·have:=h1.2.2.2 hn
   rcases (show n+1<0∨0≤n+1 by omega) with hm | hm
   ·have:=h2.2.2.2 hm;have:=h3.2.2.2 (by omega);omega
   ·have:=h2.2.2.1 hm;have:=h3.2.2.2 (by omega);omega
  ·have:=h1.2.2.1 hn
   have:=h2.2.2.1 (by omega)
   rcases (show n - 1<0∨0≤n - 1 by omega) with hm | hm
   ·have:=h3.2.2.2 hm;omega
   ·have:=h3.2.2.1 hm;omega
 unfold est
 rcases h with rfl | rfl | rfl | rfl<;>dsimp only
 ·have:=(e (b.y - x2)).1;rw [show b.y - (x2 - 1)=b.y - x2+1 by omega];omega
 ·have:=(e (b.x - x1)).1;rw [show b.x - (x1 - 1)=b.x - x1+1 by omega];omega
 ·have:=(e (b.x - x1)).2;rw [show b.x - (x1+1)=b.x - x1 - 1 by omega];omega
 ·have:=(e (b.y - x2)).2;rw [show b.y - (x2+1)=b.y - x2 - 1 by omega];omega
theorem est_nn (b c:Cel):0≤est b c:=by have:=sz_bd (b.x - c.x);have:=sz_bd (b.y - c.y);unfold est;omega
theorem est_self (b:Cel):est b b=0:=by unfold est;rw [Int.sub_self,Int.sub_self];rfl
theorem okA (f:Fld) (b:Cel):Gra.Ok f.adj f.kost (est b):=⟨λ x y _=>by have:=f.kost_bd (c:=y);omega,est_nn b,λ x y hy=>by
 have:=est_step b (mem_adj.1 hy).1;have:=f.kost_bd (c:=y);omega⟩
theorem okZ (f:Fld):Gra.Ok f.adj f.kost (λ _=>0):=⟨λ x y _=>by have:=f.kost_bd (c:=y);omega,λ _=>Int.le_refl 0,λ x y hy=>by have:=f.kost_bd (c:=y);omega⟩
theorem at_inj (hf:f.chk=0) (hc:f.isIn c=true) (hd:f.isIn d=true) (h:f.at_ c=f.at_ d):c=d:=by
 obtain ⟨a0,a1,a2,a3,a4,a5⟩:=idx hf hc
 obtain ⟨b0,b1,b2,b3,b4,b5⟩:=idx hf hd
 unfold at_ at h
 have e:c.y * f.wide+c.x=d.y * f.wide+d.x:=by omega
 have e1:(c.y * f.wide+c.x) % f.wide=c.x:=by rw [Int.add_comm,Int.add_mul_emod_self_right,Int.emod_eq_of_lt a2 a3]
 have e2:(d.y * f.wide+d.x) % f.wide=d.x:=by rw [Int.add_comm,Int.add_mul_emod_self_right,Int.emod_eq_of_lt b2 b3]
 have ex:c.x=d.x:=by rw [← e1,← e2,e]
 have ey:c.y * f.wide=d.y * f.wide:=by omega
 have ey:c.y=d.y:=Int.eq_of_mul_eq_mul_right (by omega) ey
 cases c;cases d;simp at ex ey;rw [ex,ey]
theorem at_lt (hf:f.chk=0) (hc:f.isIn c=true):f.at_ c<f.places.length∧((f.at_ c:Nat):Int)=c.y * f.wide+c.x:=by
 obtain ⟨a0,a1,_⟩:=idx hf hc
 unfold at_;omega
theorem fr_in (hc:f.isIn c=true):f.fr far c=far.getD (f.at_ c) (-1):=by unfold fr;rw [if_pos hc]
theorem fr_out (hc:f.isIn c=false):f.fr far c= -1:=by unfold fr;rw [if_neg (by rw [hc];decide)]
theorem fr_set (hf:f.chk=0) (hl:far.length=f.places.length) (hc:f.isIn c=true):f.fr (far.set (f.at_ c) v) c=v:=by
 rw [fr_in hc,List.getD_eq_getElem?_getD,List.getElem?_set_self (by rw [hl];exact (at_lt hf hc).1)];rfl
theorem fr_set_ne (hf:f.chk=0) (hc:f.isIn c=true) (hne:d≠c):f.fr (far.set (f.at_ c) v) d=f.fr far d:=by
 cases hd:f.isIn d with
 | false=>rw [fr_out hd,fr_out hd]
 | true=>rw [fr_in hd,fr_in hd,List.getD_eq_getElem?_getD,List.getD_eq_getElem?_getD,List.getElem?_set_ne (λ e=>hne (at_inj hf hd hc e.symm))]
end
end Fld
def und:List Int→Nat
 | []=>0
 | x::r=>(if x<0 then 1 else 0)+und r
theorem und_le:∀ l:List Int,und l≤l.length
 | []=>Nat.le_refl _
 | x::r=>by have:=und_le r;rw [und,List.length_cons];split<;>omega
theorem und_set {v:Int} (hv:0≤v):∀ (l:List Int) (i:Nat),i<l.length→l.getD i (-1)<0→und (l.set i v)+1=und l
 | [],i,h,_=>by simp at h
 | x::r,0,_,h=>by
  have h:x<0:=h
  rw [List.set_cons_zero,und,und,if_neg (by omega),if_pos h];omega
 | x::r,i+1,h,h2=>by
  have:=und_set hv r i (by simpa using h) (by simpa using h2)
  rw [List.set_cons_succ,und,und];omega
theorem und_all {n:Nat}:und (List.replicate n (-1))=n:=by
 induction n with
 | zero=>rfl
 | succ n ih=>rw [List.replicate_succ,und,ih];simp;omega
structure SI {β:Type} [Inhabited β] (cel:β→Cel) (fa ky:β→Int) (f:Fld) (h:Cel→Int) (src:Cel→Prop) (far:List Int) (l:List β) (x0:Cel) (rest:List Cel):Prop where
 len:far.length=f.places.length
 inv:Gra.Inv f.adj f.kost h src (f.fr far) (l.map λ n=>(cel n,fa n)) x0 rest
 hp:Hp.Heap ky l.length l
 all:∀ n∈l,ky n=fa n+h (cel n)∧f.ground (cel n)=true
 bd:∀ c,f.fr far c+3 * (und far:Int)≤3 * (f.places.length:Int)
 gr:∀ c,0≤f.fr far c→f.ground c=true
section
variable {β:Type} [Inhabited β] {cel:β→Cel} {fa ky:β→Int} {f:Fld} {h:Cel→Int} {src:Cel→Prop} {far:List Int} {l:List β} {x0 y:Cel} {rest:List Cel} {n:β} {j:Nat}
theorem SI.fa_bd (s:SI cel fa ky f h src far l x0 rest) (o:Gra.Ok f.adj f.kost h) (hn:n∈l):0≤fa n∧fa n+3 * (und far:Int)≤3 * (f.places.length:Int)+3:=by
 have hm:(cel n,fa n)∈l.map λ n=>(cel n,fa n):=List.mem_map.2 ⟨n,hn,rfl⟩
 have hr:=s.inv.rch hm
 refine ⟨hr.nn o, ?_⟩
 have hu:=und_le far
 have:=s.len
 rcases s.inv.q _ hm with ⟨_,h2⟩ | ⟨p,h1,h2,h3⟩
 ·have h2:fa n=0:=h2;omega
 ·have h3:fa n=f.fr far p+f.kost (cel n):=h3
  have:=s.bd p
  have:=f.kost_bd (c:=cel n);omega
theorem SI.perm0 (h0:0<l.length):(l.map λ n=>(cel n,fa n)).Perm ((cel (l.getD 0 default),fa (l.getD 0 default))::(Hp.popL ky l).map λ n=>(cel n,fa n)):=
 ((Hp.popL_perm (key:=ky) h0).symm.map _)
theorem SI.least (s:SI cel fa ky f h src far l x0 rest) (h0:0<l.length):∀ e∈l.map λ n=>(cel n,fa n),fa (l.getD 0 default)+h (cel (l.getD 0 default))≤e.2+h e.1:=by
 intro e he
 obtain ⟨n,hn,rfl⟩:=List.mem_map.1 he
 have h1:=s.hp.least n hn
 rw [(s.all n hn).1,(s.all _ (mem_dd h0)).1] at h1
 exact h1
theorem SI.sub (h0:0<l.length) (hn:n∈Hp.popL ky l):n∈l:=(Hp.popL_perm (key:=ky) h0).subset (List.mem_cons_of_mem _ hn)
theorem SI.skip0 (s:SI cel fa ky f h src far l x0 []) (h0:0<l.length) (hd:0≤f.fr far (cel (l.getD 0 default))):SI cel fa ky f h src far (Hp.popL ky l) x0 [] :=
 ⟨s.len,s.inv.popSkip (SI.perm0 h0) hd,Hp.popL_heap s.hp h0,λ n hn=>s.all n (SI.sub h0 hn),s.bd,s.gr⟩
theorem SI.new (s:SI cel fa ky f h src far l x0 []) (hf:f.chk=0) (o:Gra.Ok f.adj f.kost h) (h0:0<l.length) (hd:f.fr far (cel (l.getD 0 default))<0):
  SI cel fa ky f h src (far.set (f.at_ (cel (l.getD 0 default))) (fa (l.getD 0 default))) (Hp.popL ky l) (cel (l.getD 0 default)) (f.adj (cel (l.getD 0 default)))∧und (far.set (f.at_ (cel (l.getD 0 default))) (fa (l.getD 0 default)))+1=und far:=by
 have hg:=(s.all _ (mem_dd h0 (d:=default))).2
 have hi:=Fld.ground_in hg
 have hb:=s.fa_bd o (mem_dd h0 (d:=default))
 have hu:und (far.set (f.at_ (cel (l.getD 0 default))) (fa (l.getD 0 default)))+1=und far:=und_set hb.1 far _ (by rw [s.len];exact (Fld.at_lt hf hi).1) (by rw [Fld.fr_in hi] at hd;exact hd)
 refine ⟨⟨by rw [List.length_set];exact s.len,(s.inv.popNew o (SI.perm0 h0) hd (s.least h0) (Fld.fr_set hf s.len hi) (λ z hz=>Fld.fr_set_ne hf hi hz)).1,Hp.popL_heap s.hp h0,λ n hn=>s.all n (SI.sub h0 hn),λ c=> ?_,λ c hc=> ?_⟩,hu⟩
 ·by_cases e:c=cel (l.getD 0 default)
  ·rw [e,Fld.fr_set hf s.len hi];omega
  ·rw [Fld.fr_set_ne hf hi e];have:=s.bd c;omega
 ·by_cases e:c=cel (l.getD 0 default)
  ·rw [e];exact hg
  ·rw [Fld.fr_set_ne hf hi e] at hc;exact s.gr c hc
theorem SI.push (s:SI cel fa ky f h src far l x0 (y::rest)) (o:Gra.Ok f.adj f.kost h) (hg:f.ground y=true) (h1:cel n=y) (h2:fa n=f.fr far x0+f.kost y) (h3:ky n=fa n+h y):SI cel fa ky f h src far (Hp.push ky l n) x0 rest:=by
 refine ⟨s.len,s.inv.push o ?_,Hp.push_heap s.hp,λ m hm=> ?_,s.bd,s.gr⟩
 ·have:=(Hp.push_perm (key:=ky) (l:=l) (x:=n)).map λ n=>(cel n,fa n)
  rw [List.map_cons,h1,h2] at this;exact this
 ·rcases List.mem_cons.1 ((Hp.push_perm (key:=ky)).subset hm) with rfl | hm
  ·rw [h1];exact ⟨h3,hg⟩
  ·exact s.all m hm
theorem SI.pass (s:SI cel fa ky f h src far l x0 (y::rest)) (hy:0≤f.fr far y):SI cel fa ky f h src far l x0 rest:=⟨s.len,s.inv.skip hy,s.hp,s.all,s.bd,s.gr⟩
theorem sides_drop {f:Fld} {x:Cel} {j:Nat} (hj:j<4):((sidesC x).drop j).filter f.ground=if f.ground ((sidesC x).getD j default) then (sidesC x).getD j default::((sidesC x).drop (j+1)).filter f.ground else ((sidesC x).drop (j+1)).filter f.ground:=by
 have hl:(sidesC x).length=4:=rfl
 rw [List.drop_eq_getElem_cons (by omega),List.filter_cons,getD_dd (by omega)]
theorem SI.look_out (s:SI cel fa ky f h src far l x0 (((sidesC x0).drop j).filter f.ground)) (hj:j<4) (hg:f.ground ((sidesC x0).getD j default)=false):SI cel fa ky f h src far l x0 (((sidesC x0).drop (j+1)).filter f.ground):=by
 rw [sides_drop hj,if_neg (by rw [hg];decide)] at s;exact s
theorem SI.look_known (s:SI cel fa ky f h src far l x0 (((sidesC x0).drop j).filter f.ground)) (hj:j<4) (hy:0≤f.fr far ((sidesC x0).getD j default)) (hg:f.ground ((sidesC x0).getD j default)=true):SI cel fa ky f h src far l x0 (((sidesC x0).drop (j+1)).filter f.ground):=by
 rw [sides_drop hj,if_pos hg] at s;exact s.pass hy
theorem SI.look_new (s:SI cel fa ky f h src far l x0 (((sidesC x0).drop j).filter f.ground)) (o:Gra.Ok f.adj f.kost h) (hj:j<4) (hg:f.ground ((sidesC x0).getD j default)=true) (h1:cel n=(sidesC x0).getD j default) (h2:fa n=f.fr far x0+f.kost ((sidesC x0).getD j default)) (h3:ky n=fa n+h ((sidesC x0).getD j default)):
  SI cel fa ky f h src far (Hp.push ky l n) x0 (((sidesC x0).drop (j+1)).filter f.ground):=by
 rw [sides_drop hj,if_pos hg] at s;exact s.push o hg h1 h2 h3
end
end
section
open Go.RowKit
structure Nod where
 cell:Cel
 far:Int
 all:Int
 deriving DecidableEq,Inhabited
namespace Nod
def cells (a:Nod):List Value:= [.int .i64 (a.cell.x), .int .i64 (a.cell.y), .int .i64 (a.far), .int .i64 (a.all)]
def ok (a:Nod):Prop:=(Lit.int .i64 a.cell.x).wf=true∧(Lit.int .i64 a.cell.y).wf=true∧(Lit.int .i64 a.far).wf=true∧(Lit.int .i64 a.all).wf=true
def raw (j:Nat) (u:Value):Prop:=match j with
 | 0=>∃ n:Int,u= .int .i64 n
 | 1=>∃ n:Int,u= .int .i64 n
 | 2=>∃ n:Int,u= .int .i64 n
 | 3=>∃ n:Int,u= .int .i64 n
 | _=>True
theorem cells_raw (a:Nod):∀ (j:Nat) u,a.cells[j]? =some u→raw j u:=by
 intro j u hu
 match j,hu with
 | 0,hu=>exact ⟨_,(Option.some.inj hu).symm⟩
 | 1,hu=>exact ⟨_,(Option.some.inj hu).symm⟩
 | 2,hu=>exact ⟨_,(Option.some.inj hu).symm⟩
 | 3,hu=>exact ⟨_,(Option.some.inj hu).symm⟩
 | j+4,hu=>exact trivial
theorem cells_one (a:Nod):∀ u∈a.cells,u.oneCell'=true:=by
 intro u hu
 unfold cells at hu
 simp only [List.mem_cons,List.not_mem_nil,or_false] at hu
 rcases hu with rfl | rfl | rfl | rfl<;>rfl
def rep:Rep Nod:=Rep.flat 4 cells ok raw (λ _=>rfl) cells_one cells_raw
def zero:Value:= .agg #[.int .i64 0, .int .i64 0, .int .i64 0, .int .i64 0]
theorem zero_raw:∀ (j:Nat) u,zero.cells[j]? =some u→rep.raw j u:=by
 intro j u hu
 have hu:(#[(.int .i64 0:Value),(.int .i64 0:Value),(.int .i64 0:Value),(.int .i64 0:Value)]:Array Value)[j]? =some u:=hu
 match j,hu with
 | 0,hu=>exact ⟨_,(Option.some.inj hu).symm⟩
 | 1,hu=>exact ⟨_,(Option.some.inj hu).symm⟩
 | 2,hu=>exact ⟨_,(Option.some.inj hu).symm⟩
 | 3,hu=>exact ⟨_,(Option.some.inj hu).symm⟩
 | j+4,hu=>cases hu
theorem info:(Tryz.prog.info? 313).map (λ i=>(i.zero,i.size,i.bytes))=some (some zero,4,32):=by kernel_rfl
def sh:Sh:=(.cons (.cons (.int .i64) (.cons (.int .i64) .nil)) (.cons (.int .i64) (.cons (.int .i64) .nil)))
end Nod
end
section
open Go.RowKit
abbrev PS (f:Fld) (a b:Cel) (far:List Int) (l:List Nod) (x0:Cel) (rest:List Cel):Prop:=SI Nod.cell Nod.far Nod.all f (Fld.est b) (λ c=>c=a) far l x0 rest
def Vis (f:Fld) (b:Cel) (far:List Int):Prop:=0≤f.fr far b→∀ x,0≤f.fr far x→f.fr far x+Fld.est b x≤f.fr far b
structure PEnd (f:Fld) (a b:Cel) (far:List Int):Prop where
 len:far.length=f.places.length
 spec:Gra.Spec f.adj f.kost (Fld.est b) (λ c=>c=a) b (f.fr far)
 bd:∀ c,f.fr far c≤3 * (f.places.length:Int)
 gr:∀ c,0≤f.fr far c→f.ground c=true
section
variable {f:Fld} {a b x0:Cel} {far:List Int} {l:List Nod} {xn:Nod} {rest:List Cel}
theorem vis_new (s:PS f a b far l x0 []) (hf:f.chk=0) (h0:0<l.length) (hx:l.getD 0 default=xn) (hd:f.fr far xn.cell<0) (hv:Vis f b far) (hc:f.fr far b<0∨xn.all≤f.fr far b):Vis f b (far.set (f.at_ xn.cell) xn.far):=by
 have hm:xn∈l:=by rw [← hx];exact mem_dd h0
 obtain ⟨ha,hg⟩:=s.all xn hm
 have hi:=Fld.ground_in hg
 have h1:=Fld.fr_set (v:=xn.far) hf s.len hi
 have h2:∀ z,z≠xn.cell→f.fr (far.set (f.at_ xn.cell) xn.far) z=f.fr far z:=λ z hz=>Fld.fr_set_ne hf hi hz
 have hmono:=λ z hz=>s.inv.mono z hz (xn.cell,xn.far) (List.mem_map.2 ⟨xn,hm,rfl⟩)
 dsimp only at hmono
 intro hb z hz
 by_cases e:b=xn.cell
 ·have eb:f.fr (far.set (f.at_ xn.cell) xn.far) b=xn.far:=by rw [e];exact h1
  rw [eb]
  have e0:Fld.est b xn.cell=0:=by rw [← e];exact Fld.est_self b
  by_cases ez:z=xn.cell
  ·rw [ez,h1];omega
  ·rw [h2 z ez] at hz ⊢
   have:=hmono z hz
   omega
 ·rw [h2 b e] at hb ⊢
  by_cases ez:z=xn.cell
  ·rw [ez,h1];omega
  ·rw [h2 z ez] at hz ⊢
   exact hv hb z hz
theorem pend_of (s:PS f a b far l x0 []) (hv:Vis f b far) (he:(0≤f.fr far b∧∀ e∈l.map λ n=>(n.cell,n.far),f.fr far b<e.2+Fld.est b e.1)∨(l.map λ n=>(n.cell,n.far))= []):PEnd f a b far :=
 ⟨s.len,s.inv.ends (Fld.okA f b) (Fld.est_self b) hv he,λ c=>by have:=s.bd c;omega,s.gr⟩
theorem pend_nil (s:PS f a b far l x0 []) (hv:Vis f b far) (h:l.length=0):PEnd f a b far:=pend_of s hv (.inr (by rw [List.eq_nil_of_length_eq_zero h];rfl))
theorem pend_more (s:PS f a b far l x0 []) (hv:Vis f b far) (h0:0<l.length) (hb:0≤f.fr far b) (h:f.fr far b<(l.getD 0 default).all):PEnd f a b far :=
 pend_of s hv (.inl ⟨hb,λ e he=>by
  have h1:=s.least h0 e he
  rw [← (s.all _ (mem_dd h0)).1] at h1;omega⟩)
theorem PS.node (s:PS f a b far l x0 rest) (hf:f.chk=0) (hb:f.isIn b=true) (hn:xn∈l):0≤xn.cell.x∧xn.cell.x<f.wide∧0≤xn.cell.y∧xn.cell.y<f.high∧0≤xn.far∧xn.far≤4803∧0≤xn.all∧xn.all≤5000∧xn.ok:=by
 obtain ⟨ha,hg⟩:=s.all xn hn
 obtain ⟨_,_,i1,i2,i3,i4⟩:=Fld.idx hf (Fld.ground_in hg)
 obtain ⟨_,_,j1,j2,j3,j4⟩:=Fld.idx hf hb
 obtain ⟨g1,g2,g3,g4,g5,g6⟩:=Fld.good hf
 obtain ⟨h1,h2⟩:=s.fa_bd (Fld.okA f b) hn
 have hl:=Fld.len_le hf
 have he:0≤Fld.est b xn.cell∧Fld.est b xn.cell≤160:=by
  refine ⟨Fld.est_nn _ _, ?_⟩
  unfold Fld.est
  have a1:=sz_bd (b.x - xn.cell.x);have a2:=sz_bd (b.y - xn.cell.y)
  rcases (show b.x - xn.cell.x<0∨0≤b.x - xn.cell.x by omega) with h | h
  ·have:=a1.2.2.2 h
   rcases (show b.y - xn.cell.y<0∨0≤b.y - xn.cell.y by omega) with h' | h'
   ·have:=a2.2.2.2 h';omega
   ·have:=a2.2.2.1 h';omega
  ·have:=a1.2.2.1 h
   rcases (show b.y - xn.cell.y<0∨0≤b.y - xn.cell.y by omega) with h' | h'
   ·have:=a2.2.2.2 h';omega
   ·have:=a2.2.2.1 h';omega
 refine ⟨i1,i2,i3,i4,h1,by omega,by omega,by omega,okI_iff.2 (by omega),okI_iff.2 (by omega),okI_iff.2 (by omega),okI_iff.2 (by omega)⟩
theorem fr_get (hf:f.chk=0) (hl:far.length=f.places.length) {c:Cel} (hc:f.isIn c=true):far[(c.y * f.wide+c.x).toNat]? =some (f.fr far c):=by
 rw [Fld.fr_in hc]
 exact get_d (u:= -1) (show f.at_ c<far.length by rw [hl];exact (Fld.at_lt hf hc).1)
theorem fr_lt (hf:f.chk=0) (hl:far.length=f.places.length) {c:Cel} (hc:f.isIn c=true):(c.y * f.wide+c.x).toNat<far.length∧0≤c.y * f.wide+c.x∧c.y * f.wide+c.x≤1600:=by
 have h1:=Fld.at_lt hf hc
 obtain ⟨a0,a1,_⟩:=Fld.idx hf hc
 have:=Fld.len_le hf
 unfold Fld.at_ at h1
 omega
theorem b3g_ (p q:Bool):p=false∨(p=true∧q=true)∨(p=true∧q=false):=by cases p<;>cases q<;>simp
end
end
section
open Go.RowKit
section
variable {f:Fld} {a b c:Cel} {far far':List Int} {fr:Cel→Int}
noncomputable def frF (f:Fld) (a b:Cel):Cel→Int :=
 @dite _ (∃ far,PEnd f a b far) (Classical.propDecidable _) (λ h=>f.fr h.choose) λ _=>λ _=> -1
theorem PEnd.frE (h:PEnd f a b far):f.fr far=frF f a b:=by
 have hex:∃ far,PEnd f a b far:=⟨far,h⟩
 unfold frF
 rw [dif_pos hex]
 funext x
 exact h.spec.uniq hex.choose_spec.spec x
theorem PEnd.get (h:PEnd f a b far) (hf:f.chk=0) {c:Cel} (hc:f.isIn c=true):far[(c.y * f.wide+c.x).toNat]? =some (frF f a b c):=by rw [← h.frE];exact fr_get hf h.len hc
theorem push_nil {β:Type} [Inhabited β] {key:β→Int} {x:β}:Hp.push key [] x= [x]:=by
 unfold Hp.push Hp.upF
 rw [if_neg (by simp)];rfl
theorem fr_none {n:Nat}:f.fr (List.replicate n (-1)) c= -1:=by
 unfold Fld.fr
 split
 ·rw [List.getD_eq_getElem?_getD,List.getElem?_replicate];split<;>rfl
 ·rfl
theorem PS.start (hf:f.chk=0) (ha:f.ground a=true) (x0:Cel):PS f a b (List.replicate f.places.length (-1)) (Hp.push Nod.all [] ⟨a,0,0+Fld.est b a⟩) x0 []:=by
 rw [push_nil]
 refine ⟨List.length_replicate,Gra.Inv.start (λ x=>fr_none) (λ e he=> ?_) (λ s hs=> ?_),λ i h0 h1=>by simp at h1;omega,λ n hn=> ?_,λ c=> ?_,λ c hc=>by rw [fr_none] at hc;omega⟩
 ·rw [List.map_cons,List.map_nil,List.mem_singleton] at he;subst he;exact ⟨rfl,rfl⟩
 ·subst hs;exact List.mem_cons_self
 ·rw [List.mem_singleton.1 hn];exact ⟨rfl,ha⟩
 ·rw [fr_none,und_all];omega
theorem Vis.start:Vis f b (List.replicate f.places.length (-1)):=λ h=>by rw [fr_none] at h;omega
def prevF (f:Fld) (fr:Cel→Int) (c:Cel):Cel:=((sidesC c).find? λ n=>f.ground n && decide (0≤fr n) && decide (fr n+f.kost c=fr c)).getD c
def backF (f:Fld) (fr:Cel→Int) (a:Cel):Nat→Cel→List Cel
 | 0,c=> [c]
 | n+1,c=>if c=a then [c] else c::backF f fr a n (prevF f fr c)
structure Frs (f:Fld) (a:Cel) (fr:Cel→Int):Prop where
 zero:fr a=0
 pos:∀ c,0≤fr c→c≠a→∃ p,0≤fr p∧c∈f.adj p∧fr c=fr p+f.kost c
 gr:∀ c,0≤fr c→f.ground c=true
theorem Frs.prev (h:Frs f a fr) (hc:0≤fr c) (hne:c≠a):prevF f fr c∈sidesC c∧f.ground (prevF f fr c)=true∧0≤fr (prevF f fr c)∧fr (prevF f fr c)+f.kost c=fr c:=by
 obtain ⟨p,h1,h2,h3⟩:=h.pos c hc hne
 have hp:p∈sidesC c:=Fld.sides_symm (Fld.mem_adj.1 h2).1
 have hpp:(f.ground p && decide (0≤fr p) && decide (fr p+f.kost c=fr c))=true:=by
  rw [h.gr p h1,decide_eq_true h1,decide_eq_true h3.symm];rfl
 unfold prevF
 cases hf:(sidesC c).find? λ n=>f.ground n && decide (0≤fr n) && decide (fr n+f.kost c=fr c) with
 | none=>exact absurd hpp (List.find?_eq_none.1 hf p hp)
 | some q =>
  have hq:=List.find?_some hf
  simp only [Bool.and_eq_true,decide_eq_true_eq] at hq
  exact ⟨List.mem_of_find?_eq_some hf,hq.1.1,hq.1.2,hq.2⟩
theorem Frs.fuel (h:Frs f a fr):∀ (n:Nat) (c:Cel),0≤fr c→(fr c).toNat≤n→backF f fr a n c=backF f fr a (fr c).toNat c:=by
 intro n
 induction n using Nat.strongRecOn with
 | ind n ih =>
  intro c hc hn
  by_cases hne:c=a
  ·subst hne
   have:(fr c).toNat=0:=by rw [h.zero];rfl
   rw [this]
   cases n with
   | zero=>rfl
   | succ n=>unfold backF;rw [if_pos rfl]
  ·obtain ⟨p1,p2,p3,p4⟩:=h.prev hc hne
   have hk:=f.kost_bd (c:=c)
   obtain ⟨m,hm⟩:∃ m,(fr c).toNat=m+1:=⟨(fr c).toNat - 1,by omega⟩
   obtain ⟨n',hn'⟩:∃ n',n=n'+1:=⟨n - 1,by omega⟩
   subst hn'
   rw [hm,backF,backF,if_neg hne,if_neg hne,ih n' (by omega) _ p3 (by omega),ih m (by omega) _ p3 (by omega)]
def wayB (f:Fld) (fr:Cel→Int) (a c:Cel):List Cel:=backF f fr a (fr c).toNat c
theorem wayB_self (h:Frs f a fr):wayB f fr a a= [a]:=by unfold wayB;rw [h.zero];rfl
theorem wayB_step (h:Frs f a fr) (hc:0≤fr c) (hne:c≠a):wayB f fr a c=c::wayB f fr a (prevF f fr c):=by
 obtain ⟨p1,p2,p3,p4⟩:=h.prev hc hne
 have hk:=f.kost_bd (c:=c)
 unfold wayB
 obtain ⟨m,hm⟩:∃ m,(fr c).toNat=m+1:=⟨(fr c).toNat - 1,by omega⟩
 rw [hm,backF,if_neg hne,h.fuel m _ p3 (by omega)]
theorem Frs.of (h:PEnd f a b far) (hb:0≤f.fr far b):Frs f a (f.fr far):=by
 have hz:0≤f.fr far a→f.fr far a=0:=λ h0=>by
  have:=(h.spec.dist a h0).1.2 0 (.start rfl);omega
 have key:∀ n:Nat,∀ c,0≤f.fr far c→(f.fr far c).toNat=n→0≤f.fr far a:=by
  intro n
  induction n using Nat.strongRecOn with
  | ind n ih =>
   intro c hc hn
   rcases h.spec.pred c hc with ⟨h1,_⟩ | ⟨p,h1,h2,h3⟩
   ·subst h1;exact hc
   ·have:=f.kost_bd (c:=c)
    exact ih (f.fr far p).toNat (by omega) p h1 rfl
 have ha:=key _ b hb rfl
 refine ⟨hz ha,λ c hc hne=> ?_,h.gr⟩
 rcases h.spec.pred c hc with ⟨h1,_⟩ | h1
 ·exact absurd h1 hne
 ·exact h1
theorem Frs.ofF (h:PEnd f a b far) (hb:0≤frF f a b b):Frs f a (frF f a b):=by rw [← h.frE] at hb ⊢;exact Frs.of h hb
theorem PEnd.bdF (h:PEnd f a b far) (c:Cel):frF f a b c≤3 * (f.places.length:Int):=by rw [← h.frE];exact h.bd c
noncomputable def findE (f:Fld) (a b:Cel):Int:=if f.atE a≠0 then f.atE a else if f.atE b≠0 then f.atE b else if f.place a=1∨f.place b=1 then 9 else if frF f a b b<0 then 6 else 0
noncomputable def findK (f:Fld) (a b:Cel):Int:=if findE f a b=0 then frF f a b b else 0
noncomputable def findP (f:Fld) (a b:Cel):List Cel:=if findE f a b=0 then (wayB f (frF f a b) a b).reverse else []
theorem find_arg (h:f.atE a≠0):findE f a b=f.atE a:=by unfold findE;rw [if_pos h]
theorem find_arg2 (h:f.atE a=0) (h2:f.atE b≠0):findE f a b=f.atE b:=by unfold findE;rw [if_neg (by rw [h];simp),if_pos h2]
theorem atE_chkF (h:f.atE a=0):f.chk=0∧f.isIn a=true:=by
 have hc:f.chk=0:=by
  by_cases hc:f.chk=0
  ·exact hc
  ·rw [(Fld.at_bad hc).1] at h;exact h
 exact ⟨hc,atE_zero' hc h⟩
where
 atE_zero' {f:Fld} {c:Cel} (h:f.chk=0) (he:f.atE c=0):f.isIn c=true:=by
  cases hi:f.isIn c with
  | true=>rfl
  | false=>rw [(Fld.at_out h hi).1] at he;omega
theorem find_rock (h:f.atE a=0) (h2:f.atE b=0) (h3:f.place a=1∨f.place b=1):findE f a b=9:=by unfold findE;rw [if_neg (by rw [h];simp),if_neg (by rw [h2];simp),if_pos h3]
theorem find_none (hf:f.chk=0) (ha:f.ground a=true) (hb:f.ground b=true) (h:frF f a b b<0):findE f a b=6:=by
 unfold findE
 rw [if_neg (by rw [(Fld.at_in hf (Fld.ground_in ha)).1];simp),if_neg (by rw [(Fld.at_in hf (Fld.ground_in hb)).1];simp),if_neg (by rintro (h1 | h1);exact Fld.ground_place ha h1;exact Fld.ground_place hb h1),if_pos h]
theorem find_ok (hf:f.chk=0) (ha:f.ground a=true) (hb:f.ground b=true) (h:0≤frF f a b b):findE f a b=0:=by
 unfold findE
 rw [if_neg (by rw [(Fld.at_in hf (Fld.ground_in ha)).1];simp),if_neg (by rw [(Fld.at_in hf (Fld.ground_in hb)).1];simp),if_neg (by rintro (h1 | h1);exact Fld.ground_place ha h1;exact Fld.ground_place hb h1),if_neg (by omega)]
theorem find_cases (f:Fld) (a b:Cel):(f.atE a≠0∧findE f a b=f.atE a)∨(f.atE a=0∧f.atE b≠0∧findE f a b=f.atE b)∨(f.atE a=0∧f.atE b=0∧(f.place a=1∨f.place b=1)∧findE f a b=9)∨(f.chk=0∧f.ground a=true∧f.ground b=true∧((frF f a b b<0∧findE f a b=6)∨(0≤frF f a b b∧findE f a b=0))):=by
 by_cases h1:f.atE a=0
 ·by_cases h2:f.atE b=0
  ·obtain ⟨hc,ia⟩:=atE_chkF h1
   obtain ⟨_,ib⟩:=atE_chkF h2
   by_cases h3:f.place a=1∨f.place b=1
   ·exact .inr (.inr (.inl ⟨h1,h2,h3,find_rock h1 h2 h3⟩))
   ·have ga:=Fld.ground_mk ia (λ h=>h3 (.inl h))
    have gb:=Fld.ground_mk ib (λ h=>h3 (.inr h))
    refine .inr (.inr (.inr ⟨hc,ga,gb, ?_⟩))
    by_cases h4:frF f a b b<0
    ·exact .inl ⟨h4,find_none hc ga gb h4⟩
    ·exact .inr ⟨by omega,find_ok hc ga gb (by omega)⟩
  ·exact .inr (.inl ⟨h1,h2,find_arg2 h1 h2⟩)
 ·exact .inl ⟨h1,find_arg h1⟩
end
end
section
open Go.RowKit
structure Gox where
 id:Int
 to_:Cel
 deriving DecidableEq,Inhabited
namespace Gox
def cells (a:Gox):List Value:= [.int .i64 (a.id), .int .i64 (a.to_.x), .int .i64 (a.to_.y)]
def ok (a:Gox):Prop:=(Lit.int .i64 a.id).wf=true∧(Lit.int .i64 a.to_.x).wf=true∧(Lit.int .i64 a.to_.y).wf=true
def raw (j:Nat) (u:Value):Prop:=match j with
 | 0=>∃ n:Int,u= .int .i64 n
 | 1=>∃ n:Int,u= .int .i64 n
 | 2=>∃ n:Int,u= .int .i64 n
 | _=>True
theorem cells_raw (a:Gox):∀ (j:Nat) u,a.cells[j]? =some u→raw j u:=by
 intro j u hu
 match j,hu with
 | 0,hu=>exact ⟨_,(Option.some.inj hu).symm⟩
 | 1,hu=>exact ⟨_,(Option.some.inj hu).symm⟩
 | 2,hu=>exact ⟨_,(Option.some.inj hu).symm⟩
 | j+3,hu=>exact trivial
theorem cells_one (a:Gox):∀ u∈a.cells,u.oneCell'=true:=by
 intro u hu
 unfold cells at hu
 simp only [List.mem_cons,List.not_mem_nil,or_false] at hu
 rcases hu with rfl | rfl | rfl<;>rfl
def rep:Rep Gox:=Rep.flat 3 cells ok raw (λ _=>rfl) cells_one cells_raw
def zero:Value:= .agg #[.int .i64 0, .int .i64 0, .int .i64 0]
theorem zero_raw:∀ (j:Nat) u,zero.cells[j]? =some u→rep.raw j u:=by
 intro j u hu
 have hu:(#[(.int .i64 0:Value),(.int .i64 0:Value),(.int .i64 0:Value)]:Array Value)[j]? =some u:=hu
 match j,hu with
 | 0,hu=>exact ⟨_,(Option.some.inj hu).symm⟩
 | 1,hu=>exact ⟨_,(Option.some.inj hu).symm⟩
 | 2,hu=>exact ⟨_,(Option.some.inj hu).symm⟩
 | j+3,hu=>cases hu
theorem info:(Tryz.prog.info? 225).map (λ i=>(i.zero,i.size,i.bytes))=some (some zero,3,24):=by kernel_rfl
def sh:Sh:=(.cons (.int .i64) (.cons (.cons (.int .i64) (.cons (.int .i64) .nil)) .nil))
end Gox
theorem hcGo {w:World} {cs:List Value} {a:Gox} (h:Gox.rep.has w cs a):cs=a.cells:=And.left (show cs=a.cells∧a.ok from h)
end
section
open Go.RowKit Go.Maps
namespace Cel
def key (c:Cel):Value:= .agg #[.int .i64 c.x, .int .i64 c.y]
theorem laid:laidOutB Tryz.prog=true:=by kernel_rfl
theorem key_formed (x y:Int):(Value.agg #[.int .i64 x, .int .i64 y]).formed Tryz.prog 49 =true:=by kernel_rfl
theorem key_type:Tryz.prog.keyType 49 =true:=by kernel_rfl
theorem key_size:∃ n,Tryz.prog.types.size+1=n+2:=by
 have:1≤Tryz.prog.types.size:=by decide +kernel
 exact ⟨Tryz.prog.types.size - 1,by omega⟩
theorem key_cells:Tryz.prog.cellsOf 49 =2∧Tryz.prog.cellsOf 3 =1:=by
 constructor<;>kernel_rfl
theorem key_lit (c:Cel) (h:c.ok):∃ l,keyOf Tryz.prog 49 (key c)=some l:=by
 obtain ⟨hx,hy⟩:=h
 obtain ⟨n,hn⟩:=key_size
 unfold key keyOf
 have hu:=Tryz.underlying49
 rw [hu]
 simp only [key_type,key_formed,Bool.and_self,if_true,hn]
 have h1:Tryz.prog.keyLits (n+2) 49 [.int .i64 c.x, .int .i64 c.y]=some [.int .i64 c.x, .int .i64 c.y]:=by
  simp [Program.keyLits,hu,Tryz.underlying3,key_cells,hx,hy]
 exact ⟨.string (keyBytes [.int .i64 c.x, .int .i64 c.y]),by
  have e:(Value.agg #[.int .i64 c.x, .int .i64 c.y]).cells.toList= [.int .i64 c.x, .int .i64 c.y]:=rfl
  rw [e,h1];rfl⟩
theorem key_ok:KeyOk Tryz.prog 49 key ok where
 keyed:=Keyed.of_law (Go.deep_law_laid laid (m:=100) (by decide) (by decide +kernel) (by kernel_rfl) (by kernel_rfl))
 lit:=key_lit
 inj:=by
  intro a b h
  unfold key at h
  injection h with h
  obtain ⟨x,y⟩:=a
  obtain ⟨z,t⟩:=b
  simp at h
  simp [h]
end Cel
end
end Go.Proofs.YtlikikpgmmkjbaaGreat
