import Derived.Test.YtlikikpgmmkjbaaGreatGra
import Derived.Test.YtlikikpgmmkjbaaGreatOrw
import Derived.Test.YtlikikpgmmkjbaaGreatPpt
import Derived.Test.YtlikikpgmmkjbaaGreatCelK
import Derived.Test.YtlikikpgmmkjbaaGreatInts
import Derived.Test.YtlikikpgmmkjbaaGreatShelf
import Derived.Test.YtlikikpgmmkjbaaGreatBas
set_option linter.unusedVariables false
set_option linter.unusedSimpArgs false
set_option maxRecDepth 100000
set_option maxHeartbeats 4000000
namespace Go.Proofs.YtlikikpgmmkjbaaGreat
section
open Go.RowKit
theorem OrB_eqs_api_Order:EqS Tryz.prog Odr.cells 51 :=by
 intro a b w
 obtain ⟨a0,a1,a2,⟨a3,a4⟩,a5⟩:=a
 obtain ⟨b0,b1,b2,⟨b3,b4⟩,b5⟩:=b
 simp only [Odr.cells,Odr.mk.injEq,Cel.mk.injEq]
 constructor
 ·go_simp
  repeat' split
  all_goals simp_all
 ·go_simp
  repeat' split
  all_goals simp_all
theorem OrB_eqg_api_Order:(Tryz.prog).eqGuardType (Tryz.prog).depth 51 =false:=by kernel_rfl
theorem chunksO {α:Type} (n:Nat):∀ (q:Nat) (l:List α),l.length=q * n→((List.finRange q).flatMap λ k=>(l.drop (k.1 * n)).take n)=l
 | 0,l,h=>by
  have:l= []:=List.eq_nil_of_length_eq_zero (by omega)
  subst this;rfl
 | q+1,l,h=>by
  rw [Nat.succ_mul] at h
  have ih:=chunksO n q (l.drop n) (by rw [List.length_drop];omega)
  rw [List.finRange_succ,List.flatMap_cons,List.flatMap_map]
  have e:(λ k:Fin q=>(l.drop (k.succ.1 * n)).take n)=λ k:Fin q=>((l.drop n).drop (k.1 * n)).take n:=by
   funext k
   rw [List.drop_drop]
   congr 2
   show (k.1+1) * n=_
   rw [Nat.succ_mul];omega
  show (l.drop (0 * n)).take n++((List.finRange q).flatMap λ k:Fin q=>(l.drop (k.succ.1 * n)).take n)=l
  rw [e,ih,Nat.zero_mul,List.drop_zero,List.take_append_drop]
theorem nums_cons (o:Odr) (l:List Odr):nums (o::l)=o.by_::o.kind::o.who::o.spot.x::o.spot.y::o.what::nums l:=rfl
theorem nums_inj:∀ {a b:List Odr},nums a=nums b→a=b
 | [], [],_=>rfl
 | [],o::b,h=>by rw [nums_cons] at h;exact nomatch h
 | o::a, [],h=>by rw [nums_cons] at h;exact nomatch h
 | o::a,p::b,h=>by
  rw [nums_cons,nums_cons] at h
  injection h with h1 h
  injection h with h2 h
  injection h with h3 h
  injection h with h4 h
  injection h with h5 h
  injection h with h6 h
  have e:o=p:=by
   obtain ⟨a1,a2,a3,⟨a4,a5⟩,a6⟩:=o
   obtain ⟨c1,c2,c3,⟨c4,c5⟩,c6⟩:=p
   simp only at h1 h2 h3 h4 h5 h6
   subst h1 h2 h3 h4 h5 h6;rfl
  rw [e,nums_inj h]
theorem list6 {l:List Int} (h:l.length=6): [l.getD 0 0,l.getD 1 0,l.getD 2 0,l.getD 3 0,l.getD 4 0,l.getD 5 0]=l:=by
 match l,h with
 | [a,b,c,d,e,f],_=>rfl
theorem nums_ords {out:List Int} {q:Nat} (h:out.length=q * 6):nums (ordsQ out q)=out:=by
 have e:nums (ordsQ out q)=(List.finRange q).flatMap λ k=>(out.drop (k.1 * 6)).take 6:=by
  unfold nums ordsQ
  rw [List.flatMap_map]
  have e2:(λ k:Fin q=> [(ordOf (chunkAt out k.1)).by_,(ordOf (chunkAt out k.1)).kind,(ordOf (chunkAt out k.1)).who,(ordOf (chunkAt out k.1)).spot.x,(ordOf (chunkAt out k.1)).spot.y,(ordOf (chunkAt out k.1)).what])=λ k:Fin q=>(out.drop (k.1 * 6)).take 6:=by
   funext k
   have hk:=k.2
   have h6:=chunk_len (l:=out) (k:=k.1) (by omega)
   have h7:chunkAt out k.1=(out.drop (k.1 * 6)).take 6:=by unfold chunkAt;congr 1;omega
   rw [← h7]
   exact list6 h6
  exact congrArg (λ f=>(List.finRange q).flatMap f) e2
 rw [e];exact chunksO 6 q out h
theorem nums_i64 {l:List Odr} (h:∀ o∈l,o.ok):I64 (nums l):=by
 intro x hx
 obtain ⟨o,ho,hx⟩:=List.mem_flatMap.1 hx
 obtain ⟨o0,o1,o2,o3,o4,o5⟩:=h o ho
 simp only [List.mem_cons,List.not_mem_nil,or_false] at hx
 rcases hx with rfl | rfl | rfl | rfl | rfl | rfl
 ·exact okI_iff.1 o0
 ·exact okI_iff.1 o1
 ·exact okI_iff.1 o2
 ·exact okI_iff.1 o3
 ·exact okI_iff.1 o4
 ·exact okI_iff.1 o5
theorem oread_back {l m:List Odr} {k:Int} (h:ordsE l=0) (hok:∀ o∈l,o.ok) (hR:ReadIs (wrT l) m k):k=0∧m=l:=by
 have hw:=wrT_ok h
 have hn:=nums_len l
 have h100:=(ordsE_zero h).1
 have ho:Crc.openS (wrT l)=(Pack.strOf (Pack.putAllL (nums l)),0):=by rw [hw];exact Crc.open_seal _
 have hq:(nums l).length=l.length * 6:=by omega
 have hf:ordsF (nums l)=l:=by
  rw [ordsF_q hq]
  exact nums_inj (nums_ords hq)
 rcases hR with ⟨h1,_⟩ | ⟨_,out,j,hG,h2⟩
 ·rw [ho] at h1;exact absurd rfl h1
 ·rw [ho] at hG
  obtain ⟨hj,rfl⟩:=Pack.gotAll_put (nums_i64 hok) (by omega) hG
  rcases h2 with ⟨h3,_⟩ | ⟨_,h3,_⟩ | ⟨_,_,⟨h3,_⟩ | ⟨h3,h4,h5⟩⟩
  ·exact absurd hj h3
  ·omega
  ·rw [hf] at h3;exact absurd h h3
  ·exact ⟨h5,by rw [h4,hf]⟩
theorem wrT_size (l:List Odr):(wrT l).size≤140737488351232:=by
 by_cases h:ordsE l=0
 ·have h1:=(ordsE_zero h).1
  have h2:=nums_len l
  have h3:=Pack.putAll_len (nums l)
  rw [wrT_ok h,Crc.sealS_size,Pack.strOf_size];omega
 ·rw [wrT_no h];decide
def ordL:List Odr:= [⟨1,2,7,⟨2, -1⟩,0⟩]
theorem equal_O (A B:Option Addr) (c d b1 b2:Nat) (l m:List Odr) (w:World) (h1:Odr.rep.SHas b1 w A c l) (h2:Odr.rep.SHas b2 w B d m):
  Calls Tryz.prog 19 #[.slice A l.length c, .slice B m.length d] w (λ e w'=>e= .returned (.bool (decide (l=m)))∧Ext w w'):=by
 have hle:=h1.len_le
 refine calls_W (n:=26) Tryz.func19 rfl rfl rfl ?_
 refine sg<|va rfl<|nK<|sq<|sg<|vm rfl<|vL (ln Tryz.underlying44 rfl)<|vm rfl<|vL (ln Tryz.underlying44 rfl)<|vL (bne rfl rfl)<|nK<| ?_
 refine cne rfl (λ h_1=> ?_) (λ h_1=> ?_)
 ·refine sg<|va rfl<|nK<|rt<|tT<|tR (.tmp rfl .nil)<| ?_
  rw [decide_eq_false (λ e=>h_1 (by rw [e]))]
  exact ⟨rfl,(Ext.rf w)⟩
 ·refine sK<|sq<|sg<|vm rfl<|vL (ln Tryz.underlying44 rfl)<|vm rfl<|nK<|bk<| ?_
  refine lp (λ mI EI wI=>∃ k:Nat,EI= [(0, .slice A l.length c),(1, .slice B m.length d),(12, .int .i64 (l.length:Int)),(13, .int .i64 (k:Int))]∧mI=l.length - k∧Ext w wI∧(k≤l.length)∧(∀ j,j<k→l[j]? =m[j]?)) _ _ ⟨0,rfl,rfl,(Ext.rf w),by omega,λ j hj=>absurd hj (by omega)⟩ (.cons rfl (.cons rfl (.cons rfl (.cons (loI rfl (by first | omega | rfl | (simp<;>omega))) .nil)))) ?_
  rintro m_3 E_4 w_2 ⟨k,rfl,rfl,z_2,hk,hk2⟩
  have:=z_2.size
  have hle:=h1.len_le
  have hle2:=h2.len_le
  refine sg<|vL (blt rfl rfl)<|nK<|sq<| ?_
  refine clt rfl (λ h_6=> ?_) (λ h_6=> ?_)
  ·obtain ⟨x1,hx1⟩:=get_of (l:=l) (i:=k) (by omega)
   obtain ⟨y1,hy1⟩:=get_of (l:=m) (i:=k) (by omega)
   refine sK<|sq<|bk<|sg<|vm rfl<|va rfl<|nK<|sq<| ?_
   refine rd [(3,0),(7,0)] [0,1,2,3,4,5,6,7,8] (by kernel_rfl) (by kernel_rfl) ?_
   refine fw1 rfl (λ _=>mv rfl)<|fw1 rfl (λ _=>mv rfl)<|fw1 rfl (λ _=>iA k Tryz.underlying44 eF141 rfl rfl ((h1.keep z_2).adr (zl k (by omega))) rfl (by omega))<|fq1 rfl (λ _ x=>ld rfl (Rep.SHas.elt hcO ((h1.keep (eT z_2 x)).adh (zl k (by omega))) hx1 eF140 eF141))<|fw1 rfl (λ _=>mv rfl)<|fw1 rfl (λ _=>mv rfl)<|fw1 rfl (λ _=>iA k Tryz.underlying44 eF141 rfl rfl ((h2.keep z_2).adr (zl k (by omega))) rfl (by omega))<|fq1 rfl (λ _ x=>ld rfl (Rep.SHas.elt hcO ((h2.keep (eT z_2 x)).adh (zl k (by omega))) hy1 eF140 eF141))<|fw1 rfl (λ _=>bnS OrB_eqs_api_Order OrB_eqg_api_Order (p:=x1) (q:=y1) rfl rfl)<|fn λ w_7 x_8=> ?_
   have:=x_8.size
   have z_7:=eT z_2 x_8
   refine nT<| ?_
   refine cb rfl (λ h_10=> ?_) (λ h_10=> ?_)
   ·refine sg<|va rfl<|nK<|rt<|tB<|tT<|tK<|tB<|tT<|tR (.tmp rfl .nil)<| ?_
    rw [decide_eq_false (λ e=>by rw [e,hy1] at hx1;injection hx1 with hx1;exact absurd hx1.symm (by first | exact ne_of_nb h_10 | exact h_10))]
    exact ⟨rfl,z_7⟩
   ·refine sk<|nB<|nT<|rg<|vL (bad rfl rfl (inI (by omega)))<|vm rfl<|nl<| ?_
    exact nI _ _ ⟨k+1,rfl,rfl,z_7,by omega,lt_succ_all hk2 (by rw [hx1,hy1,(by first | exact eq_of_nb h_10 | exact h_10:x1=y1)])⟩ (by omega) (.cons rfl (.cons rfl (.cons rfl (.cons (loI rfl (by first | omega | rfl | (simp<;>omega))) .nil))))
  ·refine xt<|xT<|xK<|xB<|nT<|sg<|va rfl<|nK<|rt<|tR (.tmp rfl .nil)<| ?_
   rw [decide_eq_true (eq_all (by omega) (by omega) hk2)]
   exact ⟨rfl,z_2⟩
end
section
open Go.RowKit
theorem hcS {w:World} {cs:List Value} {a:ByteArray} (h:repS.has w cs a):cs= [.string a]:=And.left (show cs= [.string a]∧a.size≤140737488351232 from h)
theorem raw0S:∀ (j:Nat) u,(Value.string .empty).cells[j]? =some u→repS.raw j u:=by
 intro j u hu
 have hu:(#[(Value.string .empty:Value)]:Array Value)[j]? =some u:=hu
 match j,hu with
 | 0,hu=>exact ⟨_,(Option.some.inj hu).symm,by decide⟩
 | j+1,hu=>cases hu
theorem info_str:(Tryz.prog.info? 9).map (λ i=>(i.zero,i.size,i.bytes))=some (some (.string .empty),1,16):=by kernel_rfl
end
end Go.Proofs.YtlikikpgmmkjbaaGreat
set_option linter.unusedVariables false
set_option linter.unusedSimpArgs false
namespace Go.Proofs.YtlikikpgmmkjbaaGreat.Tree
open Go.RowKit Go.Proofs.YtlikikpgmmkjbaaGreat Go.Proofs.YtlikikpgmmkjbaaGreat.Bv Go.Proofs.YtlikikpgmmkjbaaGreat.Mark

theorem rootf_any (A:Option Addr) (n c:Nat) (l:List ByteArray) (w:World) (h256:n≤256) (hnc:n≤c) (hc:c≤9223372036854775807) (hs:Short l) (hr:Rd w 1 A n (cellsS l)):
  Calls Tryz.prog 53 #[.slice A n c] w fun e w'=>e= .returned (.tuple #[.int .u64 (U (rootL (lists l))), .int .i64 0])∧∃ q,w'=w.drewN q:=by
 have hroot:=root_any n A n c l w (Nat.le_refl _) h256 hnc hc hs hr
 generalize rootL (lists l)=z at *
 go_enter Tryz.func53,Tryz.ntmps53
 go_wp2_with fail
 refine hroot.mono ?_
 rintro e w' ⟨rfl,q,rfl⟩
 go_wp2_with fail
 go_ret2
 exact ⟨rfl,q,rfl⟩
def growsF (k:Nat):Nat→List (List UInt8)→List B64
 | 0,_=> []
 | e+1,l=>if k.testBit e then rootL (l.take (2 ^ e))::growsF k e (l.drop (2 ^ e)) else growsF k e l
def cellsW (l:List B64):List Value:=l.map fun x=>Value.int .u64 (U x)
theorem cellsW_len (l:List B64):(cellsW l).length=l.length:=by unfold cellsW;simp
theorem cellsW_get (l:List B64) (i:Nat) (h:i<l.length):(cellsW l)[i]? =some (.int .u64 (U l[i])):=by unfold cellsW;simp [h]
theorem cellsW_snoc (l:List B64) (x:B64):cellsW (l++ [x])=cellsW l++ [.int .u64 (U x)]:=by unfold cellsW;simp
def GW (_:Nat) (u:Value):Prop:=∃ n:Int,u= .int .u64 n
theorem infoU64:(Tryz.prog.info? 41).map (fun i=>(i.zero,i.size,i.bytes))=some (some (.int .u64 0),1,8):=by kernel_rfl
def GrowsPost (k:Nat) (l:List ByteArray) (w:World) (e:Ending) (w':World):Prop :=
 ∃ A c,e= .returned (.tuple #[.slice A (growsF k 9 (lists l)).length c, .int .i64 0])∧Own w' w.heap.size 41 1 GW (.slice A (growsF k 9 (lists l)).length c) (growsF k 9 (lists l)).length (cellsW (growsF k 9 (lists l)))∧Below w.heap.size w w'
end Go.Proofs.YtlikikpgmmkjbaaGreat.Tree
namespace Go.Proofs.YtlikikpgmmkjbaaGreat
end Go.Proofs.YtlikikpgmmkjbaaGreat
set_option linter.unusedVariables false
set_option linter.unusedSimpArgs false
namespace Go.Proofs.YtlikikpgmmkjbaaGreat.Tree
open Go.RowKit Go.Proofs.YtlikikpgmmkjbaaGreat Go.Proofs.YtlikikpgmmkjbaaGreat.Bv Go.Proofs.YtlikikpgmmkjbaaGreat.Mark
def joinR:List B64→B64
 | []=>0#64
 | x::r=>match r with
  | []=>x
  | y::t=>pairF x (joinR (y::t))
def GrowsW (w:World) (e:Ending) (w':World):Prop:=∃ (A:Option Addr) (n c:Nat) (k:Int),e= .returned (.tuple #[.slice A n c, .int .i64 k])∧Below w.heap.size w w'
def GS (_:Nat) (u:Value):Prop:=∃ s:ByteArray,u= .string s
def CloneS (w:World) (n:Nat) (l:List ByteArray) (e:Ending) (w':World):Prop :=
 ∃ A c,e= .returned (.slice A n c)∧Own w' w.heap.size 9 1 GS (.slice A n c) n (cellsS l)∧Below w.heap.size w w'
end Go.Proofs.YtlikikpgmmkjbaaGreat.Tree
namespace Go.Proofs.YtlikikpgmmkjbaaGreat
end Go.Proofs.YtlikikpgmmkjbaaGreat
set_option linter.unusedVariables false
set_option linter.unusedSimpArgs false
namespace Go.Proofs.YtlikikpgmmkjbaaGreat.Tree
open Go.RowKit Go.Proofs.YtlikikpgmmkjbaaGreat Go.Proofs.YtlikikpgmmkjbaaGreat.Bv Go.Proofs.YtlikikpgmmkjbaaGreat.Mark
def climbF:Nat→B64→Nat→Nat→List B64→B64×Bool
 | 0,m,_,_,t=>(m,t.isEmpty)
 | f+1,m,at_,n,t =>
  if n=1 then (m,t.isEmpty) else
  match t.getLast? with
  | none=>(0#64,false)
  | some x=>if at_<splitN n then (pairF (climbF f m at_ (splitN n) t.dropLast).1 x,(climbF f m at_ (splitN n) t.dropLast).2)
   else (pairF x (climbF f m (at_ - splitN n) (n - splitN n) t.dropLast).1,(climbF f m (at_ - splitN n) (n - splitN n) t.dropLast).2)
theorem Rd.init {w:World} {A:Option Addr} {k:Nat} {t:List B64} (h:Rd w 1 A (k+1) (cellsW t)):Rd w 1 A k (cellsW t.dropLast):=by
 have hl:t.length=k+1:=by have:=h.1;rw [cellsW_len] at this;omega
 refine ⟨by rw [cellsW_len,List.length_dropLast];omega,fun h0=> ?_⟩
 obtain ⟨b,o,e,hc⟩:=h.2 (by omega)
 refine ⟨b,o,e,fun j u hu=>hc j u ?_⟩
 have hj:j<t.dropLast.length:=by have:=(List.getElem?_eq_some_iff.1 hu).1;rwa [cellsW_len] at this
 rw [cellsW_get _ j hj] at hu
 rw [cellsW_get t j (by rw [List.length_dropLast] at hj;omega),← hu,List.getElem_dropLast]
def ClimbPost (w:World) (r:B64×Bool) (e:Ending) (w':World):Prop:=e= .returned (.tuple #[.int .u64 (U r.1), .bool r.2])∧w=w'
theorem climb_any (f:Nat):∀ (m:B64) (at_ n:Nat) (A:Option Addr) (k c:Nat) (t:List B64) (w:World),n≤f→1≤n→n≤256→at_<n→k≤c→c≤9223372036854775807→Rd w 1 A k (cellsW t)→
  Calls Tryz.prog 82 #[.int .u64 (U m), .int .i64 (at_:Int), .int .i64 (n:Int), .slice A k c] w (ClimbPost w (climbF f m at_ n t)):=by
 induction f with
 | zero=>intro m at_ n A k c t w h1 h2;omega
 | succ f ih =>
  intro m at_ n A k c t w hf h1 h256 hat hkc hc hr
  have hl:t.length=k:=by have:=hr.1;rw [cellsW_len] at this;omega
  by_cases hn:n=1
  ·subst hn
   have he:climbF (f+1) m at_ 1 t=(m,t.isEmpty):=by rw [climbF,if_pos rfl]
   have hd:t.isEmpty=((k:Int)== 0):=by
    rw [← hl]
    cases t with
    | nil=>rfl
    | cons x r=>simp;omega
   rw [he,hd]
   clear ih hr he hd hl
   have hone:(((1:Nat):Int)== 1)=true:=rfl
   go_enter Tryz.func82,Tryz.ntmps82
   go_wp2_with fail
   go_ret2
   exact ⟨rfl,rfl⟩
  ·have hn1:((n:Int)== 1)=false:=by rw [beq_eq_false_iff_ne];omega
   cases k with
   | zero =>
    have ht:t= []:=List.eq_nil_of_length_eq_zero hl
    subst ht
    have he:climbF (f+1) m at_ n []=(0#64,false):=by rw [climbF,if_neg hn];rfl
    rw [he]
    clear ih hr he hl hn
    go_enter Tryz.func82,Tryz.ntmps82
    go_wp2_with fail
    go_ret2
    exact ⟨rfl,rfl⟩
   | succ k =>
    obtain ⟨b,o,rfl,hc'⟩:=hr.2 (by omega)
    have hsp:=split_lt (n:=n) (by omega)
    have hspl:=split_any n (by omega) h256
    have hlast:t.getLast? =some (t[k]'(by omega)):=by rw [List.getLast?_eq_getElem?,show t.length - 1=k from by omega,List.getElem?_eq_getElem (by omega)]
    have hx:=hc' k _ (cellsW_get t k (by omega))
    have hin:=Rd.init hr
    have he:climbF (f+1) m at_ n t=if at_<splitN n then (pairF (climbF f m at_ (splitN n) t.dropLast).1 (t[k]'(by omega)),(climbF f m at_ (splitN n) t.dropLast).2)
      else (pairF (t[k]'(by omega)) (climbF f m (at_ - splitN n) (n - splitN n) t.dropLast).1,(climbF f m (at_ - splitN n) (n - splitN n) t.dropLast).2):=by
     rw [climbF,if_neg hn,hlast]
    rw [he]
    generalize t[k]'(by omega)=x at *
    by_cases hlt:at_<splitN n
    ·rw [if_pos hlt]
     have hih:=ih m at_ (splitN n) (some ⟨b,o,none⟩) k c t.dropLast w (by omega) hsp.1 (by omega) hlt (by omega) hc hin
     obtain ⟨y,ok,hy⟩:∃ y ok,climbF f m at_ (splitN n) t.dropLast=(y,ok):=⟨_,_,rfl⟩
     rw [hy] at hih ⊢
     have hp:=pair_any y x
     simp only []
     generalize pairF y x=z at *
     have hsx:splitN n<n:=hsp.2.1
     clear he hlast hin hc' ih hr hy hl hsp hn
     generalize splitN n=s at *
     go_enter Tryz.func82,Tryz.ntmps82
     go_wp2_with fail
     refine (hspl _).mono ?_
     rintro e w' ⟨rfl,rfl⟩
     go_wp2_with fail
     refine hih.mono ?_
     rintro e w' ⟨rfl,rfl⟩
     go_wp2_with fail
     refine (hp _).mono ?_
     rintro e w' ⟨rfl,rfl⟩
     go_wp2_with fail
     go_ret2
     exact ⟨rfl,rfl⟩
    ·rw [if_neg hlt]
     have hih:=ih m (at_ - splitN n) (n - splitN n) (some ⟨b,o,none⟩) k c t.dropLast w (by omega) (by omega) (by omega) (by omega) (by omega) hc hin
     obtain ⟨y,ok,hy⟩:∃ y ok,climbF f m (at_ - splitN n) (n - splitN n) t.dropLast=(y,ok):=⟨_,_,rfl⟩
     rw [hy] at hih ⊢
     have hp:=pair_any x y
     simp only []
     generalize pairF x y=z at *
     have hsx:splitN n<n:=hsp.2.1
     have hc1:((at_ - splitN n:Nat):Int)=(at_:Int) - (splitN n:Int):=by omega
     have hc2:((n - splitN n:Nat):Int)=(n:Int) - (splitN n:Int):=by omega
     rw [hc1,hc2] at hih
     clear he hlast hin hc' ih hr hy hl hsp hn hc1 hc2
     generalize splitN n=s at *
     go_enter Tryz.func82,Tryz.ntmps82
     go_wp2_with fail
     refine (hspl _).mono ?_
     rintro e w' ⟨rfl,rfl⟩
     go_wp2_with fail
     refine hih.mono ?_
     rintro e w' ⟨rfl,rfl⟩
     go_wp2_with fail
     refine (hp _).mono ?_
     rintro e w' ⟨rfl,rfl⟩
     go_wp2_with fail
     go_ret2
     exact ⟨rfl,rfl⟩
def holdsB (root:B64) (s:List UInt8) (at_ n:Nat) (t:List B64):Bool:=(climbF n (leafF s) at_ n t).2 && decide ((climbF n (leafF s) at_ n t).1=root)
theorem holds_any (root:B64) (s:ByteArray) (hs:s.size≤9223372036854775807) (at_ n:Nat) (A:Option Addr) (k c:Nat) (t:List B64) (w:World) (h1:1≤n) (h256:n≤256) (hat:at_<n) (hkc:k≤c) (hc:c≤9223372036854775807) (hr:Rd w 1 A k (cellsW t)):
  Calls Tryz.prog 54 #[.int .u64 (U root), .string s, .int .i64 (at_:Int), .int .i64 (n:Int), .slice A k c] w fun e w'=>e= .returned (.tuple #[.bool (holdsB root s.data.toList at_ n t), .int .i64 0])∧∃ q,w'=w.drewN q:=by
 have hleaf:=leaf_any s hs
 have hcl:=fun q=>climb_any n (leafF s.data.toList) at_ n A k c t (w.drewN q) (Nat.le_refl _) h1 h256 hat hkc hc (hr.drewN q)
 unfold holdsB
 obtain ⟨y,ok,hy⟩:∃ y ok,climbF n (leafF s.data.toList) at_ n t=(y,ok):=⟨_,_,rfl⟩
 rw [hy] at hcl ⊢
 generalize leafF s.data.toList=lf at *
 have he:(U y == U root)=decide (y=root):=by
  by_cases h:y=root
  ·subst h;simp
  ·rw [decide_eq_false h,beq_eq_false_iff_ne];exact fun e=>h (U_inj e)
 clear hr hy
 simp only []
 rw [← he]
 have HE:=Lib.hid he
 clear he
 cases ok with
 | false =>
  rw [Bool.false_and]
  go_enter Tryz.func54,Tryz.ntmps54
  go_wp2_with fail
  refine (hleaf _).mono ?_
  rintro e w' ⟨rfl,q,rfl⟩
  go_wp2_with fail
  refine (hcl q).mono ?_
  rintro e w' ⟨rfl,rfl⟩
  go_wp2_with fail
  go_ret2
  exact ⟨rfl,q,rfl⟩
 | true =>
  rw [Bool.true_and]
  go_enter Tryz.func54,Tryz.ntmps54
  go_wp2_with fail
  refine (hleaf _).mono ?_
  rintro e w' ⟨rfl,q,rfl⟩
  go_wp2_with fail
  refine (hcl q).mono ?_
  rintro e w' ⟨rfl,rfl⟩
  go_wp2_with fail
  go_ret2
  exact ⟨rfl,q,rfl⟩
end Go.Proofs.YtlikikpgmmkjbaaGreat.Tree
namespace Go.Proofs.YtlikikpgmmkjbaaGreat
end Go.Proofs.YtlikikpgmmkjbaaGreat
set_option linter.unusedVariables false
set_option linter.unusedSimpArgs false
namespace Go.Proofs.YtlikikpgmmkjbaaGreat.Tree
open Go.RowKit Go.Proofs.YtlikikpgmmkjbaaGreat Go.Proofs.YtlikikpgmmkjbaaGreat.Bv Go.Proofs.YtlikikpgmmkjbaaGreat.Mark

def trailF:Nat→List (List UInt8)→Nat→List B64
 | 0,_,_=> []
 | f+1,l,at_=>if l.length=1 then [] else
  if at_<splitN l.length then trailF f (l.take (splitN l.length)) at_++ [rootL (l.drop (splitN l.length))]
  else trailF f (l.drop (splitN l.length)) (at_ - splitN l.length)++ [rootL (l.take (splitN l.length))]
def TrailPost (w:World) (t:List B64) (e:Ending) (w':World):Prop:=∃ A c,e= .returned (.slice A t.length c)∧Own w' w.heap.size 41 1 GW (.slice A t.length c) t.length (cellsW t)∧Below w.heap.size w w'
theorem trailF_len (f:Nat) (l:List (List UInt8)) (at_:Nat):(trailF f l at_).length≤f:=by
 induction f generalizing l at_ with
 | zero=>simp [trailF]
 | succ f ih =>
  rw [trailF]
  split
  ·simp
  ·split
   ·have:=ih (l.take (splitN l.length)) at_;simp;omega
   ·have:=ih (l.drop (splitN l.length)) (at_ - splitN l.length);simp;omega
theorem rd_new (w:World) (x:B64) (q:Nat):Rd ((w.alloc (.cells #[.int .u64 (U x)] 41)).drewN q) 1 (some ⟨w.heap.size,0,none⟩) 1 [.int .u64 (U x)] :=
 Rd.drewN ⟨rfl,fun _=>⟨w.heap.size,0,rfl,fun q u hq=>by
  match q,hq with
  | 0,hq=>simp at hq;subst hq;simp⟩⟩ q
theorem gw_zero:∀ j u,(Value.int .u64 0).cells[j]? =some u→GW j u:=fun j u hu=>by match j,hu with | 0,hu=>exact ⟨0,(Option.some.inj hu).symm⟩
theorem one_cell {x:B64}:∀ u∈ [Value.int .u64 (U x)],u.oneCell'=true:=by intro u hu;simp at hu;subst hu;rfl
theorem gw_one {x:B64}:∀ j u, [Value.int .u64 (U x)][j]? =some u→GW (j % 1) u:=fun q u hq=>by match q,hq with | 0,hq=>exact ⟨_,(Option.some.inj hq).symm⟩
theorem trail_below {w wT w5:World} {x:B64} {q n:Nat} {vA:Value} {xs:List Value} (hbT:Below w.drew.heap.size w.drew wT)
  (ho:Own ((wT.alloc (.cells #[.int .u64 (U x)] 41)).drewN q) w.heap.size 41 1 GW vA n xs) (hg:((wT.alloc (.cells #[.int .u64 (U x)] 41)).drewN q).grownBy w5 vA.ownBlock):Below w.heap.size w w5:=by
 have h1:Below w.heap.size w wT:=((Below.refl w.heap.size w).drew).trans hbT
 have h2:=below_drewN (h1.alloc h1.size (.cells #[.int .u64 (U x)] 41)) q
 exact h2.grown hg h2.size (fun k hk=>(ho.row.lt k hk).1)
theorem trail_any (f:Nat):∀ (A:Option Addr) (n c at_:Nat) (l:List ByteArray) (w:World),n≤f→f≤256→1≤n→at_<n→n≤c→c≤9223372036854775807→Short l→Rd w 1 A n (cellsS l)→
  Calls Tryz.prog 80 #[.slice A n c, .int .i64 (at_:Int)] w (TrailPost w (trailF f (lists l) at_)):=by
 induction f with
 | zero=>intro A n c at_ l w h1 h2 h3;omega
 | succ f ih =>
  intro A n c at_ l w hf h256 h1 hat hnc hc hs hr
  have hl:l.length=n:=by have:=hr.1;rw [cellsS_len] at this;omega
  have hll:(lists l).length=n:=by rw [lists_len];exact hl
  by_cases hn:n=1
  ·subst hn
   have he:trailF (f+1) (lists l) at_= []:=by rw [trailF,if_pos hll]
   rw [he]
   have hone:(((1:Nat):Int)== 1)=true:=rfl
   clear ih hr he hl hll
   go_enter Tryz.func80,Tryz.ntmps80
   go_wp2_with fail
   go_ret
   exact ⟨none,0,rfl,Own.nil _ _ _ _ _,Below.refl _ _⟩
  ·have hn1:((n:Int)== 1)=false:=by rw [beq_eq_false_iff_ne];omega
   obtain ⟨b,o,rfl,_⟩:=hr.2 (by omega)
   obtain ⟨i0,hi,hz0,hz1,hz2⟩:=info_parts infoU64
   have hsp:=split_lt (n:=n) (by omega)
   have hspl:=split_any n (by omega) (by omega)
   have hcut:=Rd.cut hr (splitN n) (by omega)
   have ht:lists (l.take (splitN n))=(lists l).take (splitN n):=by unfold lists;rw [List.map_take]
   have hd:lists (l.drop (splitN n))=(lists l).drop (splitN n):=by unfold lists;rw [List.map_drop]
   have hs1:Short (l.take (splitN n)):=fun s h=>hs s (List.mem_of_mem_take h)
   have hs2:Short (l.drop (splitN n)):=fun s h=>hs s (List.mem_of_mem_drop h)
   have he:trailF (f+1) (lists l) at_=if at_<splitN n then trailF f (lists (l.take (splitN n))) at_++ [rootL (lists (l.drop (splitN n)))] else trailF f (lists (l.drop (splitN n))) (at_ - splitN n)++ [rootL (lists (l.take (splitN n)))]:=by
    rw [trailF,if_neg (by rw [hll];exact hn),hll,ht,hd]
   rw [he]
   by_cases hlt:at_<splitN n
   ·rw [if_pos hlt]
    have hT:=fun B64 (hW:Rd B64 1 (some ⟨b,o,none⟩) (splitN n) (cellsS (l.take (splitN n))))=>ih (some ⟨b,o,none⟩) (splitN n) c at_ (l.take (splitN n)) B64 (by omega) (by omega) hsp.1 hlt (by omega) hc hs1 hW
    have hR:=fun B64 (hW:Rd B64 1 (some ⟨b,o+splitN n,none⟩) (n - splitN n) (cellsS (l.drop (splitN n))))=>root_any (n - splitN n) (some ⟨b,o+splitN n,none⟩) (n - splitN n) (c - splitN n) (l.drop (splitN n)) B64 (Nat.le_refl _) (by omega) (by omega) (by omega) hs2 hW
    have hlen:=trailF_len f (lists (l.take (splitN n))) at_
    generalize trailF f (lists (l.take (splitN n))) at_=tr at *
    generalize rootL (lists (l.drop (splitN n)))=rt at *
    unfold TrailPost at hT
    obtain ⟨C1,C2⟩:=hcut
    clear ht hd he ih hr hl hll hn hs1 hs2
    generalize l.take (splitN n)=la at *
    generalize l.drop (splitN n)=lb at *
    have hsx:splitN n<n:=hsp.2.1
    generalize splitN n=s at *
    have hsc:s≤c:=by omega
    have hsn:s≤n:=by omega
    have hcs:¬ c=s:=by omega
    go_enter Tryz.func80,Tryz.ntmps80
    go_wp2_with fail
    refine (hspl _).mono ?_
    rintro e w' ⟨rfl,rfl⟩
    clear hspl
    go_wp2_with fail
    go_region_law (first
     | (refine step_call rfl 80 _ Tryz.func80 (by kernel_rfl) (by kernel_rfl) _ _ rfl #[.slice (some ⟨b,o,none⟩) s c, .int .i64 (at_:Int)] (by simp [Act.eval,Act.put]) ?_;refine (hT w.drew (C1.later (Below.refl w.heap.size w).drew)).mono ?_;rintro e wT ⟨vA,vc,rfl,hownT,hbT⟩;refine ⟨_,rfl, ?_⟩)
     | (refine step_call rfl 81 _ Tryz.func81 (by kernel_rfl) (by kernel_rfl) _ _ rfl #[.slice (some ⟨b,o+s,none⟩) (n - s) (c - s)] (by simp [Act.eval]) ?_;refine (hR wT (C2.later ((Below.refl w.heap.size w).drew.trans hbT))).mono ?_;rintro e wR ⟨rfl,qR,rfl⟩;have HOW:=Lib.hid (show Own ((wT.alloc (.cells #[.int .u64 (U rt)] 41)).drewN qR) w.heap.size 41 1 GW (.slice vA tr.length vc) tr.length (cellsW tr) from ((hownT.later ((Below.refl wT.heap.size wT).alloc (Nat.le_refl _) _)).drewN qR));have HRD:=Lib.hid (show Rd ((wT.alloc (.cells #[.int .u64 (U rt)] 41)).drewN qR) 1 (some ⟨wT.heap.size,0,none⟩) 1 [.int .u64 (U rt)] from rd_new wT rt qR);refine ⟨_,rfl, ?_⟩)
     | (refine step_append_all _ rfl _ _ _ rfl w.heap.size 41 i0 (.int .u64 0) 1 8 Tryz.underlying38 hi hz0 hz1 hz2 rfl (by decide) GW gw_zero _ tr.length (cellsW tr) rfl HOW.out (some ⟨wT.heap.size,0,none⟩) 1 1 [.int .u64 (U rt)] rfl HRD.out one_cell gw_one (by unfold maxLen;omega) (by omega) (by have:=hbT.size;simp at this ⊢;omega) ?_;intro v5 w5 hown5 hgrow5 _ hat5))
    have hb5:=trail_below hbT HOW.out hgrow5
    have hown5:Own w5 w.heap.size 41 1 GW v5 (tr++ [rt]).length (cellsW (tr++ [rt])):=by rw [List.length_append,cellsW_snoc];exact hown5
    clear hgrow5 hat5 hownT HOW HRD
    have HO5:=Lib.hid hown5
    obtain ⟨A5,c5,rfl,_⟩:=hown5.shape
    clear hown5
    go_wp2_with fail
    go_ret
    exact ⟨A5,c5,rfl,HO5.out,hb5⟩
   ·rw [if_neg hlt]
    have hT:=fun B64 (hW:Rd B64 1 (some ⟨b,o+splitN n,none⟩) (n - splitN n) (cellsS (l.drop (splitN n))))=>ih (some ⟨b,o+splitN n,none⟩) (n - splitN n) (c - splitN n) (at_ - splitN n) (l.drop (splitN n)) B64 (by omega) (by omega) (by omega) (by omega) (by omega) (by omega) hs2 hW
    have hR:=fun B64 (hW:Rd B64 1 (some ⟨b,o,none⟩) (splitN n) (cellsS (l.take (splitN n))))=>root_any (splitN n) (some ⟨b,o,none⟩) (splitN n) c (l.take (splitN n)) B64 (Nat.le_refl _) (by omega) (by omega) hc hs1 hW
    have hlen:=trailF_len f (lists (l.drop (splitN n))) (at_ - splitN n)
    generalize trailF f (lists (l.drop (splitN n))) (at_ - splitN n)=tr at *
    generalize rootL (lists (l.take (splitN n)))=rt at *
    unfold TrailPost at hT
    have hsub:((at_ - splitN n:Nat):Int)=(at_:Int) - (splitN n:Int):=by omega
    rw [hsub] at hT
    have hwrap:IntKind.i64.wrap ((at_:Int) - (splitN n:Int))=(at_:Int) - (splitN n:Int):=IntWalk.i64_in _ (by omega)
    obtain ⟨C2,C1⟩:=hcut
    clear hsub
    clear ht hd he ih hr hl hll hn hs1 hs2
    generalize l.take (splitN n)=la at *
    generalize l.drop (splitN n)=lb at *
    have hsx:splitN n<n:=hsp.2.1
    generalize splitN n=s at *
    have hsc:s≤c:=by omega
    have hsn:s≤n:=by omega
    have hcs:¬ c=s:=by omega
    go_enter Tryz.func80,Tryz.ntmps80
    go_wp2_with fail
    refine (hspl _).mono ?_
    rintro e w' ⟨rfl,rfl⟩
    clear hspl
    go_wp2_with fail
    go_region_law (first
     | (refine step_call rfl 80 _ Tryz.func80 (by kernel_rfl) (by kernel_rfl) _ _ rfl #[.slice (some ⟨b,o+s,none⟩) (n - s) (c - s), .int .i64 ((at_:Int) - (s:Int))] (by simp [Act.eval,Act.put]) ?_;refine (hT w.drew (C1.later (Below.refl w.heap.size w).drew)).mono ?_;rintro e wT ⟨vA,vc,rfl,hownT,hbT⟩;refine ⟨_,rfl, ?_⟩)
     | (refine step_call rfl 81 _ Tryz.func81 (by kernel_rfl) (by kernel_rfl) _ _ rfl #[.slice (some ⟨b,o,none⟩) s c] (by simp [Act.eval]) ?_;refine (hR wT (C2.later ((Below.refl w.heap.size w).drew.trans hbT))).mono ?_;rintro e wR ⟨rfl,qR,rfl⟩;have HOW:=Lib.hid (show Own ((wT.alloc (.cells #[.int .u64 (U rt)] 41)).drewN qR) w.heap.size 41 1 GW (.slice vA tr.length vc) tr.length (cellsW tr) from ((hownT.later ((Below.refl wT.heap.size wT).alloc (Nat.le_refl _) _)).drewN qR));have HRD:=Lib.hid (show Rd ((wT.alloc (.cells #[.int .u64 (U rt)] 41)).drewN qR) 1 (some ⟨wT.heap.size,0,none⟩) 1 [.int .u64 (U rt)] from rd_new wT rt qR);refine ⟨_,rfl, ?_⟩)
     | (refine step_append_all _ rfl _ _ _ rfl w.heap.size 41 i0 (.int .u64 0) 1 8 Tryz.underlying38 hi hz0 hz1 hz2 rfl (by decide) GW gw_zero _ tr.length (cellsW tr) rfl HOW.out (some ⟨wT.heap.size,0,none⟩) 1 1 [.int .u64 (U rt)] rfl HRD.out one_cell gw_one (by unfold maxLen;omega) (by omega) (by have:=hbT.size;simp at this ⊢;omega) ?_;intro v5 w5 hown5 hgrow5 _ hat5))
    have hb5:=trail_below hbT HOW.out hgrow5
    have hown5:Own w5 w.heap.size 41 1 GW v5 (tr++ [rt]).length (cellsW (tr++ [rt])):=by rw [List.length_append,cellsW_snoc];exact hown5
    clear hgrow5 hat5 hownT HOW HRD
    have HO5:=Lib.hid hown5
    obtain ⟨A5,c5,rfl,_⟩:=hown5.shape
    clear hown5
    go_wp2_with fail
    go_ret
    exact ⟨A5,c5,rfl,HO5.out,hb5⟩
end Go.Proofs.YtlikikpgmmkjbaaGreat.Tree
namespace Go.Proofs.YtlikikpgmmkjbaaGreat
end Go.Proofs.YtlikikpgmmkjbaaGreat
set_option linter.unusedVariables false
set_option linter.unusedSimpArgs false
namespace Go.Proofs.YtlikikpgmmkjbaaGreat.Tree
open Go.Proofs.YtlikikpgmmkjbaaGreat.Bv Go.Proofs.YtlikikpgmmkjbaaGreat.Mark

def depthF:Nat→Nat→Nat→Nat
 | 0,_,_=>0
 | f+1,at_,n=>if n=1 then 0 else if at_<splitN n then depthF f at_ (splitN n)+1 else depthF f (at_ - splitN n) (n - splitN n)+1
def sidesF:Nat→Nat→Nat→List Bool
 | 0,_,_=> []
 | f+1,at_,n=>if n=1 then [] else if at_<splitN n then sidesF f at_ (splitN n)++ [false] else sidesF f (at_ - splitN n) (n - splitN n)++ [true]
def stepP (m:B64) (x:Bool×B64):B64:=if x.1 then pairF x.2 m else pairF m x.2
theorem trail_len (f:Nat):∀ (l:List (List UInt8)) at_,l.length≤f→1≤l.length→at_<l.length→(trailF f l at_).length=depthF f at_ l.length:=by
 induction f with
 | zero=>intro l at_ h1 h2;omega
 | succ f ih =>
  intro l at_ hf h1 hat
  rw [trailF,depthF]
  by_cases hn:l.length=1
  ·rw [if_pos hn,if_pos hn];rfl
  ·rw [if_neg hn,if_neg hn]
   have hs:=split_lt (n:=l.length) (by omega)
   by_cases hlt:at_<splitN l.length
   ·rw [if_pos hlt,if_pos hlt,List.length_append,ih _ _ (by rw [List.length_take];omega) (by rw [List.length_take];omega) (by rw [List.length_take];omega),List.length_take,Nat.min_eq_left (by omega)]
    rfl
   ·rw [if_neg hlt,if_neg hlt,List.length_append,ih _ _ (by rw [List.length_drop];omega) (by rw [List.length_drop];omega) (by rw [List.length_drop];omega),List.length_drop]
    rfl
theorem climb_ok (f:Nat):∀ m at_ n (t:List B64),n≤f→1≤n→at_<n→(climbF f m at_ n t).2=decide (t.length=depthF f at_ n):=by
 induction f with
 | zero=>intro m at_ n t h1 h2;omega
 | succ f ih =>
  intro m at_ n t hf h1 hat
  rw [climbF,depthF]
  by_cases hn:n=1
  ·rw [if_pos hn,if_pos hn]
   cases t<;>simp
  ·rw [if_neg hn,if_neg hn]
   have hs:=split_lt (n:=n) (by omega)
   rcases List.eq_nil_or_concat t with rfl | ⟨t',x,rfl⟩
   ·simp;split<;>omega
   ·simp only [List.concat_eq_append,List.getLast?_append,List.getLast?_singleton,Option.some_or,List.dropLast_concat,List.length_append,List.length_singleton]
    split
    ·rw [ih _ _ _ _ (by omega) hs.1 (by assumption)];simp
    ·rw [ih _ _ _ _ (by omega) (by omega) (by omega)];simp
theorem climb_trail (f:Nat):∀ (l:List (List UInt8)) at_,l.length≤f→1≤l.length→at_<l.length→(climbF f (leafF (l.getD at_ [])) at_ l.length (trailF f l at_)).1=rootL l:=by
 induction f with
 | zero=>intro l at_ h1 h2;omega
 | succ f ih =>
  intro l at_ hf h1 hat
  rw [climbF,trailF]
  by_cases hn:l.length=1
  ·rw [if_pos hn]
   match l,hn with
   | [s],_ =>
    obtain rfl:at_=0:=by simpa using hat
    rfl
  ·rw [if_neg hn,if_neg hn]
   have hs:=split_lt (n:=l.length) (by omega)
   rw [root_two l (by omega)]
   by_cases hlt:at_<splitN l.length
   ·simp only [if_pos hlt,List.getLast?_append,List.getLast?_singleton,Option.some_or,List.dropLast_concat]
    have h:=ih (l.take (splitN l.length)) at_ (by rw [List.length_take];omega) (by rw [List.length_take];omega) (by rw [List.length_take];omega)
    have e1:(l.take (splitN l.length)).getD at_ []=l.getD at_ []:=by
     rw [List.getD_eq_getElem?_getD,List.getD_eq_getElem?_getD,List.getElem?_take,if_pos hlt]
    rw [e1,List.length_take,Nat.min_eq_left (by omega)] at h
    rw [h]
   ·simp only [if_neg hlt,List.getLast?_append,List.getLast?_singleton,Option.some_or,List.dropLast_concat]
    have h:=ih (l.drop (splitN l.length)) (at_ - splitN l.length) (by rw [List.length_drop];omega) (by rw [List.length_drop];omega) (by rw [List.length_drop];omega)
    have e1:(l.drop (splitN l.length)).getD (at_ - splitN l.length) []=l.getD at_ []:=by
     rw [List.getD_eq_getElem?_getD,List.getD_eq_getElem?_getD,List.getElem?_drop,show splitN l.length+(at_ - splitN l.length)=at_ from by omega]
    rw [e1,List.length_drop] at h
    rw [h]
theorem holds_trail (l:List (List UInt8)) (at_:Nat) (hat:at_<l.length):holdsB (rootL l) (l.getD at_ []) at_ l.length (trailF l.length l at_)=true:=by
 unfold holdsB
 rw [climb_ok _ _ _ _ _ (Nat.le_refl _) (by omega) hat,climb_trail _ _ _ (Nat.le_refl _) (by omega) hat,trail_len _ _ _ (Nat.le_refl _) (by omega) hat]
 simp
def along (sd:List Bool) (t:List B64) (m:B64) (k:Nat):B64:=((sd.zip t).take k).foldl stepP m
end Go.Proofs.YtlikikpgmmkjbaaGreat.Tree
namespace Go.Proofs.YtlikikpgmmkjbaaGreat
end Go.Proofs.YtlikikpgmmkjbaaGreat
set_option linter.unusedVariables false
set_option linter.unusedSimpArgs false
namespace Go.Proofs.YtlikikpgmmkjbaaGreat.Tree
open Go.RowKit Go.Proofs.YtlikikpgmmkjbaaGreat Go.Proofs.YtlikikpgmmkjbaaGreat.Bv Go.Proofs.YtlikikpgmmkjbaaGreat.Mark

theorem trailf_none (A:Option Addr) (n c:Nat) (k:Int) (w:World) (h256:n≤256) (hk:k<0∨(n:Int)≤k):
  Calls Tryz.prog 52 #[.slice A n c, .int .i64 k] w fun e w'=>e= .returned (.tuple #[.slice none 0 0, .int .i64 7])∧w=w':=by
 rcases hk with h | h
 ·go_enter Tryz.func52,Tryz.ntmps52
  go_wp2_with fail
  go_ret2
  exact ⟨rfl,rfl⟩
 ·have h0:¬ k<0:=by omega
  go_enter Tryz.func52,Tryz.ntmps52
  go_wp2_with fail
  go_ret2
  exact ⟨rfl,rfl⟩
def TrailfPost (w:World) (t:List B64) (e:Ending) (w':World):Prop:=∃ A c,e= .returned (.tuple #[.slice A t.length c, .int .i64 0])∧Own w' w.heap.size 41 1 GW (.slice A t.length c) t.length (cellsW t)∧Below w.heap.size w w'
theorem trailf_any (A:Option Addr) (n c at_:Nat) (l:List ByteArray) (w:World) (h256:n≤256) (hat:at_<n) (hnc:n≤c) (hc:c≤9223372036854775807) (hs:Short l) (hr:Rd w 1 A n (cellsS l)):
  Calls Tryz.prog 52 #[.slice A n c, .int .i64 (at_:Int)] w (TrailfPost w (trailF n (lists l) at_)):=by
 have ht:=trail_any n A n c at_ l w (Nat.le_refl _) h256 (by omega) hat hnc hc hs hr
 generalize trailF n (lists l) at_=t at *
 unfold TrailPost at ht
 have h2:¬ (256:Int)<(n:Int):=by omega
 have h3:¬ (n:Int)≤(at_:Int):=by omega
 clear hr
 go_enter Tryz.func52,Tryz.ntmps52
 go_wp2_with fail
 refine ht.mono ?_
 rintro e w' ⟨A',c',rfl,ho,hb⟩
 have HO:=Lib.hid ho
 clear ho
 go_wp2_with fail
 go_ret2
 exact ⟨A',c',rfl,HO.out,hb⟩
def CloneW (w:World) (n:Nat) (l:List B64) (e:Ending) (w':World):Prop :=
 ∃ A c,e= .returned (.slice A n c)∧Own w' w.heap.size 41 1 GW (.slice A n c) n (cellsW l)∧Below w.heap.size w w'
end Go.Proofs.YtlikikpgmmkjbaaGreat.Tree
namespace Go.Proofs.YtlikikpgmmkjbaaGreat
section
open Go.RowKit
theorem Stt_el_S_string:ElT Tryz.prog repS 72 9 16:=ElT.mk_ (z:= .string .empty) (k:=1) Tryz.underlying72 info_str rfl rfl (by decide) (λ j u h=>raw0S j u h)
open Go.Proofs.YtlikikpgmmkjbaaGreat.Bv
theorem repU_plain_:repU.Plain:=Rep.flat_plain
theorem Ext.drewN_ (w:World) (q:Nat):Ext w (w.drewN q):=below_drewN (Below.refl _ w) q
theorem rdS {w:World} {A:Option Addr} {c:Nat} {l:List ByteArray} (h:repS.SHas 16 w A c l):Rd w 1 A l.length (Tree.cellsS l):=
 ⟨by rw [Tree.cellsS_len,Nat.mul_one],λ h0=>by
  obtain ⟨b,o,e,hc⟩:=repS_at h h0
  refine ⟨b,o,e,λ j u hu=> ?_⟩
  have hj:j<l.length:=by have:=(List.getElem?_eq_some_iff.1 hu).1;rwa [Tree.cellsS_len] at this
  rw [Tree.cellsS_get l j hj] at hu
  obtain rfl:=Option.some.inj hu
  exact hc j _ (List.getElem?_eq_getElem hj)⟩
theorem shortS {w:World} {A:Option Addr} {c:Nat} {l:List ByteArray} (h:repS.SHas 16 w A c l):Tree.Short l:=λ s hs =>
 Nat.le_trans (Rep.SHas.all_ (R:=repS) (Q:=λ s:ByteArray=>s.size≤140737488351232) (fun {w cs a} (h:repS.has w cs a)=>(show cs= [.string a]∧a.size≤140737488351232 from h).2) h s hs) (by decide)
theorem rdU {w:World} {A:Option Addr} {c:Nat} {l:List (BitVec 64)} (h:repU.SHas 8 w A c l):Rd w 1 A l.length (Tree.cellsW l):=
 ⟨by rw [Tree.cellsW_len,Nat.mul_one],λ h0=>by
  obtain ⟨b,o,e,hc⟩:=h.at_ h0
  refine ⟨b,o,e,λ j u hu=> ?_⟩
  have hj:j<l.length:=by have:=(List.getElem?_eq_some_iff.1 hu).1;rwa [Tree.cellsW_len] at this
  rw [Tree.cellsW_get l j hj] at hu
  obtain rfl:=Option.some.inj hu
  obtain ⟨es,he,hx⟩:=hc j _ (List.getElem?_eq_getElem hj)
  obtain rfl:=hcU he
  have:=hx 0 _ rfl
  simpa [repU,Rep.flat] using this⟩
theorem all_u {w:World}:∀ t:List (BitVec 64),All2 (λ es a=>repU.has w es a) (t.map λ a=> [Value.int .u64 (U a)]) t
 | []=>trivial
 | a::t=>⟨⟨rfl,trivial⟩,all_u t⟩
theorem flat_u:∀ t:List (BitVec 64),(t.map λ a=> [Value.int .u64 (U a)]).flatten=Tree.cellsW t
 | []=>rfl
 | a::t=>by rw [List.map_cons,List.flatten_cons,flat_u t];rfl
theorem ownU {w:World} {B:Nat} {A:Option Addr} {c:Nat} {t:List (BitVec 64)} (hl:t.length≤256) (h:Own w B 41 1 Tree.GW (.slice A t.length c) t.length (Tree.cellsW t)):repU.SOwn 41 8 w B (Rep.blkOf A) A c t :=
 Rep.SOwn.of_plain (ess:=t.map λ a=> [Value.int .u64 (U a)]) repU_plain_ (all_u t) (by omega) (by rw [flat_u];exact h)
theorem troot_any (A:Option Addr) (c:Nat) (l:List ByteArray) (w:World) (h:repS.SHas 16 w A c l) (h256:l.length≤256):
  Calls Tryz.prog 53 #[.slice A l.length c] w (λ e w'=>e= .returned (.tuple #[.int .u64 (U (Tree.rootL (Tree.lists l))), .int .i64 0])∧Ext w w'):=by
 refine (Tree.rootf_any A l.length c l w h256 h.1 h.2.1 (shortS h) (rdS h)).mono ?_
 rintro e w' ⟨rfl,q,rfl⟩
 exact ⟨rfl,Ext.drewN_ w q⟩
def TrR (l:List ByteArray) (n k:Int) (t:List (BitVec 64)):Prop:=(k=0∧0≤n∧n<(l.length:Int)∧t=Tree.trailF l.length (Tree.lists l) n.toNat)∨(k≠0∧¬(0≤n∧n<(l.length:Int))∧t= [])
theorem TrR.no {l:List ByteArray} {n k:Int} {t:List (BitVec 64)} (h:TrR l n k t) (h0:k≠0):¬(0≤n∧n<(l.length:Int)):=by
 rcases h with h | h
 ·exact absurd h.1 h0
 ·exact h.2.1
theorem TrR.yes {l:List ByteArray} {n k:Int} {t:List (BitVec 64)} (h:TrR l n k t) (h0:k=0):0≤n∧n<(l.length:Int)∧t=Tree.trailF l.length (Tree.lists l) n.toNat:=by
 rcases h with h | h
 ·exact h.2
 ·exact absurd h0 h.1
theorem ttrail_any (A:Option Addr) (c:Nat) (l:List ByteArray) (n:Int) (w:World) (h:repS.SHas 16 w A c l) (h256:l.length≤256):
  Calls Tryz.prog 52 #[.slice A l.length c, .int .i64 n] w (λ e w'=>∃ A' c' t k,TrR l n k t∧e= .returned (.tuple #[.slice A' t.length c', .int .i64 k])∧repU.SOwn 41 8 w' w.heap.size (Rep.blkOf A') A' c' t∧Ext w w'):=by
 by_cases hr:0≤n∧n<(l.length:Int)
 ·obtain ⟨m,rfl⟩:=Int.eq_ofNat_of_zero_le hr.1
  refine (Tree.trailf_any A l.length c m l w h256 (by omega) h.1 h.2.1 (shortS h) (rdS h)).mono ?_
  rintro e w' ⟨A',c',rfl,ho,hb⟩
  refine ⟨A',c',_,0, .inl ⟨rfl,hr.1,hr.2,rfl⟩,rfl,ownU ?_ ho,hb⟩
  exact Nat.le_trans (Tree.trailF_len _ _ _) h256
 ·refine (Tree.trailf_none A l.length c n w h256 (by omega)).mono ?_
  rintro e w' ⟨rfl,rfl⟩
  exact ⟨none,0, [],7, .inr ⟨by decide,hr,rfl⟩,rfl,Rep.SOwn.nil _,Ext.rf _⟩
theorem tholds_any (r_:BitVec 64) (s_:ByteArray) (hs_:s_.size≤140737488351232) (at_ n_:Int) (A:Option Addr) (c:Nat) (t:List (BitVec 64)) (w:World) (h:repU.SHas 8 w A c t) (h1_:1≤n_) (h2_:n_≤256) (h3_:0≤at_) (h4_:at_<n_):
  Calls Tryz.prog 54 #[.int .u64 (U r_), .string s_, .int .i64 at_, .int .i64 n_, .slice A t.length c] w (λ e w'=>e= .returned (.tuple #[.bool (Tree.holdsB r_ s_.data.toList at_.toNat n_.toNat t), .int .i64 0])∧Ext w w'):=by
 obtain ⟨m,rfl⟩:=Int.eq_ofNat_of_zero_le h3_
 obtain ⟨n,rfl⟩:=Int.eq_ofNat_of_zero_le (Int.le_trans (by decide) h1_)
 refine (Tree.holds_any r_ s_ (Nat.le_trans hs_ (by decide)) m n A t.length c t w (by omega) (by omega) (by omega) h.1 h.2.1 (rdU h)).mono ?_
 rintro e w' ⟨rfl,q,rfl⟩
 exact ⟨rfl,Ext.drewN_ w q⟩
def RootR (W:Wd) (L:List (List Odr)) (n e:Int) (r:BitVec 64):Prop :=
 (e=0∧StOk W L∧0≤n∧n≤(L.length:Int)∧r=Tree.rootL (Tree.lists ((L.take n.toNat).map wrT)))∨(e≠0∧¬(StOk W L∧0≤n∧n≤(L.length:Int))∧r=0)
def ShowR (W:Wd) (L:List (List Odr)) (n e:Int) (s:ByteArray) (t:List (BitVec 64)):Prop :=
 (e=0∧StOk W L∧0≤n∧n<(L.length:Int)∧s=(L.map wrT).getD n.toNat ByteArray.empty∧t=Tree.trailF (L.map wrT).length (Tree.lists (L.map wrT)) n.toNat)∨(e≠0∧¬(StOk W L∧0≤n∧n<(L.length:Int))∧s=bytesS []∧t= [])
def ShownR (r:BitVec 64) (n at_:Int) (s:ByteArray) (t:List (BitVec 64)) (m:List Odr) (k:Int) (b:Bool):Prop :=
 (Tree.holdsB r s.data.toList at_.toNat n.toNat t=true∧ReadIs s m k∧b=(k == 0))∨(Tree.holdsB r s.data.toList at_.toNat n.toNat t=false∧m= []∧b=false∧k=0)
theorem texts_any (A:Option Addr) (c:Nat) (T:List SV) (L:List (List Odr)) (w:World) (hT:svRep.SHas 24 w A c T) (hL:Tells w T L):
  Calls Tryz.prog 51 #[.slice A T.length c] w (λ e w'=>∃ A' c',e= .returned (.slice A' (L.map wrT).length c')∧repS.SOwn 9 16 w' w.heap.size (Rep.blkOf A') A' c' (L.map wrT)∧Ext w w'):=by
 have hlT:=hT.len_le
 have hlB:=hT.2.2.1
 refine calls_W (n:=25) Tryz.func51 rfl rfl rfl ?_
 refine sg<|va rfl<|nK<|sg<|va rfl<|nK<|sq<|sg<|vm rfl<|vL (ln Tryz.underlying29 rfl)<|vm rfl<|nK<|bk<| ?_
 refine lp (λ mI EI wI=>∃ k:Nat,∃ Ms:List ByteArray,∃ AL:Option Addr,∃ cL:Nat,EI= [(2, .slice none 0 0),(3, .slice AL Ms.length cL),(8, .slice A T.length c),(9, .int .i64 (T.length:Int)),(10, .int .i64 (k:Int))]∧mI=T.length - k∧Ext w wI∧repS.SOwn 9 16 wI w.heap.size (Rep.blkOf AL) AL cL Ms∧(k≤T.length)∧(Ms=(L.take k).map wrT)) _ _ ⟨0, [],none,0,rfl,rfl,(Ext.rf w),(Rep.SOwn.nil _),by omega,rfl⟩ (.cons rfl (.cons rfl (.cons rfl (.cons rfl (.cons (loI rfl (by first | omega | rfl | (simp<;>omega))) .nil))))) ?_
 rintro m_2 E_3 w_1 ⟨k,Ms,AL,cL,rfl,rfl,z_1,OLx,hk,hMs⟩
 have:=z_1.size
 have u_5:=λ q hq=>(OLx.lt q hq).2
 have hMl:Ms.length≤k:=by rw [hMs,List.length_map,List.length_take];omega
 have gA1:∀ q∈Rep.blkOf AL,w.heap.size≤q:=λ q hq=>(OLx.lt q hq).1
 refine sg<|vL (blt rfl rfl)<|nK<|sq<| ?_
 refine clt rfl (λ h_6=> ?_) (λ h_6=> ?_)
 ·obtain ⟨Ax,cx,lx,hTx,hLx,hx⟩:=hL.at_ (k:=k) (by omega)
  refine sK<|sq<|bk<|sg<|vL (iA k Tryz.underlying29 eF174 rfl rfl ((hT.keep z_1).adr (zl k (by omega))) rfl (by omega))<|vL (v:= .slice Ax lx.length cx) (ld rfl (Rep.SHas.one' hcV ((hT.keep z_1).adh (zl k (by omega))) hTx rfl eF175))<|va rfl<|nK<|sg<|vm rfl<|ca eF190 rfl rfl ((owrite_any _ _ lx _ (hx.keep z_1)).mono ?_)
  rintro e w_7 ⟨rfl,x_8⟩
  refine ⟨_,rfl, ?_⟩
  have:=x_8.size
  have z_7:=eT z_1 x_8
  refine vm rfl<|vL (ex rfl rfl)<|vL (ex rfl rfl)<|va rfl<|va rfl<|nK<|rg<|vm rfl<|vm rfl<|bs (e:= 9) (cs:= [.string (wrT lx)]) rfl (λ _=>by kernel_rfl) rfl λ w_10 b_11 x_12 l_13 B_14=> ?_
  have:=x_12.size
  have z_10:=eT z_7 x_12
  have q_16:=B_14.lt
  have OLx:=OLx.later (eT x_8 x_12)
  refine ap Stt_el_S_string repS_bare OLx (Blk.has1 (R:=repS) (by_:=16) (q:=wrT lx) B_14 ⟨rfl,wrT_size _⟩ (by decide)) rfl rfl (by simp only [List.length_cons,List.length_nil];omega) (by simp only [List.length_cons,List.length_nil];omega) (by omega) rfl λ w_17 A_18 c_19 m_20 O_21 g_22 n_23=> ?_
  have:=m_20.size
  have z_17:=Ext.mod z_10 m_20 (λ q hq=>Nat.le_trans (by omega) (OLx.lt q hq).1)
  have u_25:=λ q hq=>(O_21.lt q hq).2
  have:=m_20.size
  refine va rfl<|nl<|nB<|nT<|rg<|vL (bad rfl rfl (inI (by omega)))<|vm rfl<|nl<| ?_
  exact nI _ _ ⟨k+1,Ms++ [wrT lx],A_18,c_19,rfl,rfl,z_17,O_21,by omega,by rw [hMs,take_snoc_ hLx,List.map_append];rfl⟩ (by omega) (.cons rfl (.cons rfl (.cons rfl (.cons rfl (.cons (loI rfl (by first | omega | rfl | (simp<;>omega))) .nil)))))
 ·have ek:k=L.length:=by rw [← hL.1];omega
  refine xt<|xT<|xK<|xB<|nT<|sg<|vm rfl<|va rfl<|nK<|rt<|tR (.tmp rfl .nil)<| ?_
  rw [ek,List.take_length] at hMs
  subst hMs
  exact ⟨AL,cL,rfl,OLx,z_1⟩
theorem root_any_ (a:Wd.At) (W:Wd) (A:Option Addr) (c:Nat) (T:List SV) (L:List (List Odr)) (n:Int) (w:World) (hW:Wd.Has w a W) (hT:svRep.SHas 24 w A c T) (hL:Tells w T L):
  Calls Tryz.prog 17 #[.agg #[.int .i64 W.field.wide, .int .i64 W.field.high, .slice a.P W.field.places.length a.p, .slice a.B W.bases.length a.b, .slice a.S W.stocks.length a.s, .slice a.M W.mines.length a.m, .slice a.T W.troops.length a.t, .int .i64 W.next, .int .i64 W.now, .slice A T.length c], .int .i64 n] w (λ e w'=>∃ (e':Int) (r:BitVec 64),e= .returned (.tuple #[.int .u64 (U r), .int .i64 e'])∧RootR W L n e' r∧Ext w w'):=by
 have hlT:=hT.len_le
 refine calls_W (n:=29) Tryz.func17 rfl rfl rfl ?_
 refine sg<|bx rfl rfl rfl rfl λ w_1 b_2 x_3 l_4 B_5=> ?_
 have:=x_3.size
 have z_1:=eT (Ext.rf w) x_3
 have q_7:=B_5.lt
 refine va rfl<|va rfl<|nK<|sq<|sg<|vL (ld rfl (B_5.all eF181 eF182))<|ca eF183 rfl rfl ((check_story a W _ _ T L _ (hW.keep z_1) (hT.keep z_1) (hL.keep z_1)).mono ?_)
 rintro e w_9 ⟨E8,rfl,hc8,x_10⟩
 refine ⟨_,rfl, ?_⟩
 have:=x_10.size
 have z_9:=eT z_1 x_10
 refine va rfl<|nK<|sg<|vm rfl<|vL (bne rfl rfl)<|nK<| ?_
 refine cne rfl (λ h_12=> ?_) (λ h_12=> ?_)
 ·refine sg<|vm rfl<|va rfl<|va rfl<|nK<|rt<|tT<|tR (.tmp rfl (.tmp rfl .nil))<| ?_
  exact ⟨E8,0,rfl, .inr ⟨(by simpa using h_12),λ h_=>(show ¬ E8=0 by simpa using h_12) (hc8.2 h_.1),rfl⟩,z_9⟩
 ·have hok:StOk W L:=hc8.1 (by simpa using h_12)
  have hlL:=hL.1
  have hlen_:L.length≤256:=by have:=hok.1;omega
  refine sK<|sq<|sg<|vm rfl<|vL (blt rfl rfl)<|vm rfl<|vQ rfl rfl rfl rfl (λ hc=>mv rfl) rfl<|vQ rfl rfl rfl rfl (λ hc=>fa eF178 rfl) rfl<| ?_
  have B_5:=B_5.later x_10
  refine vQ rfl rfl rfl rfl (λ hc=>ld (gt hc rfl) (B_5.one eF179 rfl)) rfl<|vQ rfl rfl rfl rfl (λ hc=>ln Tryz.underlying29 (gt hc rfl)) rfl<|vQ rfl rfl rfl rfl (λ hc=>bgt (gt hc rfl) (gt hc rfl)) rfl<|vL (pO rfl rfl rfl rfl)<|nK<| ?_
  refine cb rfl (λ h_13=> ?_) (λ h_13=> ?_)
  ·simp only [bS] at h_13
   refine sg<|va rfl<|va rfl<|nK<|rt<|tT<|tR (.tmp rfl (.tmp rfl .nil))<| ?_
   exact ⟨1,0,rfl, .inr ⟨(by decide),λ h_=>by have hlL:=hL.1;have:=h_.2;have hb_:=h_13;omega,rfl⟩,z_9⟩
  ·simp only [bS] at h_13
   have hn_:0≤n∧n≤(T.length:Int):=by have hb_:=h_13;omega
   refine sK<|sg<|vL (fa eF178 rfl)<|vL (ld rfl (B_5.one eF179 rfl))<|vm rfl<|vL (sP ((n).toNat) (T.take ((n).toNat)).length Tryz.underlying29 eF174 rfl rfl (by omega) (by have:=hT.1;omega) (by rw [List.length_take];omega))<|ca eF191 rfl rfl ((texts_any _ _ (T.take ((n).toNat)) (L.take ((n).toNat)) _ ((hT.keep z_9).pre ((n).toNat)) ((hL.take ((n).toNat)).keep z_9)).mono ?_)
   rintro e w_17 ⟨A14,c14,rfl,OX14,x_18⟩
   refine ⟨_,rfl, ?_⟩
   have:=x_18.size
   have z_17:=eT z_9 x_18
   have u_15:=λ q hq=>(OX14.lt q hq).2
   have lo_16:=λ q hq=>(OX14.lt q hq).1
   refine ca eF192 rfl rfl ((troot_any _ _ (((L.take ((n).toNat)).map wrT)) _ OX14.has (by rw [List.length_map,List.length_take];have:=hok.1;omega)).mono ?_)
   rintro e w_20 ⟨rfl,x_21⟩
   refine ⟨_,rfl, ?_⟩
   have:=x_21.size
   have z_20:=eT z_17 x_21
   refine vL (ex rfl rfl)<|vL (ex rfl rfl)<|va rfl<|va rfl<|nK<|rt<|tR (.tmp rfl (.tmp rfl .nil))<| ?_
   exact ⟨0,_,rfl, .inl ⟨rfl,hok,hn_.1,(by omega),rfl⟩,z_20⟩
theorem show_any (a:Wd.At) (W:Wd) (A:Option Addr) (c:Nat) (T:List SV) (L:List (List Odr)) (n:Int) (w:World) (hW:Wd.Has w a W) (hT:svRep.SHas 24 w A c T) (hL:Tells w T L):
  Calls Tryz.prog 16 #[.agg #[.int .i64 W.field.wide, .int .i64 W.field.high, .slice a.P W.field.places.length a.p, .slice a.B W.bases.length a.b, .slice a.S W.stocks.length a.s, .slice a.M W.mines.length a.m, .slice a.T W.troops.length a.t, .int .i64 W.next, .int .i64 W.now, .slice A T.length c], .int .i64 n] w (λ e w'=>∃ (e':Int) (s:ByteArray) (A':Option Addr) (c':Nat) (t:List (BitVec 64)),e= .returned (.tuple #[.string s, .slice A' t.length c', .int .i64 e'])∧ShowR W L n e' s t∧repU.SOwn 41 8 w' w.heap.size (Rep.blkOf A') A' c' t∧Ext w w'):=by
 have hlT:=hT.len_le
 refine calls_W (n:=33) Tryz.func16 rfl rfl rfl ?_
 refine sg<|bx rfl rfl rfl rfl λ w_1 b_2 x_3 l_4 B_5=> ?_
 have:=x_3.size
 have z_1:=eT (Ext.rf w) x_3
 have q_7:=B_5.lt
 refine va rfl<|va rfl<|va rfl<|nK<|sq<|sg<|vL (ld rfl (B_5.all eF181 eF182))<|ca eF183 rfl rfl ((check_story a W _ _ T L _ (hW.keep z_1) (hT.keep z_1) (hL.keep z_1)).mono ?_)
 rintro e w_9 ⟨E8,rfl,hc8,x_10⟩
 refine ⟨_,rfl, ?_⟩
 have:=x_10.size
 have z_9:=eT z_1 x_10
 refine va rfl<|nK<|sg<|vm rfl<|vL (bne rfl rfl)<|nK<| ?_
 refine cne rfl (λ h_12=> ?_) (λ h_12=> ?_)
 ·refine sg<|vm rfl<|va rfl<|va rfl<|va rfl<|nK<|rt<|tT<|tR (.tmp rfl (.tmp rfl (.tmp rfl .nil)))<| ?_
  exact ⟨E8,_,none,0, [],rfl, .inr ⟨(by simpa using h_12),λ h_=>(show ¬ E8=0 by simpa using h_12) (hc8.2 h_.1),rfl,rfl⟩,Rep.SOwn.nil _,z_9⟩
 ·have hok:StOk W L:=hc8.1 (by simpa using h_12)
  have hlL:=hL.1
  have hlen_:L.length≤256:=by have:=hok.1;omega
  refine sK<|sg<|vL (fa eF178 rfl)<| ?_
  have B_5:=B_5.later x_10
  refine vL (ld rfl (B_5.one eF179 rfl))<|ca eF191 rfl rfl ((texts_any _ _ T L _ (hT.keep z_9) (hL.keep z_9)).mono ?_)
  rintro e w_16 ⟨A13,c13,rfl,OX13,x_17⟩
  refine ⟨_,rfl, ?_⟩
  have:=x_17.size
  have z_16:=eT z_9 x_17
  have u_14:=λ q hq=>(OX13.lt q hq).2
  have lo_15:=λ q hq=>(OX13.lt q hq).1
  refine va rfl<|nK<|sg<|vm rfl<|vm rfl<|ca eF193 rfl rfl ((ttrail_any _ _ (((L).map wrT)) n _ OX13.has (by rw [List.length_map];exact hlen_)).mono ?_)
  rintro e w_22 ⟨A19,c19,t19,k19,hk19,rfl,OT19,x_23⟩
  refine ⟨_,rfl, ?_⟩
  have:=x_23.size
  have z_22:=eT z_16 x_23
  have u_20:=λ q hq=>(OT19.lt q hq).2
  have lo_21:=λ q hq=>(OT19.lt q hq).1
  refine vm rfl<|vL (ex rfl rfl)<|vL (ex rfl rfl)<|va rfl<|va rfl<|nK<|sq<|sg<|vm rfl<|vL (bne rfl rfl)<|nK<| ?_
  refine cne rfl (λ h_25=> ?_) (λ h_25=> ?_)
  ·refine sg<|vm rfl<|va rfl<|va rfl<|va rfl<|nK<|rt<|tT<|tR (.tmp rfl (.tmp rfl (.tmp rfl .nil)))<| ?_
   exact ⟨k19,_,none,0, [],rfl, .inr ⟨(by simpa using h_25),λ h_=>(hk19.no (by simpa using h_25)) ⟨h_.2.1,by rw [List.length_map];exact h_.2.2⟩,rfl,rfl⟩,Rep.SOwn.nil _,z_22⟩
  ·obtain ⟨y1,y2,y3⟩:=hk19.yes (by simpa using h_25)
   rw [List.length_map] at y2
   refine sK<|sg<|vm rfl<|vm rfl<| ?_
   have OX13:=OX13.later x_23
   refine vL (iA n.toNat Tryz.underlying72 eF194 rfl rfl (OX13.has.adr (zl n.toNat (by rw [List.length_map];omega))) (by omega) (by rw [List.length_map];omega))<|vL (ld rfl (Rep.SHas.one' hcS (OX13.has.adh (zl n.toNat (by rw [List.length_map];omega))) (get_d (l:=((L).map wrT)) (u:=ByteArray.empty) (by rw [List.length_map];omega)) rfl eF195))<|vm rfl<|va rfl<|va rfl<|va rfl<|nK<|rt<|tR (.tmp rfl (.tmp rfl (.tmp rfl .nil)))<| ?_
   exact ⟨0,_,A19,c19,t19,rfl, .inl ⟨rfl,hok,y1,y2,rfl,y3⟩,OT19.down (by omega),z_22⟩
theorem shown_any (r_:BitVec 64) (n_ at_:Int) (s_:ByteArray) (A:Option Addr) (c:Nat) (t_:List (BitVec 64)) (w:World) (ht:repU.SHas 8 w A c t_) (hs_:s_.size≤140737488351232) (h1_:1≤n_) (h2_:n_≤256) (h3_:0≤at_) (h4_:at_<n_):
  Calls Tryz.prog 18 #[.int .u64 (U r_), .int .i64 n_, .int .i64 at_, .string s_, .slice A t_.length c] w (λ e w'=>∃ (A':Option Addr) (c':Nat) (m:List Odr) (k:Int) (b:Bool),e= .returned (.tuple #[.slice A' m.length c', .bool b, .int .i64 k])∧ShownR r_ n_ at_ s_ t_ m k b∧Odr.rep.SOwn 51 48 w' w.heap.size (Rep.blkOf A') A' c' m∧Ext w w'):=by
 refine calls_W (n:=41) Tryz.func18 rfl rfl rfl ?_
 refine sg<|va rfl<|va rfl<|va rfl<|nK<|sg<|vm rfl<|vm rfl<|vm rfl<|vm rfl<|vm rfl<|ca eF196 rfl rfl ((tholds_any r_ s_ hs_ at_ n_ _ _ t_ _ (ht.keep (Ext.rf w)) h1_ h2_ h3_ h4_).mono ?_)
 rintro e w_1 ⟨rfl,x_2⟩
 refine ⟨_,rfl, ?_⟩
 have:=x_2.size
 have z_1:=eT (Ext.rf w) x_2
 refine vm rfl<|vL (ex rfl rfl)<|vL (ex rfl rfl)<|va rfl<|va rfl<|nK<|sq<|sg<|vm rfl<|vL (bne rfl rfl)<|vm rfl<|ug rfl rfl rfl<|vm rfl<|ug rfl rfl rfl<|vL (nt rfl)<|vL (pkF rfl rfl)<|nK<| ?_
 refine cb rfl (λ h_4=> ?_) (λ h_4=> ?_)
 ·simp only [bS] at h_4
  refine sg<|vm rfl<|va rfl<|va rfl<|va rfl<|nK<|rt<|tT<|tR (.tmp rfl (.tmp rfl (.tmp rfl .nil)))<| ?_
  exact ⟨none,0, [],0,false,rfl, .inr ⟨by simpa using h_4,rfl,rfl,rfl⟩,Rep.SOwn.nil _,z_1⟩
 ·simp only [bS] at h_4
  refine sK<|sg<|vm rfl<|ca eF197 rfl rfl ((oread_any s_ _ hs_).mono ?_)
  rintro e w_8 ⟨m5,k5,A5,c5,hR5,rfl,OR5,x_9⟩
  refine ⟨_,rfl, ?_⟩
  have:=x_9.size
  have z_8:=eT z_1 x_9
  have u_6:=λ q hq=>(OR5.lt q hq).2
  have lo_7:=λ q hq=>(OR5.lt q hq).1
  refine vm rfl<|vL (ex rfl rfl)<|vL (ex rfl rfl)<|va rfl<|va rfl<|nK<|sg<|vm rfl<|vm rfl<|vL (beq rfl rfl)<|vm rfl<|va rfl<|va rfl<|va rfl<|nK<|rt<|tR (.tmp rfl (.tmp rfl (.tmp rfl .nil)))<| ?_
  exact ⟨A5,c5,m5,k5,_,rfl, .inl ⟨by simpa using h_4,hR5,rfl⟩,OR5.down (by omega),z_8⟩
end
section
open Go.RowKit
open Go.Proofs.YtlikikpgmmkjbaaGreat.Bv
theorem ARes.out {W:Wd} {L:List (List Odr)} {n e:Int} {V:Wd} (h:ARes W L n e V) (hok:StOk W L) (h0:0≤n) (h1:n≤(L.length:Int)):e=0∧V=runW W (L.take n.toNat):=by
 rcases h with h | h
 ·exact ⟨h.1,h.2.2.2.2⟩
 ·exact absurd ⟨hok,h0,h1⟩ h.2.1
theorem ARes.ok {W:Wd} {L:List (List Odr)} {n e:Int} {V:Wd} (h:ARes W L n e V) (h0:e=0):StOk W L∧0≤n∧n≤(L.length:Int)∧V=runW W (L.take n.toNat):=by
 rcases h with h | h
 ·exact h.2
 ·exact absurd h0 h.1
theorem RootR.out {W:Wd} {L:List (List Odr)} {n e:Int} {r:BitVec 64} (h:RootR W L n e r) (hok:StOk W L) (h0:0≤n) (h1:n≤(L.length:Int)):e=0∧r=Tree.rootL (Tree.lists ((L.take n.toNat).map wrT)):=by
 rcases h with h | h
 ·exact ⟨h.1,h.2.2.2.2⟩
 ·exact absurd ⟨hok,h0,h1⟩ h.2.1
theorem ShowR.out {W:Wd} {L:List (List Odr)} {n e:Int} {s:ByteArray} {t:List (BitVec 64)} (h:ShowR W L n e s t) (hok:StOk W L) (h0:0≤n) (h1:n<(L.length:Int)):e=0∧s=(L.map wrT).getD n.toNat ByteArray.empty∧t=Tree.trailF (L.map wrT).length (Tree.lists (L.map wrT)) n.toNat:=by
 rcases h with h | h
 ·exact ⟨h.1,h.2.2.2.2⟩
 ·exact absurd ⟨hok,h0,h1⟩ h.2.1
theorem getD_wrT (L:List (List Odr)) {i:Nat} (h:i<L.length):(L.map wrT).getD i ByteArray.empty=wrT (L.getD i []):=by
 rw [List.getD_eq_getElem?_getD,List.getD_eq_getElem?_getD,List.getElem?_map,List.getElem?_eq_getElem h];rfl
theorem ShowR.size {W:Wd} {L:List (List Odr)} {n e:Int} {s:ByteArray} {t:List (BitVec 64)} (h:ShowR W L n e s t):s.size≤140737488351232:=by
 rcases h with ⟨_,_,h0,h1,h2,_⟩ | ⟨_,_,h2,_⟩
 ·rw [h2,getD_wrT L (by omega)];exact wrT_size _
 ·rw [h2];decide
theorem StOk.ords {W:Wd} {L:List (List Odr)} (h:StOk W L) {i:Nat} (hi:i<L.length):ordsE (L.getD i [])=0:=by
 have h1:=(h.take i).2.2
 have h2:=(h.take (i+1)).2.2
 have hg:L[i]? =some (L.getD i []):=by rw [List.getD_eq_getElem?_getD,List.getElem?_eq_getElem hi];rfl
 rw [run_step h1 hg] at h2
 exact (splE_zero (turnE_zero h2).1).1
theorem lists_getD (l:List ByteArray) (i:Nat):(Tree.lists l).getD i []=(l.getD i ByteArray.empty).data.toList:=by
 unfold Tree.lists
 rw [List.getD_eq_getElem?_getD,List.getD_eq_getElem?_getD,List.getElem?_map]
 cases l[i]? <;>rfl
theorem shown_ok {W:Wd} {L:List (List Odr)} (hok:StOk W L) {at_ n:Int} (h0:0≤at_) (h1:at_<(L.length:Int)) {s:ByteArray} {t:List (BitVec 64)} {r:BitVec 64} {m:List Odr} {k:Int} {b:Bool}
  (hs:s=(L.map wrT).getD at_.toNat ByteArray.empty) (ht:t=Tree.trailF (L.map wrT).length (Tree.lists (L.map wrT)) at_.toNat) (hr:r=Tree.rootL (Tree.lists ((L.take n.toNat).map wrT))) (ho:∀ o∈L.getD at_.toNat [],o.ok)
  (hR:ShownR r n at_ s t m k b) (hn:n=(L.length:Int):=by rfl):b=true∧k=0∧m=L.getD at_.toNat []:=by
 subst hn
 rw [Int.toNat_natCast,List.take_length] at hr
 have hl:(Tree.lists (L.map wrT)).length=L.length:=by rw [Tree.lists_len,List.length_map]
 have hh:=Tree.holds_trail (Tree.lists (L.map wrT)) at_.toNat (by omega)
 rw [lists_getD,hl] at hh
 have hb:Tree.holdsB r s.data.toList at_.toNat (L.length:Int).toNat t=true:=by
  rw [hs,ht,hr,Int.toNat_natCast,List.length_map];exact hh
 rcases hR with ⟨_,h2,h3⟩ | ⟨h2,_⟩
 ·rw [hs,getD_wrT L (by omega)] at h2
  obtain ⟨e1,e2⟩:=oread_back (hok.ords (by omega)) ho h2
  exact ⟨by rw [h3,e1];rfl,e1,e2⟩
 ·rw [hb] at h2;cases h2
def stL:List (List Odr):= [tickL, []]
theorem st_small:StOk smallW stL:=⟨by decide,by decide +kernel,by
 show runE smallW ([tickL]++ [[]])=0
 rw [runE_app,runE_one,if_neg (by rw [turn_small.1];simp),show runW smallW [tickL]=tickV from turn_small.2.1,runE_one]
 exact (turn_nil (W:=tickV) (by decide +kernel) (by decide)).1⟩
theorem st_now:(runW smallW (stL.take (1:Int).toNat)).now=1:=by
 show (turnW smallW tickL).now=1
 rw [turn_small.2.1];rfl
theorem storyLives_any  (w:World):
  Calls Tryz.prog 14 #[] w (λ e w'=>e= .returned (.bool true)∧Ext w w'):=by
 refine calls_W (n:=72) Tryz.func14 rfl rfl rfl ?_
 refine sg<|va rfl<|nK<|sg<|ca eF198 rfl rfl ((small_any _).mono ?_)
 rintro e w_4 ⟨a_1,rfl,HO_1,x_5⟩
 refine ⟨_,rfl, ?_⟩
 have:=x_5.size
 have z_4:=eT (Ext.rf w) x_5
 have u_2:=λ q hq=>(HO_1.lt q hq).2
 have lo_3:=λ q hq=>(HO_1.lt q hq).1
 refine vL (v:= .agg #[.int .i64 2, .int .i64 0]) (bd rfl (by kernel_rfl))<|vL (v:= .agg #[.int .i64 0, .int .i64 3, .int .i64 1, .int .i64 2, .int .i64 0, .int .i64 0]) (bd rfl (by kernel_rfl))<|bs (e:= 51) (cs:= [.int .i64 0, .int .i64 3, .int .i64 1, .int .i64 2, .int .i64 0, .int .i64 0]) rfl (λ _=>by kernel_rfl) rfl λ w_7 b_8 x_9 l_10 B_11=> ?_
 have:=x_9.size
 have z_7:=eT z_4 x_9
 have q_13:=B_11.lt
 refine bs (e:= 44) (cs:= [.slice (some ⟨b_8,0,none⟩) 1 1, .slice none 0 0]) rfl (λ _=>by kernel_rfl) rfl λ w_14 b_15 x_16 l_17 B_18=> ?_
 have:=x_16.size
 have z_14:=eT z_7 x_16
 have q_20:=B_18.lt
 refine vL (v:= .agg #[.int .i64 smallW.field.wide, .int .i64 smallW.field.high, .slice a_1.P smallW.field.places.length a_1.p, .slice a_1.B smallW.bases.length a_1.b, .slice a_1.S smallW.stocks.length a_1.s, .slice a_1.M smallW.mines.length a_1.m, .slice a_1.T smallW.troops.length a_1.t, .int .i64 smallW.next, .int .i64 smallW.now, .slice (some ⟨b_15,0,none⟩) 2 2]) (bd rfl (by kernel_rfl))<|al rfl eF199 rfl rfl λ w_21 b_22 x_23 l_24 B_25=> ?_
 have:=x_23.size
 have z_21:=eT z_14 x_23
 have q_27:=B_25.lt
 refine st (new:= [.int .i64 smallW.field.wide, .int .i64 smallW.field.high, .slice a_1.P smallW.field.places.length a_1.p, .slice a_1.B smallW.bases.length a_1.b, .slice a_1.S smallW.stocks.length a_1.s, .slice a_1.M smallW.mines.length a_1.m, .slice a_1.T smallW.troops.length a_1.t, .int .i64 smallW.next, .int .i64 smallW.now, .slice (some ⟨b_15,0,none⟩) 2 2]) rfl rfl B_25 rfl eF182 rfl rfl rfl λ w_28 m_29 B_25=> ?_
 have:=m_29.size
 have z_28:=Ext.mod z_21 m_29 (ge1 (by omega))
 have:=m_29.size
 refine nK<|sg<|vL (ld rfl (B_25.all eF181 eF182))<| ?_
 have B_18:=B_18.later x_23
 have B_18:=B_18.mod m_29 (nm1 (by omega))
 have OTs:=Blk.ownN (R:=svRep) (by_:=24) (B:=w.heap.size) (k:= [(⟨some ⟨b_8,0,none⟩,1,1⟩:SV),(⟨none,0,0⟩:SV)]) B_18 [[.slice (some ⟨b_8,0,none⟩) 1 1], [.slice none 0 0]] rfl (⟨⟨rfl,trivial⟩,⟨rfl,trivial⟩,trivial⟩) (by simp) (by simp) (by decide) (by omega)
 have eTs:∀ q∈Rep.blkOf (some ⟨b_15,0,none⟩),q=b_15:=λ q hq=>List.mem_singleton.1 hq
 have lTs:∀ q∈Rep.blkOf (some ⟨b_15,0,none⟩),w.heap.size≤q:=λ q hq=>by rw [eTs q hq];omega
 have uTs:∀ q∈Rep.blkOf (some ⟨b_15,0,none⟩),q<w_28.heap.size:=λ q hq=>(OTs.lt q hq).2
 have B_11:=B_11.later (eT x_16 x_23)
 have B_11:=B_11.mod m_29 (nm1 (by omega))
 have HO_1:=HO_1.later (eT x_9 (eT x_16 x_23))
 have HO_1:=HO_1.mod m_29 (fk1 u_2 (by omega))
 refine ca eF200 rfl rfl ((at_any a_1 smallW _ _ ([(⟨some ⟨b_8,0,none⟩,1,1⟩:SV),(⟨none,0,0⟩:SV)]) stL 1 _ HO_1.has OTs.has (show Tells _ _ stL from (Tells.one (Blk.hasN (R:=Odr.rep) (by_:=48) (k:= [(⟨0,3,1,⟨2,0⟩,0⟩:Odr)]) B_11 [[.int .i64 0, .int .i64 3, .int .i64 1, .int .i64 2, .int .i64 0, .int .i64 0]] rfl (⟨⟨rfl,⟨okI_iff.2 (by decide),okI_iff.2 (by decide),okI_iff.2 (by decide),okI_iff.2 (by decide),okI_iff.2 (by decide),okI_iff.2 (by decide)⟩⟩,trivial⟩) (by simp) (by simp))).app (Tells.one (Rep.SHas.nil _)))).mono ?_)
 rintro e w_35 ⟨E32,a32,V32,rfl,hr32,HO32,x_36⟩
 refine ⟨_,rfl, ?_⟩
 have:=x_36.size
 have z_35:=eT z_28 x_36
 have u_33:=λ q hq=>(HO32.lt q hq).2
 have lo_34:=λ q hq=>(HO32.lt q hq).1
 refine vm rfl<|vL (ex rfl rfl)<|vL (ex rfl rfl)<|al rfl eF80 rfl rfl λ w_38 b_39 x_40 l_41 B_42=> ?_
 have:=x_40.size
 have z_38:=eT z_35 x_40
 have q_44:=B_42.lt
 refine st rfl rfl B_42 rfl eF62 rfl rfl rfl λ w_45 m_46 B_42=> ?_
 have:=m_46.size
 have z_45:=Ext.mod z_38 m_46 (ge1 (by omega))
 have:=m_46.size
 refine va rfl<|nK<|sg<| ?_
 have B_25:=B_25.later (eT x_36 x_40)
 have B_25:=B_25.mod m_46 (nm1 (by omega))
 refine vL (ld rfl (B_25.all eF181 eF182))<| ?_
 have OTs:=OTs.later (eT x_36 x_40)
 have OTs:=OTs.mod m_46 (fk1 uTs (by omega))
 have B_11:=B_11.later (eT x_36 x_40)
 have B_11:=B_11.mod m_46 (nm1 (by omega))
 have HO_1:=HO_1.later (eT x_36 x_40)
 have HO_1:=HO_1.mod m_46 (fk1 u_2 (by omega))
 refine ca eF201 rfl rfl ((show_any a_1 smallW _ _ ([(⟨some ⟨b_8,0,none⟩,1,1⟩:SV),(⟨none,0,0⟩:SV)]) stL 0 _ HO_1.has OTs.has (show Tells _ _ stL from (Tells.one (Blk.hasN (R:=Odr.rep) (by_:=48) (k:= [(⟨0,3,1,⟨2,0⟩,0⟩:Odr)]) B_11 [[.int .i64 0, .int .i64 3, .int .i64 1, .int .i64 2, .int .i64 0, .int .i64 0]] rfl (⟨⟨rfl,⟨okI_iff.2 (by decide),okI_iff.2 (by decide),okI_iff.2 (by decide),okI_iff.2 (by decide),okI_iff.2 (by decide),okI_iff.2 (by decide)⟩⟩,trivial⟩) (by simp) (by simp))).app (Tells.one (Rep.SHas.nil _)))).mono ?_)
 rintro e w_52 ⟨E49,s49,A49,c49,t49,rfl,hr49,OT49,x_53⟩
 refine ⟨_,rfl, ?_⟩
 have:=x_53.size
 have z_52:=eT z_45 x_53
 have u_50:=λ q hq=>(OT49.lt q hq).2
 have lo_51:=λ q hq=>(OT49.lt q hq).1
 refine vm rfl<|vL (ex rfl rfl)<|vL (ex rfl rfl)<|vL (ex rfl rfl)<|va rfl<|va rfl<|va rfl<|nK<|sg<| ?_
 have B_25:=B_25.later x_53
 refine vL (ld rfl (B_25.all eF181 eF182))<| ?_
 have OTs:=OTs.later x_53
 have B_11:=B_11.later x_53
 have HO_1:=HO_1.later x_53
 refine ca eF202 rfl rfl ((root_any_ a_1 smallW _ _ ([(⟨some ⟨b_8,0,none⟩,1,1⟩:SV),(⟨none,0,0⟩:SV)]) stL 2 _ HO_1.has OTs.has (show Tells _ _ stL from (Tells.one (Blk.hasN (R:=Odr.rep) (by_:=48) (k:= [(⟨0,3,1,⟨2,0⟩,0⟩:Odr)]) B_11 [[.int .i64 0, .int .i64 3, .int .i64 1, .int .i64 2, .int .i64 0, .int .i64 0]] rfl (⟨⟨rfl,⟨okI_iff.2 (by decide),okI_iff.2 (by decide),okI_iff.2 (by decide),okI_iff.2 (by decide),okI_iff.2 (by decide),okI_iff.2 (by decide)⟩⟩,trivial⟩) (by simp) (by simp))).app (Tells.one (Rep.SHas.nil _)))).mono ?_)
 rintro e w_56 ⟨E55,r55,rfl,hr55,x_57⟩
 refine ⟨_,rfl, ?_⟩
 have:=x_57.size
 have z_56:=eT z_52 x_57
 refine vm rfl<|vL (ex rfl rfl)<|vL (ex rfl rfl)<|va rfl<|va rfl<|nK<|sg<|vm rfl<|vm rfl<|vm rfl<| ?_
 have OT49:=OT49.later x_57
 refine ca eF203 rfl rfl ((shown_any r55 2 0 s49 _ _ t49 _ OT49.has hr49.size (by decide) (by decide) (by decide) (by decide)).mono ?_)
 rintro e w_62 ⟨A59,c59,m59,k59,b59,rfl,hr59,OR59,x_63⟩
 refine ⟨_,rfl, ?_⟩
 have:=x_63.size
 have z_62:=eT z_56 x_63
 have u_60:=λ q hq=>(OR59.lt q hq).2
 have lo_61:=λ q hq=>(OR59.lt q hq).1
 refine vm rfl<|vL (ex rfl rfl)<|vL (ex rfl rfl)<|vL (ex rfl rfl)<|va rfl<|va rfl<|va rfl<|nK<|sg<|vm rfl<|vL (beq rfl rfl)<|vm rfl<|vQ rfl rfl rfl rfl (λ hc=>mv rfl) rfl<|vQ rfl rfl rfl rfl (λ hc=>beq (gt hc rfl) rfl) rfl<|vL (pA rfl rfl rfl rfl)<|vm rfl<|vQ rfl rfl rfl rfl (λ hc=>mv rfl) rfl<|vQ rfl rfl rfl rfl (λ hc=>beq (gt hc rfl) rfl) rfl<|vL (pA rfl rfl rfl rfl)<|vm rfl<|vQ rfl rfl rfl rfl (λ hc=>mv rfl) rfl<|vQ rfl rfl rfl rfl (λ hc=>beq (gt hc rfl) rfl) rfl<| ?_
 refine vL (pA rfl rfl rfl rfl)<|vm rfl<|vQ rfl rfl rfl rfl (λ hc=>mv rfl) rfl<|vL (pA rfl rfl rfl rfl)<|vm rfl<|vQ rfl rfl rfl rfl (λ hc=>mv rfl) rfl<|vQ rfl rfl rfl rfl (λ hc=>fa eF178 rfl) rfl<| ?_
 have B_25:=B_25.later (eT x_57 x_63)
 refine vQ rfl rfl rfl rfl (λ hc=>ld (gt hc rfl) (B_25.one eF179 rfl)) rfl<| ?_
 have OTs:=OTs.later (eT x_57 x_63)
 refine vQ rfl rfl rfl rfl (λ hc=>iA 0 Tryz.underlying29 eF174 (gt hc rfl) rfl (OTs.has.adr (zl 0 (by decide:0<2))) rfl (by decide:0<2)) rfl<|vQ (v:= .slice (some ⟨b_8,0,none⟩) 1 1) rfl rfl rfl rfl (λ hc=>ld (gt hc rfl) (Rep.SHas.one' hcV (OTs.has.adh (zl 0 (by decide:0<2))) rfl rfl eF175)) rfl<| ?_
 have B_11:=B_11.later (eT x_57 x_63)
 refine vC rfl rfl rfl rfl eF204 (λ hc=>ec (gt hc rfl) (ec (gt hc rfl) rfl)) (λ hc=>equal_O _ _ _ _ _ _ m59 ([(⟨0,3,1,⟨2,0⟩,0⟩:Odr)]) _ OR59.has (Blk.hasN (R:=Odr.rep) (by_:=48) (k:= [(⟨0,3,1,⟨2,0⟩,0⟩:Odr)]) B_11 [[.int .i64 0, .int .i64 3, .int .i64 1, .int .i64 2, .int .i64 0, .int .i64 0]] rfl (⟨⟨rfl,⟨okI_iff.2 (by decide),okI_iff.2 (by decide),okI_iff.2 (by decide),okI_iff.2 (by decide),okI_iff.2 (by decide),okI_iff.2 (by decide)⟩⟩,trivial⟩) (by simp) (by simp))) rfl λ w_65 x_66=> ?_
 have:=x_66.size
 have z_65:=eT z_62 x_66
 refine vL (pA rfl rfl rfl rfl)<|vm rfl<|vQ rfl rfl rfl rfl (λ hc=>fa eF134 rfl) rfl<| ?_
 have B_42:=B_42.later (eT x_53 (eT x_57 (eT x_63 x_66)))
 refine vQ rfl rfl rfl rfl (λ hc=>ld (gt hc rfl) (B_42.one eF1 rfl)) rfl<|vQ rfl rfl rfl rfl (λ hc=>beq (gt hc rfl) rfl) rfl<|vL (pA rfl rfl rfl rfl)<|va rfl<|nK<|rt<|tR (.tmp rfl .nil)<| ?_
 obtain ⟨f1,f2⟩:=hr32.out st_small (by decide) (by decide)
 obtain ⟨f3,f4,f5⟩:=hr49.out st_small (by decide) (by decide)
 obtain ⟨f6,f7⟩:=hr55.out st_small (by decide) (by decide)
 obtain ⟨f8,f9,f10⟩:=shown_ok st_small (by decide) (by decide) f4 f5 f7 (λ o ho=>by rw [List.mem_singleton.1 (show o∈tickL from ho)];exact ⟨okI_iff.2 (by decide),okI_iff.2 (by decide),okI_iff.2 (by decide),okI_iff.2 (by decide),okI_iff.2 (by decide),okI_iff.2 (by decide)⟩) hr59
 have f11:V32.now=1:=by rw [f2,st_now]
 have f12:m59= [(⟨0,3,1,⟨2,0⟩,0⟩:Odr)]:=f10
 exact ⟨ret_true (by simp [f1,f3,f6,f8,f9,f11,f12]),z_65⟩
end
end Go.Proofs.YtlikikpgmmkjbaaGreat
