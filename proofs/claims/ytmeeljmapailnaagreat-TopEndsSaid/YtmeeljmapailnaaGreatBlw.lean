import Derived.Test.YtmeeljmapailnaaGreatMul
import Derived.Shelf.Spec.SlicesInsertGrow
import Derived.Shelf.Slices.Empties
set_option linter.unusedVariables false
set_option linter.unusedSimpArgs false
set_option maxRecDepth 100000
set_option maxHeartbeats 4000000
open Go.RowKit
namespace Go.Proofs.YtmeeljmapailnaaGreat
open Tryz
abbrev aYS:=@List.take_length
abbrev aY1:=@List.take_append_of_le_length
abbrev aZt:=@Go.IntKind.wrap_u64
abbrev baa:=@Go.Lib.run_eql_slice_nil
abbrev baD:=@Go.info_parts
abbrev baG:=@List.length_reverse
abbrev baZ:=@List.find?_eq_some_iff_getElem
abbrev bbl:=@Nat.min_le_right
abbrev bb9:=@Nat.sub_self
abbrev bc6:=@List.getElem_reverse
abbrev bdf:=@List.drop_replicate
section
variable {w:World} {B c g i n:Nat} {l:List Int} {cur cs:List Value} {x u:Value}
def aEq:Go.Shelf.Ren:=⟨fun | 21=> 118 | 27=> 150 | 28=> 151 | 35=> 177 | 39=> 187 | n=>n,fun | 22=> 22 | 3=> 3 | 4=> 4 | 0=> 0 | n=>n,fun | n=>n⟩
theorem Ur:Go.Proofs.Lays2.n21 prog aEq:= {
 mixed:=by kernel_rfl
 f21:=func118.trans (aZb some (by kernel_rfl))
 f27:=func150.trans (aZb some (by kernel_rfl))
 f28:=func151.trans (aZb some (by kernel_rfl))
 f35:=func177.trans (aZb some (by kernel_rfl))
 f39:=func187.trans (aZb some (by kernel_rfl))
 t0:=underlying0
 a0:=isAgg0
 z0:=sizeOf0
 v0:=zeroValue0
 t3:=underlying3
 a3:=isAgg3
 z3:=sizeOf3
 v3:=bbn
 t4:=underlying4
 a4:=isAgg4
 z4:=sizeOf4
 v4:=zeroValue4
 t22:=underlying22
 a22:=isAgg22
 z22:=sizeOf22
 v22:=zeroValue22
 i3:=by kernel_rfl}
def aJJ:Go.Shelf.Ren:=⟨fun | 25=> 117 | 31=> 148 | 32=> 149 | 37=> 176 | n=>n,fun | 22=> 22 | 3=> 3 | 4=> 4 | 40=> 215 | 0=> 0 | n=>n,fun | n=>n⟩
theorem amP:Go.Proofs.Lays2.n25 prog aJJ:= {
 mixed:=by kernel_rfl
 f25:=func117.trans (aZb some (by kernel_rfl))
 f31:=func148.trans (aZb some (by kernel_rfl))
 f32:=func149.trans (aZb some (by kernel_rfl))
 f37:=func176.trans (aZb some (by kernel_rfl))
 t0:=underlying0
 a0:=isAgg0
 z0:=sizeOf0
 v0:=zeroValue0
 t3:=underlying3
 a3:=isAgg3
 z3:=sizeOf3
 v3:=bbn
 t4:=underlying4
 a4:=isAgg4
 z4:=sizeOf4
 v4:=zeroValue4
 t22:=underlying22
 a22:=isAgg22
 z22:=sizeOf22
 v22:=zeroValue22
 t40:=underlying215
 a40:=isAgg215
 z40:=sizeOf215
 v40:=zeroValue215 }
def AE (l:List Int) (x:Int):Nat:=l.countP λ y=>decide (y<x)
theorem ags (l:List Int) (x:Int):AE l x≤l.length:=bcX
theorem auY (A:Option Addr) (c:Nat) (l:List Int) (x:Int) (w:World) (h:bu.aK 8 w A c l) (hs:l.Pairwise (· ≤ ·)):Calls prog 117 #[.slice A l.length c, .int .i64 x] w (λ e w'=>e= .returned (.tuple #[.int .i64 (AE l x:Nat), .bool (l.contains x)])∧Ext w w'):=by
 have hlen:=h.2.2.1;cases l with
 | nil=>exact (Any.slices_BinarySearch_int_empty amP A c x w).mono λ e w' ⟨κ,τ⟩=>by subst τ;exact ⟨κ,Ext.cH _⟩
 | cons y r =>
  obtain ⟨b,o,rfl,hc⟩:=F6 h (by simp);refine (Any.slices_BinarySearch_int amP b o (y::r).length c (y::r) x w (aYg _) (by omega) (λ j ay=>by
   have:=hc j ((y::r).getD j 0) (dt (u:=0) ay);exact this) (by rw [aYS];exact hs)).mono λ e w' ⟨κ,q,τ⟩=> ?_
  subst τ;rw [aYS] at κ;exact ⟨κ,below_drewN (aYG _ w) q⟩
def eD (n:Int):Value:= .int .i64 n
theorem Zv {w:World} {B:Nat}:∀ {ps:List (List Nat×List Value)} {l:List Int},dC (λ x a=>bu.own w B x.1 x.2 a) ps l→(ps.map (·.2)).flatten=l.map eD∧∀ x∈l,ea x
 | [], [],_=>⟨rfl,by simp⟩
 | p::ps,a::l,h=>by
  obtain ⟨⟨_,κ,τ⟩,au⟩:=h;obtain ⟨e,bK⟩:=Zv au;refine ⟨by rw [aY3,aZa,e,κ];rfl,λ x hx=> ?_⟩;rcases aYk.1 hx with rfl | hx
  ·exact τ
  ·exact bK x hx
 | [],_::_,h=>h.elim
 | _::_, [],h=>h.elim
theorem alv {w:World}:∀ {l:List Int},(∀ x∈l,ea x)→dC (λ es a=>bu.has w es a) (l.map λ n=> [eD n]) l
 | [],_=>trivial
 | a::l,h=>⟨⟨rfl,h a aYE⟩,alv λ x hx=>h x (aYm _ hx)⟩
theorem azO (l:List Int):(l.map λ n=> [eD n]).flatten=l.map eD:=by
 induction l with
 | nil=>rfl
 | cons a l bL=>rw [aY3,aZa,bL];rfl
theorem Pb (h:bu.aF 3 8 w B (J.ab (some ⟨g,0,none⟩)) (some ⟨g,0,none⟩) c l):
  ∃ cur:List Value,aM w g cur 3 (0,0)∧B≤g∧c≤maxLen∧cur.length=c∧l.length≤c∧cur.take l.length=l.map eD∧(∀ u∈cur,∃ n:Int,u= .int .i64 n)∧∀ x∈l,ea x:=by
 obtain ⟨ag,ps,hf,hn,bK,dM⟩:=h;obtain ⟨e,di⟩:=Zv dM;rw [e] at bK;obtain ⟨_,τ⟩:=bK;rcases τ with ⟨τ,_⟩ | ⟨g',cap,cur,hv,bg,eI,C5,oc,hs,aH,bP⟩
 ·cases τ
 ·injection hv with aW bb df
  injection aW with aW
  injection aW with aW
  subst aW df;refine ⟨cur.toList,eI,bg,oc,by have hs:cur.size=c * 1:=hs;rw [ba2] at hs;simpa using hs,C5,by have aH:cur.toList.take (l.length * 1)=_:=aH;rwa [ba2] at aH,λ u hu=> ?_,di⟩;obtain ⟨j,ay,rfl⟩:=aY9.1 hu;exact bP j _ (by rw [← aZe,aYb ay])
theorem Uh (h:aM w g cur 3 (0,0)) (bg:B≤g) (oc:c≤maxLen) (hs:cur.length=c) (hn:l.length≤c) (ag:l.length * 8≤140737488355328) (aH:cur.take l.length=l.map eD) (bP:∀ u∈cur,∃ n:Int,u= .int .i64 n) (di:∀ x∈l,ea x):
  bu.aF 3 8 w B (J.ab (some ⟨g,0,none⟩)) (some ⟨g,0,none⟩) c l:=by
 refine J.aF.Br J.qa (alv di) ag ?_;rw [azO];refine ⟨by rw [aYT];exact (ba2 _).symm, .inr ⟨g,c,cur.toArray,rfl,bg,h,hn,oc,by rw [aZT,hs];exact (ba2 _).symm, ?_,λ j u hu=> ?_⟩⟩
 ·show cur.toArray.toList.take (l.length * 1)=_;rw [ba2];exact aH
 ·exact bP u (by rw [bbC] at hu;exact aYR hu)
def oq (cur:List Value):Nat→List Value→List Value
 | _, []=>cur
 | o,v::r=>oq (cur.set o v) (o+1) r
theorem aM.setCells {g:Nat} {e:TypeId}:∀ (zs:List Value) (o:Nat) (w:World) (cur:List Value),aM w g cur e (0,0)→aM (w.setCells g o zs) g (oq cur o zs) e (0,0)
 | [],_,_,_,h=>h
 | v::r,o,w,cur,h=>aM.setCells r (o+1) _ _ (h.set o v)
theorem I2:∀ (zs:List Value) (o:Nat) (cur:List Value),o+zs.length≤cur.length→oq cur o zs=cur.take o++zs++cur.drop (o+zs.length)
 | [],o,cur,_=>by simp [oq]
 | v::r,o,cur,h=>by
  rw [aYc] at h;rw [oq,I2 r (o+1) _ (by rw [aYn];omega),aYc,List.drop_set_of_lt (by omega),show o+1+r.length=o+(r.length+1) by omega];have:(cur.set o v).take (o+1)=cur.take o++ [v]:=by
   rw [aYH (by rw [aYn];omega),List.take_set_of_le (aYg _),List.getElem_set_self]
  rw [this];simp
theorem I3 {u:Value}:∀ (zs:List Value) (o:Nat) (cur:List Value),u∈oq cur o zs→u∈cur∨u∈zs
 | [],_,_,h=> .inl h
 | v::r,o,cur,h=>by
  rcases I3 r (o+1) _ h with h | h
  ·rcases aZ8 h with h | rfl
   ·exact .inl h
   ·exact .inr aYE
  ·exact .inr (aYm _ h)
theorem DC:∀ (zs:List Value) (o:Nat) (cur:List Value),(oq cur o zs).length=cur.length
 | [],_,_=>rfl
 | v::r,o,cur=>by rw [oq,DC r,aYn]
theorem aEs (hi:i≤n) (hn:cs.length=n) (hc:n+1≤cur.length) (aH:cur.take i=cs.take i):
  (oq (oq cur (i+1) (cs.drop i)) i [x]).take (n+1)=cs.take i++x::cs.drop i:=by
 have hd:(cs.drop i).length=n - i:=by rw [aYs,hn]
 have κ:oq cur (i+1) (cs.drop i)=cur.take (i+1)++cs.drop i++cur.drop (n+1):=by rw [I2 _ _ _ (by rw [hd];omega),hd,show i+1+(n - i)=n+1 by omega]
 have ra:(cur.take (i+1)).length=i+1:=by rw [aYa];omega
 rw [I2 _ _ _ (by rw [DC,aYr];omega),κ,aYr];have aW:(cur.take (i+1)++cs.drop i++cur.drop (n+1)).take i=cs.take i:=by
  rw [aYK,aY1 (by omega),baz,aZx (by omega),aH]
 have bb:(cur.take (i+1)++cs.drop i++cur.drop (n+1)).drop (i+1)=cs.drop i++cur.drop (n+1):=by
  rw [aYK,bcu (by omega),baW (by omega),aZy]
 rw [aW,bb];have kc:(cs.take i).length=i:=by rw [aYa];omega
 have:cs.take i++ [x]++(cs.drop i++cur.drop (n+1))=(cs.take i++x::cs.drop i)++cur.drop (n+1):=by simp
 rw [this,aY1 (by rw [aX9,aYc,hd,kc];omega),aYp (by rw [aX9,aYc,hd,kc];omega)]
theorem aEt (hi:i≤n) (hn:cs.length=n) (hc:n+1≤cur.length) (aH:cur.take i=cs.take i):
  (oq (oq cur i [x]) (i+1) (cs.drop i)).take (n+1)=cs.take i++x::cs.drop i:=by
 have hd:(cs.drop i).length=n - i:=by rw [aYs,hn]
 have kc:(cs.take i).length=i:=by rw [aYa];omega
 have κ:oq cur i [x]=cur.take i++ [x]++cur.drop (i+1):=by rw [I2 _ _ _ (by rw [aYr];omega),aYr]
 rw [I2 _ _ _ (by rw [DC,hd];omega),κ,aH,hd];have aW:(cs.take i++ [x]++cur.drop (i+1)).take (i+1)=cs.take i++ [x]:=by
  rw [aY1 (by rw [aX9,aYr,kc];omega),aYp (by rw [aX9,aYr,kc];omega)]
 rw [aW,aY1 (by rw [aX9,aX9,aYr,hd,kc];omega),aYp (by rw [aX9,aX9,aYr,hd,kc];omega)];simp
theorem ace (l:List Int) (i:Nat) (x:Int):(l.take i++x::l.drop i).map eD=(l.map eD).take i++eD x::(l.map eD).drop i:=by
 rw [aYA,aY3,ba1,List.map_drop]
theorem alw (l:List Int) (x:Int) (hi:i≤l.length):(l.take i++x::l.drop i).length=l.length+1:=by
 rw [aX9,aYc,aYa,aYs];omega
theorem abA {x:Int} (h:∀ y∈l,ea y) (hx:ea x):∀ y∈l.take i++x::l.drop i,ea y:=λ y aE=>by
 rcases aYo.1 aE with aE | aE
 ·exact h y (aZp aE)
 ·rcases aYk.1 aE with rfl | aE
  ·exact hx
  ·exact h y (aZw aE)
theorem Lm (h:u∈l.map eD):∃ n:Int,u= .int .i64 n:=by
 obtain ⟨n,_,rfl⟩:=aYU.1 h;exact ⟨n,Z⟩
theorem acF:∀ v∈l.map eD,v.oneCell'=true:=λ v hv=>by obtain ⟨n,rfl⟩:=Lm hv;rfl
theorem aci {k:Nat} (h:u∈(Builtin.zeroCells (Value.int .i64 0).cells k).toList):∃ n:Int,u= .int .i64 n:=by
 obtain ⟨j,ay,rfl⟩:=aY9.1 h;have:=aqC (z:=(Value.int .i64 0).cells) (size:=1) (G:=λ _ u=>∃ n:Int,u= .int .i64 n) rfl (by decide) (λ j u hu=>by
  have hu:(#[(Value.int .i64 0:Value)]:Array Value)[j]? =some u:=hu
  match j,hu with
  | 0,hu=>exact ⟨0,(aYd hu).symm⟩
  | j+1,hu=>cases hu) k j _ (by rw [← aZe,aYb ay])
 exact this
theorem Mod.cells (g:Nat):∀ (zs:List Value) (o:Nat) (w:World),Mod [g] w (w.setCells g o zs)
 | [],_,w=>Mod.a8 (Ext.cH w)
 | v::r,o,w=>by
  rw [World.setCells];exact (Mod.setCell w ⟨g,o,none⟩ v).trans (Mod.cells g r (o+1) _)
theorem Mod.fresh {w1 w':World} (h:Ext w w1) (m:Mod [w.heap.size] w1 w'):Ext w w' :=
 ⟨m.os.trans h.os,m.tape.trans h.tape,m.output.trans h.output,aYF h.size m.size,λ k ak=>(m.block k (aZG ak h.size) (by simp;omega)).trans (h.block k ak)⟩
theorem Zn (w:World):Ext w w.drew:=(aYG _ w).drew
theorem aEr (w0:World) (A:Option Addr) (c i vb:Nat) (l:List Int) (x:Int) (w:World) (fg:Ext w0 w) (iv:bu.aF 3 8 w w0.heap.size (J.ab A) A c l) (hi:i≤l.length) (ah:l.length≤1000000) (hx:ea x)
  (l3:aM w vb [.int .i64 x] 3 (0,0)) (O5:∀ q∈J.ab A,q=vb→False):
  Calls prog 118 #[.slice A l.length c, .int .i64 (i:Int), .slice (some ⟨vb,0,none⟩) 1 1] w λ e w'=>∃ bQ cc,e= .returned (.slice bQ (l.take i++x::l.drop i).length cc)∧
   bu.aF 3 8 w' w0.heap.size (J.ab bQ) bQ cc (l.take i++x::l.drop i)∧(∀ q∈J.ab bQ,q∈J.ab A∨w.heap.size≤q)∧Mod (J.ab A) w w':=by
 have hlen:=alw l x hi;have T':∀ (j:Nat) v, [eD x][j]? =some v→w.cell? ⟨vb,0+j,none⟩=some v:=λ j v ay=>by rw [aY4,l3.cell];exact ay
 have Tm:∀ v∈ [eD x],v.oneCell'=true:=λ v hv=>by rw [aYf.1 hv];rfl
 have aDS:=fg.size;have l4:(l.length+1) * 8≤140737488355328:=by omega
 have Ib:∀ G,l.length+1≤G→(l.take i++x::l.drop i).length≤G:=λ G h=>by omega
 -- what a new row holds
 have grown:∀ (w':World) (cur:List Value) (G:Nat),aM w' w.heap.size cur 3 (0,0)→G≤maxLen→cur.length=G→l.length+1≤G→cur.take (l.length+1)=(l.map eD).take i++eD x::(l.map eD).drop i→(∀ u∈cur,∃ n:Int,u= .int .i64 n)→(∀ y∈l,ea y)→Ext w w'→
   bu.aF 3 8 w' w0.heap.size (J.ab (some ⟨w.heap.size,0,none⟩)) (some ⟨w.heap.size,0,none⟩) G (l.take i++x::l.drop i):=λ w' cur G bg bP hs hn aH hr di _ =>
  Uh bg aDS bP hs (Ib _ hn) (by rw [hlen];exact l4) (by rw [hlen,ace];exact aH) hr (abA di hx)
 have aaB:=grownCap_ge w (l.length+1) c 3;have ajZ:grownCap w (l.length+1) c 3 ≤maxLen:=grownCap_le_maxLen _ _ _ _ (by unfold maxLen;omega);have new:∀ q∈J.ab (some ⟨w.heap.size,0,none⟩),q∈J.ab A∨w.heap.size≤q:=λ q I=> .inr (aZQ (show q=w.heap.size from aYf.1 I).symm);have aV:∀ k,(Builtin.zeroCells (Value.int .i64 0).cells k).toList.length=k:=λ k=>by rw [aZ0,size_zeroCells];exact ba2 _
 have ajY:=iv.has.2.1;rcases aZc i l.length with A' | A'
 ·-- amid
  obtain ⟨g,rfl⟩:=iv.block (by omega);obtain ⟨cur,bg,KB,oc,hs,hn,aH,hr,di⟩:=Pb iv;have kT:(l.map eD).length=l.length:=aYT _;have tx:∀ (j:Nat) v,(l.map eD)[j]? =some v→w.cell? ⟨g,0+j,none⟩=some v:=λ j v ay=>by
   rw [aY4,bg.cell,← ay,← aH,aYO,aYq];have:=(aX8.1 ay).1;omega
  have aDD:cur.take i=(l.map eD).take i:=by rw [← aH,baz,aZx hi]
  have aCb:g≠vb:=λ e=>O5 g (aYf.2 rfl) e;rcases aZc c (l.length+1) with sf | sf
  ·refine (Any2.slices_Insert_int_grow Ur g 0 l.length c i vb 0 1 1 (l.map eD) [eD x] w A' (by decide) hn sf l4 kT Z tx T' acF Tm).mono λ e w' ⟨κ,τ⟩=> ?_;subst τ;have OG:Ext w (((w.alloc (.cells (((l.map eD).take i).toArray++Builtin.zeroCells (Value.int .i64 0).cells (l.length+1 - i)++Builtin.zeroCells (Value.int .i64 0).cells (grownCap w (l.length+1) c 3 - (l.length+1))) 3)).drew.setCells w.heap.size i [eD x]).drew.setCells w.heap.size (i+1) ((l.map eD).drop i)):=
    Mod.fresh (w1:=(w.alloc (.cells (((l.map eD).take i).toArray++Builtin.zeroCells (Value.int .i64 0).cells (l.length+1 - i)++Builtin.zeroCells (Value.int .i64 0).cells (grownCap w (l.length+1) c 3 - (l.length+1))) 3)).drew) ((aYG _ w).alloc (aYg _) _).drew
     (((Mod.cells w.heap.size [eD x] i _).trans (Mod.a8 (Zn _))).trans (Mod.cells w.heap.size ((l.map eD).drop i) (i+1) _))
   obtain ⟨aA,xx⟩:∃ aA:List Value,(((l.map eD).take i).toArray++Builtin.zeroCells (Value.int .i64 0).cells (l.length+1 - i)++Builtin.zeroCells (Value.int .i64 0).cells (grownCap w (l.length+1) c 3 - (l.length+1)))=aA.toArray:=⟨_,Array.toArray_toList.symm⟩;have aah:aA=(l.map eD).take i++(Builtin.zeroCells (Value.int .i64 0).cells (l.length+1 - i)).toList++(Builtin.zeroCells (Value.int .i64 0).cells (grownCap w (l.length+1) c 3 - (l.length+1))).toList:=by
    have:=aZb Array.toList xx;simpa using this.symm
   have aAZ:aA.length=grownCap w (l.length+1) c 3 :=by rw [aah,aX9,aX9,aV,aV,aYa,kT];omega
   have aA0:aA.take i=(l.map eD).take i:=by rw [aah,aYK,aY1 (by rw [aYa,kT];omega),baz,Nat.min_self]
   refine ⟨_,_,by rw [hlen];exact κ,grown _ (oq (oq aA i [eD x]) (i+1) ((l.map eD).drop i)) _ ?_ ajZ (by rw [DC,DC];exact aAZ) aaB (aEt hi kT (by omega) aA0) ?_ di OG,new,Mod.a8 OG⟩
   ·have Fa:aM (w.alloc (.cells (((l.map eD).take i).toArray++Builtin.zeroCells (Value.int .i64 0).cells (l.length+1 - i)++Builtin.zeroCells (Value.int .i64 0).cells (grownCap w (l.length+1) c 3 - (l.length+1))) 3)).drew w.heap.size aA 3 (0,0):=by rw [xx];exact aM.new w aA 3 (0,0)
    exact aM.setCells _ _ _ _ (show aM (World.setCells _ _ _ _).drew _ _ _ _ from aM.setCells _ _ _ _ Fa)
   ·intro u hu;rcases I3 _ _ _ hu with hu | hu
    ·rcases I3 _ _ _ hu with hu | hu
     ·rw [aah] at hu;rcases aYo.1 hu with hu | hu
      ·rcases aYo.1 hu with hu | hu
       ·exact Lm (aZp hu)
       ·exact aci hu
      ·exact aci hu
     ·rw [aYf.1 hu];exact ⟨x,Z⟩
    ·exact Lm (aZw hu)
  ·refine (Any2.slices_Insert_int_shift Ur g 0 l.length c i vb 0 1 1 (l.map eD) [eD x] w A' (by decide) sf ajY (λ e=>aCb e.symm) kT Z tx (λ j ay=>by rw [aY4,bg.cell,aYb (by omega)];rfl) (λ j _=>iv.free _) T' acF Tm 3 3 1 c (by unfold aM at l3;simp [World.shape?,l3]) (by unfold aM at bg;simp [World.shape?,bg,hs]) (by omega) (l3.free _ (.inr (aYX _))) (l3.free _ (.inr (aYX _)))).mono λ e w' ⟨κ,τ⟩=> ?_;subst τ;refine ⟨_,_,by rw [hlen];exact κ,Uh (cur:=oq (oq cur (i+1) ((l.map eD).drop i)) i [eD x]) ?_ KB oc (by rw [DC,DC];exact hs) (Ib _ sf) (by rw [hlen];exact l4) (by rw [hlen,ace];exact aEs hi kT (by omega) aDD) ?_ (abA di hx),λ q I=> .inl I, ?_⟩
   ·rw [aY4,aY4];exact aM.setCells _ _ _ _ (aM.setCells _ _ _ _ (show aM w.drew _ _ _ _ from bg))
   ·intro u hu;rcases I3 _ _ _ hu with hu | hu
    ·rcases I3 _ _ _ hu with hu | hu
     ·exact hr u hu
     ·exact Lm (aZw hu)
    ·rw [aYf.1 hu];exact ⟨x,Z⟩
   ·exact ((Mod.a8 (Zn w)).trans (Mod.cells g _ _ _)).trans (Mod.cells g _ _ _)
 ·-- at the end
  obtain rfl:i=l.length:=by omega
  have kT:(l.map eD).length=l.length:=aYT _;have e0:(l.map eD).take l.length=l.map eD:=aYp (by omega);have aW:(l.map eD).drop l.length= []:=baW (by omega);rcases aZc c (l.length+1) with sf | sf
  ·have TI:∀ a,A=some a→∀ (j:Nat) v,(l.map eD)[j]? =some v→w.cell? (a.add j)=some v:=λ a ha j v ay=>by
    have aRM:=(aX8.1 ay).1;obtain ⟨g,e⟩:=iv.block (by omega);subst e;obtain rfl:=aYd ha;obtain ⟨cur,bg,KB,oc,hs,hn,aH,hr,di⟩:=Pb iv;rw [show (⟨g,0,none⟩:Addr).add j=⟨g,0+j,none⟩ from Addr.add_lit ..,aY4,bg.cell,← ay,← aH,aYO,aYq (by omega)]
   have di:∀ y∈l,ea y:=by
    obtain ⟨_,ps,_,_,_,dM⟩:=iv;exact (Zv dM).2
   refine (Any2.slices_Insert_int_end_grow Ur A l.length c vb 0 1 1 (l.map eD) [eD x] w (by decide) iv.has.1 sf l4 kT Z (λ h=>by subst h;have:=iv.anv.1;rw [this];rfl) TI T' Tm).mono λ e w' ⟨κ,τ⟩=> ?_;subst τ;have OG:Ext w (w.drew.alloc (.cells ((l.map eD++ [eD x]).toArray++Builtin.zeroCells (Value.int .i64 0).cells (grownCap w (l.length+1) c 3 - (l.length+1))) 3)):=(Zn w).alloc (aYg _) _;refine ⟨_,_,by rw [hlen];exact κ,grown _ ((l.map eD++ [eD x])++(Builtin.zeroCells (Value.int .i64 0).cells (grownCap w (l.length+1) c 3 - (l.length+1))).toList) _ ?_ ajZ (by rw [aX9,aX9,aV,kT,aYr];omega) aaB ?_ ?_ di OG,new,Mod.a8 OG⟩
   ·have Fa:=aM.new w.drew ((l.map eD++ [eD x])++(Builtin.zeroCells (Value.int .i64 0).cells (grownCap w (l.length+1) c 3 - (l.length+1))).toList) 3 (0,0);have e:((l.map eD++ [eD x])++(Builtin.zeroCells (Value.int .i64 0).cells (grownCap w (l.length+1) c 3 - (l.length+1))).toList).toArray=(l.map eD++ [eD x]).toArray++Builtin.zeroCells (Value.int .i64 0).cells (grownCap w (l.length+1) c 3 - (l.length+1)):=by
     apply aZK;simp
    rw [e] at Fa;exact Fa
   ·rw [e0,aW,aY1 (by rw [aX9,kT,aYr];exact aYg _),aYp (by rw [aX9,kT,aYr];exact aYg _)]
   ·intro u hu;rcases aYo.1 hu with hu | hu
    ·rcases aYo.1 hu with hu | hu
     ·exact Lm hu
     ·rw [aYf.1 hu];exact ⟨x,Z⟩
    ·exact aci hu
  ·have hA:∃ g,A=some ⟨g,0,none⟩:=by
    cases A with
    | none=>have:=iv.anv.2;omega
    | some a =>
     obtain ⟨_,ps,_,_,bK,_⟩:=iv;obtain ⟨_,τ⟩:=bK;rcases τ with ⟨τ,_⟩ | ⟨g,cap,cur,hv,_⟩
     ·cases τ
     ·injection hv with hv;exact ⟨g,hv⟩
   obtain ⟨g,rfl⟩:=hA;obtain ⟨cur,bg,KB,oc,hs,hn,aH,hr,di⟩:=Pb iv;refine (Any2.slices_Insert_int_end_room Ur g 0 l.length c vb 0 1 1 [eD x] w (by decide) sf ajY Z (λ j ay=>by rw [aY4,bg.cell,aYb (by omega)];rfl) (λ j _=>iv.free _) T' Tm).mono λ e w' ⟨κ,τ⟩=> ?_;subst τ;refine ⟨_,_,by rw [hlen];exact κ,Uh (cur:=oq cur l.length [eD x]) ?_ KB oc (by rw [DC];exact hs) (Ib _ sf) (by rw [hlen];exact l4) ?_ ?_ (abA di hx),λ q I=> .inl I,Mod.cells g _ _ _⟩
   ·rw [aY4];exact aM.setCells _ _ _ _ bg
   ·rw [hlen,ace,e0,aW,I2 _ _ _ (by rw [aYr];omega),aH,aY1 (by rw [aX9,kT,aYr];exact aYg _),aYp (by rw [aX9,kT,aYr];exact aYg _)]
   ·intro u hu;rcases I3 _ _ _ hu with hu | hu
    ·exact hr u hu
    ·rw [aYf.1 hu];exact ⟨x,Z⟩
end
section
variable {w:World} {ty:TypeId} {pos:String} {af:Array Edge} {x:Operand} {k lo c b j:Nat} {v u:Int}
theorem Yv {P:Program} {E:List (Nat×Value)} {d:Option Nat} {g:Option (Nat×Bool)} {src dst:TypeId} {k k':IntKind} {i r:Int} (hr:∀ w,(convert src dst (.int k i)).run P w= .ok (.int k' (k'.wrap i)) w) (h:k'.wrap i=r) (hx:ev E x=some (.int k i)):
  c9 P E ⟨d, .convert src dst x,ty,pos,af,g⟩ w (.int k' r) w:=λ n a ha=>by
 subst h;simp only [execOp,ha.ev hx,aYt,hr w,aYj,aYu]
theorem aJ8 {cur:List Value} {zs:List Value} (h:lo+zs.length≤k) (ak:k≤cur.length):(oq cur lo zs).take k=(cur.take k).take lo++zs++(cur.take k).drop (lo+zs.length):=by
 rw [I2 _ _ _ (by omega)];have κ:(cur.take lo++zs).length=lo+zs.length:=by rw [aX9,aYa];omega
 rw [bcn,κ,aYp (by rw [κ];exact h),baz,aZx (by omega),List.drop_take]
theorem agY {n:Nat} {E:List (Nat×Value)} {Q:Exit→Act→World→Prop} {ops:Array Oper} {y:Operand} {rest:List Oper} {aA dl YF sl sc d:Nat} {A D S:Option Addr} {Vn:Addr} {l zs:List Int}
  (h:bu.aF 3 8 w aA (J.ab A) A c l) (hA:A=some ⟨b,0,none⟩) (hx:ev E x=some (.slice D dl YF)) (xw:D=some ⟨b,lo,none⟩) (aE:ev E y=some (.slice S sl sc)) (hS:S=some Vn) (abk:∀ (j:Nat) (v:Int),zs[j]? =some v→w.cell? (Vn.add j)=some (Φ v)) (bc:∀ v∈zs,ea v)
  (hm:zs.length=Nat.min sl dl) (hle:lo+zs.length≤l.length) (A_:Nat.blt d n=true)
  (ak:∀ w1,Mod (J.ab A) w w1→bu.aF 3 8 w1 aA (J.ab A) A c (l.take lo++zs++l.drop (lo+zs.length))→cg prog n ops Q rest ((d,Φ (zs.length:Int))::E) w1):
  cg prog n ops Q (⟨some d, .call {callee:= .builtin .copy,args:=#[x,y],argTypes:=#[22, 22]},ty,pos,af,none⟩::rest) E w:=λ a ha=>by
 subst hA xw hS;obtain ⟨cur,κ,τ,au,aU,bN,cq,ew,gB⟩:=Pb h;have kT:(zs.map eD).length=zs.length:=aYT _;have ke:(Builtin.copy_ #[22, 22] ty #[.slice (some ⟨b,lo,none⟩) dl YF, .slice (some Vn) sl sc]).run prog w= .ok (goInt (zs.map eD).length) (w.setCells b lo (zs.map eD)):=
  run_copy_cells w _ _ ty 3 b lo dl YF Vn sl sc (zs.map eD) underlying22 (by
    obtain ⟨i0,lK,pj,uS,FI⟩:=baD xI;rw [lK];simp [uS]) (by rw [kT];exact hm)
   (λ j v ay=>by
    rw [aYv] at ay;cases hv:zs[j]? with
    | none=>rw [hv] at ay;cases ay
    | some u=>rw [hv] at ay;rw [← aYd ay];exact abk j u hv)
   (λ j ay=>by rw [kT] at ay;rw [κ.cell,aYb (by omega)];rfl) (λ j _=>h.free _) acF
 refine Hm Z ?_;unfold Oper.wp execOp;simp only [resolve,invoke,builtin,aYt,aYu,aYj,bcp,aY3,bac,ha.ev hx,ha.ev aE,ke];rw [kT];refine ak _ (Mod.cells b _ _ _) (Uh (cur:=oq cur lo (zs.map eD)) (aM.setCells _ _ _ _ κ) τ au (by rw [DC];exact aU) ?_ ?_ ?_ ?_ ?_) _ (ha.put A_ _)
 ·have:(l.take lo++zs++l.drop (lo+zs.length)).length=l.length:=by rw [aX9,aX9,aYa,aYs];omega
  rw [this];exact bN
 ·have:(l.take lo++zs++l.drop (lo+zs.length)).length=l.length:=by rw [aX9,aX9,aYa,aYs];omega
  rw [this];obtain ⟨ag,_⟩:=h;exact ag
 ·have:(l.take lo++zs++l.drop (lo+zs.length)).length=l.length:=by rw [aX9,aX9,aYa,aYs];omega
  rw [this,aJ8 (by rw [kT];exact hle) (by omega),cq,kT,aYA,aYA,ba1,List.map_drop]
 ·intro u hu;rcases I3 _ _ _ hu with hu | hu
  ·exact ew u hu
  ·exact Lm hu
 ·intro u hu;rcases aYo.1 hu with hu | hu
  ·rcases aYo.1 hu with hu | hu
   ·exact gB u (aZp hu)
   ·exact bc u hu
  ·exact gB u (aZw hu)
theorem aI0 (h:lo<c):eF (bA b) c lo 1=some ⟨b,lo,none⟩:=by
 unfold eF;rw [aYi (by omega)];show some (Addr.add _ _)=_;unfold Addr.add;split
 ·have:lo=0:=by omega
  subst this;rfl
 ·simp
theorem aIR {N:Nat} (aG:0<k) (κ:k<N):(List.replicate k v++List.replicate (N - k) (0:Int)).take k++List.replicate (Nat.min k (N - k)) v++(List.replicate k v++List.replicate (N - k) (0:Int)).drop (k+(List.replicate (Nat.min k (N - k)) v).length)=List.replicate (k+Nat.min k (N - k)) v++List.replicate (N - (k+Nat.min k (N - k))) (0:Int):=by
 rw [aY1 (by rw [aYQ];exact aYg _),aYp (by rw [aYQ];exact aYg _),aYQ,List.drop_append,aYQ,baW (by rw [aYQ];omega),aZy,bdf,List.replicate_append_replicate];congr 2;omega
theorem apT {x:Int} (aG:0≤x) (κ:x<18446744073709551616):IntKind.u64.wrap x=x:=by rw [aZt];omega
theorem aJK {X:Option Addr} {ft:Nat} (Fe:bu.aK 8 w X ft [v]) (ay: [v][j]? =some u):w.cell? ((⟨fN X,mA X,none⟩:Addr).add j)=some (Φ u):=by
 obtain ⟨b,o,rfl,hc⟩:=F6 Fe (by simp);rw [show (⟨fN (some ⟨b,o,none⟩),mA (some ⟨b,o,none⟩),none⟩:Addr)=⟨b,o,none⟩ from rfl,Hn];exact hc j u ay
theorem aJL {N:Nat} (h:bu.aK 8 w (bA b) c (List.replicate k v++List.replicate (N - k) (0:Int))) (aG:0<k) (ay:(List.replicate (Nat.min k (N - k)) v)[j]? =some u):w.cell? ((⟨b,0,none⟩:Addr).add j)=some (Φ u):=by
 obtain ⟨qM,o,e,hc⟩:=F6 h (by rw [aX9,aYQ];omega);have e:=aYd e;injection e with aW bb
 subst aW;subst bb;rw [Hn];have bF:=(aX8.1 ay).1;rw [aYQ] at bF;have hm:Nat.min k (N - k)≤k:=Nat.min_le_left _ _;have hu:u=v:=by rw [aZn] at ay;split at ay<;>simp_all
 refine hc j u ?_;rw [aYw (by rw [aYQ];omega),aZn,aYq (by omega),hu]
theorem aox (X:Option Addr) (ft N:Nat) (v:Int) (w:World) (Fe:bu.aK 8 w X ft [v]) (aG:0<N) (uO:N≤1000000):
  Calls prog 168 #[.slice X 1 ft,Φ (N:Int)] w (λ e w'=>∃ A c,e= .returned (.slice A (List.replicate N v).length c)∧bu.aF 3 8 w' w.heap.size (J.ab A) A c (List.replicate N v)∧Ext w w'):=by
 have TY:=LH Fe;have aC6:=TY v (aYf.2 rfl);refine ch (n:=48) func168 Z Z Z ?_;refine aw<|aJ Z<|av<|aB Z<|dR Z Z<|aC<| ?_;have hy:(decide ((N:Int)<0))=false:=by (first | exact aYL (by omega) | simp only [aYI];omega | (rw [aYM];exact ⟨by decide,aYL (by omega)⟩))
 refine gj (by rw [← hy];rfl)<|bm<|aB Z<|aa (b5 underlying22 Z)<|aa (Yv (r:=(1:Int)) (λ _=>by kernel_rfl) (apT (by omega) (by omega)) Z)<|vm Z<|aa (Yv (r:=(N:Int)) (λ _=>by kernel_rfl) (apT (by omega) (by omega)) Z)<|cM azb Z (mul_one N (by omega) _) λ l9 aR=> ?_;have:=aR.size;refine vm Z<|bs Z Z<|bs Z Z<|va Z<|aJ Z<|av<|aB Z<|aa (gO Z Z)<|vm Z<|cm Z Z Z<|vm Z<|cm Z Z Z<|aa (gO Z Z)<|aa (fR Z Z)<|aC<| ?_;have mv:(decide (9223372036854775807<(N:Int)))=false:=by (first | exact aYL (by omega) | simp only [aYI];omega | (rw [aYM];exact ⟨by decide,aYL (by omega)⟩))
 refine gj (by rw [← mv];rfl)<|bm<|aB Z<|aa (Yv (r:=(N:Int)) (λ _=>by kernel_rfl) gD Z)<|PB (R:=bu) (by_:=8) (B:=w.heap.size) (c:=N) (zv:=(Φ 0)) (q:=0) J.qa underlying22 xI Z Z (λ j u h=>Bw j u h) (λ _=>⟨Z,b8.2 (by decide)⟩) Z Z Z (by omega) (by omega) (by omega) λ Je Hr sI aUa asY=> ?_;have mI:=γ aR sI;refine aJ Z<|aB Z<|vm Z<|agY (zs:= [v]) (lo:=0) asY Z Z Z Z (Fe.bT (by simp)) (λ j u ay=>aJK (Fe.keep mI) ay) TY (by rw [aYr];exact (aZx (by omega)).symm) (by rw [aYQ];simp;omega) Z λ L0 Bj RE=> ?_;have RE:bu.aF 3 8 L0 w.heap.size (J.ab (bA Hr)) (bA Hr) N (List.replicate 1 v++List.replicate (N - 1) (0:Int)):=by have h:=RE;rw [List.take_zero,aZy,aYr,bdf] at h;exact h
 have yk:=Ext.mod mI Bj (λ q I=>by have:=(RE.lt q I).1;omega);refine aJ Z<|av<|bJ<| ?_;refine eV (λ cp cn aP=>∃ k:Nat,cn= [(4, .slice none 0 0),(7, .slice (bA Hr) N N),(8,Φ (k:Int))]∧cp=N - k∧Ext w aP∧bu.aF 3 8 aP w.heap.size (J.ab (bA Hr)) (bA Hr) N (List.replicate k v++List.replicate (N - k) (0:Int))∧(0<k)∧(k≤N)) _ _ ⟨1,Z,Z,yk,RE,by omega,by omega⟩ (qp Z) ?_;rintro tL aN3 t_ ⟨k,rfl,rfl,iP,Xp,q7,aRP⟩;refine av<|aB Z<|vm Z<|aa (b5 underlying22 Z)<|dR Z Z<|aC<| ?_;refine en Z (λ vV=> ?_) (λ vV=> ?_)
 ·refine bm<|bJ<| ?_;refine cO [(7,3)] [0,1,2,3,4,5,6,7,8,9] ?_;refine a1 Z Z<|a1 Z Z<|a1 Z Z<|aq Z (λ _=>Vm k underlying22 dg Z Z Z (by omega))<|a1 Z Z<|a1 Z Z<|aq Z (λ _=>LI k k underlying22 dg Z Z Z (by omega) Z)<|dE Z Z Z λ ua fp Q hK=>agY (zs:=List.replicate (Nat.min k (N - k)) v) (lo:=k) (Xp.later fp) Z Z (aI0 (by omega)) Z Z (λ j u ay=>aJL (N:=N) (Xp.later fp).has q7 ay) (λ y aE=>by rw [List.eq_of_mem_replicate aE];exact aC6) (by rw [aYQ]) (by rw [aYQ,aX9,aYQ,aYQ];have:Nat.min k (N - k)≤N - k:=bbl _ _;omega) Z λ DK kG wY=>hK _ _ ?_;have kM:=γ iP fp;have wY:bu.aF 3 8 DK w.heap.size (J.ab (bA Hr)) (bA Hr) N (List.replicate (k+Nat.min k (N - k)) v++List.replicate (N - (k+Nat.min k (N - k))) (0:Int)):=by have h:=wY;rw [aIR q7 (by omega)] at h;exact h
  have rM:=Ext.mod kM kG (λ q I=>by have:=(wY.lt q I).1;omega);have kT:(List.replicate (Nat.min k (N - k)) v).length=Nat.min k (N - k):=aYQ;rw [kT];refine aq Z (λ _=>bad Z Z (pk ((by have:Nat.min k (N - k)≤N - k:=bbl _ _;omega))))<|aq Z (λ _=>ee Z)<|fn λ ud dH=> ?_;have hI:=γ rM dH;refine b1<| ?_;have wY:=wY.later dH;exact om _ _ ⟨(k+Nat.min k (N - k)),Z,Z,hI,wY,by have:0<Nat.min k (N - k):=Nat.lt_min.2 ⟨q7,by omega⟩;omega,by have:Nat.min k (N - k)≤N - k:=bbl _ _;omega⟩ (by have:0<Nat.min k (N - k):=Nat.lt_min.2 ⟨q7,by omega⟩;have:Nat.min k (N - k)≤N - k:=bbl _ _;omega) (.cons Z (.cons Z (.cons (FM Z (by omega)) .nil)))
 ·refine dn<|dk<|dG<|dj<|aX<|aB Z<|aY Z<|b_ Z Z<| ?_;obtain rfl:k=N:=by omega
  exact ⟨_,_,by rw [aYQ];rfl,by have h:=Xp;rw [bb9,List.replicate_zero,aYP] at h;exact h,iP⟩
end
theorem aHX (f:aL) (a b:az) (P:Option Addr) (cy:Nat) (w:World) (cK:bu.aK 8 w P cy f.a_) (he:f.et a≠0):
  Calls prog 136 #[.agg #[Φ f.wide,Φ f.high, .slice P f.a_.length cy], .agg #[Φ a.x,Φ a.y], .agg #[Φ b.x,Φ b.y]] w (λ e w'=>e= .returned (.tuple #[.pointer none,Φ (f.et a)])∧Ext w w'):=by
 have dw:(f.et a != 0)=true:=by simpa using he
 refine ch (n:=61) func136 Z Z Z ?_;refine dZ Z Z λ cG bB aR d' ae=> ?_;refine jR Z Z λ eC cJ bt hP ar=> ?_;have bO:=γ aR bt;refine jR Z Z λ hG jf cr rm br=> ?_;have c6:=γ bO cr;refine va Z<|aJ Z<|aw<| ?_;have ae:=ae.later (γ bt cr);refine aa (ax Z (ae.all mo mq))<| ?_;have ar:=ar.later cr;refine aa (ax Z (ar.all cA b3))<|cM s6 Z (uM f a _ _ _ (cK.keep c6)) λ nR gb=> ?_;have eZ:=γ c6 gb;refine vm Z<|bs Z Z<|bs Z Z<|va Z<|aJ Z<|av<|aB Z<|cS Z Z<|aC<|eT (ep Z dw)<|aB Z<|va Z<|aY Z<|bD<| ?_;refine f_ Z Z Z<| ?_;exact ⟨Z,eZ⟩
theorem aHY (f:aL) (a b:az) (P:Option Addr) (cy:Nat) (w:World) (cK:bu.aK 8 w P cy f.a_) (TM:f.et a=0) (he:f.et b≠0):
  Calls prog 136 #[.agg #[Φ f.wide,Φ f.high, .slice P f.a_.length cy], .agg #[Φ a.x,Φ a.y], .agg #[Φ b.x,Φ b.y]] w (λ e w'=>e= .returned (.tuple #[.pointer none,Φ (f.et b)])∧Ext w w'):=by
 have dw:(f.et a != 0)=false:=by simpa using TM
 have dN:(f.et b != 0)=true:=by simpa using he
 refine ch (n:=61) func136 Z Z Z ?_;refine dZ Z Z λ cG bB aR d' ae=> ?_;refine jR Z Z λ eC cJ bt hP ar=> ?_;have bO:=γ aR bt;refine jR Z Z λ hG jf cr rm br=> ?_;have c6:=γ bO cr;refine va Z<|aJ Z<|aw<| ?_;have ae:=ae.later (γ bt cr);refine aa (ax Z (ae.all mo mq))<| ?_;have ar:=ar.later cr;refine aa (ax Z (ar.all cA b3))<|cM s6 Z (uM f a _ _ _ (cK.keep c6)) λ nR gb=> ?_;have eZ:=γ c6 gb;refine vm Z<|bs Z Z<|bs Z Z<|va Z<|aJ Z<|av<|aB Z<|cS Z Z<|aC<|gj (ep Z dw)<|bm<|aw<| ?_;have ae:=ae.later gb;refine aa (ax Z (ae.all mo mq))<| ?_;have br:=br.later gb;refine aa (ax Z (br.all cA b3))<|cM s6 Z (uM f b _ _ _ (cK.keep eZ)) λ rF cX=> ?_;have iA:=γ eZ cX;refine vm Z<|bs Z Z<|bs Z Z<|va Z<|aJ Z<|av<|aB Z<|cS Z Z<|aC<|eT (ep Z dN)<|aB Z<|va Z<|aY Z<|bD<| ?_;refine f_ Z Z Z<| ?_;exact ⟨Z,iA⟩
theorem aHZ (f:aL) (a b:az) (P:Option Addr) (cy:Nat) (w:World) (cK:bu.aK 8 w P cy f.a_) (TM:f.et a=0) (aj9:f.et b=0) (he:f.place a=1∨f.place b=1):
  Calls prog 136 #[.agg #[Φ f.wide,Φ f.high, .slice P f.a_.length cy], .agg #[Φ a.x,Φ a.y], .agg #[Φ b.x,Φ b.y]] w (λ e w'=>e= .returned (.tuple #[.pointer none,Φ 9])∧Ext w w'):=by
 have dw:(f.et a != 0)=false:=by simpa using TM
 have dN:(f.et b != 0)=false:=by simpa using aj9
 have hb:((f.oE a == 1) || (f.oE b == 1))=true:=by obtain ⟨hf,O8⟩:=RY TM;obtain ⟨_,abv⟩:=RY aj9;rw [(aL.n8 hf O8).2,(aL.n8 hf abv).2];simpa using he
 refine ch (n:=61) func136 Z Z Z ?_;refine dZ Z Z λ cG bB aR d' ae=> ?_;refine jR Z Z λ eC cJ bt hP ar=> ?_;have bO:=γ aR bt;refine jR Z Z λ hG jf cr rm br=> ?_;have c6:=γ bO cr;refine va Z<|aJ Z<|aw<| ?_;have ae:=ae.later (γ bt cr);refine aa (ax Z (ae.all mo mq))<| ?_;have ar:=ar.later cr;refine aa (ax Z (ar.all cA b3))<|cM s6 Z (uM f a _ _ _ (cK.keep c6)) λ nR gb=> ?_;have eZ:=γ c6 gb;refine vm Z<|bs Z Z<|bs Z Z<|va Z<|aJ Z<|av<|aB Z<|cS Z Z<|aC<|gj (ep Z dw)<|bm<|aw<| ?_;have ae:=ae.later gb;refine aa (ax Z (ae.all mo mq))<| ?_;have br:=br.later gb;refine aa (ax Z (br.all cA b3))<|cM s6 Z (uM f b _ _ _ (cK.keep eZ)) λ rF cX=> ?_;have iA:=γ eZ cX;refine vm Z<|bs Z Z<|bs Z Z<|va Z<|aJ Z<|av<|aB Z<|cS Z Z<|aC<|gj (ep Z dN)<|bm<|av<|aB Z<|aa (beq Z Z)<|vm Z<|ec Z Z<| ?_;refine bh Z (λ hc=>beq (gt hc Z) Z)<|aa (eW Z Z Z Z)<|aC<|eT (ep Z hb)<|aw<|va Z<|aY Z<|bD<|f_ Z Z Z<| ?_;exact ⟨Z,iA⟩
theorem aH1 (f:aL) (a b:az) (P:Option Addr) (cy:Nat) (w:World) (cK:bu.aK 8 w P cy f.a_) (hf:f.a7=0) (ga:f.ground a=true) (nc:f.ground b=true) (oK:c' f a b b<0):
  Calls prog 136 #[.agg #[Φ f.wide,Φ f.high, .slice P f.a_.length cy], .agg #[Φ a.x,Φ a.y], .agg #[Φ b.x,Φ b.y]] w (λ e w'=>(∃ aZ,qJ f a b aZ)∧e= .returned (.tuple #[.pointer none,Φ 6])∧Ext w w'):=by
 obtain ⟨g1,g2,g3,g4,g5,g6⟩:=aL.eB hf;have KX:=aL.fa hf;have C4:=aL.lj ga;have oL:=aL.lj nc;obtain ⟨_,_,b2,a2,a3,a4⟩:=aL.idx hf C4;obtain ⟨_,_,k_,fw,hQ,xa⟩:=aL.idx hf oL;have aaK:=(aL.n8 hf C4).1;have aaL:=(aL.n8 hf oL).1;have abq:=(aL.n8 hf C4).2;have O5:=(aL.n8 hf oL).2;have abg:=aL.E' ga;have K2:=aL.E' nc;have FD:0<f.a_.length:=by have:=(aL.AD hf C4).1;omega
 have abG:(f.et a != 0)=false:=by rw [aaK];rfl
 have abH:(f.et b != 0)=false:=by rw [aaL];rfl
 have abK:(f.oE a == 1)=false:=by rw [abq];simpa using abg
 have abL:(f.oE b == 1)=false:=by rw [O5];simpa using K2
 have abI:decide (c' f a b b<0)=true:=aYD oK;refine ch (n:=61) func136 Z Z Z ?_;refine dZ Z Z λ cG bB aR d' ae=> ?_;have hE:=ae.lt;refine jR Z Z λ eC cJ bt hP ar=> ?_;have bO:=γ aR bt;have mB:=ar.lt;refine jR Z Z λ hG jf cr rm br=> ?_;have c6:=γ bO cr;have xX:=br.lt;refine va Z<|aJ Z<|aw<| ?_;have ae:=ae.later (γ bt cr);refine aa (ax Z (ae.all mo mq))<| ?_;have ar:=ar.later cr;refine aa (ax Z (ar.all cA b3))<|cM s6 Z (uM f a _ _ _ (cK.keep c6)) λ nR gb=> ?_;have:=gb.size;have eZ:=γ c6 gb;refine vm Z<|bs Z Z<|bs Z Z<|va Z<|aJ Z<|av<|aB Z<|cS Z Z<|aC<|gj (ep Z abG)<|bm<|aw<| ?_;have ae:=ae.later gb;refine aa (ax Z (ae.all mo mq))<| ?_;have br:=br.later gb;refine aa (ax Z (br.all cA b3))<|cM s6 Z (uM f b _ _ _ (cK.keep eZ)) λ rF cX=> ?_;have:=cX.size;have iA:=γ eZ cX;refine vm Z<|bs Z Z<|bs Z Z<|va Z<|aJ Z<|av<|aB Z<|cS Z Z<|aC<|gj (ep Z abH)<|bm<|av<|aB Z<|aa (beq Z Z)<|vm (ep Z abK)<|cm Z Z Z<| ?_;refine vm Z<|cm Z Z Z<|aa (beq Z Z)<|aa (fR Z (ep Z abL))<|aC<|gj Z<|bm<|av<| ?_;refine cO [(0,0),(1,0),(2,2),(4,0),(6,2),(8,2)] [0,1,3,4,5,2,6,7,8,9] ?_;have ae:=ae.later cX;refine dT Z (λ _ x=>ax Z ((ae.later x).all mo mq))<| ?_;have br:=br.later cX;refine dT Z (λ _ x=>ax Z ((br.later x).all cA b3))<|aq Z (λ _=>aj y0 Z)<|cf Z Z ae c8 Z<|aq Z (λ _=>b5 underlying22 Z)<|ff Z Z Z λ zU j5 Q hK=>c7 (e:= 3) (cs:= [Φ (-1)]) Z (λ _=>by kernel_rfl) Z λ BG agi dH amH Ah=>hK _ _ ⟨γ j5 dH, ?_⟩;have:=j5.size;have k4:=γ iA j5;have o7:=γ k4 dH;have aIo:=Ah.lt;refine ff Z Z Z λ Jc kJ Q hK=>ca ait Z Z ((aox _ _ f.a_.length (-1) _ (aM.gu (R:=bu) (by_:=8) (q:= -1) (Ah.later kJ) ⟨Z,b8.2 (by decide)⟩ (by decide)) FD (by omega)).mono ?_);rintro e wH ⟨wT,AH,rfl,nX,fF⟩;refine ⟨_,Z,hK _ _ ⟨γ kJ fF, ?_⟩⟩;have:=kJ.size;have z8:=γ o7 kJ;have:=fF.size;have j6:=γ z8 fF;have zP:=bM nX.lt;have uV:=dx nX.lt;have nX:=nX.down (show w.heap.size≤Jc.heap.size by omega);refine r9 (v:= .agg #[Φ f.wide,Φ f.high, .slice P f.a_.length cy,Φ b.x,Φ b.y, .slice wT ((List.replicate f.a_.length (-1)).length) AH, .slice none 0 0]) Z Z (λ _=>lH Z (by kernel_rfl)) Z<|ff Z Z Z λ BH hq Q hK=>jR Z Z λ Qo Cq fv amJ wS=>hK _ _ ⟨γ hq fv, ?_⟩;have:=hq.size;have nA:=γ j6 hq;have ym:=γ nA fv;have PW:=wS.lt;refine aq Z (λ _=>ee Z)<|fn λ ue fq=> ?_;have:=fq.size;have j7:=γ ym fq;refine aX<|aB Z<| ?_;have ar:=ar.later (γ gb (γ cX (γ j5 (γ dH (γ kJ (γ fF (γ hq (γ fv fq))))))));refine aa (ax Z (ar.all cA b3))<| ?_;have wS:=wS.later fq;have nX:=nX.later (γ hq (γ fv fq));have Xe:cw.rep.aF 304 32 ue w.heap.size (J.ab none) none 0 ([]:List cw):=J.aF.nil _;refine ca Y8 Z Z ((acP w f P wT none cy AH 0 Cq ((List.replicate f.a_.length (-1))) ([]:List cw) b a 0 _ j7 hf cK wS (by omega) Xe (λ q I=>by simp [J.ab] at I) (λ y aE=>by simp at aE) (by simp) (by omega) (by omega) (by omega)).mono ?_);rintro e L7 ⟨cb,c1,rfl,cC,pY,aaH,Ft,zx⟩;refine cu ?_;have sK:=Ext.mod j7 zx (λ q I=>(aYk.1 I).elim (λ h=>by omega) (λ h=>by simp [J.ab] at h));have zo:∀ q∈J.ab cb,ue.heap.size≤q:=λ q I=>(Ft q I).elim (λ h=>by simp [J.ab] at h) id;refine aC<|aB Z<| ?_;have nX:=nX.mod zx (λ q I h=>(aYk.1 h).elim (λ h=>by exfalso;(have:=zP q I;omega)) (λ h=>by simp [J.ab] at h));refine ca aiu Z Z ((an8 w f P wT cb cy AH c1 Cq ((List.replicate f.a_.length (-1))) (cv.push cw.all ([]:List cw) ⟨a,0,0+aL.l1 b a⟩) b a a _ sK hf cK cC (by omega) nX pY (λ q I ag=>by exfalso;(have:=zP q I;omega)) aaH (λ q κ τ=>by exfalso;(have:=zo q κ;(have:=zP q τ;omega))) (uD.start hf ga a) yO.start oL (by rw [cv.PV,adV];simp;omega)).mono ?_);rintro e Qp ⟨aZ,dp,c2,kU,rfl,cP,ja,j1,kH⟩;refine cu ?_;have rQ:=Ext.mod sK kH (λ q I=>(aYk.1 I).elim (λ h=>by omega) (λ h=>(aYo.1 h).elim (λ h=>(nX.lt q h).1) (λ h=>(pY.lt q h).1)));have se:=kR hf j1.len oL;refine aC<|av<|av<| ?_;refine cO [(3,0),(5,0),(6,0),(8,0)] [0,1,2,3,4,5,6,7,8,9] ?_;refine a1 Z Z<|aq Z (λ _=>bx Z)<|aq Z (λ _=>aj p9 Z)<|cf Z Z cP c8 Z<|a1 Z Z<| ?_;have br:=((br.later (γ j5 (γ dH (γ kJ (γ fF (γ hq (γ fv fq))))))).mod zx (λ I=>(aYk.1 I).elim (λ h=>by omega) (λ h=>by simp [J.ab] at h))).mod kH (λ I=>(aYk.1 I).elim (λ h=>by omega) (λ h=>(aYo.1 h).elim (λ h=>(show ∀ q,q∈J.ab wT→q=jf→False from λ q h ag=>by (have:=uV q h;omega)) _ h rfl) (λ h=>(show ∀ q,q∈J.ab cb→q=jf→False from λ q h ag=>by (have:=zo q h;omega)) _ h rfl)));refine dT Z (λ _ x=>ax Z ((br.later x).all cA b3))<|qW Z Z n_ Z (λ _ x=>tT w f P wT dp cy AH c2 Cq aZ kU b b _ (γ rQ x) hf cK (cP.later x) (by first | omega | (dsimp only;omega))) Z<|aq Z (λ _=>cl ((b.y * f.wide+b.x).toNat) underlying22 dg Z Z (ja.has.bT (aV ((b.y * f.wide+b.x).toNat) (by have bw:=se.1;omega))) (by omega) (by have bw:=se.1;omega))<|dT Z (λ _ x=>ax Z (J.aK.fh fY ((ja.later x).has.cD (aV ((b.y * f.wide+b.x).toNat) (by have bw:=se.1;omega))) (j1.get hf oL) Z aT))<|aq Z (λ _=>blt Z Z)<|fn λ L9 pP=> ?_;have D7:=γ rQ pP;refine aX<|eT (ep Z abI)<|aw<|va Z<|aY Z<|bD<|f_ Z Z Z<| ?_;have cP:=cP.later pP;have ja:=ja.later pP;exact ⟨⟨aZ,j1⟩,Z,D7⟩
theorem aH2 (f:aL) (a b:az) (P:Option Addr) (cy:Nat) (w:World) (cK:bu.aK 8 w P cy f.a_) (hf:f.a7=0) (ga:f.ground a=true) (nc:f.ground b=true) (oK:0≤c' f a b b):
  Calls prog 136 #[.agg #[Φ f.wide,Φ f.high, .slice P f.a_.length cy], .agg #[Φ a.x,Φ a.y], .agg #[Φ b.x,Φ b.y]] w (λ e w'=>∃ p F A gl c aZ l,e= .returned (.tuple #[.pointer (bA p),Φ 0])∧qJ f a b aZ∧aM w' p [Φ f.wide,Φ f.high, .slice P f.a_.length cy,Φ b.x,Φ b.y, .slice F aZ.length gl, .slice A ((l:List cw).length) c] 249 (0,0)∧w.heap.size≤p∧bu.aF 3 8 w' w.heap.size (J.ab F) F gl aZ∧(∀ q∈J.ab F,q=p→False)∧Ext w w'):=by
 obtain ⟨g1,g2,g3,g4,g5,g6⟩:=aL.eB hf;have KX:=aL.fa hf;have C4:=aL.lj ga;have oL:=aL.lj nc;obtain ⟨_,_,b2,a2,a3,a4⟩:=aL.idx hf C4;obtain ⟨_,_,k_,fw,hQ,xa⟩:=aL.idx hf oL;have aaK:=(aL.n8 hf C4).1;have aaL:=(aL.n8 hf oL).1;have abq:=(aL.n8 hf C4).2;have O5:=(aL.n8 hf oL).2;have abg:=aL.E' ga;have K2:=aL.E' nc;have FD:0<f.a_.length:=by have:=(aL.AD hf C4).1;omega
 have abG:(f.et a != 0)=false:=by rw [aaK];rfl
 have abH:(f.et b != 0)=false:=by rw [aaL];rfl
 have abK:(f.oE a == 1)=false:=by rw [abq];simpa using abg
 have abL:(f.oE b == 1)=false:=by rw [O5];simpa using K2
 have abI:decide (c' f a b b<0)=false:=aYL (by omega);refine ch (n:=61) func136 Z Z Z ?_;refine dZ Z Z λ cG bB aR d' ae=> ?_;have hE:=ae.lt;refine jR Z Z λ eC cJ bt hP ar=> ?_;have bO:=γ aR bt;have mB:=ar.lt;refine jR Z Z λ hG jf cr rm br=> ?_;have c6:=γ bO cr;have xX:=br.lt;refine va Z<|aJ Z<|aw<| ?_;have ae:=ae.later (γ bt cr);refine aa (ax Z (ae.all mo mq))<| ?_;have ar:=ar.later cr;refine aa (ax Z (ar.all cA b3))<|cM s6 Z (uM f a _ _ _ (cK.keep c6)) λ nR gb=> ?_;have:=gb.size;have eZ:=γ c6 gb;refine vm Z<|bs Z Z<|bs Z Z<|va Z<|aJ Z<|av<|aB Z<|cS Z Z<|aC<|gj (ep Z abG)<|bm<|aw<| ?_;have ae:=ae.later gb;refine aa (ax Z (ae.all mo mq))<| ?_;have br:=br.later gb;refine aa (ax Z (br.all cA b3))<|cM s6 Z (uM f b _ _ _ (cK.keep eZ)) λ rF cX=> ?_;have:=cX.size;have iA:=γ eZ cX;refine vm Z<|bs Z Z<|bs Z Z<|va Z<|aJ Z<|av<|aB Z<|cS Z Z<|aC<|gj (ep Z abH)<|bm<|av<|aB Z<|aa (beq Z Z)<|vm (ep Z abK)<|cm Z Z Z<| ?_;refine vm Z<|cm Z Z Z<|aa (beq Z Z)<|aa (fR Z (ep Z abL))<|aC<|gj Z<|bm<|av<| ?_;refine cO [(0,0),(1,0),(2,2),(4,0),(6,2),(8,2)] [0,1,3,4,5,2,6,7,8,9] ?_;have ae:=ae.later cX;refine dT Z (λ _ x=>ax Z ((ae.later x).all mo mq))<| ?_;have br:=br.later cX;refine dT Z (λ _ x=>ax Z ((br.later x).all cA b3))<|aq Z (λ _=>aj y0 Z)<|cf Z Z ae c8 Z<|aq Z (λ _=>b5 underlying22 Z)<|ff Z Z Z λ zU j5 Q hK=>c7 (e:= 3) (cs:= [Φ (-1)]) Z (λ _=>by kernel_rfl) Z λ BG agi dH amH Ah=>hK _ _ ⟨γ j5 dH, ?_⟩;have:=j5.size;have k4:=γ iA j5;have o7:=γ k4 dH;have aIo:=Ah.lt;refine ff Z Z Z λ Jc kJ Q hK=>ca ait Z Z ((aox _ _ f.a_.length (-1) _ (aM.gu (R:=bu) (by_:=8) (q:= -1) (Ah.later kJ) ⟨Z,b8.2 (by decide)⟩ (by decide)) FD (by omega)).mono ?_);rintro e wH ⟨wT,AH,rfl,nX,fF⟩;refine ⟨_,Z,hK _ _ ⟨γ kJ fF, ?_⟩⟩;have:=kJ.size;have z8:=γ o7 kJ;have:=fF.size;have j6:=γ z8 fF;have zP:=bM nX.lt;have uV:=dx nX.lt;have nX:=nX.down (show w.heap.size≤Jc.heap.size by omega);refine r9 (v:= .agg #[Φ f.wide,Φ f.high, .slice P f.a_.length cy,Φ b.x,Φ b.y, .slice wT ((List.replicate f.a_.length (-1)).length) AH, .slice none 0 0]) Z Z (λ _=>lH Z (by kernel_rfl)) Z<|ff Z Z Z λ BH hq Q hK=>jR Z Z λ Qo Cq fv amJ wS=>hK _ _ ⟨γ hq fv, ?_⟩;have:=hq.size;have nA:=γ j6 hq;have ym:=γ nA fv;have PW:=wS.lt;refine aq Z (λ _=>ee Z)<|fn λ ue fq=> ?_;have:=fq.size;have j7:=γ ym fq;refine aX<|aB Z<| ?_;have ar:=ar.later (γ gb (γ cX (γ j5 (γ dH (γ kJ (γ fF (γ hq (γ fv fq))))))));refine aa (ax Z (ar.all cA b3))<| ?_;have wS:=wS.later fq;have nX:=nX.later (γ hq (γ fv fq));have Xe:cw.rep.aF 304 32 ue w.heap.size (J.ab none) none 0 ([]:List cw):=J.aF.nil _;refine ca Y8 Z Z ((acP w f P wT none cy AH 0 Cq ((List.replicate f.a_.length (-1))) ([]:List cw) b a 0 _ j7 hf cK wS (by omega) Xe (λ q I=>by simp [J.ab] at I) (λ y aE=>by simp at aE) (by simp) (by omega) (by omega) (by omega)).mono ?_);rintro e L7 ⟨cb,c1,rfl,cC,pY,aaH,Ft,zx⟩;refine cu ?_;have sK:=Ext.mod j7 zx (λ q I=>(aYk.1 I).elim (λ h=>by omega) (λ h=>by simp [J.ab] at h));have zo:∀ q∈J.ab cb,ue.heap.size≤q:=λ q I=>(Ft q I).elim (λ h=>by simp [J.ab] at h) id;refine aC<|aB Z<| ?_;have nX:=nX.mod zx (λ q I h=>(aYk.1 h).elim (λ h=>by exfalso;(have:=zP q I;omega)) (λ h=>by simp [J.ab] at h));refine ca aiu Z Z ((an8 w f P wT cb cy AH c1 Cq ((List.replicate f.a_.length (-1))) (cv.push cw.all ([]:List cw) ⟨a,0,0+aL.l1 b a⟩) b a a _ sK hf cK cC (by omega) nX pY (λ q I ag=>by exfalso;(have:=zP q I;omega)) aaH (λ q κ τ=>by exfalso;(have:=zo q κ;(have:=zP q τ;omega))) (uD.start hf ga a) yO.start oL (by rw [cv.PV,adV];simp;omega)).mono ?_);rintro e Qp ⟨aZ,dp,c2,kU,rfl,cP,ja,j1,kH⟩;refine cu ?_;have rQ:=Ext.mod sK kH (λ q I=>(aYk.1 I).elim (λ h=>by omega) (λ h=>(aYo.1 h).elim (λ h=>(nX.lt q h).1) (λ h=>(pY.lt q h).1)));have se:=kR hf j1.len oL;refine aC<|av<|av<| ?_;refine cO [(3,0),(5,0),(6,0),(8,0)] [0,1,2,3,4,5,6,7,8,9] ?_;refine a1 Z Z<|aq Z (λ _=>bx Z)<|aq Z (λ _=>aj p9 Z)<|cf Z Z cP c8 Z<|a1 Z Z<| ?_;have br:=((br.later (γ j5 (γ dH (γ kJ (γ fF (γ hq (γ fv fq))))))).mod zx (λ I=>(aYk.1 I).elim (λ h=>by omega) (λ h=>by simp [J.ab] at h))).mod kH (λ I=>(aYk.1 I).elim (λ h=>by omega) (λ h=>(aYo.1 h).elim (λ h=>(show ∀ q,q∈J.ab wT→q=jf→False from λ q h ag=>by (have:=uV q h;omega)) _ h rfl) (λ h=>(show ∀ q,q∈J.ab cb→q=jf→False from λ q h ag=>by (have:=zo q h;omega)) _ h rfl)));refine dT Z (λ _ x=>ax Z ((br.later x).all cA b3))<|qW Z Z n_ Z (λ _ x=>tT w f P wT dp cy AH c2 Cq aZ kU b b _ (γ rQ x) hf cK (cP.later x) (by first | omega | (dsimp only;omega))) Z<|aq Z (λ _=>cl ((b.y * f.wide+b.x).toNat) underlying22 dg Z Z (ja.has.bT (aV ((b.y * f.wide+b.x).toNat) (by have bw:=se.1;omega))) (by omega) (by have bw:=se.1;omega))<|dT Z (λ _ x=>ax Z (J.aK.fh fY ((ja.later x).has.cD (aV ((b.y * f.wide+b.x).toNat) (by have bw:=se.1;omega))) (j1.get hf oL) Z aT))<|aq Z (λ _=>blt Z Z)<|fn λ L9 pP=> ?_;have D7:=γ rQ pP;refine aX<|gj (ep Z abI)<|bm<|aB Z<|va Z<|aY Z<|f_ Z Z Z<| ?_;have cP:=cP.later pP;have ja:=ja.later pP;exact ⟨Cq,wT,dp,AH,c2,aZ,kU,Z,j1,cP,by omega,ja,(λ q I ag=>by exfalso;(have:=zP q I;omega)),D7⟩
theorem aH0 (f:aL) (a b:az) (P:Option Addr) (cy:Nat) (w:World) (cK:bu.aK 8 w P cy f.a_) (h:ib f a b≠0):
  Calls prog 136 #[.agg #[Φ f.wide,Φ f.high, .slice P f.a_.length cy], .agg #[Φ a.x,Φ a.y], .agg #[Φ b.x,Φ b.y]] w (λ e w'=>e= .returned (.tuple #[.pointer none,Φ (ib f a b)])∧Ext w w'):=by
 rcases Zr f a b with ⟨κ,τ⟩ | ⟨κ,τ,au⟩ | ⟨κ,τ,au,aU⟩ | ⟨κ,τ,au,aU | aU⟩
 ·rw [τ];exact aHX f a b P cy w cK κ
 ·rw [au];exact aHY f a b P cy w cK κ τ
 ·rw [aU];exact aHZ f a b P cy w cK κ τ au
 ·rw [aU.2];exact (aH1 f a b P cy w cK κ τ au aU.1).mono λ e w' h=>⟨h.2.1,h.2.2⟩
 ·exact absurd aU.2 h
section
namespace yL
section
variable {α:Type} [Inhabited α] {l:List α} {k i:Nat}
def lv (l:List α):Nat→List α
 | 0=>l
 | k+1=>cv.swp (lv l k) k (l.length - 1 - k)
theorem IZ:(lv l k).length=l.length:=by
 induction k with
 | zero=>rfl
 | succ k bL=>rw [lv,cv.nQ,bL]
theorem aIY:∀ k,2 * k≤l.length+1→(lv l k).Perm l:=by
 intro k;induction k with
 | zero=>intro _;exact bcC _
 | succ k bL =>
  intro ak;rw [lv];exact (cv.Ga (by rw [IZ];omega) (by rw [IZ];omega)).trans (bL (by omega))
theorem aIX:∀ k,2 * k≤l.length→∀ i,i<l.length→(lv l k).getD i default=if i<k∨l.length - 1 - i<k then l.getD (l.length - 1 - i) default else l.getD i default:=by
 intro k;induction k with
 | zero=>intro _ i _;rw [aYi (by omega)];rfl
 | succ k bL =>
  intro ak i hi;have ah:=IZ (l:=l) (k:=k);rw [lv,cv.F' (by omega) (by omega)];by_cases aW:i=l.length - 1 - k
  ·rw [aYq aW,bL (by omega) k (by omega),aYi (by omega),aYq (by omega)];congr 1;omega
  ·rw [aYi aW];by_cases bb:i=k
   ·rw [aYq bb,bL (by omega) _ (by omega),aYi (by omega),aYq (by omega)];congr 1;omega
   ·rw [aYi bb,bL (by omega) i hi];by_cases df:i<k∨l.length - 1 - i<k
    ·rw [aYq df,aYq (by omega)]
    ·rw [aYi df,aYi (by omega)]
theorem aIW (h:(l.length:Int) - 1≤2 * (k:Int)) (τ:2 * k≤l.length):lv l k=l.reverse:=by
 refine List.ext_getElem (by rw [IZ,baG]) λ i κ aRk=> ?_;rw [IZ] at κ;have aN:=aIX k τ i κ;rw [bc6];have e:(lv l k).getD i default=(lv l k)[i]'(by rw [IZ];exact κ):=by rw [aX7,aYb];rfl
 rw [← e,aN];split
 ·rw [aX7,aYb (by omega)];rfl
 ·rw [aX7,aYb κ];have:l.length - 1 - i=i:=by omega
  simp only [aZm,this]
end
end yL
end
theorem aIN (A:Option Addr) (c aA:Nat) (l:List az) (w:World) (bq:az.rep.aF 55 16 w aA (J.ab A) A c (l)) (di:∀ y∈l,y.ok):
  Calls prog 140 #[.slice A l.length c] w (λ e w'=>e= .returned (.tuple #[])∧az.rep.aF 55 16 w' aA (J.ab A) A c (l.reverse)∧Mod (J.ab A) w w'):=by
 have aRS:=bq.has.fa;refine ch (n:=28) func140 Z Z Z ?_;refine aB Z<|aa (b5 underlying25 Z)<|aa (kx Z Z gD)<|va Z<|aJ Z<|bJ<| ?_;refine eV (λ cp cn aP=>∃ k:Nat,∃ k7:Int,cn= [(0, .slice A l.length c),(2,Φ (k:Int)),(3,Φ k7)]∧cp=(l.length - k)∧Mod (J.ab A) w aP∧az.rep.aF 55 16 aP aA (J.ab A) A c (yL.lv l k)∧(k7=(l.length:Int) - 1 - (k:Int))∧(2 * k≤l.length)) _ _ ⟨0,((l.length:Int) - 1),Z,Z,(Mod.cH (J.ab A) w),bq,by omega,by omega⟩ (.cons Z (.cons (zo Z) (eO Z Z Z))) ?_;rintro Lh JI cG ⟨k,k7,rfl,rfl,de,dI,A1,ak⟩;have aR6:(yL.lv l k).length=l.length:=yL.IZ;have akP:∀ y∈yL.lv l k,y.ok:=λ y aE=>di y ((yL.aIY k (by omega)).subset aE);refine av<|aB Z<|vm Z<|dR Z Z<|aC<| ?_;refine en Z (λ ng=> ?_) (λ ng=> ?_)
 ·refine bm<|av<|bJ<| ?_;refine cO [(7,0),(11,0),(13,3),(15,3)] [0,1,2,3,4,5,6,7,8,9,10,11,12,13,14,15] ?_;refine a1 Z Z<|a1 Z Z<|a1 Z Z<|a1 Z Z<|a1 Z Z<|a1 Z Z<|aq Z (λ _=>cl k7.toNat underlying25 b3 Z Z (dI.has.bT (aV k7.toNat (by first | omega | (rw [aYn];omega)))) (by omega) (by first | omega | (rw [aYn];omega)))<|dT Z (λ _ x=>ax Z (J.aK.iu y9 ((dI.later x).has.cD (aV k7.toNat (by first | omega | (rw [aYn];omega)))) (dt (l:=yL.lv l k) (u:=default) (by first | omega | (rw [aYn];omega))) cA b3))<|a1 Z Z<|a1 Z Z<|aq Z (λ _=>cl k underlying25 b3 Z Z (dI.has.bT (aV k (by first | omega | (rw [aYn];omega)))) Z (by first | omega | (rw [aYn];omega)))<|dT Z (λ _ x=>ax Z (J.aK.iu y9 ((dI.later x).has.cD (aV k (by first | omega | (rw [aYn];omega)))) (dt (l:=yL.lv l k) (u:=default) (by first | omega | (rw [aYn];omega))) cA b3))<|aq Z (λ _=>cl k underlying25 b3 Z Z (dI.has.bT (aV k (by first | omega | (rw [aYn];omega)))) Z (by first | omega | (rw [aYn];omega)))<|dE Z Z Z λ BI sI Q hK=>P' (q':=(yL.lv l k).getD k7.toNat default) (i:=k) (dI.later sI) J.dQ (by first | omega | (rw [aYn];omega)) Z Z Z Z (λ _=>⟨Z,(akP _ (jk (by omega)))⟩) b3 λ uf UD afR=>hK _ _ ?_;have mg:=de.trans (Mod.a8 sI);have jN:=mg.md UD (λ q I=> .inl I);refine aq Z (λ _=>cl k7.toNat underlying25 b3 Z Z (afR.has.bT (aV k7.toNat (by first | omega | (rw [aYn];omega)))) (by omega) (by first | omega | (rw [aYn];omega)))<|dE Z Z Z λ hG fD Q hK=>P' (q':=(yL.lv l k).getD k default) (i:=k7.toNat) (afR.later fD) J.dQ (by first | omega | (rw [aYn];omega)) Z Z Z Z (λ _=>⟨Z,(akP _ (jk (by omega)))⟩) b3 λ Gq tK XB=>hK _ _ ?_;have c6:=jN.trans (Mod.a8 fD);have m4:=c6.md tK (λ q I=> .inl I);refine fn λ vh ey=> ?_;have ks:=m4.trans (Mod.a8 ey);refine b1<|aX<|rg<|vm Z<|gx Z Z<|vm Z<|aa (kx Z Z gD)<|va Z<|va Z<|nl<| ?_;have XB:=XB.later ey;exact om _ _ ⟨k+1,(k7 - 1),Z,Z,ks,(by have h:=XB;rw [show k7.toNat=l.length - 1 - k by omega] at h;exact h),by omega,by omega⟩ (by omega) (.cons Z (.cons (zo Z) (eO Z Z Z)))
 ·refine dn<|dk<|dG<|dj<|ne<|cz .nil<| ?_;exact ⟨Z,by have h:=dI;rw [yL.aIW (by omega) (by omega)] at h;exact h,de⟩
section
theorem atA:MD prog az.cells 55 :=by
 intro a b w;obtain ⟨a0,b2⟩:=a;obtain ⟨gW,k_⟩:=b;simp only [az.cells,az.mk.injEq];constructor
 ·go_simp
  repeat' split
  all_goals simp_all
 ·go_simp
  repeat' split
  all_goals simp_all
theorem atz:(prog).eqGuardType (prog).depth 55 =false:=by kernel_rfl
theorem aty:ez prog az.rep 25 55 16:=ez.ki (z:=az.zero) (k:=2) underlying25 az.info rfl rfl (by decide) az.j8
section
variable {f:aL} {a b c cE:az} {aD:az→Int} {out L:List az} {j:Nat}
theorem auy (p q r:Bool):p=false∨(p=true∧q=false)∨(p=true∧q=true∧r=false)∨(p=true∧q=true∧r=true):=by cases p<;>cases q<;>cases r<;>simp
theorem aHT (h:∀ i,i<4→(f.ground ((eK c).getD i default) && decide (0≤aD ((eK c).getD i default)) && decide (aD ((eK c).getD i default)+f.hB c=aD c))=false):mY f aD c=c:=by
 have e:(eK c).find? (λ n=>f.ground n && decide (0≤aD n) && decide (aD n+f.hB c=aD c))=none:=by
  rw [aZH];intro x hx;obtain ⟨i,hi,rfl⟩:=aY9.1 hx;have:=h i hi;rw [l2 hi] at this;rw [this];decide
 unfold mY;rw [e];rfl
theorem aHS (ay:j<4) (h:∀ i,i<j→(f.ground ((eK c).getD i default) && decide (0≤aD ((eK c).getD i default)) && decide (aD ((eK c).getD i default)+f.hB c=aD c))=false) (hp:(f.ground ((eK c).getD j default) && decide (0≤aD ((eK c).getD j default)) && decide (aD ((eK c).getD j default)+f.hB c=aD c))=true):mY f aD c=(eK c).getD j default:=by
 have e:(eK c).find? (λ n=>f.ground n && decide (0≤aD n) && decide (aD n+f.hB c=aD c))=some ((eK c).getD j default):=by
  have ah:(eK c).length=4:=rfl;rw [baZ];refine ⟨hp,j,by omega,(l2 (by omega)).symm,λ i hi=> ?_⟩;have:=h i hi;rw [l2 (by omega)] at this;simp only [this];rfl
 unfold mY;rw [e];rfl
theorem aqf (f:aL) (aD:az→Int) (a:az) (n:Nat) (c:az): [c]++(yR f aD a n c).tail=yR f aD a n c:=by
 cases n with
 | zero=>rfl
 | succ n=>unfold yR;split<;>rfl
theorem aLS (h:out++(gy f aD a c).tail=L) (τ:gy f aD a c=c::gy f aD a cE):(out++ [cE])++(gy f aD a cE).tail=L:=by
 rw [τ,List.tail_cons] at h;rw [aYK,show [cE]++(gy f aD a cE).tail=gy f aD a cE from aqf _ _ _ _ _];exact h
theorem aLT (h:pX f a aD):∀ {c:az},0≤aD c→((gy f aD a c).length:Int)≤aD c+1:=by
 have key:∀ n:Nat,∀ c,0≤aD c→(aD c).toNat=n→((gy f aD a c).length:Int)≤aD c+1:=by
  intro n;induction n using Nat.strongRecOn with
  | ind n bL =>
   intro c hc hn;by_cases fZ:c=a
   ·subst fZ;rw [DS h,h.zero];simp
   ·obtain ⟨nO,pB,nP,zH⟩:=h.prev hc fZ;have ak:=f.rk (c:=c);have:=bL (aD (mY f aD c)).toNat (by omega) _ nP rfl;rw [DT h hc fZ,aYc];omega
 exact fun {c} hc=>key _ c hc Z
end
theorem aHB (f:aL) (a b:az) (P:Option Addr) (cy:Nat) (w:World) (cK:bu.aK 8 w P cy f.a_) (he:ib f a b≠0):
  Calls prog 104 #[.agg #[Φ f.wide,Φ f.high, .slice P f.a_.length cy], .agg #[Φ a.x,Φ a.y], .agg #[Φ b.x,Φ b.y]] w (λ e w'=>e= .returned (.tuple #[.slice none 0 0,Φ 0,Φ (ib f a b)])∧Ext w w'):=by
 have aEG:(ib f a b != 0)=true:=by simpa using he
 refine ch (n:=107) func104 Z Z Z ?_;refine dZ Z Z λ cG bB aR d' ae=> ?_;refine jR Z Z λ eC cJ bt hP ar=> ?_;have bO:=γ aR bt;refine jR Z Z λ hG jf cr rm br=> ?_;have c6:=γ bO cr;refine va Z<|va Z<|aJ Z<|aw<| ?_;have ae:=ae.later (γ bt cr);refine aa (ax Z (ae.all mo mq))<| ?_;have ar:=ar.later cr;refine aa (ax Z (ar.all cA b3))<|aa (ax Z (br.all cA b3))<|cM aiv Z (aH0 f a b P cy _ (cK.keep c6) he) λ nR gb=> ?_;have eZ:=γ c6 gb;refine vm Z<|bs Z Z<|bs Z Z<|va Z<|aJ Z<|av<|aB Z<|cS Z Z<|aC<|eT (ep Z aEG)<|aB Z<|va Z<|va Z<|aY Z<| ?_;refine bD<|cz (.tmp Z (.tmp Z (.tmp Z .nil)))<| ?_;exact ⟨Z,eZ⟩
theorem aHC (f:aL) (a b:az) (P:Option Addr) (cy:Nat) (w:World) (cK:bu.aK 8 w P cy f.a_) (hf:f.a7=0) (ga:f.ground a=true) (nc:f.ground b=true) (oK:0≤c' f a b b):
  Calls prog 104 #[.agg #[Φ f.wide,Φ f.high, .slice P f.a_.length cy], .agg #[Φ a.x,Φ a.y], .agg #[Φ b.x,Φ b.y]] w (λ e w'=>∃ A c,e= .returned (.tuple #[.slice A (gy f (c' f a b) a b).reverse.length c,Φ (c' f a b b),Φ 0])∧az.rep.aF 55 16 w' w.heap.size (J.ab A) A c (gy f (c' f a b) a b).reverse∧Ext w w'):=by
 obtain ⟨g1,g2,g3,g4,g5,g6⟩:=aL.eB hf;have KX:=aL.fa hf;have oL:=aL.lj nc;obtain ⟨_,_,k_,fw,hQ,xa⟩:=aL.idx hf oL;refine ch (n:=107) func104 Z Z Z ?_;refine dZ Z Z λ cG bB aR d' ae=> ?_;have hE:=ae.lt;refine jR Z Z λ eC cJ bt hP ar=> ?_;have bO:=γ aR bt;have mB:=ar.lt;refine jR Z Z λ hG jf cr rm br=> ?_;have c6:=γ bO cr;have xX:=br.lt;refine va Z<|va Z<|aJ Z<|aw<| ?_;have ae:=ae.later (γ bt cr);refine aa (ax Z (ae.all mo mq))<| ?_;have ar:=ar.later cr;refine aa (ax Z (ar.all cA b3))<|aa (ax Z (br.all cA b3))<|ca aiv Z Z ((aH2 f a b P cy _ (cK.keep c6) hf ga nc oK).mono ?_);rintro e nR ⟨p,F,A,gl,c,aZ,l,rfl,j1,aI,aSt,cI,aj5,gb⟩;refine cu ?_;have eZ:=γ c6 gb;have LF:=aI.lt;have DE:=bM cI.lt;obtain ⟨aPZ,aP0,aP1⟩:=kR hf j1.len oL;have KN:=λ c=>j1.auU c;have KC:=pX.IN j1 oK;refine vm Z<|bs Z Z<|bs Z Z<|va Z<|aJ Z<|av<|aB Z<|cS Z Z<|aC<|gj Z<|bm<|aw<| ?_;have br:=br.later gb;refine aa (ax Z (br.all cA b3))<|c7 (e:= 55) (cs:= [Φ b.x,Φ b.y]) Z (λ _=>by kernel_rfl) Z λ rF Nr l' amG pU=> ?_;have iA:=γ eZ l';have aIn:=pU.lt;refine aJ Z<|av<|aw<| ?_;have br:=br.later l';refine aa (ax Z (br.all cA b3))<|cU yZ Z λ zV Cp ho aE6 GV=> ?_;have mG:=γ iA ho;refine cF Z Z GV Z b3 Z Z λ wG oh GV=> ?_;have mH:=Ext.mod mG oh bo;refine aC<|bJ<| ?_;have pU:=(pU.later ho).mod oh aO;have M8:=aM.xW (R:=az.rep) (by_:=16) (B:=w.heap.size) (k:= [b]) pU [b.cells] rfl ⟨⟨rfl,b8.2 (by omega),b8.2 (by omega)⟩,trivial⟩ (by simp) (by simp) (by decide) (by omega);have y1:∀ q∈J.ab (bA Nr),q=Nr:=λ q I=>aYf.1 I;have ar:=(ar.later (γ gb (γ l' ho))).mod oh aO;have br:=(br.later ho).mod oh aO;have aI:=(aI.later (γ l' ho)).mod oh aO;have cI:=(cI.later (γ l' ho)).mod oh (bU DE);refine eV (λ cp cn aP=>∃ c1:az,∃ uG:Nat,∃ out:List az,∃ dP:Option Addr,∃ jS:Nat,cn= [(4, .pointer (bA cJ)),(5, .pointer (bA jf)),(6, .slice none 0 0),(7,Φ 0),(8,Φ 0),(9, .pointer (bA p)),(11, .slice dP out.length jS),(12, .pointer (bA uG))]∧cp=(c' f a b c1).toNat∧Ext w aP∧aM aP cJ [Φ a.x,Φ a.y] 55 (0,0)∧aM aP jf [Φ b.x,Φ b.y] 55 (0,0)∧aM aP p [Φ f.wide,Φ f.high, .slice P f.a_.length cy,Φ b.x,Φ b.y, .slice F aZ.length gl, .slice A ((l:List cw).length) c] 249 (0,0)∧bu.aF 3 8 aP hG.heap.size (J.ab F) F gl aZ∧aM aP uG [Φ c1.x,Φ c1.y] 55 (0,0)∧az.rep.aF 55 16 aP w.heap.size (J.ab dP) dP jS out∧(bB<uG)∧(cJ<uG)∧(jf<uG)∧(p<uG)∧(∀ q∈J.ab F,q<uG)∧(0≤c' f a b c1)∧(out++(gy f (c' f a b) a c1).tail=gy f (c' f a b) a b)∧(w.heap.size≤uG)∧(∀ q∈J.ab dP,q=cJ→False)∧(∀ q∈J.ab dP,q=jf→False)∧(∀ q∈J.ab dP,q=p→False)∧(∀ q∈J.ab dP,q=uG→False)∧(∀ q∈J.ab dP,q∈J.ab F→False)) _ _ ⟨b,Cp, [b],some ⟨Nr,0,none⟩,1,Z,Z,mH,ar,br,aI,cI,GV,M8,(by omega),(by omega),(by omega),(by omega),(λ q I=>by have:=DE q I;omega),oK,(by unfold gy;exact aqf _ _ _ _ _),(by omega),(λ q I ag=>by (have:=y1 q I;omega)),(λ q I ag=>by (have:=y1 q I;omega)),(λ q I ag=>by (have:=y1 q I;omega)),(λ q I ag=>by (have:=y1 q I;omega)),(λ q I ag=>by (have:=y1 q I;(have:=DE q ag;omega)))⟩ (qp Z) ?_;rintro Bm aOc L5 ⟨c1,uG,out,dP,jS,rfl,rfl,qA,ar,br,aI,cI,gJ,nE,aSQ,aSR,aSP,aSS,ajJ,ob,oN,nJ,yX,AM,AN,Kb,xl⟩;have adO:=bM cI.lt;have adP:=bM nE.lt;have aBy:∀ q∈J.ab F,q=uG→False:=λ q I ag=>by have:=ajJ q I;omega
 have H_:=aL.lj (KC.gr c1 ob);have aB9:=KC.gr c1 ob;obtain ⟨_,_,aP4,aP5,aP6,aP7⟩:=aL.idx hf H_;have aCs:=f.rk (c:=c1);have q_:=anX hf aB9;have aRx:=KN c1;have akv:out.length≤4801:=by have κ:=aZb List.length oN;rw [aX9] at κ;have τ:=aLT KC oK;have au:=KN b;omega
 refine av<|aw<|aa (ax Z (gJ.all cA b3))<|aa (ax Z (ar.all cA b3))<|aa (Sb atA atz (p:=c1) (q:=a) Z Z)<|aC<| ?_;refine du Z (λ Oq=> ?_) (λ Oq=> ?_)
 ·have TG:c1≠a:=by simpa using Oq
  obtain ⟨nO,pB,nP,zH⟩:=KC.prev ob TG;have K1:=DT KC ob TG;refine bm<|av<|bJ<|aB Z<|aa (ax Z (gJ.all cA b3))<|cM Y7 Z (acK w f P F A cy gl c p aZ l b c1 _ qA hf cK aI) λ V2 ui=> ?_;have D6:=γ qA ui;refine vm Z<|bs Z Z<|bs Z Z<|va Z<|aJ Z<|av<|aw<| ?_;have gJ:=gJ.later ui;refine aa (ax Z (gJ.all cA b3))<|cM ais Z (an9 c1 _ (by first | omega | (dsimp only;omega))) λ Gu uj=> ?_;have pS:=γ D6 uj;refine vm Z<|aC<|bJ<| ?_;have dA:=(γ ui uj);have ar:=ar.later dA;have br:=br.later dA;have aI:=aI.later dA;have cI:=cI.later dA;have gJ:=gJ.later uj;have nE:=nE.later dA;refine eV (λ cp cn aP=>∃ j:Nat,cn= [(4, .pointer (bA cJ)),(5, .pointer (bA jf)),(6, .slice none 0 0),(7,Φ 0),(8,Φ 0),(9, .pointer (bA p)),(11, .slice dP out.length jS),(12, .pointer (bA uG)),(13,Φ (rB f c1)),(32, .agg #[Φ c1.x,Φ c1.y]),(33, .agg #[Φ a.x,Φ a.y]),(34, .bool (!decide (c1=a))),(35, .tuple #[Φ (rB f c1), .bool (f.ground c1)]),(36, .pointer (bA p)),(37, .agg #[Φ c1.x,Φ c1.y]),(38, .tuple #[Φ (rB f c1), .bool (f.ground c1)]),(39,Φ (rB f c1)),(40, .bool (f.ground c1)),(41, .agg #[Φ c1.x,Φ c1.y]),(42, .agg #[Φ c1.x,Φ (c1.y - 1),Φ (c1.x - 1),Φ c1.y,Φ (c1.x+1),Φ c1.y,Φ c1.x,Φ (c1.y+1)]),(43,Φ (j:Int))]∧cp=4 - j∧Ext w aP∧aM aP cJ [Φ a.x,Φ a.y] 55 (0,0)∧aM aP jf [Φ b.x,Φ b.y] 55 (0,0)∧aM aP p [Φ f.wide,Φ f.high, .slice P f.a_.length cy,Φ b.x,Φ b.y, .slice F aZ.length gl, .slice A ((l:List cw).length) c] 249 (0,0)∧bu.aF 3 8 aP hG.heap.size (J.ab F) F gl aZ∧aM aP uG [Φ c1.x,Φ c1.y] 55 (0,0)∧az.rep.aF 55 16 aP w.heap.size (J.ab dP) dP jS out∧(j≤4)∧(∀ i,i<j→(f.ground ((eK c1).getD i default) && decide (0≤c' f a b ((eK c1).getD i default)) && decide (c' f a b ((eK c1).getD i default)+f.hB c1=c' f a b c1))=false)) _ _ ⟨0,Z,Z,pS,ar,br,aI,cI,gJ,nE,by omega,λ i hi=>by omega⟩ (eO Z Z Z) ?_;rintro ang aOk Jf ⟨j,rfl,rfl,qC,ar,br,aI,cI,gJ,nE,ay,lp⟩;have acT:=ar.lt;have aok:=br.lt;have aIv:=aI.lt;have zR:=bM cI.lt;have aWr:=gJ.lt;have VO:=bM nE.lt;refine aw<|dR Z Z<|aC<|av<| ?_;refine en Z (λ xA=> ?_) (λ xA=> ?_)
  ·refine bm<|av<|bJ<|aw<| ?_;obtain ⟨cE,kE⟩:∃ cE,(eK c1).getD j default=cE:=⟨_,rfl⟩;have OR:=aoU (c:=c1) (j:=j) (by omega);rw [kE] at OR;refine aa (Is Z Z (aoa c1 j (by omega) kE _))<|cU yZ Z λ ad4 aPQ dK aT3 pW=> ?_;have Jy:=γ qC dK;have aWy:=pW.lt;refine cF Z Z pW Z b3 Z Z λ DQ iI pW=> ?_;have:=iI.size;have m5:=Ext.mod Jy iI bo;refine aC<|aB Z<|aa (ax Z (pW.all cA b3))<| ?_;have aI:=(aI.later dK).mod iI aO;refine cM Y7 Z (acK w f P F A cy gl c p aZ l b cE _ m5 hf cK aI) λ Gv fS=> ?_;have:=fS.size;have lA:=γ m5 fS;refine vm Z<|bs Z Z<|bs Z Z<|va Z<|aJ Z<|av<| ?_;rcases auy (f.ground cE) (decide (0≤c' f a b cE)) (((c' f a b cE)+(rB f c1))== (c' f a b c1)) with ck | ⟨ck,Bf⟩ | ⟨ck,Bf,It⟩ | ⟨ck,Bf,It⟩
   ·have Bb:(f.ground cE && decide (0≤c' f a b cE) && decide (c' f a b cE+f.hB c1=c' f a b c1))=false:=by rw [ck];rfl
    refine cO [(5,0),(7,0),(8,0),(10,0),(17,0),(19,0),(20,0),(22,0),(28,0),(30,0),(31,0),(33,0)] [0,1,2,3,4,5,6,7,8,9,10,11,12,13,14,15,16,17,18,19,20,21,22,23,24,25,26,27,28,29,30,31,32,33,34,35] ?_;refine aq rfl (λ _=>gw (ep rfl ck))<|a1 rfl rfl<|c0 rfl rfl<|c0 rfl rfl<|c0 rfl rfl<|jh rfl rfl<|c0 rfl rfl<|jh rfl rfl<|ef (v:=undef) (args:= []) rfl rfl rfl rfl rfl rfl n_ (λ hc=>nomatch hc) (λ hc=>nomatch hc) rfl<|c0 rfl rfl<|jh rfl rfl<|c0 rfl rfl<|aq rfl (λ _=>fR rfl rfl)<|a1 rfl rfl<|c0 rfl rfl<|c0 rfl rfl<|c0 rfl rfl<|jh rfl rfl<|c0 rfl rfl<|jh rfl rfl<|ef (v:=undef) (args:= []) rfl rfl rfl rfl rfl rfl n_ (λ hc=>nomatch hc) (λ hc=>nomatch hc) rfl<|c0 rfl rfl<|jh rfl rfl<|c0 rfl rfl<| ?_;refine c0 rfl rfl<|c0 rfl rfl<|c0 rfl rfl<|c0 rfl rfl<|jh rfl rfl<|c0 rfl rfl<|jh rfl rfl<|ef (v:=undef) (args:= []) rfl rfl rfl rfl rfl rfl n_ (λ hc=>nomatch hc) (λ hc=>nomatch hc) rfl<|c0 rfl rfl<|jh rfl rfl<|c0 rfl rfl<|aq rfl (λ _=>fR rfl rfl)<|fn λ Md rL=> ?_;have vz:=γ lA rL;refine aX<|gj Z<|fu<|b1<|eM Z Z Z<| ?_;have gG:=(γ fS rL);have ar:=((ar.later dK).mod iI aO).later gG;have br:=((br.later dK).mod iI aO).later gG;have aI:=aI.later gG;have cI:=((cI.later dK).mod iI (bl λ q I ag=>by have:=zR q I;have:=DE q I;omega)).later gG;have gJ:=((gJ.later dK).mod iI aO).later gG;have nE:=((nE.later dK).mod iI (bU VO)).later gG;exact eJ ⟨j+1,Z,Z,vz,ar,br,aI,cI,gJ,nE,by omega,sr lp (by rw [kE];exact Bb)⟩
   ·have nK:=aL.lj ck;obtain ⟨UX,UY,UZ⟩:=kR hf j1.len nK;have Bb:(f.ground cE && decide (0≤c' f a b cE) && decide (c' f a b cE+f.hB c1=c' f a b c1))=false:=by rw [ck,Bf];rfl
    refine cO [(5,0),(7,0),(8,0),(10,0),(17,0),(19,0),(20,0),(22,0),(28,0),(30,0),(31,0),(33,0)] [0,1,2,3,4,5,6,7,8,9,10,11,12,13,14,15,16,17,18,19,20,21,22,23,24,25,26,27,28,29,30,31,32,33,34,35] ?_;refine aq Z (λ _=>gw (ep Z ck))<|a1 Z Z<|fy Z Z Z<|b0 Z Z (λ hc _=>bx Z)<|b0 Z Z (λ hc _=>aj p9 Z)<| ?_;have aI:=aI.later fS;refine dL Z Z (λ hc _ x=>ax Z ((aI.later x).one c8 Z))<|fy Z Z Z<| ?_;have pW:=pW.later fS;refine dL Z Z (λ hc _ x=>ax Z ((pW.later x).all cA b3))<|ef Z Z Z Z Z Z n_ (λ hc=>Z) (λ hc _ x=>tT w f P F A cy gl c p aZ l b cE _ (γ lA x) hf cK (aI.later x) (by first | omega | (dsimp only;omega))) Z<| ?_;have cI:=((cI.later dK).mod iI (bl λ q I ag=>by have:=zR q I;have:=DE q I;omega)).later fS;have Fj:=(kR hf j1.len nK).1;refine b0 rfl rfl (λ hc _=>cl ((cE.y * f.wide+cE.x).toNat) underlying22 dg rfl rfl (cI.has.bT (aV ((cE.y * f.wide+cE.x).toNat) (by omega))) (by (try simp only [bn] at hc);omega) (by omega))<|dL rfl rfl (λ hc _ x=>ax rfl (J.aK.fh fY ((cI.later x).has.cD (aV ((cE.y * f.wide+cE.x).toNat) (by omega))) (j1.get hf nK) rfl aT))<|b0 rfl rfl (λ hc _=>jg rfl rfl)<|aq rfl (λ _=>iK rfl (ep rfl Bf))<|a1 rfl rfl<|c0 rfl rfl<|c0 rfl rfl<|c0 rfl rfl<|jh rfl rfl<|c0 rfl rfl<|jh rfl rfl<|ef (v:=undef) (args:= []) rfl rfl rfl rfl rfl rfl n_ (λ hc=>nomatch hc) (λ hc=>nomatch hc) rfl<|c0 rfl rfl<|jh rfl rfl<|c0 rfl rfl<|c0 rfl rfl<|c0 rfl rfl<|c0 rfl rfl<|c0 rfl rfl<|jh rfl rfl<|c0 rfl rfl<|jh rfl rfl<|ef (v:=undef) (args:= []) rfl rfl rfl rfl rfl rfl n_ (λ hc=>nomatch hc) (λ hc=>nomatch hc) rfl<|c0 rfl rfl<| ?_;refine jh Z Z<|c0 Z Z<|aq Z (λ _=>fR Z Z)<|fn λ V9 D2=> ?_;have Ea:=γ lA D2;refine aX<|gj Z<|fu<|b1<|eM Z Z Z<| ?_;have po:=(γ fS D2);have ar:=((ar.later dK).mod iI aO).later po;have br:=((br.later dK).mod iI aO).later po;have aI:=aI.later D2;have cI:=cI.later D2;have gJ:=((gJ.later dK).mod iI aO).later po;have nE:=((nE.later dK).mod iI (bU VO)).later po;exact eJ ⟨j+1,Z,Z,Ea,ar,br,aI,cI,gJ,nE,by omega,sr lp (by rw [kE];exact Bb)⟩
   ·have nK:=aL.lj ck;obtain ⟨UX,UY,UZ⟩:=kR hf j1.len nK;obtain ⟨aGp,aGq,aGr⟩:=kR hf j1.len H_;have aBB:=KN cE;have lL:=aY6 Bf;have Bb:(f.ground cE && decide (0≤c' f a b cE) && decide (c' f a b cE+f.hB c1=c' f a b c1))=false:=by rw [q_,bag] at It;rw [ck,Bf,aYL It];rfl
    refine cO [(5,0),(7,0),(8,0),(10,0),(17,0),(19,0),(20,0),(22,0),(28,0),(30,0),(31,0),(33,0)] [0,1,2,3,4,5,6,7,8,9,10,11,12,13,14,15,16,17,18,19,20,21,22,23,24,25,26,27,28,29,30,31,32,33,34,35] ?_;refine aq Z (λ _=>gw (ep Z ck))<|a1 Z Z<|fy Z Z Z<|b0 Z Z (λ hc _=>bx Z)<|b0 Z Z (λ hc _=>aj p9 Z)<| ?_;have aI:=aI.later fS;refine dL Z Z (λ hc _ x=>ax Z ((aI.later x).one c8 Z))<|fy Z Z Z<| ?_;have pW:=pW.later fS;refine dL Z Z (λ hc _ x=>ax Z ((pW.later x).all cA b3))<|ef Z Z Z Z Z Z n_ (λ hc=>Z) (λ hc _ x=>tT w f P F A cy gl c p aZ l b cE _ (γ lA x) hf cK (aI.later x) (by first | omega | (dsimp only;omega))) Z<| ?_;have cI:=((cI.later dK).mod iI (bl λ q I ag=>by have:=zR q I;have:=DE q I;omega)).later fS;have Fj:=(kR hf j1.len nK).1;refine b0 Z Z (λ hc _=>cl ((cE.y * f.wide+cE.x).toNat) underlying22 dg Z Z (cI.has.bT (aV ((cE.y * f.wide+cE.x).toNat) (by omega))) (by (try simp only [bn] at hc);omega) (by omega))<|dL Z Z (λ hc _ x=>ax Z (J.aK.fh fY ((cI.later x).has.cD (aV ((cE.y * f.wide+cE.x).toNat) (by omega))) (j1.get hf nK) Z aT))<|b0 Z Z (λ hc _=>jg Z Z)<|aq Z (λ _=>iK Z (ep Z Bf))<|a1 Z Z<|fy Z Z Z<|b0 Z Z (λ hc _=>bx Z)<|b0 Z Z (λ hc _=>aj p9 Z)<|dL Z Z (λ hc _ x=>ax Z ((aI.later x).one c8 Z))<|fy Z Z Z<|dL Z Z (λ hc _ x=>ax Z ((pW.later x).all cA b3))<|ef Z Z Z Z Z Z n_ (λ hc=>Z) (λ hc _ x=>tT w f P F A cy gl c p aZ l b cE _ (γ lA x) hf cK (aI.later x) (by first | omega | (dsimp only;omega))) Z<|b0 Z Z (λ hc _=>cl ((cE.y * f.wide+cE.x).toNat) underlying22 dg Z Z (cI.has.bT (aV ((cE.y * f.wide+cE.x).toNat) (by omega))) (by (try simp only [bn] at hc);omega) (by omega))<|dL Z Z (λ hc _ x=>ax Z (J.aK.fh fY ((cI.later x).has.cD (aV ((cE.y * f.wide+cE.x).toNat) (by omega))) (j1.get hf nK) Z aT))<|fy Z Z Z<|b0 Z Z (λ hc _=>bad Z Z (pk (by (try simp only [bn] at hc);omega)))<|fy Z Z Z<|b0 Z Z (λ hc _=>bx Z)<|b0 Z Z (λ hc _=>aj p9 Z)<|dL Z Z (λ hc _ x=>ax Z ((aI.later x).one c8 Z))<|fy Z Z Z<| ?_;have gJ:=((gJ.later dK).mod iI aO).later fS;have Fj:=(kR hf j1.len H_).1;refine dL Z Z (λ hc _ x=>ax Z ((gJ.later x).all cA b3))<|ef Z Z Z Z Z Z n_ (λ hc=>Z) (λ hc _ x=>tT w f P F A cy gl c p aZ l b c1 _ (γ lA x) hf cK (aI.later x) (by first | omega | (dsimp only;omega))) Z<|b0 Z Z (λ hc _=>cl ((c1.y * f.wide+c1.x).toNat) underlying22 dg Z Z (cI.has.bT (aV ((c1.y * f.wide+c1.x).toNat) (by omega))) (by (try simp only [bn] at hc);omega) (by omega))<|dL Z Z (λ hc _ x=>ax Z (J.aK.fh fY ((cI.later x).has.cD (aV ((c1.y * f.wide+c1.x).toNat) (by omega))) (j1.get hf H_) Z aT))<|b0 Z Z (λ hc _=>beq Z Z)<|aq Z (λ _=>iK Z (ep Z It))<|fn λ ad5 BM=> ?_;have JA:=γ lA BM;refine aX<|gj Z<|fu<|b1<|eM Z Z Z<| ?_;have zq:=(γ fS BM);have ar:=((ar.later dK).mod iI aO).later zq;have br:=((br.later dK).mod iI aO).later zq;have aI:=aI.later BM;have cI:=cI.later BM;have gJ:=gJ.later BM;have nE:=((nE.later dK).mod iI (bU VO)).later zq;exact eJ ⟨j+1,Z,Z,JA,ar,br,aI,cI,gJ,nE,by omega,sr lp (by rw [kE];exact Bb)⟩
   ·have nK:=aL.lj ck;obtain ⟨UX,UY,UZ⟩:=kR hf j1.len nK;obtain ⟨aGp,aGq,aGr⟩:=kR hf j1.len H_;have aBB:=KN cE;have lL:=aY6 Bf;have aDe:mY f (c' f a b) c1=cE:=by rw [q_,aZf] at It;rw [← kE];exact aHS (by omega) lp (by rw [kE,ck,Bf,aYD It];rfl)
    rw [aDe] at nO pB nP zH K1;obtain ⟨_,_,aUB,aUC,aUD,aUE⟩:=aL.idx hf nK;have O6:=aLS oN K1;refine cO [(5,0),(7,0),(8,0),(10,0),(17,0),(19,0),(20,0),(22,0),(28,0),(30,0),(31,0),(33,0)] [0,1,2,3,4,5,6,7,8,9,10,11,12,13,14,15,16,17,18,19,20,21,22,23,24,25,26,27,28,29,30,31,32,33,34,35] ?_;refine aq Z (λ _=>gw (ep Z ck))<|a1 Z Z<|fy Z Z Z<|b0 Z Z (λ hc _=>bx Z)<|b0 Z Z (λ hc _=>aj p9 Z)<| ?_;have aI:=aI.later fS;refine dL Z Z (λ hc _ x=>ax Z ((aI.later x).one c8 Z))<|fy Z Z Z<| ?_;have pW:=pW.later fS;refine dL Z Z (λ hc _ x=>ax Z ((pW.later x).all cA b3))<|ef Z Z Z Z Z Z n_ (λ hc=>Z) (λ hc _ x=>tT w f P F A cy gl c p aZ l b cE _ (γ lA x) hf cK (aI.later x) (by first | omega | (dsimp only;omega))) Z<| ?_;have cI:=((cI.later dK).mod iI (bl λ q I ag=>by have:=zR q I;have:=DE q I;omega)).later fS;have Fj:=(kR hf j1.len nK).1;refine b0 Z Z (λ hc _=>cl ((cE.y * f.wide+cE.x).toNat) underlying22 dg Z Z (cI.has.bT (aV ((cE.y * f.wide+cE.x).toNat) (by omega))) (by (try simp only [bn] at hc);omega) (by omega))<|dL Z Z (λ hc _ x=>ax Z (J.aK.fh fY ((cI.later x).has.cD (aV ((cE.y * f.wide+cE.x).toNat) (by omega))) (j1.get hf nK) Z aT))<|b0 Z Z (λ hc _=>jg Z Z)<|aq Z (λ _=>iK Z (ep Z Bf))<|a1 Z Z<|fy Z Z Z<|b0 Z Z (λ hc _=>bx Z)<|b0 Z Z (λ hc _=>aj p9 Z)<|dL Z Z (λ hc _ x=>ax Z ((aI.later x).one c8 Z))<|fy Z Z Z<|dL Z Z (λ hc _ x=>ax Z ((pW.later x).all cA b3))<|ef Z Z Z Z Z Z n_ (λ hc=>Z) (λ hc _ x=>tT w f P F A cy gl c p aZ l b cE _ (γ lA x) hf cK (aI.later x) (by first | omega | (dsimp only;omega))) Z<|b0 Z Z (λ hc _=>cl ((cE.y * f.wide+cE.x).toNat) underlying22 dg Z Z (cI.has.bT (aV ((cE.y * f.wide+cE.x).toNat) (by omega))) (by (try simp only [bn] at hc);omega) (by omega))<|dL Z Z (λ hc _ x=>ax Z (J.aK.fh fY ((cI.later x).has.cD (aV ((cE.y * f.wide+cE.x).toNat) (by omega))) (j1.get hf nK) Z aT))<|fy Z Z Z<|b0 Z Z (λ hc _=>bad Z Z (pk (by (try simp only [bn] at hc);omega)))<|fy Z Z Z<|b0 Z Z (λ hc _=>bx Z)<|b0 Z Z (λ hc _=>aj p9 Z)<|dL Z Z (λ hc _ x=>ax Z ((aI.later x).one c8 Z))<|fy Z Z Z<| ?_;have gJ:=((gJ.later dK).mod iI aO).later fS;have Fj:=(kR hf j1.len H_).1;refine dL Z Z (λ hc _ x=>ax Z ((gJ.later x).all cA b3))<|ef Z Z Z Z Z Z n_ (λ hc=>Z) (λ hc _ x=>tT w f P F A cy gl c p aZ l b c1 _ (γ lA x) hf cK (aI.later x) (by first | omega | (dsimp only;omega))) Z<|b0 Z Z (λ hc _=>cl ((c1.y * f.wide+c1.x).toNat) underlying22 dg Z Z (cI.has.bT (aV ((c1.y * f.wide+c1.x).toNat) (by omega))) (by (try simp only [bn] at hc);omega) (by omega))<|dL Z Z (λ hc _ x=>ax Z (J.aK.fh fY ((cI.later x).has.cD (aV ((c1.y * f.wide+c1.x).toNat) (by omega))) (j1.get hf H_) Z aT))<|b0 Z Z (λ hc _=>beq Z Z)<|aq Z (λ _=>iK Z (ep Z It))<|fn λ Mf jn=> ?_;have:=jn.size;have rS:=γ lA jn;refine aX<|eT Z<|aw<| ?_;have pW:=pW.later jn;refine aa (ax Z (pW.all cA b3))<| ?_;have gJ:=gJ.later jn;refine cF Z Z gJ Z b3 Z Z λ apV ss gJ=> ?_;have:=ss.size;have QH:=Ext.mod rS ss bo;refine aC<|dn<|Qu Z<|dk<|dG<|dj<|aX<|rg<|vm Z<|aa (ax Z (gJ.all cA b3))<|c7 (e:= 55) (cs:= [Φ cE.x,Φ cE.y]) Z (λ _=>by kernel_rfl) Z λ ad0 aPe vn aTl aeS=> ?_;have Ju:=γ QH vn;have aVE:=aeS.lt;have nE:=((((nE.later dK).mod iI (bU VO)).later (γ fS jn)).mod ss (bl Kb)).later vn;refine ap aty J.dQ nE (aM.gu (R:=az.rep) (by_:=16) (q:=cE) aeS ⟨Z,⟨cN,cN⟩⟩ (by decide)) Z Z (by have alj:=akv;simp only [aYc,aYh];omega) (by have alj:=akv;simp only [aYc,aYh];omega) (by omega) Z λ aXc aqV avx nj Rz Ti aUH=> ?_;have:=nj.size;have aMw:=Ext.mod Ju nj (λ q I=>aYF (by omega) (nE.lt q I).1);have apD:=bM Rz.lt;refine va Z<|nl<|b1<|aX<|aw<| ?_;have gJ:=(gJ.later vn).mod nj (λ I=>Kb _ I rfl);refine aa (ax Z (gJ.all cA b3))<|aC<|rg<|cU yZ Z λ aLs auD Jo aTp WU=> ?_;have aem:=γ aMw Jo;refine cF Z Z WU Z b3 Z Z λ aLw ID WU=> ?_;have Wv:=Ext.mod aem ID bo;refine nl<| ?_;have ar:=(((((((ar.later dK).mod iI aO).later (γ fS jn)).mod ss aO).later vn).mod nj (λ I=>yX _ I rfl)).later Jo).mod ID aO;have br:=(((((((br.later dK).mod iI aO).later (γ fS jn)).mod ss aO).later vn).mod nj (λ I=>AM _ I rfl)).later Jo).mod ID aO;have aI:=(((((aI.later jn).mod ss aO).later vn).mod nj (λ I=>AN _ I rfl)).later Jo).mod ID aO;have cI:=(((((cI.later jn).mod ss (bl aBy)).later vn).mod nj (cQ xl)).later Jo).mod ID (bl λ q I ag=>by have:=zR q I;have:=DE q I;omega);have gJ:=(gJ.later Jo).mod ID aO;have Rz:=(Rz.later Jo).mod ID (bU apD);exact om _ _ ⟨cE,auD,out++ [cE],aqV,avx,Z,Z,Wv,ar,br,aI,cI,WU,Rz,(by omega),(by omega),(by omega),(by omega),(λ q I=>by have:=ajJ q I;omega),nP,O6,(by omega),(fJ Ti yX),(fJ Ti AM),(fJ Ti AN),(λ q I ag=>by (have:=apD q I;omega)),(λ q I ag=>by (exact aYC (Ti q I) (λ Pf=>by (exact xl q Pf ag)) (λ Pf=>by (have:=zR q ag;have:=DE q ag;omega))))⟩ (by omega) (qp Z)
  ·exfalso;have jy:j=4:=by omega
   rw [jy] at lp;exact aL.aJu nO (aHT lp)
 ·have TG:c1=a:=by simpa using Oq
  refine dn<|dk<|dG<|dj<|aX<|aB Z<|ca azc Z Z ((aIN _ _ w.heap.size out _ nE (az.oD nE.has)).mono ?_);rintro e ap2 ⟨rfl,Xx,UH⟩;refine cu ?_;have Ml:=Ext.mod qA UH (λ q I=>(nE.lt q I).1);refine aC<|av<| ?_;refine cO [(4,0),(6,0),(7,0),(9,0)] [0,1,2,3,4,5,6,7,8,9,10,11,12] ?_;refine a1 Z Z<|a1 Z Z<|aq Z (λ _=>bx Z)<|aq Z (λ _=>aj p9 Z)<| ?_;have aI:=aI.mod UH (λ I=>AN _ I rfl);refine cf Z Z aI c8 Z<|a1 Z Z<| ?_;have br:=br.mod UH (λ I=>AM _ I rfl);refine dT Z (λ _ x=>ax Z ((br.later x).all cA b3))<|qW Z Z n_ Z (λ _ x=>tT w f P F A cy gl c p aZ l b b _ (γ Ml x) hf cK (aI.later x) (by first | omega | (dsimp only;omega))) Z<| ?_;have cI:=cI.mod UH (cQ xl);refine aq Z (λ _=>cl ((b.y * f.wide+b.x).toNat) underlying22 dg Z Z (cI.has.bT (aV ((b.y * f.wide+b.x).toNat) (by have bw:=(kR hf j1.len oL).1;omega))) (by omega) (by have bw:=(kR hf j1.len oL).1;omega))<|dT Z (λ _ x=>ax Z (J.aK.fh fY ((cI.later x).has.cD (aV ((b.y * f.wide+b.x).toNat) (by have bw:=(kR hf j1.len oL).1;omega))) (j1.get hf oL) Z aT))<|aq Z (λ _=>ee Z)<|aq Z (λ _=>ee Z)<|aq Z (λ _=>ee Z)<|fn λ ap3 Qz=> ?_;have QL:=γ Ml Qz;refine aX<|rt<|cz (.tmp Z (.tmp Z (.tmp Z .nil)))<| ?_;have Xx:=Xx.later Qz;have K0:out=gy f (c' f a b) a b:=by rw [TG,DS KC] at oN;simpa using oN
  exact ⟨_,_,by rw [← K0,baG];rfl,by rw [← K0];exact Xx,QL⟩
end
section
section
variable {f:aL} {a b c x:az} {dl aZ:List Int} {d:Int}
def auh (f:aL):List az:=(List.range f.high.toNat).flatMap λ (y:Nat)=>(List.range f.wide.toNat).map λ (x:Nat)=>(⟨(x:Int),(y:Int)⟩:az)
def awe (f:aL) (a b:az) (dl aZ:List Int) (c:az):Bool :=
 (decide (0≤f.aD dl c) || decide (f.aD dl c= -1)) &&
 (!decide (0≤f.aD dl c) || (f.ground c && ((decide (c=a) && decide (f.aD dl c=0)) || (eK c).any λ p=>decide (0≤f.aD dl p) && decide (f.aD dl c=f.aD dl p+f.hB c)))) &&
 (!decide (0≤f.aD dl c) || (f.dr c).all λ y=>decide (0≤f.aD dl y) && decide (f.aD dl y≤f.aD dl c+f.hB y)) &&
 decide (f.aD aZ c=if 0≤f.aD dl c∧(f.aD dl b<0∨f.aD dl c+aL.l1 b c≤f.aD dl b) then f.aD dl c else -1) &&
 decide (f.aD dl c≤3 * (f.a_.length:Int))
def aQq (f:aL) (a b:az) (dl aZ:List Int):Bool:=decide (aZ.length=f.a_.length) && decide (f.aD dl a=0) && (auh f).all (awe f a b dl aZ)
end
theorem aHA (f:aL) (a b:az) (P:Option Addr) (cy:Nat) (w:World) (cK:bu.aK 8 w P cy f.a_):
  Calls prog 104 #[.agg #[.int .i64 f.wide, .int .i64 f.high, .slice P f.a_.length cy], .agg #[.int .i64 a.x, .int .i64 a.y], .agg #[.int .i64 b.x, .int .i64 b.y]] w (λ e w'=>∃ A c,e= .returned (.tuple #[.slice A (gX f a b).length c, .int .i64 (p' f a b), .int .i64 (ib f a b)])∧az.rep.aF 55 16 w' w.heap.size (J.ab A) A c (gX f a b)∧Ext w w'):=by
 by_cases he:ib f a b=0
 ·rcases Zr f a b with ⟨κ,τ⟩ | ⟨κ,τ,au⟩ | ⟨κ,τ,au,aU⟩ | ⟨κ,τ,au,aU | aU⟩
  ·rw [τ] at he;exact absurd he κ
  ·rw [au] at he;exact absurd he τ
  ·rw [aU] at he;cases he
  ·rw [aU.2] at he;cases he
  ·unfold gX p';rw [aYq he,aYq he,he];exact aHC f a b P cy w cK κ τ au aU.1
 ·unfold gX p';rw [aYi he,aYi he];exact (aHB f a b P cy w cK he).mono λ e w' h=>⟨none,0,h.1,J.aF.nil _,h.2⟩
section
variable {f:aL} {a b:az} {aZ:List Int}
end
end
theorem sZ (A:Option Addr) (c:Nat) (l:List Int) (w:World) (h:bu.aK 8 w A c l):
  Calls prog 77 #[.slice A l.length c] w λ e w'=>∃ bQ cc,e= .returned (.slice bQ l.length cc)∧bu.aF 3 8 w' w.heap.size (J.ab bQ) bQ cc l∧(bQ=none↔A=none)∧Below w.heap.size w w':=by
 obtain ⟨i0,hi,pj,nL,qe⟩:=baD xI;have PZ:∀ (w:World) (a:Option Addr) (n c jl cc:Nat),(binOp .eql 22 (.slice a n c) (.slice none jl cc)).run prog w= .ok (.bool a.isNone) w:=λ w a n c jl cc=>baa w _ _ a n c jl cc underlying22;cases A with
 | none =>
  obtain rfl:c=0:=h.2.2.2.1 rfl;obtain rfl:l= []:=aYx (by have:=h.1;omega);go_enter func77,ntmps77;go_wp2_with fail
  go_ret;exact ⟨none,0,Z,J.aF.nil _,by simp,aYG _ _⟩
 | some a =>
  have cV:Below w.heap.size w (w.alloc (.cells #[] 3)):=(aYG _ w).alloc (aYg _) _;obtain ⟨n,fr⟩:∃ n,Hid (l.length=n):=⟨_,aYe rfl⟩;obtain ⟨κ,τ,au,aU,ess,bN,cq⟩:=h.keep cV;have ux:=aYe bN;have mT:∀ u∈ess.flatten,u.oneCell'=true:=by
   intro u hu;obtain ⟨y,aE,hu⟩:=aZj.1 hu;obtain ⟨a,ha⟩:=bN.left y aE;exact bu.one ha u hu
  have ph:∀ (j:Nat) u,ess.flatten[j]? =some u→bu.raw (j % bu.size) u:=λ j u hu=>E7 bN (by decide) hu;rw [fr.out] at κ au cq;have dI:=aYe cq;have jO:=aYe (Own.empty (e:= 3) (size:=bu.size) (G:=bu.raw) w (aYg w.heap.size));clear h aU bN cq;rw [fr.out];go_enter func77,ntmps77;go_wp2_with (at_builtin;refine Jj _ rfl _ _ 22 rfl w.heap.size 3 i0 (.int .i64 0) bu.size 8 underlying22 hi pj nL qe rfl (by decide) bu.raw aMt _ _ _ rfl jO.out (some a) n c ess.flatten rfl dI.out mT ph ?qc4 ?qc5 ?qc6 ?_)
  case qc4=>unfold maxLen;omega
  case qc5=>omega
  case qc6=>simp
  intro v' w1 fz jE mS fX;have dc:=cV.grown jE (by simp) (by intro k ak;simp [Value.ownBlock] at ak;omega);obtain ⟨cb,c1,rfl,hle,_,_,_,lL⟩:=fz.shape;have kS:cb≠none:=by
   intro h;subst h;exact mS (lL Z)
  have bq:Hid (bu.aF 3 8 w1 w.heap.size (J.ab cb) cb c1 l):=aYe (J.aF.Br aow ux.out (by rw [fr.out];exact au) (by rw [fr.out];simpa using fz));have sQ:=aYe kS;clear jE mS fX fz kS lL mT ph;go_wp2_with fail
  go_ret;exact ⟨cb,c1,Z,bq.out,⟨λ h=>absurd h sQ.out,λ h=>by cases h⟩,dc⟩
theorem Sp (A:Option Addr) (c:Nat) (l:List az) (w:World) (h:az.rep.aK 16 w A c l):
  Calls prog 88 #[.slice A l.length c] w λ e w'=>∃ bQ cc,e= .returned (.slice bQ l.length cc)∧az.rep.aF 55 16 w' w.heap.size (J.ab bQ) bQ cc l∧(bQ=none↔A=none)∧Below w.heap.size w w':=by
 obtain ⟨i0,hi,pj,nL,qe⟩:=baD az.info;have PZ:∀ (w:World) (a:Option Addr) (n c jl cc:Nat),(binOp .eql 25 (.slice a n c) (.slice none jl cc)).run prog w= .ok (.bool a.isNone) w:=λ w a n c jl cc=>baa w _ _ a n c jl cc underlying25;cases A with
 | none =>
  obtain rfl:c=0:=h.2.2.2.1 rfl;obtain rfl:l= []:=aYx (by have:=h.1;omega);go_enter func88,ntmps88;go_wp2_with fail
  go_ret;exact ⟨none,0,Z,J.aF.nil _,by simp,aYG _ _⟩
 | some a =>
  have cV:Below w.heap.size w (w.alloc (.cells #[] 55)):=(aYG _ w).alloc (aYg _) _;obtain ⟨n,fr⟩:∃ n,Hid (l.length=n):=⟨_,aYe rfl⟩;obtain ⟨κ,τ,au,aU,ess,bN,cq⟩:=h.keep cV;have ux:=aYe bN;have mT:∀ u∈ess.flatten,u.oneCell'=true:=by
   intro u hu;obtain ⟨y,aE,hu⟩:=aZj.1 hu;obtain ⟨a,ha⟩:=bN.left y aE;exact az.rep.one ha u hu
  have ph:∀ (j:Nat) u,ess.flatten[j]? =some u→az.rep.raw (j % az.rep.size) u:=λ j u hu=>E7 bN (by decide) hu;rw [fr.out] at κ au cq;have dI:=aYe cq;have jO:=aYe (Own.empty (e:= 55) (size:=az.rep.size) (G:=az.rep.raw) w (aYg w.heap.size));clear h aU bN cq;rw [fr.out];go_enter func88,ntmps88;go_wp2_with (at_builtin;refine Jj _ rfl _ _ 25 rfl w.heap.size 55 i0 az.zero az.rep.size 16 underlying25 hi pj nL qe rfl (by decide) az.rep.raw az.j8 _ _ _ rfl jO.out (some a) n c ess.flatten rfl dI.out mT ph ?qc4 ?qc5 ?qc6 ?_)
  case qc4=>unfold maxLen;omega
  case qc5=>omega
  case qc6=>simp
  intro v' w1 fz jE mS fX;have dc:=cV.grown jE (by simp) (by intro k ak;simp [Value.ownBlock] at ak;omega);obtain ⟨cb,c1,rfl,hle,_,_,_,lL⟩:=fz.shape;have kS:cb≠none:=by
   intro h;subst h;exact mS (lL Z)
  have bq:Hid (az.rep.aF 55 16 w1 w.heap.size (J.ab cb) cb c1 l):=aYe (J.aF.Br az.plain ux.out (by rw [fr.out];exact au) (by rw [fr.out];simpa using fz));have sQ:=aYe kS;clear jE mS fX fz kS lL mT ph;go_wp2_with fail
  go_ret;exact ⟨cb,c1,Z,bq.out,⟨λ h=>absurd h sQ.out,λ h=>by cases h⟩,dc⟩
theorem Sq (A:Option Addr) (c:Nat) (l:List bj) (w:World) (h:bj.rep.aK 56 w A c l):
  Calls prog 89 #[.slice A l.length c] w λ e w'=>∃ bQ cc,e= .returned (.slice bQ l.length cc)∧bj.rep.aF 57 56 w' w.heap.size (J.ab bQ) bQ cc l∧(bQ=none↔A=none)∧Below w.heap.size w w':=by
 obtain ⟨i0,hi,pj,nL,qe⟩:=baD bj.info;have PZ:∀ (w:World) (a:Option Addr) (n c jl cc:Nat),(binOp .eql 26 (.slice a n c) (.slice none jl cc)).run prog w= .ok (.bool a.isNone) w:=λ w a n c jl cc=>baa w _ _ a n c jl cc underlying26;cases A with
 | none =>
  obtain rfl:c=0:=h.2.2.2.1 rfl;obtain rfl:l= []:=aYx (by have:=h.1;omega);go_enter func89,ntmps89;go_wp2_with fail
  go_ret;exact ⟨none,0,Z,J.aF.nil _,by simp,aYG _ _⟩
 | some a =>
  have cV:Below w.heap.size w (w.alloc (.cells #[] 57)):=(aYG _ w).alloc (aYg _) _;obtain ⟨n,fr⟩:∃ n,Hid (l.length=n):=⟨_,aYe rfl⟩;obtain ⟨κ,τ,au,aU,ess,bN,cq⟩:=h.keep cV;have ux:=aYe bN;have mT:∀ u∈ess.flatten,u.oneCell'=true:=by
   intro u hu;obtain ⟨y,aE,hu⟩:=aZj.1 hu;obtain ⟨a,ha⟩:=bN.left y aE;exact bj.rep.one ha u hu
  have ph:∀ (j:Nat) u,ess.flatten[j]? =some u→bj.rep.raw (j % bj.rep.size) u:=λ j u hu=>E7 bN (by decide) hu;rw [fr.out] at κ au cq;have dI:=aYe cq;have jO:=aYe (Own.empty (e:= 57) (size:=bj.rep.size) (G:=bj.rep.raw) w (aYg w.heap.size));clear h aU bN cq;rw [fr.out];go_enter func89,ntmps89;go_wp2_with (at_builtin;refine Jj _ rfl _ _ 26 rfl w.heap.size 57 i0 bj.zero bj.rep.size 56 underlying26 hi pj nL qe rfl (by decide) bj.rep.raw bj.j8 _ _ _ rfl jO.out (some a) n c ess.flatten rfl dI.out mT ph ?qc4 ?qc5 ?qc6 ?_)
  case qc4=>unfold maxLen;omega
  case qc5=>omega
  case qc6=>simp
  intro v' w1 fz jE mS fX;have dc:=cV.grown jE (by simp) (by intro k ak;simp [Value.ownBlock] at ak;omega);obtain ⟨cb,c1,rfl,hle,_,_,_,lL⟩:=fz.shape;have kS:cb≠none:=by
   intro h;subst h;exact mS (lL Z)
  have bq:Hid (bj.rep.aF 57 56 w1 w.heap.size (J.ab cb) cb c1 l):=aYe (J.aF.Br bj.plain ux.out (by rw [fr.out];exact au) (by rw [fr.out];simpa using fz));have sQ:=aYe kS;clear jE mS fX fz kS lL mT ph;go_wp2_with fail
  go_ret;exact ⟨cb,c1,Z,bq.out,⟨λ h=>absurd h sQ.out,λ h=>by cases h⟩,dc⟩
section
variable {a b:az} {f:aL}
theorem aFB (h: -1000≤a.x∧a.x≤1000∧ -1000≤a.y∧a.y≤1000) (τ: -1000≤b.x∧b.x≤1000∧ -1000≤b.y∧b.y≤1000):1≤(jH a b).length∧(jH a b).length≤2001∧(jH a b).length=(aZ a b).toNat+1:=by
 have au:=kn (b.x - a.x);have aU:=kn (b.y - a.y);unfold jH;rw [IV];unfold aZ;omega
def aL.clear (f:aL) (c:az):Bool:= !(f.oE c == 1 || f.oE c == 2)
def yS (f:aL) (a b:az):Bool:=decide ((jH a b).length<3) || (((jH a b).drop 1).take ((jH a b).length - 1 - 1)).all f.clear
theorem auR (h:(jH a b).length<3):yS f a b=true:=by unfold yS;rw [aYD h];rfl
theorem auT (h:∀ i,i<(((jH a b).drop 1).take ((jH a b).length - 1 - 1)).length→f.clear ((((jH a b).drop 1).take ((jH a b).length - 1 - 1)).getD i default)=true):yS f a b=true:=by
 unfold yS;rw [aYZ];refine .inr (aYW.2 λ x hx=> ?_);obtain ⟨i,hi,rfl⟩:=List.getElem_of_mem hx;have:=h i hi
 rwa [aX7,aYb hi] at this
theorem auS {k:Nat} (ak:k<(((jH a b).drop 1).take ((jH a b).length - 1 - 1)).length) (h:f.clear ((((jH a b).drop 1).take ((jH a b).length - 1 - 1)).getD k default)=false):yS f a b=false:=by
 unfold yS;have au:¬ (jH a b).length<3:=by rw [aYa,aYs] at ak;omega
 rw [aYL au,bbk];rw [bbg];refine ⟨_,aZs ak, ?_⟩;rw [aX7,aYb ak] at h;simpa using h
theorem agc {c:az} (h:f.et c=0):0≤c.x∧c.x<40∧0≤c.y∧c.y<40:=by
 have hc:f.a7=0:=by
  cases hd:decide (f.a7=0) with
  | true=>simpa using hd
  | false=>rw [(aL.X0 (by simpa using hd)).1] at h;exact h
 have hi:=XZ hc h;unfold aL.fP at hi;rw [aYl] at hi;have κ:=hV hi.1;have τ:=hV hi.2;unfold aL.a7 at hc;split at hc
 ·rename_i hw
  rw [aYl] at hw;have au:=hV hw.1;have aU:=hV hw.2;omega
 ·omega
def F9 (f:aL) (a b:az):Int:=if f.et a≠0 then f.et a else f.et b
def P7 (f:aL) (a b:az):Bool:=if F9 f a b≠0 then false else yS f a b || yS f b a
def I0 (f:aL) (a b:az):Value:= .tuple #[.bool (P7 f a b),Φ (F9 f a b)]
theorem aJh (h:¬ f.et a=0):I0 f a b= .tuple #[.bool false,Φ (f.et a)]:=by
 have e:F9 f a b=f.et a:=by unfold F9;rw [aYq h]
 unfold I0 P7;rw [e,aYq h]
theorem aJi (aG:f.et a=0) (h:¬ f.et b=0):I0 f a b= .tuple #[.bool false,Φ (f.et b)]:=by
 have e:F9 f a b=f.et b:=by unfold F9;rw [aYi (by simpa using aG)]
 unfold I0 P7;rw [e,aYq h]
theorem aJj (aG:f.et a=0) (h:f.et b=0):I0 f a b= .tuple #[.bool (yS f a b || yS f b a),Φ 0]:=by
 have e:F9 f a b=0:=by unfold F9;rw [aYi (by simpa using aG)];exact h
 unfold I0 P7;rw [e,aYi (by simp)]
theorem agn (f:aL) (a b:az) (A:Option Addr) (c:Nat) (w:World) (cK:bu.aK 8 w A c f.a_) (h: -1000≤a.x∧a.x≤1000∧ -1000≤a.y∧a.y≤1000) (τ: -1000≤b.x∧b.x≤1000∧ -1000≤b.y∧b.y≤1000):
  Calls prog 167 #[.agg #[Φ f.wide,Φ f.high, .slice A f.a_.length c], .agg #[Φ a.x,Φ a.y], .agg #[Φ b.x,Φ b.y]] w (λ e w'=>e= .returned (.bool (yS f a b))∧Ext w w'):=by
 refine ch (n:=45) func167 Z Z Z ?_;refine dZ Z Z λ cG bB aR d' ae=> ?_;refine jR Z Z λ eC cJ bt hP ar=> ?_;have bO:=γ aR bt;refine jR Z Z λ hG jf cr rm br=> ?_;have c6:=γ bO cr;refine aJ Z<|aw<| ?_;have ar:=ar.later cr;refine aa (ax Z (ar.all cA b3))<|aa (ax Z (br.all cA b3))<|ca azd Z Z ((awc a b _ (by omega) (by omega)).mono ?_);rintro e rF ⟨JD,Yk,rfl,Cj,cX⟩;refine cu ?_;have iA:=γ c6 cX;have aRX:=aFB (a:=a) (b:=b) (by omega) (by omega);refine vm Z<|bs Z Z<|bs Z Z<|va Z<|aJ Z<|av<|aB Z<|aa (b5 underlying25 Z)<|dR Z Z<|aC<| ?_;refine en Z (λ aal=> ?_) (λ aal=> ?_)
 ·refine aw<|aY Z<|bD<|b_ Z Z<| ?_;exact ⟨by rw [auR (by omega)];rfl,iA⟩
 ·refine bm<|av<|aB Z<|vm Z<|aa (b5 underlying25 Z)<|aa (kx Z Z gD)<|aa (aoE 1 ((jH a b).length - 1) underlying25 b3 Z Z Z Z (by omega) (by omega) (by have:=Cj.has.1;omega))<|aa (b5 underlying25 Z)<|vm Z<|aC<|bJ<| ?_;have ae:=ae.later (γ bt (γ cr cX));refine eV (λ cp cn aP=>∃ k:Nat,cn= [(3, .pointer (bA bB)),(26, .slice (eF JD Yk 1 2) ((jH a b).length - 1 - 1) (Yk - 1)),(27,Φ ((((jH a b).length - 1 - 1:Nat):Int))),(28,Φ (k:Int))]∧cp=(jH a b).length - 1 - 1 - k∧Ext w aP∧aM aP bB [Φ f.wide,Φ f.high, .slice A f.a_.length c] 24 (0,0)∧az.rep.aF 55 16 aP hG.heap.size (J.ab JD) JD Yk (jH a b)∧(k≤(jH a b).length - 1 - 1)∧(∀ i,i<k→f.clear ((((jH a b).drop 1).take ((jH a b).length - 1 - 1)).getD i default)=true)) _ _ ⟨0,Z,Z,iA,ae,Cj,by omega,λ i hi=>by omega⟩ (eO Z Z Z) ?_;rintro Dq aN7 ub ⟨k,rfl,rfl,hH,ae,Cj,ak,aN⟩;have aV8:=ae.lt;have aKL:=bM Cj.lt;refine aw<|dR Z Z<|aC<|av<| ?_;refine en Z (λ A5=> ?_) (λ A5=> ?_)
  ·refine bm<|av<|bJ<|aw<|aa (cl k underlying25 b3 Z Z ((Cj.has.sub 1 ((jH a b).length - 1) (by omega) (by omega)).bT (aV k (by rw [aYa,aYs];omega))) Z (by omega))<|aa (ax Z (J.aK.iu y9 ((Cj.has.sub 1 ((jH a b).length - 1) (by omega) (by omega)).cD (aV k (by rw [aYa,aYs];omega))) (dt (l:=((jH a b).drop 1).take ((jH a b).length - 1 - 1)) (u:=default) (by rw [aYa,aYs];omega)) cA b3))<|cU yZ Z λ L1 R2 eL amI Ai=> ?_;have um:=γ hH eL;refine cF Z Z Ai Z b3 Z Z λ wH qh Ai=> ?_;have j6:=Ext.mod um qh bo;refine aC<|aw<| ?_;have ae:=(ae.later eL).mod qh aO;refine aa (ax Z (ae.all mo mq))<|aa (ax Z (Ai.all cA b3))<|cM s6 Z (uM f (((((jH a b).drop 1).take ((jH a b).length - 1 - 1)).getD k default)) _ _ _ (cK.keep j6)) λ BH hq=> ?_;have nA:=γ j6 hq;refine vm Z<|bs Z Z<|bs Z Z<|va Z<|aJ Z<|aB Z<|aa (beq Z Z)<|vm Z<|ec Z Z<|bh Z (λ hc=>beq (gt hc Z) Z)<|aa (eW Z Z Z Z)<|aC<| ?_;refine du Z (λ jC=> ?_) (λ jC=> ?_)
   ·refine aw<|aY Z<|eb<|bD<|m0<|eb<|bD<|b_ Z Z<| ?_;exact ⟨by rw [auS (k:=k) (by rw [aYa,aYs];omega) (by unfold aL.clear;rw [jC];rfl)];rfl,nA⟩
   ·refine fu<|b1<|eM Z Z Z<| ?_;have ae:=ae.later hq;have Cj:=((Cj.later eL).mod qh (bU aKL)).later hq;exact eJ ⟨k+1,Z,Z,nA,ae,Cj,by omega,sr aN (by unfold aL.clear;rw [jC];rfl)⟩
  ·refine dn<|dk<|dG<|dj<|aX<|aw<|aY Z<|b_ Z Z<| ?_;exact ⟨by rw [auT λ i hi=>aN i (by rw [aYa,aYs] at hi;omega)];rfl,hH⟩
theorem aJg (f:aL) (a b:az) (A:Option Addr) (c:Nat) (w:World) (cK:bu.aK 8 w A c f.a_):
  Calls prog 135 #[.agg #[Φ f.wide,Φ f.high, .slice A f.a_.length c], .agg #[Φ a.x,Φ a.y], .agg #[Φ b.x,Φ b.y]] w (λ e w'=>e= .returned (I0 f a b)∧Ext w w'):=by
 refine ch (n:=38) func135 Z Z Z ?_;refine dZ Z Z λ cG bB aR d' ae=> ?_;have hE:=ae.lt;refine jR Z Z λ eC cJ bt hP ar=> ?_;have bO:=γ aR bt;have mB:=ar.lt;refine jR Z Z λ hG jf cr rm br=> ?_;have c6:=γ bO cr;have xX:=br.lt;refine va Z<|aJ Z<|av<|aw<| ?_;have ar:=ar.later cr;refine aa (ax Z (ar.all cA b3))<|aa (ax Z (br.all cA b3))<|aa (v:= .agg #[Φ a.x,Φ a.y,Φ b.x,Φ b.y]) (eu Z)<|vm Z<|aC<|bJ<|uW 3<|kg<|aw<|dR Z Z<|aC<|av<|eT Z<|bm<|av<|bJ<|aw<|aa (v:= .agg #[Φ a.x,Φ a.y]) (Is Z Z (by kernel_rfl))<|cU yZ Z λ nR Nq ey abO uu=> ?_;have eZ:=γ c6 ey;have Va:=uu.lt;refine cF Z Z uu Z b3 Z Z λ ub Dq uu=> ?_;have:=Dq.size;have hH:=Ext.mod eZ Dq bo;refine aC<|aw<| ?_;have ae:=(ae.later (γ bt (γ cr ey))).mod Dq aO;refine aa (ax Z (ae.all mo mq))<|aa (ax Z (uu.all cA b3))<|cM s6 Z (uM f a _ _ _ (cK.keep hH)) λ wF ho=> ?_;have:=ho.size;have mf:=γ hH ho;refine vm Z<|bs Z Z<|bs Z Z<|va Z<|aJ Z<|aB Z<|cS Z Z<|aC<| ?_;refine eU Z (λ y7=> ?_) (λ y7=> ?_)
 ·refine aB Z<|va Z<|aY Z<|eb<|bD<|m0<|eb<|bD<|f_ Z Z Z<| ?_;exact ⟨by rw [aJh y7];rfl,mf⟩
 ·have aSg:=agc y7;refine fu<|b1<|aX<|rg<|aa (qN (r:=1) Z Z (by decide) (by decide))<|vm Z<|nl<|rv<|kg<|aw<|dR Z Z<|aC<|av<|eT Z<|bm<|av<|bJ<|aw<|aa (v:= .agg #[Φ b.x,Φ b.y]) (Is Z Z (by kernel_rfl))<|cU yZ Z λ vk aPE kJ aTO WX=> ?_;have jr:=γ mf kJ;refine cF Z Z WX Z b3 Z Z λ Qn oT WX=> ?_;have qz:=Ext.mod jr oT bo;refine aC<|aw<| ?_;have ae:=(ae.later (γ ho kJ)).mod oT aO;refine aa (ax Z (ae.all mo mq))<|aa (ax Z (WX.all cA b3))<|cM s6 Z (uM f b _ _ _ (cK.keep qz)) λ L5 jM=> ?_;have qA:=γ qz jM;refine vm Z<|bs Z Z<|bs Z Z<|va Z<|aJ Z<|aB Z<|cS Z Z<|aC<| ?_;refine eU Z (λ tq=> ?_) (λ tq=> ?_)
  ·refine aB Z<|va Z<|aY Z<|eb<|bD<|m0<|eb<|bD<|f_ Z Z Z<| ?_;exact ⟨by rw [aJi ‹_› tq];rfl,qA⟩
  ·have aSi:=agc tq;refine fu<|b1<|aX<|rg<|aa (qN (r:=2) Z Z (by decide) (by decide))<|vm Z<|nl<|rv<|kg<|aw<|dR Z Z<|aC<|av<|gj Z<|dn<|dk<|dG<|dj<|aX<|aw<| ?_;have ae:=ae.later jM;refine aa (ax Z (ae.all mo mq))<| ?_;have ar:=((((ar.later ey).mod Dq aO).later (γ ho kJ)).mod oT aO).later jM;refine aa (ax Z (ar.all cA b3))<| ?_;have br:=((((br.later ey).mod Dq aO).later (γ ho kJ)).mod oT aO).later jM;refine aa (ax Z (br.all cA b3))<|cM aiw Z (agn f a b _ _ _ (cK.keep qA) (by omega) (by omega)) λ Jd lR=> ?_;have qB:=γ qA lR;refine vm Z<| ?_;have ae:=ae.later lR;refine bh Z (λ hc=>ax Z (ae.all mo mq))<| ?_;have br:=br.later lR;refine bh Z (λ hc=>ax Z (br.all cA b3))<| ?_;have ar:=ar.later lR;refine bh Z (λ hc=>ax Z (ar.all cA b3))<|sB Z aiw (λ hc=>gp (gt hc Z) (gp (gt hc Z) (gp (gt hc Z) Z))) (λ hc=>agn f b a _ _ _ (cK.keep qB) (by omega) (by omega)) λ V0 D0=> ?_;have yn:=γ qB D0;refine aa (eW Z Z Z Z)<|va Z<|aY Z<|f_ Z Z Z<| ?_;exact ⟨by rw [aJj ‹_› ‹_›];rfl,yn⟩
end
structure fc where
 bd:Int
 l_:Int
 deriving DecidableEq,Inhabited
namespace fc
def cells (a:fc):List Value:= [.int .i64 (a.bd), .int .i64 (a.l_)]
def ok (a:fc):Prop:=(Lit.int .i64 a.bd).wf=true∧(Lit.int .i64 a.l_).wf=true
def raw (j:Nat) (u:Value):Prop:=match j with
 | 0=>∃ n:Int,u= .int .i64 n
 | 1=>∃ n:Int,u= .int .i64 n
 | _=>True
theorem qQ (a:fc):∀ (j:Nat) u,a.cells[j]? =some u→raw j u:=by
 intro j u hu
 match j,hu with
 | 0,hu=>exact ⟨_,(aYd hu).symm⟩
 | 1,hu=>exact ⟨_,(aYd hu).symm⟩
 | j+2,hu=>exact trivial
theorem qP (a:fc):∀ u∈a.cells,u.oneCell'=true:=by
 intro u hu;unfold cells at hu;simp only [aYk,aZA,baq] at hu;rcases hu with rfl | rfl<;>rfl
def rep:J fc:=J.flat 2 cells ok raw (fun _=>rfl) qP qQ
def zero:Value:= .agg #[.int .i64 0, .int .i64 0]
theorem j8:∀ (j:Nat) u,zero.cells[j]? =some u→rep.raw j u:=by
 intro j u hu;have hu:(#[(.int .i64 0:Value),(.int .i64 0:Value)]:Array Value)[j]? =some u:=hu
 match j,hu with
 | 0,hu=>exact ⟨_,(aYd hu).symm⟩
 | 1,hu=>exact ⟨_,(aYd hu).symm⟩
 | j+2,hu=>cases hu
theorem info:(prog.info? 201).map (fun i=>(i.zero,i.size,i.bytes))=some (some zero,2,16):=by kernel_rfl
def sh:hl:=(.cons (.int .i64) (.cons (.int .i64) .nil))
end fc
theorem aBH {w:World} {cs:List Value} {a:fc} (h:fc.rep.has w cs a):cs=a.cells:=bas (show cs=a.cells∧a.ok from h)
end Go.Proofs.YtmeeljmapailnaaGreat
