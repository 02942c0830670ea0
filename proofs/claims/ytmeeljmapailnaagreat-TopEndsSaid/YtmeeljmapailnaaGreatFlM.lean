import Derived.Test.YtmeeljmapailnaaGreatGolR
set_option linter.unusedVariables false
set_option linter.unusedSimpArgs false
set_option maxRecDepth 100000
set_option maxHeartbeats 4000000
open Go.RowKit
namespace Go.Proofs.YtmeeljmapailnaaGreat
open Tryz
abbrev aYr:=@List.length_singleton
abbrev aYB:=@decide_eq_true_eq
abbrev aYI:=@decide_eq_false_iff_not
abbrev aYM:=@Bool.or_eq_false_iff
abbrev aYQ:=@List.length_replicate
abbrev aZp:=@List.mem_of_mem_take
abbrev aZO:=@List.filter_cons
abbrev aZQ:=@Nat.le_of_eq
abbrev aZY:=@List.range_succ
abbrev aZ9:=@List.drop_eq_getElem_cons
abbrev bam:=@List.set_cons_zero
abbrev ban:=@List.set_cons_succ
abbrev bav:=@List.mem_iff_getElem?
abbrev baz:=@List.take_take
abbrev baK:=@Bool.not_true
abbrev baM:=@List.mem_filter
abbrev ba1:=@List.map_take
abbrev ba6:=@decide_false
abbrev ba9:=@Int.add_mul_emod_self_right
abbrev bbb:=@List.mem_of_find?_eq_some
abbrev bbf:=@decide_true
abbrev bbk:=@Bool.false_or
abbrev bbn:=@Go.Proofs.Tryz.zeroValue3
abbrev bbw:=@List.find?_some
abbrev bbJ:=@Bool.not_false
abbrev bbS:=@Bool.or_false
abbrev bbY:=@List.countP_append
abbrev bcd:=@Int.sub_self
abbrev bcf:=@Int.emod_eq_of_lt
abbrev bcg:=@Int.add_comm
abbrev bch:=@Bool.true_or
abbrev bci:=@Bool.or_true
abbrev bcr:=@List.countP_cons
abbrev bcD:=@Int.tdiv_eq_ediv_of_nonneg
abbrev bcK:=@List.set_eq_of_length_le
abbrev bcX:=@List.countP_le_length
abbrev bdp:=@Nat.le_succ_of_le
section
variable {by_ B c m cap e s q base:Nat} {A:Option Addr}
namespace J
variable {α:Type} {R:J α}
theorem aF.ZE {E by_ c:Nat} {A:Option Addr} {l:List α} {w:World} {ps:List (List Nat×List Value)} (hp:R.rV) (dM:dC (λ x a=>R.own w B x.1 x.2 a) ps l):∀ y∈ps,y.1= []:=λ y aE=>by
 obtain ⟨b,ag⟩:=dM.left y aE;exact hp.2 ag
theorem az6 {ps:List (List Nat×List Value)} (h:∀ y∈ps,y.1= []):(ps.map (·.1)).flatten= []:=by
 rw [bcO];intro x hx;obtain ⟨y,aE,rfl⟩:=aYU.1 hx;exact h y aE
theorem aF.cut {E:Nat} {l:List α} {w:World} (h:R.aF E by_ w B (ab A) A c l) (hp:R.rV) (k:Nat) (ak:k≤l.length):R.aF E by_ w B (ab A) A c (l.take k):=by
 obtain ⟨ag,ps,hf,hn,bK,dM⟩:=h;have ah:=U4 dM;have pg:ps.length=l.length:=dM.length;have κ:=aF.ZE (E:=E) (by_:=by_) (c:=c) (A:=A) hp dM;have hlen:(l.take k).length=k:=by rw [aYa];omega
 have hm:=aYY by_ ak;refine ⟨by rw [hlen];omega,ps.take k, ?_,hn, ?_,dM.LN k⟩
 ·rw [az6 λ y aE=>κ y (aZp aE),aYP]
 ·rw [hlen,ba1,S' k ah];obtain ⟨iG,C'⟩:=bK;have hle:k * R.size≤l.length * R.size:=aYY _ ak;refine ⟨by rw [aYa,iG];omega, ?_⟩;rcases C' with ⟨C',aSO⟩ | ⟨g,cap,cur,hv,bg,eI,C5,oc,hs,aH,bP⟩
  ·injection C' with aW bb df
   subst aW df;have:k=0:=by omega
   subst this;exact .inl ⟨Z,Z⟩
  ·injection hv with aW bb df
   subst aW df;exact .inr ⟨g,c,cur,Z,bg,eI,by omega,oc,hs,by rw [← aH,baz,aZx hle],bP⟩
theorem Own.aoL {base e size n g c:Nat} {G:Nat→Value→Prop} {xs:List Value}:∀ (zs:List Value) (o:Nat) (w:World),n * size≤o→Own w base e size G (.slice (some ⟨g,0,none⟩) n c) n xs→(∀ (j:Nat) u,zs[j]? =some u→G ((o+j) % size) u)→
  Own (w.setCells g o zs) base e size G (.slice (some ⟨g,0,none⟩) n c) n xs
 | [],_,_,_,h,_=>h
 | v::r,o,w,bK,h,bP=>by
  rw [World.setCells];have κ:=h.stored o v (bP 0 v rfl);rw [bcK (by rw [h.1];exact bK)] at κ;refine Own.aoL r (o+1) _ (by omega) κ λ j u hu=> ?_;have:=bP (j+1) u hu
  rwa [show o+1+j=o+(j+1) from by omega]
theorem Mod.setCells (g:Nat):∀ (zs:List Value) (o:Nat) (w:World),Mod [g] w (w.setCells g o zs)
 | [],_,w=>Mod.a8 (Ext.cH w)
 | v::r,o,w=>by
  rw [World.setCells];exact (Mod.setCell w ⟨g,o,none⟩ v).trans (Mod.setCells g r (o+1) _)
theorem aF.aJq {E g:Nat} {l:List α} {w:World} (h:R.aF E by_ w B (ab (some ⟨g,0,none⟩)) (some ⟨g,0,none⟩) c l) (hp:R.rV) (k:Nat) (ak:k≤l.length) (zs:List Value) (bc:∀ (j:Nat) u,zs[j]? =some u→R.raw (j % R.size) u):
  R.aF E by_ (w.setCells g (k * R.size) zs) B (ab (some ⟨g,0,none⟩)) (some ⟨g,0,none⟩) c (l.take k):=by
 obtain ⟨ag,ps,hf,hn,bK,dM⟩:=h.cut hp k ak;have κ:=aF.ZE (E:=E) (by_:=by_) (c:=c) (A:=some ⟨g,0,none⟩) hp dM;have hlen:(l.take k).length=k:=by rw [aYa];omega
 refine ⟨ag,ps,hf,hn, ?_,dM.imp λ y a aE zi=>R.rA zi λ q I=> ?_⟩
 ·refine Own.aoL zs _ w (by rw [hlen];exact aYg _) bK λ j u hu=> ?_;rw [aZq,baL];exact bc j u hu
 ·rw [κ y aE] at I;simp at I
end J
section
variable {P:Program} {n:Nat} {E cW:List (Nat×Value)} {a:Act} {w w' w0 w1:World} {Q:Exit→Act→World→Prop} {ops:Array Oper} {v:Value}
variable {d:Option Nat} {ty:TypeId} {pos:String} {af:Array Edge} {g:Option (Nat×Bool)} {x y z:Operand} {t:TypeId} {rest:List Oper}
theorem aNg {zs:Array Value} {j:Nat} {u:Value} (hu:(Builtin.zeroCells zs m).toList[j]? =some u):∃ i:Nat,i=j % zs.size∧(0<zs.size→zs[i]? =some u):=by
 rw [aZe] at hu;obtain ⟨h,hv⟩:=aYN.1 hu;simp only [Builtin.zeroCells,Array.getElem_map,Array.getElem_range] at hv;refine ⟨_,Z,λ aG=> ?_⟩;have hr:j % zs.size<zs.size:=bal _ aG;rw [baF hr,← hv];rw [bcP zs (j % zs.size) hr]
theorem Vm {len:Nat} {k:IntKind} (lo:Nat) {i:Int} (aH:P.underlying t=some (.slice e)) (hs:eS P e s) (hx:ev E x=some (.slice A len cap)) (aE:ev E y=some (.int k i)) (hi:i=(lo:Int)) (κ:lo≤len):
  c9 P E ⟨d, .slice t x (some y) none none,ty,pos,af,g⟩ w (.slice (eF A cap lo s) (len - lo) (cap - lo)) w:=λ n a ha=>by
 subst hi;have lM:P.underlying t=some (.slice (P.elem t)):=by simp [Program.elem,aH]
 have nt:P.elem t=e:=by simp [Program.elem,aH]
 have au:=run_slice_l (P:=P) (w:=w) t A len cap lM k (lo:Int) (by omega) (by omega);have aU:=bay (P:=P) (w:=w) t (.slice A len cap) (some (.int k (lo:Int))) none none lM;rw [nt,hs w] at au;simp only [execOp,ha.ev hx,ha.ev aE,Option.map,aU,au,aYt,aYj,aYu,sliced,aY2,eF]
theorem aKZ {op:Op} (hr:c9 P E ⟨none,op,ty,pos,af,none⟩ w v w') (h:cg P n ops Q rest E w'):cg P n ops Q (⟨none,op,ty,pos,af,none⟩::rest) E w:=λ a ha=>by
 refine Hm Z ?_;unfold Oper.wp;rw [hr n a ha];exact h _ ha
theorem aIV {α:Type} {R:J α} {k g:Nat} {l:List α} {z:Value} (aH:P.underlying t=some (.slice e)) (hi:(P.info? e).map (λ i=>(i.zero,i.size,i.bytes))=some (some z,m,by_)) (hm:R.size=m) (aG:0<m) (bc:z.cells.size=m) (nL:z.cells.toList.all (·.oneCell')=true)
  (hr:∀ (j:Nat) u,z.cells[j]? =some u→R.raw j u) (h:R.aF e by_ w B (J.ab (some ⟨g,0,none⟩)) (some ⟨g,0,none⟩) c l) (hR:R.rV) (ak:k≤l.length) (I:0<q) (Ba:k+q≤c):
  ∃ w1,Mod [g] w w1∧R.aF e by_ w1 B (J.ab (some ⟨g,0,none⟩)) (some ⟨g,0,none⟩) c (l.take k)∧(Builtin.clear_ #[t] ty #[.slice (some ⟨g,k * m,none⟩) q (c - k)]).run P w= .ok (.tuple #[]) w1:=by
 subst hm;have hlen:(Builtin.zeroCells z.cells q).toList.length=q * R.size:=by rw [aZ0];simp [Builtin.zeroCells,bc]
 obtain ⟨hle,ps,hf,hn,bK,dM⟩:=id h;have e_:∀ j,j<q * R.size→k * R.size+j<c * R.size:=λ j ay=>by
  have aW:k * R.size+q * R.size=(k+q) * R.size:=by rw [← aZM]
  have bb:=aYY R.size Ba;omega
 have alp:∀ (j:Nat) u,(Builtin.zeroCells z.cells q).toList[j]? =some u→u.oneCell'=true∧R.raw (j % R.size) u:=λ j u hu=>by
  obtain ⟨i,hi,aN⟩:=aNg hu;have aN:=aN (by omega);rw [bc] at hi;subst hi;refine ⟨?_,hr _ u aN⟩;have:=aYW.1 nL u (by rw [bc9];exact bc4 aN);exact this
 have g_:=run_storeCells_cells (P:=P) g (k * R.size) (Builtin.zeroCells z.cells q).toList 0 w (λ j ay=>by
   rw [hlen] at ay;obtain ⟨u,hu,_⟩:=bK.some_ (k * R.size+0+j) (e_ j ay);rw [hu];rfl) (λ j _=>bK.free _) (λ v hv=>by
   obtain ⟨j,ay⟩:=bav.1 hv;exact (alp j v ay).1)
 rw [Nat.add_zero] at g_;refine ⟨_,J.Mod.setCells g _ _ w,h.aJq hR k (by omega) _ (λ j u hu=>(alp j u hu).2), ?_⟩;have aDW:∀ w,(zeroValue e).run P w= .ok z w:=λ w=>by
  cases I:P.info? e with
  | none=>rw [I] at hi;cases hi
  | some i =>
   rw [I] at hi;simp only [aZL,baV,bbR] at hi;simp [zeroValue,typeInfo,I,hi.1]
 obtain ⟨p,rfl⟩:∃ p,q=p+1:=⟨q - 1,by omega⟩;simp [Builtin.clear_,aZo aH,aDW,g_]
theorem yU {α:Type} {R:J α} {k:Nat} {l:List α} {z:Value} (aH:P.underlying t=some (.slice e)) (hi:(P.info? e).map (λ i=>(i.zero,i.size,i.bytes))=some (some z,m,by_)) (hm:R.size=m) (aG:0<m) (bc:z.cells.size=m) (nL:z.cells.toList.all (·.oneCell')=true)
  (hr:∀ (j:Nat) u,z.cells[j]? =some u→R.raw j u) (h:R.aF e by_ w B (J.ab A) A c l) (hR:R.rV) (ak:k≤l.length) (I:0<q) (Ba:k+q≤c) (hA:∃ b,A=some ⟨b,0,none⟩) (hx:ev E x=some (.slice (eF A c k m) q (c - k)))
  (hK:∀ w1,Mod (J.ab A) w w1→R.aF e by_ w1 B (J.ab A) A c (l.take k)→cg P n ops Q rest E w1):
  cg P n ops Q (⟨none, .call {callee:= .builtin .clear,args:=#[x],argTypes:=#[t]},ty,pos,af,none⟩::rest) E w:=by
 obtain ⟨b,rfl⟩:=hA;obtain ⟨w1,Ii,hS,ke⟩:=aIV (ty:=ty) aH hi hm aG bc nL hr h hR ak I Ba;have aDv:eF (some ⟨b,0,none⟩) c k m=some ⟨b,k * m,none⟩:=by
  unfold eF;rw [aYi (by omega)];simp [Addr.add];try omega
 rw [aDv] at hx;refine aKZ (v:= .tuple #[]) (w':=w1) (bi (vs:= [.slice (some ⟨b,k * m,none⟩) q (c - k)]) (by simp only [hL,hx]) λ cs=> ?_) (hK w1 Ii hS);simp only [builtin,aYt,ke,aYj,aYu]
theorem F7 {len:Nat} {k k' dN:IntKind} {eX fA i_:Operand} (lo hi mx:Nat) {i j m:Int} (aH:P.underlying t=some (.slice e)) (hs:eS P e s) (hx:ev E x=some (.slice A len cap)) (aE:ev E eX=some (.int k i)) (bc:ev E fA=some (.int k' j)) (hu:ev E i_=some (.int dN m)) (y_:i=(lo:Int)) (C3:j=(hi:Int)) (aaW:m=(mx:Int)) (κ:lo≤hi) (τ:hi≤mx) (au:mx≤cap):
  c9 P E ⟨d, .slice t x (some eX) (some fA) (some i_),ty,pos,af,g⟩ w (sliced A lo hi mx s) w:=λ n a ha=>by
 subst y_;subst C3;subst aaW;have lM:P.underlying t=some (.slice (P.elem t)):=by simp [Program.elem,aH]
 have nt:P.elem t=e:=by simp [Program.elem,aH]
 have au:=run_slice_lhm (P:=P) (w:=w) t A len cap lM k k' dN (lo:Int) (hi:Int) (mx:Int) (by omega) (by omega) (by omega) (by omega);have aU:=bay (P:=P) (w:=w) t (.slice A len cap) (some (.int k (lo:Int))) (some (.int k' (hi:Int))) (some (.int dN (mx:Int))) lM;rw [nt,hs w] at au;simp only [execOp,ha.ev hx,ha.ev aE,ha.ev bc,ha.ev hu,Option.map,aU,au,aYt,aYj,aYu,aY2]
theorem aIS {α:Type} {R:J α} {nc c2:Nat} {a2:Addr} {l k:List α} (ll:ez P R t e by_) (hR:R.rV) (h:R.aF e by_ w base (J.ab (some ⟨nc,0,none⟩)) (some ⟨nc,0,none⟩) c l) (τ:R.aK by_ w (some a2) c2 k)
  (Fp:l.length+k.length≤c) (l4:(l.length+k.length) * by_≤140737488355328) (oa:base≤w.heap.size):
  ∃ w1,(Builtin.append_ #[t,t] ty #[.slice (some ⟨nc,0,none⟩) l.length c, .slice (some a2) k.length c2]).run P w= .ok (.slice (some ⟨nc,0,none⟩) (l.length+k.length) c) w1∧R.aF e by_ w1 base (J.ab (some ⟨nc,0,none⟩)) (some ⟨nc,0,none⟩) c (l++k)∧Mod [nc] w w1:=by
 obtain ⟨i,z,aW,bb,df,jy,HC,HD,NN,SD⟩:=ll;obtain ⟨s1,s2,F7,adh,ess,DB,zM⟩:=τ;obtain ⟨ag,ps,hf,hn,bK,dM⟩:=id h;have oc:c≤9223372036854775807:=h.has.2.1;have IU:=J.aF.ZE (E:=e) (by_:=by_) (c:=c) (A:=some ⟨nc,0,none⟩) hR dM;have mT:∀ u∈ess.flatten,u.oneCell'=true:=λ u hu=>by
  obtain ⟨es,C1,hu⟩:=aZj.1 hu;obtain ⟨b,ag⟩:=DB.left es C1;exact R.one ag u hu
 obtain ⟨v',w1,ke,iv,aN,_,_⟩:=ada (P:=P) w base t ty e i z R.size by_ aW bb df jy HC HD NN R.raw SD _ l.length _ bK (some a2) k.length c2 ess.flatten zM mT (λ j u hu=>E7 DB NN hu) (by simp only [maxLen];omega) l4 oa;obtain ⟨iG,C'⟩:=bK;have C6:ess.flatten.length=k.length * R.size:=zM.1;rcases C' with ⟨C',_⟩ | ⟨g2,cap,cur,hv,bg,eI,C5,aRB,tx,T8,bP⟩
 ·exact nomatch C'
 ·injection hv with NM aQN axF
  injection NM with NM
  injection NM with NM
  subst NM axF;have sf:=run_append_room (P:=P) w t ty e i aW bb nc l.length c cur eI a2 k.length c2 ess.flatten (by rw [C6,jy]) (λ j u hu=>by
   rcases baO k.length with aG | aG
   ·have:ess.flatten= []:=aYx (by rw [C6,aG,bb8]);rw [this] at hu;simp at hu
   ·obtain ⟨b,o,h,hc⟩:=zM.2 aG;injection h with h
    subst h;rw [Hn];exact hc j u hu) mT Fp (by rw [C6,tx,jy,← aZM];exact aYY _ Fp)
  rw [sf] at ke;injection ke with FH O6
  subst FH;have hm:Mod [nc] w w1:=by
   have:=Mod.grown aN;exact this
  refine ⟨w1,by rw [sf,O6], ?_,hm⟩;obtain ⟨nO,pB⟩:=J.acM ess;have kc:(l++k).length=l.length+k.length:=aX9;refine ⟨by rw [kc];exact l4,ps++ess.map λ es=>(([]:List Nat),es), ?_,hn, ?_, ?_⟩
  ·rw [aYA,aZZ,nO,aYP];exact hf
  ·rw [kc,aYA,aZZ,pB];exact iv
  ·refine dC.app (dM.imp λ y a aE zi=>R.rA zi λ q I=> ?_) ?_
   ·rw [IU y aE] at I;simp at I
   ·exact (J.dC.plain (w:=w) (B:=base) hR.1 DB).imp λ y a aE zi=>R.rA zi λ q I=>by rw [hR.2 zi] at I;simp at I
theorem aut {α:Type} {R:J α} {c2:Nat} {dp:Option Addr} {dd:Nat} {l k:List α} (ll:ez P R t e by_) (hR:R.rV) (h:R.aF e by_ w base (J.ab A) A c l) (hA:∃ b,A=some ⟨b,0,none⟩) (τ:R.aK by_ w dp c2 k) (Kz:∃ a,dp=some a)
  (hs:ev E x=some (.slice A l.length c)) (hx:ev E y=some (.slice dp k.length c2)) (Fp:l.length+k.length≤c) (l4:(l.length+k.length) * by_≤140737488355328) (oa:base≤w.heap.size) (hd:Nat.blt dd n=true)
  (ak:∀ w1,Mod (J.ab A) w w1→R.aF e by_ w1 base (J.ab A) A c (l++k)→cg P n ops Q rest ((dd, .slice A (l.length+k.length) c)::E) w1):
  cg P n ops Q (⟨some dd, .call {callee:= .builtin .append,args:=#[x,y],argTypes:=#[t,t]},ty,pos,af,none⟩::rest) E w:=by
 obtain ⟨b,rfl⟩:=hA;obtain ⟨a2,rfl⟩:=Kz;obtain ⟨w1,ke,iv,hm⟩:=aIS (ty:=ty) ll hR h τ Fp l4 oa;exact hW (w':=w1) (bi (vs:= [.slice (some ⟨b,0,none⟩) l.length c, .slice (some a2) k.length c2]) (by simp only [hL,hs,hx]) λ cs=>by simp only [builtin,aYt,ke,aYj,aYu]) hd (ak w1 hm iv)
theorem aEu {k:IntKind} {i j:Int} (aG:0≤i) (κ:0<j) (hw:k.wrap (i / j)=i / j):Op.intDiv .quo k i j=pure (.int k (i / j)):=by
 unfold Op.intDiv;have e:i.tdiv j=i / j:=bcD aG;rw [aYi (by omega)];simp only [e,hw]
theorem aEv {k:IntKind} {i j:Int} (aG:0≤i) (κ:0<j):Op.intDiv .rem k i j=pure (.int k (i % j)):=by
 unfold Op.intDiv;have e:i.tmod j=i % j:=Int.tmod_eq_emod_of_nonneg aG;rw [aYi (by omega)];simp only [e]
section
variable {k:IntKind} {i j:Int} {u:TypeId}
theorem au6 (hx:ev E x=some (.int k i)) (aE:ev E y=some (.int k j)) (aG:0≤i) (κ:0<j) (hw:k.wrap (i / j)=i / j):c9 P E ⟨d, .binOp .quo t x y u,ty,pos,af,g⟩ w (.int k (i / j)) w:=qo hx aE (binOp_quo t k i j) (by rw [aEu aG κ hw];rfl)
theorem au8 (hx:ev E x=some (.int k i)) (aE:ev E y=some (.int k j)) (aG:0≤i) (κ:0<j):c9 P E ⟨d, .binOp .rem t x y u,ty,pos,af,g⟩ w (.int k (i % j)) w:=qo hx aE (binOp_rem t k i j) (by rw [aEv aG κ];rfl)
theorem aIB {i j:Int} (aG:0≤i) (κ:0<j) (τ:i≤9223372036854775807):IntKind.i64.wrap (i / j)=i / j:=by
 have aW:0≤i / j:=Int.ediv_nonneg aG (by omega);have bb:i / j≤i:=Int.ediv_le_self _ aG;exact pk ⟨by omega,by omega⟩
end
end
end
section
section
variable {α:Type} {p:α→Bool} {l L:List α} {d:α} {i j k:Nat}
theorem jk (h:k<l.length):l.getD k d∈l:=by rw [aX7,aYb h];exact aZs h
theorem l2 (h:k<l.length):l.getD k d=l[k]:=by rw [aX7,aYb h];rfl
theorem O9 (h:∀ i,i<l.length→p (l.getD i d)=false):gY p l= -1:=Iq λ j ay=>by rw [← l2 (d:=d) ay];exact h j ay
theorem O_ (ak:k<l.length) (κ:p (l.getD k d)=true) (h:∀ i,i<k→p (l.getD i d)=false):gY p l=(k:Int):=
 Ir ak (by rw [← l2 (d:=d) ak];exact κ) λ j ay=>by rw [← l2 (d:=d) (by omega:j<l.length)];exact h j ay
theorem x_ (h:k<l.length):l.take (k+1)=l.take k++ [l.getD k d]:=by rw [aYH h,l2 h]
end
end
theorem Rp:ez prog az.rep 25 55 16:=ez.ki (z:=az.zero) (k:=2) underlying25 az.info rfl rfl (by decide) az.j8
def kl (n:Int):Int:=if n<0 then -1 else if 0<n then 1 else 0
def cL (n:Int):Int:=if n<0 then -n else if 0<n then n else 0
theorem kn (n:Int):0≤cL n∧(-2000≤n∧n≤2000→cL n≤2000)∧(0≤n→cL n=n)∧(n<0→cL n= -n):=by unfold cL;split<;>(try split)<;>omega
theorem LK (n:Int): -1≤kl n∧kl n≤1:=by unfold kl;split<;>(try split)<;>omega
def aZ (a b:az):Int:=max (cL (b.x - a.x)) (cL (b.y - a.y))
def xT (a b:az):Int:=min (cL (b.x - a.x)) (cL (b.y - a.y))
def rp (a b:az) (s:Int×az):Int×az :=
  (if decide (aZ a b≤s.1+2 * xT a b) then s.1+2 * xT a b - 2 * aZ a b else s.1+2 * xT a b,
   ⟨if !decide (cL (b.x - a.x)<cL (b.y - a.y)) || decide (aZ a b≤s.1+2 * xT a b) then s.2.x+kl (b.x - a.x) else s.2.x,
    if decide (cL (b.x - a.x)<cL (b.y - a.y)) || decide (aZ a b≤s.1+2 * xT a b) then s.2.y+kl (b.y - a.y) else s.2.y⟩)
def dX (a b:az):Nat→Int×az
  | 0=>(0,a)
  | k+1=>rp a b (dX a b k)
def vd (a b:az) (k:Nat):List az:=(List.range (k+1)).map λ i=>(dX a b i).2
def jH (a b:az):List az:=vd a b (aZ a b).toNat
theorem U8 (a b:az) (k:Nat):vd a b (k+1)=vd a b k++ [(dX a b (k+1)).2]:=by unfold vd;rw [aZY,aYA];rfl
theorem IV (a b:az) (k:Nat):(vd a b k).length=k+1:=by simp [vd]
theorem azC (a b:az):0≤xT a b∧xT a b≤aZ a b:=by
  have κ:=kn (b.x - a.x);have τ:=kn (b.y - a.y);unfold xT aZ;omega
theorem am6 (a b:az) (k:Nat): -aZ a b≤(dX a b k).1∧(dX a b k).1≤aZ a b:=by
  have hf:=azC a b;induction k with
  | zero=>show -aZ a b≤0∧0≤aZ a b;omega
  | succ k bL =>
    show -aZ a b≤(rp a b (dX a b k)).1∧(rp a b (dX a b k)).1≤aZ a b;unfold rp;simp only [aYB];split<;>omega
theorem am7 (a b:az) (k:Nat):a.x - k≤(dX a b k).2.x∧(dX a b k).2.x≤a.x+k∧a.y - k≤(dX a b k).2.y∧(dX a b k).2.y≤a.y+k:=by
  have κ:=LK (b.x - a.x);have τ:=LK (b.y - a.y);induction k with
  | zero=>show a.x - _≤a.x∧a.x≤a.x+_∧a.y - _≤a.y∧a.y≤a.y+_;omega
  | succ k bL =>
    show a.x - _≤(rp a b (dX a b k)).2.x∧(rp a b (dX a b k)).2.x≤a.x+_∧a.y - _≤(rp a b (dX a b k)).2.y∧(rp a b (dX a b k)).2.y≤a.y+_;unfold rp;simp only;split<;>split<;>omega
theorem UW (c:az) (w:World) (h: -1000≤c.x∧c.x≤1000∧ -1000≤c.y∧c.y≤1000):
    Calls prog 165 #[.agg #[Φ c.x,Φ c.y]] w (λ e w'=>e= .returned (.bool true)∧Ext w w'):=by
  refine ch (n:=23) func165 Z Z Z ?_;refine dZ Z Z λ cG bB aR d' ae=> ?_;refine aJ Z<|aw<|aa (aj jW Z)<|bk Z ae aT Z<|aa (aj jW Z)<|bk Z ae aT Z<|aa (acu Z gD)<|aa (aj jX Z)<|bk Z ae aT Z<|aa (aj jX Z)<|bk Z ae aT Z<|aa (acu Z gD)<|aa (aFZ Z Z Z Z)<|aa (ble Z Z)<|vm Z<|bh Z (λ hc=>aj jW Z)<|bh Z (λ hc=>ax (gt hc Z) (ae.one aT Z))<|bh Z (λ hc=>aj jX Z)<|bh Z (λ hc=>ax (gt hc Z) (ae.one aT Z))<|bh Z (λ hc=>nk (gt hc Z) (gt hc Z))<|bh Z (λ hc=>jg (gt hc Z) Z)<| ?_;refine aa (ei Z Z Z Z)<|aY Z<|b_ Z Z<| ?_;exact ⟨ac7 (by simp only [aYl,aYB];omega),aR⟩
theorem Vs (n:Int) (w:World) (h: -2000≤n∧n≤2000):
    Calls prog 166 #[Φ n] w (λ e w'=>e= .returned (.tuple #[Φ (kl n),Φ (cL n)])∧Ext w w'):=by
  refine ch (n:=13) func166 Z Z Z ?_;refine aw<|va Z<|aJ Z<|av<|bJ<|aB Z<|dR Z Z<|aJ Z<| ?_;refine en Z (λ hy=> ?_) (λ hy=> ?_)
  · refine aB rfl<|aa (acu rfl gD)<|va rfl<|aY rfl<|eb<|bD<|f_ rfl rfl rfl<| ?_
    exact ⟨by unfold kl cL;simp only [*,bab,aZI];try rfl,(Ext.cH w)⟩
  · refine aB rfl<|aa (gO rfl rfl)<|aJ rfl<| ?_
    refine en Z (λ CW=> ?_) (λ CW=> ?_)
    · refine aB rfl<|va rfl<|aY rfl<|eb<|bD<|f_ rfl rfl rfl<| ?_
      exact ⟨by unfold kl cL;simp only [*,bab,aZI];try rfl,(Ext.cH w)⟩
    · refine fu<|b1<|aX<|aw<|va rfl<|aY rfl<|f_ rfl rfl rfl<| ?_
      exact ⟨by unfold kl cL;simp only [*,bab,aZI];try rfl,(Ext.cH w)⟩
theorem aga (a b:az) (w:World) (h: -1000≤a.x∧a.x≤1000∧ -1000≤a.y∧a.y≤1000) (τ: -1000≤b.x∧b.x≤1000∧ -1000≤b.y∧b.y≤1000):
    Calls prog 134 #[.agg #[Φ a.x,Φ a.y], .agg #[Φ b.x,Φ b.y]] w (λ e w'=>e= .returned (.tuple #[Φ (aZ a b),Φ (cL (b.x - a.x)+cL (b.y - a.y)),Φ 0])∧Ext w w'):=by
  refine ch (n:=43) func134 Z Z Z ?_;refine dZ Z Z λ cG bB aR d' ae=> ?_;refine jR Z Z λ eC cJ bt hP ar=> ?_;have bO:=γ aR bt;refine va Z<|va Z<|aJ Z<|av<|aw<| ?_;have ae:=ae.later bt;refine aa (ax Z (ae.all cA b3))<|cM SW Z (UW a _ (by omega)) λ hG fD=> ?_;have c6:=γ bO fD;refine aa (dJ Z)<|vm Z<|cm Z Z Z<| ?_;have ar:=ar.later fD;refine aa (ax Z (ar.all cA b3))<|cm Z Z Z<|cM SW Z (UW b _ (by omega)) λ t_ jo=> ?_;have iP:=γ c6 jo;refine cm Z Z Z<|aa (dJ Z)<|aa (fR Z Z)<|aC<|gj Z<|bm<|aw<|aa (aj jW Z)<| ?_;have ar:=ar.later jo;refine bk Z ar aT Z<|aa (aj jW Z)<| ?_;have ae:=ae.later (γ fD jo);refine bk Z ae aT Z<|aa (kx Z Z (pk (by have:=kn (b.x - a.x);have:=kn (b.y - a.y);omega)))<|cM SY Z (Vs (b.x - a.x) _ (by omega)) λ zT ik=> ?_;have k3:=γ iP ik;refine vm Z<|bs Z Z<|bs Z Z<|va Z<|aJ Z<|aw<|aa (aj jX Z)<| ?_;have ar:=ar.later ik;refine bk Z ar aT Z<|aa (aj jX Z)<| ?_;have ae:=ae.later ik;refine bk Z ae aT Z<|aa (kx Z Z (pk (by have:=kn (b.x - a.x);have:=kn (b.y - a.y);omega)))<|cM SY Z (Vs (b.y - a.y) _ (by omega)) λ ua fp=> ?_;have kM:=γ k3 fp;refine vm Z<|bs Z Z<|bs Z Z<|va Z<|aJ Z<|aB Z<|vm Z<|aa (mx Z Z)<|vm Z<|vm Z<|aa (bad Z Z (pk (by have:=kn (b.x - a.x);have:=kn (b.y - a.y);omega)))<|va Z<|va Z<|aY Z<|cz (.tmp Z (.tmp Z (.tmp Z .nil)))<| ?_;exact ⟨Z,kM⟩
theorem awc (a b:az) (w:World) (h: -1000≤a.x∧a.x≤1000∧ -1000≤a.y∧a.y≤1000) (τ: -1000≤b.x∧b.x≤1000∧ -1000≤b.y∧b.y≤1000):
    Calls prog 182 #[.agg #[Φ a.x,Φ a.y], .agg #[Φ b.x,Φ b.y]] w (λ e w'=>∃ A c,e= .returned (.tuple #[.slice A (jH a b).length c,Φ 0])∧az.rep.aF 55 16 w' w.heap.size (J.ab A) A c (jH a b)∧Ext w w'):=by
  refine ch (n:=93) func182 Z Z Z ?_;refine dZ Z Z λ cG bB aR d' ae=> ?_;have hE:=ae.lt;refine jR Z Z λ eC cJ bt hP ar=> ?_;have bO:=γ aR bt;have mB:=ar.lt;refine va Z<|aJ Z<|av<|aw<| ?_;have ae:=ae.later bt;refine aa (ax Z (ae.all cA b3))<|cM SW Z (UW a _ (by omega)) λ hG fD=> ?_;have:=fD.size;have c6:=γ bO fD;refine aa (dJ Z)<|vm Z<|cm Z Z Z<| ?_;have ar:=ar.later fD;refine aa (ax Z (ar.all cA b3))<|cm Z Z Z<|cM SW Z (UW b _ (by omega)) λ t_ jo=> ?_;have:=jo.size;have iP:=γ c6 jo;refine cm Z Z Z<|aa (dJ Z)<|aa (fR Z Z)<|aC<|gj Z<|bm<|aw<|aa (aj jW Z)<| ?_;have ar:=ar.later jo;refine bk Z ar aT Z<|aa (aj jW Z)<| ?_;have ae:=ae.later (γ fD jo);refine bk Z ae aT Z<|aa (kx Z Z gD)<|cM SY Z (Vs (b.x - a.x) _ (by omega)) λ zT ik=> ?_;have:=ik.size;have k3:=γ iP ik;refine vm Z<|bs Z Z<|bs Z Z<|va Z<|aJ Z<|aw<|aa (aj jX Z)<| ?_;have ar:=ar.later ik;refine bk Z ar aT Z<|aa (aj jX Z)<| ?_;have ae:=ae.later ik;refine bk Z ae aT Z<|aa (kx Z Z gD)<|cM SY Z (Vs (b.y - a.y) _ (by omega)) λ ua fp=> ?_;have:=fp.size;have kM:=γ k3 fp;refine vm Z<|bs Z Z<|bs Z Z<|va Z<|aJ Z<|aB Z<|vm Z<|va Z<|aJ Z<|av<|aB Z<|vm Z<|aa (gO Z Z)<|aC<| ?_;refine en Z (λ A4=> ?_) (λ A4=> ?_)
  · have ra:=kn (b.x - a.x)
    have kc:=kn (b.y - a.y);have jZ:aZ a b=cL (b.y - a.y):=by unfold aZ;omega
    have OQ:xT a b=cL (b.x - a.x):=by unfold xT;omega
    have OC:decide (cL (b.x - a.x)<cL (b.y - a.y))=true:=by exact aYD A4
    refine rg<|vm Z<|vm Z<|va Z<|aJ Z<|aw<| ?_;have ae:=ae.later fp;refine aa (ax Z (ae.all cA b3))<|c7 (e:= 55) (cs:= [Φ a.x,Φ a.y]) Z (λ _=>by kernel_rfl) Z λ zU R0 d_ aE3 QX=> ?_;have k4:=γ kM d_;refine aJ Z<|aw<|aJ Z<|av<|aB Z<|vm Z<|aC<|bJ<| ?_;have ae:=ae.later d_;have aFG:∀ q∈J.ab (bA R0),R0≤q:=λ q I=>aZQ (aYf.1 I).symm;refine eV (λ cp cn aP=>∃ k:Nat,∃ k5:Option Addr,∃ co:Nat,cn= [(2, .pointer (bA bB)),(4, .slice none 0 0),(5,Φ 0),(6,Φ (kl (b.x - a.x))),(7,Φ (cL (b.x - a.x))),(8,Φ (kl (b.y - a.y))),(9,Φ (cL (b.y - a.y))),(10,Φ (cL (b.y - a.y))),(11,Φ (cL (b.x - a.x))),(12, .slice k5 ((vd a b k).length) co),(13,Φ ((dX a b k).1)),(50,Φ (cL (b.y - a.y))),(51,Φ (k:Int))]∧cp=(cL (b.y - a.y)).toNat - k∧Ext w aP∧aM aP bB [Φ ((dX a b k).2.x),Φ ((dX a b k).2.y)] 55 (0,0)∧az.rep.aF 55 16 aP w.heap.size (J.ab k5) k5 co (vd a b k)∧((k:Int)≤cL (b.y - a.y))∧(∀ q∈J.ab k5,q=bB→False)) _ _ ⟨0,some ⟨R0,0,none⟩,1,Z,Z,k4,ae,(aM.xW (R:=az.rep) (by_:=16) (B:=w.heap.size) (k:= [a]) QX [[Φ a.x,Φ a.y]] Z ⟨⟨Z,b8.2 (by omega),b8.2 (by omega)⟩,trivial⟩ (by simp) (by simp) (by decide) (by omega)),(by have:=kn (b.y - a.y);have:=kn (b.x - a.x);omega),(λ q I ag=>by (have:=aFG q I;omega))⟩ (.cons Z (.cons Z (.cons Z (.cons Z (.cons Z (.cons Z (.cons Z (.cons Z (.cons Z (.cons Z (.cons (zo Z) (eO Z Z Z)))))))))))) ?_;rintro oS arN vk ⟨k,k5,co,rfl,rfl,jr,iq,iR,ak,Cw⟩;have aIq:=iq.lt;have ag:=am6 a b k;have hp:=am7 a b k;have hN:=LK (b.x - a.x);have hO:=LK (b.y - a.y);have ra:=kn (b.x - a.x);have kc:=kn (b.y - a.y);have pg:=IV a b k;refine aw<|dR Z Z<|aC<|av<| ?_;refine en Z (λ aBf=> ?_) (λ aBf=> ?_)
    · refine bm<|av<|bJ<|aB rfl<|vm rfl<|aa (ER rfl rfl gD)<|gx rfl rfl<|aJ rfl<|aB rfl<|vm rfl<|aa (jg rfl rfl)<|aJ rfl<|av<|aw<| ?_
      refine vm Z<|aC<| ?_;refine J9 Z (λ On=> ?_) (λ On=> ?_)
      · rw [jZ] at ag
        have H2:decide (cL (b.y - a.y)≤((dX a b k).1)+(2 * (cL (b.x - a.x))))=true:=by exact aYD On
        refine rg<|vm Z<|vm Z<|aa (ER Z Z gD)<|aa (kx Z Z gD)<|aJ Z<|av<|aB Z<|vm Z<|aa (jg Z Z)<|vm Z<|ec Z Z<|aa (eW Z Z Z Z)<|aC<| ?_;have aao:((decide (cL (b.y - a.y)≤cL (b.x - a.x))) || (decide (cL (b.y - a.y)≤((dX a b k).1)+(2 * (cL (b.x - a.x))))))=true:=by simp only [aYZ,aYB];omega
        refine eT (by rw [← aao];rfl)<|rg<|aa (aj jW Z)<|bk Z iq aT Z<|vm Z<|gx Z Z<|aa (aj jW Z)<|dU Z Z iq Z dg Z Z λ L4 kX iq=> ?_;have:=kX.size;have rO:=Ext.mod jr kX bo;refine aC<|av<|aB Z<|vm Z<|aa (gO Z Z)<|vm Z<|ec Z Z<|aa (eW Z Z Z Z)<|aC<| ?_;have jC:((decide (cL (b.x - a.x)<cL (b.y - a.y))) || (decide (cL (b.y - a.y)≤((dX a b k).1)+(2 * (cL (b.x - a.x))))))=true:=by simp only [aYZ,aYB];omega
        refine eT (by rw [← jC];rfl)<|rg<|aa (aj jX Z)<|bk Z iq aT Z<|vm Z<|gx Z Z<|aa (aj jX Z)<|dU Z Z iq Z dg Z Z λ L6 Dr iq=> ?_;have:=Dr.size;have wP:=Ext.mod rO Dr bo;refine aC<|rg<|vm Z<|aa (ax Z (iq.all cA b3))<|c7 (e:= 55) (cs:= [Φ (((dX a b k).2.x)+(kl (b.x - a.x))),Φ (((dX a b k).2.y)+(kl (b.y - a.y)))]) Z (λ _=>by kernel_rfl) Z λ V0 aPI o4 aTT afa=> ?_;have yn:=γ wP o4;have aIt:=afa.lt;have iR:=((iR.mod kX (bl Cw)).mod Dr (bl Cw)).later o4;refine ap Rp J.dQ iR (aM.gu (R:=az.rep) (by_:=16) (q:=(⟨((dX a b k).2.x)+(kl (b.x - a.x)),((dX a b k).2.y)+(kl (b.y - a.y))⟩:az)) afa ⟨Z,⟨cN,cN⟩⟩ (by decide)) Z Z (by simp only [aYc,aYh];omega) (by simp only [aYc,aYh];omega) yn.size Z λ Gu aro avT wq ati aAc aVc=> ?_;have pS:=Ext.mod yn wq (λ q I=>(iR.lt q I).1);refine va Z<|nl<|b1<|eM Z Z Z<| ?_;have aW:dX a b (k+1)=((((dX a b k).1)+(2 * (cL (b.x - a.x)))) - (2 * (cL (b.y - a.y))),⟨((dX a b k).2.x)+(kl (b.x - a.x)),((dX a b k).2.y)+(kl (b.y - a.y))⟩):=by
          show rp a b (dX a b k)=_;unfold rp;simp only [jZ,OQ,OC,H2,bab,aZI,bci,bch,bbS,bbk,aY8,bbf,ba6,baK,bbJ]
        have bb:=U8 a b k;rw [aW] at bb;have df:(vd a b (k+1)).length=k+2:=IV a b (k+1);have iq:=(iq.later o4).mod wq (λ I=>Cw _ I rfl);exact om _ _ ⟨k+1,aro,avT,Z,Z,pS,(by rw [aW];exact iq),(by rw [bb];exact ati),by omega,(fJ aAc Cw)⟩ (by omega) (.cons Z (.cons Z (.cons Z (.cons Z (.cons Z (.cons Z (.cons Z (.cons Z (.cons Z (.cons (by rw [bb];rfl) (.cons (FM Z (by rw [aW])) (eO Z Z Z))))))))))))
      · rw [jZ] at ag
        have H2:decide (cL (b.y - a.y)≤((dX a b k).1)+(2 * (cL (b.x - a.x))))=false:=by exact aYL On
        refine bm<|av<|aB Z<|vm Z<|aa (jg Z Z)<|vm Z<|ec Z Z<|aa (eW Z Z Z Z)<|aC<| ?_;have aBm:((decide (cL (b.y - a.y)≤cL (b.x - a.x))) || (decide (cL (b.y - a.y)≤((dX a b k).1)+(2 * (cL (b.x - a.x))))))=false:=by simp only [aYM,aYI];omega
        refine gj (by rw [← aBm];rfl)<|bm<|av<|aB Z<|vm Z<|aa (gO Z Z)<|vm Z<|ec Z Z<|aa (eW Z Z Z Z)<|aC<| ?_;have aas:((decide (cL (b.x - a.x)<cL (b.y - a.y))) || (decide (cL (b.y - a.y)≤((dX a b k).1)+(2 * (cL (b.x - a.x))))))=true:=by simp only [aYZ,aYB];omega
        refine eT (by rw [← aas];rfl)<|rg<|aa (aj jX Z)<|bk Z iq aT Z<|vm Z<|gx Z Z<|aa (aj jX Z)<|dU Z Z iq Z dg Z Z λ Jh Ds iq=> ?_;have:=Ds.size;have yp:=Ext.mod jr Ds bo;refine aC<|rg<|vm Z<|aa (ax Z (iq.all cA b3))<|c7 (e:= 55) (cs:= [Φ ((dX a b k).2.x),Φ (((dX a b k).2.y)+(kl (b.y - a.y)))]) Z (λ _=>by kernel_rfl) Z λ Qr aPR lU aT5 afd=> ?_;have rR:=γ yp lU;have aWz:=afd.lt;have iR:=(iR.mod Ds (bl Cw)).later lU;refine ap Rp J.dQ iR (aM.gu (R:=az.rep) (by_:=16) (q:=(⟨(dX a b k).2.x,((dX a b k).2.y)+(kl (b.y - a.y))⟩:az)) afd ⟨Z,⟨cN,cN⟩⟩ (by decide)) Z Z (by simp only [aYc,aYh];omega) (by simp only [aYc,aYh];omega) rR.size Z λ Qt arp avX zA atl aAd aVf=> ?_;have yr:=Ext.mod rR zA (λ q I=>(iR.lt q I).1);refine va Z<|nl<|b1<|eM Z Z Z<| ?_;have aW:dX a b (k+1)=(((dX a b k).1)+(2 * (cL (b.x - a.x))),⟨(dX a b k).2.x,((dX a b k).2.y)+(kl (b.y - a.y))⟩):=by
          show rp a b (dX a b k)=_;unfold rp;simp only [jZ,OQ,OC,H2,bab,aZI,bci,bch,bbS,bbk,aY8,bbf,ba6,baK,bbJ]
        have bb:=U8 a b k;rw [aW] at bb;have df:(vd a b (k+1)).length=k+2:=IV a b (k+1);have iq:=(iq.later lU).mod zA (λ I=>Cw _ I rfl);exact om _ _ ⟨k+1,arp,avX,Z,Z,yr,(by rw [aW];exact iq),(by rw [bb];exact atl),by omega,(fJ aAd Cw)⟩ (by omega) (.cons Z (.cons Z (.cons Z (.cons Z (.cons Z (.cons Z (.cons Z (.cons Z (.cons Z (.cons (by rw [bb];rfl) (.cons (FM Z (by rw [aW])) (eO Z Z Z))))))))))))
    · refine dn<|dk<|dG<|dj<|aX<|aB rfl<|va rfl<|aY rfl<|f_ rfl rfl rfl<| ?_
      have q_:k=(aZ a b).toNat:=by omega
      subst q_;exact ⟨k5,co,Z,iR,jr⟩
  · have ra:=kn (b.x - a.x)
    have kc:=kn (b.y - a.y);have jZ:aZ a b=cL (b.x - a.x):=by unfold aZ;omega
    have OQ:xT a b=cL (b.y - a.y):=by unfold xT;omega
    have OC:decide (cL (b.x - a.x)<cL (b.y - a.y))=false:=by exact aYL A4
    refine bm<|aw<| ?_;have ae:=ae.later fp;refine aa (ax Z (ae.all cA b3))<|c7 (e:= 55) (cs:= [Φ a.x,Φ a.y]) Z (λ _=>by kernel_rfl) Z λ aqc X7 kr aTh arx=> ?_;have QQ:=γ kM kr;refine aJ Z<|aw<|aJ Z<|av<|aB Z<|vm Z<|aC<|bJ<| ?_;have ae:=ae.later kr;have Uv:∀ q∈J.ab (bA X7),X7≤q:=λ q I=>aZQ (aYf.1 I).symm;refine eV (λ cp cn aP=>∃ k:Nat,∃ k5:Option Addr,∃ co:Nat,cn= [(2, .pointer (bA bB)),(4, .slice none 0 0),(5,Φ 0),(6,Φ (kl (b.x - a.x))),(7,Φ (cL (b.x - a.x))),(8,Φ (kl (b.y - a.y))),(9,Φ (cL (b.y - a.y))),(10,Φ (cL (b.x - a.x))),(11,Φ (cL (b.y - a.y))),(12, .slice k5 ((vd a b k).length) co),(13,Φ ((dX a b k).1)),(50,Φ (cL (b.x - a.x))),(51,Φ (k:Int))]∧cp=(cL (b.x - a.x)).toNat - k∧Ext w aP∧aM aP bB [Φ ((dX a b k).2.x),Φ ((dX a b k).2.y)] 55 (0,0)∧az.rep.aF 55 16 aP w.heap.size (J.ab k5) k5 co (vd a b k)∧((k:Int)≤cL (b.x - a.x))∧(∀ q∈J.ab k5,q=bB→False)) _ _ ⟨0,some ⟨X7,0,none⟩,1,Z,Z,QQ,ae,(aM.xW (R:=az.rep) (by_:=16) (B:=w.heap.size) (k:= [a]) arx [[Φ a.x,Φ a.y]] Z ⟨⟨Z,b8.2 (by omega),b8.2 (by omega)⟩,trivial⟩ (by simp) (by simp) (by decide) (by omega)),(by have:=kn (b.y - a.y);have:=kn (b.x - a.x);omega),(λ q I ag=>by (have:=Uv q I;omega))⟩ (.cons Z (.cons Z (.cons Z (.cons Z (.cons Z (.cons Z (.cons Z (.cons Z (.cons Z (.cons Z (.cons (zo Z) (eO Z Z Z)))))))))))) ?_;rintro aUn aNT ad0 ⟨k,k5,co,rfl,rfl,Ju,iq,iR,ak,Hy⟩;have aVD:=iq.lt;have ag:=am6 a b k;have hp:=am7 a b k;have hN:=LK (b.x - a.x);have hO:=LK (b.y - a.y);have ra:=kn (b.x - a.x);have kc:=kn (b.y - a.y);have pg:=IV a b k;refine aw<|dR Z Z<|aC<|av<| ?_;refine en Z (λ aA2=> ?_) (λ aA2=> ?_)
    · refine bm<|av<|bJ<|aB rfl<|vm rfl<|aa (ER rfl rfl gD)<|gx rfl rfl<|aJ rfl<|aB rfl<|vm rfl<|aa (jg rfl rfl)<|aJ rfl<|av<|aw<| ?_
      refine vm Z<|aC<| ?_;refine J9 Z (λ aai=> ?_) (λ aai=> ?_)
      · rw [jZ] at ag
        have H2:decide (cL (b.x - a.x)≤((dX a b k).1)+(2 * (cL (b.y - a.y))))=true:=by exact aYD aai
        refine rg<|vm Z<|vm Z<|aa (ER Z Z gD)<|aa (kx Z Z gD)<|aJ Z<|av<|aB Z<|vm Z<|aa (jg Z Z)<|vm Z<|ec Z Z<|aa (eW Z Z Z Z)<|aC<| ?_;have Ff:((decide (cL (b.y - a.y)≤cL (b.x - a.x))) || (decide (cL (b.x - a.x)≤((dX a b k).1)+(2 * (cL (b.y - a.y))))))=true:=by simp only [aYZ,aYB];omega
        refine eT (by rw [← Ff];rfl)<|rg<|aa (aj jW Z)<|bk Z iq aT Z<|vm Z<|gx Z Z<|aa (aj jW Z)<|dU Z Z iq Z dg Z Z λ ad2 nj iq=> ?_;have:=nj.size;have Jw:=Ext.mod Ju nj bo;refine aC<|av<|aB Z<|vm Z<|aa (gO Z Z)<|vm Z<|ec Z Z<|aa (eW Z Z Z Z)<|aC<| ?_;have Fg:((decide (cL (b.x - a.x)<cL (b.y - a.y))) || (decide (cL (b.x - a.x)≤((dX a b k).1)+(2 * (cL (b.y - a.y))))))=true:=by simp only [aYZ,aYB];omega
        refine eT (by rw [← Fg];rfl)<|rg<|aa (aj jX Z)<|bk Z iq aT Z<|vm Z<|gx Z Z<|aa (aj jX Z)<|dU Z Z iq Z dg Z Z λ aLr UE iq=> ?_;have:=UE.size;have Wt:=Ext.mod Jw UE bo;refine aC<|rg<|vm Z<|aa (ax Z (iq.all cA b3))<|c7 (e:= 55) (cs:= [Φ (((dX a b k).2.x)+(kl (b.x - a.x))),Φ (((dX a b k).2.y)+(kl (b.y - a.y)))]) Z (λ _=>by kernel_rfl) Z λ aLt aPi ad9 aTq aeV=> ?_;have Wu:=γ Wt ad9;have aVL:=aeV.lt;have iR:=((iR.mod nj (bl Hy)).mod UE (bl Hy)).later ad9;refine ap Rp J.dQ iR (aM.gu (R:=az.rep) (by_:=16) (q:=(⟨((dX a b k).2.x)+(kl (b.x - a.x)),((dX a b k).2.y)+(kl (b.y - a.y))⟩:az)) aeV ⟨Z,⟨cN,cN⟩⟩ (by decide)) Z Z (by simp only [aYc,aYh];omega) (by simp only [aYc,aYh];omega) Wu.size Z λ apY aqZ avB IE as5 az9 aUL=> ?_;have QI:=Ext.mod Wu IE (λ q I=>(iR.lt q I).1);refine va Z<|nl<|b1<|eM Z Z Z<| ?_;have aW:dX a b (k+1)=((((dX a b k).1)+(2 * (cL (b.y - a.y)))) - (2 * (cL (b.x - a.x))),⟨((dX a b k).2.x)+(kl (b.x - a.x)),((dX a b k).2.y)+(kl (b.y - a.y))⟩):=by
          show rp a b (dX a b k)=_;unfold rp;simp only [jZ,OQ,OC,H2,bab,aZI,bci,bch,bbS,bbk,aY8,bbf,ba6,baK,bbJ]
        have bb:=U8 a b k;rw [aW] at bb;have df:(vd a b (k+1)).length=k+2:=IV a b (k+1);have iq:=(iq.later ad9).mod IE (λ I=>Hy _ I rfl);exact om _ _ ⟨k+1,aqZ,avB,Z,Z,QI,(by rw [aW];exact iq),(by rw [bb];exact as5),by omega,(fJ az9 Hy)⟩ (by omega) (.cons Z (.cons Z (.cons Z (.cons Z (.cons Z (.cons Z (.cons Z (.cons Z (.cons Z (.cons (by rw [bb];rfl) (.cons (FM Z (by rw [aW])) (eO Z Z Z))))))))))))
      · rw [jZ] at ag
        have H2:decide (cL (b.x - a.x)≤((dX a b k).1)+(2 * (cL (b.y - a.y))))=false:=by exact aYL aai
        refine bm<|av<|aB Z<|vm Z<|aa (jg Z Z)<|vm Z<|ec Z Z<|aa (eW Z Z Z Z)<|aC<| ?_;have aA8:((decide (cL (b.y - a.y)≤cL (b.x - a.x))) || (decide (cL (b.x - a.x)≤((dX a b k).1)+(2 * (cL (b.y - a.y))))))=true:=by simp only [aYZ,aYB];omega
        refine eT (by rw [← aA8];rfl)<|rg<|aa (aj jW Z)<|bk Z iq aT Z<|vm Z<|gx Z Z<|aa (aj jW Z)<|dU Z Z iq Z dg Z Z λ aLy Bi iq=> ?_;have:=Bi.size;have aeq:=Ext.mod Ju Bi bo;refine aC<|av<|aB Z<|vm Z<|aa (gO Z Z)<|vm Z<|ec Z Z<|aa (eW Z Z Z Z)<|aC<| ?_;have aA9:((decide (cL (b.x - a.x)<cL (b.y - a.y))) || (decide (cL (b.x - a.x)≤((dX a b k).1)+(2 * (cL (b.y - a.y))))))=false:=by simp only [aYM,aYI];omega
        refine gj (by rw [← aA9];rfl)<|bm<|rg<|vm Z<|aa (ax Z (iq.all cA b3))<|c7 (e:= 55) (cs:= [Φ (((dX a b k).2.x)+(kl (b.x - a.x))),Φ ((dX a b k).2.y)]) Z (λ _=>by kernel_rfl) Z λ ap4 aPq z1 aTy ae1=> ?_;have Mm:=γ aeq z1;have aVT:=ae1.lt;have iR:=(iR.mod Bi (bl Hy)).later z1;refine ap Rp J.dQ iR (aM.gu (R:=az.rep) (by_:=16) (q:=(⟨((dX a b k).2.x)+(kl (b.x - a.x)),(dX a b k).2.y⟩:az)) ae1 ⟨Z,⟨cN,cN⟩⟩ (by decide)) Z Z (by simp only [aYc,aYh];omega) (by simp only [aYc,aYh];omega) Mm.size Z λ aXp aq5 avG anb as8 aAa aUR=> ?_;have aMI:=Ext.mod Mm anb (λ q I=>(iR.lt q I).1);refine va Z<|nl<|b1<|eM Z Z Z<| ?_;have aW:dX a b (k+1)=(((dX a b k).1)+(2 * (cL (b.y - a.y))),⟨((dX a b k).2.x)+(kl (b.x - a.x)),(dX a b k).2.y⟩):=by
          show rp a b (dX a b k)=_;unfold rp;simp only [jZ,OQ,OC,H2,bab,aZI,bci,bch,bbS,bbk,aY8,bbf,ba6,baK,bbJ]
        have bb:=U8 a b k;rw [aW] at bb;have df:(vd a b (k+1)).length=k+2:=IV a b (k+1);have iq:=(iq.later z1).mod anb (λ I=>Hy _ I rfl);exact om _ _ ⟨k+1,aq5,avG,Z,Z,aMI,(by rw [aW];exact iq),(by rw [bb];exact as8),by omega,(fJ aAa Hy)⟩ (by omega) (.cons Z (.cons Z (.cons Z (.cons Z (.cons Z (.cons Z (.cons Z (.cons Z (.cons Z (.cons (by rw [bb];rfl) (.cons (FM Z (by rw [aW])) (eO Z Z Z))))))))))))
    · refine dn<|dk<|dG<|dj<|aX<|aB rfl<|va rfl<|aY rfl<|f_ rfl rfl rfl<| ?_
      have q_:k=(aZ a b).toNat:=by omega
      subst q_;exact ⟨k5,co,Z,iR,Ju⟩
section
def vM (p:Int):Int:=if p=0∨p=3 then 2 else if p=2 then 3 else 0
def xh (p:Int):Int:=if p=0∨p=3 then 0 else if p=2 then 0 else if p=1 then 9 else 1
def eK (c:az):List az:= [⟨c.x,c.y - 1⟩,⟨c.x - 1,c.y⟩,⟨c.x+1,c.y⟩,⟨c.x,c.y+1⟩]
namespace aL
section
variable {f:aL} {c d x y b:az} {l aZ:List Int} {v:Int}
def hB (f:aL) (c:az):Int:=if f.place c=2 then 3 else 2
def dr (f:aL) (c:az):List az:=(eK c).filter f.ground
def at_ (f:aL) (c:az):Nat:=(c.y * f.wide+c.x).toNat
def aD (f:aL) (aZ:List Int) (c:az):Int:=if f.fP c then aZ.getD (f.at_ c) (-1) else -1
def l1 (b c:az):Int:=2 * (cL (b.x - c.x)+cL (b.y - c.y))
theorem E' (h:f.ground c=true):f.place c≠1:=by unfold ground at h;rw [aYl] at h;simpa using h.2
theorem ajc (h:f.fP c=true) (τ:f.place c≠1):f.ground c=true:=by unfold ground;rw [h];simpa using τ
theorem rk:2≤f.hB c∧f.hB c≤3:=by unfold hB;split<;>omega
theorem PL:y∈f.dr x↔y∈eK x∧f.ground y=true:=by unfold dr;rw [baM]
theorem ach:y∈eK x↔(y=⟨x.x,x.y - 1⟩∨y=⟨x.x - 1,x.y⟩∨y=⟨x.x+1,x.y⟩∨y=⟨x.x,x.y+1⟩):=by unfold eK;simp
theorem adr (h:y∈eK x):x∈eK y:=by
 rw [ach] at h ⊢;obtain ⟨a,b⟩:=x;rcases h with rfl | rfl | rfl | rfl
 ·right;right;right;simp
 ·right;right;left;simp
 ·right;left;simp
 ·left;simp
theorem aJu (h:y∈eK x):y≠x:=by
 rw [ach] at h;obtain ⟨a,b⟩:=x;rcases h with rfl | rfl | rfl | rfl<;>simp<;>omega
theorem Zm (b:az) (h:y∈eK x):l1 b x≤2+l1 b y:=by
 rw [ach] at h;obtain ⟨eX,fA⟩:=x;have e:∀ n:Int,cL n≤1+cL (n+1)∧cL n≤1+cL (n - 1):=λ n=>by
  have κ:=kn n;have τ:=kn (n+1);have au:=kn (n - 1);rcases (show n<0∨0≤n by omega) with hn | hn
  ·have:=κ.2.2.2 hn;rcases (show n+1<0∨0≤n+1 by omega) with hm | hm
   ·have:=τ.2.2.2 hm;have:=au.2.2.2 (by omega);omega
   ·have:=τ.2.2.1 hm;have:=au.2.2.2 (by omega);omega
  ·have:=κ.2.2.1 hn;have:=τ.2.2.1 (by omega);rcases (show n - 1<0∨0≤n - 1 by omega) with hm | hm
   ·have:=au.2.2.2 hm;omega
   ·have:=au.2.2.1 hm;omega
 unfold l1;rcases h with rfl | rfl | rfl | rfl<;>dsimp only
 ·have:=(e (b.y - fA)).1;rw [show b.y - (fA - 1)=b.y - fA+1 by omega];omega
 ·have:=(e (b.x - eX)).1;rw [show b.x - (eX - 1)=b.x - eX+1 by omega];omega
 ·have:=(e (b.x - eX)).2;rw [show b.x - (eX+1)=b.x - eX - 1 by omega];omega
 ·have:=(e (b.y - fA)).2;rw [show b.y - (fA+1)=b.y - fA - 1 by omega];omega
theorem aiB (b c:az):0≤l1 b c:=by have:=kn (b.x - c.x);have:=kn (b.y - c.y);unfold l1;omega
theorem Zl (b:az):l1 b b=0:=by unfold l1;rw [bcd,bcd];rfl
theorem U3 (f:aL) (b:az):rW.j_ f.dr f.hB (l1 b):=⟨λ x y _=>by have:=f.rk (c:=y);omega,aiB b,λ x y aE=>by
 have:=Zm b (PL.1 aE).1;have:=f.rk (c:=y);omega⟩
theorem acD (f:aL):rW.j_ f.dr f.hB (λ _=>0):=⟨λ x y _=>by have:=f.rk (c:=y);omega,λ _=>aZl 0,λ x y aE=>by have:=f.rk (c:=y);omega⟩
theorem agd (hf:f.a7=0) (hc:f.fP c=true) (hd:f.fP d=true) (h:f.at_ c=f.at_ d):c=d:=by
 obtain ⟨a0,b2,a2,a3,a4,a5⟩:=idx hf hc;obtain ⟨gW,k_,fw,hQ,xa,EO⟩:=idx hf hd;unfold at_ at h;have e:c.y * f.wide+c.x=d.y * f.wide+d.x:=by omega
 have aW:(c.y * f.wide+c.x) % f.wide=c.x:=by rw [bcg,ba9,bcf a2 a3]
 have bb:(d.y * f.wide+d.x) % f.wide=d.x:=by rw [bcg,ba9,bcf fw hQ]
 have ex:c.x=d.x:=by rw [← aW,← bb,e]
 have S8:c.y * f.wide=d.y * f.wide:=by omega
 have S8:c.y=d.y:=Int.eq_of_mul_eq_mul_right (by omega) S8;cases c;cases d;simp at ex S8;rw [ex,S8]
theorem AD (hf:f.a7=0) (hc:f.fP c=true):f.at_ c<f.a_.length∧((f.at_ c:Nat):Int)=c.y * f.wide+c.x:=by
 obtain ⟨a0,b2,_⟩:=idx hf hc;unfold at_;omega
theorem Ku (hc:f.fP c=true):f.aD aZ c=aZ.getD (f.at_ c) (-1):=by unfold aD;rw [aYq hc]
theorem ZD (hc:f.fP c=false):f.aD aZ c= -1:=by unfold aD;rw [aYi (by rw [hc];decide)]
theorem Te (hf:f.a7=0) (ah:aZ.length=f.a_.length) (hc:f.fP c=true):f.aD (aZ.set (f.at_ c) v) c=v:=by
 rw [Ku hc,aX7,aYz (by rw [ah];exact (AD hf hc).1)];rfl
theorem Tf (hf:f.a7=0) (hc:f.fP c=true) (fZ:d≠c):f.aD (aZ.set (f.at_ c) v) d=f.aD aZ d:=by
 cases hd:f.fP d with
 | false=>rw [ZD hd,ZD hd]
 | true=>rw [Ku hd,Ku hd,aX7,aX7,aYJ (λ e=>fZ (agd hf hd hc e.symm))]
end
end aL
def und:List Int→Nat
 | []=>0
 | x::r=>(if x<0 then 1 else 0)+und r
theorem apH:∀ l:List Int,und l≤l.length
 | []=>aYg _
 | x::r=>by have:=apH r;rw [und,aYc];split<;>omega
theorem apI {v:Int} (hv:0≤v):∀ (l:List Int) (i:Nat),i<l.length→l.getD i (-1)<0→und (l.set i v)+1=und l
 | [],i,h,_=>by simp at h
 | x::r,0,_,h=>by
  have h:x<0:=h;rw [bam,und,und,aYi (by omega),aYq h];omega
 | x::r,i+1,h,τ=>by
  have:=apI hv r i (by simpa using h) (by simpa using τ);rw [ban,und,und];omega
theorem adV {n:Nat}:und (List.replicate n (-1))=n:=by
 induction n with
 | zero=>rfl
 | succ n bL=>rw [bdc,und,bL];simp;omega
structure jQ {β:Type} [Inhabited β] (ht:β→az) (aj kf:β→Int) (f:aL) (h:az→Int) (src:az→Prop) (aZ:List Int) (l:List β) (dO:az) (rest:List az):Prop where
 len:aZ.length=f.a_.length
 inv:rW.Inv f.dr f.hB h src (f.aD aZ) (l.map λ n=>(ht n,aj n)) dO rest
 hp:cv.Heap kf l.length l
 all:∀ n∈l,kf n=aj n+h (ht n)∧f.ground (ht n)=true
 lH:∀ c,f.aD aZ c+3 * (und aZ:Int)≤3 * (f.a_.length:Int)
 gr:∀ c,0≤f.aD aZ c→f.ground c=true
section
variable {β:Type} [Inhabited β] {ht:β→az} {aj kf:β→Int} {f:aL} {h:az→Int} {src:az→Prop} {aZ:List Int} {l:List β} {dO y:az} {rest:List az} {n:β} {j:Nat}
theorem jQ.aiC (s:jQ ht aj kf f h src aZ l dO rest) (o:rW.j_ f.dr f.hB h) (hn:n∈l):0≤aj n∧aj n+3 * (und aZ:Int)≤3 * (f.a_.length:Int)+3:=by
 have hm:(ht n,aj n)∈l.map λ n=>(ht n,aj n):=aYU.2 ⟨n,hn,rfl⟩;have hr:=s.inv.aos hm;refine ⟨hr.tS o, ?_⟩;have hu:=apH aZ;have:=s.len;rcases s.inv.q _ hm with ⟨_,τ⟩ | ⟨p,κ,τ,au⟩
 ·have τ:aj n=0:=τ;omega
 ·have au:aj n=f.aD aZ p+f.hB (ht n):=au;have:=s.lH p;have:=f.rk (c:=ht n);omega
theorem jQ.an0 (aG:0<l.length):(l.map λ n=>(ht n,aj n)).Perm ((ht (l.getD 0 default),aj (l.getD 0 default))::(cv.pF kf l).map λ n=>(ht n,aj n)):=
 ((cv.an7 (key:=kf) aG).symm.map _)
theorem jQ.least (s:jQ ht aj kf f h src aZ l dO rest) (aG:0<l.length):∀ e∈l.map λ n=>(ht n,aj n),aj (l.getD 0 default)+h (ht (l.getD 0 default))≤e.2+h e.1:=by
 intro e he;obtain ⟨n,hn,rfl⟩:=aYU.1 he;have κ:=s.hp.least n hn;rw [(s.all n hn).1,(s.all _ (jk aG)).1] at κ;exact κ
theorem jQ.sub (aG:0<l.length) (hn:n∈cv.pF kf l):n∈l:=(cv.an7 (key:=kf) aG).subset (aYm _ hn)
theorem jQ.aJw (s:jQ ht aj kf f h src aZ l dO []) (aG:0<l.length) (hd:0≤f.aD aZ (ht (l.getD 0 default))):jQ ht aj kf f h src aZ (cv.pF kf l) dO [] :=
 ⟨s.len,s.inv.aHR (jQ.an0 aG) hd,cv.an6 s.hp aG,λ n hn=>s.all n (jQ.sub aG hn),s.lH,s.gr⟩
theorem jQ.new (s:jQ ht aj kf f h src aZ l dO []) (hf:f.a7=0) (o:rW.j_ f.dr f.hB h) (aG:0<l.length) (hd:f.aD aZ (ht (l.getD 0 default))<0):
  jQ ht aj kf f h src (aZ.set (f.at_ (ht (l.getD 0 default))) (aj (l.getD 0 default))) (cv.pF kf l) (ht (l.getD 0 default)) (f.dr (ht (l.getD 0 default)))∧und (aZ.set (f.at_ (ht (l.getD 0 default))) (aj (l.getD 0 default)))+1=und aZ:=by
 have aN:=(s.all _ (jk aG (d:=default))).2;have hi:=aL.lj aN;have ag:=s.aiC o (jk aG (d:=default));have hu:und (aZ.set (f.at_ (ht (l.getD 0 default))) (aj (l.getD 0 default)))+1=und aZ:=apI ag.1 aZ _ (by rw [s.len];exact (aL.AD hf hi).1) (by rw [aL.Ku hi] at hd;exact hd);refine ⟨⟨by rw [aYn];exact s.len,(s.inv.aHQ o (jQ.an0 aG) hd (s.least aG) (aL.Te hf s.len hi) (λ z bc=>aL.Tf hf hi bc)).1,cv.an6 s.hp aG,λ n hn=>s.all n (jQ.sub aG hn),λ c=> ?_,λ c hc=> ?_⟩,hu⟩
 ·by_cases e:c=ht (l.getD 0 default)
  ·rw [e,aL.Te hf s.len hi];omega
  ·rw [aL.Tf hf hi e];have:=s.lH c;omega
 ·by_cases e:c=ht (l.getD 0 default)
  ·rw [e];exact aN
  ·rw [aL.Tf hf hi e] at hc;exact s.gr c hc
theorem jQ.push (s:jQ ht aj kf f h src aZ l dO (y::rest)) (o:rW.j_ f.dr f.hB h) (aN:f.ground y=true) (κ:ht n=y) (τ:aj n=f.aD aZ dO+f.hB y) (au:kf n=aj n+h y):jQ ht aj kf f h src aZ (cv.push kf l n) dO rest:=by
 refine ⟨s.len,s.inv.push o ?_,cv.aH7 s.hp,λ m hm=> ?_,s.lH,s.gr⟩
 ·have:=(cv.aoc (key:=kf) (l:=l) (x:=n)).map λ n=>(ht n,aj n);rw [aY3,κ,τ] at this;exact this
 ·rcases aYk.1 ((cv.aoc (key:=kf)).subset hm) with rfl | hm
  ·rw [κ];exact ⟨au,aN⟩
  ·exact s.all m hm
theorem jQ.pass (s:jQ ht aj kf f h src aZ l dO (y::rest)) (aE:0≤f.aD aZ y):jQ ht aj kf f h src aZ l dO rest:=⟨s.len,s.inv.skip aE,s.hp,s.all,s.lH,s.gr⟩
theorem adq {f:aL} {x:az} {j:Nat} (ay:j<4):((eK x).drop j).filter f.ground=if f.ground ((eK x).getD j default) then (eK x).getD j default::((eK x).drop (j+1)).filter f.ground else ((eK x).drop (j+1)).filter f.ground:=by
 have ah:(eK x).length=4:=rfl;rw [aZ9 (by omega),aZO,l2 (by omega)]
theorem jQ.aFM (s:jQ ht aj kf f h src aZ l dO (((eK dO).drop j).filter f.ground)) (ay:j<4) (aN:f.ground ((eK dO).getD j default)=false):jQ ht aj kf f h src aZ l dO (((eK dO).drop (j+1)).filter f.ground):=by
 rw [adq ay,aYi (by rw [aN];decide)] at s;exact s
theorem jQ.aFK (s:jQ ht aj kf f h src aZ l dO (((eK dO).drop j).filter f.ground)) (ay:j<4) (aE:0≤f.aD aZ ((eK dO).getD j default)) (aN:f.ground ((eK dO).getD j default)=true):jQ ht aj kf f h src aZ l dO (((eK dO).drop (j+1)).filter f.ground):=by
 rw [adq ay,aYq aN] at s;exact s.pass aE
theorem jQ.aFL (s:jQ ht aj kf f h src aZ l dO (((eK dO).drop j).filter f.ground)) (o:rW.j_ f.dr f.hB h) (ay:j<4) (aN:f.ground ((eK dO).getD j default)=true) (κ:ht n=(eK dO).getD j default) (τ:aj n=f.aD aZ dO+f.hB ((eK dO).getD j default)) (au:kf n=aj n+h ((eK dO).getD j default)):
  jQ ht aj kf f h src aZ (cv.push kf l n) dO (((eK dO).drop (j+1)).filter f.ground):=by
 rw [adq ay,aYq aN] at s;exact s.push o aN κ τ au
end
end
structure cw where
 cell:az
 aZ:Int
 all:Int
 deriving DecidableEq,Inhabited
namespace cw
def cells (a:cw):List Value:= [.int .i64 (a.cell.x), .int .i64 (a.cell.y), .int .i64 (a.aZ), .int .i64 (a.all)]
def ok (a:cw):Prop:=(Lit.int .i64 a.cell.x).wf=true∧(Lit.int .i64 a.cell.y).wf=true∧(Lit.int .i64 a.aZ).wf=true∧(Lit.int .i64 a.all).wf=true
def raw (j:Nat) (u:Value):Prop:=match j with
 | 0 | 1 | 2 | 3=>∃ n:Int,u= .int .i64 n
 | _=>True
theorem qQ (a:cw):∀ (j:Nat) u,a.cells[j]? =some u→raw j u:=by
 intro j u hu
 match j,hu with
 | 0,hu | 1,hu | 2,hu | 3,hu=>exact ⟨_,(aYd hu).symm⟩
 | j+4,hu=>exact trivial
theorem qP (a:cw):∀ u∈a.cells,u.oneCell'=true:=by
 intro u hu;unfold cells at hu;simp only [aYk,aZA,baq] at hu;rcases hu with rfl | rfl | rfl | rfl<;>rfl
def rep:J cw:=J.flat 4 cells ok raw (λ _=>rfl) qP qQ
def zero:Value:= .agg #[.int .i64 0, .int .i64 0, .int .i64 0, .int .i64 0]
theorem j8:∀ (j:Nat) u,zero.cells[j]? =some u→rep.raw j u:=by
 intro j u hu;have hu:(#[(.int .i64 0:Value),(.int .i64 0:Value),(.int .i64 0:Value),(.int .i64 0:Value)]:Array Value)[j]? =some u:=hu
 match j,hu with
 | 0,hu | 1,hu | 2,hu | 3,hu=>exact ⟨_,(aYd hu).symm⟩
 | j+4,hu=>cases hu
theorem info:(prog.info? 304).map (λ i=>(i.zero,i.size,i.bytes))=some (some zero,4,32):=by kernel_rfl
def sh:hl:=(.cons (.cons (.int .i64) (.cons (.int .i64) .nil)) (.cons (.int .i64) (.cons (.int .i64) .nil)))
end cw
section
variable {c:az}
abbrev uD (f:aL) (a b:az) (aZ:List Int) (l:List cw) (dO:az) (rest:List az):Prop:=jQ cw.cell cw.aZ cw.all f (aL.l1 b) (λ c=>c=a) aZ l dO rest
def yO (f:aL) (b:az) (aZ:List Int):Prop:=0≤f.aD aZ b→∀ x,0≤f.aD aZ x→f.aD aZ x+aL.l1 b x≤f.aD aZ b
structure qJ (f:aL) (a b:az) (aZ:List Int):Prop where
 len:aZ.length=f.a_.length
 spec:rW.Spec f.dr f.hB (aL.l1 b) (λ c=>c=a) b (f.aD aZ)
 lH:∀ c,f.aD aZ c≤3 * (f.a_.length:Int)
 gr:∀ c,0≤f.aD aZ c→f.ground c=true
section
variable {f:aL} {a b dO:az} {aZ:List Int} {l:List cw} {cj:cw} {rest:List az}
theorem aLa (s:uD f a b aZ l dO []) (hf:f.a7=0) (aG:0<l.length) (hx:l.getD 0 default=cj) (hd:f.aD aZ cj.cell<0) (hv:yO f b aZ) (hc:f.aD aZ b<0∨cj.all≤f.aD aZ b):yO f b (aZ.set (f.at_ cj.cell) cj.aZ):=by
 have hm:cj∈l:=by rw [← hx];exact jk aG
 obtain ⟨ha,aN⟩:=s.all cj hm;have hi:=aL.lj aN;have κ:=aL.Te (v:=cj.aZ) hf s.len hi;have τ:∀ z,z≠cj.cell→f.aD (aZ.set (f.at_ cj.cell) cj.aZ) z=f.aD aZ z:=λ z bc=>aL.Tf hf hi bc;have akD:=λ z bc=>s.inv.mono z bc (cj.cell,cj.aZ) (aYU.2 ⟨cj,hm,rfl⟩);dsimp only at akD;intro ag z bc;by_cases e:b=cj.cell
 ·have azv:f.aD (aZ.set (f.at_ cj.cell) cj.aZ) b=cj.aZ:=by rw [e];exact κ
  rw [azv];have e0:aL.l1 b cj.cell=0:=by rw [← e];exact aL.Zl b
  by_cases NZ:z=cj.cell
  ·rw [NZ,κ];omega
  ·rw [τ z NZ] at bc ⊢;have:=akD z bc;omega
 ·rw [τ b e] at ag ⊢;by_cases NZ:z=cj.cell
  ·rw [NZ,κ];omega
  ·rw [τ z NZ] at bc ⊢;exact hv ag z bc
theorem anZ (s:uD f a b aZ l dO []) (hv:yO f b aZ) (he:(0≤f.aD aZ b∧∀ e∈l.map λ n=>(n.cell,n.aZ),f.aD aZ b<e.2+aL.l1 b e.1)∨(l.map λ n=>(n.cell,n.aZ))= []):qJ f a b aZ :=
 ⟨s.len,s.inv.ends (aL.U3 f b) (aL.Zl b) hv he,λ c=>by have:=s.lH c;omega,s.gr⟩
theorem aHz (s:uD f a b aZ l dO []) (hv:yO f b aZ) (h:l.length=0):qJ f a b aZ:=anZ s hv (.inr (by rw [aYx h];rfl))
theorem aHy (s:uD f a b aZ l dO []) (hv:yO f b aZ) (aG:0<l.length) (ag:0≤f.aD aZ b) (h:f.aD aZ b<(l.getD 0 default).all):qJ f a b aZ :=
 anZ s hv (.inl ⟨ag,λ e he=>by
  have κ:=s.least aG e he;rw [← (s.all _ (jk aG)).1] at κ;omega⟩)
theorem uD.node (s:uD f a b aZ l dO rest) (hf:f.a7=0) (ag:f.fP b=true) (hn:cj∈l):0≤cj.cell.x∧cj.cell.x<f.wide∧0≤cj.cell.y∧cj.cell.y<f.high∧0≤cj.aZ∧cj.aZ≤4803∧0≤cj.all∧cj.all≤5000∧cj.ok:=by
 obtain ⟨ha,aN⟩:=s.all cj hn;obtain ⟨_,_,i1,i2,i3,i4⟩:=aL.idx hf (aL.lj aN);obtain ⟨_,_,aSU,abC,aSV,aSW⟩:=aL.idx hf ag;obtain ⟨g1,g2,g3,g4,g5,g6⟩:=aL.eB hf;obtain ⟨κ,τ⟩:=s.aiC (aL.U3 f b) hn;have ah:=aL.fa hf;have he:0≤aL.l1 b cj.cell∧aL.l1 b cj.cell≤160:=by
  refine ⟨aL.aiB _ _, ?_⟩;unfold aL.l1;have b2:=kn (b.x - cj.cell.x);have a2:=kn (b.y - cj.cell.y);rcases (show b.x - cj.cell.x<0∨0≤b.x - cj.cell.x by omega) with h | h
  ·have:=b2.2.2.2 h;rcases (show b.y - cj.cell.y<0∨0≤b.y - cj.cell.y by omega) with dh | dh
   ·have:=a2.2.2.2 dh;omega
   ·have:=a2.2.2.1 dh;omega
  ·have:=b2.2.2.1 h;rcases (show b.y - cj.cell.y<0∨0≤b.y - cj.cell.y by omega) with dh | dh
   ·have:=a2.2.2.2 dh;omega
   ·have:=a2.2.2.1 dh;omega
 refine ⟨i1,i2,i3,i4,κ,by omega,by omega,by omega,b8.2 (by omega),b8.2 (by omega),b8.2 (by omega),b8.2 (by omega)⟩
theorem CM (hf:f.a7=0) (ah:aZ.length=f.a_.length) (hc:f.fP c=true):aZ[(c.y * f.wide+c.x).toNat]? =some (f.aD aZ c):=by
 rw [aL.Ku hc];exact dt (u:= -1) (show f.at_ c<aZ.length by rw [ah];exact (aL.AD hf hc).1)
theorem kR (hf:f.a7=0) (ah:aZ.length=f.a_.length) (hc:f.fP c=true):(c.y * f.wide+c.x).toNat<aZ.length∧0≤c.y * f.wide+c.x∧c.y * f.wide+c.x≤1600:=by
 have κ:=aL.AD hf hc;obtain ⟨a0,b2,_⟩:=aL.idx hf hc;have:=aL.fa hf;unfold aL.at_ at κ;omega
theorem agf (p q:Bool):p=false∨(p=true∧q=true)∨(p=true∧q=false):=by cases p<;>cases q<;>simp
end
end
section
section
variable {f:aL} {a b c:az} {aZ S9:List Int} {aD:az→Int}
noncomputable def c' (f:aL) (a b:az):az→Int :=
 @dite _ (∃ aZ,qJ f a b aZ) (Classical.propDecidable _) (λ h=>f.aD h.choose) λ _=>λ _=> -1
theorem qJ.Tb (h:qJ f a b aZ):f.aD aZ=c' f a b:=by
 have hex:∃ aZ,qJ f a b aZ:=⟨aZ,h⟩;unfold c';rw [dif_pos hex]
 funext x
 exact h.spec.uniq hex.choose_spec.spec x
theorem qJ.get (h:qJ f a b aZ) (hf:f.a7=0) {c:az} (hc:f.fP c=true):aZ[(c.y * f.wide+c.x).toNat]? =some (c' f a b c):=by rw [← h.Tb];exact CM hf h.len hc
theorem aH8 {β:Type} [Inhabited β] {key:β→Int} {x:β}:cv.push key [] x= [x]:=by
 unfold cv.push cv.rE;rw [aYi (by simp)];rfl
theorem Td {n:Nat}:f.aD (List.replicate n (-1)) c= -1:=by
 unfold aL.aD;split
 ·rw [aX7,aZn];split<;>rfl
 ·rfl
theorem uD.start (hf:f.a7=0) (ha:f.ground a=true) (dO:az):uD f a b (List.replicate f.a_.length (-1)) (cv.push cw.all [] ⟨a,0,0+aL.l1 b a⟩) dO []:=by
 rw [aH8];refine ⟨aYQ,rW.Inv.start (λ x=>Td) (λ e he=> ?_) (λ s hs=> ?_),λ i aG κ=>by simp at κ;omega,λ n hn=> ?_,λ c=> ?_,λ c hc=>by rw [Td] at hc;omega⟩
 ·rw [aY3,bac,aYf] at he;subst he;exact ⟨Z,Z⟩
 ·subst hs;exact aYE
 ·rw [aYf.1 hn];exact ⟨Z,ha⟩
 ·rw [Td,adV];omega
theorem yO.start:yO f b (List.replicate f.a_.length (-1)):=λ h=>by rw [Td] at h;omega
def mY (f:aL) (aD:az→Int) (c:az):az:=((eK c).find? λ n=>f.ground n && decide (0≤aD n) && decide (aD n+f.hB c=aD c)).getD c
def yR (f:aL) (aD:az→Int) (a:az):Nat→az→List az
 | 0,c=> [c]
 | n+1,c=>if c=a then [c] else c::yR f aD a n (mY f aD c)
structure pX (f:aL) (a:az) (aD:az→Int):Prop where
 zero:aD a=0
 pos:∀ c,0≤aD c→c≠a→∃ p,0≤aD p∧c∈f.dr p∧aD c=aD p+f.hB c
 gr:∀ c,0≤aD c→f.ground c=true
theorem pX.prev (h:pX f a aD) (hc:0≤aD c) (fZ:c≠a):mY f aD c∈eK c∧f.ground (mY f aD c)=true∧0≤aD (mY f aD c)∧aD (mY f aD c)+f.hB c=aD c:=by
 obtain ⟨p,κ,τ,au⟩:=h.pos c hc fZ;have hp:p∈eK c:=aL.adr (aL.PL.1 τ).1;have T2:(f.ground p && decide (0≤aD p) && decide (aD p+f.hB c=aD c))=true:=by
  rw [h.gr p κ,aYD κ,aYD au.symm];rfl
 unfold mY;cases hf:(eK c).find? λ n=>f.ground n && decide (0≤aD n) && decide (aD n+f.hB c=aD c) with
 | none=>exact absurd T2 (aZH.1 hf p hp)
 | some q =>
  have I:=bbw hf;simp only [aYl,aYB] at I;exact ⟨bbb hf,I.1.1,I.1.2,I.2⟩
theorem pX.fuel (h:pX f a aD):∀ (n:Nat) (c:az),0≤aD c→(aD c).toNat≤n→yR f aD a n c=yR f aD a (aD c).toNat c:=by
 intro n;induction n using Nat.strongRecOn with
 | ind n bL =>
  intro c hc hn;by_cases fZ:c=a
  ·subst fZ;have:(aD c).toNat=0:=by rw [h.zero];rfl
   rw [this];cases n with
   | zero=>rfl
   | succ n=>unfold yR;rw [aYq rfl]
  ·obtain ⟨nO,pB,nP,zH⟩:=h.prev hc fZ;have ak:=f.rk (c:=c);obtain ⟨m,hm⟩:∃ m,(aD c).toNat=m+1:=⟨(aD c).toNat - 1,by omega⟩;obtain ⟨jl,akF⟩:∃ jl,n=jl+1:=⟨n - 1,by omega⟩;subst akF;rw [hm,yR,yR,aYi fZ,aYi fZ,bL jl (by omega) _ nP (by omega),bL m (by omega) _ nP (by omega)]
def gy (f:aL) (aD:az→Int) (a c:az):List az:=yR f aD a (aD c).toNat c
theorem DS (h:pX f a aD):gy f aD a a= [a]:=by unfold gy;rw [h.zero];rfl
theorem DT (h:pX f a aD) (hc:0≤aD c) (fZ:c≠a):gy f aD a c=c::gy f aD a (mY f aD c):=by
 obtain ⟨nO,pB,nP,zH⟩:=h.prev hc fZ;have ak:=f.rk (c:=c);unfold gy;obtain ⟨m,hm⟩:∃ m,(aD c).toNat=m+1:=⟨(aD c).toNat - 1,by omega⟩;rw [hm,yR,aYi fZ,h.fuel m _ nP (by omega)]
theorem pX.of (h:qJ f a b aZ) (ag:0≤f.aD aZ b):pX f a (f.aD aZ):=by
 have bc:0≤f.aD aZ a→f.aD aZ a=0:=λ aG=>by
  have:=(h.spec.p6 a aG).1.2 0 (.start rfl);omega
 have key:∀ n:Nat,∀ c,0≤f.aD aZ c→(f.aD aZ c).toNat=n→0≤f.aD aZ a:=by
  intro n;induction n using Nat.strongRecOn with
  | ind n bL =>
   intro c hc hn;rcases h.spec.pred c hc with ⟨κ,_⟩ | ⟨p,κ,τ,au⟩
   ·subst κ;exact hc
   ·have:=f.rk (c:=c);exact bL (f.aD aZ p).toNat (by omega) p κ Z
 have ha:=key _ b ag rfl;refine ⟨bc ha,λ c hc fZ=> ?_,h.gr⟩;rcases h.spec.pred c hc with ⟨κ,_⟩ | κ
 ·exact absurd κ fZ
 ·exact κ
theorem pX.IN (h:qJ f a b aZ) (ag:0≤c' f a b b):pX f a (c' f a b):=by rw [← h.Tb] at ag ⊢;exact pX.of h ag
theorem qJ.auU (h:qJ f a b aZ) (c:az):c' f a b c≤3 * (f.a_.length:Int):=by rw [← h.Tb];exact h.lH c
noncomputable def ib (f:aL) (a b:az):Int:=if f.et a≠0 then f.et a else if f.et b≠0 then f.et b else if f.place a=1∨f.place b=1 then 9 else if c' f a b b<0 then 6 else 0
noncomputable def p' (f:aL) (a b:az):Int:=if ib f a b=0 then c' f a b b else 0
noncomputable def gX (f:aL) (a b:az):List az:=if ib f a b=0 then (gy f (c' f a b) a b).reverse else []
theorem azI (h:f.et a≠0):ib f a b=f.et a:=by unfold ib;rw [aYq h]
theorem azJ (h:f.et a=0) (τ:f.et b≠0):ib f a b=f.et b:=by unfold ib;rw [aYi (by rw [h];simp),aYq τ]
theorem RY (h:f.et a=0):f.a7=0∧f.fP a=true:=by
 have hc:f.a7=0:=by
  by_cases hc:f.a7=0
  ·exact hc
  ·rw [(aL.X0 hc).1] at h;exact h
 exact ⟨hc,auu hc h⟩
where
 auu {f:aL} {c:az} (h:f.a7=0) (he:f.et c=0):f.fP c=true:=by
  cases hi:f.fP c with
  | true=>rfl
  | false=>rw [(aL.Np h hi).1] at he;omega
theorem azL (h:f.et a=0) (τ:f.et b=0) (au:f.place a=1∨f.place b=1):ib f a b=9:=by unfold ib;rw [aYi (by rw [h];simp),aYi (by rw [τ];simp),aYq au]
theorem azK (hf:f.a7=0) (ha:f.ground a=true) (ag:f.ground b=true) (h:c' f a b b<0):ib f a b=6:=by
 unfold ib;rw [aYi (by rw [(aL.n8 hf (aL.lj ha)).1];simp),aYi (by rw [(aL.n8 hf (aL.lj ag)).1];simp),aYi (by rintro (κ | κ);exact aL.E' ha κ;exact aL.E' ag κ),aYq h]
theorem Zt (hf:f.a7=0) (ha:f.ground a=true) (ag:f.ground b=true) (h:0≤c' f a b b):ib f a b=0:=by
 unfold ib;rw [aYi (by rw [(aL.n8 hf (aL.lj ha)).1];simp),aYi (by rw [(aL.n8 hf (aL.lj ag)).1];simp),aYi (by rintro (κ | κ);exact aL.E' ha κ;exact aL.E' ag κ),aYi (by omega)]
theorem Zr (f:aL) (a b:az):(f.et a≠0∧ib f a b=f.et a)∨(f.et a=0∧f.et b≠0∧ib f a b=f.et b)∨(f.et a=0∧f.et b=0∧(f.place a=1∨f.place b=1)∧ib f a b=9)∨(f.a7=0∧f.ground a=true∧f.ground b=true∧((c' f a b b<0∧ib f a b=6)∨(0≤c' f a b b∧ib f a b=0))):=by
 by_cases κ:f.et a=0
 ·by_cases τ:f.et b=0
  ·obtain ⟨hc,O8⟩:=RY κ;obtain ⟨_,abv⟩:=RY τ;by_cases au:f.place a=1∨f.place b=1
   ·exact .inr (.inr (.inl ⟨κ,τ,au,azL κ τ au⟩))
   ·have ga:=aL.ajc O8 (λ h=>au (.inl h));have nc:=aL.ajc abv (λ h=>au (.inr h));refine .inr (.inr (.inr ⟨hc,ga,nc, ?_⟩));by_cases aU:c' f a b b<0
    ·exact .inl ⟨aU,azK hc ga nc aU⟩
    ·exact .inr ⟨by omega,Zt hc ga nc (by omega)⟩
  ·exact .inr (.inl ⟨κ,τ,azJ κ τ⟩)
 ·exact .inl ⟨κ,azI κ⟩
end
end
structure eQ where
 id:Int
 bp:az
 deriving DecidableEq,Inhabited
namespace eQ
def cells (a:eQ):List Value:= [.int .i64 (a.id), .int .i64 (a.bp.x), .int .i64 (a.bp.y)]
def ok (a:eQ):Prop:=(Lit.int .i64 a.id).wf=true∧(Lit.int .i64 a.bp.x).wf=true∧(Lit.int .i64 a.bp.y).wf=true
def raw (j:Nat) (u:Value):Prop:=match j with
 | 0 | 1 | 2=>∃ n:Int,u= .int .i64 n
 | _=>True
theorem qQ (a:eQ):∀ (j:Nat) u,a.cells[j]? =some u→raw j u:=by
 intro j u hu
 match j,hu with
 | 0,hu | 1,hu | 2,hu=>exact ⟨_,(aYd hu).symm⟩
 | j+3,hu=>exact trivial
theorem qP (a:eQ):∀ u∈a.cells,u.oneCell'=true:=by
 intro u hu;unfold cells at hu;simp only [aYk,aZA,baq] at hu;rcases hu with rfl | rfl | rfl<;>rfl
def rep:J eQ:=J.flat 3 cells ok raw (λ _=>rfl) qP qQ
def zero:Value:= .agg #[.int .i64 0, .int .i64 0, .int .i64 0]
theorem j8:∀ (j:Nat) u,zero.cells[j]? =some u→rep.raw j u:=by
 intro j u hu;have hu:(#[(.int .i64 0:Value),(.int .i64 0:Value),(.int .i64 0:Value)]:Array Value)[j]? =some u:=hu
 match j,hu with
 | 0,hu | 1,hu | 2,hu=>exact ⟨_,(aYd hu).symm⟩
 | j+3,hu=>cases hu
theorem info:(prog.info? 203).map (λ i=>(i.zero,i.size,i.bytes))=some (some zero,3,24):=by kernel_rfl
def sh:hl:=(.cons (.int .i64) (.cons (.cons (.int .i64) (.cons (.int .i64) .nil)) .nil))
end eQ
theorem ajV {w:World} {cs:List Value} {a:eQ} (h:eQ.rep.has w cs a):cs=a.cells:=bas (show cs=a.cells∧a.ok from h)
section
open Go.RowKit Go.Maps
namespace az
def key (c:az):Value:= .agg #[.int .i64 c.x, .int .i64 c.y]
theorem laid:laidOutB prog=true:=by kernel_rfl
theorem aEL (x y:Int):(Value.agg #[.int .i64 x, .int .i64 y]).formed prog 55 =true:=by kernel_rfl
theorem aEO:prog.keyType 55 =true:=by kernel_rfl
theorem aEN:∃ n,prog.types.size+1=n+2:=by
 have:1≤prog.types.size:=by decide +kernel
 exact ⟨prog.types.size - 1,by omega⟩
theorem aEK:prog.cellsOf 55 =2∧prog.cellsOf 3 =1:=by
 constructor<;>kernel_rfl
theorem aEM (c:az) (h:c.ok):∃ l,keyOf prog 55 (key c)=some l:=by
 obtain ⟨hx,aE⟩:=h;obtain ⟨n,hn⟩:=aEN;unfold key keyOf;have hu:=underlying55;rw [hu];simp only [aEO,aEL,Bool.and_self,bab,hn];have κ:prog.keyLits (n+2) 55 [.int .i64 c.x, .int .i64 c.y]=some [.int .i64 c.x, .int .i64 c.y]:=by
  simp [Program.keyLits,hu,underlying3,aEK,hx,aE]
 exact ⟨.string (keyBytes [.int .i64 c.x, .int .i64 c.y]),by
  have e:(Value.agg #[.int .i64 c.x, .int .i64 c.y]).cells.toList= [.int .i64 c.x, .int .i64 c.y]:=rfl;rw [e,κ];rfl⟩
theorem Bg:Xm prog 55 key ok where
 keyed:=Keyed.of_law (Go.deep_law_laid laid (m:=100) (by decide) (by decide +kernel) (by kernel_rfl) (by kernel_rfl))
 lit:=aEM
 inj:=by
  intro a b h;unfold key at h;injection h with h
  obtain ⟨x,y⟩:=a;obtain ⟨z,t⟩:=b;simp at h;simp [h]
end az
end
section
open Go.RowKit Go.Maps
section
variable {w w':World} {b:Nat} {g:az→Int} {S:List Nat} {x:az} {st:Nat}
def Ha (w:World) (b:Nat) (l:List (az×Int×Nat)) (mP:Nat) (g:az→Int):Prop :=
 ej az.key w b l mP∧(∀ e∈l,e.1.ok)∧(l.map (·.1)).Nodup∧∀ y,(ej.get l y).getD 0=g y
def lY (w:World) (b:Nat) (g:az→Int):Prop:=∃ l mP,Ha w b l mP g
def uw (w:World) (b:Nat) (g:az→Int) (x:az) (st:Nat):Prop:=∃ l mP,Ha w b l mP g∧∃ (j:Nat) (v:Int),l[j]? =some (x,v,st)
theorem lY.lt (h:lY w b g):b<w.heap.size:=by obtain ⟨l,c,h,_⟩:=h;exact h.lt
theorem Ha.keep {l:List (az×Int×Nat)} {mP:Nat} (h:Ha w b l mP g) (ak:w'.heap[b]? =w.heap[b]?):Ha w' b l mP g:=⟨h.1.keep ak,h.2⟩
theorem lY.keep (h:lY w b g) (ak:w'.heap[b]? =w.heap[b]?):lY w' b g:=by obtain ⟨l,c,h⟩:=h;exact ⟨l,c,h.keep ak⟩
theorem lY.later (h:lY w b g) (x:Ext w w'):lY w' b g:=h.keep (x.block b h.lt)
theorem lY.mod (h:lY w b g) (m:Mod S w w') (hs:b∉S):lY w' b g:=h.keep (m.block b h.lt hs)
theorem uw.map (h:uw w b g x st):lY w b g:=by obtain ⟨l,c,h,_⟩:=h;exact ⟨l,c,h⟩
theorem uw.lt (h:uw w b g x st):b<w.heap.size:=h.map.lt
theorem uw.keep (h:uw w b g x st) (ak:w'.heap[b]? =w.heap[b]?):uw w' b g x st:=by obtain ⟨l,c,h,τ⟩:=h;exact ⟨l,c,h.keep ak,τ⟩
theorem uw.later (h:uw w b g x st) (e:Ext w w'):uw w' b g x st:=h.keep (e.block b h.lt)
theorem lY.of_nil (h:qH w b []):lY w b λ _=>0:=by
 obtain ⟨es,c,κ,τ⟩:=h;have:es.toList= []:=by
  cases he:es.toList with
  | nil=>rfl
  | cons a r=>rw [he] at τ;exact τ.elim
 have e:es=#[]:=by apply aZK;simpa using this
 subst e;exact ⟨[],c,⟨by simpa using κ,by simp,by simp⟩,by simp,by simp,λ y=>rfl⟩
def qK (b:Nat) (g:az→Int) (w w':World):Prop:=Mod [b] w w'∧(lY w b g→lY w' b g)
theorem qK.a8 (h:Ext w w'):qK b g w w':=⟨Mod.a8 h,λ k=>k.later h⟩
theorem qK.trans {w1 cx:World} (h:qK b g w w1) (k:qK b g w1 cx):qK b g w cx:=⟨h.1.trans k.1,λ q=>k.2 (h.2 q)⟩
theorem ado {es:Array MapEntry} {clock:Nat}:Mod [b] w (j4 w b es clock):=
 ⟨rfl,rfl,rfl,by rw [aoN];exact aYg _,λ k _ hn=>P8 (by simpa using hn)⟩
def vg (g:az→Int) (x:az) (v:Int):az→Int:=λ y=>if y=x then v else g y
end
section
variable {w:World} {b:Nat} {l:List (az×Int×Nat)} {clock:Nat} {g:az→Int}
theorem anj:prog.underlying 205 =some (.map 55 3):=by kernel_rfl
theorem aF6 (h:lY w b g) (x:az) (hx:x.ok):(Instr.lookup 205 (.map (some b)) (az.key x) false).run prog w= .ok (.int .i64 (g x)) w:=by
 obtain ⟨l,c,κ,τ,au,aU⟩:=h;rw [← aU x];exact (ej.lookup az.Bg anj (bbn w) κ τ au x hx).1
theorem aJP {l:List (az×Int×Nat)} {j:Nat} {a:az×Int×Nat} (hm:(l.map (·.2.2)).Nodup) (ay:l[j]? =some a):((l.map (eo az.key)).toArray).findIdx? (λ y=>((y.born:Nat):Int)== ((a.2.2:Nat):Int))=some j:=by
 rw [bcM];refine bcI (l:=l.map (eo az.key)) (j:=j) (e0:=eo az.key a) ?_ (by rw [aYv,ay];rfl);rw [ba8];exact hm
theorem aF5 (h:lY w b g) (x:az) (hx:x.ok):∃ (st:Nat) (w':World),(Instr.mapEntry 205 (.map (some b)) (az.key x)).run prog w= .ok (.tuple #[.int .i64 (g x), .int .i64 (st:Int)]) w'∧Mod [b] w w'∧uw w' b g x st:=by
 obtain ⟨l,clock,h,hw,hn,aN⟩:=h;obtain ⟨j2,tE⟩:=az.Bg.lit x hx;have ag:=h.fI;have bF:=h.lt;have aH:=anj;have bc:=bbn;rcases ej.found az.Bg h hw x hx with ⟨κ,τ,au⟩ | ⟨j,v0,n0,κ,τ⟩
 ·have KV:g x=0:=by rw [← aN x,τ];rfl
  have FE:ej.put l clock x 0=l++ [(x,0,clock)]:=by
   unfold ej.put;rw [aYi];intro ha;obtain ⟨a,ha,hd⟩:=aZB.1 ha;exact au a ha (by simpa using hd)
  have g_:Ha (j4 w b ((l++ [(x,0,clock)]).map (eo az.key)).toArray (clock+1)) b (l++ [(x,0,clock)]) (clock+1) g:=by
   refine ⟨⟨F_ bF,λ a ha=> ?_, ?_⟩,λ a ha=> ?_, ?_,λ y=> ?_⟩
   ·rcases aYo.1 ha with ha | ha
    ·have:=h.born a ha;omega
    ·simp at ha;subst ha;simp
   ·rw [aYA,aY7];refine ⟨h.stamps,by simp,λ a ha c hc e=> ?_⟩;simp at hc;obtain ⟨y,aE,rfl⟩:=aYU.1 ha;have:=h.born y aE;omega
   ·rcases aYo.1 ha with ha | ha
    ·exact hw a ha
    ·simp at ha;subst ha;exact hx
   ·have:=ej.K7 hn clock x 0;rw [FE] at this;exact this
   ·have:=ej.CT l clock x y 0;rw [FE] at this;rw [this];by_cases e:y=x
    ·rw [aYq e,e,KV];rfl
    ·rw [aYi e];exact aN y
  refine ⟨clock,_, ?_,ado,⟨_,_,g_,l.length,0,by simp⟩⟩
  ·rw [KV];have:(l.map (eo az.key)).toArray.push (⟨az.key x, .int .i64 0,clock⟩:MapEntry)=((l++ [(x,0,clock)]).map (eo az.key)).toArray:=by simp [eo]
   simp [Instr.mapEntry,aZo aH,aZd ag,az.Bg.keyed.check w false tE,κ,bc,aZC _ ag,Result.andThen,j4,Go.ChangeMaps.setBlock,goInt,eo]
 ·have KV:g x=v0:=by rw [← aN x,ej.ic hn τ];rfl
  have g_:Ha (j4 w b (l.map (eo az.key)).toArray clock) b l clock g:=⟨⟨F_ bF,h.born,h.stamps⟩,hw,hn,aN⟩;refine ⟨n0,_, ?_,ado,⟨_,_,g_,j,v0,τ⟩⟩
  ·rw [KV];have ay:(l.map (eo az.key)).toArray[j]? =some (eo az.key (x,v0,n0)):=by simp [τ]
   have abi:(l.map (eo az.key)).toArray.modify j (λ e=> {e with key:=az.key x})=(l.map (eo az.key)).toArray:=by
    apply aZK;rw [baH,baw _ _ _ _ (by rw [aYv,τ];rfl)];exact bcY _ _ _ (by rw [aYv,τ];rfl)
   have aa0:(eo az.key (x,v0,n0)).key=az.key x:=rfl;have aay:(eo az.key (x,v0,n0)).born=n0:=rfl;simp only [Instr.mapEntry,aYt,aZo aH,aYj,aZd ag,az.Bg.keyed.check w false tE,κ,ay,aZL,aZm,aa0,az.Bg.keyed.stays w tE,abi,aZC _ ag,aay,aYu];rfl
theorem aF7 {st:Nat} {x:az} (h:uw w b g x st) (v:Int):∃ w',(Instr.entryStore 205 (.map (some b)) (.int .i64 (st:Int)) (.int .i64 v)).run prog w= .ok () w'∧Mod [b] w w'∧lY w' b (vg g x v):=by
 obtain ⟨l,clock,⟨h,hw,hn,aN⟩,j,v0,τ⟩:=h;have ag:=h.fI;have bF:=h.lt;have fl:=aJP (a:=(x,v0,st)) h.stamps τ;have q3:l.any (λ e=>decide (e.1=x))=true:=aZB.2 ⟨_,aYR τ,by simp⟩;have xF:ej.put l clock x v=l.set j (x,v,st):=by
  unfold ej.put;rw [aYq q3];refine aZW λ i=> ?_;rw [aYv];by_cases jF:j=i
  ·subst jF;rw [τ,aYz (aX8.1 τ).1];simp
  ·rw [aYJ jF];cases hi:l[i]? with
   | none=>rfl
   | some a =>
    have:a.1≠x:=by
     intro CZ;have aW:(l.map (·.1))[i]? =(l.map (·.1))[j]? :=by rw [aYv,aYv,hi,τ];simp [CZ]
     have:=(bcb (by simpa using (aX8.1 hi).1) hn).1 aW;exact jF this.symm
    simp [this]
 have Ii:(l.map (eo az.key)).toArray.modify j (λ e=> {e with val:=Value.int .i64 v})=((l.set j (x,v,st)).map (eo az.key)).toArray:=by
  apply aZK;rw [baH,baw _ _ _ _ (by rw [aYv,τ];rfl),aZu];rfl
 refine ⟨j4 w b ((l.set j (x,v,st)).map (eo az.key)).toArray clock, ?_,ado,l.set j (x,v,st),clock,⟨F_ bF,λ a ha=> ?_, ?_⟩,λ a ha=> ?_, ?_,λ y=> ?_⟩
 ·rw [← Ii];simp only [Instr.entryStore,aYt,aZd ag,aYj,asInt,asIntOf,goInt,aYu];rw [fl];exact aZC _ ag
 ·rcases aZ8 ha with ha | ha
  ·exact h.born a ha
  ·rw [ha];exact h.born (x,v0,st) (aYR τ)
 ·rw [aZu];have:(l.map (·.2.2)).set j st=l.map (·.2.2):=by
   obtain ⟨ra,kc⟩:=aX8.1 τ;have e:(l.map (·.2.2))[j]'(by simpa using ra)=st:=by rw [bbm,kc]
   conv=>lhs;rw [← e]
   exact aZ6 _
  rw [this];exact h.stamps
 ·rcases aZ8 ha with ha | ha
  ·exact hw a ha
  ·rw [ha];exact hw (x,v0,st) (aYR τ)
 ·have:=ej.K7 hn clock x v;rw [xF] at this;exact this
 ·have:=ej.CT l clock x y v;rw [xF] at this;rw [this];unfold vg;by_cases e:y=x
  ·rw [aYq e,aYq e];rfl
  ·rw [aYi e,aYi e];exact aN y
end
section
variable {n:Nat} {E cW:List (Nat×Value)} {a:Act} {w w' w0 w1:World} {Q:Exit→Act→World→Prop} {ops:Array Oper}
variable {d:Option Nat} {ty:TypeId} {pos:String} {af:Array Edge} {aAe:Option (Nat×Bool)} {x y z m:Operand} {rest:List Oper} {r st:Nat} {g:az→Int} {p:az} {v:Int}
theorem Uu (h:lY w r g) (ak:p.ok) (hx:ev E m=some (.map (some r))) (aE:ev E y=some (az.key p)):
  c9 prog E ⟨d, .lookup 205 m y false,ty,pos,af,aAe⟩ w (.int .i64 (g p)) w:=λ n a ha=>by
 simp only [execOp,ha.ev hx,ha.ev aE,aYt,aF6 h p ak,aYj,aYu]
theorem meC {d:Nat} (h:lY w r g) (ak:p.ok) (hx:ev E m=some (.map (some r))) (aE:ev E y=some (az.key p)) (hd:Nat.blt d n=true)
  (hK:∀ w1 (st:Nat),Mod [r] w w1→uw w1 r g p st→cg prog n ops Q rest ((d, .tuple #[.int .i64 (g p), .int .i64 (st:Int)])::E) w1):cg prog n ops Q (⟨some d, .mapEntry 205 m y,ty,pos,af,none⟩::rest) E w:=by
 obtain ⟨st,w1,κ,τ,au⟩:=aF5 h p ak;refine hW (w':=w1) (v:= .tuple #[.int .i64 (g p), .int .i64 (st:Int)]) (λ n a ha=> ?_) hd (hK _ st τ au);simp only [execOp,ha.ev hx,ha.ev aE,aYt,κ,aYj,aYu]
theorem Zj (h:uw w r g p st) (hx:ev E m=some (.map (some r))) (aE:ev E y=some (.int .i64 (st:Int))) (bc:ev E z=some (.int .i64 v))
  (hK:∀ w1,Mod [r] w w1→lY w1 r (vg g p v)→cg prog n ops Q rest E w1):cg prog n ops Q (⟨none, .entryStore 205 m y z,ty,pos,af,none⟩::rest) E w:=by
 obtain ⟨w1,κ,τ,au⟩:=aF7 h v;refine us (w':=w1) (λ n a ha=> ?_) (hK _ τ au);simp only [execOp,ha.ev hx,ha.ev aE,ha.ev bc,aYt,κ,aYj,aYu]
end
end
section
variable {k:Nat} {c:az} {f:aL} {l:List eQ}
def kk (T:List bj) (c:az):Int:=((T.countP λ t=>decide (t.spot=c):Nat):Int)
theorem U2 (T:List bj) (c:az):0≤kk T c∧kk T c≤(T.length:Int):=⟨bap _,Int.ofNat_le.2 bcX⟩
theorem aGU (T:List bj) (t:bj):kk (T++ [t])=vg (kk T) t.spot (kk T t.spot+1):=by
 funext y
 unfold kk vg;rw [bbY,bcr,List.countP_nil];by_cases e:y=t.spot
 ·subst e;simp
 ·have e':¬ t.spot=y:=λ h=>e h.symm;rw [aYi e];simp [e']
theorem aJ9 {α:Type} {T:List α} {d:α} (h:k<T.length):T.take (k+1)=T.take k++ [T.getD k d]:=by
 rw [List.take_add_one,aYb h,aX7,aYb h];rfl
theorem aGV {T:List bj} (h:k<T.length):kk (T.take (k+1))=vg (kk (T.take k)) (T.getD k default).spot (kk (T.take k) (T.getD k default).spot+1):=by
 rw [aJ9 (d:=default) h,aGU]
theorem countP_split {T:List bj} (h:k<T.length) (t:bj) (c:az):
  ((T.countP λ t=>decide (t.spot=c):Nat):Int)=(((T.take k).countP λ t=>decide (t.spot=c):Nat):Int)+(if (T.getD k default).spot=c then 1 else 0)+(((T.drop (k+1)).countP λ t=>decide (t.spot=c):Nat):Int)∧
  (((T.set k t).countP λ t=>decide (t.spot=c):Nat):Int)=(((T.take k).countP λ t=>decide (t.spot=c):Nat):Int)+(if t.spot=c then 1 else 0)+(((T.drop (k+1)).countP λ t=>decide (t.spot=c):Nat):Int):=by
 have e:T=T.take k++T.getD k default::T.drop (k+1):=by
  conv=>lhs;rw [← aZ5 k T,aZ9 h]
  rw [aX7,aYb h];rfl
 constructor
 ·conv=>lhs;rw [e]
  rw [bbY,bcr];by_cases hc:(T.getD k default).spot=c<;>simp only [hc,bbf,ba6,bab,aZI]<;>simp<;>omega
 ·rw [baS,aYq h,bbY,bcr];by_cases hc:t.spot=c<;>simp only [hc,bbf,ba6,bab,aZI]<;>simp<;>omega
theorem aGT {T:List bj} (h:k<T.length) (t:bj):
  kk (T.set k t)=vg (vg (kk T) (T.getD k default).spot (kk T (T.getD k default).spot - 1)) t.spot (vg (kk T) (T.getD k default).spot (kk T (T.getD k default).spot - 1) t.spot+1):=by
 obtain ⟨A,D,hA,bg⟩:∃ A D:az→Int,(∀ y,kk T y=A y+(if (T.getD k default).spot=y then 1 else 0)+D y)∧∀ y,kk (T.set k t) y=A y+(if t.spot=y then 1 else 0)+D y :=
  ⟨_,_,λ y=>(countP_split h t y).1,λ y=>(countP_split h t y).2⟩
 funext y
 unfold vg;rw [bg y,hA y,hA t.spot,hA (T.getD k default).spot];generalize (T.getD k default).spot=a;generalize t.spot=b;by_cases aW:y=b
 ·subst aW;by_cases bb:y=a
  ·subst bb;simp only [bab,eq_self];omega
  ·have df:¬ a=y:=λ h=>bb h.symm;simp only [bab,bb,df,aZI];omega
 ·have jy:¬ b=y:=λ h=>aW h.symm;by_cases bb:y=a
  ·subst bb;simp only [bab,aW,jy,aZI];omega
  ·have df:¬ a=y:=λ h=>bb h.symm;simp only [aW,bb,df,jy,aZI]
theorem aKR {g:az→Int} {n v:Int} {x:az} (h:∀ y,0≤g y∧g y≤n) (κ: -1≤v) (τ:v≤n) (y:az): -1≤vg g x v y∧vg g x v y≤n:=by
 unfold vg;have:=h y;split<;>omega
theorem aGS {T:List bj}:0<kk T c↔∃ t∈T,t.spot=c:=by
 unfold kk;rw [Int.natCast_pos,List.countP_pos_iff];simp
def fC (l:List eQ) (id:Int):Int:=gY (λ g=>g.id == id) l
theorem aAm (l:List eQ) (id:Int):fC l id= -1∧(∀ g∈l,g.id≠id)∨∃ k,k<l.length∧fC l id=(k:Int)∧(l.getD k default).id=id∧∀ j,j<k→(l.getD j default).id≠id:=by
 rcases abw (λ g=>g.id == id) l with ⟨κ,τ⟩ | ⟨k,ak,κ,τ,au⟩
 ·exact .inl ⟨κ,λ g aN=>by simpa using τ g aN⟩
 ·refine .inr ⟨k,ak,κ, ?_,λ j ay=> ?_⟩
  ·rw [aX7,aYb ak];simpa using τ
  ·rw [aX7,aYb (by omega)];simpa using au j ay
noncomputable def sz (f:aL) (l:List eQ) (T:List bj) (k:Nat):Option az :=
 if fC l (T.getD k default).id<0 then none
 else if ib f (T.getD k default).spot (l.getD (fC l (T.getD k default).id).toNat default).bp≠0 then none
 else if (gX f (T.getD k default).spot (l.getD (fC l (T.getD k default).id).toNat default).bp).length<2 then none
 else if 0<kk T ((gX f (T.getD k default).spot (l.getD (fC l (T.getD k default).id).toNat default).bp).getD 1 default) then none
 else some ((gX f (T.getD k default).spot (l.getD (fC l (T.getD k default).id).toNat default).bp).getD 1 default)
def bj.bp (t:bj) (c:az):bj:= {t with spot:=c}
noncomputable def kZ (f:aL) (l:List eQ) (T:List bj):Nat→List bj×List Int
 | 0=>(T, [])
 | k+1=>match sz f l (kZ f l T k).1 k with
  | none=>kZ f l T k
  | some c=>((kZ f l T k).1.set k (((kZ f l T k).1.getD k default).bp c),(kZ f l T k).2++ [((kZ f l T k).1.getD k default).id])
theorem I4 {T U:List bj} {M:List Int} (h:kZ f l T k=(U,M)) (hs:sz f l U k=none):kZ f l T (k+1)=(U,M):=by
 show (match sz f l (kZ f l T k).1 k with | none=>_ | some c=>_)=_;rw [h];simp only [hs]
theorem Qd {T U:List bj} {M:List Int} (h:kZ f l T k=(U,M)) (hs:sz f l U k=some c):kZ f l T (k+1)=(U.set k ((U.getD k default).bp c),M++ [(U.getD k default).id]):=by
 show (match sz f l (kZ f l T k).1 k with | none=>_ | some c=>_)=_;rw [h];simp only [hs]
theorem Vw {f:aL} {l:List eQ} {T:List bj}:∀ k,(kZ f l T k).1.length=T.length∧(kZ f l T k).2.length≤k
 | 0=>⟨rfl,aYg _⟩
 | k+1=>by
  have bL:=Vw (f:=f) (l:=l) (T:=T) k;cases hs:sz f l (kZ f l T k).1 k with
  | none=>rw [I4 rfl hs];exact ⟨bL.1,bdp bL.2⟩
  | some c=>rw [Qd rfl hs];exact ⟨by rw [aYn];exact bL.1,by rw [aX9,aYr];omega⟩
noncomputable def ai.nv (W:ai) (l:List eQ):ai×List Int:=({W with ao:=(kZ W.field l W.ao W.ao.length).1},(kZ W.field l W.ao W.ao.length).2)
end
section
variable {o:Oper} {id:Nat} {op:Op}
section
variable {gN:Nat} {gP:az→Int} {P:Program} {ops:Array Oper} {Q:Exit→Act→World→Prop} {aS:Nat→Nat}
def wZ (gN:Nat) (gP:az→Int) (P:Program) (ops:Array Oper) (w0:World) (o:Oper) (v:Value) (a:Act):Prop :=
  (Region.wanted o (yielded ops a.tmps)=true∧∀ w,qK gN gP w0 w→Bu P w v ((execOp a.eval o).run P w))∨
  (Region.wanted o (yielded ops a.tmps)=false∧v=undef)
theorem wZ.of_same {w0:World} {v:Value} {a a':Act} (h:wZ gN gP P ops w0 o v a) (he:execOp a'.eval o=execOp a.eval o) (hw:Region.wanted o (yielded ops a'.tmps)=Region.wanted o (yielded ops a.tmps)):wZ gN gP P ops w0 o v a':=by
  unfold wZ at *;rw [he,hw];exact h
theorem wZ.on {w0 w1:World} {v:Value} {a:Act} (h:wZ gN gP P ops w0 o v a) (hx:qK gN gP w0 w1):wZ gN gP P ops w1 o v a :=
  h.imp (λ ⟨κ,τ⟩=>⟨κ,λ w hw=>τ w (hx.trans hw)⟩) id
theorem Yields.aIz {w0:World} {v:Value} {a:Act} (h:Yields P ops o v a):wZ gN gP P ops w0 o v a :=
  h.imp (λ ⟨κ,τ⟩=>⟨κ,λ w _=>by rw [τ w];exact ⟨rfl,rfl⟩⟩) id
def aJW (gN:Nat) (gP:az→Int) (P:Program) (ops:Array Oper) (Q:Exit→Act→World→Prop) (aS:Nat→Nat) (i:Nat) (K:Act→World→Prop) (a:Act) (w0:World):Prop :=
  ∃ o,ops[i]? =some o∧
    ((aS i≤1∧∃ v,wZ gN gP P ops w0 o v a∧K (a.put o.dst v) w0)∨
     (1<aS i∧∀ w,Ext w0 w→wpOp P ops Q i (λ a' w'=>(aS i=2→qK gN gP w0 w')∧K a' w') a w))
def Nl (gN:Nat) (gP:az→Int) (P:Program) (ops:Array Oper) (Q:Exit→Act→World→Prop) (aS:Nat→Nat):Nat→Array Bool→Act→World→Prop
  | 0,l,a,w0=>Region.ready .any ops l= []∧∀ w,Ext w0 w→Q .normal a w
  | f+1,l,a,w0=>(Region.ready .any ops l= []→∀ w,Ext w0 w→Q .normal a w)∧∀ i∈Region.ready .any ops l,aJW gN gP P ops Q aS i (Nl gN gP P ops Q aS f (l.setIfInBounds i true)) a w0
theorem J3:∀ (f:Nat) (l:Array Bool) (a:Act) (w0:World),Nl gN gP P ops Q aS f l a w0→∀ w,Ext w0 w→wpAny P .any ops Q f l a w
  | 0,_,_,_,h,w,hw=>⟨h.1,h.2 w hw⟩
  | f+1,l,a,w0,h,w,hw=>⟨λ aG=>h.1 aG w hw,λ i hi=>by
      obtain ⟨o,bK,τ⟩:=h.2 i hi;rcases τ with ⟨_,v,I,ak⟩ | ⟨_,τ⟩
      · unfold wpOp
        simp only [bK];rcases I with ⟨oN,I⟩ | ⟨oN,rfl⟩
        · rw [aYq oN]
          refine .inl ?_;have I:=I w (qK.a8 hw);unfold Oper.wp;generalize (execOp a.eval o).run P w=r at *
          cases r with
          | ok n w' =>
            cases n<;>simp only [Bu] at I<;>simp only [Oper.upon]
            case value u=>obtain ⟨rfl,rfl⟩:=I;exact J3 f _ _ _ ak _ hw
            case skip=>obtain ⟨rfl,rfl⟩:=I;exact J3 f _ _ _ ak _ hw
            case enter f' args=>obtain ⟨rfl,hc⟩:=I;exact hc.mono λ e lx ⟨he,hx⟩=>by subst he;exact J3 f _ _ _ ak _ (hw.x' hx)
          | halt x w'=>simp only [Bu] at I
        · rw [aYi (by rw [oN];decide)]
          exact J3 f _ _ _ ak _ hw
      · exact baI (λ a' w' au=>J3 f _ _ _ au.2 _ (Ext.cH w')) (τ w hw)⟩
theorem aiH {i:Nat} {eh:Oper} {v:Value} (hi:ops[i]? =some eh) (ak:aS i≤1) (oM:∀ (j:Nat) (o:Oper) cs b,ops[j]? =some o→o.op≠ .select cs b)
    (ji:∀ c a w,¬ Q (.panic c) a w) (aA:World→Act→Prop) (nV:∀ w0 a,aA w0 a→wZ gN gP P ops w0 eh v a)
    (z2:∀ w0 a a',aA w0 a→execOp a'.eval eh=execOp a.eval eh→Region.wanted eh (yielded ops a'.tmps)=Region.wanted eh (yielded ops a.tmps)→aA w0 a')
    (z3:∀ w0 w1 a,qK gN gP w0 w1→aA w0 a→aA w1 a) (R:Nat→Bool) (zk:Array Bool)
    (hR:∀ j dF,ops[j]? =some dF→j≠i→(∀ e∈dF.after,Region.binds .any e=true→R e.on=true)→R j=true)
    (bg:(∀ w0 w1 a,aA w0 a→aA w1 a)∨∀ j,R j=true→3≤aS j→zk.getD j true=true):
    ∀ (f:Nat) (l:Array Bool) (a:Act) (w0:World),(∀ j,l.getD j false=true→R j=true)→(∀ j,zk.getD j true=true→l.getD j true=true)→
      (∀ j dF,ops[j]? =some dF→j≠i→l.getD j true=false→(∀ e∈dF.after,Region.binds .any e=true→e.on≠i)→eh.apart ops dF=true)→
      i∈Region.ready .any ops l→aA w0 a→Nl gN gP P ops Q aS f (l.setIfInBounds i true) (a.put eh.dst v) w0→Nl gN gP P ops Q aS (f+1) l a w0:=by
  intro f;induction f with
  | zero =>
    intro l a w0 _ _ _ hr bc H;refine ⟨λ h=>(by rw [h] at hr;cases hr),λ j ay=> ?_⟩;by_cases iF:j=i
    · subst iF;exact ⟨eh,hi, .inl ⟨ak,v,nV _ _ bc,H⟩⟩
    · have:=baU ay iF
      rw [H.1] at this;cases this
  | succ f bL =>
    intro l a w0 Fw zc Fq hr bc H;refine ⟨λ h=>(by rw [h] at hr;cases hr),λ j ay=> ?_⟩;by_cases iF:j=i
    · subst iF;exact ⟨eh,hi, .inl ⟨ak,v,nV _ _ bc,H⟩⟩
    · obtain ⟨dF,l5,κ⟩:=H.2 j (baU ay iF)
      obtain ⟨za,hD,FC,dM⟩:=bbT.1 ay;obtain rfl:hD=dF:=by rw [l5] at FC;exact (aYd FC).symm
      have OS:∀ e∈hD.after,Region.binds .any e=true→e.on≠i:=λ e he ag heq=>by
        have κ:=dM e he ag;have aG:=(bbT.1 hr).1;rw [heq] at κ;rcases aZc i l.size with dh | dh
        · simp [dh] at aG κ;rw [aG] at κ;cases κ
        · simp [aZg dh] at κ
      have Ov:=Fq j hD l5 iF za OS;obtain ⟨b2,a2,a3⟩:=bcH Ov;have O4:∀ cs b,eh.op≠ .select cs b:=λ cs b=>oM i eh cs b hi;have zg:∀ cs b,hD.op≠ .select cs b:=λ cs b=>oM j hD cs b l5;have keep:∀ w1 a u,aA w1 a→aA w1 (a.put hD.dst u):=λ w1 a u bc=>z2 _ _ _ bc (ba4 eh O4 a hD.dst u a3) (bbd eh a hD.dst u a3);have Fc:R j=true:=hR j hD l5 iF λ e he ag=>Fw _ (dM e he ag);have Fx:∀ k,(l.setIfInBounds j true).getD k false=true→R k=true:=λ k ak=>by
        by_cases hU:j=k
        · rw [← hU];exact Fc
        · rw [baE false hU] at ak;exact Fw k ak
      have Fv:∀ k,zk.getD k true=true→(l.setIfInBounds j true).getD k true=true:=λ k ak=>by
        by_cases hU:j=k
        · subst hU
          rcases aZc j l.size with dh | dh
          · simp [dh]
          · simp [aZg dh]
        · rw [baE true hU];exact zc k ak
      have Fs:∀ k ok,ops[k]? =some ok→k≠i→(l.setIfInBounds j true).getD k true=false→
          (∀ e∈ok.after,Region.binds .any e=true→e.on≠i)→eh.apart ops ok=true:=λ k ok ak q9 FG lp=>by
        refine Fq k ok ak q9 ?_ lp;by_cases hU:j=k
        · subst hU;exact za
        · rw [baE true hU] at FG;exact FG
      have FF:=baU hr (ba7 iF);rcases κ with ⟨zb,u,I,hK⟩ | ⟨zb,κ⟩
      · refine ⟨hD,l5, .inl ⟨zb,u,I.of_same (ba4 hD zg a eh.dst v b2).symm (bbd hD a eh.dst v b2).symm, ?_⟩⟩
        refine bL _ _ _ Fx Fv Fs FF (keep _ _ _ bc) ?_;rw [aZR _ _ iF,← bat a v u a2];exact hK
      · refine ⟨hD,l5, .inr ⟨zb,λ w hw=> ?_⟩⟩
        refine baI (λ a' w' au=>⟨au.2.1, ?_⟩) (ad7 (aA:=aA w0) l5 b2 a2 zg ji (keep w0) (λ a d bc=>z2 _ _ _ bc Z Z) bc (κ w hw));have O7:aA w' a':=by
          rcases aZc (aS j) 3 with bF | tz
          · exact z3 _ _ _ (au.2.1 (by omega)) au.1
          · rcases bg with bg | bg
            · exact bg _ _ _ au.1
            · have:=zc j (bg j Fc tz);rw [za] at this;cases this
        refine bL _ _ _ Fx Fv Fs FF O7 ?_;rw [aZR _ _ iF];exact au.2.2
def Mh (gN:Nat) (gP:az→Int) (P:Program) (ops:Array Oper) (Q:Exit→Act→World→Prop) (aS:Nat→Nat):List Nat→Act→World→Prop
  | [],a,w0=>∀ w,Ext w0 w→Q .normal a w
  | i::r,a,w0=>∃ o,ops[i]? =some o∧
      ((aS i=0∧∃ v,wZ gN gP P ops w0 o v a∧Mh gN gP P ops Q aS r (a.put o.dst v) w0)∨
       (aS i=1∧∃ v,Yields P ops o v a∧Mh gN gP P ops Q aS r (a.put o.dst v) w0)∨
       (1<aS i∧∀ w,Ext w0 w→wpOp P ops Q i (λ a' w'=>(aS i=2→qK gN gP w0 w')∧Mh gN gP P ops Q aS r a' w') a w))
theorem RU (hs:Region.noSelect ops=true) (ji:∀ c a w,¬ Q (.panic c) a w):∀ (r:List Nat) (l:Array Bool) (a:Act) (w0:World),l.size=ops.size→lh ops aS r l=true→Mh gN gP P ops Q aS r a w0→Nl gN gP P ops Q aS r.length l a w0
  | [],l,a,w0,_,bg,h=>⟨by simpa [lh] using bg,h⟩
  | i::r,l,a,w0,ah,bg,h=>by
    obtain ⟨o,bK,h⟩:=h;have oM:=ba5 hs;rcases h with ⟨ak,v,I,hK⟩ | ⟨ak,v,I,hK⟩ | ⟨ak,h⟩
    · simp only [lh,ak,aYl] at bg
      obtain ⟨⟨⟨hf,hr⟩,ag⟩,bg⟩:=bg;obtain ⟨R,r1,r2,wx⟩:=R5 ah ag;exact aiH bK (by omega) oM ji (λ w0 a=>wZ gN gP P ops w0 o v a) (λ _ _ h=>h) (λ _ _ _ h he hw=>h.of_same he hw) (λ _ _ _ hx h=>h.on hx) R l r1 (.inr wx) _ _ _ _ r2 (λ _ h=>h) (aZ3 bK hf) (by simpa using hr) I
        (RU hs ji r _ _ _ (by simpa using ah) bg hK)
    · simp only [lh,ak,aYl] at bg
      obtain ⟨⟨hf,hr⟩,bg⟩:=bg;exact aiH bK (by omega) oM ji (λ _ a=>Yields P ops o v a) (λ _ _ h=>Yields.aIz h) (λ _ _ _ h he hw=>h.of_same he hw) (λ _ _ _ _ h=>h) (λ _=>true) l (λ _ _ _ _ _=>Z) (.inl λ _ _ _ h=>h) _ _ _ _ (λ _ _=>Z) (λ _ h=>h) (aZ3 bK hf) (by simpa using hr) I
        (RU hs ji r _ _ _ (by simpa using ah) bg hK)
    · obtain ⟨k,gC⟩:∃ k,aS i=k+2:=⟨aS i - 2,by omega⟩
      simp only [lh,gC,aYl,aZf] at bg;obtain ⟨hr,bg⟩:=bg;refine ⟨λ aG=>(by rw [hr] at aG;cases aG),λ j ay=> ?_⟩;rw [hr] at ay;obtain rfl:j=i:=by simpa using ay
      exact ⟨o,bK, .inr ⟨ak,λ w hw=>baI (λ a' w' au=>⟨au.1,RU hs ji r _ _ _ (by simpa using ah) bg au.2⟩) (h w hw)⟩⟩
theorem aII {a:Act} {w:World} (bY:List Nat) (hm:P.follows .mixedOrders=true) (bg:(Region.noSelect ops && (bY.length == ops.size) && lh ops aS bY (Array.replicate ops.size false))=true)
    (h:Mh gN gP P ops (ij (Q .normal)) aS bY a w):(Code.region id ops true).wp P Q a w:=by
  simp only [aYl,aZf] at bg;obtain ⟨⟨hs,ah⟩,bg⟩:=bg;refine wp_mono (bb6 hm (Q:=ij (Q .normal)) ?_) (λ e a w I=>by cases e<;>first | exact I | exact I.elim);have:=RU (P:=P) hs (Q:=ij (Q .normal)) (λ _ _ _ h=>h) bY (Array.replicate ops.size false) a w (by simp) bg h;rw [ah] at this;exact J3 _ _ _ _ this _ (aYG _ w).drew
end
section
variable {gN:Nat} {gP:az→Int} {P:Program} {n:Nat} {E cW:List (Nat×Value)} {a:Act} {w w' w0 w1:World} {Q:Exit→Act→World→Prop} {ops:Array Oper} {v:Value} {aS:Nat→Nat}
variable {d:Option Nat} {ty:TypeId} {pos:String} {af:Array Edge} {g:Option (Nat×Bool)} {x y z:Operand} {t:TypeId} {rest:List Oper} {bY:List Nat} {i:Nat}
def Ak (gN:Nat) (gP:az→Int) (P:Program) (n:Nat) (ops:Array Oper) (Q:Exit→Act→World→Prop) (aS:Nat→Nat) (bY:List Nat) (E:List (Nat×Value)) (w0:World):Prop:=∀ a,fj n E a→Mh gN gP P ops (ij (Q .normal)) aS bY a w0
theorem ac3 (gN:Nat) (gP:az→Int) (mz:List (Nat×Nat)) (bY:List Nat) (hm:P.follows .mixedOrders=true) (bg:(Region.noSelect ops && (bY.length == ops.size) && lh ops (oO mz) bY (Array.replicate ops.size false))=true)
    (h:Ak gN gP P n ops Q (oO mz) bY E w):W P n (.region id ops true) Q E w:=λ a ha=>aII bY hm bg (h a ha)
theorem Zy (h:∀ w,Ext w0 w→N n Q E w):Ak gN gP P n ops Q aS [] E w0:=λ a ha w hw=>h w hw a ha
theorem E8 {d:Nat} (hi:ops[i]? =some ⟨some d,op,ty,pos,af,none⟩) (ak:aS i=0) (hr:∀ w,qK gN gP w0 w→c9 P E ⟨some d,op,ty,pos,af,none⟩ w v w) (hd:Nat.blt d n=true)
    (h:Ak gN gP P n ops Q aS bY ((d,v)::E) w0):Ak gN gP P n ops Q aS (i::bY) E w0:=λ a ha =>
  ⟨_,hi, .inl ⟨ak,v, .inl ⟨DR rfl,λ w hw=>by rw [hr w hw n a ha];exact ⟨rfl,rfl⟩⟩,h _ (ha.put hd v)⟩⟩
theorem uN {d:Nat} (hi:ops[i]? =some ⟨some d,op,ty,pos,af,none⟩) (ak:aS i=1) (hr:∀ w,c9 P E ⟨some d,op,ty,pos,af,none⟩ w v w) (hd:Nat.blt d n=true)
    (h:Ak gN gP P n ops Q aS bY ((d,v)::E) w0):Ak gN gP P n ops Q aS (i::bY) E w0:=λ a ha =>
  ⟨_,hi, .inr (.inl ⟨ak,v, .inl ⟨DR rfl,λ w=>hr w n a ha⟩,h _ (ha.put hd v)⟩)⟩
theorem ZF (aN:o.guard=none) (hi:ops[i]? =some o) (ak:aS i=2) (h:∀ w,Ext w0 w→Hk P n ops o E w λ cW w'=>qK gN gP w0 w'∧Ak gN gP P n ops Q aS bY cW w'):Ak gN gP P n ops Q aS (i::bY) E w0:=λ a ha =>
  ⟨_,hi, .inr (.inr ⟨by omega,λ w hw=>LL aN hi (h w hw) (λ cW w' a' ak tr=>⟨λ _=>ak.1,ak.2 a' tr⟩) ha⟩)⟩
theorem Zo (aN:o.guard=none) (hi:ops[i]? =some o) (ak:aS i=3) (h:∀ w,Ext w0 w→Hk P n ops o E w λ cW w'=>Ak gN gP P n ops Q aS bY cW w'):Ak gN gP P n ops Q aS (i::bY) E w0:=λ a ha =>
  ⟨_,hi, .inr (.inr ⟨by omega,λ w hw=>LL aN hi (h w hw) (λ cW w' a' ak tr=>⟨λ τ=>by omega,ak a' tr⟩) ha⟩)⟩
end
end
end Go.Proofs.YtmeeljmapailnaaGreat
