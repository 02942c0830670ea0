import Derived.Test.YtmeeljmapailnaaGreatGooD
import Derived.Deep.DeepCutAuto
set_option linter.unusedVariables false
set_option linter.unusedSimpArgs false
set_option maxRecDepth 100000
set_option maxHeartbeats 4000000
open Go.RowKit
namespace Go.Proofs.YtmeeljmapailnaaGreat
open Tryz
abbrev bah:=@List.cons_append
abbrev bar:=@Bool.eq_iff_iff
section
variable {d:dV} {k:Nat} {t:bj} {b:az} {s:Int}
theorem ahT {W:ai} (hf:W.ao.findIdx? (ig d.bd)=none):W.drop d=none:=by unfold ai.drop;rw [hf]
theorem ahS {W:ai} (hf:W.ao.findIdx? (ig d.bd)=some k) (aH:W.ao[k]? =some t) (ag:W.bf[t.owner.toNat]? =some b) (hs:W.bE[t.owner.toNat]? =some s) (h:(t.load == 0 || !beside b t.spot)=true):W.drop d=none:=by
 rw [drop_eq hf aH ag hs,aYi];intro hc;simp only [aYl,bbU] at hc;simp only [hc.1.2,aYZ,aZf,baK,aY8,baq] at h;exact hc.1.1 h
theorem axy {W:ai} (hf:W.ao.findIdx? (ig d.bd)=some k) (aH:W.ao[k]? =some t) (ag:W.bf[t.owner.toNat]? =some b) (hs:W.bE[t.owner.toNat]? =some s) (ah:¬ t.load=0) (Fl:beside b t.spot=true) (bP:Good W):
  (W.drop d).isSome=decide (0<min t.load (1000000 - s))∧(W.drop d).getD W= {W with bE:=W.bE.set t.owner.toNat (s+min t.load (1000000 - s)),ao:=W.ao.set k (ai.r3 t (-(min t.load (1000000 - s))))}:=by
 have κ:=(bP.ao k t aH).load.1;have τ:=bP.bE _ _ hs;rw [drop_eq hf aH ag hs];by_cases hn:0<min t.load (1000000 - s)
 ·rw [aYq (by simp [ah,Fl,hn])];exact ⟨by simp [hn],rfl⟩
 ·rw [aYi (by simp [hn])];have aG:min t.load (1000000 - s)=0:=by omega
  refine ⟨by simp [hn], ?_⟩;rw [aG];have aW:W.bE.set t.owner.toNat (s+0)=W.bE:=by rw [Int.add_zero];exact aoR hs
  have bb:W.ao.set k (ai.r3 t (-0))=W.ao:=by
   have:ai.r3 t (-0)=t:=by unfold ai.r3;simp
   rw [this];exact aoR aH
  rw [aW,bb];rfl
theorem axv (d:dV) (w:World) (aA S:Nat) (a:ai.b7) (W:ai) (h:m9 w aA S a W) (bP:Good W) (hf:W.ao.findIdx? (ig d.bd)=none):
  Calls prog 106 #[.pointer (bA S), .agg #[Φ d.kind,Φ d.bd,Φ d.spot.x,Φ d.spot.y,Φ d.what]] w (yN W (W.drop d) w aA S a):=by
 have kd:=h.low;have jZ:=h.aZ;have bR:=h.fI;have bq:=h.own;have rf:=apq (a:=a) hf;refine ch (n:=80) func106 Z Z Z ?_;refine dZ Z Z λ l9 Co ow Pv gH=> ?_;have fb:=(Mod.cH (S::bH.cR a) w).trans (Mod.a8 ow);refine aJ Z<|aB Z<|aa (aj AQ Z)<|bk Z gH aT Z<| ?_;have bR:=bR.later ow;have bq:=bq.later ow;refine cM SF Z ((rf ▸ Vr d.bd _ aA S a W ⟨bR,bq,jZ,kd⟩)) λ uf bt=> ?_;have jN:=fb.trans (Mod.a8 bt);refine aJ Z<|av<|av<| ?_;refine cO [(6,0),(14,0),(18,0),(20,0),(24,0),(25,0)] [0,1,2,3,4,5,6,7,8,9,10,11,12,13,14,15,16,17,18,19,20,21,22,23,24,25,26,27] ?_;refine a1 Z Z<|aq Z (λ _=>Sc underlying206 Z Z)<|a1 Z Z<|c0 Z Z<|c0 Z Z<|c0 Z Z<|jh Z Z<|c0 Z Z<|aq Z (λ _=>iK Z Z)<|a1 Z Z<|c0 Z Z<|c0 Z Z<|c0 Z Z<|c0 Z Z<|jh Z Z<|c0 Z Z<|c0 Z Z<|c0 Z Z<|jh Z Z<|c0 Z Z<|jh Z Z<|c0 Z Z<|c0 Z Z<|c0 Z Z<| ?_;refine jh rfl rfl<|ef (v:=undef) (args:= []) rfl rfl rfl rfl rfl rfl SG (λ hc=>nomatch hc) (λ hc=>nomatch hc) rfl<|c0 rfl rfl<|aq rfl (λ _=>iK rfl rfl)<|fn λ zS fi=> ?_;have m3:=jN.trans (Mod.a8 fi);refine aX<|eT Z<|aw<|aY Z<|bD<|b_ Z Z<| ?_;have dA:=(γ bt fi);have bq:=bq.later dA;have bR:=bR.later dA;exact ⟨a,by rw [ahT hf];rfl,by rw [ahT hf];exact ⟨bR,bq,jZ,kd⟩,λ q I=> .inl I,m3⟩
theorem drop2 (d:dV) (w:World) (aA S:Nat) (a:ai.b7) (W:ai) (h:m9 w aA S a W) (bP:Good W) (k:Nat) (t:bj) (hf:W.ao.findIdx? (ig d.bd)=some k) (aH:W.ao[k]? =some t):
  Calls prog 106 #[.pointer (bA S), .agg #[Φ d.kind,Φ d.bd,Φ d.spot.x,Φ d.spot.y,Φ d.what]] w (yN W (W.drop d) w aA S a):=by
 have xG:=bP.sl;have kd:=h.low;have jZ:=h.aZ;have bR:=h.fI;have bq:=h.own;have Ct:∀ q∈bH.cR a,q=S→False:=λ q I ag=>jZ (ag ▸ I);have DH:=bM bq.lt;have rf:=apr bq hf;have cB:=bP.ao k t aH;have how:=cB.owner;obtain ⟨b,ag⟩:=ic (l:=W.bf) (i:=t.owner.toNat) (by omega);obtain ⟨lO,hs⟩:=ic (l:=W.bE) (i:=t.owner.toNat) (by omega);have T6:=bP.bE _ _ hs;have aaw:=bP.bf _ _ ag;obtain ⟨i1,i2,i3,i4,i5,i6⟩:=aL.idx bP.field (aL.lj aaw.1);obtain ⟨uk,QG,Wq,Wr,_,_⟩:=aL.eB bP.field;have dc:0≤b.x:=by omega
 have bI:b.x≤40:=by omega
 have er:0≤b.y:=by omega
 have eg:b.y≤40:=by omega
 have aCy:=cB.load;have aa8:ai.Dv t.kind≤5:=by unfold ai.Dv;split<;>omega
 refine ch (n:=80) func106 Z Z Z ?_;refine dZ Z Z λ l9 Co ow Pv gH=> ?_;have fb:=(Mod.cH (S::bH.cR a) w).trans (Mod.a8 ow);refine aJ Z<|aB Z<|aa (aj AQ Z)<|bk Z gH aT Z<| ?_;have bR:=bR.later ow;have bq:=bq.later ow;refine cM SF Z ((rf ▸ Vr d.bd _ aA S a W ⟨bR,bq,jZ,kd⟩)) λ uf bt=> ?_;have jN:=fb.trans (Mod.a8 bt);refine aJ Z<|av<|av<| ?_;refine cO [(6,0),(14,0),(18,0),(20,0),(24,0),(25,0)] [0,1,2,3,4,5,6,7,8,9,10,11,12,13,14,15,16,17,18,19,20,21,22,23,24,25,26,27] ?_;refine a1 Z Z<|aq Z (λ _=>Sc underlying206 Z Z)<|a1 Z Z<|fy Z Z Z<|b0 Z Z (λ hc _=>bx Z)<|b0 Z Z (λ hc _=>aj CB Z)<| ?_;have bq:=bq.later bt;refine dL Z Z (λ hc _ x=>ax Z (J.aK.lg kC (by rw [← (bq.later x).T.has.bT (aV k (by have:=(aX8.1 aH).1;simpa using this))];exact (bq.later x).T.has) 6 aH Z aT))<|b0 Z Z (λ hc _=>beq Z Z)<|aq Z (λ _=>fR Z Z)<|a1 Z Z<|fy Z Z Z<|b0 Z Z (λ hc _=>bx (gt hc Z))<|b0 Z Z (λ hc _=>aj oH (gt hc Z))<|b0 Z Z (λ hc _=>aj s8 (gt hc Z))<| ?_;have bR:=bR.later bt;refine dL Z Z (λ hc _ x=>ax (gt hc Z) ((bR.later x).one xq Z))<|fy Z Z Z<|b0 Z Z (λ hc _=>bx (gt hc Z))<|b0 Z Z (λ hc _=>aj HM (gt hc Z))<|dL Z Z (λ hc _ x=>ax (gt hc Z) (J.aK.lg kC (by rw [← (bq.later x).T.has.bT (aV k (by have:=(aX8.1 aH).1;simpa using this))];exact (bq.later x).T.has) 1 aH Z aT))<|b0 Z Z (λ hc _=>cl t.owner.toNat underlying25 b3 (gt hc Z) (gt hc Z) (bq.B.has.bT (aV t.owner.toNat (show t.owner.toNat<W.bf.length by omega))) (by (try simp only [bn] at hc);omega) (show t.owner.toNat<W.bf.length by omega))<|dL Z Z (λ hc _ x=>ax (gt hc Z) (J.aK.iu y9 (by rw [← (bq.later x).B.has.bT (aV t.owner.toNat (show t.owner.toNat<W.bf.length by omega))];exact (bq.later x).B.has) ag cA b3))<|fy Z Z Z<|b0 Z Z (λ hc _=>bx (gt hc Z))<|b0 Z Z (λ hc _=>aj vT (gt hc Z))<|dL Z Z (λ hc _ x=>ax (gt hc Z) (J.aK.part kC (by rw [← (bq.later x).T.has.bT (aV k (by have:=(aX8.1 aH).1;simpa using this))];exact (bq.later x).T.has) 3 (ds:= [Φ t.spot.x,Φ t.spot.y]) aH Z cA b3))<|ef Z Z Z Z Z Z SG (λ hc=>gp (gt hc Z) (gp (gt hc Z) Z)) (λ hc _ x=>agr b t.spot _ dc bI er eg) Z<|b0 Z Z (λ hc _=>dJ (gt hc Z))<|aq Z (λ _=>eW Z Z Z Z)<|fn λ zS fi=> ?_;have m3:=jN.trans (Mod.a8 fi);refine aX<| ?_;refine du Z (λ jB=> ?_) (λ jB=> ?_)
 ·refine aw<|aY Z<|bD<|b_ Z Z<| ?_;have bq:=bq.later fi;have bR:=bR.later fi;exact ⟨a,by rw [ahS hf aH ag hs jB];rfl,by rw [ahS hf aH ag hs jB];exact ⟨bR,bq,jZ,kd⟩,λ q I=> .inl I,m3⟩
 ·simp only [aYM,bag,aZP,ne_eq] at jB;obtain ⟨ah,Fl⟩:=jB;have T8:(W.ao.set k (ai.r3 t (-(min t.load (1000000 - lO)))))[k]? =some (ai.r3 t (-(min t.load (1000000 - lO)))):=aYz (aX8.1 aH).1;refine bm<|av<| ?_;refine cO [(3,0),(8,0),(12,0),(14,0)] [0,1,2,3,4,5,6,7,8,9,10,11,12,13,14,15,16,17] ?_;refine a1 Z Z<|aq Z (λ _=>bx Z)<|aq Z (λ _=>aj CB Z)<| ?_;have bq:=bq.later fi;refine dT Z (λ _ x=>ax Z (J.aK.lg kC (by rw [← (bq.later x).T.has.bT (aV k (by have:=(aX8.1 aH).1;simpa using this))];exact (bq.later x).T.has) 6 aH Z aT))<|a1 Z Z<|aq Z (λ _=>bx Z)<|aq Z (λ _=>aj oH Z)<|aq Z (λ _=>aj vU Z)<| ?_;have bR:=bR.later fi;refine cf Z Z bR c8 Z<|a1 Z Z<|aq Z (λ _=>bx Z)<|aq Z (λ _=>aj HM Z)<|dT Z (λ _ x=>ax Z (J.aK.lg kC (by rw [← (bq.later x).T.has.bT (aV k (by have:=(aX8.1 aH).1;simpa using this))];exact (bq.later x).T.has) 1 aH Z aT))<|aq Z (λ _=>cl t.owner.toNat underlying22 dg Z Z (bq.S.has.bT (aV t.owner.toNat (show t.owner.toNat<W.bE.length by omega))) (by omega) (show t.owner.toNat<W.bE.length by omega))<|dT Z (λ _ x=>ax Z (J.aK.fh fY (by rw [← (bq.later x).S.has.bT (aV t.owner.toNat (show t.owner.toNat<W.bE.length by omega))];exact (bq.later x).S.has) hs Z aT))<|aq Z (λ _=>kx Z Z gD)<|aq Z (λ _=>nk Z Z)<|aq Z (λ _=>ee Z)<|fn λ wD cr=> ?_;have jq:=m3.trans (Mod.a8 cr);refine aX<|aB Z<|aa (bx Z)<|aa (aj CB Z)<| ?_;have bq:=bq.later cr;refine aa (ax Z (J.aK.lg kC (by rw [← bq.T.has.bT (aV k (by have:=(aX8.1 aH).1;simpa using this))];exact bq.T.has) 6 aH Z aT))<|vm Z<|aa (kx Z Z gD)<|aa (bx Z)<|aa (aj CB Z)<|so (q':=ai.r3 t (-(min t.load (1000000 - lO)))) (j:=6) (i:=k) bq.T J.dQ aH Z Z Z Z (λ _ cs h=>by have rz:=(show _∧_ from h).2;obtain rfl:=kC h;exact ⟨rfl,by obtain ⟨qm,nn,oX,pA,ry,Lr,PO⟩:=rz;exact ⟨qm,nn,oX,pA,ry,Lr,b8.2 (by show _≤t.load+ -(min t.load (1000000 - lO))∧t.load+ -(min t.load (1000000 - lO))≤_;omega)⟩⟩) Z Z dg λ Gr pw atc=> ?_;have bR:=bR.later cr;have gH:=gH.later (γ bt (γ fi cr));have mF:=jq.md pw (λ q I=> .inl (aYm _ (s_ I)));have An:=bq.aoQ pw atc;have awS:∀ q∈J.ab a.T,q=S→False:=λ q I ag=>by (exact Ct q (s_ I) ag)
  have bR:=bR.mod pw (λ I=>awS _ I rfl);refine aC<|av<| ?_;refine cO [(4,0),(8,0),(10,0),(14,3)] [0,1,2,3,4,5,6,7,8,9,10,11,12,13,14] ?_;refine a1 Z Z<|aq Z (λ _=>bx Z)<|aq Z (λ _=>aj oH Z)<|aq Z (λ _=>aj vU Z)<|cf Z Z bR c8 Z<|a1 Z Z<|aq Z (λ _=>bx Z)<|aq Z (λ _=>aj HM Z)<|ZB (v:=Φ t.owner) Z Z (λ _ x=>ax Z (J.aK.lg kC (by rw [← (An.later x).T.has.bT (aV k (by have:=(aX8.1 aH).1;simpa using this))];exact (An.later x).T.has) 1 T8 Z aT)) Z<|aq Z (λ _=>cl t.owner.toNat underlying22 dg Z Z (An.S.has.bT (aV t.owner.toNat (show t.owner.toNat<W.bE.length by omega))) (by omega) (show t.owner.toNat<W.bE.length by omega))<|dT Z (λ _ x=>ax Z (J.aK.fh fY (by rw [← (An.later x).S.has.bT (aV t.owner.toNat (show t.owner.toNat<W.bE.length by omega))];exact (An.later x).S.has) hs Z aT))<|a1 Z Z<|aq Z (λ _=>bad Z Z gD)<|aq Z (λ _=>cl t.owner.toNat underlying22 dg Z Z (An.S.has.bT (aV t.owner.toNat (show t.owner.toNat<W.bE.length by omega))) (by omega) (show t.owner.toNat<W.bE.length by omega))<|dE Z Z Z λ DK l' Q hK=>so (q':=lO+min t.load (1000000 - lO)) (j:=0) (i:=t.owner.toNat) (An.later l').S J.dQ hs Z Z Z Z (λ _ cs h=>by have rz:=(show _∧_ from h).2;obtain rfl:=fY h;exact ⟨rfl,b8.2 (by omega)⟩) Z Z dg λ zU sw atf=>hK _ _ ?_;have rM:=mF.trans (Mod.a8 l');have An:=An.later l';have bR:=bR.later l';have awU:∀ q∈J.ab a.T,q=Co→False:=λ q I ag=>by (have:=DH q (s_ I);omega)
  have gH:=(gH.mod pw (λ I=>awU _ I rfl)).later l';have k4:=rM.md sw (λ q I=> .inl (aYm _ (HO I)));have Xd:=An.aoP sw atf;have Cw:∀ q∈J.ab a.S,q=S→False:=λ q I ag=>by (exact Ct q (HO I) ag)
  have bR:=bR.mod sw (λ I=>Cw _ I rfl);refine fn λ vk eL=> ?_;have jr:=k4.trans (Mod.a8 eL);refine aX<|aB Z<|aa (gO Z Z)<|aY Z<|b_ Z Z<| ?_;have Xd:=Xd.later eL;have bR:=bR.later eL;obtain ⟨aW,bb⟩:=axy hf aH ag hs ah Fl bP;exact ⟨a,by rw [aW];rfl,by rw [bb];exact ⟨by simpa [ai.cells] using bR,Xd,jZ,kd⟩,λ q I=> .inl I,jr⟩
end
theorem az0 (t:bj) (p:az) (g:Nat) (w:World) (aN:w.cell? ⟨g,0,none⟩=some (.int .i64 p.x)∧w.cell? ⟨g,1,none⟩=some (.int .i64 p.y)):
  Calls prog 175 #[.agg #[.int .i64 t.id, .int .i64 t.owner, .int .i64 t.kind, .int .i64 t.spot.x, .int .i64 t.spot.y, .int .i64 t.dW, .int .i64 t.load], .pointer (some ⟨g,0,none⟩)] w λ e w'=>e= .returned (.bool (si p t))∧Below w.heap.size w w':=by
 have ag:=mN w (.cells #[.int .i64 t.id, .int .i64 t.owner, .int .i64 t.kind, .int .i64 t.spot.x, .int .i64 t.spot.y, .int .i64 t.dW, .int .i64 t.load] 57);obtain ⟨aN,aaP⟩:=aN;have bF:=baj w _ aN;simp only at bF;by_cases h:t.spot=p
 ·have hr:si p t=true:=by unfold si;simp [h]
  rw [hr];subst h;clear hr;go_enter func175,ntmps175;go_wp2_with fail
  go_ret;exact ⟨Z,ag⟩
 ·have hr:si p t=false:=by unfold si;simp [h]
  have fZ:(t.spot.x == p.x)=false∨((t.spot.x == p.x)=true∧(t.spot.y == p.y)=false):=by
   obtain ⟨_,_,_,⟨a,b⟩,_,_⟩:=t;obtain ⟨c,d⟩:=p;simp at h ⊢;omega
  rw [hr];clear hr h;rcases fZ with κ | ⟨κ,τ⟩
  all_goals
   go_enter func175,ntmps175;go_wp2_with fail
   go_ret;exact ⟨iX (by simp_all),ag⟩
theorem aD9 (p:az) (g:Nat) (A:Option Addr) (c:Nat) (l:List bj) (w:World) (ah:bj.rep.aK 56 w A c l) (aN:w.cell? ⟨g,0,none⟩=some (.int .i64 p.x)∧w.cell? ⟨g,1,none⟩=some (.int .i64 p.y)):
  Calls prog 172 #[.slice A l.length c, .func (.func 175) #[] #[.pointer (some ⟨g,0,none⟩)]] w λ e w'=>e= .returned (.int .i64 (gY (si p) l))∧Below w.heap.size w w':=by
 obtain ⟨n,hn⟩:∃ n,l.length=n:=⟨_,rfl⟩;have hle:n≤9223372036854775807:=by have:=ah.1;have:=ah.2.1;omega
 rw [hn];have rX:=aYe ah;have fr:=aYe hn;clear ah hn;go_enter func172,ntmps172;go_wp2_with fail
 go_loopw [5,8] (λ _ ih wr=>∃ k:Nat,k≤n∧ih= .int .i64 (k:Int)∧Hid (∀ j (ay:j<k) (tB:j<l.length),(si p) l[j]=false)∧Below w.heap.size w wr) (λ _ ih _=>n - (intOf ih).toNat)
 case atStart=>exact ⟨0,aYX _,rfl,(λ j ay=>by omega),aYG _ _⟩
 case round =>
  obtain ⟨k,ak,rfl,iQ,ag⟩:=hrel;by_cases bF:k<n
  ·have j0:k<l.length:=by rw [fr.out];exact bF
   obtain ⟨b,o,rfl,kD⟩:=bj.at_ (rX.out.keep ag) (by omega);obtain ⟨x,tG⟩:∃ x,l[k]'j0=x:=⟨_,rfl⟩;obtain ⟨wv,lM,nt,Bt,U',acS,aog⟩:=kD k x (by rw [aYb j0,tG]);have yD:=aYe tG;have aaO:wr.cell? ⟨g,0,none⟩=some (.int .i64 p.x)∧wr.cell? ⟨g,1,none⟩=some (.int .i64 p.y):=⟨cell_later ag aN.1,cell_later ag aN.2⟩;have hc:=az0 x p g wr aaO;clear kD tG;cases kB:(si p) x with
   | true =>
    have my:gY (si p) l=(k:Int):=Ir j0 (by rw [yD.out];exact kB) λ j ay=>iQ.out j ay (by omega);rw [kB] at hc;have sS:=aYe my;clear my kB;go_wp2_with (go_at_call 175;refine hc.mono ?_;rintro e w' ⟨rfl,bI⟩)
    go_ret;exact ⟨by rw [sS.out];rfl,ag.trans (bI.mono ag.size)⟩
   | false =>
    rw [kB] at hc;have qF:Hid (∀ j (ay:j<k+1) (tB:j<l.length),(si p) l[j]=false):=by
     intro j ay tB;by_cases h:j<k
     ·exact iQ.out j h tB
     ·obtain rfl:j=k:=by omega
      rw [yD.out];exact kB
    clear kB;go_wp2_with (go_at_call 175;refine hc.mono ?_;rintro e w' ⟨rfl,bI⟩)
    go_roundw
    case rel=>exact ⟨k+1,by omega,by go_num,qF,ag.trans (bI.mono ag.size)⟩
    case measure=>simp [intOf];omega
  ·have my:gY (si p) l= -1:=Iq λ j ay=>iQ.out j (by have:=fr.out;omega) ay;have sS:=aYe my;clear my;go_wp2_with fail
   go_ret;exact ⟨by rw [sS.out];rfl,ag⟩
theorem aBw (p:az) (g:Nat) (A:Option Addr) (c:Nat) (l:List bj) (w:World) (ah:bj.rep.aK 56 w A c l) (aN:w.cell? ⟨g,0,none⟩=some (.int .i64 p.x)∧w.cell? ⟨g,1,none⟩=some (.int .i64 p.y)):
  Calls prog 174 #[.slice A l.length c, .func (.func 175) #[] #[.pointer (some ⟨g,0,none⟩)]] w λ e w'=>e= .returned (.bool (l.any (si p)))∧Below w.heap.size w w':=by
 have hc:=aD9 p g A c l w ah aN;rw [← K6];generalize gY (si p) l=r at *
 generalize l.length=n at *
 clear ah aN;go_enter func174,ntmps174;go_wp2_with (go_at_call 172;refine hc.mono ?_;rintro e w' ⟨rfl,bI⟩)
 go_ret;exact ⟨Z,bI⟩
section
variable {p:az}
theorem B1:ez prog az.rep 25 55 16:=ez.ki (z:=az.zero) (k:=2) underlying25 az.info rfl rfl (by decide) az.j8
theorem anT {W:ai} {c:az} (h:W.field.a7=0):((W.field.et c == 0 && W.field.oE c != 1) && !W.ao.any (si c))=W.F1 c:=by
 unfold ai.F1 aL.ground;cases hi:W.field.fP c with
 | false=>rw [(aL.Np h hi).1];rfl
 | true=>rw [(aL.n8 h hi).1,(aL.n8 h hi).2];rfl
theorem ZR {α:Type} {l:List α} {j:Nat} {u:α} (h:j<l.length):l.getD j u=l[j]:=by rw [aX7,aYb h];rfl
theorem az4 {W:ai} {k:Nat} (ak:k<10) (lp:∀ j,j<k→W.F1 ((ai.around p).getD j default)=false) (h:W.F1 ((ai.around p).getD k default)=true):W.free p=some ((ai.around p).getD k default):=by
 have ah:(ai.around p).length=10:=rfl;unfold ai.free;rw [baZ];refine ⟨h,k,by omega,(ZR (by omega)).symm,λ j ay=> ?_⟩;have:=lp j ay;rw [ZR (by omega)] at this;simp [this]
theorem az3 {W:ai} (lp:∀ j,j<10→W.F1 ((ai.around p).getD j default)=false):W.free p=none:=by
 have ah:(ai.around p).length=10:=rfl;unfold ai.free;rw [aZH];intro x hx;obtain ⟨j,ay,rfl⟩:=aY9.1 hx;have:=lp j (by omega);rw [ZR ay] at this;simp [this]
theorem az1 (p:az) (w:World) (aA S:Nat) (a:ai.b7) (W:ai) (h:m9 w aA S a W) (bP:Good W) (hp:0≤p.x∧p.x≤100∧0≤p.y∧p.y≤100):
  Calls prog 144 #[.pointer (bA S), .agg #[Φ p.x,Φ p.y]] w (λ e w'=>e= .returned (.tuple #[.agg (((W.free p).getD ⟨0,0⟩).cells).toArray, .bool (W.free p).isSome])∧Ext w w'):=by
 have bR:=h.fI;have wv:=h.fI.lt;have sT:=h.own.T.has;have Cb:=h.own.P.has;refine ch (n:=70) func144 Z Z Z ?_;refine dZ Z Z λ cG bB aR d' ae=> ?_;have hE:=ae.lt;refine cU yZ Z λ eC cJ bt hP ar=> ?_;have bO:=γ aR bt;have mB:=ar.lt;refine aJ Z<|aw<| ?_;have ae:=ae.later bt;refine aa (ax Z (ae.all cA b3))<|c7 (e:= 55) (cs:= [Φ p.x,Φ p.y]) Z (λ _=>by kernel_rfl) Z λ hG jf cr rm br=> ?_;have c6:=γ bO cr;have xX:=br.lt;refine aJ Z<|av<|aw<|aJ Z<|bJ<|uW 4<|kg<|av<|aB Z<|aa (ble Z Z)<|aC<|eT Z<|bm<|av<|bJ<| ?_;refine aw<|aJ Z<|bJ<|uW 4<|kg<|av<|aB Z<|aa (ble Z Z)<|aC<|eT Z<|bm<|av<|bJ<|rg<|vm Z<|aa (aj jW Z)<| ?_;have ae:=ae.later cr;refine bk Z ae aT Z<|vm Z<|gx Z Z<|aa (aj jX Z)<|bk Z ae aT Z<|vm Z<|gx Z Z<|aa (v:= .agg #[Φ (p.x+(-1)),Φ (p.y+(-1))]) (eu Z)<|c7 (e:= 55) (cs:= [Φ (p.x+(-1)),Φ (p.y+(-1))]) Z (λ _=>by kernel_rfl) Z λ nR Nq ey abO uu=> ?_;have eZ:=γ c6 ey;have Va:=uu.lt;have br:=br.later ey;have afS:=aM.xW (R:=az.rep) (by_:=16) (B:=w.heap.size) (k:= [p]) br [[Φ p.x,Φ p.y]] rfl (⟨⟨rfl,⟨cN,cN⟩⟩,trivial⟩) (by simp) (by simp) (by decide) (by omega);have ab0:∀ q∈J.ab (bA jf),jf≤q:=λ q I=>aZQ (aYf.1 I).symm;refine ap B1 J.dQ afS (aM.gu (R:=az.rep) (by_:=16) (q:=(⟨p.x+(-1),p.y+(-1)⟩:az)) uu ⟨Z,⟨cN,cN⟩⟩ (by decide)) Z Z (by first | (simp<;>omega) | omega) (by first | (simp<;>omega) | omega) eZ.size Z λ zV WN aQm px RI ZK aU4=> ?_;have:=px.size;have mG:=Ext.mod eZ px (λ q I=>(afS.lt q I).1);refine va Z<|nl<|b1<|aX<|rg<|vm Z<|aa (qN (r:=0) Z Z (by decide) (by decide))<|va Z<|nl<|rv<|kg<|av<|aB Z<|aa (ble Z Z)<|aC<|eT Z<|bm<|av<|bJ<|rg<| ?_;refine vm Z<|aa (aj jW Z)<| ?_;have ae:=ae.later ey;have Ka:∀ q∈J.ab (bA jf),q=bB→False:=λ q I ag=>by (have:=ab0 q I;omega)
 have ae:=ae.mod px (λ I=>Ka _ I rfl);refine bk Z ae aT Z<|vm Z<|gx Z Z<|aa (aj jX Z)<|bk Z ae aT Z<|vm Z<|gx Z Z<|aa (v:= .agg #[Φ (p.x+0),Φ (p.y+(-1))]) (eu Z)<|c7 (e:= 55) (cs:= [Φ (p.x+0),Φ (p.y+(-1))]) Z (λ _=>by kernel_rfl) Z λ wH vJ k0 aE9 JG=> ?_;have j6:=γ mG k0;have aWj:=JG.lt;have RI:=RI.later k0;refine ap B1 J.dQ RI (aM.gu (R:=az.rep) (by_:=16) (q:=(⟨p.x+0,p.y+(-1)⟩:az)) JG ⟨Z,⟨cN,cN⟩⟩ (by decide)) Z Z (by first | (simp<;>omega) | omega) (by first | (simp<;>omega) | omega) j6.size Z λ wI WO agI iw JZ ZM aVa=> ?_;have:=iw.size;have kt:=Ext.mod j6 iw (λ q I=>(RI.lt q I).1);refine va Z<|nl<|b1<|aX<|rg<|vm Z<|aa (qN (r:=1) Z Z (by decide) (by decide))<|va Z<|nl<|rv<|kg<|av<|aB Z<|aa (ble Z Z)<|aC<|eT Z<|bm<|av<|bJ<|rg<| ?_;refine vm Z<|aa (aj jW Z)<| ?_;have ae:=ae.later k0;have pa:∀ q∈J.ab WN,q=bB→False:=λ q I ag=>by (exact aYC (ZK q I) (λ amk=>by (exact Ka q amk ag)) (λ amk=>by omega))
 have ae:=ae.mod iw (λ I=>pa _ I rfl);refine bk Z ae aT Z<|vm Z<|gx Z Z<|aa (aj jX Z)<|bk Z ae aT Z<|vm Z<|gx Z Z<|aa (v:= .agg #[Φ (p.x+1),Φ (p.y+(-1))]) (eu Z)<|c7 (e:= 55) (cs:= [Φ (p.x+1),Φ (p.y+(-1))]) Z (λ _=>by kernel_rfl) Z λ Gu auJ k1 aFb Ee=> ?_;have pS:=γ kt k1;have aoj:=Ee.lt;have JZ:=JZ.later k1;refine ap B1 J.dQ JZ (aM.gu (R:=az.rep) (by_:=16) (q:=(⟨p.x+1,p.y+(-1)⟩:az)) Ee ⟨Z,⟨cN,cN⟩⟩ (by decide)) Z Z (by first | (simp<;>omega) | omega) (by first | (simp<;>omega) | omega) pS.size Z λ V3 Mr Sg kY RL ZN aVd=> ?_;have:=kY.size;have yo:=Ext.mod pS kY (λ q I=>(JZ.lt q I).1);refine va Z<|nl<|b1<|aX<|rg<|vm Z<|aa (qN (r:=2) Z Z (by decide) (by decide))<|va Z<|nl<|rv<|kg<|av<|aB Z<|aa (ble Z Z)<|aC<|gj Z<|dn<|dk<|dG<|dj<|b1<| ?_;refine aX<|rg<|vm Z<|aa (qN (r:=0) Z Z (by decide) (by decide))<|va Z<|nl<|rv<|kg<|av<|aB Z<|aa (ble Z Z)<|aC<|eT Z<|bm<|av<|bJ<|aw<|va Z<|nl<| ?_;refine aX<|bJ<|uW 4<|kg<|av<|aB Z<|aa (ble Z Z)<|aC<|eT Z<|bm<|av<|bJ<|rg<|vm Z<|aa (aj jW Z)<| ?_;have ae:=ae.later k1;have ahy:∀ q∈J.ab WO,q=bB→False:=λ q I ag=>by (exact aYC (ZM q I) (λ Ps=>by (exact pa q Ps ag)) (λ Ps=>by omega))
 have ae:=ae.mod kY (λ I=>ahy _ I rfl);refine bk Z ae aT Z<|vm Z<|gx Z Z<|aa (aj jX Z)<|bk Z ae aT Z<|vm Z<|gx Z Z<|aa (v:= .agg #[Φ (p.x+(-1)),Φ (p.y+0)]) (eu Z)<|c7 (e:= 55) (cs:= [Φ (p.x+(-1)),Φ (p.y+0)]) Z (λ _=>by kernel_rfl) Z λ V4 aPS vu aT6 afe=> ?_;have ur:=γ yo vu;have aWA:=afe.lt;have RL:=RL.later vu;refine ap B1 J.dQ RL (aM.gu (R:=az.rep) (by_:=16) (q:=(⟨p.x+(-1),p.y+0⟩:az)) afe ⟨Z,⟨cN,cN⟩⟩ (by decide)) Z Z (by first | (simp<;>omega) | omega) (by first | (simp<;>omega) | omega) ur.size Z λ V6 WT aQn xR RN ZO aVg=> ?_;have:=xR.size;have D9:=Ext.mod ur xR (λ q I=>(RL.lt q I).1);refine va Z<|nl<|b1<|aX<|rg<|vm Z<|aa (qN (r:=0) Z Z (by decide) (by decide))<|va Z<|nl<|rv<|kg<|av<|aB Z<|aa (ble Z Z)<|aC<|eT Z<|bm<|av<|bJ<|rg<| ?_;refine vm Z<|aa (aj jW Z)<| ?_;have ae:=ae.later vu;have Ke:∀ q∈J.ab Mr,q=bB→False:=λ q I ag=>by (exact aYC (ZN q I) (λ amq=>by (exact ahy q amq ag)) (λ amq=>by omega))
 have ae:=ae.mod xR (λ I=>Ke _ I rfl);refine bk Z ae aT Z<|vm Z<|gx Z Z<|aa (aj jX Z)<|bk Z ae aT Z<|vm Z<|gx Z Z<|aa (v:= .agg #[Φ (p.x+0),Φ (p.y+0)]) (eu Z)<|c7 (e:= 55) (cs:= [Φ (p.x+0),Φ (p.y+0)]) Z (λ _=>by kernel_rfl) Z λ apU aPd BJ aTi aeR=> ?_;have Mj:=γ D9 BJ;have aVB:=aeR.lt;have RN:=RN.later BJ;refine ap B1 J.dQ RN (aM.gu (R:=az.rep) (by_:=16) (q:=(⟨p.x+0,p.y+0⟩:az)) aeR ⟨Z,⟨cN,cN⟩⟩ (by decide)) Z Z (by first | (simp<;>omega) | omega) (by first | (simp<;>omega) | omega) Mj.size Z λ VV WH aQi pq EC ZG aUG=> ?_;have:=pq.size;have BN:=Ext.mod Mj pq (λ q I=>(RN.lt q I).1);refine va Z<|nl<|b1<|aX<|rg<|vm Z<|aa (qN (r:=1) Z Z (by decide) (by decide))<|va Z<|nl<|rv<|kg<|av<|aB Z<|aa (ble Z Z)<|aC<|eT Z<|bm<|av<|bJ<|rg<| ?_;refine vm Z<|aa (aj jW Z)<| ?_;have ae:=ae.later BJ;have NF:∀ q∈J.ab WT,q=bB→False:=λ q I ag=>by (exact aYC (ZO q I) (λ Pe=>by (exact Ke q Pe ag)) (λ Pe=>by omega))
 have ae:=ae.mod pq (λ I=>NF _ I rfl);refine bk Z ae aT Z<|vm Z<|gx Z Z<|aa (aj jX Z)<|bk Z ae aT Z<|vm Z<|gx Z Z<|aa (v:= .agg #[Φ (p.x+1),Φ (p.y+0)]) (eu Z)<|c7 (e:= 55) (cs:= [Φ (p.x+1),Φ (p.y+0)]) Z (λ _=>by kernel_rfl) Z λ VW aPh Qx aTo aeU=> ?_;have vv:=γ BN Qx;have aVI:=aeU.lt;have EC:=EC.later Qx;refine ap B1 J.dQ EC (aM.gu (R:=az.rep) (by_:=16) (q:=(⟨p.x+1,p.y+0⟩:az)) aeU ⟨Z,⟨cN,cN⟩⟩ (by decide)) Z Z (by first | (simp<;>omega) | omega) (by first | (simp<;>omega) | omega) vv.size Z λ aLu WI aQj PF RA ZH aUK=> ?_;have:=PF.size;have aen:=Ext.mod vv PF (λ q I=>(EC.lt q I).1);refine va Z<|nl<|b1<|aX<|rg<|vm Z<|aa (qN (r:=2) Z Z (by decide) (by decide))<|va Z<|nl<|rv<|kg<|av<|aB Z<|aa (ble Z Z)<|aC<|gj Z<|dn<|dk<|dG<|dj<|b1<| ?_;refine aX<|rg<|vm Z<|aa (qN (r:=1) Z Z (by decide) (by decide))<|va Z<|nl<|rv<|kg<|av<|aB Z<|aa (ble Z Z)<|aC<|eT Z<|bm<|av<|bJ<|aw<|va Z<|nl<| ?_;refine aX<|bJ<|uW 4<|kg<|av<|aB Z<|aa (ble Z Z)<|aC<|eT Z<|bm<|av<|bJ<|rg<|vm Z<|aa (aj jW Z)<| ?_;have ae:=ae.later Qx;have ag6:∀ q∈J.ab WH,q=bB→False:=λ q I ag=>by (exact aYC (ZG q I) (λ Pf=>by (exact NF q Pf ag)) (λ Pf=>by omega))
 have ae:=ae.mod PF (λ I=>ag6 _ I rfl);refine bk Z ae aT Z<|vm Z<|gx Z Z<|aa (aj jX Z)<|bk Z ae aT Z<|vm Z<|gx Z Z<|aa (v:= .agg #[Φ (p.x+(-1)),Φ (p.y+1)]) (eu Z)<|c7 (e:= 55) (cs:= [Φ (p.x+(-1)),Φ (p.y+1)]) Z (λ _=>by kernel_rfl) Z λ aXj aPn Qy aTv aeZ=> ?_;have aqw:=γ aen Qy;have aVP:=aeZ.lt;have RA:=RA.later Qy;refine ap B1 J.dQ RA (aM.gu (R:=az.rep) (by_:=16) (q:=(⟨p.x+(-1),p.y+1⟩:az)) aeZ ⟨Z,⟨cN,cN⟩⟩ (by decide)) Z Z (by first | (simp<;>omega) | omega) (by first | (simp<;>omega) | omega) aqw.size Z λ aXl WJ aQk PH RB ZI aUO=> ?_;have:=PH.size;have aME:=Ext.mod aqw PH (λ q I=>(RA.lt q I).1);refine va Z<|nl<|b1<|aX<|rg<|vm Z<|aa (qN (r:=0) Z Z (by decide) (by decide))<|va Z<|nl<|rv<|kg<|av<|aB Z<|aa (ble Z Z)<|aC<|eT Z<|bm<|av<|bJ<|rg<| ?_;refine vm Z<|aa (aj jW Z)<| ?_;have ae:=ae.later Qy;have ag7:∀ q∈J.ab WI,q=bB→False:=λ q I ag=>by (exact aYC (ZH q I) (λ FJ=>by (exact ag6 q FJ ag)) (λ FJ=>by omega))
 have ae:=ae.mod PH (λ I=>ag7 _ I rfl);refine bk Z ae aT Z<|vm Z<|gx Z Z<|aa (aj jX Z)<|bk Z ae aT Z<|vm Z<|gx Z Z<|aa (v:= .agg #[Φ (p.x+0),Φ (p.y+1)]) (eu Z)<|c7 (e:= 55) (cs:= [Φ (p.x+0),Φ (p.y+1)]) Z (λ _=>by kernel_rfl) Z λ aLA aPr QB aTz ae2=> ?_;have Ww:=γ aME QB;have aVU:=ae2.lt;have RB:=RB.later QB;refine ap B1 J.dQ RB (aM.gu (R:=az.rep) (by_:=16) (q:=(⟨p.x+0,p.y+1⟩:az)) ae2 ⟨Z,⟨cN,cN⟩⟩ (by decide)) Z Z (by first | (simp<;>omega) | omega) (by first | (simp<;>omega) | omega) Ww.size Z λ aLC aeK aQl Dn RF aiY aUT=> ?_;have aeu:=Ext.mod Ww Dn (λ q I=>(RB.lt q I).1);refine va Z<|nl<|b1<|aX<|rg<|vm Z<|aa (qN (r:=1) Z Z (by decide) (by decide))<|va Z<|nl<|rv<|kg<|av<|aB Z<|aa (ble Z Z)<|aC<|eT Z<|bm<|av<|bJ<|rg<| ?_;refine vm Z<|aa (aj jW Z)<| ?_;have ae:=ae.later QB;have Sw:∀ q∈J.ab WJ,q=bB→False:=λ q I ag=>by (exact aYC (ZI q I) (λ FK=>by (exact ag7 q FK ag)) (λ FK=>by omega))
 have ae:=ae.mod Dn (λ I=>Sw _ I rfl);refine bk Z ae aT Z<|vm Z<|gx Z Z<|aa (aj jX Z)<|bk Z ae aT Z<|vm Z<|gx Z Z<|aa (v:= .agg #[Φ (p.x+1),Φ (p.y+1)]) (eu Z)<|c7 (e:= 55) (cs:= [Φ (p.x+1),Φ (p.y+1)]) Z (λ _=>by kernel_rfl) Z λ aXw aPv Wp aTD arA=> ?_;have aqx:=γ aeu Wp;have RF:=RF.later Wp;refine ap B1 J.dQ RF (aM.gu (R:=az.rep) (by_:=16) (q:=(⟨p.x+1,p.y+1⟩:az)) arA ⟨Z,⟨cN,cN⟩⟩ (by decide)) Z Z (by first | (simp<;>omega) | omega) (by first | (simp<;>omega) | omega) aqx.size Z λ aXy WK agE ab5 Aw aQ9 aUW=> ?_;have aMQ:=Ext.mod aqx ab5 (λ q I=>(RF.lt q I).1);refine va Z<|nl<|b1<|aX<|rg<|vm Z<|aa (qN (r:=2) Z Z (by decide) (by decide))<|va Z<|nl<|rv<|kg<|av<|aB Z<|aa (ble Z Z)<|aC<|gj Z<|dn<|dk<|dG<|dj<|b1<| ?_;refine aX<|rg<|vm Z<|aa (qN (r:=2) Z Z (by decide) (by decide))<|va Z<|nl<|rv<|kg<|av<|aB Z<|aa (ble Z Z)<|aC<|gj Z<|dn<|dk<|dG<|dj<|aX<|av<|aw<| ?_;refine vm Z<|aa (b5 underlying25 Z)<|vm Z<|aC<|bJ<| ?_;have dY: [p]++ [(⟨p.x+(-1),p.y+(-1)⟩:az)]++ [(⟨p.x+0,p.y+(-1)⟩:az)]++ [(⟨p.x+1,p.y+(-1)⟩:az)]++ [(⟨p.x+(-1),p.y+0⟩:az)]++ [(⟨p.x+0,p.y+0⟩:az)]++ [(⟨p.x+1,p.y+0⟩:az)]++ [(⟨p.x+(-1),p.y+1⟩:az)]++ [(⟨p.x+0,p.y+1⟩:az)]++ [(⟨p.x+1,p.y+1⟩:az)]=(ai.around p):=by simp [ai.around,Int.sub_eq_add_neg]
 rw [dY] at Aw;have bR:=bR.later (γ aR (γ bt (γ cr ey)));have ahe:∀ q∈J.ab (bA jf),q=S→False:=λ q I ag=>by (have:=ab0 q I;omega)
 have bR:=(bR.mod px (λ I=>ahe _ I rfl)).later k0;have ahf:∀ q∈J.ab WN,q=S→False:=λ q I ag=>by (exact aYC (ZK q I) (λ alO=>by (exact ahe q alO ag)) (λ alO=>by omega))
 have bR:=(bR.mod iw (λ I=>ahf _ I rfl)).later k1;have ahg:∀ q∈J.ab WO,q=S→False:=λ q I ag=>by (exact aYC (ZM q I) (λ alP=>by (exact ahf q alP ag)) (λ alP=>by omega))
 have bR:=(bR.mod kY (λ I=>ahg _ I rfl)).later vu;have ahh:∀ q∈J.ab Mr,q=S→False:=λ q I ag=>by (exact aYC (ZN q I) (λ alQ=>by (exact ahg q alQ ag)) (λ alQ=>by omega))
 have bR:=(bR.mod xR (λ I=>ahh _ I rfl)).later BJ;have ahj:∀ q∈J.ab WT,q=S→False:=λ q I ag=>by (exact aYC (ZO q I) (λ alR=>by (exact ahh q alR ag)) (λ alR=>by omega))
 have bR:=(bR.mod pq (λ I=>ahj _ I rfl)).later Qx;have ahk:∀ q∈J.ab WH,q=S→False:=λ q I ag=>by (exact aYC (ZG q I) (λ alS=>by (exact ahj q alS ag)) (λ alS=>by omega))
 have bR:=(bR.mod PF (λ I=>ahk _ I rfl)).later Qy;have ahl:∀ q∈J.ab WI,q=S→False:=λ q I ag=>by (exact aYC (ZH q I) (λ alT=>by (exact ahk q alT ag)) (λ alT=>by omega))
 have bR:=(bR.mod PH (λ I=>ahl _ I rfl)).later QB;have ahm:∀ q∈J.ab WJ,q=S→False:=λ q I ag=>by (exact aYC (ZI q I) (λ alU=>by (exact ahl q alU ag)) (λ alU=>by omega))
 have bR:=(bR.mod Dn (λ I=>ahm _ I rfl)).later Wp;have awP:∀ q∈J.ab aeK,q=S→False:=λ q I ag=>by (exact aYC (aiY q I) (λ alV=>by (exact ahm q alV ag)) (λ alV=>by omega))
 have bR:=bR.mod ab5 (λ I=>awP _ I rfl);have ar:=ar.later (γ cr ey);have ahn:∀ q∈J.ab (bA jf),q=cJ→False:=λ q I ag=>by (have:=ab0 q I;omega)
 have ar:=(ar.mod px (λ I=>ahn _ I rfl)).later k0;have aho:∀ q∈J.ab WN,q=cJ→False:=λ q I ag=>by (exact aYC (ZK q I) (λ alW=>by (exact ahn q alW ag)) (λ alW=>by omega))
 have ar:=(ar.mod iw (λ I=>aho _ I rfl)).later k1;have ahp:∀ q∈J.ab WO,q=cJ→False:=λ q I ag=>by (exact aYC (ZM q I) (λ Pl=>by (exact aho q Pl ag)) (λ Pl=>by omega))
 have ar:=(ar.mod kY (λ I=>ahp _ I rfl)).later vu;have ahq:∀ q∈J.ab Mr,q=cJ→False:=λ q I ag=>by (exact aYC (ZN q I) (λ Pm=>by (exact ahp q Pm ag)) (λ Pm=>by omega))
 have ar:=(ar.mod xR (λ I=>ahq _ I rfl)).later BJ;have ahr:∀ q∈J.ab WT,q=cJ→False:=λ q I ag=>by (exact aYC (ZO q I) (λ alY=>by (exact ahq q alY ag)) (λ alY=>by omega))
 have ar:=(ar.mod pq (λ I=>ahr _ I rfl)).later Qx;have ahs:∀ q∈J.ab WH,q=cJ→False:=λ q I ag=>by (exact aYC (ZG q I) (λ al0=>by (exact ahr q al0 ag)) (λ al0=>by omega))
 have ar:=(ar.mod PF (λ I=>ahs _ I rfl)).later Qy;have aht:∀ q∈J.ab WI,q=cJ→False:=λ q I ag=>by (exact aYC (ZH q I) (λ al1=>by (exact ahs q al1 ag)) (λ al1=>by omega))
 have ar:=(ar.mod PH (λ I=>aht _ I rfl)).later QB;have ahu:∀ q∈J.ab WJ,q=cJ→False:=λ q I ag=>by (exact aYC (ZI q I) (λ al2=>by (exact aht q al2 ag)) (λ al2=>by omega))
 have ar:=(ar.mod Dn (λ I=>ahu _ I rfl)).later Wp;have awR:∀ q∈J.ab aeK,q=cJ→False:=λ q I ag=>by (exact aYC (aiY q I) (λ al3=>by (exact ahu q al3 ag)) (λ al3=>by omega))
 have ar:=ar.mod ab5 (λ I=>awR _ I rfl);refine eV (λ cp cn aP=>∃ k:Nat,cn= [(0, .pointer (bA S)),(4, .pointer (bA cJ)),(35, .slice WK ((ai.around p).length) agE),(36,Φ 10),(37,Φ (k:Int))]∧cp=10 - k∧Ext w aP∧aM aP S (ai.cells a W) 151 (0,0)∧aM aP cJ [Φ 0,Φ 0] 55 (0,0)∧az.rep.aF 55 16 aP w.heap.size (J.ab WK) WK agE ((ai.around p))∧(k≤10)∧(∀ j,j<k→W.F1 ((ai.around p).getD j default)=false)) _ _ ⟨0,Z,Z,aMQ,bR,ar,Aw,by omega,λ j ay=>absurd ay (by omega)⟩ (.cons Z (.cons Z (.cons Z (.cons (zo Z) (eO Z Z Z))))) ?_;rintro aUr aN5 aLJ ⟨k,rfl,rfl,Wy,bR,ar,Aw,ak,lp⟩;have aIl:=bR.lt;have aV2:=ar.lt;have aKH:=bM Aw.lt;refine aw<|dR Z Z<|aC<|av<| ?_;refine en Z (λ aBd=> ?_) (λ aBd=> ?_)
 ·refine bm<|av<|bJ<|aw<|aa (cl k underlying25 b3 Z Z (Aw.has.bT (aV k (by show k<10;omega))) Z (by show k<10;omega))<|aa (ax Z (J.aK.iu y9 (by rw [← Aw.has.bT (aV k (by show k<10;omega))];exact Aw.has) (dt (l:=(ai.around p)) (u:=default) (by show k<10;omega)) cA b3))<|cU yZ Z λ aXS auF QC aTJ Ag=> ?_;have aM9:=γ Wy QC;refine cF Z Z Ag Z b3 Z Z λ aXU PI Ag=> ?_;have aqz:=Ext.mod aM9 PI bo;refine aC<|av<| ?_;refine cO [(4,0),(5,0),(6,0)] [0,1,2,3,4,5,6,7,8,9,10,11] ?_;refine a1 Z Z<|aq Z (λ _=>bx Z)<|aq Z (λ _=>aj oH Z)<|aq Z (λ _=>aj r7 Z)<| ?_;have bR:=(bR.later QC).mod PI aO;refine dT Z (λ _ x=>ax Z ((bR.later x).par [Φ W.field.wide,Φ W.field.high, .slice a.P W.field.a_.length a.p] mo mq Z))<|dT Z (λ _ x=>ax Z ((Ag.later x).all cA b3))<|qW Z Z s6 Z (λ _ x=>Zx W.field ((ai.around p).getD k default) a.P a.p _ (Cb.keep (aqz.x' x))) Z<|a1 Z Z<|aq Z (λ _=>ex Z Z)<|aq Z (λ _=>ex Z Z)<|aq Z (λ _=>ee Z)<|aq Z (λ _=>ee Z)<|fn λ aXV QD=> ?_;have aqA:=γ aqz QD;refine aX<|aB Z<|aa (beq Z Z)<|vm Z<|ec Z Z<|bh Z (λ hc=>bne (gt hc Z) Z)<|aa (ei Z Z Z Z)<|vm Z<|ec Z Z<|bh Z (λ hc=>bx (gt hc Z))<|bh Z (λ hc=>aj oH (gt hc Z))<|bh Z (λ hc=>aj ld (gt hc Z))<| ?_;have bR:=bR.later QD;refine bh Z (λ hc=>ax (gt hc Z) (bR.one nb Z))<|bh Z (λ hc=>Ln Z Z)<| ?_;have Ag:=Ag.later QD;refine sB Z axN (λ hc=>gp (gt hc Z) (gp (gt hc Z) Z)) (λ hc=>aBw ((ai.around p).getD k default) auF a.T a.t W.ao _ (sT.keep aqA) ⟨Ag.cell 0,Ag.cell 1⟩) λ aXX QE=> ?_;have aqB:=γ aqA QE;refine bh Z (λ hc=>dJ (gt hc Z))<|aa (ei Z Z Z Z)<|aC<| ?_;refine du Z (λ aak=> ?_) (λ aak=> ?_)
  ·rw [anT bP.field] at aak;refine aw<| ?_;have Ag:=Ag.later QE;refine aa (ax Z (Ag.all cA b3))<| ?_;have ar:=((ar.later QC).mod PI aO).later (γ QD QE);refine cF Z Z ar Z b3 Z Z λ aXY aF2 ar=> ?_;have aNc:=Ext.mod aqB aF2 bo;refine aY Z<|eb<|bD<|m0<|eb<|bD<|cz (.cell Z (ar.all cA b3) (.tmp Z .nil))<| ?_;exact ⟨by rw [az4 (by omega) lp ‹_›];rfl,aNc⟩
  ·rw [anT bP.field] at aak;refine fu<|b1<|eM Z Z Z<| ?_;have bR:=bR.later QE;have dA:=(γ QD QE);have ar:=((ar.later QC).mod PI aO).later dA;have Aw:=((Aw.later QC).mod PI (bU aKH)).later dA;exact eJ ⟨k+1,Z,Z,aqB,bR,ar,Aw,by omega,sr lp (by assumption)⟩
 ·refine dn<|dk<|dG<|dj<|aX<|aw<|aa (v:= .agg #[Φ 0,Φ 0]) (eu Z)<|cF Z Z ar Z b3 Z Z λ aX0 aF3 ar=> ?_;have aNe:=Ext.mod Wy aF3 bo;refine aY Z<|cz (.cell Z (ar.all cA b3) (.tmp Z .nil))<| ?_;exact ⟨by rw [az3 (λ j ay=>lp j (by omega))];rfl,aNe⟩
end
section
variable {d:dV} {c:az}
theorem arV:ez prog bj.rep 26 57 56:=ez.ki (z:=bj.zero) (k:=7) underlying26 bj.info rfl rfl (by decide) bj.j8
theorem aHV (k:Int):0≤ai.nr k∧ai.nr k≤12:=by unfold ai.nr;split<;>(try split)<;>omega
theorem aFA (k:Int):0≤ai.ni k∧ai.ni k≤20:=by unfold ai.ni;split<;>(try split)<;>omega
theorem ams {k:Int}:(K8 k != 0)= !b9 k 1 2:=by
 unfold K8;by_cases κ:k=1
 ·subst κ;rfl
 ·by_cases τ:k=2
  ·subst τ;rfl
  ·rw [aYi κ,aYi τ,ri (by omega)];rfl
theorem aCi {W:ai} (bP:Good W) (h:(((((decide (d.bd<0) || decide ((W.bf.length:Int)≤d.bd)) || K8 d.what != 0) || decide (W.bE.getD d.bd.toNat 0<ai.nr d.what)) || decide (100≤(W.ao.length:Int))) || decide (1000000≤W.next))=false):
  0≤d.bd∧d.bd<(W.bf.length:Int)∧b9 d.what 1 2=true∧ai.nr d.what≤W.bE.getD d.bd.toNat 0∧W.ao.length<100∧W.next<1000000:=by
 simp only [aYM,aYI,ams,aZP] at h;obtain ⟨⟨⟨⟨⟨κ,τ⟩,au⟩,aU⟩,bN⟩,cq⟩:=h;exact ⟨by omega,by omega,au,by omega,by omega,by omega⟩
theorem akk {W:ai} (bP:Good W) (h:(((((decide (d.bd<0) || decide ((W.bf.length:Int)≤d.bd)) || K8 d.what != 0) || decide (W.bE.getD d.bd.toNat 0<ai.nr d.what)) || decide (100≤(W.ao.length:Int))) || decide (1000000≤W.next))=true):W.tA d=none:=by
 unfold ai.tA;rw [aYi];intro hc;simp only [aYl,aYB] at hc;obtain ⟨⟨⟨⟨c1,c2⟩,c3⟩,c4⟩,c5⟩:=hc;have c1:=hV c1;simp only [ams,c2,aYZ,aYB,baK,aY8,baq] at h;omega
theorem akj {W:ai} (κ:0≤d.bd) (τ:d.bd<(W.bf.length:Int)) (au:b9 d.what 1 2=true) (aU:ai.nr d.what≤W.bE.getD d.bd.toNat 0) (bN:W.ao.length<100) (cq:W.next<1000000):
  (b9 d.bd 0 ((W.bf.length:Int) - 1) && b9 d.what 1 2 && decide (ai.nr d.what≤W.bE.getD d.bd.toNat 0) && decide (W.ao.length<100) && decide (W.next<1000000))=true:=by
 rw [nM κ (by omega),au,aYD aU,aYD bN,aYD cq];rfl
theorem akl {W:ai} (κ:0≤d.bd) (τ:d.bd<(W.bf.length:Int)) (au:b9 d.what 1 2=true) (aU:ai.nr d.what≤W.bE.getD d.bd.toNat 0) (bN:W.ao.length<100) (cq:W.next<1000000) (h:(!(W.free (W.bf.getD d.bd.toNat default)).isSome)=true):W.tA d=none:=by
 unfold ai.tA;simp only [akj κ τ au aU bN cq,bab];rw [aZv,Option.isSome_eq_false_iff,Option.isNone_iff_eq_none] at h;rw [h]
theorem aCh {W:ai} (κ:0≤d.bd) (τ:d.bd<(W.bf.length:Int)) (au:b9 d.what 1 2=true) (aU:ai.nr d.what≤W.bE.getD d.bd.toNat 0) (bN:W.ao.length<100) (cq:W.next<1000000) (hc:(W.free (W.bf.getD d.bd.toNat default)).getD ⟨0,0⟩=c) (h:(!(W.free (W.bf.getD d.bd.toNat default)).isSome)=false):
  W.tA d=some {W with ao:=W.ao++ [⟨W.next,d.bd,d.what,c,ai.ni d.what,0⟩],next:=W.next+1,bE:=W.bE.set d.bd.toNat (W.bE.getD d.bd.toNat 0 - ai.nr d.what)}:=by
 unfold ai.tA;simp only [akj κ τ au aU bN cq,bab];cases hf:W.free (W.bf.getD d.bd.toNat default) with
 | none=>rw [hf] at h;cases h
 | some cc=>rw [hf] at hc;obtain rfl:cc=c:=hc;rfl
theorem aCg {W:ai} (bP:Good W) (κ:0≤d.bd) (τ:d.bd<(W.bf.length:Int)):(0≤(W.bf.getD d.bd.toNat default).x∧(W.bf.getD d.bd.toNat default).x≤100∧0≤(W.bf.getD d.bd.toNat default).y∧(W.bf.getD d.bd.toNat default).y≤100)∧d.bd.toNat<W.bf.length:=by
 have bF:d.bd.toNat<W.bf.length:=by omega
 have:=(bP.bf _ _ (dt (u:=default) bF)).1;obtain ⟨i1,i2,i3,i4,i5,i6⟩:=aL.idx bP.field (aL.lj this);obtain ⟨uk,QG,Wq,Wr,_,_⟩:=aL.eB bP.field;exact ⟨⟨by omega,by omega,by omega,by omega⟩,bF⟩
theorem az2 {W:ai} {p:az} (hp:0≤p.x∧p.x≤100∧0≤p.y∧p.y≤100) (hc:(W.free p).getD ⟨0,0⟩=c): -1≤c.x∧c.x≤101∧ -1≤c.y∧c.y≤101:=by
 cases hf:W.free p with
 | none=>rw [hf] at hc;subst hc;decide
 | some q =>
  rw [hf] at hc;obtain rfl:q=c:=hc;have:=bbb hf;simp only [ai.around,aYk,aZA,baq] at this;rcases this with rfl | rfl | rfl | rfl | rfl | rfl | rfl | rfl | rfl | rfl<;>(try dsimp only)<;>omega
theorem aCe (d:dV) (w:World) (aA S:Nat) (a:ai.b7) (W:ai) (h:m9 w aA S a W) (bP:Good W):
  Calls prog 107 #[.pointer (bA S), .agg #[Φ d.kind,Φ d.bd,Φ d.spot.x,Φ d.spot.y,Φ d.what]] w (yN W (W.tA d) w aA S a):=by
 have xG:=bP.sl;have kd:=h.low;have jZ:=h.aZ;have wv:=h.fI.lt;have bR:=h.fI;have bq:=h.own;have DH:=bM bq.lt;have Ct:∀ q∈bH.cR a,q=S→False:=λ q I ag=>jZ (ag ▸ I);refine ch (n:=126) func107 Z Z Z ?_;refine dZ Z Z λ l9 Co ow Pv gH=> ?_;have fb:=(Mod.cH (S::bH.cR a) w).trans (Mod.a8 ow);have aWw:=gH.lt;refine aJ Z<|aw<|aa (aj ahW Z)<|bk Z gH aT Z<|cM Y9 Z (abJ d.what _) λ uf bt=> ?_;have:=bt.size;have jN:=fb.trans (Mod.a8 bt);refine vm Z<|bs Z Z<|bs Z Z<|cU Y_ Z λ zS xc iy amE fU=> ?_;have m3:=jN.trans (Mod.a8 iy);have aoh:=fU.lt;refine cF Z Z fU Z Y' Z Z λ Gr pw fU=> ?_;have:=pw.size;have mF:=m3.md pw (λ q I=> .inr (by have:=aYf.1 I;omega));refine aJ Z<|av<|av<| ?_;refine cO [(1,0),(5,0),(10,0),(23,0),(25,0),(27,0),(29,0),(37,0),(46,0)] [0,1,2,3,4,5,6,7,8,9,10,11,12,13,14,15,16,17,18,19,20,21,22,23,24,25,26,27,28,29,30,31,32,33,34,35,36,37,38,39,40,41,42,43,44,45,46,47,48] ?_;refine aq Z (λ _=>aj AQ Z)<| ?_;have gH:=(gH.later (γ bt iy)).mod pw aO;refine cf Z Z gH aT Z<|aq Z (λ _=>blt Z Z)<|a1 Z Z<|b0 Z Z (λ hc _=>aj AQ Z)<|dL Z Z (λ hc _ x=>ax (gt hc Z) ((gH.later x).one aT Z))<|fy Z Z Z<|b0 Z Z (λ hc _=>bx (gt hc Z))<|b0 Z Z (λ hc _=>aj oH (gt hc Z))<|b0 Z Z (λ hc _=>aj s8 (gt hc Z))<| ?_;have bR:=(bR.later (γ ow (γ bt iy))).mod pw aO;refine dL Z Z (λ hc _ x=>ax (gt hc Z) ((bR.later x).one xq Z))<|b0 Z Z (λ hc _=>b5 underlying25 (gt hc Z))<|b0 Z Z (λ hc _=>jg (gt hc Z) (gt hc Z))<|aq Z (λ _=>eW Z Z Z Z)<|a1 Z Z<|fy Z Z Z<|b0 Z Z (λ hc _=>bne (gt hc Z) Z)<|aq Z (λ _=>eW Z Z Z Z)<|a1 Z Z<|fy Z Z Z<|b0 Z Z (λ hc _=>bx (gt hc Z))<|b0 Z Z (λ hc _=>aj oH (gt hc Z))<|b0 Z Z (λ hc _=>aj vU (gt hc Z))<|dL Z Z (λ hc _ x=>ax (gt hc Z) ((bR.later x).one c8 Z))<|b0 Z Z (λ hc _=>aj AQ Z)<|dL Z Z (λ hc _ x=>ax (gt hc Z) ((gH.later x).one aT Z))<| ?_;have bq:=(bq.later (γ ow (γ bt iy))).mod pw (bU DH);refine b0 Z Z (λ hc _=>cl d.bd.toNat underlying22 dg (gt hc Z) (gt hc Z) (bq.S.has.bT (aV d.bd.toNat (by (try simp only [bn] at hc);omega))) (by (try simp only [bn] at hc);omega) (by (try simp only [bn] at hc);omega))<|dL Z Z (λ hc _ x=>ax (gt hc Z) (J.aK.fh fY (by rw [← (bq.later x).S.has.bT (aV d.bd.toNat (by (try simp only [bn] at hc);omega))];exact (bq.later x).S.has) (dt (l:=W.bE) (u:=0) (by (try simp only [bn] at hc);omega)) Z aT))<|b0 Z Z (λ hc _=>aj ahX Z)<|dL Z Z (λ hc _ x=>ax (gt hc Z) ((fU.later x).one aT Z))<|b0 Z Z (λ hc _=>blt (gt hc Z) (gt hc Z))<|aq Z (λ _=>eW Z Z Z Z)<|a1 Z Z<|fy Z Z Z<|b0 Z Z (λ hc _=>bx (gt hc Z))<|b0 Z Z (λ hc _=>aj oH (gt hc Z))<|b0 Z Z (λ hc _=>aj ld (gt hc Z))<|dL Z Z (λ hc _ x=>ax (gt hc Z) ((bR.later x).one nb Z))<|b0 Z Z (λ hc _=>b5 underlying26 (gt hc Z))<|b0 Z Z (λ hc _=>jg (gt hc Z) Z)<|aq Z (λ _=>eW Z Z Z Z)<|a1 Z Z<|fy Z Z Z<|b0 Z Z (λ hc _=>bx (gt hc Z))<|b0 Z Z (λ hc _=>aj oH (gt hc Z))<|b0 Z Z (λ hc _=>aj HE (gt hc Z))<|dL Z Z (λ hc _ x=>ax (gt hc Z) ((bR.later x).one aT Z))<|b0 Z Z (λ hc _=>jg (gt hc Z) Z)<|aq Z (λ _=>eW Z Z Z Z)<|fn λ vh ey=> ?_;have:=ey.size;have ks:=mF.trans (Mod.a8 ey);refine aX<| ?_;refine du Z (λ tk=> ?_) (λ tk=> ?_)
 ·refine aw<|aY Z<|bD<|b_ Z Z<| ?_;have bR:=bR.later ey;have bq:=bq.later ey;exact ⟨a,by rw [akk bP tk];rfl,by rw [akk bP tk];exact ⟨bR,bq,jZ,kd⟩,λ q I=> .inl I,ks⟩
 ·obtain ⟨κ,τ,au,aU,bN,cq⟩:=aCi bP tk;obtain ⟨oa,bF⟩:=aCg bP κ τ;have g_:=bP.bE _ _ (dt (u:=0) (l:=W.bE) (j:=d.bd.toNat) (by omega));obtain ⟨c,hc⟩:∃ c,(W.free (W.bf.getD d.bd.toNat default)).getD ⟨0,0⟩=c:=⟨_,rfl⟩;have aSv:=aHV d.what;have aSM:=hV au;have xD:=bP.next;have KN:=bP.iJ;have aRz:=az2 oa hc;refine bm<|av<| ?_;refine cO [(5,0),(7,0),(9,0),(10,0),(14,2),(15,3)] [0,1,2,3,4,5,6,7,8,9,10,11,12,13,14,15,16] ?_;refine a1 Z Z<|a1 Z Z<|aq Z (λ _=>bx Z)<|aq Z (λ _=>aj oH Z)<|aq Z (λ _=>aj s8 Z)<| ?_;have bR:=bR.later ey;refine cf Z Z bR xq Z<|aq Z (λ _=>aj AQ Z)<| ?_;have gH:=gH.later ey;refine cf Z Z gH aT Z<| ?_;have bq:=bq.later ey;refine aq Z (λ _=>cl d.bd.toNat underlying25 b3 Z Z (bq.B.has.bT (aV d.bd.toNat)) (by omega) (by omega))<|dT Z (λ _ x=>ax Z (J.aK.iu y9 (by rw [← (bq.later x).B.has.bT (aV d.bd.toNat)];exact (bq.later x).B.has) (dt (l:=W.bf) (u:=default) (by omega)) cA b3))<|qW Z Z axO Z (λ _ x=>az1 (W.bf.getD d.bd.toNat default) _ aA S a W (⟨(bR.later x),(bq.later x),jZ,kd⟩) bP oa) Z<|a1 Z Z<|aq Z (λ _=>ex Z Z)<|aq Z (λ _=>ex Z Z)<|ff Z Z Z λ Qm mE Q hK=>cU yZ Z λ ub X5 ko aE4 yv=>hK _ _ ⟨γ mE ko, ?_⟩;have:=mE.size;have yl:=ks.trans (Mod.a8 mE);have hH:=yl.trans (Mod.a8 ko);have aWb:=yv.lt;refine dE Z Z Z λ vk eL Q hK=>st Z Z (yv.later eL) Z b3 Z Z Z λ wG oh yv=>hK _ _ ?_;have:=eL.size;have jr:=hH.trans (Mod.a8 eL);have:=oh.size;have mH:=jr.md oh (λ q I=> .inr (by have:=aYf.1 I;omega));refine aq Z (λ _=>ee Z)<|fn λ Qn k0=> ?_;have:=k0.size;have qz:=mH.trans (Mod.a8 k0);refine aX<|av<|aB Z<|aa (dJ Z)<|aC<| ?_;refine du Z (λ Fi=> ?_) (λ Fi=> ?_)
  ·refine aw<|aY Z<|bD<|b_ Z Z<| ?_;have dA:=nw (kW (γ mE (γ ko eL)) oh) k0;have bR:=bR.mod dA aO;have bq:=bq.mod dA (bU DH);exact ⟨a,by rw [akl κ τ au aU bN cq Fi];rfl,by rw [akl κ τ au aU bN cq Fi];exact ⟨bR,bq,jZ,kd⟩,λ q I=> .inl I,qz⟩
  ·refine bm<|av<| ?_;refine cO [(5,0),(10,0),(12,0),(14,0),(15,0),(17,0),(19,2),(20,3),(24,3)] [0,1,2,3,4,5,6,7,8,9,10,11,12,13,14,15,16,17,18,19,20,21,22,23,24] ?_;refine a1 Z Z<|a1 Z Z<|aq Z (λ _=>bx Z)<|aq Z (λ _=>aj oH Z)<|aq Z (λ _=>aj ld Z)<| ?_;have bR:=((bR.later (γ mE (γ ko eL))).mod oh aO).later k0;refine cf Z Z bR nb Z<|a1 Z Z<|aq Z (λ _=>bx Z)<|aq Z (λ _=>aj oH Z)<|aq Z (λ _=>aj HE Z)<|cf Z Z bR aT Z<|aq Z (λ _=>aj AQ Z)<| ?_;have gH:=((gH.later (γ mE (γ ko eL))).mod oh aO).later k0;refine cf Z Z gH aT Z<|aq Z (λ _=>aj ahW Z)<|cf Z Z gH aT Z<| ?_;have yv:=yv.later k0;refine dT Z (λ _ x=>ax Z ((yv.later x).all cA b3))<|aq Z (λ _=>aj axP Z)<| ?_;have fU:=((fU.later (γ ey (γ mE (γ ko eL)))).mod oh aO).later k0;refine cf Z Z fU aT Z<|r9 (v:= .agg #[Φ W.next,Φ d.bd,Φ d.what,Φ ((((W.free (W.bf.getD d.bd.toNat default)).getD ⟨0,0⟩)).x),Φ ((((W.free (W.bf.getD d.bd.toNat default)).getD ⟨0,0⟩)).y),Φ (ai.ni d.what),Φ 0]) Z Z (λ _=>lH Z (by kernel_rfl)) Z<|ff Z Z Z λ L5 jM Q hK=>c7 (e:= 57) (cs:= [Φ W.next,Φ d.bd,Φ d.what,Φ ((((W.free (W.bf.getD d.bd.toNat default)).getD ⟨0,0⟩)).x),Φ ((((W.free (W.bf.getD d.bd.toNat default)).getD ⟨0,0⟩)).y),Φ (ai.ni d.what),Φ 0]) Z (λ _=>by kernel_rfl) Z λ wI xd kp abP yx=>hK _ _ ⟨γ jM kp, ?_⟩;have:=jM.size;have qA:=qz.trans (Mod.a8 jM);have kt:=qA.trans (Mod.a8 kp);have Vb:=yx.lt;have bq:=((bq.later (γ mE (γ ko eL))).mod oh (bU DH)).later (γ k0 (γ jM kp));refine dE Z Z Z λ V1 o5 Q hK=>ap arV J.dQ (bq.later o5).T ((aM.gu (R:=bj.rep) (by_:=56) (q:=(⟨W.next,d.bd,d.what,c,ai.ni d.what,0⟩:bj)) yx ⟨(by rw [← hc];rfl),b8.2 (by dsimp only;omega),b8.2 (by dsimp only;omega),b8.2 (by dsimp only;omega),b8.2 (by dsimp only;omega),b8.2 (by dsimp only;omega),b8.2 (by dsimp only;have:=aFA d.what;omega),b8.2 (by dsimp only;omega)⟩ (by decide)).keep o5) Z Z (by simp;omega) (by simp;omega) (by have:=o5.size;omega) Z λ DN Ec AG kH Cm xu ant=>hK _ _ ?_;have:=o5.size;have D5:=kt.trans (Mod.a8 o5);have bq:=bq.later o5;have bR:=bR.later (γ jM (γ kp o5));have rP:=D5.md kH (λ q I=> .inl (aYm _ (s_ I)));have wU:=bq.swapT kH Cm xu;have St:∀ q∈bH.cR {a with T:=Ec,t:=AG},q=S→False:=λ q I ag=>(aiT (aA:=aA) (w:=w) (W:=W) I).elim (λ h=>Ct q h ag) (λ h=>(xu q h).elim (λ τ=>Ct q (s_ τ) ag) (λ τ=>by omega));have awZ:∀ q∈J.ab a.T,q=S→False:=λ q I ag=>by (exact Ct q (s_ I) ag)
   have bR:=bR.mod kH (λ I=>awZ _ I rfl);refine aq Z (λ _=>bx Z)<|aq Z (λ _=>aj oH Z)<|aq Z (λ _=>aj ld Z)<|dE Z Z Z λ Ma ox Q hK=>dU Z Z (bR.later ox) Z NY Z Z λ Jh Ds bR=>hK _ _ ?_;have uq:=rP.trans (Mod.a8 ox);have yp:=uq.md Ds lr;refine fn λ DO lU=> ?_;have pT:=yp.trans (Mod.a8 lU);refine aX<|aB Z<|aa (bx Z)<|aa (aj oH Z)<|aa (aj HE Z)<| ?_;have bR:=bR.later lU;refine bk Z bR aT Z<|gx Z Z<|aa (bx Z)<|aa (aj oH Z)<|aa (aj HE Z)<|dU Z Z bR Z dg Z Z λ DQ iI bR=> ?_;have m5:=pT.md iI lr;refine aC<|av<| ?_;refine cO [(4,0),(6,0),(8,0),(10,0),(13,3)] [0,1,2,3,4,5,6,7,8,9,10,11,12,13] ?_;refine a1 Z Z<|aq Z (λ _=>bx Z)<|aq Z (λ _=>aj oH Z)<|aq Z (λ _=>aj vU Z)<|cf Z Z bR c8 Z<|aq Z (λ _=>aj AQ Z)<| ?_;have gH:=gH.later (γ jM (γ kp o5));have YE:∀ q∈J.ab a.T,q=Co→False:=λ q I ag=>by (have:=DH q (s_ I);omega)
   have gH:=((((gH.mod kH (λ I=>YE _ I rfl)).later ox).mod Ds aO).later lU).mod iI aO;refine cf Z Z gH aT Z<| ?_;have wU:=(((wU.later ox).mod Ds (bl St)).later lU).mod iI (bl St);refine aq Z (λ _=>cl d.bd.toNat underlying22 dg Z Z (wU.S.has.bT (aV d.bd.toNat (by show d.bd.toNat<W.bE.length;omega))) (by omega) (by show d.bd.toNat<W.bE.length;omega))<|dT Z (λ _ x=>ax Z (J.aK.fh fY (by rw [← (wU.later x).S.has.bT (aV d.bd.toNat (by show d.bd.toNat<W.bE.length;omega))];exact (wU.later x).S.has) (dt (l:=W.bE) (u:=0) (by show d.bd.toNat<W.bE.length;omega)) Z aT))<|aq Z (λ _=>aj ahX Z)<| ?_;have fU:=fU.later (γ jM (γ kp o5));have aw1:∀ q∈J.ab a.T,q=xc→False:=λ q I ag=>by (have:=DH q (s_ I);omega)
   have fU:=((((fU.mod kH (λ I=>aw1 _ I rfl)).later ox).mod Ds aO).later lU).mod iI aO;refine cf Z Z fU aT Z<|aq Z (λ _=>kx Z Z gD)<|aq Z (λ _=>cl d.bd.toNat underlying22 dg Z Z (wU.S.has.bT (aV d.bd.toNat (by show d.bd.toNat<W.bE.length;omega))) (by omega) (by show d.bd.toNat<W.bE.length;omega))<|dE Z Z Z λ aqb D1 Q hK=>so (q':=W.bE.getD d.bd.toNat 0 - ai.nr d.what) (j:=0) (i:=d.bd.toNat) (wU.later D1).S J.dQ (dt (u:=0) (l:=W.bE) (by omega)) Z Z Z Z (λ _ cs h=>by obtain rfl:=fY h;exact ⟨rfl,b8.2 (by omega)⟩) Z Z dg λ V7 Bn atp=>hK _ _ ?_;have Jz:=m5.trans (Mod.a8 D1);have wU:=wU.later D1;have bR:=bR.later D1;have D_:=Jz.md Bn (λ q I=> .inl (aYm _ (HO (a:=a) I)));have JO:=wU.aoP Bn atp;have aw2:∀ q∈J.ab a.S,q=S→False:=λ q I ag=>by (exact St q (HO I) ag)
   have bR:=bR.mod Bn (λ I=>aw2 _ I rfl);refine fn λ Mf jn=> ?_;have rS:=D_.trans (Mod.a8 jn);refine aX<|aw<|aY Z<|b_ Z Z<| ?_;have bR:=bR.later jn;have JO:=JO.later jn;rw [aCh κ τ au aU bN cq hc Fi];exact ⟨{a with T:=Ec,t:=AG},Z,⟨by simpa [ai.cells] using bR,JO.aoO rfl rfl rfl rfl rfl ⟨JO.nums.1,JO.nums.2.1,b8.2 (by show -9223372036854775808≤W.next+1∧W.next+1≤9223372036854775807;omega),JO.nums.2.2.2⟩,λ I=>St _ I rfl,kd⟩,λ q I=>(aiT (aA:=aA) (w:=w) (W:=W) I).elim .inl (λ h=>(xu q h).elim (λ h=> .inl (s_ h)) (λ h=> .inr (by omega))),rS⟩
end
theorem aHj (a:ai.b7) (W:ai) (w:World) (bZ:ai.Has w a W):
    Calls prog 62 #[.agg (ai.cells a W).toArray] w λ e w'=>∃ a':ai.b7,e= .returned (.agg (ai.cells a' W).toArray)∧bH w' w.heap.size a' W∧Below w.heap.size w w':=by
  obtain ⟨fH,gU,gV,gd,fM,fQ,gv,hg,gF,gh⟩:=a;show Calls _ _ #[.agg #[.int .i64 W.field.wide, .int .i64 W.field.high, .slice fH W.field.a_.length fQ, .slice gU W.bf.length gv, .slice gV W.bE.length hg, .slice gd W.bX.length gF, .slice fM W.ao.length gh, .int .i64 W.next, .int .i64 W.now]] _ _;have cV:=mN w (.cells #[.int .i64 W.field.wide, .int .i64 W.field.high, .slice fH W.field.a_.length fQ, .slice gU W.bf.length gv, .slice gV W.bE.length hg, .slice gd W.bX.length gF, .slice fM W.ao.length gh, .int .i64 W.next, .int .i64 W.now] 28);have hA:=aM.new w [.int .i64 W.field.wide, .int .i64 W.field.high, .slice fH W.field.a_.length fQ, .slice gU W.bf.length gv, .slice gV W.bE.length hg, .slice gd W.bX.length gF, .slice fM W.ao.length gh, .int .i64 W.next, .int .i64 W.now] 28 (0,0);obtain ⟨w0,kv⟩:∃ w0,Hid (w.alloc (.cells #[.int .i64 W.field.wide, .int .i64 W.field.high, .slice fH W.field.a_.length fQ, .slice gU W.bf.length gv, .slice gV W.bE.length hg, .slice gd W.bX.length gF, .slice fM W.ao.length gh, .int .i64 W.next, .int .i64 W.now] 28)=w0):=⟨_,aYe rfl⟩;rw [kv.out] at cV;have ku:Hid (aM w0 w.heap.size [.int .i64 W.field.wide, .int .i64 W.field.high, .slice fH W.field.a_.length fQ, .slice gU W.bf.length gv, .slice gV W.bE.length hg, .slice gd W.bX.length gF, .slice fM W.ao.length gh, .int .i64 W.next, .int .i64 W.now] 28 (0,0)):=by rw [← kv.out];exact hA
  have abm:w0.heap.size=w.heap.size+1:=by rw [← kv.out];simp
  have aaz:=mN w0 (.cells #[.int .i64 0, .int .i64 0, .slice none 0 0, .slice none 0 0, .slice none 0 0, .slice none 0 0, .slice none 0 0, .int .i64 0, .int .i64 0] 28);have hR:=aM.new w0 [.int .i64 0, .int .i64 0, .slice none 0 0, .slice none 0 0, .slice none 0 0, .slice none 0 0, .slice none 0 0, .int .i64 0, .int .i64 0] 28 (0,0);rw [abm] at hR;obtain ⟨DU,Xl⟩:∃ DU,Hid (w0.alloc (.cells #[.int .i64 0, .int .i64 0, .slice none 0 0, .slice none 0 0, .slice none 0 0, .slice none 0 0, .slice none 0 0, .int .i64 0, .int .i64 0] 28)=DU):=⟨_,aYe rfl⟩;rw [Xl.out] at aaz;have dI:Hid (aM DU (w.heap.size+1) [.int .i64 0, .int .i64 0, .slice none 0 0, .slice none 0 0, .slice none 0 0, .slice none 0 0, .slice none 0 0, .int .i64 0, .int .i64 0] 28 (0,0)):=by rw [← Xl.out];exact hR
  have ku:=aYe (ku.out.later aaz);have cV:=cV.trans (aaz.mono cV.size);have ajD:=bZ.keep cV;have Cb:=aYe (λ V (h:Below DU.heap.size DU V)=>sZ fH fQ W.field.a_ V (ajD.P.keep h));have aI:=aYe (λ V (h:Below w.heap.size w V)=>Sp gU gv W.bf V (bZ.B.keep h));have gL:=aYe (λ V (h:Below w.heap.size w V)=>sZ gV hg W.bE V (bZ.S.keep h));have mi:=aYe (λ V (h:Below w.heap.size w V)=>sZ gd gF W.bX V (bZ.M.keep h));have sT:=aYe (λ V (h:Below w.heap.size w V)=>Sq fM gh W.ao V (bZ.T.keep h));have fr:=aYe bZ.nums;clear bZ ajD hA;go_enter func62,ntmps62;go_wp2_with fail
  rw [kv.out,Xl.out];go_wp2_with fail
  refine (Cb.out _ (aYG _ _)).mono ?_;rintro e w1 ⟨ei,pC,rfl,T4,_,dc⟩;have kS:=ku.out.later dc;obtain ⟨ck,c1,c2,c3,c4,c5,ek,eH,fx⟩:=Gx kS;have f2:=kS.free 2 (.inr (aYX _));have bI:Below w.heap.size w (w1.setCell ⟨w.heap.size,2,none⟩ (.slice ei W.field.a_.length pC)):=(cV.trans (dc.mono cV.size)).setCell (p:=⟨w.heap.size,2,none⟩) (aYg _) _;have aab:=(dI.out.later dc).other (show w.heap.size+1≠w.heap.size by omega) 2 (.slice ei W.field.a_.length pC);have Kz:=kS.set 2 (.slice ei W.field.a_.length pC);have abb:w.heap.size∉J.ab ei:=Lp T4 (by have:=ku.out.lt;omega);have ak1:w.heap.size+1∉J.ab ei:=Lp T4 (by have:=dI.out.lt;omega);have Oh:=T4.other (p:=⟨w.heap.size,2,none⟩) abb (.slice ei W.field.a_.length pC);obtain ⟨cx,afC⟩:∃ cx,Hid (w1.setCell ⟨w.heap.size,2,none⟩ (.slice ei W.field.a_.length pC)=cx):=⟨_,aYe rfl⟩;rw [afC.out] at bI Kz Oh aab;have Oh:=Oh.down (show w.heap.size≤_ from cV.size);go_wp2_with fail
  rw [afC.out];go_wp2_with fail
  clear ck c1 c2 c3 c4 c5 ek eH fx f2 T4 kS dc;obtain ⟨ck,c1,c2,c3,c4,c5,ek,eH,fx⟩:=Gx Kz;have yA:=aYe Kz;have afw:=aYe Oh;have RO:Hid (w.heap.size∉J.ab ei):=aYe abb;have atw:Hid (w.heap.size+1∉J.ab ei):=aYe ak1;have afx:=aYe aab;have aSF:=afx.out.lt;clear Kz Oh aab abb ak1;have H7:=aYG cx.heap.size cx;have aSG:=yA.out.lt
  go_cut [9] (λ _ nx=>afF w nx ei pC W gd gF fM gh cx.heap.size)
  case first =>
   go_region_law (first
    | (refine Vx rfl 88 _ func88 (by kernel_rfl) (by kernel_rfl) _ _ rfl #[.slice gU W.bf.length gv] (by simp [Act.eval,Act.put]) ?_
       refine (aI.out _ bI.drew).mono ?_;rintro e w3 ⟨fN,n9,rfl,O0,_,er⟩;have sb:Below cx.heap.size cx w3:=agq H7 er;have c4:=cell_later sb c4;refine ⟨_,Z, ?_⟩)
    | (refine Vx rfl 77 _ func77 (by kernel_rfl) (by kernel_rfl) _ _ rfl #[.slice gV W.bE.length hg] (by simp [Act.eval,Act.put]) ?_
       refine (gL.out _ (bI.trans (sb.mono bI.size))).mono ?_;rintro e wB ⟨eF,oo,rfl,O1,_,eg⟩;have uQ:Below cx.heap.size cx wB:=o_ sb eg;obtain ⟨d0,d1,d2,d3,d4,d5,d6,d7,d8⟩:=Gx (yA.out.later uQ);have f3:=(yA.out.later uQ).free 3 (.inr (aYX _));have f4:=(yA.out.later uQ).free 4 (.inr (aYX _));refine ⟨_,Z, ?_⟩))
   all_goals
    have ajx:=afx.out.later uQ;have ajf:=yA.out.later uQ;have ajv:=afw.out.later uQ;have aji:=O0.later eg;have ajN:=bI.trans (uQ.mono bI.size);have KA:=(ajf.set 3 (.slice fN W.bf.length n9)).set 4 (.slice eF W.bE.length oo);have KE:=(ajx.other (show w.heap.size+1≠w.heap.size by omega) 3 (.slice fN W.bf.length n9)).other (show w.heap.size+1≠w.heap.size by omega) 4 (.slice eF W.bE.length oo);have KD:=(ajv.other (p:=⟨w.heap.size,3,none⟩) RO.out (.slice fN W.bf.length n9)).other (p:=⟨w.heap.size,4,none⟩) RO.out (.slice eF W.bE.length oo);have CU:=(aji.other (p:=⟨w.heap.size,3,none⟩) (Lp O0 (by show w.heap.size<cx.heap.size;omega)) (.slice fN W.bf.length n9)).other (p:=⟨w.heap.size,4,none⟩) (Lp O0 (by show w.heap.size<cx.heap.size;omega)) (.slice eF W.bE.length oo);have KF:=(O1.other (p:=⟨w.heap.size,3,none⟩) (Lp O1 (by have:=sb.size;show w.heap.size<w3.heap.size;omega)) (.slice fN W.bf.length n9)).other (p:=⟨w.heap.size,4,none⟩) (Lp O1 (by have:=sb.size;show w.heap.size<w3.heap.size;omega)) (.slice eF W.bE.length oo);have pd:Below w.heap.size w ((wB.setCell ⟨w.heap.size,3,none⟩ (.slice fN W.bf.length n9)).setCell ⟨w.heap.size,4,none⟩ (.slice eF W.bE.length oo)):=(ajN.setCell (p:=⟨w.heap.size,3,none⟩) (aYg _) _).setCell (p:=⟨w.heap.size,4,none⟩) (aYg _) _;have cI:Hid (afF w ((wB.setCell ⟨w.heap.size,3,none⟩ (.slice fN W.bf.length n9)).setCell ⟨w.heap.size,4,none⟩ (.slice eF W.bE.length oo)) ei pC W gd gF fM gh cx.heap.size):=aYe ⟨fN,n9,eF,oo,w3.heap.size,wB.heap.size,KA,KE,KD,CU,KF,O0.lt,O1.lt,pd,sb.size,eg.size,by simp [World.setCell]⟩;clear KA KE KD CU KF pd O0 O1 ajx ajf ajv aji ajN sb uQ er eg ck c1 c2 c3 c4 c5 ek eH fx d0 d1 d2 d3 d4 d5 d6 d7 d8 f3 f4 H7;go_wp2_with fail
    go_meet
    exact cI.out
  case rest =>
    obtain ⟨fN,n9,eF,oo,oj,pz,KA,KE,KD,CU,KF,aon,aop,pd,qm,nn,oX⟩:=hcut;obtain ⟨sC,asB⟩:∃ sC:World,Hid (sC=wc):=⟨wc,aYe rfl⟩;rw [← asB.out] at KA KE KD CU KF pd oX ⊢;have atC:=aYe afw.out.lt;have RP:=aYe aon;have RQ:=aYe aop;have asn:=aYe KD;have ar1:=aYe CU;have asx:=aYe KF;have asp:=aYe KE;have B3:=aYe KA;clear KA KE KD CU KF aon aop ck c1 c2 c3 c4 c5 ek eH fx H7;obtain ⟨ck,c1,c2,c3,c4,c5,ek,eH,fx⟩:=Gx B3.out;have H7:=aYG sC.heap.size sC;go_wp2_with fail
    go_region_law (first
      | (refine Vx rfl 77 _ func77 (by kernel_rfl) (by kernel_rfl) _ _ rfl #[.slice gd W.bX.length gF] (by simp [Act.eval,Act.put]) ?_
         refine (mi.out _ pd.drew).mono ?_;rintro e VT ⟨oP,qf,rfl,K3,_,KJ⟩;have Ox:Below sC.heap.size sC VT:=agq H7 KJ;have ek:=cell_later Ox ek;refine ⟨_,Z, ?_⟩)
      | (refine Vx rfl 89 _ func89 (by kernel_rfl) (by kernel_rfl) _ _ rfl #[.slice fM W.ao.length gh] (by simp [Act.eval,Act.put]) ?_
         refine (sT.out _ (pd.trans (Ox.mono pd.size))).mono ?_;rintro e adY ⟨o1,qt,rfl,K4,_,H5⟩;have A9:Below sC.heap.size sC adY:=o_ Ox H5;obtain ⟨d0,d1,d2,d3,d4,d5,d6,d7,d8⟩:=Gx (B3.out.later A9);have f5:=(B3.out.later A9).free 5 (.inr (aYX _));have f6:=(B3.out.later A9).free 6 (.inr (aYX _));refine ⟨_,Z, ?_⟩))
    all_goals
      have aDV:=Ox.size;have aBE:=pd.trans (A9.mono pd.size);have dO:w.heap.size<VT.heap.size:=by omega
      have eX:w.heap.size<sC.heap.size:=by omega
      have ZY:=((B3.out.later A9).set 5 (.slice oP W.bX.length qf)).set 6 (.slice o1 W.ao.length qt);have aac:=((asp.out.later A9).other (show w.heap.size+1≠w.heap.size by omega) 5 (.slice oP W.bX.length qf)).other (show w.heap.size+1≠w.heap.size by omega) 6 (.slice o1 W.ao.length qt);have Z_:=((asn.out.later A9).other (p:=⟨w.heap.size,5,none⟩) RO.out (.slice oP W.bX.length qf)).other (p:=⟨w.heap.size,6,none⟩) RO.out (.slice o1 W.ao.length qt);have ZZ:=((ar1.out.later A9).other (p:=⟨w.heap.size,5,none⟩) (λ h=>by have:=(RP.out _ h).1;simp at this;omega) (.slice oP W.bX.length qf)).other (p:=⟨w.heap.size,6,none⟩) (λ h=>by have:=(RP.out _ h).1;simp at this;omega) (.slice o1 W.ao.length qt);have Oi:=((asx.out.later A9).other (p:=⟨w.heap.size,5,none⟩) (λ h=>by have:=(RQ.out _ h).1;simp at this;omega) (.slice oP W.bX.length qf)).other (p:=⟨w.heap.size,6,none⟩) (λ h=>by have:=(RQ.out _ h).1;simp at this;omega) (.slice o1 W.ao.length qt);have Z9:=((K3.later H5).other (p:=⟨w.heap.size,5,none⟩) (λ h=>by have:=(K3.lt _ h).1;simp at this;omega) (.slice oP W.bX.length qf)).other (p:=⟨w.heap.size,6,none⟩) (λ h=>by have:=(K3.lt _ h).1;simp at this;omega) (.slice o1 W.ao.length qt);have aaf:=(K4.other (p:=⟨w.heap.size,5,none⟩) (λ h=>by have:=(K4.lt _ h).1;simp at this;omega) (.slice oP W.bX.length qf)).other (p:=⟨w.heap.size,6,none⟩) (λ h=>by have:=(K4.lt _ h).1;simp at this;omega) (.slice o1 W.ao.length qt);have KK:Below w.heap.size w ((adY.setCell ⟨w.heap.size,5,none⟩ (.slice oP W.bX.length qf)).setCell ⟨w.heap.size,6,none⟩ (.slice o1 W.ao.length qt)):=(aBE.setCell (p:=⟨w.heap.size,5,none⟩) (aYg _) _).setCell (p:=⟨w.heap.size,6,none⟩) (aYg _) _;have kE:(J.ab ei++J.ab fN++J.ab eF++J.ab oP++J.ab o1).Nodup:=by
        have κ:=RX (m:=oj) ⟨xe ei,λ g aN=>(atC.out g aN).2⟩ (xe fN) RP.out qm;have τ:=RX κ (xe eF) RQ.out nn;have au:=RX (n:=sC.heap.size) (m:=VT.heap.size) ⟨τ.1,λ g aN=>by have:=τ.2 g aN;omega⟩ (xe oP) K3.lt aDV;exact (RX au (xe o1) K4.lt (by have:=H5.size;omega)).1
      obtain ⟨Ql,asC⟩:∃ Ql,Hid ((adY.setCell ⟨w.heap.size,5,none⟩ (.slice oP W.bX.length qf)).setCell ⟨w.heap.size,6,none⟩ (.slice o1 W.ao.length qt)=Ql):=⟨_,aYe rfl⟩;rw [asC.out] at KK ZY aac Z_ ZZ Oi Z9 aaf ⊢;have ar9:=aYe (show bH Ql w.heap.size ⟨ei,fN,eF,oP,o1,pC,n9,oo,qf,qt⟩ W from ⟨Z_,ZZ.down (by show w.heap.size≤cx.heap.size;omega),Oi.down (by omega),Z9.down (by show w.heap.size≤sC.heap.size;omega),aaf.down (by omega),kE,fr.out⟩);have asg:Hid (w.heap.size+1∉bH.cR ⟨ei,fN,eF,oP,o1,pC,n9,oo,qf,qt⟩):=aYe (λ h=>by
        unfold bH.cR at h;simp only [aYo] at h;rcases h with (((h | h) | h) | h) | h
        · exact atw.out h
        · have:=(RP.out _ h).1;omega
        · have:=(RQ.out _ h).1;omega
        · have:=(K3.lt _ h).1;(try simp at this);omega
        · have:=(K4.lt _ h).1;(try simp at this);omega)
      have ml:=aYe aac;have ar0:Hid (aM Ql w.heap.size [.int .i64 W.field.wide, .int .i64 W.field.high, .slice ei W.field.a_.length pC, .slice fN W.bf.length n9, .slice eF W.bE.length oo, .slice oP W.bX.length qf, .slice o1 W.ao.length qt, .int .i64 W.next, .int .i64 W.now] 28 (0,0)):=aYe ZY;clear ZY aac Z_ ZZ Oi Z9 aaf kE K3 K4 H5 KJ A9 Ox ck c1 c2 c3 c4 c5 ek eH fx d0 d1 d2 d3 d4 d5 d6 d7 d8 f5 f6;obtain ⟨ck,c1,c2,c3,c4,c5,ek,eH,fx⟩:=Gx ar0.out;obtain ⟨e0,aW,bb,df,jy,HC,HD,NN,SD⟩:=Gx ml.out;have aD:=λ j=>ml.out.free j (.inr (aYX _));have aQU:=aD 0;have aQV:=aD 1;have aQW:=aD 2;have aQX:=aD 3;have aQY:=aD 4;have aQZ:=aD 5;have aQ0:=aD 6;have aQ1:=aD 7;have aQ2:=aD 8;clear aD;go_wp2_with fail
      obtain ⟨adZ,asD⟩:∃ adZ,Hid ((((((((((Ql.setCell ⟨w.heap.size+1,0,none⟩ (.int .i64 W.field.wide)).setCell ⟨w.heap.size+1,1,none⟩ (.int .i64 W.field.high)).setCell ⟨w.heap.size+1,2,none⟩ (.slice ei W.field.a_.length pC)).setCell ⟨w.heap.size+1,3,none⟩ (.slice fN W.bf.length n9)).setCell ⟨w.heap.size+1,4,none⟩ (.slice eF W.bE.length oo)).setCell ⟨w.heap.size+1,5,none⟩ (.slice oP W.bX.length qf)).setCell ⟨w.heap.size+1,6,none⟩ (.slice o1 W.ao.length qt)).setCell ⟨w.heap.size+1,7,none⟩ (.int .i64 W.next)).setCell ⟨w.heap.size+1,8,none⟩ (.int .i64 W.now))=adZ):=⟨_,aYe rfl⟩;have ajy:=aGG ml.out (.int .i64 W.field.wide) (.int .i64 W.field.high) (.slice ei W.field.a_.length pC) (.slice fN W.bf.length n9) (.slice eF W.bE.length oo) (.slice oP W.bX.length qf) (.slice o1 W.ao.length qt) (.int .i64 W.next) (.int .i64 W.now);have aju:=ar9.out.nine asg.out (.int .i64 W.field.wide) (.int .i64 W.field.high) (.slice ei W.field.a_.length pC) (.slice fN W.bf.length n9) (.slice eF W.bE.length oo) (.slice oP W.bX.length qf) (.slice o1 W.ao.length qt) (.int .i64 W.next) (.int .i64 W.now);have TE:=auX KK (show w.heap.size≤w.heap.size+1 by omega) (.int .i64 W.field.wide) (.int .i64 W.field.high) (.slice ei W.field.a_.length pC) (.slice fN W.bf.length n9) (.slice eF W.bE.length oo) (.slice oP W.bX.length qf) (.slice o1 W.ao.length qt) (.int .i64 W.next) (.int .i64 W.now);rw [asD.out] at ajy aju TE ⊢;obtain ⟨v0,v1,v2,v3,v4,v5,v6,aK0,aK1⟩:=Gx ajy;refine bcs (v:= .agg #[.int .i64 W.field.wide, .int .i64 W.field.high, .slice ei W.field.a_.length pC, .slice fN W.bf.length n9, .slice eF W.bE.length oo, .slice oP W.bX.length qf, .slice o1 W.ao.length qt, .int .i64 W.next, .int .i64 W.now]) ?_ Z ⟨⟨ei,fN,eF,oP,o1,pC,n9,oo,qf,qt⟩,Z,aju,TE⟩;simp [results,results62,go_sem,v0,v1,v2,v3,v4,v5,v6,aK0,aK1]
section
variable {d:dV} {w w1:World} {aA S:Nat} {a:ai.b7} {l:List dV}
theorem arW:ez prog Bx 49 4 1:=ez.ki (z:= .bool false) (k:=1) underlying49 (by kernel_rfl) rfl rfl (by decide) (λ j u h=>aoq j u h)
theorem ai.ahB {W:ai} (h:d.kind=1):W.mQ d=W.oW d:=by unfold ai.mQ;rw [aYq h]
theorem ai.ahz {W:ai} (h:d.kind=2):W.mQ d=W.drop d:=by unfold ai.mQ;rw [aYi (by omega),aYq h]
theorem ai.ahA {W:ai} (h:d.kind=3):W.mQ d=W.tA d:=by unfold ai.mQ;rw [aYi (by omega),aYi (by omega),aYq h]
theorem ai.ahC {W:ai} (κ:¬ d.kind=1) (τ:¬ d.kind=2) (au:¬ d.kind=3):W.mQ d=none:=by unfold ai.mQ;rw [aYi κ,aYi τ,aYi au]
theorem YG {W:ai} {V:Option ai} {f:FuncId} {args:Array Value} (h:Calls prog f args w1 (yN W V w1 aA S a)) (x:Ext w w1):Calls prog f args w1 (yN W V w aA S a):=
 h.mono λ e cx ⟨a2,κ,τ,au,aU⟩=>⟨a2,κ,τ,λ q I=>(au q I).imp id λ h=>aYF x.size h,(Mod.a8 x).trans aU⟩
theorem aGj (d:dV) (w:World) (aA S:Nat) (a:ai.b7) (W:ai) (h:m9 w aA S a W) (bP:Good W):Calls prog 105 #[.pointer (bA S), .agg #[Φ d.kind,Φ d.bd,Φ d.spot.x,Φ d.spot.y,Φ d.what]] w (yN W (W.oW d) w aA S a):=by
 cases hf:W.ao.findIdx? (ig d.bd) with
 | none=>exact aGi d w aA S a W h bP hf
 | some k=>obtain ⟨t,aH,_⟩:=Kr hf;exact aGh d w aA S a W h bP k t hf aH
theorem axw (d:dV) (w:World) (aA S:Nat) (a:ai.b7) (W:ai) (h:m9 w aA S a W) (bP:Good W):Calls prog 106 #[.pointer (bA S), .agg #[Φ d.kind,Φ d.bd,Φ d.spot.x,Φ d.spot.y,Φ d.what]] w (yN W (W.drop d) w aA S a):=by
 cases hf:W.ao.findIdx? (ig d.bd) with
 | none=>exact axv d w aA S a W h bP hf
 | some k=>obtain ⟨t,aH,_⟩:=Kr hf;exact drop2 d w aA S a W h bP k t hf aH
theorem aCf (d:dV) (w:World) (aA S:Nat) (a:ai.b7) (W:ai) (h:m9 w aA S a W) (bP:Good W):Calls prog 107 #[.pointer (bA S), .agg #[Φ d.kind,Φ d.bd,Φ d.spot.x,Φ d.spot.y,Φ d.what]] w (yN W (W.tA d) w aA S a):=aCe d w aA S a W h bP
theorem m9.mod {W:ai} {T:List Nat} (h:m9 w aA S a W) (m:Mod T w w1) (hd:∀ q∈T,q≠S∧q∉bH.cR a):m9 w1 aA S a W :=
 ⟨h.fI.mod m λ I=>(hd _ I).1 rfl,h.own.mod m λ q I cB=>(hd q cB).2 I,h.aZ,h.low⟩
def ai.s4 (W:ai) (l:List dV):Int:=if W.a7≠0 then W.a7 else if 200<l.length then 2 else 0
def ai.uJ (W:ai) (l:List dV):ai:=if W.s4 l=0 then (W.iU l).1 else ai.zero
def ai.AO (W:ai) (l:List dV):List Bool:=if W.s4 l=0 then (W.iU l).2 else []
def arF (W:ai) (l:List dV) (w:World) (e:Ending) (w':World):Prop :=
 ∃ a' A c,e= .returned (.tuple #[.agg (ai.cells a' (W.uJ l)).toArray, .slice A (W.AO l).length c,Φ (W.s4 l)])∧bH w' w.heap.size a' (W.uJ l)∧Bx.aF 4 1 w' w.heap.size (J.ab A) A c (W.AO l)∧(∀ q∈J.ab A,q∉bH.cR a')∧Ext w w'
theorem axl {W:ai} (h:¬ W.a7=0):W.uJ l=ai.zero∧W.AO l= []∧W.s4 l=W.a7:=by
 have he:W.s4 l=W.a7:=by unfold ai.s4;rw [aYq h]
 unfold ai.uJ ai.AO;rw [he,aYi h,aYi h];exact ⟨Z,Z,Z⟩
theorem axm {W:ai} (h:W.a7=0) (ah:200<l.length):W.uJ l=ai.zero∧W.AO l= []∧W.s4 l=2:=by
 have he:W.s4 l=2:=by unfold ai.s4;rw [aYi (by simpa using h),aYq ah]
 unfold ai.uJ ai.AO;rw [he];exact ⟨Z,Z,Z⟩
theorem YM {W:ai} (h:W.a7=0) (ah:l.length≤200):W.s4 l=0:=by unfold ai.s4;rw [aYi (by simpa using h),aYi (by omega)]
theorem ahN {W:ai} (h:W.a7=0) (ah:l.length≤200):W.uJ l=(W.iU l).1:=by unfold ai.uJ;rw [aYq (YM h ah)]
theorem ahO {W:ai} (h:W.a7=0) (ah:l.length≤200):W.AO l=(W.iU l).2:=by unfold ai.AO;rw [aYq (YM h ah)]
theorem aw9 (W:ai) (l:List dV) (d:dV):W.iU (l++ [d])=(((W.iU l).1.mQ d).getD (W.iU l).1,(W.iU l).2++ [((W.iU l).1.mQ d).isSome]):=by
 induction l generalizing W with
 | nil=>simp only [aZy,ai.iU];cases W.mQ d<;>rfl
 | cons x r bL =>
  simp only [bah,ai.iU];cases W.mQ x with
  | none=>simp only [bL];rfl
  | some V=>simp only [bL];rfl
theorem YH {W:ai} {k:Nat} (ak:k<l.length):W.iU (l.take (k+1))=(((W.iU (l.take k)).1.mQ (l.getD k default)).getD (W.iU (l.take k)).1,(W.iU (l.take k)).2++ [((W.iU (l.take k)).1.mQ (l.getD k default)).isSome]):=by
 rw [← aw9,aYH ak];congr 3;rw [aX7,aYb ak];rfl
theorem aw8 (W:ai) (l:List dV):(W.iU l).2.length=l.length:=by
 induction l generalizing W with
 | nil=>rfl
 | cons x r bL =>
  simp only [ai.iU];cases W.mQ x with
  | none=>simp only [aYc,bL]
  | some V=>simp only [aYc,bL]
theorem aw7 (d:dV) (w:World) (aA S:Nat) (a:ai.b7) (W:ai) (h:m9 w aA S a W) (bP:Good W):
  Calls prog 63 #[.pointer (bA S), .agg #[Φ d.kind,Φ d.bd,Φ d.spot.x,Φ d.spot.y,Φ d.what]] w (yN W (W.mQ d) w aA S a):=by
 refine ch (n:=22) func63 Z Z Z ?_;refine dZ Z Z λ cG bB aR d' ae=> ?_;have hx:=aR;refine aJ Z<|av<|aw<|aa (aj axQ Z)<|bk Z ae aT Z<|aC<|bJ<|aw<|aa (beq Z Z)<|aJ Z<| ?_;refine iE Z (λ gg=> ?_) (λ gg=> ?_)
 ·refine aB Z<|aa (ax Z (ae.all NO HF))<|ca axR Z Z ((YG (aGj d _ aA S a W (h.later aR) bP) hx).mono ?_);rintro e uf ⟨a2,rfl,hS,hf,hm⟩;refine cu ?_;refine aY Z<|eb<|bD<|b_ Z Z<| ?_;exact ⟨a2,by rw [ai.ahB ‹_›];rfl,by rw [ai.ahB ‹_›];exact hS,hf,hm⟩
 ·refine aw<|aa (beq Z Z)<|aJ Z<| ?_;refine iE Z (λ jA=> ?_) (λ jA=> ?_)
  ·refine aB Z<|aa (ax Z (ae.all NO HF))<|ca axS Z Z ((YG (axw d _ aA S a W (h.later aR) bP) hx).mono ?_);rintro e wC ⟨a2,rfl,hS,hf,hm⟩;refine cu ?_;refine aY Z<|eb<|bD<|b_ Z Z<| ?_;exact ⟨a2,by rw [ai.ahz ‹_›];rfl,by rw [ai.ahz ‹_›];exact hS,hf,hm⟩
  ·refine aw<|aa (beq Z Z)<|aJ Z<| ?_;refine iE Z (λ oI=> ?_) (λ oI=> ?_)
   ·refine aB Z<|aa (ax Z (ae.all NO HF))<|ca axT Z Z ((YG (aCf d _ aA S a W (h.later aR) bP) hx).mono ?_);rintro e BF ⟨a2,rfl,hS,hf,hm⟩;refine cu ?_;refine aY Z<|eb<|bD<|b_ Z Z<| ?_;exact ⟨a2,by rw [ai.ahA ‹_›];rfl,by rw [ai.ahA ‹_›];exact hS,hf,hm⟩
   ·refine fu<|b1<|aX<|aw<|aY Z<|b_ Z Z<| ?_;exact ⟨a,by rw [ai.ahC ‹_› ‹_› ‹_›];rfl,by rw [ai.ahC ‹_› ‹_› ‹_›];exact h.later aR,λ q I=> .inl I,Mod.a8 aR⟩
theorem axk (l:List dV) (A:Option Addr) (c:Nat) (w:World) (a:ai.b7) (W:ai) (bZ:ai.Has w a W) (ah:dV.rep.aK 40 w A c l):
  Calls prog 33 #[.agg ((ai.cells a W).toArray), .slice A l.length c] w (arF W l w):=by
 refine ch (n:=40) func33 Z Z Z ?_;refine dZ Z Z λ cG bB aR d' ae=> ?_;have hE:=ae.lt;refine cU nG Z λ eC cJ bt hP ar=> ?_;have bO:=γ aR bt;have mB:=ar.lt;refine va Z<|aJ Z<|av<|aw<| ?_;have ae:=ae.later bt;refine aa (ax Z (ae.all dz cd))<|cM Kk Z (EU a W _ (bZ.keep bO)) λ hG fD=> ?_;have:=fD.size;have c6:=γ bO fD;refine aJ Z<|aB Z<|cS Z Z<|aC<| ?_;refine eU Z (λ nd=> ?_) (λ nd=> ?_)
 ·refine aw<|aa (v:= .agg #[Φ 0,Φ 0, .slice none 0 0, .slice none 0 0, .slice none 0 0, .slice none 0 0, .slice none 0 0,Φ 0,Φ 0]) (eu Z)<|vm Z<| ?_;have ar:=ar.later fD;refine cF Z Z ar Z cd Z Z λ Gr pw ar=> ?_;have mF:=Ext.mod c6 pw bo;refine va Z<|aY Z<|bD<|cz (.cell Z (ar.all dz cd) (.tmp Z (.tmp Z .nil)))<| ?_;obtain ⟨aW,bb,df⟩:=axl ‹_›;exact ⟨⟨none,none,none,none,none,0,0,0,0,0⟩,none,0,by rw [aW,bb,df];rfl,by rw [aW];exact bH.zero _ _,by rw [bb];exact J.aF.nil _,λ q I=>by simp [J.ab] at I,mF⟩
 ·have bP:=Good.Dx nd;refine bm<|av<|aB Z<|aa (b5 underlying103 Z)<|aa (gO Z Z)<|aC<| ?_;refine en Z (λ vV=> ?_) (λ vV=> ?_)
  ·refine aw<|aa (v:= .agg #[Φ 0,Φ 0, .slice none 0 0, .slice none 0 0, .slice none 0 0, .slice none 0 0, .slice none 0 0,Φ 0,Φ 0]) (eu Z)<| ?_;have ar:=ar.later fD;refine cF Z Z ar Z cd Z Z λ ua tN ar=> ?_;have kM:=Ext.mod c6 tN bo;refine va Z<|aY Z<|bD<|cz (.cell Z (ar.all dz cd) (.tmp Z (.tmp Z .nil)))<| ?_;obtain ⟨aW,bb,df⟩:=axm (W:=W) (l:=l) nd (by omega);exact ⟨⟨none,none,none,none,none,0,0,0,0,0⟩,none,0,by rw [aW,bb,df];rfl,by rw [aW];exact bH.zero _ _,by rw [bb];exact J.aF.nil _,λ q I=>by simp [J.ab] at I,kM⟩
  ·refine bm<|aw<| ?_;have ae:=ae.later fD;refine aa (ax Z (ae.all dz cd))<|ca axU Z Z ((aHj a W _ (bZ.keep c6)).mono ?_);rintro e ub ⟨b2,rfl,bq,d_⟩;refine cu ?_;have:=d_.size;have hH:=γ c6 d_;have BD:=bM bq.lt;refine aa (v:= .agg #[Φ W.field.wide,Φ W.field.high, .slice b2.P W.field.a_.length b2.p, .slice b2.B W.bf.length b2.b, .slice b2.S W.bE.length b2.s, .slice b2.M W.bX.length b2.m, .slice b2.T W.ao.length b2.t,Φ W.next,Φ W.now]) (eu Z)<|cU axV Z λ zV Cp ho aE6 GV=> ?_;have mG:=γ hH ho;refine cF Z Z GV Z axW Z Z λ wG oh GV=> ?_;have mH:=Ext.mod mG oh bo;refine aC<|aw<|aJ Z<|av<|aB Z<|aa (b5 underlying103 Z)<|vm Z<|aC<|bJ<| ?_;have bq:=(bq.later ho).mod oh (bU BD);have gL:m9 wG hG.heap.size Cp b2 W:=⟨GV,bq,λ I=>by have:=BD _ I;omega,by omega⟩;have ar:=(ar.later (γ fD (γ d_ ho))).mod oh aO;refine eV (λ cp cn aP=>∃ k:Nat,∃ a2:ai.b7,∃ Ed:Option Addr,∃ Si:Nat,cn= [(4, .pointer (bA cJ)),(5, .slice none 0 0),(6,Φ 0),(8, .pointer (bA Cp)),(9, .slice Ed ((W.iU (l.take k)).2.length) Si),(25, .slice A l.length c),(26,Φ (l.length:Int)),(27,Φ (k:Int))]∧cp=l.length - k∧Ext w aP∧aM aP cJ [Φ 0,Φ 0, .slice none 0 0, .slice none 0 0, .slice none 0 0, .slice none 0 0, .slice none 0 0,Φ 0,Φ 0] 28 (0,0)∧m9 aP hG.heap.size Cp a2 (W.iU (l.take k)).1∧Bx.aF 4 1 aP w.heap.size (J.ab Ed) Ed Si (W.iU (l.take k)).2∧(k≤l.length)∧(∀ q∈J.ab Ed,q≠Cp∧q∉bH.cR a2)∧(∀ q∈J.ab Ed,q=cJ→False)) _ _ ⟨0,b2,none,0,Z,Z,mH,ar,gL,(J.aF.nil _),by omega,λ q I=>by simp [J.ab] at I,(λ q I ag=>by (simp [J.ab] at I))⟩ (eO Z Z Z) ?_;rintro oT aOb Qn ⟨k,a2,Ed,Si,rfl,rfl,qz,ar,gL,wW,ak,hd,yX⟩;have aWi:=ar.lt;have Gk:=bM wW.lt;have yb:=λ q I=>(gL.own.lt q I).2;have KL:=gL.fI.lt;have KR:(W.iU (l.take k)).2.length=k:=by rw [aw8,aYa];omega
   refine aw<|dR Z Z<|aC<|av<| ?_;refine en Z (λ jC=> ?_) (λ jC=> ?_)
   ·refine bm<|av<|bJ<|aw<|aa (cl k underlying103 HF Z Z ((ah.keep qz).bT (aV k)) Z (by omega))<|aa (ax Z (J.aK.iu aBG (by rw [← (ah.keep qz).bT (aV k)];exact (ah.keep qz)) (dt (l:=l) (u:=default) (by omega)) NO HF))<|cU axX Z λ L6 Hq lR amK GY=> ?_;have wP:=γ qz lR;have Vb:=GY.lt;refine cF Z Z GY Z HF Z Z λ V1 oV GY=> ?_;have:=oV.size;have D5:=Ext.mod wP oV bo;refine aC<|rg<|vm Z<|aa (ax Z (GY.all NO HF))<| ?_;have gL:=(gL.later lR).mod oV (λ q I=>by rw [aYf.1 I];exact ⟨by omega,λ hf=>by have:=yb _ hf;have:=(gL.own.lt _ hf).1;omega⟩);have wW:=(wW.later lR).mod oV (bU Gk);refine ca axY Z Z ((aw7 (l.getD k default) _ hG.heap.size Cp a2 (W.iU (l.take k)).1 gL (bP.iU _)).mono ?_);rintro e Gu ⟨a3,rfl,G9,hf,uj⟩;refine cu ?_;have hu:=bM wW.lt;have:=uj.size;have pS:=Ext.mod D5 uj (λ q I=>(aYk.1 I).elim (λ h=>by rw [h];omega) (λ h=>by have:=(gL.own.lt q h).1;omega));have KQ:∀ q∈J.ab Ed,q≠Cp∧q∉bH.cR a3:=λ q I=>⟨(hd q I).1,λ h=>(hf q h).elim (hd q I).2 (λ h=>by have:=hu q I;omega)⟩;have asv:=gL;have gL:=G9;have yb:=λ q I=>(gL.own.lt q I).2;refine c7 (e:= 4) (cs:= [.bool (((W.iU (l.take k)).1.mQ (l.getD k default)).isSome)]) Z (λ _=>by kernel_rfl) Z λ Jf aPL pP aTX afb=> ?_;have qC:=γ pS pP;have aIv:=afb.lt;have wW:=(wW.mod uj (λ q I h=>(aYk.1 h).elim (hd q I).1 (hd q I).2)).later pP;refine ap arW J.dQ wW (aM.gu (R:=Bx) (by_:=1) (q:=((W.iU (l.take k)).1.mQ (l.getD k default)).isSome) afb ⟨Z,trivial⟩ (by decide)) Z Z (by simp only [aYc,aYh];omega) (by simp only [aYc,aYh];omega) qC.size Z λ Jg aeN avW uZ atj ai1 aVe=> ?_;have wQ:=Ext.mod qC uZ (λ q I=>(wW.lt q I).1);have aj3:∀ q∈J.ab aeN,q≠Cp∧q∉bH.cR a3:=λ q I=>(ai1 q I).elim (KQ q) (λ h=>⟨by omega,λ hf=>by have:=yb q hf;omega⟩);refine va Z<|nl<|b1<|eM Z Z Z<| ?_;have ar:=((((ar.later lR).mod oV aO).mod uj (λ h=>(aYk.1 h).elim (λ h=>by omega) (λ h=>by have:=(asv.own.lt _ h).1;omega))).later pP).mod uZ (λ I=>yX _ I rfl);have gL:=(gL.later pP).mod uZ (λ q I=>KQ q I);exact om _ _ ⟨k+1,a3,aeN,avW,Z,Z,wQ,ar,(by rw [YH (by omega:k<l.length)];exact gL),(by rw [YH (by omega:k<l.length)];exact atj),by omega,aj3,(fJ ai1 yX)⟩ (by omega) (.cons Z (.cons Z (.cons Z (.cons Z (.cons (by rw [YH (by omega:k<l.length)];rfl) (eO Z Z Z))))))
   ·refine dn<|dk<|dG<|dj<|aX<|aw<|aa (aj oH Z)<|aa (ax Z (gL.fI.all dz cd))<|vm Z<|st Z Z ar Z cd Z Z Z λ DQ iI ar=> ?_;have m5:=Ext.mod qz iI bo;refine va Z<|aY Z<|cz (.cell Z (ar.all dz cd) (.tmp Z (.tmp Z .nil)))<| ?_;have gL:=gL.mod iI (λ q I=>by rw [aYf.1 I];exact ⟨by omega,λ hf=>by have:=yb _ hf;have:=(gL.own.lt _ hf).1;omega⟩);have wW:=wW.mod iI (bl yX);obtain rfl:k=l.length:=by omega
    refine ⟨a2,Ed,Si, ?_, ?_, ?_,λ q I=>(hd q I).2,m5⟩
    ·rw [ahN nd (by omega),ahO nd (by omega),YM nd (by omega),aYS];rfl
    ·rw [ahN nd (by omega)];rw [aYS] at gL;exact gL.own.down (by omega)
    ·rw [ahO nd (by omega)];rw [aYS] at wW;exact wW
end
def wt (t:bj):Int:=t.load+ai.nr t.kind
def ai.total (W:ai):Int:=W.bX.sum+W.bE.sum+(W.ao.map wt).sum
def ai.aX2 (W:ai):Int:=if W.a7=0 then W.total else 0
section
variable {α:Type}
theorem arR:MD prog az.cells 55 :=by
 intro a b w;obtain ⟨a0,b2⟩:=a;obtain ⟨gW,k_⟩:=b;simp only [az.cells,az.mk.injEq];constructor
 ·go_simp
  repeat' split
  all_goals simp_all
 ·go_simp
  repeat' split
  all_goals simp_all
theorem arP:(prog).eqGuardType (prog).depth 55 =false:=by kernel_rfl
theorem arS:MD prog bj.cells 57 :=by
 intro a b w;obtain ⟨a0,b2,a2,⟨a3,a4⟩,a5,EI⟩:=a;obtain ⟨gW,k_,fw,⟨hQ,xa⟩,EO,agh⟩:=b;simp only [bj.cells,bj.mk.injEq,az.mk.injEq];constructor
 ·go_simp
  repeat' split
  all_goals simp_all
 ·go_simp
  repeat' split
  all_goals simp_all
theorem arQ:(prog).eqGuardType (prog).depth 57 =false:=by kernel_rfl
theorem S5 {l m:List α} {k:Nat} (κ:l.length=m.length) (ak:l.length≤k) (h:∀ j,j<k→l[j]? =m[j]?):l=m:=by
 apply aZW;intro j;by_cases ay:j<k
 ·exact h j ay
 ·rw [aZE (by omega),aZE (by omega)]
theorem UU [DecidableEq α] {a b:α} (h:(!decide (a=b))=true):¬ a=b:=by simpa using h
theorem S6 [DecidableEq α] {a b:α} (h:(!decide (a=b))=false):a=b:=by simpa using h
theorem azy (A B:Option Addr) (c d k_ fw:Nat) (l m:List az) (w:World) (κ:az.rep.aK k_ w A c l) (τ:az.rep.aK fw w B d m):
  Calls prog 47 #[.slice A l.length c, .slice B m.length d] w (λ e w'=>e= .returned (.bool (decide (l=m)))∧Ext w w'):=by
 have hle:=κ.fa;refine ch (n:=26) func47 Z Z Z ?_;refine aw<|aJ Z<|av<|aB Z<|aa (b5 underlying25 Z)<|vm Z<|aa (b5 underlying25 Z)<|cS Z Z<|aC<| ?_;refine eU Z (λ hy=> ?_) (λ hy=> ?_)
 ·refine aw<|aY Z<|bD<|b_ Z Z<| ?_;rw [aYL (λ e=>hy (by rw [e]))];exact ⟨Z,(Ext.cH w)⟩
 ·refine bm<|av<|aB Z<|aa (b5 underlying25 Z)<|vm Z<|aC<|bJ<| ?_;refine eV (λ cp cn aP=>∃ k:Nat,cn= [(0, .slice A l.length c),(1, .slice B m.length d),(12,Φ (l.length:Int)),(13,Φ (k:Int))]∧cp=l.length - k∧Ext w aP∧(k≤l.length)∧(∀ j,j<k→l[j]? =m[j]?)) _ _ ⟨0,Z,Z,(Ext.cH w),by omega,λ j ay=>absurd ay (by omega)⟩ (eO Z Z Z) ?_;rintro Lk JJ l9 ⟨k,rfl,rfl,fb,ak,gC⟩;have hle:=κ.fa;refine aw<|dR Z Z<|aC<|av<| ?_;refine en Z (λ ng=> ?_) (λ ng=> ?_)
  ·obtain ⟨eX,iG⟩:=ic (l:=l) (i:=k) (by omega);obtain ⟨uk,rh⟩:=ic (l:=m) (i:=k) (by omega);refine bm<|av<|bJ<|aB Z<|aJ Z<|av<| ?_;refine cO [(3,0),(7,0)] [0,1,2,3,4,5,6,7,8] ?_;refine a1 Z Z<|a1 Z Z<|aq Z (λ _=>cl k underlying25 b3 Z Z ((κ.keep fb).bT (aV k)) Z (by omega))<|dT Z (λ _ x=>ax Z (J.aK.iu y9 (by rw [← (κ.keep (γ fb x)).bT (aV k)];exact (κ.keep (γ fb x))) iG cA b3))<|a1 Z Z<|a1 Z Z<|aq Z (λ _=>cl k underlying25 b3 Z Z ((τ.keep fb).bT (aV k)) Z (by omega))<|dT Z (λ _ x=>ax Z (J.aK.iu y9 (by rw [← (τ.keep (γ fb x)).bT (aV k)];exact (τ.keep (γ fb x))) rh cA b3))<|aq Z (λ _=>Sb arR arP (p:=eX) (q:=uk) Z Z)<|fn λ BI sI=> ?_;have mg:=γ fb sI;refine aX<| ?_;refine du Z (λ jA=> ?_) (λ jA=> ?_)
   ·refine aw<|aY Z<|eb<|bD<|m0<|eb<|bD<|b_ Z Z<| ?_;rw [aYL (λ e=>by rw [e,rh] at iG;injection iG with iG;exact absurd iG.symm (by first | exact UU jA | exact jA))];exact ⟨Z,mg⟩
   ·refine fu<|b1<|eM Z Z Z<| ?_;exact eJ ⟨k+1,Z,Z,mg,by omega,sr gC (by rw [iG,rh,(by first | exact S6 jA | exact jA:eX=uk)])⟩
  ·refine dn<|dk<|dG<|dj<|aX<|aw<|aY Z<|b_ Z Z<| ?_;rw [aYD (S5 (by omega) (by omega) gC)];exact ⟨Z,fb⟩
theorem azz (A B:Option Addr) (c d k_ fw:Nat) (l m:List bj) (w:World) (κ:bj.rep.aK k_ w A c l) (τ:bj.rep.aK fw w B d m):
  Calls prog 49 #[.slice A l.length c, .slice B m.length d] w (λ e w'=>e= .returned (.bool (decide (l=m)))∧Ext w w'):=by
 have hle:=κ.fa;refine ch (n:=26) func49 Z Z Z ?_;refine aw<|aJ Z<|av<|aB Z<|aa (b5 underlying26 Z)<|vm Z<|aa (b5 underlying26 Z)<|cS Z Z<|aC<| ?_;refine eU Z (λ hy=> ?_) (λ hy=> ?_)
 ·refine aw<|aY Z<|bD<|b_ Z Z<| ?_;rw [aYL (λ e=>hy (by rw [e]))];exact ⟨Z,(Ext.cH w)⟩
 ·refine bm<|av<|aB Z<|aa (b5 underlying26 Z)<|vm Z<|aC<|bJ<| ?_;refine eV (λ cp cn aP=>∃ k:Nat,cn= [(0, .slice A l.length c),(1, .slice B m.length d),(12,Φ (l.length:Int)),(13,Φ (k:Int))]∧cp=l.length - k∧Ext w aP∧(k≤l.length)∧(∀ j,j<k→l[j]? =m[j]?)) _ _ ⟨0,Z,Z,(Ext.cH w),by omega,λ j ay=>absurd ay (by omega)⟩ (eO Z Z Z) ?_;rintro Lk JJ l9 ⟨k,rfl,rfl,fb,ak,gC⟩;have hle:=κ.fa;refine aw<|dR Z Z<|aC<|av<| ?_;refine en Z (λ ng=> ?_) (λ ng=> ?_)
  ·obtain ⟨eX,iG⟩:=ic (l:=l) (i:=k) (by omega);obtain ⟨uk,rh⟩:=ic (l:=m) (i:=k) (by omega);refine bm<|av<|bJ<|aB Z<|aJ Z<|av<| ?_;refine cO [(3,0),(7,0)] [0,1,2,3,4,5,6,7,8] ?_;refine a1 Z Z<|a1 Z Z<|aq Z (λ _=>cl k underlying26 lJ Z Z ((κ.keep fb).bT (aV k)) Z (by omega))<|dT Z (λ _ x=>ax Z (J.aK.iu kC (by rw [← (κ.keep (γ fb x)).bT (aV k)];exact (κ.keep (γ fb x))) iG AW lJ))<|a1 Z Z<|a1 Z Z<|aq Z (λ _=>cl k underlying26 lJ Z Z ((τ.keep fb).bT (aV k)) Z (by omega))<|dT Z (λ _ x=>ax Z (J.aK.iu kC (by rw [← (τ.keep (γ fb x)).bT (aV k)];exact (τ.keep (γ fb x))) rh AW lJ))<|aq Z (λ _=>Sb arS arQ (p:=eX) (q:=uk) Z Z)<|fn λ BI sI=> ?_;have mg:=γ fb sI;refine aX<| ?_;refine du Z (λ jA=> ?_) (λ jA=> ?_)
   ·refine aw<|aY Z<|eb<|bD<|m0<|eb<|bD<|b_ Z Z<| ?_;rw [aYL (λ e=>by rw [e,rh] at iG;injection iG with iG;exact absurd iG.symm (by first | exact UU jA | exact jA))];exact ⟨Z,mg⟩
   ·refine fu<|b1<|eM Z Z Z<| ?_;exact eJ ⟨k+1,Z,Z,mg,by omega,sr gC (by rw [iG,rh,(by first | exact S6 jA | exact jA:eX=uk)])⟩
  ·refine dn<|dk<|dG<|dj<|aX<|aw<|aY Z<|b_ Z Z<| ?_;rw [aYD (S5 (by omega) (by omega) gC)];exact ⟨Z,fb⟩
theorem Zi (A B:Option Addr) (c d k_ fw:Nat) (l m:List Int) (w:World) (κ:bu.aK k_ w A c l) (τ:bu.aK fw w B d m):
  Calls prog 48 #[.slice A l.length c, .slice B m.length d] w (λ e w'=>e= .returned (.bool (decide (l=m)))∧Ext w w'):=by
 have hle:=κ.fa;refine ch (n:=26) func48 Z Z Z ?_;refine aw<|aJ Z<|av<|aB Z<|aa (b5 underlying22 Z)<|vm Z<|aa (b5 underlying22 Z)<|cS Z Z<|aC<| ?_;refine eU Z (λ hy=> ?_) (λ hy=> ?_)
 ·refine aw<|aY Z<|bD<|b_ Z Z<| ?_;rw [aYL (λ e=>hy (by rw [e]))];exact ⟨Z,(Ext.cH w)⟩
 ·refine bm<|av<|aB Z<|aa (b5 underlying22 Z)<|vm Z<|aC<|bJ<| ?_;refine eV (λ cp cn aP=>∃ k:Nat,cn= [(0, .slice A l.length c),(1, .slice B m.length d),(12,Φ (l.length:Int)),(13,Φ (k:Int))]∧cp=l.length - k∧Ext w aP∧(k≤l.length)∧(∀ j,j<k→l[j]? =m[j]?)) _ _ ⟨0,Z,Z,(Ext.cH w),by omega,λ j ay=>absurd ay (by omega)⟩ (eO Z Z Z) ?_;rintro Lk JJ l9 ⟨k,rfl,rfl,fb,ak,gC⟩;have hle:=κ.fa;refine aw<|dR Z Z<|aC<|av<| ?_;refine en Z (λ ng=> ?_) (λ ng=> ?_)
  ·obtain ⟨eX,iG⟩:=ic (l:=l) (i:=k) (by omega);obtain ⟨uk,rh⟩:=ic (l:=m) (i:=k) (by omega);refine bm<|av<|bJ<|aB Z<|aJ Z<|av<| ?_;refine cO [(3,0),(7,0)] [0,1,2,3,4,5,6,7,8] ?_;refine a1 Z Z<|a1 Z Z<|aq Z (λ _=>cl k underlying22 dg Z Z ((κ.keep fb).bT (aV k)) Z (by omega))<|dT Z (λ _ x=>ax Z (J.aK.fh fY (by rw [← (κ.keep (γ fb x)).bT (aV k)];exact (κ.keep (γ fb x))) iG Z aT))<|a1 Z Z<|a1 Z Z<|aq Z (λ _=>cl k underlying22 dg Z Z ((τ.keep fb).bT (aV k)) Z (by omega))<|dT Z (λ _ x=>ax Z (J.aK.fh fY (by rw [← (τ.keep (γ fb x)).bT (aV k)];exact (τ.keep (γ fb x))) rh Z aT))<|aq Z (λ _=>bne Z Z)<|fn λ BI sI=> ?_;have mg:=γ fb sI;refine aX<| ?_;refine eU Z (λ jA=> ?_) (λ jA=> ?_)
   ·refine aw<|aY Z<|eb<|bD<|m0<|eb<|bD<|b_ Z Z<| ?_;rw [aYL (λ e=>by rw [e,rh] at iG;injection iG with iG;exact absurd iG.symm (by first | exact UU jA | exact jA))];exact ⟨Z,mg⟩
   ·refine fu<|b1<|eM Z Z Z<| ?_;exact eJ ⟨k+1,Z,Z,mg,by omega,sr gC (by rw [iG,rh,(by first | exact S6 jA | exact jA:eX=uk)])⟩
  ·refine dn<|dk<|dG<|dj<|aX<|aw<|aY Z<|b_ Z Z<| ?_;rw [aYD (S5 (by omega) (by omega) gC)];exact ⟨Z,fb⟩
end
theorem aI7 {W V:ai}:((((((decide (W.field=V.field) && decide (W.bf=V.bf)) && decide (W.bE=V.bE)) && decide (W.bX=V.bX)) && decide (W.ao=V.ao)) && (W.next == V.next)) && (W.now == V.now))=decide (W=V):=by
 obtain ⟨f,b,s,m,t,n,o⟩:=W;obtain ⟨f',qM,s',m',t',jl,Lq⟩:=V;rw [bar];simp [and_assoc]
theorem aI6 {f g:aL}:(((f.wide == g.wide) && (f.high == g.high)) && decide (f.a_=g.a_))=decide (f=g):=by
 obtain ⟨a,b,c⟩:=f;obtain ⟨a',qM,cc⟩:=g;rw [bar];simp [and_assoc]
def l8:ai:=⟨⟨3,1, [0,0,3]⟩, [⟨0,0⟩], [20], [0,0,9], [⟨1,0,1,⟨1,0⟩,10,0⟩],2,0⟩
def aJB:List dV:= [(⟨1,1,⟨2,0⟩,0⟩:dV),(⟨3,0,⟨0,0⟩,2⟩:dV)]
def aWM:ai:=l8.uJ aJB
theorem aI4 (f g:aL) (A B:Option Addr) (c d:Nat) (w:World) (κ:bu.aK 8 w A c f.a_) (τ:bu.aK 8 w B d g.a_):
  Calls prog 46 #[.agg #[Φ f.wide,Φ f.high, .slice A f.a_.length c], .agg #[Φ g.wide,Φ g.high, .slice B g.a_.length d]] w (λ e w'=>e= .returned (.bool (decide (f=g)))∧Ext w w'):=by
 refine ch (n:=24) func46 Z Z Z ?_;refine dZ Z Z λ cG bB aR d' ae=> ?_;refine jR Z Z λ eC cJ bt hP ar=> ?_;have bO:=γ aR bt;refine aJ Z<|aw<|aa (aj NS Z)<| ?_;have ae:=ae.later bt;refine bk Z ae aT Z<|aa (aj NS Z)<|bk Z ar aT Z<|aa (beq Z Z)<|vm Z<|bh Z (λ hc=>aj YO Z)<|bh Z (λ hc=>ax (gt hc Z) (ae.one aT Z))<|bh Z (λ hc=>aj YO Z)<|bh Z (λ hc=>ax (gt hc Z) (ar.one aT Z))<|bh Z (λ hc=>beq (gt hc Z) (gt hc Z))<|aa (ei Z Z Z Z)<|vm Z<|bh Z (λ hc=>aj y0 Z)<|bh Z (λ hc=>ax (gt hc Z) (ae.one c8 Z))<|bh Z (λ hc=>aj y0 Z)<|bh Z (λ hc=>ax (gt hc Z) (ar.one c8 Z))<|sB Z YP (λ hc=>gp (gt hc Z) (gp (gt hc Z) Z)) (λ hc=>Zi _ _ _ _ _ _ f.a_ g.a_ _ (κ.keep bO) (τ.keep bO)) λ hG fD=> ?_;have c6:=γ bO fD;refine aa (ei Z Z Z Z)<|aY Z<|b_ Z Z<| ?_;exact ⟨by rw [← aI6];rfl,c6⟩
theorem aI5  (w:World) (a:ai.b7) (W:ai) (b:ai.b7) (V:ai) (bZ:ai.Has w a W) (l3:ai.Has w b V):
  Calls prog 24 #[.agg ((ai.cells a W).toArray), .agg ((ai.cells b V).toArray)] w (λ e w'=>e= .returned (.bool (decide (W=V)))∧Ext w w'):=by
 refine ch (n:=52) func24 Z Z Z ?_;refine dZ Z Z λ cG bB aR d' ae=> ?_;refine jR Z Z λ eC cJ bt hP ar=> ?_;have bO:=γ aR bt;refine aJ Z<|aw<|aa (aj r7 Z)<| ?_;have ae:=ae.later bt;refine aa (ax Z (ae.par [Φ W.field.wide,Φ W.field.high, .slice a.P W.field.a_.length a.p] mo mq Z))<|aa (aj r7 Z)<|aa (ax Z (ar.par [Φ V.field.wide,Φ V.field.high, .slice b.P V.field.a_.length b.p] mo mq Z))<|cM axZ Z (aI4 W.field V.field _ _ _ _ _ (bZ.P.keep bO) (l3.P.keep bO)) λ hG fD=> ?_;have c6:=γ bO fD;refine vm Z<|bh Z (λ hc=>aj s8 Z)<| ?_;have ae:=ae.later fD;refine bh Z (λ hc=>ax (gt hc Z) (ae.one xq Z))<|bh Z (λ hc=>aj s8 Z)<| ?_;have ar:=ar.later fD;refine bh Z (λ hc=>ax (gt hc Z) (ar.one xq Z))<|sB Z ax0 (λ hc=>gp (gt hc Z) (gp (gt hc Z) Z)) (λ hc=>azy _ _ _ _ _ _ W.bf V.bf _ (bZ.B.keep c6) (l3.B.keep c6)) λ t_ jo=> ?_;have iP:=γ c6 jo;refine aa (ei Z Z Z Z)<|vm Z<|bh Z (λ hc=>aj vU Z)<| ?_;have ae:=ae.later jo;refine bh Z (λ hc=>ax (gt hc Z) (ae.one c8 Z))<|bh Z (λ hc=>aj vU Z)<| ?_;have ar:=ar.later jo;refine bh Z (λ hc=>ax (gt hc Z) (ar.one c8 Z))<|sB Z YP (λ hc=>gp (gt hc Z) (gp (gt hc Z) Z)) (λ hc=>Zi _ _ _ _ _ _ W.bE V.bE _ (bZ.S.keep iP) (l3.S.keep iP)) λ zT ik=> ?_;have k3:=γ iP ik;refine aa (ei Z Z Z Z)<|vm Z<|bh Z (λ hc=>aj AX Z)<| ?_;have ae:=ae.later ik;refine bh Z (λ hc=>ax (gt hc Z) (ae.one c8 Z))<|bh Z (λ hc=>aj AX Z)<| ?_;have ar:=ar.later ik;refine bh Z (λ hc=>ax (gt hc Z) (ar.one c8 Z))<|sB Z YP (λ hc=>gp (gt hc Z) (gp (gt hc Z) Z)) (λ hc=>Zi _ _ _ _ _ _ W.bX V.bX _ (bZ.M.keep k3) (l3.M.keep k3)) λ ua fp=> ?_;have kM:=γ k3 fp;refine aa (ei Z Z Z Z)<|vm Z<|bh Z (λ hc=>aj ld Z)<| ?_;have ae:=ae.later fp;refine bh Z (λ hc=>ax (gt hc Z) (ae.one nb Z))<|bh Z (λ hc=>aj ld Z)<| ?_;have ar:=ar.later fp;refine bh Z (λ hc=>ax (gt hc Z) (ar.one nb Z))<|sB Z ax1 (λ hc=>gp (gt hc Z) (gp (gt hc Z) Z)) (λ hc=>azz _ _ _ _ _ _ W.ao V.ao _ (bZ.T.keep kM) (l3.T.keep kM)) λ Qm mE=> ?_;have yl:=γ kM mE;refine aa (ei Z Z Z Z)<|vm Z<|bh Z (λ hc=>aj HE Z)<| ?_;have ae:=ae.later mE;refine bh Z (λ hc=>ax (gt hc Z) (ae.one aT Z))<|bh Z (λ hc=>aj HE Z)<| ?_;have ar:=ar.later mE;refine bh Z (λ hc=>ax (gt hc Z) (ar.one aT Z))<|bh Z (λ hc=>beq (gt hc Z) (gt hc Z))<|aa (ei Z Z Z Z)<|vm Z<|bh Z (λ hc=>aj HG Z)<|bh Z (λ hc=>ax (gt hc Z) (ae.one aT Z))<|bh Z (λ hc=>aj HG Z)<|bh Z (λ hc=>ax (gt hc Z) (ar.one aT Z))<|bh Z (λ hc=>beq (gt hc Z) (gt hc Z))<|aa (ei Z Z Z Z)<|aY Z<|b_ Z Z<| ?_;exact ⟨by rw [← aI7];rfl,yl⟩
section
theorem aGJ:∀ (n:Nat) (l:List Nat),l.Nodup→(∀ x∈l,x<n)→l.length≤n:=by
 intro n;induction n with
 | zero =>
  intro l _ h;cases l with
  | nil=>exact aYg _
  | cons x r=>exact absurd (h x aYE) (by omega)
 | succ n bL =>
  intro l hn h;by_cases hm:n∈l
  ·have κ:=bL (l.erase n) (hn.erase _) (λ x hx=>by
    have:=h x (List.mem_of_mem_erase hx);have fZ:x≠n:=λ e=>by subst e;exact (List.Nodup.not_mem_erase hn) hx
    omega)
   rw [List.length_erase_of_mem hm] at κ;omega
  ·have:=bL l hn (λ x hx=>by
    have:=h x hx;have fZ:x≠n:=λ e=>hm (by rw [← e];exact hx)
    omega)
   omega
section
variable {f:aL} {a b c x y:az} {d D:Int} {aZ:List Int} {aD:az→Int}
theorem awd (hf:f.a7=0) {l:List az} (hn:l.Nodup) (hi:∀ x∈l,f.fP x=true):l.length≤f.a_.length:=by
 have κ:(l.map f.at_).Nodup:=by
  have:∀ l:List az,l.Nodup→(∀ x∈l,f.fP x=true)→(l.map f.at_).Nodup:=by
   intro l;induction l with
   | nil=>intro _ _;exact bcA
   | cons x r bL =>
    intro hn hi;rw [bbv] at hn;rw [aY3,bbv];refine ⟨λ hm=> ?_,bL hn.2 λ y aE=>hi y (aYm _ aE)⟩;obtain ⟨y,aE,e⟩:=aYU.1 hm;have:=aL.agd hf (hi y (aYm _ aE)) (hi x aYE) e;subst this;exact hn.1 aE
  exact this l hn hi
 have:=aGJ f.a_.length _ κ (λ i hm=>by
  obtain ⟨y,aE,rfl⟩:=aYU.1 hm;exact (aL.AD hf (hi y aE)).1)
 rwa [aYT] at this
abbrev n3 (f:aL) (a:az):az→Int→Prop:=rW.p2 f.dr f.hB (λ s=>s=a)
abbrev uv (f:aL) (a:az):az→Int→Prop:=rW.vF f.dr f.hB (λ s=>s=a)
theorem n3.tS (r:n3 f a x d):0≤d:=rW.p2.tS (aL.acD f) r
theorem n3.ground (ha:f.ground a=true) (r:n3 f a x d):f.ground x=true:=by
 induction r with
 | start hs=>rw [hs];exact ha
 | step _ aE _=>exact (aL.PL.1 aE).2
theorem n3.x' (r:n3 f a x d) {e:Int} (q:n3 f x y e):n3 f a y (d+e):=by
 induction q with
 | start hs=>rw [hs,Int.add_zero];exact r
 | step _ aE bL=>rw [← Int.add_assoc];exact .step bL aE
theorem uv.pred (h:uv f a x d):(x=a∧d=0)∨∃ p e,uv f a p e∧x∈f.dr p∧d=e+f.hB x:=by
 obtain ⟨r,hm⟩:=h;cases r with
 | start hs=>exact .inl ⟨hs,rfl⟩
 | @step p _ e hp aE =>
  obtain ⟨e',he⟩:=rW.p2.alx (aL.acD f) hp;have κ:=he.2 _ hp;have τ:=hm _ (.step he.1 aE);have:e=e':=by omega
  subst this;exact .inr ⟨p,e,he,aE,Z⟩
theorem uv.chain (hf:f.a7=0) (ha:f.ground a=true):∀ (n:Nat) (x:az) (d:Int),uv f a x d→d.toNat=n→∃ l:List az,l.Nodup∧(∀ y∈l,f.fP y=true∧∃ e,uv f a y e∧e≤d)∧d+3≤3 * (l.length:Int):=by
 intro n;induction n using Nat.strongRecOn with
 | ind n bL =>
  intro x d h hn;have hx:=aL.lj (n3.ground ha h.1);rcases h.pred with ⟨κ,τ⟩ | ⟨p,e,κ,τ,au⟩
  ·refine ⟨[x],by simp,λ y aE=> ?_,by rw [τ];simp⟩;rw [aYf.1 aE];exact ⟨hx,d,h,aZl _⟩
  ·have ak:=f.rk (c:=x);have he:=n3.tS κ.1;obtain ⟨l,fo,kU,Iu⟩:=bL e.toNat (by omega) p e κ rfl;refine ⟨x::l,bbv.2 ⟨λ hm=> ?_,fo⟩,λ y aE=> ?_,by rw [aYc];omega⟩
   ·obtain ⟨_,e',aU,bN⟩:=kU x hm;have:=aU.uniq h;omega
   ·rcases aYk.1 aE with rfl | aE
    ·exact ⟨hx,d,h,aZl _⟩
    ·obtain ⟨aU,e',bN,cq⟩:=kU y aE;exact ⟨aU,e',bN,by omega⟩
theorem uv.lH (hf:f.a7=0) (ha:f.ground a=true) (h:uv f a x d):d+3≤3 * (f.a_.length:Int):=by
 obtain ⟨l,fo,kU,Iu⟩:=h.chain hf ha _ x d rfl;have:=awd hf fo λ y aE=>(kU y aE).1;omega
def cellAt (f:aL) (i:Nat):az:=⟨(i:Int) % f.wide,(i:Int) / f.wide⟩
theorem av6 (hf:f.a7=0) (hc:f.fP c=true):cellAt f (f.at_ c)=c:=by
 obtain ⟨_,_,a2,a3,a4,a5⟩:=aL.idx hf hc;have h:=(aL.AD hf hc).2;unfold cellAt;rw [h];have aW:(c.y * f.wide+c.x) % f.wide=c.x:=by rw [bcg,ba9,bcf a2 a3]
 have bb:(c.y * f.wide+c.x) / f.wide=c.y:=by rw [bcg,Int.add_mul_ediv_right _ _ (by omega),Int.ediv_eq_zero_of_lt a2 a3,Int.zero_add]
 rw [aW,bb]
theorem azZ (hf:f.a7=0) {g:az→Int} (aN:∀ c,f.fP c=false→g c= -1):f.aD ((List.range f.a_.length).map λ i=>g (cellAt f i)) c=g c:=by
 cases hc:f.fP c with
 | false=>rw [aL.ZD hc,aN c hc]
 | true =>
  rw [aL.Ku hc,aX7,aYv,bbM (aL.AD hf hc).1];show g (cellAt f (f.at_ c))=g c;rw [av6 hf hc]
theorem anY (hf:f.a7=0) (ha:f.ground a=true) (b:az):∃ aZ,qJ f a b aZ:=by
 let Q:az→Int→Prop:=λ c d=>uv f a c d∧∀ D,uv f a b D→d+aL.l1 b c≤D
 let g:az→Int:=λ c=>@dite _ (∃ d,Q c d) (Classical.propDecidable _) (λ h=>h.choose) λ _=> -1
 have Tk:∀ c d,Q c d→g c=d:=λ c d h=>by
  have hex:∃ d,Q c d:=⟨d,h⟩;show @dite _ (∃ d,Q c d) (Classical.propDecidable _) (λ h=>h.choose) (λ _=> -1)=d;rw [dif_pos hex];exact hex.choose_spec.1.uniq h.1
 have gn:∀ c,(¬ ∃ d,Q c d)→g c= -1:=λ c h=>by
  show @dite _ (∃ d,Q c d) (Classical.propDecidable _) (λ h=>h.choose) (λ _=> -1)= -1;rw [dif_neg h]
 have AY:∀ c,0≤g c→Q c (g c):=λ c h=>by
  by_cases hex:∃ d,Q c d
  ·obtain ⟨d,hd⟩:=hex;rw [Tk c d hd];exact hd
  ·rw [gn c hex] at h;omega
 have go:∀ c,f.fP c=false→g c= -1:=λ c hc=>gn c λ ⟨d,hd⟩=>by
  have:=aL.lj (n3.ground ha hd.1.1);rw [hc] at this;cases this
 have oK:∀ c,f.aD ((List.range f.a_.length).map λ i=>g (cellAt f i)) c=g c:=λ c=>azZ hf go;refine ⟨(List.range f.a_.length).map λ i=>g (cellAt f i),by rw [aYT,bdr],⟨λ c h=> ?_,λ c h=> ?_,λ c d hd hle=> ?_,λ c h=> ?_⟩,λ c=> ?_,λ c h=> ?_⟩
 ·rw [oK c] at h ⊢;by_cases hex:∃ d,Q c d
  ·obtain ⟨d,hd⟩:=hex;rw [Tk c d hd] at h;have:=n3.tS hd.1.1;omega
  ·exact gn c hex
 ·rw [oK c] at h ⊢;exact AY c h
 ·rw [oK c];exact Tk c d ⟨hd,hle⟩
 ·rw [oK c] at h ⊢;have I:=AY c h;rcases I.1.pred with κ | ⟨p,e,κ,τ,au⟩
  ·exact .inl κ
  ·right;have he:=aL.Zm b (aL.PL.1 τ).1;have ak:=f.rk (c:=c);have hp:g p=e:=Tk p e ⟨κ,λ D xw=>by have:=I.2 D xw;omega⟩;exact ⟨p,by rw [oK p,hp];exact n3.tS κ.1,τ,by rw [oK p,hp];exact au⟩
 ·rw [oK c];by_cases h:0≤g c
  ·have:=(AY c h).1.lH hf ha;omega
  ·omega
 ·rw [oK c] at h;exact n3.ground ha (AY c h).1.1
theorem ZC (hf:f.a7=0) (ha:f.ground a=true):rW.Spec f.dr f.hB (aL.l1 b) (λ s=>s=a) b (c' f a b):=by
 obtain ⟨aZ,h⟩:=anY hf ha b;rw [← h.Tb];exact h.spec
theorem N2 (hf:f.a7=0) (ha:f.ground a=true) (h:0≤c' f a b c):uv f a c (c' f a b c):=((ZC hf ha).p6 c h).1
theorem aiU (hf:f.a7=0) (ha:f.ground a=true) (h:uv f a b d):c' f a b b=d:=(ZC hf ha).end_ (aL.Zl b) h
theorem azY (hf:f.a7=0) (ha:f.ground a=true) (h:n3 f a b d):0≤c' f a b b∧c' f a b b≤d:=by
 obtain ⟨e,he⟩:=rW.p2.alx (aL.acD f) h;rw [aiU hf ha he];exact ⟨n3.tS he.1,he.2 _ h⟩
theorem Tc (hf:f.a7=0) (ha:f.ground a=true) (h:0≤c' f a b b):pX f a (c' f a b):=by
 obtain ⟨aZ,hp⟩:=anY hf ha b;exact pX.IN hp h
theorem aLO (h:pX f a aD):∀ (n:Nat) (c:az),0≤aD c→(aD c).toNat=n→∀ x∈gy f aD a c,0≤aD x∧aD x≤aD c∧f.ground x=true:=by
 intro n;induction n using Nat.strongRecOn with
 | ind n bL =>
  intro c hc hn x hx;by_cases e:c=a
  ·subst e;rw [DS h] at hx;rw [aYf.1 hx];exact ⟨hc,aZl _,h.gr _ hc⟩
  ·obtain ⟨nO,pB,nP,zH⟩:=h.prev hc e;have ak:=f.rk (c:=c);rw [DT h hc e] at hx;rcases aYk.1 hx with rfl | hx
   ·exact ⟨hc,aZl _,h.gr _ hc⟩
   ·obtain ⟨lM,nt,Bt⟩:=bL _ (by omega) _ nP rfl x hx;exact ⟨lM,by omega,Bt⟩
theorem Zs (he:ib f a b=0):f.a7=0∧f.ground a=true∧f.ground b=true∧0≤c' f a b b∧p' f a b=c' f a b b∧gX f a b=(gy f (c' f a b) a b).reverse:=by
 rcases Zr f a b with ⟨κ,τ⟩ | ⟨κ,τ,au⟩ | ⟨κ,τ,au,aU⟩ | ⟨κ,τ,au,aU | aU⟩
 ·rw [τ] at he;exact absurd he κ
 ·rw [au] at he;exact absurd he τ
 ·rw [aU] at he;cases he
 ·rw [aU.2] at he;cases he
 ·refine ⟨κ,τ,au,aU.1, ?_, ?_⟩
  ·unfold p';rw [aYq he]
  ·unfold gX;rw [aYq he]
end
end
def aUv:List bj:= [⟨1,0,1,⟨2,0⟩,10,0⟩]
def aUu:List eQ:= [⟨1,⟨2,0⟩⟩]
end Go.Proofs.YtmeeljmapailnaaGreat
