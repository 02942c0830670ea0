import Derived.Test.YtmeeljmapailnaaGreatLnO
set_option linter.unusedVariables false
set_option linter.unusedSimpArgs false
set_option maxRecDepth 100000
set_option maxHeartbeats 4000000
open Go.RowKit
namespace Go.Proofs.YtmeeljmapailnaaGreat
open Tryz
abbrev aZr:=@List.pairwise_cons
abbrev bcq:=@List.eq_nil_iff_forall_not_mem
section
variable {l:List Int} {y:Int}
structure lB (L:a6):Prop where
 w1:1≤L.b'
 cx:L.b'≤16
 s:L.bC.length≤200
 wl:L.way.length≤1000
 Bh:L.bV.length≤1000
 gs:L.got.length≤L.bC.length
 ge:L.got=L.bC.take L.got.length
 gW:0≤L.base
 mO:L.base≤(L.got.length:Int)
 hn:(L.got.length:Int)+(L.held.length:Int)≤L.next
 iJ:L.next≤L.base+L.b'
 ns:L.next≤(L.bC.length:Int)
 ug:∀ y∈L.way,0≤y∧y≤L.next - 1
 tH:∀ y∈L.bV,0≤y∧y≤(L.got.length:Int)
 ha:∀ y∈L.held,(L.got.length:Int)+1≤y∧y≤L.next - 1
 inc:L.held.Pairwise (· < ·)
theorem aId:sg l=true↔l.Pairwise (· < ·):=by
 constructor
 ·intro h;have h:=aY6 h;rw [aYV];intro i j hi ay jF;have mono:∀ d,i+1+d<l.length→l.getD i 0<l.getD (i+1+d) 0:=by
   intro d;induction d with
   | zero=>intro hd;exact h i (by omega)
   | succ d bL=>intro hd;have:=h (i+1+d) (by omega);have:=bL (by omega);rw [show i+1+(d+1)=i+1+d+1 by omega];omega
  have:=mono (j - (i+1)) (by omega);rw [show i+1+(j - (i+1))=j by omega,l2 hi,l2 ay] at this;exact this
 ·intro h;rw [aYV] at h;refine aYD λ i hi=> ?_;rw [l2 (by omega),l2 (by omega)];exact h i (i+1) (by omega) (by omega) (by omega)
theorem XU {lo hi:Int}:l.all (λ n=>b9 n lo hi)=true↔∀ y∈l,lo≤y∧y≤hi:=by
 rw [aYW];exact ⟨λ h y aE=>hV (h y aE),λ h y aE=>nM (h y aE).1 (h y aE).2⟩
theorem lB.a7 {L:a6} (h:lB L):L.a7=0:=by
 obtain ⟨w1,cx,s,wl,Bh,gs,ge,gW,mO,hn,iJ,ns,ug,tH,ha,inc⟩:=h;refine a6.Sn (nM w1 cx) ?_ (a6.aja (aYD (by omega)) (aYD ge) (nM gW mO) (aYD (by omega)) (nM hn (by omega)) (XU.2 ug) (XU.2 tH) (XU.2 ha) (aId.2 inc));unfold a6.wb;simp only [aYM,aYI];omega
section
variable {L:a6} {x:sP} {n:Int}
theorem aJl {b:Int} {j:Nat} (h:y∈rD b j):b≤y∧y<b+(j:Int):=by
 induction j with
 | zero=>simp [rD] at h
 | succ j bL =>
  rw [rD] at h;rcases aYo.1 h with h | h
  ·have:=bL h;omega
  ·have:=aYf.1 h;omega
theorem lB.adm (h:lB L) (τ:L.send.2=0):lB L.send.1∧L.send.1.got=L.got∧L.send.1.bC=L.bC∧L.send.1.base=L.base∧L.next≤L.send.1.next:=by
 obtain ⟨w1,cx,s,wl,Bh,gs,ge,gW,mO,hn,iJ,ns,ug,tH,ha,inc⟩:=h;unfold a6.send at τ ⊢;split at τ
 ·simp at τ
 ·rename_i hc
  rw [aYi hc];refine ⟨⟨w1,cx,s, ?_,Bh,gs,ge,gW,mO, ?_, ?_, ?_, ?_,tH, ?_,inc⟩,Z,Z,Z, ?_⟩
  ·show (L.way++_).length≤1000;rw [aX9,I1];omega
  ·dsimp only;omega
  ·dsimp only;omega
  ·dsimp only;omega
  ·intro y aE;show 0≤y∧y≤min (L.base+L.b') (L.bC.length:Int) - 1;rcases aYo.1 aE with aE | aE
   ·have:=ug y aE;omega
   ·have:=aJl aE;omega
  ·intro y aE;have:=ha y aE;dsimp only;omega
  ·dsimp only;omega
theorem lB.aLR (h:lB L) (i:Int) (k:Bool):lB {L with way:=hj L.way i k}:=by
 obtain ⟨w1,cx,s,wl,Bh,gs,ge,gW,mO,hn,iJ,ns,ug,tH,ha,inc⟩:=h;exact ⟨w1,cx,s,aYF (adE _ _ _) wl,Bh,gs,ge,gW,mO,hn,iJ,ns,λ y aE=>ug y (apk aE),tH,ha,inc⟩
theorem lB.aue (h:lB L) (i:Int) (k:Bool):lB {L with bV:=hj L.bV i k}:=by
 obtain ⟨w1,cx,s,wl,Bh,gs,ge,gW,mO,hn,iJ,ns,ug,tH,ha,inc⟩:=h;exact ⟨w1,cx,s,wl,aYF (adE _ _ _) Bh,gs,ge,gW,mO,hn,iJ,ns,ug,λ y aE=>tH y (apk aE),ha,inc⟩
theorem lB.aBY (h:lB L) (i:Int) (k:Bool) (akF:0≤n∧n≤(L.got.length:Int)):lB {L with bV:=hj L.bV i k,base:=max L.base n,next:=max L.next (max L.base n)}:=by
 have h:=h.aue i k;obtain ⟨w1,cx,s,wl,Bh,gs,ge,gW,mO,hn,iJ,ns,ug,tH,ha,inc⟩:=h;simp only at *
 have e:max L.next (max L.base n)=L.next:=by omega
 rw [e];exact ⟨w1,cx,s,wl,Bh,gs,ge,by dsimp only;omega,by dsimp only;omega,hn,by dsimp only;omega,ns,ug,tH,ha,inc⟩
end
section
variable {L:a6} {x:sP} {n:Int}
theorem aEp {n:Int} (h:y<n):v_ (y::l) n=y::v_ l n:=by
 unfold v_ AE;rw [List.countP_cons_of_pos (by simpa using h)];simp
theorem awz {n:Int} (h:∀ y∈l,n≤y):AE l n=0:=by
 unfold AE;rw [List.countP_eq_zero];intro y aE;have:=h y aE;simp;omega
theorem aEn {n:Int} (h:¬ y<n) (ah:(y::l).Pairwise (· < ·)):v_ (y::l) n=n::y::l:=by
 have:=awz (l:=y::l) (n:=n) (λ z bc=>by
  rcases aYk.1 bc with rfl | bc
  ·omega
  ·have:=(aZr.1 ah).1 z bc;omega)
 unfold v_;rw [this];rfl
theorem Ug {n:Int}:y∈v_ l n↔y=n∨y∈l:=by
 unfold v_;rw [aYo,aYk];constructor
 ·rintro (h | rfl | h)
  ·exact .inr (aZp h)
  ·exact .inl Z
  ·exact .inr (aZw h)
 ·rintro (rfl | h)
  ·exact .inr (.inl Z)
  ·rw [← aZ5 (AE l n) l] at h;rcases aYo.1 h with h | h
   ·exact .inl h
   ·exact .inr (.inr h)
theorem aEo (l:List Int) (n:Int):(v_ l n).length=l.length+1:=alw l n (ags l n)
theorem alu {n:Int}:∀ {l:List Int},l.Pairwise (· < ·)→¬ n∈l→(v_ l n).Pairwise (· < ·)
 | [],_,_=>by simp [v_,AE]
 | y::l,h,hn=>by
  have aE:n≠y:=λ e=>hn (by rw [e];exact aYE);by_cases bF:y<n
  ·rw [aEp bF,aZr];refine ⟨λ z bc=> ?_,alu (aZr.1 h).2 λ hm=>hn (aYm _ hm)⟩;rcases Ug.1 bc with rfl | bc
   ·exact bF
   ·exact (aZr.1 h).1 z bc
  ·rw [aEn bF h,aZr];refine ⟨λ z bc=> ?_,h⟩;rcases aYk.1 bc with rfl | bc
   ·omega
   ·have:=(aZr.1 h).1 z bc;omega
theorem acR:∀ {l:List Int} {lo hi:Int},l.Pairwise (· < ·)→(∀ y∈l,lo≤y∧y≤hi)→(l.length:Int)≤max 0 (hi - lo+1)
 | [],_,_,_,_=>by simp only [aYh];omega
 | y::l,lo,hi,h,ag=>by
  have κ:=ag y aYE;have:=acR (lo:=y+1) (hi:=hi) (aZr.1 h).2 λ z bc=>⟨by have:=(aZr.1 h).1 z bc;omega,(ag z (aYm _ bc)).2⟩;rw [aYc];omega
theorem aiG {S:List ByteArray}:∀ {r:List Int} {G:List ByteArray},G=S.take G.length→G.length≤S.length→r.Pairwise (· < ·)→(∀ y∈r,(G.length:Int)≤y∧y<(S.length:Int))→
  (kA S G r).1=S.take (kA S G r).1.length∧(kA S G r).1.length≤S.length∧(kA S G r).2.Pairwise (· < ·)∧(∀ y∈(kA S G r).2,((kA S G r).1.length:Int)+1≤y∧y∈r)∧(kA S G r).1.length+(kA S G r).2.length=G.length+r.length∧G.length≤(kA S G r).1.length∧(kA S G r).1.take G.length=G
 | [],G,κ,τ,_,_=>by
  unfold kA;exact ⟨κ,τ,List.Pairwise.nil,by simp,rfl,aYg _,aYp (aYg _)⟩
 | h::r,G,κ,τ,au,aU=>by
  have eI:=aU h aYE;unfold kA;by_cases e:h=(G.length:Int)
  ·rw [aYq e];have ah:(G++ [S.getD h.toNat ByteArray.empty]).length=G.length+1:=by rw [aX9,aYr]
   obtain ⟨b2,a2,a3,a4,a5,EI,EJ⟩:=aiG (S:=S) (r:=r) (G:=G++ [S.getD h.toNat ByteArray.empty]) (by
    rw [ah,x_ (d:=ByteArray.empty) (by omega),← κ,show h.toNat=G.length by omega]) (by omega) (aZr.1 au).2 (λ y aE=>⟨by have:=(aZr.1 au).1 y aE;omega,(aU y (aYm _ aE)).2⟩)
   refine ⟨b2,a2,a3,λ y aE=>⟨(a4 y aE).1,aYm _ (a4 y aE).2⟩,by rw [a5,ah,aYc];omega,by omega, ?_⟩;have:=aZb (List.take G.length) EJ;rw [baz,aZx (by omega),aY1 (aYg _),aYp (aYg _)] at this;exact this
  ·rw [aYi e];refine ⟨κ,τ,au,λ y aE=>⟨?_,aE⟩,Z,aYg _,aYp (aYg _)⟩;rcases aYk.1 aE with rfl | aE
   ·show (G.length:Int)+1≤y;omega
   ·have:=(aZr.1 au).1 y aE;show (G.length:Int)+1≤y;omega
theorem lB.come (h:lB L) (Ij:0≤n) (Bb:n≤L.next - 1) (ak:L.bV.length<1000):lB (L.comes n)∧(L.comes n).bC=L.bC∧(L.comes n).base=L.base∧(L.comes n).next=L.next∧(L.comes n).way=L.way∧(L.comes n).b'=L.b'∧L.got.length≤(L.comes n).got.length∧(L.comes n).got.take L.got.length=L.got:=by
 obtain ⟨w1,cx,s,wl,Bh,gs,ge,gW,mO,hn,iJ,ns,ug,tH,ha,inc⟩:=h;unfold a6.comes;split
 ·rename_i hc
  have ag:∀ y∈v_ L.held n,(L.got.length:Int)+1≤y∧y≤L.next - 1:=λ y aE=>by
   rcases Ug.1 aE with rfl | aE
   ·omega
   ·exact ha y aE
  have hp:=alu inc hc.2;have hlen:=acR hp ag;refine ⟨⟨w1,cx,s,wl, ?_,gs,ge,gW,mO, ?_,iJ,ns,ug, ?_,ag,hp⟩,Z,Z,Z,Z,Z,aYg _,aYp (aYg _)⟩
  ·show (L.bV++_).length≤1000;rw [aX9,aYr];omega
  ·have:=aEo L.held n;dsimp only;omega
  ·intro y aE;rcases aYo.1 aE with aE | aE
   ·exact tH y aE
   ·have:=aYf.1 aE;dsimp only;omega
 ·split
  ·rename_i e
   have Ib:L.got.length<L.bC.length:=by omega
   have ah:(L.got++ [L.bC.getD n.toNat ByteArray.empty]).length=L.got.length+1:=by rw [aX9,aYr]
   obtain ⟨b2,a2,a3,a4,a5,EI,EJ⟩:=aiG (S:=L.bC) (r:=L.held) (G:=L.got++ [L.bC.getD n.toNat ByteArray.empty]) (by
    rw [ah,x_ (d:=ByteArray.empty) Ib,← ge,show n.toNat=L.got.length by omega]) (by omega) inc (λ y aE=>by have:=ha y aE;omega)
   have hlen:=acR inc ha;refine ⟨⟨w1,cx,s,wl, ?_,a2,b2,gW, ?_, ?_,iJ,ns,ug, ?_,λ y aE=>⟨(a4 y aE).1,(ha y (a4 y aE).2).2⟩,a3⟩,Z,Z,Z,Z,Z,by dsimp only;omega, ?_⟩
   ·show (L.bV++_).length≤1000;rw [aX9,aYr];omega
   ·dsimp only;omega
   ·dsimp only;omega
   ·intro y aE;rcases aYo.1 aE with aE | aE
    ·have:=tH y aE;dsimp only;omega
    ·have:=aYf.1 aE;dsimp only;omega
   ·have:=aZb (List.take L.got.length) EJ;rw [baz,aZx (by omega),aY1 (aYg _),aYp (aYg _)] at this;exact this
  ·refine ⟨⟨w1,cx,s,wl, ?_,gs,ge,gW,mO,hn,iJ,ns,ug, ?_,ha,inc⟩,Z,Z,Z,Z,Z,aYg _,aYp (aYg _)⟩
   ·show (L.bV++_).length≤1000;rw [aX9,aYr];omega
   ·intro y aE;rcases aYo.1 aE with aE | aE
    ·exact tH y aE
    ·have:=aYf.1 aE;dsimp only;omega
end
end
section
variable {y n gW e:Int} {L:a6} {r:List Int}
theorem aJk {b:Int} {j:Nat} (h:b≤y∧y<b+(j:Int)):y∈rD b j:=by
 induction j with
 | zero=>omega
 | succ j bL =>
  rw [rD];by_cases e:y=b+(j:Int)
  ·exact aY5 _ (aYf.2 e)
  ·exact aZJ _ (bL ⟨h.1,by omega⟩)
structure BU (L:a6) (gW e:Int):Prop where
 eB:lB L
 base:L.base=gW
 Bq:L.next=e
 E6:L.way.length+L.bV.length≤16
 all:∀ n,gW≤n→n<e→n∈L.way∨n<(L.got.length:Int)∨n∈L.held
theorem aJm (h:lB L) (hw:L.way= []) (ha:L.bV= []):(L.step ⟨2,0,false, .empty⟩).2=0∧BU (L.step ⟨2,0,false, .empty⟩).1 L.base (min (L.base+L.b') (L.bC.length:Int))∧(L.step ⟨2,0,false, .empty⟩).1.bC=L.bC∧(L.step ⟨2,0,false, .empty⟩).1.b'=L.b':=by
 have cx:=h.cx;have gW:=h.gW;have mO:=h.mO;have gs:=h.gs;have hs:¬ 1000<(L.way.length:Int)+min (L.base+L.b') (L.bC.length:Int) - L.base:=by rw [hw];simp only [aYh];omega
 have e:L.step ⟨2,0,false, .empty⟩=L.send:=by unfold a6.step;rw [aYi (show ¬ (2:Int)=1 by decide),aYq rfl]
 have bb:L.send.2=0:=by unfold a6.send;rw [aYi hs]
 rw [e];refine ⟨bb,⟨(h.adm bb).1,(h.adm bb).2.2.2.1, ?_, ?_, ?_⟩,(h.adm bb).2.2.1, ?_⟩
 ·unfold a6.send;rw [aYi hs]
 ·unfold a6.send;rw [aYi hs];dsimp only;rw [hw,ha,aZy,I1,aYh];omega
 ·intro n κ τ;left;unfold a6.send;rw [aYi hs];dsimp only;rw [hw,aZy];exact aJk ⟨κ,by omega⟩
 ·unfold a6.send;rw [aYi hs]
theorem Zp {S:List ByteArray}:∀ {r:List Int} {G:List ByteArray},G.length≤(kA S G r).1.length
 | [],G=>aYg _
 | h::r,G=>by
  unfold kA;split
  ·have:=Zp (S:=S) (r:=r) (G:=G++ [S.getD h.toNat ByteArray.empty]);rw [aX9,aYr] at this;omega
  ·exact aYg _
theorem aiF {S:List ByteArray} {y:Int}:∀ {r:List Int} {G:List ByteArray},y∈r→y∈(kA S G r).2∨y<((kA S G r).1.length:Int)
 | [],G,h=>by simp at h
 | h::r,G,aE=>by
  unfold kA;split
  ·rename_i e
   rcases aYk.1 aE with rfl | aE
   ·right;have:=Zp (S:=S) (r:=r) (G:=G++ [S.getD y.toNat ByteArray.empty]);rw [aX9,aYr] at this;omega
   ·exact aiF aE
  ·exact .inl aE
theorem Yu (h:lB L) {m:Int} (hm:m<(L.got.length:Int)∨m∈L.held∨m=n):m<((L.comes n).got.length:Int)∨m∈(L.comes n).held:=by
 unfold a6.comes;split
 ·rcases hm with hm | hm | rfl
  ·exact .inl hm
  ·exact .inr (Ug.2 (.inr hm))
  ·exact .inr (Ug.2 (.inl Z))
 ·rename_i κ
  split
  ·rename_i e
   have ah:=Zp (S:=L.bC) (r:=L.held) (G:=L.got++ [L.bC.getD n.toNat ByteArray.empty]);rw [aX9,aYr] at ah;rcases hm with hm | hm | rfl
   ·left;dsimp only;omega
   ·exact (aiF hm).symm
   ·left;dsimp only;omega
  ·rename_i e
   rcases hm with hm | hm | rfl
   ·exact .inl hm
   ·exact .inr hm
   ·by_cases eI:m∈L.held
    ·exact .inr eI
    ·left;have:¬ (L.got.length:Int)<m:=λ bF=>κ ⟨bF,eI⟩;dsimp only;omega
theorem agW (L:a6) (n:Int):(L.comes n).bV=L.bV++ [((L.comes n).got.length:Int)]:=by
 unfold a6.comes;split
 ·rfl
 ·split<;>rfl
theorem aJ3 (h:BU L gW e) (hw:L.way=y::r):(L.step ⟨3,0,false, .empty⟩).2=0∧BU (L.step ⟨3,0,false, .empty⟩).1 gW e∧(L.step ⟨3,0,false, .empty⟩).1.bC=L.bC∧(L.step ⟨3,0,false, .empty⟩).1.b'=L.b'∧(L.step ⟨3,0,false, .empty⟩).1.way=r∧(L.step ⟨3,0,false, .empty⟩).1.bV=L.bV++ [((L.step ⟨3,0,false, .empty⟩).1.got.length:Int)]:=by
 have di:iL L.way 0=true:=by rw [hw];unfold iL;simp
 have uO:mC L.way 0=y:=by unfold mC;rw [aYq di,hw];rfl
 have dY:hj L.way 0 false=r:=by unfold hj;rw [aYq ⟨di,rfl⟩,hw];rfl
 have E6:=h.E6;have TB:¬ (L.bV.length:Int)=1000:=by omega
 have aW:L.step ⟨3,0,false, .empty⟩=(({L with way:=r}:a6).comes y,0):=by
  unfold a6.step;rw [aYi (show ¬ (3:Int)=1 by decide),aYi (show ¬ (3:Int)=2 by decide),aYq rfl];dsimp only;rw [aYi (by rw [di];decide),aYi TB,uO,dY]
 have aE:=h.eB.ug y (by rw [hw];exact aYE);have aN:lB ({L with way:=r}:a6):=by have:=h.eB.aLR 0 false;rwa [dY] at this
 obtain ⟨g,g1,g2,g3,g4,g5,g6,g7⟩:=aN.come aE.1 aE.2 (by dsimp only;omega);rw [aW];have hlen:r.length+1=L.way.length:=by rw [hw];rfl
 refine ⟨Z,⟨g,g2.trans h.base,g3.trans h.Bq, ?_,λ n κ τ=> ?_⟩,g1,g5,g4,agW _ _⟩
 ·rw [g4,agW,aX9,aYr];dsimp only;omega
 ·rw [g4];rcases h.all n κ τ with hn | hn | hn
  ·rw [hw] at hn;rcases aYk.1 hn with rfl | hn
   ·exact .inr (Yu aN (.inr (.inr Z)))
   ·exact .inl hn
  ·exact .inr (Yu aN (.inl hn))
  ·exact .inr (Yu aN (.inr (.inl hn)))
theorem aun (h:BU L gW e) (hw:L.way= []):e≤(L.got.length:Int)∧L.held= []:=by
 have mO:=h.eB.mO;have ag:=h.base;have he:e≤(L.got.length:Int):=by
  by_cases bF:e≤(L.got.length:Int)
  ·exact bF
  ·rcases h.all (L.got.length:Int) (by omega) (by omega) with hn | hn | hn
   ·rw [hw] at hn;simp at hn
   ·omega
   ·have:=h.eB.ha _ hn;omega
 refine ⟨he, ?_⟩;rw [bcq];intro y aE;have:=h.eB.ha y aE;have:=h.Bq;omega
structure JR (L:a6) (gW:Int):Prop where
 eB:lB L
 way:L.way= []
 held:L.held= []
 more:gW<(L.got.length:Int)
 E6:L.bV.length≤16
 last:(L.bV= []∧L.base=(L.got.length:Int))∨L.bV.getLast? =some (L.got.length:Int)
theorem aB0 (h:JR L gW) (ha:L.bV=n::r):(L.step ⟨4,0,false, .empty⟩).2=0∧JR (L.step ⟨4,0,false, .empty⟩).1 gW∧(L.step ⟨4,0,false, .empty⟩).1.bC=L.bC∧(L.step ⟨4,0,false, .empty⟩).1.b'=L.b'∧(L.step ⟨4,0,false, .empty⟩).1.bV=r:=by
 have di:iL L.bV 0=true:=by rw [ha];unfold iL;simp
 have uO:mC L.bV 0=n:=by unfold mC;rw [aYq di,ha];rfl
 have dY:hj L.bV 0 false=r:=by unfold hj;rw [aYq ⟨di,rfl⟩,ha];rfl
 have hn:=h.eB.tH n (by rw [ha];exact aYE);have mO:=h.eB.mO;have g:=h.eB.aBY 0 false hn;rw [dY] at g;have aW:L.step ⟨4,0,false, .empty⟩=({L with bV:=r,base:=max L.base n,next:=max L.next (max L.base n)},0):=by
  unfold a6.step;rw [aYi (show ¬ (4:Int)=1 by decide),aYi (show ¬ (4:Int)=2 by decide),aYi (show ¬ (4:Int)=3 by decide),aYq rfl];dsimp only;rw [aYi (by rw [di];decide),uO,dY]
 rw [aW];have E6:=h.E6;rw [ha,aYc] at E6;refine ⟨Z,⟨g,h.way,h.held,h.more,by dsimp only;omega, ?_⟩,Z,Z,Z⟩;rcases h.last with ⟨ah,_⟩ | ah
 ·rw [ha] at ah;cases ah
 ·rw [ha] at ah;cases r with
  | nil =>
   left;have:n=(L.got.length:Int):=by simpa using ah
   exact ⟨Z,by dsimp only;omega⟩
  | cons m r'=>right;dsimp only;rw [List.getLast?_cons_cons] at ah;exact ah
theorem YK {x:sP} (h:lB L) (τ:(L.step x).2=0):L.uI x=((L.step x).1,0):=SC h.a7 τ
theorem aJn (h:lB L) (hw:L.way= []) (ha:L.bV= []):∃ M,L.uI ⟨2,0,false, .empty⟩=(M,0)∧BU M L.base (min (L.base+L.b') (L.bC.length:Int))∧M.bC=L.bC∧M.b'=L.b'∧(L.base<(L.bC.length:Int)→0<M.way.length):=by
 obtain ⟨κ,τ,au,aU⟩:=aJm h hw ha;refine ⟨_,YK h κ,τ,au,aU,λ ag=> ?_⟩;have w1:=h.w1;rcases τ.all L.base (aZl _) (by omega) with hn | hn | hn
 ·exact List.length_pos_of_mem hn
 ·by_cases bc:0<(L.step ⟨2,0,false, .empty⟩).1.way.length
  ·exact bc
  ·exfalso;have e:L.step ⟨2,0,false, .empty⟩=L.send:=by unfold a6.step;rw [aYi (show ¬ (2:Int)=1 by decide),aYq rfl]
   have cx:=h.cx;have gW:=h.gW;have gs:=h.gs;have mO:=h.mO;have hs:¬ 1000<(L.way.length:Int)+min (L.base+L.b') (L.bC.length:Int) - L.base:=by rw [hw];simp only [aYh];omega
   rw [e] at bc;unfold a6.send at bc;rw [aYi hs] at bc;dsimp only at bc;rw [hw,aZy,I1] at bc;omega
 ·by_cases bc:0<(L.step ⟨2,0,false, .empty⟩).1.way.length
  ·exact bc
  ·exfalso;have e:L.step ⟨2,0,false, .empty⟩=L.send:=by unfold a6.step;rw [aYi (show ¬ (2:Int)=1 by decide),aYq rfl]
   have cx:=h.cx;have gW:=h.gW;have gs:=h.gs;have mO:=h.mO;have hs:¬ 1000<(L.way.length:Int)+min (L.base+L.b') (L.bC.length:Int) - L.base:=by rw [hw];simp only [aYh];omega
   rw [e] at bc;unfold a6.send at bc;rw [aYi hs] at bc;dsimp only at bc;rw [hw,aZy,I1] at bc;omega
theorem aJ6 (h:BU L gW e) (hw:0<L.way.length):∃ M,L.uI ⟨3,0,false, .empty⟩=(M,0)∧BU M gW e∧M.bC=L.bC∧M.b'=L.b'∧M.way.length+1=L.way.length∧M.bV.getLast? =some (M.got.length:Int):=by
 obtain ⟨y,r,aW⟩:∃ y r,L.way=y::r:=by
  cases I:L.way with
  | nil=>rw [I] at hw;simp at hw
  | cons y r=>exact ⟨y,r,rfl⟩
 obtain ⟨κ,τ,au,aU,bN,cq⟩:=aJ3 h aW;refine ⟨_,YK h.eB κ,τ,au,aU,by rw [bN,aW];rfl,by rw [cq,List.getLast?_append];rfl⟩
theorem aBZ (h:JR L gW) (ha:0<L.bV.length):∃ M,L.uI ⟨4,0,false, .empty⟩=(M,0)∧JR M gW∧M.bC=L.bC∧M.b'=L.b'∧M.bV.length+1=L.bV.length:=by
 obtain ⟨n,r,aW⟩:∃ n r,L.bV=n::r:=by
  cases I:L.bV with
  | nil=>rw [I] at ha;simp at ha
  | cons y r=>exact ⟨y,r,rfl⟩
 obtain ⟨κ,τ,au,aU,bN⟩:=aB0 h aW;exact ⟨_,YK h.eB κ,τ,au,aU,by rw [bN,aW];rfl⟩
theorem auo (h:BU L gW e) (hw:L.way.length=0) (Fl:gW<e) (ah:0<L.way.length∨L.bV.getLast? =some (L.got.length:Int)):JR L gW:=by
 have hw':L.way= []:=aYx hw;obtain ⟨κ,τ⟩:=aun h hw';have E6:=h.E6;refine ⟨h.eB,hw',τ,by omega,by omega, .inr (ah.elim (λ eI=>by omega) id)⟩
theorem auk (h:lB L) (ag:(L.bC.length:Int)≤L.base):L.got=L.bC∧L.held= []:=by
 have mO:=h.mO;have gs:=h.gs;have ns:=h.ns;refine ⟨by rw [h.ge];exact aYp (by omega), ?_⟩;rw [bcq];intro y aE;have:=h.ha y aE;omega
end
section
variable {b':Int} {l:List ByteArray}
open Go.Proofs.YtmeeljmapailnaaGreat.fL
def qX (b':Int) (l:List ByteArray):a6:=⟨b',l,0,0, [], [], [], []⟩
def sX:a6.b7:=⟨none,none,none,none,none,0,0,0,0,0⟩
theorem aAk {w:World} {aA:Nat} (h:ea b'):m8 w aA sX (qX b' []):=
 ⟨J.aF.nil _,J.aF.nil _,J.aF.nil _,J.aF.nil _,lG.of (J.aF.nil _),by simp [sX,J.ab],by simp [sX,J.ab],by simp [sX,J.ab],by simp [sX,J.ab],by simp [sX,J.ab],by simp [sX,J.ab],by simp [sX,J.ab],by simp [sX,J.ab],by simp [sX,J.ab],by simp [sX,J.ab],h,b8.2 (by decide:(-9223372036854775808:Int)≤0∧(0:Int)≤9223372036854775807),b8.2 (by decide:(-9223372036854775808:Int)≤0∧(0:Int)≤9223372036854775807)⟩
theorem ai8 (κ:1≤b') (τ:b'≤16) (au:l.length≤200):lB (qX b' l):=
 ⟨κ,τ,au,aYX _,aYX _,aYX _,by simp [qX],aZl _,aZl _,aZl _,by show (0:Int)≤0+b';omega,by show (0:Int)≤(l.length:Int);omega,λ y aE=>by simp [qX] at aE,λ y aE=>by simp [qX] at aE,λ y aE=>by simp [qX] at aE,List.Pairwise.nil⟩
theorem aAl {L:a6} {k:Nat} (dY:L=qX b' (l.take k)) (κ:1≤b') (τ:b'≤16) (ak:k<l.length) (ah:l.length≤100):∃ M,L.uI ⟨1,0,false,l.getD k ByteArray.empty⟩=(M,0)∧M=qX b' (l.take (k+1)):=by
 subst dY;refine ⟨_, ?_,Z⟩;have hlen:(l.take k).length=k:=by rw [aYa];omega
 have hc:=(ai8 (l:=l.take k) κ τ (by omega)).a7;have hs:(qX b' (l.take k)).step ⟨1,0,false,l.getD k ByteArray.empty⟩=(qX b' (l.take (k+1)),0):=by
  unfold a6.step;rw [aYq rfl,aYi (by show ¬ ((l.take k).length:Int)=200;omega)];unfold qX;rw [x_ (d:=ByteArray.empty) ak]
 rw [SC hc (by rw [hs]),hs]
theorem aFE (b':Int) (w:World) (κ:1≤b') (τ:b'≤16):
  Calls prog 40 #[Φ b'] w (λ e w'=>e= .returned (.tuple #[.agg #[Φ b', .slice none 0 0,Φ 0,Φ 0, .slice none 0 0, .slice none 0 0, .slice none 0 0, .slice none 0 0],Φ 0])∧Ext w w'):=by
 refine ch (n:=13) func40 Z Z Z ?_;refine aw<|cU HK Z λ cG bB aR d' ae=> ?_;refine aJ Z<|av<|aB Z<|dR Z Z<|vm Z<|ec Z Z<|bh Z (λ hc=>gO (gt hc Z) Z)<|aa (eW Z Z Z Z)<|aC<| ?_;refine du Z (λ gg=> ?_) (λ gg=> ?_)
 ·simp only [bn] at gg;exfalso;omega
 ·simp only [bn] at gg;refine bm<|aB Z<|aa (v:= .agg #[Φ b', .slice none 0 0,Φ 0,Φ 0, .slice none 0 0, .slice none 0 0, .slice none 0 0, .slice none 0 0]) (eu Z)<|cF Z Z ae Z jY Z Z λ uf UD ae=> ?_;have jN:=Ext.mod aR UD bo;refine aY Z<|cz (.cell Z (ae.all p8 jY) (.tmp Z .nil))<| ?_;exact ⟨Z,jN⟩
theorem aFx (b':Int) (A:Option Addr) (c:Nat) (l:List ByteArray) (w:World) (κ:1≤b') (τ:b'≤16) (hlen:l.length≤100) (ah:gi.aK 16 w A c l):
  Calls prog 20 #[Φ b', .slice A l.length c] w (λ e w'=>∃ a':a6.b7,e= .returned (.tuple #[.agg (a6.cells a' (qX b' l)).toArray, .bool true])∧m8 w' w.heap.size a' (qX b' l)∧Ext w w'):=by
 refine ch (n:=34) func20 Z Z Z ?_;refine aw<|cU HK Z λ cG bB aR d' ae=> ?_;have hE:=ae.lt;refine aJ Z<|aB Z<|cM ay4 Z (aFE b' _ κ τ) λ eC dm=> ?_;have:=dm.size;have bO:=γ aR dm;refine vm Z<|bs Z Z<|bs Z Z<|cU HK Z λ wC uE fi K_ iB=> ?_;have k2:=γ bO fi;refine cF Z Z iB Z jY Z Z λ t_ tL iB=> ?_;have iP:=Ext.mod k2 tL bo;refine aJ Z<|av<|aB Z<|aa (b5 underlying45 Z)<|vm Z<|aC<|bJ<| ?_;have asz:m8 t_ w.heap.size sX (qX b' []):=aAk (b8.2 (by omega));have ae:=(ae.later (γ dm fi)).mod tL aO;refine eV (λ cp cn aP=>∃ k:Nat,∃ b2:a6.b7,∃ dD:a6,cn= [(4, .pointer (bA bB)),(5, .bool false),(6, .pointer (bA uE)),(7,Φ 0),(15, .slice A l.length c),(16,Φ (l.length:Int)),(17,Φ (k:Int))]∧cp=l.length - k∧Ext w aP∧aM aP bB [Φ 0, .slice none 0 0,Φ 0,Φ 0, .slice none 0 0, .slice none 0 0, .slice none 0 0, .slice none 0 0] 79 (0,0)∧aM aP uE [Φ dD.b', .slice b2.S dD.bC.length b2.s,Φ dD.base,Φ dD.next, .slice b2.W dD.way.length b2.w, .slice b2.K dD.bV.length b2.k, .slice b2.G dD.got.length b2.g, .slice b2.H dD.held.length b2.h] 79 (0,0)∧m8 aP w.heap.size b2 dD∧(k≤l.length)∧(dD=qX b' (l.take k))∧(∀ q∈iV b2,q=uE→False)∧(∀ q∈iV b2,q=bB→False)) _ _ ⟨0,sX,(qX b' []),Z,Z,iP,ae,iB,asz,by omega,rfl,λ q I ag=>by simp [iV,sX,J.ab] at I,λ q I ag=>by simp [iV,sX,J.ab] at I⟩ (eO Z Z Z) ?_;rintro FR arM nR ⟨k,b2,dD,rfl,rfl,eZ,ae,Ej,Rj,ak,Fb,aQs,awD⟩;have:=eZ.size;have aV4:=ae.lt;have aoi:=Ej.lt;refine aw<|dR Z Z<|aC<|av<| ?_;refine en Z (λ aal=> ?_) (λ aal=> ?_)
 ·refine bm<|av<|bJ<|aw<|aa (cl k underlying45 E5 Z Z ((ah.keep eZ).bT (aV k)) Z (by omega))<|aa (ax Z (J.aK.fh KP ((ah.keep eZ).cD (aV k)) (dt (l:=l) (u:=ByteArray.empty) (by omega)) Z HJ))<|aJ Z<|aB Z<|aa (beq Z Z)<|aC<|eT Z<|rg<|aa (ax Z (Ej.all p8 jY))<|vm Z<|aa (v:= .agg #[Φ 1,Φ 0, .bool false, .string (l.getD k ByteArray.empty)]) (eu Z)<| ?_;obtain ⟨asN,aAI,aAN⟩:=aAl Fb κ τ (by omega) hlen;have Z0:=Ul b2 dD ⟨1,0,false,l.getD k ByteArray.empty⟩ _ Rj.has ⟨b8.2 (by dsimp only;decide),b8.2 (by dsimp only;decide),apd ah _ (jk (by omega))⟩;rw [aAI] at Z0;dsimp only at Z0;refine ca SV Z Z ((Z0).mono ?_);rintro e BG ⟨auw,rfl,Rk,ko⟩;refine cu ?_;have o7:=γ eZ ko;have abN:=λ q I=>(Rk.lt (q:=q) I).1;refine vm Z<|bs Z Z<|bs Z Z<| ?_;have Ej:=Ej.later ko;refine cF Z Z Ej Z jY Z Z λ wF oR Ej=> ?_;have mf:=Ext.mod o7 oR bo;refine va Z<|nl<|b1<|eM Z Z Z<| ?_;have ae:=(ae.later ko).mod oR aO;have Rk:=Rk.mod oR (bl λ q I ag=>by have:=abN q I;omega);exact eJ ⟨k+1,auw,asN,Z,Z,mf,ae,Ej,(Rk.down (by omega)),by omega,aAN,λ q I ag=>by exfalso;(have:=abN q I;omega),λ q I ag=>by exfalso;(have:=abN q I;omega)⟩
 ·have mr:k=l.length:=by omega
  rw [mr,aYS] at Fb;refine dn<|dk<|dG<|dj<|aX<|aw<|aa (ax Z (Ej.all p8 jY))<|vm Z<|aa (beq Z Z)<|cF Z Z ae Z jY Z Z λ vk oS ae=> ?_;have jr:=Ext.mod eZ oS bo;refine aY Z<|cz (.cell Z (ae.all p8 jY) (.tmp Z .nil))<| ?_;have Rj:=Rj.mod oS (bl awD);exact ⟨b2,by rw [← Fb];rfl,by rw [← Fb];exact Rj,jr⟩
end
section
variable {q:List aQ}
open Go.Proofs.YtmeeljmapailnaaGreat.fL
theorem Sn {o:aQ} (h:o.a7=0):o.ok:=by
 cases hr:o.F4 with
 | true=>rw [aQ.Ny hr] at h;cases h
 | false =>
  unfold aQ.F4 b9 at hr;simp only [aYM,aZP,aYl,aYB] at hr;exact ⟨b8.2 (by omega),b8.2 (by omega),b8.2 (by omega),b8.2 (by omega),b8.2 (by omega),b8.2 (by omega)⟩
theorem aHf {m:List aQ} (h:ix m=0):∀ o∈m,o.ok:=λ o bK=>by
 exact Sn ((Lt h).2 o bK)
def sV (W:ai) (x:cY) (t:List ByteArray):Prop:=x.W=W∧t=x.L.map jL∧m_ W x.L
theorem sV.step {W:ai} {x:cY} {t:List ByteArray} {c:h'} (h:sV W x t):sV W (wu (x,t,q) c).1 (wu (x,t,q) c).2.1:=by
 unfold wu;split
 ·rename_i hd
  rcases hd.2 with ⟨ak,_⟩ | ⟨ak,κ,τ⟩ | ⟨ak,_⟩
  ·rw [YI ak,aYi (by omega)];exact h
  ·rw [YJ ak,YL ak,aYq ak];obtain ⟨a,b,d⟩:=h;refine ⟨a,by rw [b];show _=List.map jL (x.L++_);rw [aYA];rfl,⟨?_,d.2.1, ?_⟩⟩
   ·show (x.L++_).length≤200;have κ:x.L.length<200:=κ;rw [aX9,aYr];omega
   ·show lN W (x.L++_)=0;rw [P3,aYi (by rw [d.2.2];simp),Vi,← a];exact τ
  ·rw [ahJ ak,aYi (by omega)];exact h
 ·exact h
theorem aiR {W:ai}:∀ (l:List h') (y:cY×List ByteArray×List aQ),sV W y.1 y.2.1→sV W (l.foldl wu y).1 (l.foldl wu y).2.1
 | [],_,h=>h
 | c::r,y,h=>aiR r _ h.step
theorem aHM {W:ai} {kj:Int} {l:List h'} {x:cY} {t:List ByteArray} (hn:acs W kj) (h:pD (Bp W kj) l=(x,t,q)):sV W x t:=by
 have:=aiR (W:=W) l (Bp W kj, [], []) ⟨rfl,rfl,aYX _,hn.1,rfl⟩;unfold pD at h;rw [h] at this;exact this
section
variable {W V:ai} {x:cY} {t:List ByteArray} {e n:Int} {k:Nat}
theorem sV.eB (h:sV W x t) (i:Nat):∀ m∈x.L.take i,ix m=0∧∀ o∈m,o.ok:=λ m hm=>by
 obtain ⟨j,ay,rfl⟩:=aY9.1 (aZp hm);have:=h.2.2.aHb ay;rw [l2 ay] at this;exact ⟨this,aHf this⟩
theorem sV.aKh (h:sV W x t) (hF:MF W (t.take n.toNat) e V k):e=0∧(k:Int)=(t.take n.toNat).length∧V=mZ W (x.L.take n.toNat):=by
 obtain ⟨_,b,d⟩:=h;subst b;have τ:=d.take n.toNat;obtain ⟨b2,_,a2⟩:=hF.resolve_right λ g=>g.2.1 ⟨by rw [aYa,aYT];have:=d.1;omega,d.2.1⟩;rw [← ba1] at a2;obtain ⟨k_,fw⟩:=aiP a2 (sV.eB (t:=x.L.map jL) (W:=W) ⟨by assumption,rfl,d⟩ n.toNat) τ.2.2;exact ⟨b2,by rw [k_,← ba1,aYT],fw⟩
theorem sV.told (h:sV W x t) (hF:MF W t e V k):e=0∧(k:Int)=t.length∧V=mZ W x.L:=by
 have κ:=h.aKh (n:=(t.length:Int)) (V:=V) (e:=e) (k:=k) (by rw [aY2,aYS];exact hF);rw [aY2,aYS] at κ;refine ⟨κ.1,κ.2.1, ?_⟩;rw [κ.2.2,h.2.1,aYT,aYS]
theorem sV.at_ (h:sV W x t) (hA:QT x.W x.L n e V) (aG:0≤n) (κ:n≤(t.length:Int)):e=0∧V=mZ W (x.L.take n.toNat):=by
 obtain ⟨a,b,d⟩:=h;subst a;rw [b,aYT] at κ;exact hA.out d aG κ
end
end
section
open Go.Proofs.YtmeeljmapailnaaGreat.fL
theorem aHD (y:cY×List ByteArray×List aQ) (c:h'):(wu y c).2.1.length≤y.2.1.length+1:=by
 unfold wu;split
 ·split
  ·show (y.2.1++_).length≤_;rw [aX9,aYr];exact aYg _
  ·exact Nat.le_succ _
 ·exact Nat.le_succ _
theorem aiS:∀ (l:List h') (y:cY×List ByteArray×List aQ),(l.foldl wu y).2.1.length≤y.2.1.length+l.length
 | [],_=>aYg _
 | c::l,y=>by
  have κ:=aiS l (wu y c);have τ:=aHD y c;rw [List.foldl_cons,aYc];omega
theorem aHN {x ly:cY} {l:List h'} {t:List ByteArray} (h:∃ q,pD x l=(ly,t,q)):t.length≤l.length:=by
 obtain ⟨q,h⟩:=h;have:=aiS l (x, [], []);unfold pD at h;rw [h] at this;simpa using this
theorem aKj (a:ai.b7) (W:ai) (kj:Int) (A:Option Addr) (c:Nat) (l:List h') (wd:Int) (w:World) (bZ:ai.Has w a W) (ah:h'.rep.aK 72 w A c l):
  Calls prog 5 #[.agg ((ai.cells a W).toArray),Φ kj, .slice A l.length c,Φ wd] w (λ e w'=>e= .returned (.bool true)∧Ext w w'):=by
 have tD:=ah.fa;refine ch (n:=148) func5 Z Z Z ?_;refine dZ Z Z λ cG bB aR d' ae=> ?_;have hE:=ae.lt;refine aJ Z<|aw<|aa (ax Z (ae.all dz cd))<|vm Z<|ca aih Z Z ((akI a W kj _ (bZ.keep aR)).mono ?_);rintro e uf ⟨MC,gB,pK,rfl,abf,ml,bt⟩;refine cu ?_;have:=bt.size;have jN:=γ aR bt;have I5:=bM ml.lt;refine vm Z<|bs Z Z<|bs Z Z<|cU CE Z λ zS xc iy amE fU=> ?_;have m3:=γ jN iy;have aoh:=fU.lt;refine st Z Z fU Z fe Z Z Z λ Gr pw fU=> ?_;have:=pw.size;have mF:=Ext.mod m3 pw bo;refine aJ Z<|av<|aw<|cM aio Z (amT _) λ vh ey=> ?_;have:=ey.size;have ks:=γ mF ey;refine aa (dJ Z)<|vm Z<|cm Z Z Z<|vm Z<|cm Z Z Z<|cS Z Z<|aa (fR Z Z)<|vm Z<|ec Z Z<|bh Z (λ hc=>blt (gt hc Z) Z)<|aa (eW Z Z Z Z)<|vm Z<|ec Z Z<|bh Z (λ hc=>gO (gt hc Z) Z)<|aa (eW Z Z Z Z)<|vm Z<|ec Z Z<|bh Z (λ hc=>b5 underlying29 (gt hc Z))<|bh Z (λ hc=>gO (gt hc Z) Z)<|aa (eW Z Z Z Z)<|aC<| ?_;refine du Z (λ tk=> ?_) (λ tk=> ?_)
 ·simp only [bn] at tk;refine aw<|cM aio Z (amT _) λ Qm mE=> ?_;have yl:=γ ks mE;refine aY Z<|bD<|b_ Z Z<| ?_;exact ⟨Z,yl⟩
 ·simp only [bn] at tk;obtain ⟨_,lp,Db⟩:=abf.resolve_right λ bw=>bw.1 (by omega);refine bm<|aw<| ?_;have fU:=fU.later ey;refine aa (ax Z (fU.all jz fe))<|vm Z<| ?_;have ml:=((ml.later iy).mod pw (bU I5)).later ey;refine ca ay5 Z Z ((aDb cG.heap.size gB pK _ _ l _ (by omega) ml (ah.keep ks)).mono ?_);rintro e wF ⟨nI,qv,vA,AI,t30,rfl,⟨aVy,akY⟩,mK,aB7,mm,ho⟩;refine cu ?_;have:=ho.size;have mf:=γ ks ho;have Qh:=bM mK.lt;have VK:=bM mm.lt;have aFF:=dx mm.lt;have abp:t30.length≤100:=aYF (aHN ⟨_,akY⟩) (by omega);refine vm Z<|bs Z Z<|bs Z Z<| ?_;have fU:=fU.later ho;refine st Z Z fU Z fe Z Z Z λ L1 FT fU=> ?_;have:=FT.size;have um:=Ext.mod mf FT bo;refine aJ Z<|aB Z<|vm Z<| ?_;have mm:=mm.mod FT (bz aFF);refine ca ay6 Z Z ((aFx wd _ _ t30 _ (by omega) (by omega) abp mm.has).mono ?_);rintro e DL ⟨aua,rfl,MV,im⟩;refine cu ?_;have:=im.size;have nz:=γ um im;have apA:=λ q I=>(MV.lt (q:=q) I).2;have amx:=λ q I=>(MV.lt (q:=q) I).1;refine vm Z<|bs Z Z<|bs Z Z<|cU HK Z λ wH vJ k0 aE9 JG=> ?_;have j6:=γ nz k0;refine cF Z Z JG Z jY Z Z λ wI FW JG=> ?_;have kt:=Ext.mod j6 FW bo;refine aJ Z<|av<|aw<|aJ Z<|bJ<| ?_;have MV:=(MV.later k0).mod FW (bU apA);have ae:=(((((ae.later (γ bt iy)).mod pw aO).later (γ ey ho)).mod FT aO).later (γ im k0)).mod FW aO;have ml:=(((ml.later ho).mod FT (bU I5)).later (γ im k0)).mod FW (bU I5);have fU:=(fU.later (γ im k0)).mod FW aO;have mK:=((mK.mod FT (bl λ q I ag=>aYC (aB7 q I) (λ Pq=>by (have:=I5 q Pq;omega)) (λ Pq=>by omega))).later (γ im k0)).mod FW (bU Qh);have mm:=(mm.later (γ im k0)).mod FW (bU VK);refine eV (λ cp cn aP=>∃ b2:a6.b7,∃ dD:a6,∃ n:Nat,cn= [(4, .pointer (bA bB)),(8, .bool false),(9, .pointer (bA xc)),(11, .slice vA t30.length AI),(12, .pointer (bA vJ)),(13, .bool true),(14,Φ (n:Int))]∧cp=(t30.length - dD.base.toNat)∧Ext w aP∧aM aP bB (ai.cells a W) 28 (0,0)∧fk aP cG.heap.size gB pK∧aM aP xc (cY.cells nI qv) 40 (0,0)∧fk aP cG.heap.size nI qv∧gi.aF 9 16 aP vh.heap.size (J.ab vA) vA AI (t30)∧aM aP vJ [Φ dD.b', .slice b2.S dD.bC.length b2.s,Φ dD.base,Φ dD.next, .slice b2.W dD.way.length b2.w, .slice b2.K dD.bV.length b2.k, .slice b2.G dD.got.length b2.g, .slice b2.H dD.held.length b2.h] 79 (0,0)∧m8 aP w.heap.size b2 dD∧(lB dD)∧(dD.way= [])∧(dD.bV= [])∧(dD.bC=t30)∧((n:Int)≤dD.base)∧(wI.heap.size≤aP.heap.size)∧(∀ q∈iV b2,q=vJ→False)∧(∀ q∈iV b2,q=bB→False)∧(∀ q∈iV b2,q=xc→False)) _ _ ⟨aua,(qX wd t30),0,Z,Z,kt,ae,ml,fU,mK,mm,JG,(MV.down (by omega)),ai8 (by omega) (by omega) (by omega),Z,Z,Z,aZl _,aYg _,λ q I ag=>by exfalso;(have:=apA q I;omega),λ q I ag=>by exfalso;(have:=amx q I;omega),λ q I ag=>by exfalso;(have:=amx q I;omega)⟩ (eO Z Z Z) ?_;rintro UN aOf ap8 ⟨b2,dD,n,rfl,rfl,GM,ae,ml,fU,mK,mm,cC,afp,N_,abr,aBo,Im,OR,aSJ,aQt,aQu,aQv⟩;have:=GM.size;have aIs:=ae.lt;have aWl:=fU.lt;have LX:=bM mm.lt;have aIu:=cC.lt;have aRf:=N_.gW;have aRh:=N_.w1;have aRi:=N_.cx;have xG:dD.bC.length=t30.length:=by rw [Im]
  refine av<|aB Z<|vm Z<|cm Z Z Z<|aa (aj CG Z)<|cm Z Z Z<|bk Z cC aT Z<|cm Z Z Z<|vm Z<|cm Z Z Z<|aa (b5 underlying45 Z)<|cm Z Z Z<|dR Z Z<|aa (iK Z Z)<|aC<| ?_;refine en Z (λ aBj=> ?_) (λ aBj=> ?_)
  ·have aCu:decide ((n:Int)≤(t30.length:Int))=true:=aYD (by omega);have Fl:dD.base<min (dD.base+dD.b') (dD.bC.length:Int):=by omega
   refine bm<|av<|bJ<|aw<|aa (ax Z (cC.all p8 jY))<|aa (v:= .agg #[Φ 2,Φ 0, .bool false, .string .empty]) (eu Z)<| ?_;obtain ⟨fV,aAJ,aAA,aAQ,aRt,aba⟩:=aJn N_ abr aBo;have aba:=aba (by omega);have Z1:=Ul b2 dD ⟨2,0,false, .empty⟩ _ afp.has ⟨b8.2 (by decide),b8.2 (by decide),by decide⟩;rw [aAJ] at Z1;dsimp only at Z1;refine ca SV Z Z ((Z1).mono ?_);rintro e Jf ⟨eG,rfl,Rl,hk⟩;refine cu ?_;have:=hk.size;have qC:=γ GM hk;have Um:=λ q I=>(Rl.lt (q:=q) I).1;refine vm Z<|bs Z Z<|bs Z Z<| ?_;have cC:=cC.later hk;refine cF Z Z cC Z jY Z Z λ L_ qi cC=> ?_;have:=qi.size;have z_:=Ext.mod qC qi bo;refine aJ Z<|aB Z<|aa (beq Z Z)<|vm Z<|cm Z Z Z<|vm Z<|cm Z Z Z<|vm Z<|cm Z Z Z<|aa (b5 underlying45 Z)<|cm Z Z Z<|aa (ble Z Z)<|aa (iK Z (ep Z aCu))<|aJ Z<|av<|bJ<| ?_;have Rl:=Rl.mod qi (bl λ q I ag=>by have:=Um q I;omega);have ae:=(ae.later hk).mod qi aO;have ml:=(ml.later hk).mod qi (bU I5);have fU:=(fU.later hk).mod qi aO;have mK:=(mK.later hk).mod qi (bU Qh);have mm:=(mm.later hk).mod qi (bU VK);refine eV (λ cp cn aP=>∃ a2:a6.b7,∃ j9:a6,cn= [(4, .pointer (bA bB)),(8, .bool false),(9, .pointer (bA xc)),(11, .slice vA t30.length AI),(12, .pointer (bA vJ)),(13, .bool true),(14,Φ (n:Int)),(58, .bool true),(59, .bool true),(60, .pointer (some ⟨vJ,2,none⟩)),(61,Φ dD.base),(62, .slice vA t30.length AI),(63,Φ (t30.length:Int)),(64, .bool (decide (dD.base<(t30.length:Int)))),(65, .bool (decide (dD.base<(t30.length:Int)))),(68, .tuple #[.agg #[Φ fV.b', .slice eG.S fV.bC.length eG.s,Φ fV.base,Φ fV.next, .slice eG.W fV.way.length eG.w, .slice eG.K fV.bV.length eG.k, .slice eG.G fV.got.length eG.g, .slice eG.H fV.held.length eG.h],Φ 0]),(69, .agg #[Φ dD.b', .slice b2.S dD.bC.length b2.s,Φ dD.base,Φ dD.next, .slice b2.W dD.way.length b2.w, .slice b2.K dD.bV.length b2.k, .slice b2.G dD.got.length b2.g, .slice b2.H dD.held.length b2.h]),(70, .agg #[Φ 2,Φ 0, .bool false, .string .empty]),(71, .tuple #[.agg #[Φ fV.b', .slice eG.S fV.bC.length eG.s,Φ fV.base,Φ fV.next, .slice eG.W fV.way.length eG.w, .slice eG.K fV.bV.length eG.k, .slice eG.G fV.got.length eG.g, .slice eG.H fV.held.length eG.h],Φ 0]),(72, .agg #[Φ fV.b', .slice eG.S fV.bC.length eG.s,Φ fV.base,Φ fV.next, .slice eG.W fV.way.length eG.w, .slice eG.K fV.bV.length eG.k, .slice eG.G fV.got.length eG.g, .slice eG.H fV.held.length eG.h]),(73,Φ 0),(74,Φ 0),(75, .bool true),(76, .bool true),(77,Φ (n:Int)),(78, .slice vA t30.length AI),(79,Φ (t30.length:Int)),(80, .bool (decide ((n:Int)≤(t30.length:Int)))),(81, .bool true)]∧cp=j9.way.length∧Ext w aP∧aM aP bB (ai.cells a W) 28 (0,0)∧fk aP cG.heap.size gB pK∧aM aP xc (cY.cells nI qv) 40 (0,0)∧fk aP cG.heap.size nI qv∧gi.aF 9 16 aP vh.heap.size (J.ab vA) vA AI (t30)∧aM aP vJ [Φ j9.b', .slice a2.S j9.bC.length a2.s,Φ j9.base,Φ j9.next, .slice a2.W j9.way.length a2.w, .slice a2.K j9.bV.length a2.k, .slice a2.G j9.got.length a2.g, .slice a2.H j9.held.length a2.h] 79 (0,0)∧m8 aP w.heap.size a2 j9∧(BU j9 dD.base (min (dD.base+dD.b') (dD.bC.length:Int)))∧(j9.bC=dD.bC)∧(0<j9.way.length∨j9.bV.getLast? =some (j9.got.length:Int))∧(L_.heap.size≤aP.heap.size)∧(∀ q∈iV a2,q=vJ→False)∧(∀ q∈iV a2,q=bB→False)∧(∀ q∈iV a2,q=xc→False)) _ _ ⟨eG,fV,Z,Z,z_,ae,ml,fU,mK,mm,cC,(Rl.down (by omega)),aAA,aAQ, .inl aba,aYg _,λ q I ag=>by exfalso;(have:=Um q I;omega),λ q I ag=>by exfalso;(have:=Um q I;omega),λ q I ag=>by exfalso;(have:=Um q I;omega)⟩ (qp Z) ?_;rintro zy aOm Jg ⟨a2,j9,rfl,rfl,wQ,ae,ml,fU,mK,mm,cP,afq,ajF,hO,kc,aDM,awE,awF,awG⟩;have:=wQ.size;have aol:=ae.lt;have aWt:=fU.lt;have I':=bM mm.lt;have aWv:=cP.lt;refine av<|aB Z<|vm Z<|cm Z Z Z<|aa (aj uL Z)<|cm Z Z Z<|bk Z cP c8 Z<|cm Z Z Z<|aa (b5 underlying22 Z)<|cm Z Z Z<|aa (gO Z Z)<|aa (iK Z Z)<|aC<| ?_;refine en Z (λ aBn=> ?_) (λ aBn=> ?_)
   ·refine bm<|bJ<|aw<|aa (ax Z (cP.all p8 jY))<|aa (v:= .agg #[Φ 3,Φ 0, .bool false, .string .empty]) (eu Z)<| ?_;obtain ⟨asO,aAK,aAB,aAR,aRu,aRT,aB8⟩:=aJ6 ajF (by omega);have Z2:=Ul a2 j9 ⟨3,0,false, .empty⟩ _ afq.has ⟨b8.2 (by decide),b8.2 (by decide),by decide⟩;rw [aAK] at Z2;dsimp only at Z2;refine ca SV Z Z ((Z2).mono ?_);rintro e aqa ⟨auA,rfl,Rm,vu⟩;refine cu ?_;have:=vu.size;have GN:=γ wQ vu;have Un:=λ q I=>(Rm.lt (q:=q) I).1;refine vm Z<|bs Z Z<|bs Z Z<| ?_;have cP:=cP.later vu;refine cF Z Z cP Z jY Z Z λ Qs kh cP=> ?_;have:=kh.size;have yq:=Ext.mod GN kh bo;refine aJ Z<|rg<|vm Z<|aa (beq Z Z)<|va Z<|nl<|b1<| ?_;have ae:=(ae.later vu).mod kh aO;have ml:=(ml.later vu).mod kh (bU I5);have fU:=(fU.later vu).mod kh aO;have mK:=(mK.later vu).mod kh (bU Qh);have mm:=(mm.later vu).mod kh (bU VK);have Rm:=Rm.mod kh (bl λ q I ag=>by have:=Un q I;omega);exact om _ _ ⟨auA,asO,Z,Z,yq,ae,ml,fU,mK,mm,cP,(Rm.down (by omega)),aAB,(aAR.trans hO), .inr aB8,by omega,λ q I ag=>by exfalso;(have:=Un q I;omega),λ q I ag=>by exfalso;(have:=Un q I;omega),λ q I ag=>by exfalso;(have:=Un q I;omega)⟩ (by omega) (qp Z)
   ·refine dn<|dk<|dG<|dj<|aX<|bJ<| ?_;refine eV (λ cp cn aP=>∃ a3:a6.b7,∃ k8:a6,cn= [(4, .pointer (bA bB)),(8, .bool false),(9, .pointer (bA xc)),(11, .slice vA t30.length AI),(12, .pointer (bA vJ)),(13, .bool true),(14,Φ (n:Int)),(58, .bool true),(59, .bool true),(60, .pointer (some ⟨vJ,2,none⟩)),(61,Φ dD.base),(62, .slice vA t30.length AI),(63,Φ (t30.length:Int)),(64, .bool (decide (dD.base<(t30.length:Int)))),(65, .bool (decide (dD.base<(t30.length:Int)))),(68, .tuple #[.agg #[Φ fV.b', .slice eG.S fV.bC.length eG.s,Φ fV.base,Φ fV.next, .slice eG.W fV.way.length eG.w, .slice eG.K fV.bV.length eG.k, .slice eG.G fV.got.length eG.g, .slice eG.H fV.held.length eG.h],Φ 0]),(69, .agg #[Φ dD.b', .slice b2.S dD.bC.length b2.s,Φ dD.base,Φ dD.next, .slice b2.W dD.way.length b2.w, .slice b2.K dD.bV.length b2.k, .slice b2.G dD.got.length b2.g, .slice b2.H dD.held.length b2.h]),(70, .agg #[Φ 2,Φ 0, .bool false, .string .empty]),(71, .tuple #[.agg #[Φ fV.b', .slice eG.S fV.bC.length eG.s,Φ fV.base,Φ fV.next, .slice eG.W fV.way.length eG.w, .slice eG.K fV.bV.length eG.k, .slice eG.G fV.got.length eG.g, .slice eG.H fV.held.length eG.h],Φ 0]),(72, .agg #[Φ fV.b', .slice eG.S fV.bC.length eG.s,Φ fV.base,Φ fV.next, .slice eG.W fV.way.length eG.w, .slice eG.K fV.bV.length eG.k, .slice eG.G fV.got.length eG.g, .slice eG.H fV.held.length eG.h]),(73,Φ 0),(74,Φ 0),(75, .bool true),(76, .bool true),(77,Φ (n:Int)),(78, .slice vA t30.length AI),(79,Φ (t30.length:Int)),(80, .bool (decide ((n:Int)≤(t30.length:Int)))),(81, .bool true),(82, .bool true),(83, .bool true),(84, .pointer (some ⟨vJ,4,none⟩)),(85, .slice a2.W j9.way.length a2.w),(86,Φ (j9.way.length:Int)),(87, .bool (decide (0<(j9.way.length:Int)))),(88, .bool (decide (0<(j9.way.length:Int))))]∧cp=k8.bV.length∧Ext w aP∧aM aP bB (ai.cells a W) 28 (0,0)∧fk aP cG.heap.size gB pK∧aM aP xc (cY.cells nI qv) 40 (0,0)∧fk aP cG.heap.size nI qv∧gi.aF 9 16 aP vh.heap.size (J.ab vA) vA AI (t30)∧aM aP vJ [Φ k8.b', .slice a3.S k8.bC.length a3.s,Φ k8.base,Φ k8.next, .slice a3.W k8.way.length a3.w, .slice a3.K k8.bV.length a3.k, .slice a3.G k8.got.length a3.g, .slice a3.H k8.held.length a3.h] 79 (0,0)∧m8 aP w.heap.size a3 k8∧(JR k8 dD.base)∧(k8.bC=dD.bC)∧(Jg.heap.size≤aP.heap.size)∧(∀ q∈iV a3,q=vJ→False)∧(∀ q∈iV a3,q=bB→False)∧(∀ q∈iV a3,q=xc→False)) _ _ ⟨a2,j9,Z,Z,wQ,ae,ml,fU,mK,mm,cP,(afq.down (by omega)),(auo ajF (by omega) Fl kc),hO,aYg _,λ q I ag=>by exfalso;(exact awE q I ag),λ q I ag=>by exfalso;(exact awF q I ag),λ q I ag=>by exfalso;(exact awG q I ag)⟩ (qp Z) ?_;rintro aUt aOq aqb ⟨a3,k8,rfl,rfl,Jz,ae,ml,fU,mK,mm,B4,afr,KW,C8,aSK,awH,awI,awJ⟩;have:=Jz.size;have aIx:=ae.lt;have aIy:=fU.lt;have aW4:=bM mm.lt;have aWD:=B4.lt;refine av<|aB Z<|vm Z<|cm Z Z Z<|aa (aj r5 Z)<|cm Z Z Z<|bk Z B4 c8 Z<|cm Z Z Z<|aa (b5 underlying22 Z)<|cm Z Z Z<|aa (gO Z Z)<|aa (iK Z Z)<|aC<| ?_;refine en Z (λ H0=> ?_) (λ H0=> ?_)
    ·refine bm<|bJ<|aw<|aa (ax Z (B4.all p8 jY))<|aa (v:= .agg #[Φ 4,Φ 0, .bool false, .string .empty]) (eu Z)<| ?_;obtain ⟨asP,aAL,aAC,aAS,aRv,aRU⟩:=aBZ KW (by omega);have Z3:=Ul a3 k8 ⟨4,0,false, .empty⟩ _ afr.has ⟨b8.2 (by decide),b8.2 (by decide),by decide⟩;rw [aAL] at Z3;dsimp only at Z3;refine ca SV Z Z ((Z3).mono ?_);rintro e Mf ⟨auB,rfl,Rn,jn⟩;refine cu ?_;have:=jn.size;have rS:=γ Jz jn;have Uo:=λ q I=>(Rn.lt (q:=q) I).1;refine vm Z<|bs Z Z<|bs Z Z<| ?_;have B4:=B4.later jn;refine cF Z Z B4 Z jY Z Z λ apV ss B4=> ?_;have:=ss.size;have QH:=Ext.mod rS ss bo;refine aJ Z<|rg<|vm Z<|aa (beq Z Z)<|va Z<|nl<|b1<| ?_;have ae:=(ae.later jn).mod ss aO;have ml:=(ml.later jn).mod ss (bU I5);have fU:=(fU.later jn).mod ss aO;have mK:=(mK.later jn).mod ss (bU Qh);have mm:=(mm.later jn).mod ss (bU VK);have Rn:=Rn.mod ss (bl λ q I ag=>by have:=Uo q I;omega);exact om _ _ ⟨auB,asP,Z,Z,QH,ae,ml,fU,mK,mm,B4,(Rn.down (by omega)),aAC,(aAS.trans C8),by omega,λ q I ag=>by exfalso;(have:=Uo q I;omega),λ q I ag=>by exfalso;(have:=Uo q I;omega),λ q I ag=>by exfalso;(have:=Uo q I;omega)⟩ (by omega) (qp Z)
    ·have aCz:k8.bV.length=0:=by omega
     have ajE:k8.bV= []:=aYx aCz;have er:k8.base=(k8.got.length:Int):=KW.last.elim (λ h=>h.2) λ h=>by rw [ajE] at h;cases h
     have aR7:=KW.more;have aSB:k8.bC.length=dD.bC.length:=by rw [C8]
     have aRK:=KW.eB.gs;refine dn<|dk<|dG<|dj<|b1<|aX<|rg<|vm Z<|gx Z Z<|va Z<|nl<| ?_;exact eJ ⟨a3,k8,n+1,Z,Z,Jz,ae,ml,fU,mK,mm,B4,(afr.down (by omega)),KW.eB,KW.way,ajE,(C8.trans Im),by omega,by omega,λ q I ag=>by exfalso;(exact awH q I ag),λ q I ag=>by exfalso;(exact awI q I ag),λ q I ag=>by exfalso;(exact awJ q I ag)⟩
  ·obtain ⟨tz,_⟩:=auk N_ (by omega);have aaU:dD.got=t30:=by rw [tz,Im]
   have akZ:=akY;rw [Db] at akZ;have aaa:=aHM lp akZ;refine dn<|dk<|dG<|dj<|aX<|aw<|aa (ax Z (ae.all dz cd))<|aa (aj r6 Z)<|bk Z cC kz Z<|ca aii Z Z ((akc a W _ _ dD.got _ (bZ.keep GM) afp.has.G).mono ?_);rintro e Gp ⟨aNJ,aSX,at6,af1,rfl,ak4,Q_,Wj⟩;refine cu ?_;have:=Wj.size;have Jv:=γ GM Wj;have apC:=bM Q_.lt;rw [aaU] at ak4;obtain ⟨g1,g2,g3⟩:=aaa.told ak4;refine vm Z<|bs Z Z<|bs Z Z<|bs Z Z<|cU nG Z λ ad1 aPf Wk aTm JF=> ?_;have Mk:=γ Jv Wk;have aVF:=JF.lt;refine st Z Z JF Z cd Z Z Z λ VW Le JF=> ?_;have:=Le.size;have vv:=Ext.mod Mk Le bo;refine va Z<|aJ Z<|aw<|aa (aj CF Z)<| ?_;have fU:=(fU.later (γ Wj Wk)).mod Le aO;refine aa (ax Z (fU.par [Φ qv.W.field.wide,Φ qv.W.field.high, .slice nI.a.P qv.W.field.a_.length nI.a.p, .slice nI.a.B qv.W.bf.length nI.a.b, .slice nI.a.S qv.W.bE.length nI.a.s, .slice nI.a.M qv.W.bX.length nI.a.m, .slice nI.a.T qv.W.ao.length nI.a.t,Φ qv.W.next,Φ qv.W.now, .slice nI.A nI.T.length nI.c] AS qV Z))<|vm Z<|aa (b5 underlying45 Z)<| ?_;have mK:=(mK.later (γ Wj Wk)).mod Le (bU Qh);refine ca ay7 Z Z ((auv nI.a qv.W _ _ nI.T qv.L (t30.length:Int) _ mK.has.W mK.has.T mK.has.L).mono ?_);rintro e aLu ⟨aNK,at7,af2,rfl,aDh,Q',zX⟩;refine cu ?_;have:=zX.size;have aen:=γ vv zX;have tW:=bM Q'.lt;refine vm Z<|bs Z Z<|bs Z Z<|cU nG Z λ aLv aPk pM aTs WV=> ?_;have aeo:=γ aen pM;refine st Z Z WV Z cd Z Z Z λ ap1 UF WV=> ?_;have QK:=Ext.mod aeo UF bo;refine aJ Z<|aB Z<|vm Z<|cm Z Z Z<|vm Z<|cm Z Z Z<|aa (beq Z Z)<|aa (iK Z Z)<|vm Z<|ec Z Z<|bh Z (λ hc=>beq (gt hc Z) Z)<|aa (ei Z Z Z Z)<|vm Z<|ec Z Z<|ec Z Z<|bh Z (λ hc=>b5 underlying45 (gt hc Z))<|bh Z (λ hc=>beq (gt hc Z) (gt hc Z))<|aa (ei Z Z Z Z)<|vm Z<| ?_;have JF:=(JF.later (γ zX pM)).mod UF aO;refine bh Z (λ hc=>ax Z (JF.all dz cd))<|bh Z (λ hc=>ax Z (WV.all dz cd))<| ?_;have Q_:=(((Q_.later Wk).mod Le (bU apC)).later (γ zX pM)).mod UF (bU apC);have Q':=(Q'.later pM).mod UF (bU tW);refine sB Z ay8 (λ hc=>gp (gt hc Z) (gp (gt hc Z) Z)) (λ hc=>aI5 _ at6 af1 at7 af2 Q_.has Q'.has) λ ap2 vo=> ?_;have Ml:=γ QK vo;refine aa (ei Z Z Z Z)<|aY Z<|b_ Z Z<| ?_;obtain ⟨g4,g5⟩:=aaa.at_ aDh (by omega) (aZl _);have g7:af1=af2:=by rw [g3,g5,aaa.2.1,aYT];simp
   exact ⟨ac7 (by simp [g1,g2,g4,g7]),Ml⟩
theorem aKi (ck:Array Value) (b2:Int) (a2:Option Addr) (Ut Sh:Nat) (a3:Int) (w:World) (aG:(.cons (.cons (.int .i64) (.cons (.int .i64) (.cons (.slice (.int .i64) 8) .nil))) (.cons (.slice (.cons (.int .i64) (.cons (.int .i64) .nil)) 16) (.cons (.slice (.int .i64) 8) (.cons (.slice (.int .i64) 8) (.cons (.slice (.cons (.int .i64) (.cons (.int .i64) (.cons (.int .i64) (.cons (.cons (.int .i64) (.cons (.int .i64) .nil)) (.cons (.int .i64) (.cons (.int .i64) .nil)))))) 56) (.cons (.int .i64) (.cons (.int .i64) .nil)))))):hl).j_ w ck.toList) (w1:(Lit.int .i64 b2).wf=true) (τ:(.slice (.cons (.int .i64) (.cons (.cons (.int .i64) (.cons (.int .i64) (.cons (.int .i64) (.cons (.cons (.int .i64) (.cons (.int .i64) .nil)) (.cons (.int .i64) .nil))))) (.cons (.int .i64) (.cons (.int .i64) .nil)))) 72:hl).j_ w [.slice a2 Ut Sh]) (w3:(Lit.int .i64 a3).wf=true):
  Calls prog 5 #[.agg ck,Φ b2, .slice a2 Ut Sh,Φ a3] w λ e w'=>e= .returned (.bool true)∧Below w.heap.size w w':=by
 obtain ⟨a,W,e,bZ⟩:=ai.opens w _ (show ai.sh.j_ w ck.toList from aG);have hc:ck=(ai.cells a W).toArray:=by rw [← e]
 subst hc;obtain ⟨A,c,l,bb,ah⟩:=J.Ls (R:=h'.rep) (by_:=72) h'.opens rfl (by decide) τ;simp only [baN,Value.slice.injEq,and_true] at bb;obtain ⟨rfl,rfl,rfl⟩:=bb;exact aKj a W b2 _ _ l a3 w bZ ah
end
end Go.Proofs.YtmeeljmapailnaaGreat
