import Derived.Test.YtmeeljmapailnaaGreatShelf
import Derived.Lib.BitFns
set_option linter.unusedVariables false
set_option linter.unusedSimpArgs false
set_option maxRecDepth 100000
set_option maxHeartbeats 4000000
open Go.RowKit
namespace Go.Proofs.YtmeeljmapailnaaGreat
open Tryz
abbrev aZi:=@UInt8.toNat_ofNat'
abbrev bax:=@Go.World.cell?_alloc_new
abbrev baN:=@List.cons.injEq
abbrev bbp:=@Nat.pow_succ
abbrev bbu:=@Nat.two_pow_pos
abbrev bbx:=@Go.Lib.extract_data
abbrev bby:=@Go.Lib.cell_of_heap
abbrev bct:=@Go.bits_nat
abbrev bcG:=@Go.Oper.upon_value
abbrev bcQ:=@Option.map_eq_some_iff
abbrev bcT:=@List.getElem_singleton
abbrev bcU:=@List.drop_eq_nil_of_le
abbrev bcW:=@List.singleton_append
abbrev bda:=@Go.run_convert_bytes_back
abbrev bdk:=@BitVec.xor_allOnes
section
variable {l:List aQ}
def iZ (W:ai) (l:List aQ):Int:=if pG W l≠0 then pG W l else if 1000000≤W.now then 6 else 0
def BA (W:ai) (l:List aQ):ai:=qq W (iY W l l.length)
noncomputable def BB (W:ai) (l:List aQ):ai:=qk (BA W l) (jm W l l.length)
noncomputable def wz (W:ai) (l:List aQ):ai:=(BB W l).uJ (jK W l l.length)
noncomputable def pH (W:ai) (l:List aQ):ai:=if iZ W l≠0 then ai.zero else {wz W l with now:=(wz W l).now+1}
def Gd (W:ai) (l:List aQ):List Int:=if iZ W l≠0 then [] else Bz W (iY W l l.length)
noncomputable def Ge (W:ai) (l:List aQ):List Int:=if iZ W l≠0 then [] else tQ (BA W l) (jm W l l.length)
noncomputable def Gc (W:ai) (l:List aQ):List Bool:=if iZ W l≠0 then [] else (BB W l).AO (jK W l l.length)
theorem apu {W:ai} (h:iZ W l≠0):pH W l=ai.zero∧Gd W l= []∧Ge W l= []∧Gc W l= []:=by
 unfold pH Gd Ge Gc;simp only [aYq h,and_self]
theorem apv {W:ai} (h:iZ W l=0):pH W l= {wz W l with now:=(wz W l).now+1}∧Gd W l=Bz W (iY W l l.length)∧Ge W l=tQ (BA W l) (jm W l l.length)∧Gc W l=(BB W l).AO (jK W l l.length):=by
 have dh:¬ iZ W l≠0:=by simpa using h
 unfold pH Gd Ge Gc;simp only [aYi dh,and_self]
theorem VC {W:ai} (h:iZ W l=0):pG W l=0∧W.now<1000000∧W.a7=0∧l.length≤100:=by
 unfold iZ at h;split at h
 ·contradiction
 ·rename_i κ
  have κ:pG W l=0:=by simpa using κ
  split at h
  ·exact nomatch h
  ·exact ⟨κ,by omega,(Qb κ).2,aJG κ⟩
theorem axe {W:ai} {l:List dV} (h:W.a7=0) (ah:l.length≤200):W.s4 l=0∧W.uJ l=(W.iU l).1:=by
 have e:W.s4 l=0:=by unfold ai.s4;rw [aYi (by omega),aYi (by omega)]
 exact ⟨e,by unfold ai.uJ;rw [aYq e]⟩
theorem X' {W:ai} {l:List fc} (h:W.a7=0) (ah:l.length≤200):nF W l=0:=by unfold nF;rw [aYi (by omega),aYi (by omega)]
theorem aKr {W:ai} (h:iZ W l=0):nF W (iY W l l.length)=0∧tP (BA W l) (jm W l l.length)=0∧(BB W l).s4 (jK W l l.length)=0∧Good (BA W l)∧Good (BB W l)∧Good (wz W l):=by
 obtain ⟨κ,τ,au,aU⟩:=VC h;obtain ⟨k_,fw,hQ⟩:=ao3 W l l.length;have aW:=X' (l:=iY W l l.length) au (by omega);have g1:Good (BA W l):=(apg aW).right;have bb:=(UP (W:=BA W l) (l:=jm W l l.length) g1.a7 (by omega)).1;have g2:Good (BB W l):=(aF9 bb).1;obtain ⟨df,jy⟩:=axe (W:=BB W l) (l:=jK W l l.length) g2.a7 (by omega);refine ⟨aW,bb,df,g1,g2, ?_⟩;unfold wz;rw [jy];exact g2.iU _
def RT (W:ai) (l:List aQ) (w:World) (e:Ending) (w':World):Prop :=
 ∃ a' h_ ck cb c1 dp c2,e= .returned (.tuple #[.agg (ai.cells a' (pH W l)).toArray, .agg #[.slice h_ (Gd W l).length ck, .slice cb (Ge W l).length c1, .slice dp (Gc W l).length c2],Φ (iZ W l)])∧bH w' w.heap.size a' (pH W l)∧
  bu.aF 3 8 w' w.heap.size (J.ab h_) h_ ck (Gd W l)∧bu.aF 3 8 w' w.heap.size (J.ab cb) cb c1 (Ge W l)∧Bx.aF 4 1 w' w.heap.size (J.ab dp) dp c2 (Gc W l)∧
  (∀ q,(q∈J.ab h_∨q∈J.ab cb∨q∈J.ab dp)→q∉bH.cR a')∧Ext w w'
theorem aKo (a:ai.b7) (W:ai) (A:Option Addr) (c:Nat) (l:List aQ) (w:World) (bZ:ai.Has w a W) (ah:aQ.rep.aK 48 w A c l) (κ:pG W l≠0):
  Calls prog 9 #[.agg ((ai.cells a W).toArray), .slice A l.length c] w (RT W l w):=by
 have dw:(pG W l == 0)=false:=by simpa using κ
 have dN:(pG W l != 0)=true:=by simpa using κ
 refine ch (n:=62) func9 Z Z Z ?_;refine dZ Z Z λ cG bB aR d' ae=> ?_;have hE:=ae.lt;refine cU nG Z λ eC cJ bt hP ar=> ?_;have bO:=γ aR bt;have mB:=ar.lt;refine cU Kg Z λ hG jf cr rm br=> ?_;have c6:=γ bO cr;refine aJ Z<|aB Z<| ?_;have ae:=ae.later (γ bt cr);refine aa (ax Z (ae.all dz cd))<|cM YV Z (aJH _ _ l a W _ (ah.keep c6) (bZ.keep c6) κ) λ nR gb=> ?_;have eZ:=γ c6 gb;refine vm Z<|bs Z Z<|bs Z Z<|bs Z Z<|bs Z Z<|va Z<|va Z<|va Z<|aJ Z<|av<|aB Z<|aa (beq Z Z)<|vm (ep Z dw)<|ba Z<|ba Z<|ba Z<|aa (fR Z Z)<|aC<|gj Z<| ?_;refine bm<|av<|aB Z<|cS Z Z<|aC<|eT (ep Z dN)<|aw<|aa (v:= .agg #[Φ 0,Φ 0, .slice none 0 0, .slice none 0 0, .slice none 0 0, .slice none 0 0, .slice none 0 0,Φ 0,Φ 0]) (eu Z)<|aa (v:= .agg #[.slice none 0 0, .slice none 0 0, .slice none 0 0]) (eu Z)<|vm Z<| ?_;have ar:=ar.later (γ cr gb);refine cF Z Z ar Z cd Z Z λ rF IH ar=> ?_;have iA:=Ext.mod eZ IH bo;have br:=(br.later gb).mod IH aO;refine cF Z Z br Z CC Z Z λ ub Dq br=> ?_;have hH:=Ext.mod iA Dq bo;refine aY Z<|bD<| ?_;have ar:=ar.mod Dq aO;refine cz (.cell Z (ar.all dz cd) (.cell Z (br.all SM CC) (.tmp Z .nil)))<| ?_;have e0:iZ W l=pG W l:=by unfold iZ;rw [aYq κ]
 obtain ⟨nV,z2,z3,z4⟩:=apu (W:=W) (l:=l) (by rw [e0];first | exact κ | decide);exact ⟨⟨none,none,none,none,none,0,0,0,0,0⟩,none,0,none,0,none,0,by rw [e0,nV,z2,z3,z4];rfl,by rw [nV];exact bH.zero _ _,by rw [z2];exact J.aF.nil _,by rw [z3];exact J.aF.nil _,by rw [z4];exact J.aF.nil _,λ q I=>by simp [J.ab] at I,hH⟩
theorem aKp (a:ai.b7) (W:ai) (A:Option Addr) (c:Nat) (l:List aQ) (w:World) (bZ:ai.Has w a W) (ah:aQ.rep.aK 48 w A c l) (κ:pG W l=0) (τ:1000000≤W.now):
  Calls prog 9 #[.agg ((ai.cells a W).toArray), .slice A l.length c] w (RT W l w):=by
 refine ch (n:=62) func9 Z Z Z ?_;refine dZ Z Z λ cG bB aR d' ae=> ?_;have hE:=ae.lt;refine cU nG Z λ eC cJ bt hP ar=> ?_;have bO:=γ aR bt;have mB:=ar.lt;refine cU Kg Z λ hG jf cr rm br=> ?_;have c6:=γ bO cr;refine aJ Z<|aB Z<| ?_;have ae:=ae.later (γ bt cr);refine aa (ax Z (ae.all dz cd))<|ca YV Z Z ((ao5 _ _ l a W _ (ah.keep c6) (bZ.keep c6) κ).mono ?_);rintro e ub ⟨arb,avM,WL,avN,arc,Yl,rfl,Ru,JW,JX,d_⟩;refine cu ?_;have hH:=γ c6 d_;refine vm Z<|bs Z Z<|bs Z Z<|bs Z Z<|bs Z Z<|va Z<|va Z<|va Z<|aJ Z<|av<|aB Z<|aa (beq Z Z)<|vm Z<|cm Z Z Z<|aa (aj HG Z)<|cm Z Z Z<| ?_;have ae:=ae.later d_;refine bk Z ae aT Z<|cm Z Z Z<|aa (jg Z Z)<|aa (iK Z Z)<|aC<| ?_;have pc:(decide (1000000≤W.now))=true:=by exact aYD τ
 refine eT (by rw [← pc];rfl)<|rg<|aJ Z<|av<|aB Z<|cS Z Z<|aC<|eT Z<|aw<|aa (v:= .agg #[Φ 0,Φ 0, .slice none 0 0, .slice none 0 0, .slice none 0 0, .slice none 0 0, .slice none 0 0,Φ 0,Φ 0]) (eu Z)<|aa (v:= .agg #[.slice none 0 0, .slice none 0 0, .slice none 0 0]) (eu Z)<|vm Z<| ?_;have ar:=ar.later (γ cr d_);refine cF Z Z ar Z cd Z Z λ wF oR ar=> ?_;have mf:=Ext.mod hH oR bo;have br:=(br.later d_).mod oR aO;refine cF Z Z br Z CC Z Z λ vk oS br=> ?_;have jr:=Ext.mod mf oS bo;refine aY Z<|bD<| ?_;have ar:=ar.mod oS aO;refine cz (.cell Z (ar.all dz cd) (.cell Z (br.all SM CC) (.tmp Z .nil)))<| ?_;have e0:iZ W l=6:=by unfold iZ;rw [aYi (by simpa using κ),aYq τ]
 obtain ⟨nV,z2,z3,z4⟩:=apu (W:=W) (l:=l) (by rw [e0];first | exact κ | decide);exact ⟨⟨none,none,none,none,none,0,0,0,0,0⟩,none,0,none,0,none,0,by rw [e0,nV,z2,z3,z4];rfl,by rw [nV];exact bH.zero _ _,by rw [z2];exact J.aF.nil _,by rw [z3];exact J.aF.nil _,by rw [z4];exact J.aF.nil _,λ q I=>by simp [J.ab] at I,jr⟩
theorem aKq (a:ai.b7) (W:ai) (A:Option Addr) (c:Nat) (l:List aQ) (w:World) (bZ:ai.Has w a W) (ah:aQ.rep.aK 48 w A c l) (aG:iZ W l=0):
  Calls prog 9 #[.agg ((ai.cells a W).toArray), .slice A l.length c] w (RT W l w):=by
 obtain ⟨κ,τ,au,aU⟩:=VC aG;obtain ⟨aW,bb,df,g1,g2,g3⟩:=aKr aG;have aC0:0≤(wz W l).now∧(wz W l).now≤1000000:=g3.now;refine ch (n:=62) func9 Z Z Z ?_;refine dZ Z Z λ cG bB aR d' ae=> ?_;have hE:=ae.lt;refine cU nG Z λ eC cJ bt hP ar=> ?_;have bO:=γ aR bt;have mB:=ar.lt;refine cU Kg Z λ hG jf cr rm br=> ?_;have c6:=γ bO cr;have xX:=br.lt;refine aJ Z<|aB Z<| ?_;have ae:=ae.later (γ bt cr);refine aa (ax Z (ae.all dz cd))<|ca YV Z Z ((ao5 _ _ l a W _ (ah.keep c6) (bZ.keep c6) κ).mono ?_);rintro e ub ⟨arb,avM,WL,avN,arc,Yl,rfl,Ru,JW,JX,d_⟩;refine cu ?_;have:=d_.size;have hH:=γ c6 d_;have aKJ:=bM JW.lt;have Uy:=dx JW.lt;have pJ:=bM JX.lt;have nN:=dx JX.lt;refine vm Z<|bs Z Z<|bs Z Z<|bs Z Z<|bs Z Z<|va Z<|va Z<|va Z<|aJ Z<|av<|aB Z<|aa (beq Z Z)<|vm Z<|cm Z Z Z<|aa (aj HG Z)<|cm Z Z Z<| ?_;have ae:=ae.later d_;refine bk Z ae aT Z<|cm Z Z Z<|aa (jg Z Z)<|aa (iK Z Z)<|aC<| ?_;have pc:(decide (1000000≤W.now))=false:=by exact aYL (by omega)
 refine gj (by rw [← pc];rfl)<|bm<|av<|aB Z<|cS Z Z<|aC<|gj Z<|bm<|aw<|cU Kg Z λ wF aPD ma aTM rU=> ?_;have:=ma.size;have mf:=γ hH ma;have aWc:=rU.lt;refine aC<|aw<| ?_;have ae:=ae.later ma;refine aa (ax Z (ae.all dz cd))<|vm Z<| ?_;have Ru:=Ru.later ma;refine ca ah3 Z Z ((ape (iY W l (l).length) _ _ a W _ (bZ.keep mf) Ru.has).mono ?_);rintro e Gt ⟨a40,JB,J7,rfl,Ra,M7,aBQ,wM⟩;refine cu ?_;have:=wM.size;have rN:=γ mf wM;have uV:=dx Ra.lt;have LU:=bM M7.lt;have Dl:=dx M7.lt;refine vm Z<|bs Z Z<|bs Z Z<|bs Z Z<| ?_;have ae:=ae.later wM;refine st Z Z ae Z cd Z Z Z λ L5 Bm ae=> ?_;have:=Bm.size;have qA:=Ext.mod rN Bm bo;refine aa (aj ax7 Z)<| ?_;have rU:=(rU.later wM).mod Bm aO;refine dU Z Z rU Z nH Z Z λ Jd iw rU=> ?_;have:=iw.size;have qB:=Ext.mod qA iw bo;refine aC<|aw<| ?_;have ae:=ae.mod iw aO;refine aa (ax Z (ae.all dz cd))<|vm Z<| ?_;have JW:=((JW.later (γ ma wM)).mod Bm (bz Uy)).mod iw (bU aKJ);have Ra:=(Ra.mod Bm (bz uV)).mod iw (bz uV);refine ca ax8 Z Z ((aGw a40 (qq W (iY W l (l).length)) _ _ (jm W l (l).length) _ Ra.has JW.has).mono ?_);rintro e L7 ⟨J2,aqK,avn,rfl,Am,M9,TK,rI⟩;refine cu ?_;have:=rI.size;have sK:=γ qB rI;have Lc:=dx Am.lt;have BE:=bM M9.lt;have Iy:=dx M9.lt;refine vm Z<|bs Z Z<|bs Z Z<|bs Z Z<| ?_;have ae:=ae.later rI;refine st Z Z ae Z cd Z Z Z λ Qp wq ae=> ?_;have:=wq.size;have rQ:=Ext.mod sK wq bo;refine aa (aj ax9 Z)<| ?_;have rU:=(rU.later rI).mod wq aO;refine dU Z Z rU Z nH Z Z λ L_ qi rU=> ?_;have:=qi.size;have z_:=Ext.mod rQ qi bo;refine aC<|aw<| ?_;have ae:=ae.mod qi aO;refine aa (ax Z (ae.all dz cd))<|vm Z<| ?_;have JX:=(((((JX.later (γ ma wM)).mod Bm (bz nN)).mod iw (bU pJ)).later rI).mod wq (bz nN)).mod qi (bU pJ);have Am:=(Am.mod wq (bz Lc)).mod qi (bz Lc);refine ca aya Z Z ((axk (jK W l (l).length) _ _ _ J2 (qk (qq W (iY W l (l).length)) (jm W l (l).length)) Am.has JX.has).mono ?_);rintro e Mc ⟨XS,aeM,avV,rfl,G6,Rs,aBV,dK⟩;refine cu ?_;have qD:=γ z_ dK;have IA:=dx G6.lt;have Py:=dx Rs.lt;have aw6:∀ q∈J.ab aeM,q∈bH.cR XS→False:=aBV;refine vm Z<|bs Z Z<|bs Z Z<|bs Z Z<| ?_;have ae:=ae.later dK;refine st Z Z ae Z cd Z Z Z λ DO jj ae=> ?_;have pT:=Ext.mod qD jj bo;refine aa (aj ayb Z)<| ?_;have rU:=(rU.later dK).mod jj aO;refine dU Z Z rU Z ayc Z Z λ V5 zz rU=> ?_;have D8:=Ext.mod pT zz bo;refine aC<|aw<|aa (aj HG Z)<| ?_;have ae:=ae.mod zz aO;refine bk Z ae aT Z<|aa (bad Z Z (pk ((by have I:_∧_:=aC0;unfold wz BB BA at I;omega))))<|aa (aj HG Z)<|dU Z Z ae Z dg Z Z λ V6 zA ae=> ?_;have D9:=Ext.mod D8 zA bo;refine aC<|av<| ?_;refine P0 [cJ] [(0,0),(1,0),(2,2),(3,3)] [0,1,2,3,4] (by kernel_rfl) (by kernel_rfl) ?_;refine r8 Z Z (λ _ x=>ax Z ((ae.mod x aO).all dz cd)) Z<| ?_;have rU:=rU.mod zA aO;refine r8 Z Z (λ _ x=>ax Z ((rU.mod x aO).all SM CC)) Z<| ?_;have ar:=(((((((((ar.later (γ cr (γ d_ (γ ma wM)))).mod Bm aO).mod iw aO).later rI).mod wq aO).mod qi aO).later dK).mod jj aO).mod zz aO).mod zA aO;refine CN Z Z Z λ V8 hY Q hK=>cF Z Z (ar.later hY) Z cd Z Z λ Ji mX ar=>hK _ _ ⟨(Mod.a8 hY).trans mX, ?_⟩;have D':=γ D9 hY;have sL:=Ext.mod D' mX bo;have br:=(((((((((((br.later (γ d_ (γ ma wM))).mod Bm aO).mod iw aO).later rI).mod wq aO).mod qi aO).later dK).mod jj aO).mod zz aO).mod zA aO).later hY).mod mX aO;refine N0 Z Z Z λ Mf jn Q hK=>cF Z Z (br.later jn) Z CC Z Z λ Gn lq br=>hK _ _ ?_;have rS:=γ sL jn;have D3:=Ext.mod rS lq bo;refine fO Z Z (λ _=>ee Z) Z<|N1 λ ad0 Jl=> ?_;have Ju:=γ D3 Jl;refine aX<|rt<| ?_;have ar:=((ar.later jn).mod lq aO).later Jl;have br:=br.later Jl;refine cz (.cell Z (ar.all dz cd) (.cell Z (br.all SM CC) (.tmp Z .nil)))<| ?_;have G6:=(((((((G6.mod jj (bz IA)).mod zz (bz IA)).mod zA (bz IA)).later hY).mod mX (bz IA)).later jn).mod lq (bz IA)).later Jl;have M7:=(((((((((((((M7.mod Bm (bz Dl)).mod iw (bz Dl)).later rI).mod wq (bz Dl)).mod qi (bz Dl)).later dK).mod jj (bz Dl)).mod zz (bz Dl)).mod zA (bz Dl)).later hY).mod mX (bz Dl)).later jn).mod lq (bz Dl)).later Jl;have M9:=((((((((((M9.mod wq (bz Iy)).mod qi (bz Iy)).later dK).mod jj (bz Iy)).mod zz (bz Iy)).mod zA (bz Iy)).later hY).mod mX (bz Iy)).later jn).mod lq (bz Iy)).later Jl;have Rs:=(((((((Rs.mod jj (bz Py)).mod zz (bz Py)).mod zA (bz Py)).later hY).mod mX (bz Py)).later jn).mod lq (bz Py)).later Jl;obtain ⟨nV,z2,z3,z4⟩:=apv aG;have hR:bH ad0 w.heap.size XS (pH W l):=by rw [nV];exact (G6.down (by omega)).aoO Z Z Z Z Z ⟨G6.nums.1,G6.nums.2.1,G6.nums.2.2.1,b8.2 (by show _≤(wz W l).now+1∧(wz W l).now+1≤_;omega)⟩
 exact ⟨XS,JB,J7,aqK,avn,aeM,avV,by rw [aG,nV,z2,z3,z4];rfl,hR,by rw [z2];exact M7.down (by omega),by rw [z3];exact M9.down (by omega),by rw [z4];exact Rs.down (by omega),λ q I hf=>I.elim (λ I=>by exfalso;(have:=IA q hf;(have:=LU q I;omega))) (λ I=>I.elim (λ I=>by exfalso;(have:=IA q hf;(have:=BE q I;omega))) (λ I=>aw6 q I hf)),Ju⟩
theorem Qg (a:ai.b7) (W:ai) (A:Option Addr) (c:Nat) (l:List aQ) (w:World) (bZ:ai.Has w a W) (ah:aQ.rep.aK 48 w A c l):Calls prog 9 #[.agg (ai.cells a W).toArray, .slice A l.length c] w (RT W l w):=by
 by_cases κ:pG W l=0
 ·by_cases τ:1000000≤W.now
  ·exact aKp a W A c l w bZ ah κ τ
  ·exact aKq a W A c l w bZ ah (by unfold iZ;rw [aYi (by simpa using κ),aYi τ])
 ·exact aKo a W A c l w bZ ah κ
end
section
variable {V:ai}
structure Kept (W V:ai):Prop where
 field:V.field=W.field
 bf:V.bf=W.bf
 now:V.now=W.now
 next:V.next=W.next+((V.ao.length:Int) - W.ao.length)
 len:W.ao.length≤V.ao.length
 old:∀ (i:Nat) (t:bj),W.ao[i]? =some t→∃ u:bj,V.ao[i]? =some u∧ {u with load:=t.load}=t
 new:∀ (i:Nat) (u:bj),W.ao.length≤i→V.ao[i]? =some u→W.next≤u.id
theorem Kept.x' {U W:ai} (h:Kept U V) (k:Kept V W):Kept U W where
 field:=k.field.trans h.field
 bf:=k.bf.trans h.bf
 now:=k.now.trans h.now
 next:=by rw [k.next,h.next];omega
 len:=aYF h.len k.len
 old i t aH:=by
  obtain ⟨u,hu,e⟩:=h.old i t aH;obtain ⟨x,hx,bb⟩:=k.old i u hu;refine ⟨x,hx, ?_⟩;rw [← e,← bb]
 new i u hi hu:=by
  by_cases κ:i<V.ao.length
  ·obtain ⟨t,aH⟩:=ic κ;obtain ⟨x,hx,e⟩:=k.old i t aH;rw [hu] at hx;obtain rfl:=aYd hx;have:=h.new i t hi aH;have df:t.id=u.id:=by rw [← e]
   omega
  ·have τ:=k.new i u (by omega) hu;have:=h.next;have:=h.len;omega
theorem Kept.getD {W:ai} (h:Kept W V) {i:Nat} (hi:i<W.ao.length): {V.ao.getD i default with load:=(W.ao.getD i default).load}=W.ao.getD i default:=by
 obtain ⟨t,aH⟩:=ic hi;obtain ⟨u,hu,e⟩:=h.old i t aH;rw [aX7,aX7,aH,hu];exact e
def an1:List dV→List Bool→List dV
 | d::l,b::c7=>if b then d::an1 l c7 else an1 l c7
 | _,_=> []
end
theorem apf {W:ai} (h:W.a7=0):qq W []=W∧Bz W []= []:=by
 have aW:=X' (l:= []) h (by decide);have hS:=apg aW;have eI:gR W []=List.replicate W.ao.length 0:=by unfold gR;rw [aW];rfl
 have hu:C_ W []=W.ao:=by
  apply aZW;intro i;cases aH:W.ao[i]? with
  | none =>
   have:=List.getElem?_eq_none_iff.1 aH;rw [aZE (by rw [T_];exact this)]
  | some t =>
   rw [T9 aH,eI];have:(List.replicate W.ao.length (0:Int)).getD i 0=0:=by
    rw [aX7,aZn];split<;>rfl
   rw [this,Int.sub_zero]
 have hf:∀ t∈W.ao,0<t.dW:=λ t aH=>by have:=(hS.eB.each aH).2.2.dW;omega
 constructor
 ·rw [hS.bZ,hu,List.filter_eq_self.2 λ t aH=>aYD (hf t aH)]
 ·rw [hS.bP,hu,List.filter_eq_nil_iff.2 λ t aH=>by simp [hf t aH]];rfl
theorem ao8 {f:aL} {T:List bj}:∀ k,kZ f [] T k=(T, [])
 | 0=>rfl
 | k+1=>I4 (ao8 k) (apa (by show gY _ ([]:List eQ)<0;unfold gY;simp))
theorem aF8 {W:ai} (h:W.a7=0):qk W []=W∧tQ W []= []:=by
 obtain ⟨aW,bb,df⟩:=UP (W:=W) (l:= []) h (by decide);rw [bb,df];unfold ai.nv;rw [ao8];exact ⟨Z,Z⟩
def o2:List aQ:= [⟨0,3,1,⟨2,0⟩,0⟩]
def adD:ai:=⟨⟨3,1, [0,0,3]⟩, [⟨0,0⟩], [20], [0,0,8], [⟨1,0,1,⟨1,0⟩,10,1⟩],2,1⟩
theorem adI:iZ l8 o2=0∧pH l8 o2=adD∧Gd l8 o2= []∧Ge l8 o2= []∧Gc l8 o2= [true]:=by
 have hc:l8.a7=0:=by decide +kernel
 have ahU:iY l8 o2 o2.length= []:=by decide +kernel
 have S2:jm l8 o2 o2.length= []:=by decide +kernel
 have ahV:jK l8 o2 o2.length= [⟨1,1,⟨2,0⟩,0⟩]:=by decide +kernel
 have aW:iZ l8 o2=0:=by decide +kernel
 obtain ⟨nV,z2,z3,z4⟩:=apv aW;obtain ⟨s1,s2⟩:=apf hc;have t1:BA l8 o2=l8:=by unfold BA;rw [ahU];exact s1
 obtain ⟨zp,UA⟩:=aF8 hc;have t2:BB l8 o2=l8:=by unfold BB;rw [t1,S2];exact zp
 have t3:wz l8 o2=l8.uJ [⟨1,1,⟨2,0⟩,0⟩]:=by unfold wz;rw [t2,ahV]
 have hd:l8.uJ [⟨1,1,⟨2,0⟩,0⟩]= {adD with now:=0}:=by decide +kernel
 refine ⟨aW, ?_, ?_, ?_, ?_⟩
 ·rw [nV,t3,hd];rfl
 ·rw [z2,ahU];exact s2
 ·rw [z3,t1,S2];exact UA
 ·rw [z4,t2,ahV];decide +kernel
structure iC where
 a:Option Addr
 n:Nat
 c:Nat
instance:Inhabited iC:=⟨⟨none,0,0⟩⟩
def qs:J iC:=J.flat 1 (λ v=> [.slice v.a v.n v.c]) (λ _=>True) (λ _ u=>∃ a n c,u= .slice a n c) (λ _=>rfl) (by intro a u hu;simp at hu;subst hu;rfl) (by
 intro a j u hu;cases j with
 | zero=>simp at hu;exact ⟨_,_,_,hu.symm⟩
 | succ j=>simp at hu)
theorem aaA {w:World} {cs:List Value} {a:iC} (h:qs.has w cs a):cs= [.slice a.a a.n a.c]:=bas (show cs= [.slice a.a a.n a.c]∧True from h)
theorem ac2:∀ (j:Nat) u,(Value.slice none 0 0).cells[j]? =some u→qs.raw j u:=by
 intro j u hu;have hu:(#[(.slice none 0 0:Value)]:Array Value)[j]? =some u:=hu
 match j,hu with
 | 0,hu=>exact ⟨_,_,_,(aYd hu).symm⟩
 | j+1,hu=>simp at hu
end Go.Proofs.YtmeeljmapailnaaGreat
namespace Go.Proofs.YtmeeljmapailnaaGreat.Mark
open Tryz
open Go.Proofs.YtmeeljmapailnaaGreat.fL

abbrev dy:=BitVec 64
abbrev W:=BitVec 64
def xs (k:Nat) (x:dy):dy:=x ^^^ x >>> k
def c1:dy:=13787848793156543929#64
def c2:dy:=10723151780598845931#64
def ZS:dy:=11400714819323198485#64
def mix (n:dy):dy:=xs 31 (xs 27 (xs 30 (n+ZS) * c1) * c2)
def down (k:Nat) (x:dy):dy:=xs (2 * k) (xs k x)
def Lo (x y:dy):dy:=y * (2#64 - x * y)
def other (x:dy):dy:=Lo x (Lo x (Lo x (Lo x (Lo x (Lo x x)))))
def back (n:dy):dy:=down 30 (down 27 (down 31 n * other c2) * other c1) - ZS
section
variable (f:dy→dy)
def VD (m n:dy):dy:=m ^^^ f n
def AA (l:List dy) (m:dy):dy:=l.foldl (VD f) m
def IN (l:List dy):dy:=AA f l 0#64
theorem aui (l:List dy) (x:dy) (m:dy):AA f (l++ [x]) m=VD f (AA f l m) x:=by unfold AA;rw [aZU];rfl
end
end Go.Proofs.YtmeeljmapailnaaGreat.Mark
namespace Go.Proofs.YtmeeljmapailnaaGreat.Mark
open Tryz
open Go.RowKit Go.Proofs.YtmeeljmapailnaaGreat.fL

theorem P2 {a b:Int} (h:a=b):Ending.returned (.int .u64 a)= .returned (.int .u64 b):=by rw [h]

theorem ad8 (x:Int):IntKind.u64.wrap x=U (BitVec.ofInt 64 x):=by
 refine S4 ?_ ?_ (aG5 x)
 ·rw [aZt];omega
 ·rw [aZt];omega
theorem auf (a:dy):IntKind.u64.wrap (U a+11400714819323198485)=U (a+ZS):=by
 rw [ad8,aGX,xU];rfl
theorem aGy (a:dy):IntKind.u64.wrap (U a * 13787848793156543929)=U (a * c1):=by
 rw [ad8,anI,xU];rfl
theorem aGz (a:dy):IntKind.u64.wrap (U a * 10723151780598845931)=U (a * c2):=by
 rw [ad8,anI,xU];rfl
theorem aeg (k:Nat) (a:dy):bits BinOp.xor IntKind.u64 (U a) (U a / 2 ^ k)=U (xs k a):=by
 refine S4 (X_ _ _ _) (X9 _ _ _) ?_;rw [acB,anK (n:=64) (U a) k (XQ a) (by have:=atZ a;omega),xU];rfl
theorem aMi (a:dy):bits BinOp.xor IntKind.u64 (U a) (U a / 1073741824)=U (xs 30 a):=aeg 30 a
theorem aMh (a:dy):bits BinOp.xor IntKind.u64 (U a) (U a / 134217728)=U (xs 27 a):=aeg 27 a
theorem aMj (a:dy):bits BinOp.xor IntKind.u64 (U a) (U a / 2147483648)=U (xs 31 a):=aeg 31 a
theorem acj (x:Int) (n:dy) (hx:x=U n) (w:World):
  Calls prog 157 #[.int .u64 x] w fun e w'=>e= .returned (.int .u64 (U (mix n)))∧w=w':=by
 subst hx;go_enter func157,ntmps157;go_wp2
 go_ret;refine ⟨P2 ?_,Z⟩;rw [auf,aMi,aGy,aMh,aGz,aMj];rfl

end Go.Proofs.YtmeeljmapailnaaGreat.Mark
namespace Go.Proofs.YtmeeljmapailnaaGreat.Mark
open Tryz
open Go.RowKit Go.Proofs.YtmeeljmapailnaaGreat.fL


theorem Qg (x y:Int) (m n:dy) (hx:x=U m) (aE:y=U n) (w:World):
  Calls prog 158 #[.int .u64 x, .int .u64 y] w fun e w'=>e= .returned (.int .u64 (U (VD mix m n)))∧w=w':=by
 subst hx aE;go_enter func158,ntmps158;go_wp2_with (go_at_call 157;refine (acj _ n rfl _).mono ?_;rintro e w' ⟨rfl,rfl⟩)
 go_ret;exact ⟨P2 (by refine S4 (X_ _ _ _) (X9 _ _ _) ?_;rw [acB,xU,xU];rfl),Z⟩
def Hj (w:World) (a:Option Addr) (n:Nat) (zs:List dy):Prop :=
 n=zs.length∧n≤9223372036854775807∧(zs= []∨∃ b off,a=some ⟨b,off,none⟩∧∀ i (h:i<zs.length),w.cell? ⟨b,off+i,none⟩=some (.int .u64 (U zs[i])))

def Ho (sM:List (List dy)) (m:dy):dy:=sM.foldl (fun m l=>AA mix l m) m
theorem aum (sM:List (List dy)) (l:List dy) (m:dy):Ho (sM++ [l]) m=AA mix l (Ho sM m):=by unfold Ho;rw [aZU];rfl
theorem aph {α:Type} (l:List α) (k:Nat) (h:k<l.length):l.take (k+1)=l.take k++ [l[k]]:=aYH h

theorem auj (b c:Nat) (vs:List (Option Addr×Nat×Nat)) (sM:List (List dy)) (w:World) (hn:vs.length=sM.length) (hc:c≤100) (hcv:vs.length≤100)
  (kD:∀ i (h:i<vs.length),w.cell? ⟨b,i,none⟩=some (.slice vs[i].1 vs[i].2.1 vs[i].2.2)) (xG:∀ i (h:i<vs.length) (dh:i<sM.length),Hj w vs[i].1 vs[i].2.1 sM[i]):
  Calls prog 125 #[.slice (some ⟨b,0,none⟩) vs.length c] w fun e w'=>e= .returned (.int .u64 (U (Ho sM 0#64)))∧w=w':=by
 obtain ⟨N,fr⟩:∃ N,Hid (N=vs.length):=⟨_,aYe rfl⟩;have B5:=aYe kD;have gL:=aYe xG;have rX:=aYe hn;rw [← fr.out] at hcv ⊢;clear kD xG hn;go_enter func125,ntmps125;go_wp2
 go_loop [3,10] (fun v i=>∃ k:Nat,k≤N∧i= .int .i64 k∧v= .int .u64 (U (Ho (sM.take k) 0#64))) (fun _ i=>N - (intOf i).toNat)
 case atStart=>exact ⟨0,aYX _,rfl,rfl⟩
 case round =>
  obtain ⟨k,ak,rfl,rfl⟩:=hrel;by_cases bF:k<N
  ·have ako:k<vs.length:=by have:=fr.out;omega
   have akp:k<sM.length:=by have:=rX.out;omega
   have κ:=B5.out k ako;have τ:=gL.out k ako akp;obtain ⟨l,afE⟩:∃ l,Hid (sM[k]=l):=⟨_,aYe rfl⟩;rw [afE.out] at τ;generalize vs[k].1=a at κ τ;generalize vs[k].2.1=n at κ τ;generalize vs[k].2.2=cc at κ τ;obtain ⟨au,aU,bN⟩:=τ;have jO:=aYe au;clear au;generalize qZ:Ho (sM.take k) 0#64=M;have Oe:Ho (sM.take (k+1)) 0#64=AA mix l M:=by rw [aph _ _ akp,aum,qZ,afE.out]
   have mi:=aYe Oe;clear qZ Oe;rcases bN with mS | ⟨qM,off,rfl,kT⟩
   ·have Ij:n=0:=by rw [jO.out,mS];rfl
    have ash:=aYe mS;subst Ij;clear mS;go_wp2_with fail
    refine wp_loop_rounds 1 ?_;rw [rounds_succ];go_wp2_with fail
    go_round
    case rel=>exact ⟨k+1,by omega,by go_num,by rw [mi.out,ash.out];rfl⟩
    case measure=>simp [intOf];omega
   ·have ar7:=aYe kT;clear kT;go_wp2_with fail
    go_loop [3,16] (fun v i=>∃ q:Nat,q≤n∧i= .int .i64 q∧v= .int .u64 (U (AA mix (l.take q) M))) (fun _ i=>n - (intOf i).toNat)
    case atStart=>exact ⟨0,aYX _,rfl,rfl⟩
    case round =>
     obtain ⟨q,I,rfl,rfl⟩:=hrel;by_cases aSz:q<n
     ·have ak2:q<l.length:=by have:=jO.out;omega
      have aBO:=ar7.out q ak2;generalize xx:l[q]=z at aBO;generalize ajt:AA mix (l.take q) M=M2;have JM:=aYe (show AA mix (l.take (q+1)) M=VD mix M2 z by rw [aph _ _ ak2,aui,ajt,xx]);clear xx ajt κ;go_wp2_with (go_at_call 158;(with_reducible refine (Qg _ _ M2 z rfl rfl _).mono ?_);rintro e w' ⟨rfl,rfl⟩)
      go_round
      case rel=>exact ⟨q+1,by omega,by go_num,by rw [JM.out]⟩
      case measure=>simp [intOf];omega
     ·have aDf:n=q:=by omega
      subst aDf;have ah:l.take n=l:=aYp (by have:=jO.out;omega);rw [ah,← mi.out];clear ah κ;go_wp2_with fail
      go_round
      case rel=>exact ⟨k+1,by omega,by go_num,rfl⟩
      case measure=>simp [intOf];omega
  ·have aa2:N=k:=by omega
   subst aa2;have e:sM.take N=sM:=aYp (by have:=rX.out;have:=fr.out;omega);rw [e];clear e;go_wp2_with fail
   go_ret;exact ⟨Z,Z⟩

theorem Hj.later {w w':World} {a:Option Addr} {n:Nat} {zs:List dy} (h:Hj w a n zs) (ag:Below w.heap.size w w'):Hj w' a n zs:=by
 obtain ⟨κ,τ,au⟩:=h;refine ⟨κ,τ, ?_⟩;rcases au with au | ⟨b,off,ha,hc⟩
 ·exact .inl au
 ·refine .inr ⟨b,off,ha,fun i hi=> ?_⟩;rw [ag.cell (baj w _ (hc i hi))];exact hc i hi

theorem aul (b n c:Nat) (a:Option Addr) (l:List dy) (w:World) (h:w.cell? ⟨b,0,none⟩=some (.slice a n c)) (hs:Hj w a n l):
  Calls prog 125 #[.slice (some ⟨b,0,none⟩) 1 1] w fun e w'=>e= .returned (.int .u64 (U (IN mix l)))∧w=w':=by
 refine (auj b 1 [(a,n,c)] [l] w Z (by decide) (by simp) ?_ ?_).mono fun e w' h=>h
 ·intro i hi
  match i,hi with
  | 0,_=>exact h
 ·intro i hi _
  match i,hi with
  | 0,_=>exact hs
theorem acy (a:Option Addr) (n c:Nat) (l:List dy) (w:World) (hs:Hj w a n l):
  Calls prog 87 #[.slice a n c] w fun e w'=>e= .returned (.int .u64 (U (IN mix l)))∧Below w.heap.size w w':=by
 have ag:=(aYG w.heap.size w).alloc (aYg _) (.cells #[.slice a n c] 92);have hO:=hs.later ag;go_enter func87,ntmps87;go_wp2_with fail
 refine (aul _ n c a l _ (by simp [bax]) hO).mono ?_;rintro e w' ⟨rfl,rfl⟩;go_wp2_with fail
 go_ret;exact ⟨Z,ag⟩

end Go.Proofs.YtmeeljmapailnaaGreat.Mark
namespace Go.Proofs.YtmeeljmapailnaaGreat.Tree
open Tryz
open Go.Proofs.YtmeeljmapailnaaGreat.fL Go.Proofs.YtmeeljmapailnaaGreat.Mark

def FL (s:List UInt8):dy:=s.foldl (fun m b=>mix (m ^^^ BitVec.ofNat 64 b.toNat)) (mix (BitVec.ofNat 64 s.length))
def aIO (b:dy):dy:=b <<<32 ||| b >>> 32
def LA (a b:dy):dy:=mix (mix (a ^^^ aIO b ^^^ 1#64) ^^^ b)
def nu (n:Nat):Nat:=2 ^ Nat.log2 (n - 1)
def ac9:Nat→List (List UInt8)→dy
 | 0,_=>0#64
 | f+1,l=>match l with
  | []=>0#64
  | [s]=>FL s
  | a::b::r=>LA (ac9 f ((a::b::r).take (nu (r.length+2)))) (ac9 f ((a::b::r).drop (nu (r.length+2))))
def Vh (l:List (List UInt8)):dy:=ac9 l.length l
end Go.Proofs.YtmeeljmapailnaaGreat.Tree
namespace Go.Proofs.YtmeeljmapailnaaGreat.Tree
open Tryz
open Go.RowKit Go.Proofs.YtmeeljmapailnaaGreat Go.Proofs.YtmeeljmapailnaaGreat.fL Go.Proofs.YtmeeljmapailnaaGreat.Mark

theorem aMe (a b:dy):bits .xor .u64 (U a) (U b)=U (a ^^^ b):=by
 refine S4 (X_ _ _ _) (X9 _ _ _) ?_;rw [acB,xU,xU]
theorem aFo (l:List UInt8) (n:Nat) (b:UInt8) (m:dy):(l++ [b]).foldl (fun m b=>mix (m ^^^ BitVec.ofNat 64 b.toNat)) m=mix (l.foldl (fun m b=>mix (m ^^^ BitVec.ofNat 64 b.toNat)) m ^^^ BitVec.ofNat 64 b.toNat):=by rw [aZU];rfl
def upto (s:ByteArray) (k:Nat):dy:=(s.data.toList.take k).foldl (fun m b=>mix (m ^^^ BitVec.ofNat 64 b.toNat)) (mix (BitVec.ofNat 64 s.size))
theorem aKY (s:ByteArray) (k:Nat) (h:k<s.size):upto s (k+1)=mix (upto s k ^^^ BitVec.ofNat 64 s[k].toNat):=by
 unfold upto;have ak:k<s.data.toList.length:=by simpa using h
 rw [aYH ak,aFo _ k];rfl
theorem aKX (s:ByteArray):upto s s.size=FL s.data.toList:=by
 unfold upto FL;rw [aYp (by simp)];rfl
theorem af0 (n:Nat) (h:n<18446744073709551616):((n:Nat):Int)=U (BitVec.ofNat 64 n):=by
 unfold U;rw [aZ2,aZz h]
theorem K' (s:ByteArray) (hs:s.size≤9223372036854775807) (w:World):Calls prog 124 #[.string s] w fun e w'=>e= .returned (.int .u64 (U (FL s.data.toList)))∧∃ q,w'=w.drewN q:=by
 have aG:upto s 0=mix (BitVec.ofNat 64 s.size):=rfl;have Tu:=af0 s.size (by omega);have hm:=acj _ (BitVec.ofNat 64 s.size) Tu;have dM:=aYe (aKX s);rw [← aG] at hm;have yz:=aYe aG;have hw:IntKind.u64.wrap (s.size:Int)=(s.size:Int):=by rw [aZt];omega
 clear Tu aG;go_enter func124,ntmps124;go_wp2_with fail
 refine (hm _).mono ?_;rintro e w' ⟨rfl,rfl⟩;clear hw;go_wp2_with fail
 go_loop [3,11] (fun m i=>∃ k:Nat,k≤s.size∧i= .int .i64 (k:Int)∧m= .int .u64 (U (upto s k))) (fun _ i=>s.size - (intOf i).toNat)
 case atStart=>exact ⟨0,aYX _,rfl,rfl⟩
 case round =>
  obtain ⟨k,ak,rfl,rfl⟩:=hrel;by_cases bF:k<s.size
  ·have abl:=aKY s k bF;have hx:=aMe (upto s k) (BitVec.ofNat 64 s[k].toNat);rw [← af0 s[k].toNat (by have:=s[k].toNat_lt;omega)] at hx;have hm:=acj _ (upto s k ^^^ BitVec.ofNat 64 s[k].toNat) rfl;rw [← abl] at hm;have gL:=aYe abl;clear abl;have aSL:IntKind.u64.wrap (s[k].toNat:Int)=(s[k].toNat:Int):=by have:=s[k].toNat_lt;rw [aZt];omega
   obtain ⟨UA,JM⟩:∃ UA,Hid (upto s (k+1)=UA):=⟨_,aYe rfl⟩;rw [JM.out] at hm;clear gL;generalize upto s k ^^^ BitVec.ofNat 64 s[k].toNat=x at *
   generalize upto s k=zp at *
   go_wp2_with fail
   refine (hm _).mono ?_;rintro e w' ⟨rfl,rfl⟩;go_wp2_with fail
   go_round
   case rel=>exact ⟨k+1,by omega,by go_num,by rw [JM.out]⟩
   case measure=>simp [intOf];omega
  ·obtain rfl:k=s.size:=by omega
   rw [dM.out];go_wp2_with fail
   go_ret;exact ⟨Z,0,Z⟩
def av9 (l:List ByteArray):List Value:=l.map Value.string
def lists (l:List ByteArray):List (List UInt8):=l.map fun s=>s.data.toList
def aOZ (l:List ByteArray):Prop:=∀ s∈l,s.size≤9223372036854775807
end Go.Proofs.YtmeeljmapailnaaGreat.Tree
namespace Go.Proofs.YtmeeljmapailnaaGreat.Pack
open Tryz
open Go.Proofs.YtmeeljmapailnaaGreat.fL
def lu:Nat→Nat→List UInt8
  | 0,n=> [UInt8.ofNat n]
  | k+1,n=>if n<128 then [UInt8.ofNat n] else UInt8.ofNat (n % 128+128)::lu k (n / 128)
def eN (n:Nat):List UInt8:=lu 9 n
def val:List UInt8→Nat
  | []=>0
  | b::l=>b.toNat % 128+128 * val l

theorem Dz {k n:Nat} (h:n<128):lu k n= [UInt8.ofNat n]:=by
  cases k with
  | zero=>rfl
  | succ k=>unfold lu;rw [aYq h]
theorem Dy {k n:Nat} (h:¬ n<128):lu (k+1) n=UInt8.ofNat (n % 128+128)::lu k (n / 128):=by
  rw [lu];rw [aYi h]
theorem acQ (k n:Nat):(lu k n).length≤k+1∧1≤(lu k n).length:=by
  induction k generalizing n with
  | zero=>simp [lu]
  | succ k bL =>
    by_cases h:n<128
    · rw [Dz h];simp
    · rw [Dy h];have:=bL (n / 128);simp;omega
theorem DA (n:Nat):(eN n).length≤10∧1≤(eN n).length:=acQ 9 n

theorem LC {n k:Nat} (h:n<128 ^ (k+2)):n / 128<128 ^ (k+1):=by
  rw [bbp] at h;exact Nat.div_lt_of_lt_mul (by rw [aZq];exact h)
theorem aK5 (k n:Nat) (h:n<128 ^ (k+1)):val (lu k n)=n:=by
  induction k generalizing n with
  | zero =>
    have κ:n<128:=by simpa using h
    simp only [lu,val,aZi];omega
  | succ k bL =>
    by_cases κ:n<128
    · rw [Dz κ]
      simp only [val,aZi];omega
    · rw [Dy κ]
      simp only [val,aZi];rw [bL (n / 128) (LC h)];omega
theorem IB {n:Nat} (h:n<18446744073709551616):n<128 ^ (9+1):=aZG h (by decide)
theorem aK6 (n:Nat) (h:n<18446744073709551616):val (eN n)=n:=aK5 9 n (IB h)
theorem aIb (k n i:Nat) (hn:n<128 ^ (k+1)) (h:i+1<(lu k n).length) (hi:i<(lu k n).length):128≤((lu k n)[i]).toNat:=by
  induction k generalizing n i with
  | zero=>simp [lu] at h
  | succ k bL =>
    by_cases κ:n<128
    · simp [Dz κ] at h
    · simp only [Dy κ] at h hi ⊢
      cases i with
      | zero=>simp only [bbr,aZi];omega
      | succ i =>
        simp only [bbs];exact bL (n / 128) i (LC hn) (by simpa using h) (by simpa using hi)
theorem aof (k n:Nat) (hn:n<128 ^ (k+1)) (i:Nat) (hi:i<(lu k n).length) (ah:i+1=(lu k n).length):((lu k n)[i]).toNat<128:=by
  induction k generalizing n i with
  | zero =>
    have κ:n<128:=by simpa using hn
    simp only [lu,bcT,aZi];omega
  | succ k bL =>
    by_cases κ:n<128
    · simp only [Dz κ,bcT,aZi]
      omega
    · simp only [Dy κ] at ah hi ⊢
      cases i with
      | zero =>
        have τ:=(acQ k (n / 128)).2;rw [aYc] at ah;omega
      | succ i =>
        simp only [bbs];exact bL (n / 128) (LC hn) i (by simpa using hi) (by simpa using ah)
theorem aK7 (l:List UInt8) (b:UInt8):val (l++ [b])=val l+128 ^ l.length * (b.toNat % 128):=by
  induction l with
  | nil=>simp [val]
  | cons x l bL =>
    simp only [bah,val,bL,aYc,bbp];rw [Nat.mul_add,← Nat.mul_assoc,aZq 128 (128 ^ l.length)];omega
theorem aK4 (l:List UInt8):val l<128 ^ l.length:=by
  induction l with
  | nil=>simp [val]
  | cons x l bL =>
    simp only [val,aYc,bbp];omega
def MG (l:List UInt8) (n:Nat) (rest:List UInt8) (e:Int):Prop :=
  (∃ k,k<10∧k<l.length∧(∀ i (h:i<l.length),i<k→128≤l[i].toNat)∧(∀ h:k<l.length,l[k].toNat<128)∧
    ((eN (val (l.take (k+1)) % 18446744073709551616)=l.take (k+1)∧n=val (l.take (k+1)) % 18446744073709551616∧rest=l.drop (k+1)∧e=0)∨
     (eN (val (l.take (k+1)) % 18446744073709551616)≠l.take (k+1)∧n=0∧rest= []∧e=4)))∨
  (l.length<10∧(∀ i (h:i<l.length),128≤l[i].toNat)∧n=0∧rest= []∧e=3)∨
  (10≤l.length∧(∀ i (h:i<l.length),i<10→128≤l[i].toNat)∧n=0∧rest= []∧e=4)
def qb (x:Int):Nat:=if 0≤x then (2 * x).toNat else (-2 * x - 1).toNat
end Go.Proofs.YtmeeljmapailnaaGreat.Pack
namespace Go.Proofs.YtmeeljmapailnaaGreat.Pack
open Tryz
open Go.RowKit Go.Proofs.YtmeeljmapailnaaGreat.fL

theorem aEm:(prog.info? 5).map (fun i=>(i.zero,i.size,i.bytes))=some (some (.int .u8 0),1,1):=by kernel_rfl
def cells (l:List UInt8):List Value:=l.map fun b=>Value.int .u8 (b.toNat:Int)
theorem agM (l:List UInt8) (b:UInt8):cells (l++ [b])=cells l++ [Value.int .u8 (b.toNat:Int)]:=by unfold cells;simp
theorem awb (l:List UInt8) (i:Nat) (h:i<l.length):(cells l)[i]? =some (.int .u8 (l[i].toNat:Int)):=by unfold cells;simp [h]
def strOf (l:List UInt8):ByteArray:=⟨l.toArray⟩
theorem LM (l:List UInt8):(strOf l).size=l.length:=by
 show l.toArray.size=_;simp
theorem zO (l:List UInt8):(strOf l).data.toList=l:=rfl

theorem aG9 (n:Nat):bits BinOp.or IntKind.u8 ((n:Int) % 256) 128=(((UInt8.ofNat (n % 128+128)).toNat:Nat):Int):=by
 have e:((n:Int) % 256)=((n % 256:Nat):Int):=by omega
 have κ:n % 256<256:=bal _ (by decide);have key:∀ x:Fin 256,(x.val ||| 128)=x.val % 128+128:=by decide +kernel
 have τ:=key ⟨n % 256,κ⟩;simp only at τ;rw [e,show (128:Int)=((128:Nat):Int) from rfl,(bct .u8 8 (by decide) wraps_u8 _ _ (by omega) (by decide)).2,τ];simp only [aZi];omega

theorem awx (w:World) (base g n cap:Nat) (l:List UInt8) (hn:n=l.length) (h:w.ownsRow base 5 1 (.slice (some ⟨g,0,none⟩) n cap) n (cells l)):
  (convert 263 9 (.slice (some ⟨g,0,none⟩) n cap)).run prog w= .ok (.string (strOf l)) w:=by
 subst hn;refine bda (P:=prog) w 263 9 5 ⟨g,0,none⟩ cap l underlying263 underlying5 underlying9 ?_;intro j ay;rw [af5,h.cellAt j (by omega),awb l j ay]

theorem U_ (n:Nat) (hn:n<18446744073709551616) (x:Int) (hx:x=n) (w:World):
  Calls prog 153 #[.int .u64 x] w fun e w'=>e= .returned (.string (strOf (eN n)))∧Below w.heap.size w w':=by
 subst hx;obtain ⟨i0,hi,pj,nL,qe⟩:=baD aEm;have fr:=aYe (IB hn);clear hn;go_enter func153,ntmps153;go_wp2_with fail
 go_loopw [0,3] (fun x v wr=>∃ (k m:Nat) (acc:List UInt8),k≤9∧x= .int .u64 (m:Int)∧Hid (m<128 ^ (k+1))∧Hid (acc++lu k m=eN n)∧wr.ownsRow w.heap.size 5 1 v acc.length (cells acc)∧Below w.heap.size w wr) (fun x _ _=>(intOf x).toNat)
 case atStart=>exact ⟨9,n, [],aYg _,rfl,fr,rfl,World.ownsRow_nil _ _ _ _,aYG _ _⟩
 case round =>
  obtain ⟨k,m,acc,ak,rfl,mi,ku,fz,ag⟩:=hrel;by_cases bF:128≤m
  ·obtain ⟨k',rfl⟩:∃ k',k=k'+1:=by
    cases k with
    | zero=>have:=mi.out;simp at this;omega
    | succ k'=>exact ⟨k',rfl⟩
   obtain ⟨b,aI⟩:∃ b,Hid (b=UInt8.ofNat (m % 128+128)):=⟨_,aYe rfl⟩;have T1:=aG9 m;rw [← aI.out] at T1;have yA:Hid ((acc++ [b])++lu k' (m / 128)=eN n):=by
    show _=_;rw [← ku.out,Dy (by omega),← aI.out,aYK];rfl
   have JM:Hid (m / 128<128 ^ (k'+1)):=LC mi.out;have aBq:acc.length≤9:=by
    have κ:=(DA n).1;have τ:=aZb List.length yA.out;have au:=(acQ k' (m / 128)).2;simp at τ;omega
   have Oy:=ag.alloc ag.size (.cells #[.int .u8 (b.toNat:Int)] 5);go_wp2_with (at_builtin;refine wpList_append_own _ rfl _ _ 263 rfl w.heap.size 5 i0 (.int .u8 0) 1 1 underlying263 hi pj nL qe rfl (by decide) _ acc.length (cells acc) rfl (fz.alloc _) ⟨wr.heap.size,0,none⟩ 1 1 [.int .u8 (b.toNat:Int)] rfl rfl ?d1 ?d2 ?d3 ?d4 ?d5 ?_)
   case d1 =>
    intro j u ay
    match j,ay with
    | 0,ay=>simp at ay;subst ay;simp [Addr.add]
   case d2=>intro u hu;simp at hu;subst hu;rfl
   case d3=>unfold maxLen;omega
   case d4=>omega
   case d5=>have:=ag.size;simp;omega
   intro v' w1 zd jE _;have dc:=Oy.grown jE (by have:=ag.size;simp;omega) (fun q I=>(fz.lt q I).1);rw [← agM,show acc.length+1=(acc++ [b]).length by simp] at zd;clear jE fz Oy ag;go_wp2_with fail
   go_roundw
   case rel=>exact ⟨k',m / 128,acc++ [b],by omega,by go_num,JM,yA,zd,dc⟩
   case measure=>simp [intOf];omega
  ·have ha:acc++ [UInt8.ofNat m]=eN n:=by rw [← ku.out,Dz (by omega)]
   have akz:(UInt8.ofNat m).toNat=m:=by rw [aZi];omega
   have aBq:acc.length≤9:=by
    have κ:=(DA n).1;have τ:=aZb List.length ha;simp at τ;omega
   have arZ:=aYe akz;have yA:=aYe ha;have Oy:=ag.alloc ag.size (.cells #[.int .u8 (m:Int)] 5);clear ha akz;go_wp2_with (at_builtin;refine wpList_append_own _ rfl _ _ 263 rfl w.heap.size 5 i0 (.int .u8 0) 1 1 underlying263 hi pj nL qe rfl (by decide) _ acc.length (cells acc) rfl (fz.alloc _) ⟨wr.heap.size,0,none⟩ 1 1 [.int .u8 (m:Int)] rfl rfl ?c1 ?c2 ?c3 ?c4 ?c5 ?_)
   case c1 =>
    intro j u ay
    match j,ay with
    | 0,ay=>simp at ay;subst ay;simp [Addr.add]
   case c2=>intro u hu;simp at hu;subst hu;rfl
   case c3=>unfold maxLen;omega
   case c4=>omega
   case c5=>have:=ag.size;simp;omega
   intro v' w1 zd jE _;have dc:=Oy.grown jE (by have:=ag.size;simp;omega) (fun q I=>(fz.lt q I).1);have ajW:cells acc++ [Value.int .u8 (m:Int)]=cells (eN n):=by rw [← yA.out,agM,arZ.out]
   have hlen:acc.length+1=(eN n).length:=by rw [← yA.out];simp
   rw [ajW,hlen] at zd;have hex:∃ g cap,v'= .slice (some ⟨g,0,none⟩) (eN n).length cap:=by
    rcases zd.2 with ⟨_,h⟩ | ⟨g,cap,cur,h,_⟩
    ·omega
    ·exact ⟨g,cap,h⟩
   obtain ⟨g,cap,hv⟩:=hex;rw [hv] at zd ⊢;have hcv:=awx w1 _ g _ cap (eN n) rfl zd;clear hv jE fz Oy ag ajW hlen zd;go_wp2_with fail
   go_ret;exact ⟨Z,dc⟩

theorem P2 {a b:Int} (h:a=b):Ending.returned (.int .u64 a)= .returned (.int .u64 b):=by rw [h]
theorem aMf (n:Nat) (h:n<18446744073709551616):n ^^^ 18446744073709551615=18446744073709551615 - n:=by
 have e:(BitVec.ofNat 64 n ^^^ BitVec.allOnes 64).toNat=(~~~(BitVec.ofNat 64 n)).toNat:=by rw [bdk]
 rw [BitVec.toNat_xor,BitVec.toNat_not,aZ2,BitVec.toNat_allOnes,aZz h] at e;exact e
theorem azR (x:Int) (aG: -9223372036854775808≤x) (κ:x≤9223372036854775807) (w:World):
  Calls prog 155 #[.int .i64 x] w fun e w'=>e= .returned (.int .u64 (qb x))∧w=w':=by
 by_cases hx:0≤x
 ·go_enter func155,ntmps155;go_wp2
  go_ret;refine ⟨P2 ?_,Z⟩;have e:x / 9223372036854775808=((0:Nat):Int):=by omega
  obtain ⟨m,rfl⟩:=aZX hx;rw [e,show ((m:Int) * 2)=((m * 2:Nat):Int) by omega,u64_xor_nat _ _ (by omega) (by omega),Nat.xor_zero];unfold qb;rw [aYq hx];omega
 ·go_enter func155,ntmps155;go_wp2
  go_ret;refine ⟨P2 ?_,Z⟩;have aDQ:¬ 0≤x:=by omega
  have e:IntKind.u64.wrap (x / 9223372036854775808)=((18446744073709551615:Nat):Int):=by rw [aZt];omega
  have bb:IntKind.u64.wrap (IntKind.u64.wrap x * 2)=(((2 * x+18446744073709551616).toNat:Nat):Int):=by rw [aZt,aZt];omega
  rw [e,bb,u64_xor_nat _ _ (by omega) (by omega)];unfold qb;rw [aYi aDQ];have df:(2 * x+18446744073709551616).toNat ^^^ 18446744073709551615=18446744073709551615 - (2 * x+18446744073709551616).toNat:=by
   exact aMf _ (by omega)
  rw [df];omega

theorem aqp (n:Int) (aDX:0≤n) (h₁:n<2 ^ 64):IntKind.u64.wrap n=n:=by rw [aZt];omega
theorem aup (b:UInt8):bits BinOp.and IntKind.u8 (b.toNat:Int) 127=((b.toNat % 128:Nat):Int):=by
 have h:=bits_mask .u8 8 (by decide) wraps_u8 7 (by decide) (b.toNat:Int) (bap _) (by have:=b.toNat_lt;omega);simpa using h
theorem adA (l:List UInt8) (b:UInt8) (k:Nat) (ak:k=l.length) (aCr:k≤9):
  bits BinOp.or IntKind.u64 ((val l % 18446744073709551616:Nat):Int) (((b.toNat % 128:Nat):Int) * 2 ^ (7 * k) % 18446744073709551616)=((val (l++ [b]) % 18446744073709551616:Nat):Int):=by
 subst ak;have hp:(128:Nat) ^ l.length=2 ^ (7 * l.length):=by rw [show (128:Nat)=2 ^ 7 from rfl,← Nat.pow_mul]
 have hv:=aK4 l;have hle:(128:Nat) ^ l.length≤128 ^ 9:=Nat.pow_le_pow_right (by decide) aCr;have FH:val l<18446744073709551616:=aZG hv (aYF hle (by decide));rw [aK7,aZz FH,hp];have ag:b.toNat % 128<128:=bal _ (by decide);generalize b.toNat % 128=d at *
 obtain ⟨r,hr⟩:∃ r,64=7 * l.length+r:=⟨64 - 7 * l.length,by omega⟩;have YN:18446744073709551616=2 ^ (7 * l.length) * 2 ^ r:=by rw [← Nat.pow_add,← hr]
 have aW:((d:Int) * 2 ^ (7 * l.length) % 18446744073709551616)=((2 ^ (7 * l.length) * (d % 2 ^ r):Nat):Int):=by
  rw [← Nat.mul_mod_mul_left,← YN,Int.natCast_emod,Int.natCast_mul,Int.natCast_pow,Int.mul_comm];rfl
 rw [hp] at hv;have τ:2 ^ (7 * l.length) * (d % 2 ^ r)<18446744073709551616:=by
  rw [YN];exact Nat.mul_lt_mul_of_pos_left (bal _ (bbu _)) (bbu _)
 have bb:(val l+2 ^ (7 * l.length) * d) % 18446744073709551616=2 ^ (7 * l.length) * (d % 2 ^ r)+val l:=by
  rw [YN,Nat.mod_mul,Nat.add_mul_mod_self_left,aZz hv,Nat.add_mul_div_left _ _ (bbu _),bcm hv,aY4,bca]
 rw [aW,bb,(bct .u64 64 (by decide) aqp _ _ FH τ).2];rw [Nat.two_pow_add_eq_or_of_lt hv,Nat.or_comm]

theorem P1 {a a':Int} {b qM:ByteArray} {c cc:Int} (κ:a=a') (τ:b=qM) (au:c=cc):Ending.returned (.tuple #[.int .u64 a, .string b, .int .i64 c])= .returned (.tuple #[.int .u64 a', .string qM, .int .i64 cc]):=by rw [κ,τ,au]
def arU (l:List UInt8) (w:World) (e:Ending) (w':World):Prop :=
 ∃ (n:Nat) (rest:List UInt8) (k:Int),MG l n rest k∧e= .returned (.tuple #[.int .u64 (n:Int), .string (strOf rest), .int .i64 k])∧Below w.heap.size w w'

theorem ai6 (s:ByteArray) (hs:s.size≤9223372036854775807) (w:World):Calls prog 120 #[.string s] w (arU s.data.toList w):=by
 go_enter func120,ntmps120;go_wp2_with fail
 go_loopw [5,6] (fun v i wr=>∃ k:Nat,k≤s.size∧k≤10∧i= .int .i64 k∧v= .int .u64 ((val (s.data.toList.take k) % 18446744073709551616:Nat):Int)∧Hid (∀ i (h:i<s.data.toList.length),i<k→128≤(s.data.toList[i]).toNat)∧Below w.heap.size w wr) (fun _ i _=>s.size - (intOf i).toNat)
 case atStart=>exact ⟨0,aYX _,aYX _,rfl,rfl,fun i h τ=>absurd τ (by omega),aYG _ _⟩
 case round =>
  obtain ⟨k,ak,aRN,rfl,rfl,nY,ag⟩:=hrel;by_cases bF:k<s.size
  ·by_cases Tl:k<10
   ·have j0:k<s.data.toList.length:=by simpa using bF
    have abj:s[k]=s.data.toList[k]:=rfl;have g_:=adA (s.data.toList.take k) s[k] k (by simp;omega) (by omega);rw [abj,← aYH j0,← abj] at g_;have afl:bits BinOp.or IntKind.u64 ((val (s.data.toList.take k) % 18446744073709551616:Nat):Int) (IntKind.u64.wrap (IntKind.u64.wrap (bits BinOp.and IntKind.u8 (s[k].toNat:Int) 127) * 2 ^ (7 * k)))=((val (s.data.toList.take (k+1)) % 18446744073709551616:Nat):Int):=by
     rw [← g_,aup,aZt,aZt];congr 3;omega
    obtain ⟨M',JL⟩:∃ M',Hid (val (s.data.toList.take (k+1)) % 18446744073709551616=M'):=⟨_,aYe rfl⟩;have Oe:M'<18446744073709551616:=by rw [← JL.out];exact bal _ (by decide)
    rw [JL.out] at afl;generalize val (s.data.toList.take k) % 18446744073709551616=M at afl ⊢;have aI:=aYe Oe;clear abj g_ Oe;by_cases ZU:128≤s[k].toNat
    ·go_wp2_with fail
     go_roundw
     case rel =>
      refine ⟨k+1,by omega,by omega,by go_num,by rw [JL.out], ?_,ag⟩;intro i h hi;by_cases nh:i=k
      ·subst nh;exact ZU
      ·exact nY.out i h (by omega)
     case measure=>simp [intOf];omega
    ·have q8:k+1≤s.size:=bF;have gC:(0:Int)≤(k:Int)+1:=by omega
     have aaX:(k:Int)+1≤(s.size:Int):=by omega
     have aCq:IntKind.i64.wrap ((k:Int)+1)=(k:Int)+1:=IntWalk.i64_in _ (by omega);have aRO:((k:Int)+1).toNat=k+1:=by omega
     by_cases hp:eN M'=s.data.toList.take (k+1)
     ·have I:((strOf (eN M')).toList == (s.extract 0 (k+1)).toList)=true:=agB (Yc (by rw [zO,bbx,baB,hp];rfl));have Cb:=aYe hp;clear hp;go_wp2_with fail
      go_region_held3 (fun nx=>Below w.heap.size w nx) (first | exact ag.drew | exact ag.drew.trans (by assumption) | assumption) ((go_at_call 153;refine (U_ M' aI.out _ rfl _).mono ?_;rintro e w' ⟨rfl,bI⟩;have er:=ag.drew.trans (bI.mono ag.size)))
      clear ag bI I;go_wp2_with fail
      go_quiet (fail)
      go_wp2_with fail
      go_ret3
      refine ⟨M',s.data.toList.drop (k+1),0, .inl ⟨k,Tl,j0,nY.out,fun _=>by have:=ZU;show s[k].toNat<128;omega, .inl ⟨by rw [JL.out];exact Cb.out,JL.out.symm,rfl,rfl⟩⟩,P1 Z (Yc ?_) Z,below_drewN (by assumption) _⟩;rw [zO,bbx,aYp (by simp)]
     ·have I:((strOf (eN M')).toList == (s.extract 0 (k+1)).toList)=false:=agA (fun h=>hp (by
       have τ:=aZb (fun x:ByteArray=>x.data.toList) h;simp only [zO,bbx,baB] at τ;exact τ))
      have Cb:=aYe hp;clear hp;go_wp2_with fail
      go_region_held3 (fun nx=>Below w.heap.size w nx) (first | exact ag.drew | exact ag.drew.trans (by assumption) | assumption) ((go_at_call 153;refine (U_ M' aI.out _ rfl _).mono ?_;rintro e w' ⟨rfl,bI⟩;have er:=ag.drew.trans (bI.mono ag.size)))
      clear ag bI I;go_wp2_with fail
      go_ret3
      exact ⟨0, [],4, .inl ⟨k,Tl,j0,nY.out,fun _=>by have:=ZU;show s[k].toNat<128;omega, .inr ⟨by rw [JL.out];exact Cb.out,rfl,rfl,rfl⟩⟩,P1 Z Z Z,by assumption⟩
   ·have aCp:k=10:=by omega
    subst aCp;have hlen:¬ (s.size:Int)<10:=by omega
    go_wp2_with fail
    go_ret3
    exact ⟨0, [],4, .inr (.inr ⟨by simp;have e:s.data.size=s.size:=rfl;omega,fun i h hi=>nY.out i h hi,rfl,rfl,rfl⟩),P1 Z Z Z,ag⟩
  ·have TN:k=s.size:=by omega
   have dM:∀ i (h:i<s.data.toList.length),i<k:=by
    intro i h;have e:s.data.toList.length=s.size:=by simp
    omega
   have e:s.data.toList.length=s.size:=by simp
   by_cases Tl:s.size<10
   ·have jO:=aYe e;have ku:=aYe dM;have iQ:=aYe TN;clear e dM TN;have hlen:(s.size:Int)<10:=by omega
    have tz:(s.size:Int)≤(k:Int):=by omega
    go_wp2_with fail
    go_ret3
    exact ⟨0, [],3, .inr (.inl ⟨by have:=jO.out;omega,fun i h=>nY.out i h (ku.out i h),rfl,rfl,rfl⟩),P1 Z Z Z,ag⟩
   ·have jO:=aYe e;have ku:=aYe dM;have iQ:=aYe TN;clear e dM TN;have hlen:¬ (s.size:Int)<10:=by omega
    have tz:(s.size:Int)≤(k:Int):=by omega
    go_wp2_with fail
    go_ret3
    exact ⟨0, [],4, .inr (.inr ⟨by have:=jO.out;omega,fun i h hi=>nY.out i h (ku.out i h),rfl,rfl,rfl⟩),P1 Z Z Z,ag⟩
end Go.Proofs.YtmeeljmapailnaaGreat.Pack
namespace Go.Proofs.YtmeeljmapailnaaGreat
open Tryz
def xf (l:List Int):List Value:=l.map (Value.int .i64)
theorem agK (l:List Int) (i:Nat) (h:i<l.length):(xf l)[i]? =some (.int .i64 l[i]):=by unfold xf;simp [h]
theorem av8 (l:List Int) (x:Int):xf (l++ [x])=xf l++ [.int .i64 x]:=by unfold xf;simp
def Q7 (_:Nat) (u:Value):Prop:=∃ n:Int,u= .int .i64 n
theorem aEl:(prog.info? 3).map (fun i=>(i.zero,i.size,i.bytes))=some (some (.int .i64 0),1,8):=by kernel_rfl
def uB (l:List Int):Prop:=∀ x∈l, -9223372036854775808≤x∧x≤9223372036854775807
end Go.Proofs.YtmeeljmapailnaaGreat
namespace Go.Proofs.YtmeeljmapailnaaGreat.Pack
open Tryz
open Go.Proofs.YtmeeljmapailnaaGreat Go.Proofs.YtmeeljmapailnaaGreat.fL

theorem aIc (k x y:Nat) (u v:List UInt8) (hx:x<128 ^ (k+1)) (aE:y<128 ^ (k+1)) (h:lu k x++u=lu k y++v):x=y∧u=v:=by
 induction k generalizing x y with
 | zero =>
  simp only [lu,bcW,baN] at h;have:=aZb UInt8.toNat h.1;simp only [aZi] at this;simp at hx aE;exact ⟨by omega,h.2⟩
 | succ k bL =>
  by_cases κ:x<128
  ·by_cases τ:y<128
   ·rw [Dz κ,Dz τ] at h;simp only [bcW,baN] at h;have:=aZb UInt8.toNat h.1;simp only [aZi] at this;exact ⟨by omega,h.2⟩
   ·rw [Dz κ,Dy τ] at h;simp only [bah,baN] at h;have:=aZb UInt8.toNat h.1;simp only [aZi] at this;omega
  ·by_cases τ:y<128
   ·rw [Dy κ,Dz τ] at h;simp only [bah,baN] at h;have:=aZb UInt8.toNat h.1;simp only [aZi] at this;omega
   ·rw [Dy κ,Dy τ] at h;simp only [bah,baN] at h;have e:=aZb UInt8.toNat h.1;simp only [aZi] at e;obtain ⟨au,aU⟩:=bL (x / 128) (y / 128) (LC hx) (LC aE) h.2;exact ⟨by omega,aU⟩
theorem U9 {x y:Nat} {u v:List UInt8} (hx:x<18446744073709551616) (aE:y<18446744073709551616) (h:eN x++u=eN y++v):x=y∧u=v:=aIc 9 x y u v (IB hx) (IB aE) h
theorem ai7 {l:List UInt8} {n:Nat} {rest:List UInt8} (h:MG l n rest 0):l=eN n++rest∧n<18446744073709551616:=by
 rcases h with ⟨k,ak,j0,_,_,⟨κ,τ,au,_⟩ | ⟨_,_,_,h⟩⟩ | ⟨_,_,_,_,h⟩ | ⟨_,_,_,_,h⟩
 ·subst τ;subst au;exact ⟨by rw [κ,aZ5],bal _ (by decide)⟩
 all_goals cases h
theorem azM {n k:Nat} {r:List UInt8} (hn:n<18446744073709551616) (ak:k<(eN n++r).length) (eI:∀ i (h:i<(eN n++r).length),i<k→128≤((eN n++r)[i]).toNat) (ah:((eN n++r)[k]).toNat<128):k+1=(eN n).length:=by
 have κ:=(DA n).2;rcases bdo (k+1) (eN n).length with h | h | h
 ·rw [baJ (by omega)] at ah;have:=aIb 9 n k (IB hn) h (by show k<(eN n).length;omega);have e:(lu 9 n)[k]'(by show k<(eN n).length;omega)=(eN n)[k]'(by omega):=rfl;rw [e] at this;omega
 ·exact h
 ·have τ:=eI ((eN n).length - 1) (by simp;omega) (by omega);rw [baJ (by omega)] at τ;have:=aof 9 n (IB hn) ((eN n).length - 1) (by show _<(eN n).length;omega) (by show _=(eN n).length;omega);have e:(lu 9 n)[(eN n).length - 1]'(by show _<(eN n).length;omega)=(eN n)[(eN n).length - 1]'(by omega):=rfl;rw [e] at this;omega
theorem CT {n:Nat} {r:List UInt8} {m:Nat} {rest:List UInt8} {e:Int} (hn:n<18446744073709551616) (h:MG (eN n++r) m rest e):m=n∧rest=r∧e=0:=by
 have hlen:=DA n;have kd:∃ i,∃ hi:i<(eN n++r).length,i<10∧((eN n++r)[i]).toNat<128:=by
  refine ⟨(eN n).length - 1,by simp;omega,by omega, ?_⟩;rw [baJ (by omega)];exact aof 9 n (IB hn) ((eN n).length - 1) (by show _<(eN n).length;omega) (by show _=(eN n).length;omega)
 rcases h with ⟨k,ak,j0,eI,ah,h⟩ | ⟨_,dM,_⟩ | ⟨_,dM,_⟩
 ·have q8:=azM hn j0 eI (ah j0);have aH:(eN n++r).take (k+1)=eN n:=by rw [q8,bbG]
  have hv:val (eN n) % 18446744073709551616=n:=by rw [aK6 n hn,aZz hn]
  rw [aH,hv] at h;rcases h with ⟨_,τ,au,aU⟩ | ⟨κ,_⟩
  ·refine ⟨τ, ?_,aU⟩;rw [au,q8,List.drop_left]
  ·exact absurd Z κ
 ·obtain ⟨i,hi,_,kd⟩:=kd;have:=dM i hi;omega
 ·obtain ⟨i,hi,aCc,kd⟩:=kd;have:=dM i hi aCc;omega
def yd (n:Nat):Int:=if n % 2=0 then ((n / 2:Nat):Int) else -((n / 2:Nat):Int) - 1
theorem azU (n:Nat):qb (yd n)=n:=by
 unfold qb yd;split<;>split<;>omega
theorem apJ (x:Int):yd (qb x)=x:=by
 unfold qb yd;split<;>split<;>omega
theorem Ta (x:Int) (aG: -9223372036854775808≤x) (κ:x≤9223372036854775807):qb x<18446744073709551616:=by
 unfold qb;split<;>omega
theorem aKP (n:Nat) (h:n<18446744073709551616): -9223372036854775808≤yd n∧yd n≤9223372036854775807:=by
 unfold yd;split<;>omega
def items (l:List Int):List UInt8:=l.flatMap fun x=>eN (qb x)
def sy (l:List Int):List UInt8:=eN l.length++items l
theorem Pc (x:Int) (l:List Int):items (x::l)=eN (qb x)++items l:=rfl
theorem aEA (a b:List Int):items (a++b)=items a++items b:=by unfold items;rw [aZD]
theorem aly (a:List Int) (x:Int):items (a++ [x])=items a++eN (qb x):=by rw [aEA,Pc];simp [items]
theorem abB (l:List Int):(items l).length≤10 * l.length:=by
 induction l with
 | nil=>simp [items]
 | cons x l bL=>rw [Pc];have:=(DA (qb x)).1;simp;omega
theorem azQ {x y:Int} (h:qb x=qb y):x=y:=by rw [← apJ x,h,apJ]
theorem Ui:∀ (a b:List Int) (s:List UInt8),uB a→uB b→a.length≤b.length→items a++s=items b→a=b.take a.length∧s=items (b.drop a.length)
 | [],b,s,_,_,_,h=>⟨by simp,by simpa [items] using h⟩
 | x::a, [],s,_,_,ah,_=>by simp at ah
 | x::a,y::b,s,ha,ag,ah,h=>by
  rw [Pc,Pc,aYK] at h;have hx:=ha x (by simp);have aE:=ag y (by simp);obtain ⟨κ,τ⟩:=U9 (Ta x hx.1 hx.2) (Ta y aE.1 aE.2) h;obtain ⟨au,aU⟩:=Ui a b s (fun z bc=>ha z (by simp [bc])) (fun z bc=>ag z (by simp [bc])) (by simpa using ah) τ;rw [azQ κ];exact ⟨by simp;exact au,by simpa using aU⟩
def B2 (s:List UInt8) (out:List Int) (e:Int):Prop :=
 uB out∧(e=0→s=sy out∧out.length≤1000)∧(e≠0→out= []∧∀ l,uB l→l.length≤1000→s≠sy l)
theorem aAt {l out:List Int} {e:Int} (ah:uB l) (κ:l.length≤1000) (h:B2 (sy l) out e):e=0∧out=l:=by
 obtain ⟨bK,τ,au⟩:=h;by_cases he:e=0
 ·obtain ⟨aU,bN⟩:=τ he;unfold sy at aU;obtain ⟨cq,ew⟩:=U9 (by omega) (by omega) aU;obtain ⟨gB,_⟩:=Ui l out [] ah bK (by omega) (by rw [aYP];exact ew);rw [cq,aYS] at gB;exact ⟨he,gB.symm⟩
 ·exact absurd Z ((au he).2 l ah κ)
theorem agm {s:List UInt8} {n:Nat} {r:List UInt8} {e:Int} (h:MG s n r e) (he:e≠0∨1000<n) {k:Int} (ak:k≠0):B2 s [] k:=by
 refine ⟨fun x hx=>(by cases hx),fun h=>absurd h ak,fun _=>⟨Z,fun l ah κ hs=> ?_⟩⟩;subst hs;obtain ⟨τ,_,au⟩:=CT (by omega) h;rcases he with he | he
 ·exact he au
 ·omega
theorem auP {s:List UInt8} {n:Nat} {out:List Int} {r:List UInt8} {m:Nat} {r':List UInt8} {e:Int} (hs:s=eN n++(items out++r)) (hn:n<18446744073709551616) (bK:uB out) (bF:out.length<n) (h:MG r m r' e) (he:e≠0):B2 s [] e:=by
 refine ⟨fun x hx=>(by cases hx),fun h=>absurd h he,fun _=>⟨Z,fun l ah κ hO=> ?_⟩⟩;rw [hO] at hs;unfold sy at hs;obtain ⟨τ,au⟩:=U9 (by omega) hn hs;obtain ⟨aU,bN⟩:=Ui out l r bK ah (by omega) au.symm;have cq:l.drop out.length=l[out.length]'(by omega)::l.drop (out.length+1):=aZ9 (by omega);rw [cq,Pc] at bN;subst bN;have hx:=ah (l[out.length]'(by omega)) (aZs _);exact he (CT (Ta _ hx.1 hx.2) h).2.2
theorem auO {s:List UInt8} {n:Nat} {out:List Int} {r:List UInt8} (hs:s=eN n++(items out++r)) (hn:n<18446744073709551616) (bK:uB out) (bF:out.length=n) (hr:r≠ []) {k:Int} (ak:k≠0):B2 s [] k:=by
 refine ⟨fun x hx=>(by cases hx),fun h=>absurd h ak,fun _=>⟨Z,fun l ah κ hO=> ?_⟩⟩;rw [hO] at hs;unfold sy at hs;obtain ⟨τ,au⟩:=U9 (by omega) hn hs;obtain ⟨aU,bN⟩:=Ui out l r bK ah (by omega) au.symm;rw [bcU (by omega)] at bN;exact hr bN
theorem aAr {s:List UInt8} {n:Nat} {out:List Int} (hs:s=eN n++(items out++ [])) (bK:uB out) (bF:out.length=n) (hn:n≤1000):B2 s out 0 :=
 ⟨bK,fun _=>⟨by rw [hs,aYP,← bF];rfl,by omega⟩,fun h=>absurd rfl h⟩
end Go.Proofs.YtmeeljmapailnaaGreat.Pack
namespace Go.Proofs.YtmeeljmapailnaaGreat.Pack
open Tryz
open Go.RowKit Go.Proofs.YtmeeljmapailnaaGreat

theorem aoV:(prog.info? 267).map (·.size)=some 2:=by kernel_rfl
theorem aFy:liesAt prog prog.depth 267 (2 / prog.cellsOf 267) 0 267 1=true:=by kernel_rfl
theorem infoByte:(prog.info? 5).map (fun i=>(i.zero,i.size,i.bytes))=some (some (.int .u8 0),1,1):=by kernel_rfl
theorem awh (b:Nat) (w:World) (aG:w.cell? ⟨b,0,none⟩=some (.pointer (some ⟨b,0,none⟩))):
  Calls prog 179 #[.pointer (some ⟨b,0,none⟩)] w fun e w'=>e= .returned (.tuple #[])∧w'=w:=by
 obtain ⟨j,ay,_⟩:=bcQ.1 aoV;go_enter func179,ntmps179;go_wp2
 rw [Lib.run_neq_ptr_same w _ underlying265 ay];go_wp2
 go_end0
 exact ⟨Z,Z⟩
theorem awg (b:Nat) (w:World) (aG:w.cell? ⟨b,0,none⟩=some (.pointer none)) (T5:w.shape? b=some (267,2)) (aB6:w.frozen? ⟨b,0,none⟩=false):
  Calls prog 179 #[.pointer (some ⟨b,0,none⟩)] w fun e w'=>e= .returned (.tuple #[])∧w'=w.setCell ⟨b,0,none⟩ (.pointer (some ⟨b,0,none⟩)):=by
 obtain ⟨j,ay,aCn⟩:=bcQ.1 aoV;go_enter func179,ntmps179;go_wp2
 rw [Lib.run_to_unsafe w ⟨b,0,none⟩ underlying265 underlying309 ay (by rw [aCn];decide) T5 (Nat.zero_lt_succ 1)];simp only [Result.andThen];rw [bcG];go_wp2
 rw [run_callFunc_extern func189 (by kernel_rfl) (by kernel_rfl) (by kernel_rfl) (e:=Extern.AbiNoEscape.same) (by kernel_rfl)];rw [Lib.run_noEscape];simp only [Result.andThen];rw [bcG];go_wp2
 rw [Lib.run_from_unsafe w ⟨b,0,none⟩ underlying309 underlying265 ay T5 aFy];simp only [Result.andThen];rw [bcG];go_wp2
 go_end0
 exact ⟨Z,Z⟩
theorem EU (B b:Nat) (c7:List Value) (w:World) (h:Lib.IsBuilder 267 5 B b c7 w):
  Calls prog 179 #[.pointer (some ⟨b,0,none⟩)] w fun e w'=>e= .returned (.tuple #[])∧(Lib.BuilderAt 267 5 B b (.pointer (some ⟨b,0,none⟩)) c7 w'∧Below B w w'):=by
 rcases h with h | h
 ·refine (awg b w h.cell0 h.shape h.frozen0).mono ?_;rintro e w' ⟨rfl,rfl⟩;exact ⟨Z,h.used _,(aYG B w).setCell (p:=⟨b,0,none⟩) h.1 _⟩
 ·refine (awh b w h.cell0).mono ?_;rintro e w' ⟨rfl,rfl⟩;exact ⟨Z,h,aYG B _⟩
theorem aqq (B b:Nat) (c7:List Value) (s:ByteArray) (w:World) (h:Lib.IsBuilder 267 5 B b c7 w) (hlen:c7.length+s.size≤140737488355328) (ajm:B≤w.heap.size):
  Calls prog 154 #[.pointer (some ⟨b,0,none⟩), .string s] w fun e w'=>e= .returned (.tuple #[.int .i64 s.size, .nilIface])∧(Lib.BuilderAt 267 5 B b (.pointer (some ⟨b,0,none⟩)) (c7++Lib.strCells s) w'∧Below B w w'):=by
 obtain ⟨i0,hi,pj,nL,qe⟩:=baD infoByte;go_enter func154,ntmps154;go_wp2_with fail
 refine (EU B b c7 _ h).mono ?_;rintro e w1 ⟨rfl,κ,dc⟩;obtain ⟨bg,v,KM,fz,fZ⟩:=κ;have ck:w1.cell? ⟨b,0,none⟩=some (.pointer (some ⟨b,0,none⟩)):=by rw [bby KM];rfl
 have c1:w1.cell? ⟨b,1,none⟩=some v:=by rw [bby KM];rfl
 go_wp2_with (at_builtin;refine Lib.wpList_append_own_string _ rfl _ _ 263 9 rfl B 5 i0 underlying263 underlying9 hi pj nL qe _ _ _ rfl fz s rfl ?c3 ?c4 ?c5 ?_)
 case c3=>unfold maxLen;omega
 case c4=>omega
 case c5=>have:=dc.size;omega
 intro v' cx zd jE _;have bF:b<w1.heap.size:=by
  rcases aZc b w1.heap.size with dh | dh
  ·exact dh
  ·simp [aZg dh] at KM
 have bI:cx.heap[b]? =some (.cells #[.pointer (some ⟨b,0,none⟩),v] 267 (0,0)):=by
  rw [jE.block b bF (fun e=>fZ e.symm)];exact KM
 have d0:cx.cell? ⟨b,0,none⟩=some (.pointer (some ⟨b,0,none⟩)):=by rw [bby bI];rfl
 have d1:cx.cell? ⟨b,1,none⟩=some v:=by rw [bby bI];rfl
 have f1:cx.frozen? ⟨b,1,none⟩=false:=Lib.frozen_of_heap bI 1;obtain ⟨af9,jl,cap,rfl⟩:∃ af9 jl cap,v'= .slice af9 jl cap:=by
  rcases zd.2 with ⟨hv,_⟩ | ⟨g,cap,cur,hv,_⟩
  ·exact ⟨_,_,_,hv⟩
  ·exact ⟨_,_,_,hv⟩
 go_wp2
 go_ret2
 refine ⟨Z, ?_, ?_⟩
 ·exact Lib.BuilderAt.put (T:= 267) (e:= 5) bg bI (bs':=c7++Lib.strCells s) (by simpa [Lib.strCells_length] using zd) (by decide)
 ·exact (dc.grown jE (by have:=dc.size;omega) (fun k ak=>(fz.lt k ak).1)).setCell (p:=⟨b,1,none⟩) bg _
end Go.Proofs.YtmeeljmapailnaaGreat.Pack
