import Derived.Test.YtmeeljmapailnaaGreatLnT
set_option linter.unusedVariables false
set_option linter.unusedSimpArgs false
set_option maxRecDepth 100000
set_option maxHeartbeats 4000000
open Go.RowKit
namespace Go.Proofs.YtmeeljmapailnaaGreat
open Tryz
abbrev ba3:=@Bool.and_eq_true_iff
abbrev bbN:=@List.getD_cons_zero
section
def sg (l:List Int):Bool:=decide (∀ i,i<l.length - 1→l.getD i 0<l.getD (i+1) 0)
def a6.wb (L:a6):Bool:=decide (200<L.bC.length) || decide (1000<L.way.length) || decide (1000<L.bV.length)
def a6.eB (L:a6):Bool:=decide ((L.got.length:Int)≤(L.bC.length:Int)) && decide (L.got=L.bC.take L.got.length) && b9 L.base 0 (L.got.length:Int) && decide ((L.held.length:Int)≤(L.bC.length:Int)) && b9 L.next ((L.got.length:Int)+(L.held.length:Int)) (min (L.base+L.b') (L.bC.length:Int)) && L.way.all (λ n=>b9 n 0 (L.next - 1)) && L.bV.all (λ n=>b9 n 0 (L.got.length:Int)) && L.held.all (λ n=>b9 n ((L.got.length:Int)+1) (L.next - 1)) && sg L.held
def a6.a7 (L:a6):Int:=if b9 L.b' 1 16=false then 1 else if L.wb=true then 2 else if L.eB=true then 0 else 4
section
variable {L:a6} {l:List Int} {i k:Nat} {g:Bool}
theorem age (p q:Bool):(p=true∧q=true)∨(p=true∧q=false)∨p=false:=by cases p<;>cases q<;>simp
theorem auz (p q r s:Bool):(p=true∧q=true∧r=true∧s=true)∨(p=true∧q=true∧r=true∧s=false)∨(p=true∧q=true∧r=false)∨(p=true∧q=false)∨p=false:=by cases p<;>cases q<;>cases r<;>cases s<;>simp
theorem aFe (h:((200:Int)<(L.bC.length:Int)∨(1000:Int)<(L.way.length:Int))∨(1000:Int)<(L.bV.length:Int)):L.wb=true:=by
 unfold a6.wb;simp only [aYZ,aYB];omega
theorem aFf (h:((L.bC.length:Int)≤200∧(L.way.length:Int)≤1000)∧(L.bV.length:Int)≤1000):L.wb=false:=by
 unfold a6.wb;simp only [aYM,aYI];omega
theorem amM (h:L.wb=false):L.bC.length≤200∧L.way.length≤1000∧L.bV.length≤1000:=by
 unfold a6.wb at h;simp only [aYM,aYI] at h;omega
theorem a6.Ny (h:b9 L.b' 1 16=false):L.a7=1:=by unfold a6.a7;rw [aYq h]
theorem a6.Sm (h:b9 L.b' 1 16=true) (τ:L.wb=true):L.a7=2:=by unfold a6.a7;rw [aYi (by rw [h];decide),aYq τ]
theorem a6.yT (h:b9 L.b' 1 16=true) (τ:L.wb=false) (au:L.eB=false):L.a7=4:=by unfold a6.a7;rw [aYi (by rw [h];decide),aYi (by rw [τ];decide),aYi (by rw [au];decide)]
theorem a6.Sn (h:b9 L.b' 1 16=true) (τ:L.wb=false) (au:L.eB=true):L.a7=0:=by unfold a6.a7;rw [aYi (by rw [h];decide),aYi (by rw [τ];decide),aYq au]
theorem a6.aja (dw:decide ((L.got.length:Int)≤(L.bC.length:Int))=true) (dN:decide (L.got=L.bC.take L.got.length)=true) (hb:b9 L.base 0 (L.got.length:Int)=true) (sj:decide ((L.held.length:Int)≤(L.bC.length:Int))=true) (mU:b9 L.next ((L.got.length:Int)+(L.held.length:Int)) (min (L.base+L.b') (L.bC.length:Int))=true) (rj:L.way.all (λ n=>b9 n 0 (L.next - 1))=true) (xK:L.bV.all (λ n=>b9 n 0 (L.got.length:Int))=true) (Dd:L.held.all (λ n=>b9 n ((L.got.length:Int)+1) (L.next - 1))=true) (aEF:sg L.held=true):L.eB=true:=by
 unfold a6.eB;rw [dw,dN,hb,sj,mU,rj,xK,Dd,aEF];rfl
theorem a6.aAs (h:sg L.held=false):L.eB=false:=by unfold a6.eB;rw [h,aZF]
theorem aEi (l:List Int):sg (l.take 1)=true:=by unfold sg;exact aYD λ i hi=>by rw [aYa] at hi;omega
theorem E_ (h:i<k):(l.take k).getD i 0=l.getD i 0:=by simp [aX7,aYO,h]
theorem aEk (κ:1≤k) (τ:k<l.length) (aN:g=sg (l.take k)) (aH:g=true):decide (l.getD ((k:Int) - 1).toNat 0<l.getD k 0)=sg (l.take (k+1)):=by
 rw [show ((k:Int) - 1).toNat=k - 1 by omega];have aN:=aY6 (aN.symm.trans aH);unfold sg;refine decide_eq_decide.2 ⟨λ h i hi=> ?_,λ h=> ?_⟩
 ·rw [aYa] at hi;rw [E_ (by omega),E_ (by omega)];by_cases ak:i+1=k
  ·subst ak;simpa using h
  ·have:=aN i (by rw [aYa];omega)
   rwa [E_ (by omega),E_ (by omega)] at this
 ·have:=h (k - 1) (by rw [aYa];omega);rw [E_ (by omega),E_ (by omega),show k - 1+1=k by omega] at this;exact this
theorem aEh (aN:g=sg (l.take k)) (ak:l.length≤k) (h:g=true):sg l=true:=by rw [h,aYp ak] at aN;exact aN.symm
theorem aEg (aN:g=sg (l.take k)) (h:g=false):sg l=false:=by
 rw [h] at aN;have aN:=bak aN.symm;refine aYL λ eI=>aN λ i hi=> ?_;rw [aYa] at hi;rw [E_ (by omega),E_ (by omega)];exact eI i (by omega)
end
theorem aFk (a:a6.b7) (L:a6) (w:World) (dY:a6.Has w a L):
  Calls prog 42 #[.agg #[Φ L.b', .slice a.S L.bC.length a.s,Φ L.base,Φ L.next, .slice a.W L.way.length a.w, .slice a.K L.bV.length a.k, .slice a.G L.got.length a.g, .slice a.H L.held.length a.h]] w (λ e w'=>e= .returned (Φ L.a7)∧Ext w w'):=by
 have aRr:=dY.S.fa;have aRn:=dY.G.fa;have aRo:=dY.H.fa;have aad:=dY.S.1;have Ij:=b8.1 dY.nums.1;have Bb:=b8.1 dY.nums.2.1;have FB:=b8.1 dY.nums.2.2;refine ch (n:=129) func42 Z Z Z ?_;refine dZ Z Z λ cG bB aR d' ae=> ?_;refine aJ Z<|av<|aw<|aa (aj Y3 Z)<|bk Z ae aT Z<|cM Kj Z (Uz L.b' 1 16 _) λ eC dm=> ?_;have bO:=γ aR dm;refine aa (dJ Z)<|aC<| ?_;refine du Z (λ hz=> ?_) (λ hz=> ?_)
 ·refine aw<|aY Z<|bD<|b_ Z Z<| ?_;exact ⟨by rw [a6.Ny (by simpa using hz)];rfl,bO⟩
 ·have aSN:=hV (show b9 L.b' 1 16=true by simpa using hz);refine bm<|av<|aw<|aa (aj pb Z)<| ?_;have ae:=ae.later dm;refine bk Z ae kz Z<|aa (b5 underlying45 Z)<|aa (gO Z Z)<|vm Z<|bh Z (λ hc=>aj uL Z)<|bh Z (λ hc=>ax (gt hc Z) (ae.one c8 Z))<|bh Z (λ hc=>b5 underlying22 (gt hc Z))<|bh Z (λ hc=>gO (gt hc Z) Z)<|aa (eW Z Z Z Z)<|vm Z<|bh Z (λ hc=>aj r5 Z)<|bh Z (λ hc=>ax (gt hc Z) (ae.one c8 Z))<|bh Z (λ hc=>b5 underlying22 (gt hc Z))<|bh Z (λ hc=>gO (gt hc Z) Z)<|aa (eW Z Z Z Z)<|aC<| ?_;refine du Z (λ oI=> ?_) (λ oI=> ?_)
  ·refine aw<|aY Z<|bD<|b_ Z Z<| ?_;exact ⟨by rw [a6.Sm (by simpa using hz) (aFe (by simpa using oI))];rfl,bO⟩
  ·have rb:L.wb=false:=aFf (by simpa using oI);have aR4:=amM rb;refine bm<|av<| ?_;refine cO [(1,0),(4,0)] [0,1,2,3,4,5,6,7] ?_;refine aq Z (λ _=>aj r6 Z)<|cf Z Z ae kz Z<|aq Z (λ _=>b5 underlying45 Z)<|aq Z (λ _=>aj s7 Z)<|cf Z Z ae c8 Z<|aq Z (λ _=>b5 underlying22 Z)<|aq Z (λ _=>ee Z)<|aq Z (λ _=>ee Z)<|fn λ BF iy=> ?_;have hZ:=γ bO iy;refine aX<|av<| ?_;rcases (show (decide ((L.got.length:Int)≤(L.bC.length:Int))=true∧decide (L.got=L.bC.take L.got.length)=true)∨(decide ((L.got.length:Int)≤(L.bC.length:Int))=true∧decide (L.got=L.bC.take L.got.length)=false)∨decide ((L.got.length:Int)≤(L.bC.length:Int))=false from age _ _) with ⟨dw,dN⟩ | ⟨dw,dN⟩ | dw
   ·have aED:L.got.length≤L.bC.length:=by simpa using dw
    refine cO [(2,0),(7,0),(9,0),(12,0),(16,0),(20,0),(22,0)] [0,1,2,3,4,5,6,7,8,9,10,11,12,13,14,15,16,17,18,19,20,21,22,23,24] ?_;refine a1 Z Z<|aq Z (λ _=>aj pb Z)<| ?_;have ae:=ae.later iy;refine cf Z Z ae kz Z<|aq Z (λ _=>b5 underlying45 Z)<|aq Z (λ _=>ble Z Z)<|aq Z (λ _=>gw (ep Z dw))<|b0 Z Z (λ hc _=>aj r6 Z)<|dL Z Z (λ hc _ x=>ax Z ((ae.later x).one kz Z))<|b0 Z Z (λ hc _=>aj pb Z)<|dL Z Z (λ hc _ x=>ax Z ((ae.later x).one kz Z))<|fy Z Z Z<|b0 Z Z (λ hc _=>aj pb Z)<|dL Z Z (λ hc _ x=>ax Z ((ae.later x).one kz Z))<|b0 Z Z (λ hc _=>b5 underlying45 Z)<|b0 Z Z (λ hc _=>nk Z Z)<|b0 Z Z (λ hc _=>LI L.got.length (L.bC.take L.got.length).length underlying45 E5 Z Z (by omega) (by omega) (by rw [aYa];omega))<|ef Z Z Z Z Z Z Y4 (λ hc=>Z) (λ hc _ x=>aiA _ _ _ _ _ _ L.got (L.bC.take L.got.length) _ (dY.G.keep (γ hZ x)) ((dY.S.keep (γ hZ x)).pre L.got.length)) Z<|aq Z (λ _=>iK Z (ep Z dN))<|a1 Z Z<|b0 Z Z (λ hc _=>aj CG Z)<|dL Z Z (λ hc _ x=>ax Z ((ae.later x).one aT Z))<|fy Z Z Z<|ef Z Z Z Z Z Z Kj (λ hc=>Z) (λ hc _ x=>Uz L.base 0 (L.got.length:Int) _) Z<|aq Z (λ _=>iK Z Z)<|aq Z (λ _=>ee Z)<|fn λ wD cr=> ?_;have jq:=γ hZ cr;refine aX<|av<| ?_;rcases (show (b9 L.base 0 (L.got.length:Int)=true∧decide ((L.held.length:Int)≤(L.bC.length:Int))=true)∨(b9 L.base 0 (L.got.length:Int)=true∧decide ((L.held.length:Int)≤(L.bC.length:Int))=false)∨b9 L.base 0 (L.got.length:Int)=false from age _ _) with ⟨hb,sj⟩ | ⟨hb,sj⟩ | hb
    ·have aEE:=hV hb;have aSY:L.held.length≤L.bC.length:=by simpa using sj
     refine rg<|vm (ep Z hb)<|vm Z<|cm Z Z Z<|vm Z<|cm Z Z Z<|aa (aj pb Z)<|cm Z Z Z<| ?_;have ae:=ae.later cr;refine bk Z ae kz Z<|cm Z Z Z<|aa (b5 underlying45 Z)<|cm Z Z Z<|aa (ble Z Z)<|aa (iK Z (ep Z sj))<|vm Z<|cm Z Z Z<|aa (aj AV Z)<|cm Z Z Z<|bk Z ae aT Z<|cm Z Z Z<|vm Z<|cm Z Z Z<|vm Z<|cm Z Z Z<|gx Z Z<|cm Z Z Z<|aa (aj CG Z)<|cm Z Z Z<|bk Z ae aT Z<|cm Z Z Z<|aa (aj Y3 Z)<|cm Z Z Z<| ?_;refine bk Z ae aT Z<|cm Z Z Z<|gx Z Z<|cm Z Z Z<|aa (aj pb Z)<|cm Z Z Z<|bk Z ae kz Z<|cm Z Z Z<|aa (b5 underlying45 Z)<|cm Z Z Z<|aa (nk Z Z)<|cm Z Z Z<|cM Kj Z (Uz L.next ((L.got.length:Int)+(L.held.length:Int)) (min (L.base+L.b') (L.bC.length:Int)) _) λ Gr qy=> ?_;have mF:=γ jq qy;refine aa (iK Z Z)<|aJ Z<|av<| ?_;rcases (show (b9 L.next ((L.got.length:Int)+(L.held.length:Int)) (min (L.base+L.b') (L.bC.length:Int))=true∧L.way.all (λ n=>b9 n 0 (L.next - 1))=true∧L.bV.all (λ n=>b9 n 0 (L.got.length:Int))=true∧L.held.all (λ n=>b9 n ((L.got.length:Int)+1) (L.next - 1))=true)∨(b9 L.next ((L.got.length:Int)+(L.held.length:Int)) (min (L.base+L.b') (L.bC.length:Int))=true∧L.way.all (λ n=>b9 n 0 (L.next - 1))=true∧L.bV.all (λ n=>b9 n 0 (L.got.length:Int))=true∧L.held.all (λ n=>b9 n ((L.got.length:Int)+1) (L.next - 1))=false)∨(b9 L.next ((L.got.length:Int)+(L.held.length:Int)) (min (L.base+L.b') (L.bC.length:Int))=true∧L.way.all (λ n=>b9 n 0 (L.next - 1))=true∧L.bV.all (λ n=>b9 n 0 (L.got.length:Int))=false)∨(b9 L.next ((L.got.length:Int)+(L.held.length:Int)) (min (L.base+L.b') (L.bC.length:Int))=true∧L.way.all (λ n=>b9 n 0 (L.next - 1))=false)∨b9 L.next ((L.got.length:Int)+(L.held.length:Int)) (min (L.base+L.b') (L.bC.length:Int))=false from auz _ _ _ _) with ⟨mU,rj,xK,Dd⟩ | ⟨mU,rj,xK,Dd⟩ | ⟨mU,rj,xK⟩ | ⟨mU,rj⟩ | mU
     ·have abD:=hV mU;refine rg<|vm (ep Z mU)<|vm Z<|cm Z Z Z<|aa (aj uL Z)<|cm Z Z Z<| ?_;have ae:=ae.later qy;refine bk Z ae c8 Z<|cm Z Z Z<|aa (aj AV Z)<|cm Z Z Z<|bk Z ae aT Z<|cm Z Z Z<|aa (kx Z Z gD)<|cm Z Z Z<|cM CH Z (Df _ _ L.way 0 (L.next - 1) _ (dY.W.keep mF)) λ nR gb=> ?_;have eZ:=γ mF gb;refine aa (iK Z (ep Z rj))<|vm Z<|cm Z Z Z<|aa (aj r5 Z)<|cm Z Z Z<| ?_;have ae:=ae.later gb;refine bk Z ae c8 Z<|cm Z Z Z<|vm Z<|cm Z Z Z<|cM CH Z (Df _ _ L.bV 0 (L.got.length:Int) _ (dY.K.keep eZ)) λ rF cX=> ?_;have iA:=γ eZ cX;refine aa (iK Z (ep Z xK))<|vm Z<|cm Z Z Z<|aa (aj s7 Z)<|cm Z Z Z<| ?_;have ae:=ae.later cX;refine bk Z ae c8 Z<|cm Z Z Z<|vm Z<|cm Z Z Z<|gx Z Z<|cm Z Z Z<|aa (aj AV Z)<|cm Z Z Z<|bk Z ae aT Z<|cm Z Z Z<|aa (kx Z Z gD)<|cm Z Z Z<|cM CH Z (Df _ _ L.held ((L.got.length:Int)+1) (L.next - 1) _ (dY.H.keep iA)) λ zU j5=> ?_;have k4:=γ iA j5;refine aa (iK Z (ep Z Dd))<|aJ Z<|av<|aw<|aJ Z<|bJ<| ?_;have ae:=ae.later j5;refine eV (λ cp cn aP=>∃ g:Bool,∃ k:Nat,cn= [(1, .pointer (bA bB)),(2,Φ 0),(4,Φ (L.held.length:Int)),(5, .bool g),(6,Φ (k:Int))]∧cp=L.held.length+1 - k∧Ext w aP∧aM aP bB [Φ L.b', .slice a.S L.bC.length a.s,Φ L.base,Φ L.next, .slice a.W L.way.length a.w, .slice a.K L.bV.length a.k, .slice a.G L.got.length a.g, .slice a.H L.held.length a.h] 79 (0,0)∧(1≤k∧k≤L.held.length+1)∧(g=sg (L.held.take k))) _ _ ⟨true,1,Z,Z,k4,ae,⟨by omega,by omega⟩,(aEi _).symm⟩ (eO Z Z Z) ?_;rintro jI aN8 ud ⟨g,k,rfl,rfl,hI,ae,ak,aN⟩;refine av<|aB Z<|vm Z<|ec Z Z<|ec Z Z<|bh Z (λ hc=>blt (gt hc Z) (gt hc Z))<|aa (ei Z Z Z Z)<|aC<| ?_;refine du Z (λ y7=> ?_) (λ y7=> ?_)
      ·have aaU:=(ba3.1 y7).1;have j0:k<L.held.length:=by have:=(ba3.1 y7).2;simpa using this
       refine bm<|av<|bJ<| ?_;refine cO [(1,0),(4,0),(6,0),(10,0)] [0,1,2,3,4,5,6,7,8,9,10,11,12] ?_;refine aq Z (λ _=>aj s7 Z)<|cf Z Z ae c8 Z<|a1 Z Z<|aq Z (λ _=>cl k underlying22 dg Z Z ((dY.H.keep hI).bT (aV k)) Z (by omega))<|dT Z (λ _ x=>ax Z (J.aK.fh fY ((dY.H.keep (γ hI x)).cD (aV k)) (dt (l:=L.held) (u:=0) (by omega)) Z aT))<|aq Z (λ _=>aj s7 Z)<|cf Z Z ae c8 Z<|a1 Z Z<|aq Z (λ _=>kx Z Z gD)<|aq Z (λ _=>cl (((k:Int) - 1).toNat) underlying22 dg Z Z ((dY.H.keep hI).bT (aV (((k:Int) - 1).toNat))) (by omega) (by omega))<|dT Z (λ _ x=>ax Z (J.aK.fh fY ((dY.H.keep (γ hI x)).cD (aV (((k:Int) - 1).toNat))) (dt (l:=L.held) (u:=0) (by omega)) Z aT))<|aq Z (λ _=>gO Z Z)<|aq Z (λ _=>ee Z)<|fn λ vk eL=> ?_;have jr:=γ hI eL;refine b1<|aX<|rg<|vm Z<|gx Z Z<|va Z<|nl<| ?_;have ae:=ae.later eL;exact eJ ⟨decide (L.held.getD ((k:Int) - 1).toNat 0<L.held.getD k 0),k+1,Z,Z,jr,ae,⟨by omega,by omega⟩,aEk ak.1 (by omega) aN aaU⟩
      ·have aCv:g=true→L.held.length≤k:=λ e=>by rw [e] at y7;simpa using y7
       refine dn<|dk<|dG<|dj<|aX<|av<|aB Z<|aa (dJ Z)<|aC<| ?_;refine du Z (λ Fh=> ?_) (λ Fh=> ?_)
       ·refine aw<|aY Z<|bD<|b_ Z Z<| ?_;exact ⟨by rw [a6.yT (by simpa using hz) rb (a6.aAs (aEg aN (by simpa using Fh)))];rfl,hI⟩
       ·refine bm<|aw<|aY Z<|b_ Z Z<| ?_;exact ⟨by rw [a6.Sn (by simpa using hz) rb (a6.aja dw dN hb sj mU rj xK Dd (aEh aN (aCv (by simpa using Fh)) (by simpa using Fh)))];rfl,hI⟩
     ·have abD:=hV mU;refine rg<|vm (ep Z mU)<|vm Z<|cm Z Z Z<|aa (aj uL Z)<|cm Z Z Z<| ?_;have ae:=ae.later qy;refine bk Z ae c8 Z<|cm Z Z Z<|aa (aj AV Z)<|cm Z Z Z<|bk Z ae aT Z<|cm Z Z Z<|aa (kx Z Z gD)<|cm Z Z Z<|cM CH Z (Df _ _ L.way 0 (L.next - 1) _ (dY.W.keep mF)) λ L2 pO=> ?_;have vw:=γ mF pO;refine aa (iK Z (ep Z rj))<|vm Z<|cm Z Z Z<|aa (aj r5 Z)<|cm Z Z Z<| ?_;have ae:=ae.later pO;refine bk Z ae c8 Z<|cm Z Z Z<|vm Z<|cm Z Z Z<|cM CH Z (Df _ _ L.bV 0 (L.got.length:Int) _ (dY.K.keep vw)) λ Qn k0=> ?_;have qz:=γ vw k0;refine aa (iK Z (ep Z xK))<|vm Z<|cm Z Z Z<|aa (aj s7 Z)<|cm Z Z Z<| ?_;have ae:=ae.later k0;refine bk Z ae c8 Z<|cm Z Z Z<|vm Z<|cm Z Z Z<|gx Z Z<|cm Z Z Z<|aa (aj AV Z)<|cm Z Z Z<|bk Z ae aT Z<|cm Z Z Z<|aa (kx Z Z gD)<|cm Z Z Z<|cM CH Z (Df _ _ L.held ((L.got.length:Int)+1) (L.next - 1) _ (dY.H.keep qz)) λ BH hq=> ?_;have nA:=γ qz hq;refine aa (iK Z (ep Z Dd))<|aJ Z<|av<|aw<|aJ Z<|bJ<|uW 1<|kg<|av<|aB Z<|vm Z<|ba Z<|ba Z<|ba Z<|aa (fR Z Z)<|aC<| ?_;refine gj Z<|dn<|dk<|dG<|dj<|aX<|av<|aB Z<|aa (dJ Z)<|aC<|eT Z<|aw<|aY Z<|bD<|b_ Z Z<| ?_;exact ⟨by rw [a6.yT (by simpa using hz) rb ((by unfold a6.eB;simp only [dw,dN,hb,sj,mU,rj,xK,Dd,aZF,aZS]))];rfl,nA⟩
     ·have abD:=hV mU;refine rg<|vm (ep Z mU)<|vm Z<|cm Z Z Z<|aa (aj uL Z)<|cm Z Z Z<| ?_;have ae:=ae.later qy;refine bk Z ae c8 Z<|cm Z Z Z<|aa (aj AV Z)<|cm Z Z Z<|bk Z ae aT Z<|cm Z Z Z<|aa (kx Z Z gD)<|cm Z Z Z<|cM CH Z (Df _ _ L.way 0 (L.next - 1) _ (dY.W.keep mF)) λ wI fv=> ?_;have kt:=γ mF fv;refine aa (iK Z (ep Z rj))<|vm Z<|cm Z Z Z<|aa (aj r5 Z)<|cm Z Z Z<| ?_;have ae:=ae.later fv;refine bk Z ae c8 Z<|cm Z Z Z<|vm Z<|cm Z Z Z<|cM CH Z (Df _ _ L.bV 0 (L.got.length:Int) _ (dY.K.keep kt)) λ DM lS=> ?_;have pR:=γ kt lS;refine aa (iK Z (ep Z xK))<|vm Z<|ba Z<|ba Z<|ba Z<|ba Z<|ba Z<|ba Z<|ba Z<|ba Z<|aa (fR Z Z)<|aJ Z<|av<|aw<|aJ Z<|bJ<|uW 1<|kg<|av<| ?_;refine aB Z<|vm Z<|ba Z<|ba Z<|ba Z<|aa (fR Z Z)<|aC<|gj Z<|dn<|dk<|dG<|dj<|aX<|av<|aB Z<|aa (dJ Z)<|aC<|eT Z<| ?_;refine aw<|aY Z<|bD<|b_ Z Z<| ?_;exact ⟨by rw [a6.yT (by simpa using hz) rb ((by unfold a6.eB;simp only [dw,dN,hb,sj,mU,rj,xK,aZF,aZS]))];rfl,pR⟩
     ·have abD:=hV mU;refine rg<|vm (ep Z mU)<|vm Z<|cm Z Z Z<|aa (aj uL Z)<|cm Z Z Z<| ?_;have ae:=ae.later qy;refine bk Z ae c8 Z<|cm Z Z Z<|aa (aj AV Z)<|cm Z Z Z<|bk Z ae aT Z<|cm Z Z Z<|aa (kx Z Z gD)<|cm Z Z Z<|cM CH Z (Df _ _ L.way 0 (L.next - 1) _ (dY.W.keep mF)) λ ad3 o4=> ?_;have Jx:=γ mF o4;refine aa (iK Z (ep Z rj))<|vm Z<|ba Z<|ba Z<|ba Z<|ba Z<|aa (fR Z Z)<|vm Z<|ba Z<|ba Z<|ba Z<|ba Z<|ba Z<|ba Z<|ba Z<|ba Z<|aa (fR Z Z)<|aJ Z<|av<|aw<|va Z<| ?_;refine aC<|bJ<|uW 1<|kg<|av<|aB Z<|vm Z<|ba Z<|ba Z<|ba Z<|aa (fR Z Z)<|aC<|gj Z<|dn<|dk<|dG<|dj<|aX<|av<|av<| ?_;refine rg<|vm Z<|aa (dJ Z)<|aC<|eT Z<|aw<|aY Z<|bD<|b_ Z Z<| ?_;exact ⟨by rw [a6.yT (by simpa using hz) rb ((by unfold a6.eB;simp only [dw,dN,hb,sj,mU,rj,aZF,aZS]))];rfl,Jx⟩
     ·refine rg<|vm (ep Z mU)<|vm Z<|ba Z<|ba Z<|ba Z<|ba Z<|ba Z<|ba Z<|aa (fR Z Z)<|vm Z<|ba Z<|ba Z<|ba Z<|ba Z<|aa (fR Z Z)<|vm Z<|ba Z<|ba Z<|ba Z<|ba Z<|ba Z<|ba Z<|ba Z<| ?_;refine ba Z<|aa (fR Z Z)<|aJ Z<|av<|aw<|aJ Z<|bJ<|uW 1<|kg<|av<|aB Z<|vm Z<|ba Z<|ba Z<|ba Z<|aa (fR Z Z)<|nl<| ?_;refine aX<|gj Z<|dn<|dk<|dG<|dj<|aX<|av<|aB Z<|aa (dJ Z)<|aC<|eT Z<|aw<|aY Z<|bD<|b_ Z Z<| ?_;exact ⟨by rw [a6.yT (by simpa using hz) rb ((by unfold a6.eB;simp only [dw,dN,hb,sj,mU,aZF,aZS]))];rfl,mF⟩
    ·have aEE:=hV hb;refine rg<|vm (ep Z hb)<|vm Z<|cm Z Z Z<|vm Z<|cm Z Z Z<|aa (aj pb Z)<|cm Z Z Z<| ?_;have ae:=ae.later cr;refine bk Z ae kz Z<|cm Z Z Z<|aa (b5 underlying45 Z)<|cm Z Z Z<|aa (ble Z Z)<|aa (iK Z (ep Z sj))<|vm Z<|ba Z<|ba Z<|ba Z<|ba Z<|ba Z<|ba Z<|ba Z<|ba Z<|ba Z<|ba Z<|ba Z<|ba Z<|ba Z<|ba Z<|ba Z<|aa (fR Z Z)<|va Z<| ?_;refine aC<|aB Z<|vm Z<|ba Z<|ba Z<|ba Z<|ba Z<|ba Z<|ba Z<|aa (fR Z Z)<|vm Z<|ba Z<|ba Z<|ba Z<|ba Z<|aa (fR Z Z)<|vm Z<|ba Z<|ba Z<|ba Z<|ba Z<| ?_;refine ba Z<|ba Z<|ba Z<|ba Z<|aa (fR Z Z)<|aJ Z<|av<|aw<|aJ Z<|bJ<|uW 1<|kg<|av<|aB Z<|vm Z<|ba Z<|ba Z<| ?_;refine ba Z<|aa (fR Z Z)<|aC<|gj Z<|dn<|dk<|dG<|dj<|aX<|av<|aB Z<|aa (dJ Z)<|aC<|eT Z<|aw<|aY Z<| ?_;refine bD<|b_ Z Z<| ?_;exact ⟨by rw [a6.yT (by simpa using hz) rb ((by unfold a6.eB;simp only [dw,dN,hb,sj,aZF,aZS]))];rfl,jq⟩
    ·refine rg<|vm (ep Z hb)<|vm Z<|ba Z<|ba Z<|ba Z<|ba Z<|ba Z<|aa (fR Z Z)<|vm Z<|ba Z<|ba Z<|ba Z<|ba Z<|ba Z<|ba Z<|ba Z<|ba Z<|ba Z<|ba Z<|ba Z<|ba Z<|ba Z<|ba Z<| ?_;refine ba Z<|aa (fR Z Z)<|aJ Z<|aB Z<|vm Z<|ba Z<|ba Z<|ba Z<|ba Z<|ba Z<|ba Z<|aa (fR Z Z)<|vm Z<|ba Z<|ba Z<|ba Z<|ba Z<|aa (fR Z Z)<|vm Z<|ba Z<| ?_;refine ba Z<|ba Z<|ba Z<|ba Z<|ba Z<|ba Z<|ba Z<|aa (fR Z Z)<|aJ Z<|av<|aw<|aJ Z<|bJ<|uW 1<|kg<|av<|aB Z<| ?_;refine vm Z<|ba Z<|ba Z<|ba Z<|aa (fR Z Z)<|aC<|gj Z<|dn<|dk<|dG<|dj<|aX<|av<|aB Z<|aa (dJ Z)<|aC<|eT Z<|aw<|va Z<| ?_;refine sk<|bD<|b_ Z Z<| ?_;exact ⟨by rw [a6.yT (by simpa using hz) rb ((by unfold a6.eB;simp only [dw,dN,hb,aZF,aZS]))];rfl,jq⟩
   ·have aED:L.got.length≤L.bC.length:=by simpa using dw
    refine cO [(2,0),(7,0),(9,0),(12,0),(16,0),(20,0),(22,0)] [0,1,2,3,4,5,6,7,8,9,10,11,12,13,14,15,16,17,18,19,20,21,22,23,24] ?_;refine a1 Z Z<|aq Z (λ _=>aj pb Z)<| ?_;have ae:=ae.later iy;refine cf rfl rfl ae kz rfl<|aq rfl (λ _=>b5 underlying45 rfl)<|aq rfl (λ _=>ble rfl rfl)<|aq rfl (λ _=>gw (ep rfl dw))<|b0 rfl rfl (λ hc _=>aj r6 rfl)<|dL rfl rfl (λ hc _ x=>ax rfl ((ae.later x).one kz rfl))<|b0 rfl rfl (λ hc _=>aj pb rfl)<|dL rfl rfl (λ hc _ x=>ax rfl ((ae.later x).one kz rfl))<|fy rfl rfl rfl<|b0 rfl rfl (λ hc _=>aj pb rfl)<|dL rfl rfl (λ hc _ x=>ax rfl ((ae.later x).one kz rfl))<|b0 rfl rfl (λ hc _=>b5 underlying45 rfl)<|b0 rfl rfl (λ hc _=>nk rfl rfl)<|b0 rfl rfl (λ hc _=>LI L.got.length (L.bC.take L.got.length).length underlying45 E5 rfl rfl (by omega) (by omega) (by rw [aYa];omega))<|ef rfl rfl rfl rfl rfl rfl Y4 (λ hc=>rfl) (λ hc _ x=>aiA _ _ _ _ _ _ L.got (L.bC.take L.got.length) _ (dY.G.keep (γ hZ x)) ((dY.S.keep (γ hZ x)).pre L.got.length)) rfl<|aq rfl (λ _=>iK rfl (ep rfl dN))<|a1 rfl rfl<|c0 rfl rfl<|jh rfl rfl<|c0 rfl rfl<|ef (v:=undef) (args:= []) rfl rfl rfl rfl rfl rfl Kj (λ hc=>nomatch hc) (λ hc=>nomatch hc) rfl<|aq rfl (λ _=>fR rfl rfl)<|aq rfl (λ _=>ee rfl)<|fn λ V2 ui=> ?_;have D6:=γ hZ ui;refine aX<|aB Z<|vm Z<|ba Z<|ba Z<|ba Z<|ba Z<|ba Z<|aa (fR Z Z)<|vm Z<|ba Z<|ba Z<|ba Z<|ba Z<|ba Z<|ba Z<|ba Z<|ba Z<|ba Z<|ba Z<|ba Z<|ba Z<| ?_;refine ba Z<|ba Z<|ba Z<|aa (fR Z Z)<|aJ Z<|aB Z<|vm Z<|ba Z<|ba Z<|ba Z<|ba Z<|ba Z<|ba Z<|aa (fR Z Z)<|vm Z<|ba Z<|ba Z<|ba Z<|ba Z<|aa (fR Z Z)<| ?_;refine vm Z<|ba Z<|ba Z<|ba Z<|ba Z<|ba Z<|ba Z<|ba Z<|ba Z<|aa (fR Z Z)<|aJ Z<|av<|aw<|aJ Z<|bJ<|uW 1<|kg<|av<|av<| ?_;refine rg<|vm Z<|vm Z<|ba Z<|ba Z<|ba Z<|aa (fR Z Z)<|aC<|gj Z<|dn<|dk<|dG<|dj<|aX<|av<|aB Z<|aa (dJ Z)<|aC<|eT Z<|av<| ?_;refine rg<|aY Z<|bD<|b_ Z Z<| ?_;exact ⟨by rw [a6.yT (by simpa using hz) rb ((by unfold a6.eB;simp only [dw,dN,aZF,aZS]))];rfl,D6⟩
   ·refine cO [(2,0),(7,0),(9,0),(12,0),(16,0),(20,0),(22,0)] [0,1,2,3,4,5,6,7,8,9,10,11,12,13,14,15,16,17,18,19,20,21,22,23,24] ?_;refine a1 Z Z<|aq Z (λ _=>aj pb Z)<| ?_;have ae:=ae.later iy;refine cf rfl rfl ae kz rfl<|aq rfl (λ _=>b5 underlying45 rfl)<|aq rfl (λ _=>ble rfl rfl)<|aq rfl (λ _=>gw (ep rfl dw))<|c0 rfl rfl<|jh rfl rfl<|c0 rfl rfl<|jh rfl rfl<|c0 rfl rfl<|c0 rfl rfl<|jh rfl rfl<|c0 rfl rfl<|c0 rfl rfl<|c0 rfl rfl<|ef (v:=undef) (args:= []) rfl rfl rfl rfl rfl rfl Y4 (λ hc=>nomatch hc) (λ hc=>nomatch hc) rfl<|aq rfl (λ _=>fR rfl rfl)<|a1 rfl rfl<|c0 rfl rfl<|jh rfl rfl<|c0 rfl rfl<|ef (v:=undef) (args:= []) rfl rfl rfl rfl rfl rfl Kj (λ hc=>nomatch hc) (λ hc=>nomatch hc) rfl<|aq rfl (λ _=>fR rfl rfl)<|aq rfl (λ _=>ee rfl)<|fn λ Gu uj=> ?_;have pS:=γ hZ uj;refine aX<|aB Z<|vm Z<|ba Z<|ba Z<|ba Z<|ba Z<|ba Z<|aa (fR Z Z)<|vm Z<|ba Z<|ba Z<|ba Z<|ba Z<|ba Z<|ba Z<|ba Z<|ba Z<|ba Z<|ba Z<|ba Z<|ba Z<| ?_;refine ba Z<|ba Z<|ba Z<|aa (fR Z Z)<|aJ Z<|aB Z<|vm Z<|ba Z<|ba Z<|ba Z<|ba Z<|ba Z<|ba Z<|aa (fR Z Z)<|vm Z<|ba Z<|ba Z<|ba Z<|ba Z<|aa (fR Z Z)<| ?_;refine vm Z<|ba Z<|ba Z<|ba Z<|ba Z<|ba Z<|ba Z<|ba Z<|ba Z<|aa (fR Z Z)<|aJ Z<|av<|aw<|aJ Z<|bJ<|uW 1<|kg<|av<|av<| ?_;refine rg<|vm Z<|vm Z<|ba Z<|ba Z<|ba Z<|aa (fR Z Z)<|aC<|gj Z<|dn<|dk<|dG<|dj<|aX<|av<|aB Z<|aa (dJ Z)<|aC<|eT Z<|av<| ?_;refine rg<|aY Z<|bD<|b_ Z Z<| ?_;exact ⟨by rw [a6.yT (by simpa using hz) rb ((by unfold a6.eB;simp only [dw,aZF,aZS]))];rfl,pS⟩
end
section
variable {L:a6}
theorem asL:ez prog bu 22 3 8:=ez.ki (z:=Φ 0) (k:=1) underlying22 xI rfl rfl (by decide) (λ j u h=>Bw j u h)
def a6.MY (L:a6):Prop:=1≤L.b'∧L.b'≤16∧0≤L.base∧L.base≤(L.got.length:Int)∧L.got.length≤L.bC.length∧L.bC.length≤200∧L.way.length≤1000∧L.bV.length≤1000∧(L.got.length:Int)+(L.held.length:Int)≤L.next∧L.next≤L.base+L.b'∧L.next≤(L.bC.length:Int)
theorem a6.agQ (h:L.a7=0):b9 L.b' 1 16=true∧L.wb=false∧L.eB=true:=by
 unfold a6.a7 at h;split at h
 ·omega
 ·rename_i κ
  split at h
  ·omega
  ·rename_i τ
   split at h
   ·rename_i au;exact ⟨by simpa using κ,by simpa using τ,au⟩
   ·omega
theorem a6.ai9 (h:L.eB=true):(L.got.length:Int)≤(L.bC.length:Int)∧L.got=L.bC.take L.got.length∧b9 L.base 0 (L.got.length:Int)=true∧(L.held.length:Int)≤(L.bC.length:Int)∧b9 L.next ((L.got.length:Int)+(L.held.length:Int)) (min (L.base+L.b') (L.bC.length:Int))=true∧L.way.all (λ n=>b9 n 0 (L.next - 1))=true∧L.bV.all (λ n=>b9 n 0 (L.got.length:Int))=true∧L.held.all (λ n=>b9 n ((L.got.length:Int)+1) (L.next - 1))=true∧sg L.held=true:=by
 unfold a6.eB at h;simp only [aYl] at h;obtain ⟨⟨⟨⟨⟨⟨⟨⟨κ,τ⟩,au⟩,aU⟩,bN⟩,cq⟩,ew⟩,gB⟩,tj⟩:=h;exact ⟨aY6 κ,aY6 τ,au,aY6 aU,bN,cq,ew,gB,tj⟩
theorem a6.num (h:L.a7=0):L.MY:=by
 obtain ⟨κ,τ,au⟩:=a6.agQ h;obtain ⟨g1,g2,g3,g4,g5,_⟩:=a6.ai9 au;have κ:=hV κ;have τ:=amM τ;have g3:=hV g3;have g5:=hV g5;exact ⟨by omega,by omega,by omega,by omega,by omega,by omega,by omega,by omega,by omega,by omega,by omega⟩
def rD (b:Int):Nat→List Int
 | 0=> []
 | j+1=>rD b j++ [b+(j:Int)]
theorem I1 (b:Int) (j:Nat):(rD b j).length=j:=by
 induction j with
 | zero=>rfl
 | succ j bL=>rw [rD,aX9,bL];rfl
def a6.send (L:a6):a6×Int:=if 1000<(L.way.length:Int)+min (L.base+L.b') (L.bC.length:Int) - L.base then (L,6) else ({L with next:=min (L.base+L.b') (L.bC.length:Int),way:=L.way++rD L.base (min (L.base+L.b') (L.bC.length:Int) - L.base).toNat},0)
theorem a6.aoJ (h:1000<(L.way.length:Int)+min (L.base+L.b') (L.bC.length:Int) - L.base):L.send=(L,6):=by unfold a6.send;rw [aYq h]
theorem a6.aoK {j:Nat} (h:¬ 1000<(L.way.length:Int)+min (L.base+L.b') (L.bC.length:Int) - L.base) (Ko:(min (L.base+L.b') (L.bC.length:Int) - L.base).toNat=j):L.send=({L with next:=min (L.base+L.b') (L.bC.length:Int),way:=L.way++rD L.base j},0):=by unfold a6.send;rw [aYi h,Ko]
theorem aFS (w0:World) (b:Nat) (a:a6.b7) (L:a6) (w:World) (fg:Ext w0 w) (ah:m7 w w0.heap.size b a L) (uO:L.MY):
  Calls prog 80 #[.pointer (bA b)] w (λ e w'=>∃ a',e= .returned (Φ L.send.2)∧m7 w' w0.heap.size b a' L.send.1∧(∀ q∈iV a',q∈jG b a∨w.heap.size≤q)∧Mod (jG b a) w w'):=by
 have aI:=ah.fI;have Ol:=ah.le;have cZ:=ah.own.S;have ed:=ah.own.W;have dB:=ah.own.K;have ct:=ah.own.G;have c_:=ah.own.H;have yb:=bM cZ.lt;have I6:=bM dB.lt;have LR:=bM ct.lt;have LS:=bM c_.lt;have aix:=cZ.has.fa;have Zg:=ed.has.fa;have S2:=ct.has.fa;have azs:=c_.has.fa;have Sf:=cZ.1;have avt:=ed.1;have Sd:=ct.1;have avp:=c_.1;have Ij:=b8.1 ah.own.nums.1;have Bb:=b8.1 ah.own.nums.2.1;have FB:=b8.1 ah.own.nums.2.2;obtain ⟨zB,ru,oj,pz,n5,n6,n7,acq,acr,aco,acp⟩:=uO;refine ch (n:=56) func80 Z Z Z ?_;refine aw<|aJ Z<|av<| ?_;refine cO [(3,0),(7,0),(12,0)] [0,1,2,3,4,5,6,7,8,9,10,11,12,13,14,15] ?_;refine a1 Z Z<|aq Z (λ _=>bx Z)<|aq Z (λ _=>aj CG Z)<|cf Z Z aI aT Z<|a1 Z Z<|aq Z (λ _=>bx Z)<|aq Z (λ _=>aj Y3 Z)<|cf Z Z aI aT Z<|aq Z (λ _=>bad Z Z gD)<|a1 Z Z<|aq Z (λ _=>bx Z)<|aq Z (λ _=>aj pb Z)<|cf Z Z aI kz Z<|aq Z (λ _=>b5 underlying45 Z)<|aq Z (λ _=>nk Z Z)<|aq Z (λ _=>ee Z)<|fn λ cG dS=> ?_;have de:=(Mod.cH (jG b a) w).trans (Mod.a8 dS);refine aX<|av<|av<| ?_;refine cO [(3,0),(10,0)] [0,1,2,3,4,5,6,7,8,9,10,11,12] ?_;refine a1 Z Z<|aq Z (λ _=>bx Z)<|aq Z (λ _=>aj uL Z)<| ?_;have aI:=aI.later dS;refine cf Z Z aI c8 Z<|aq Z (λ _=>b5 underlying22 Z)<|a1 Z Z<|aq Z (λ _=>bad Z Z gD)<|a1 Z Z<|aq Z (λ _=>bx Z)<|aq Z (λ _=>aj CG Z)<|cf Z Z aI aT Z<|aq Z (λ _=>kx Z Z gD)<|aq Z (λ _=>gO Z Z)<|fn λ VY m2=> ?_;have GL:=de.trans (Mod.a8 m2);refine aX<| ?_;refine en Z (λ Ou=> ?_) (λ Ou=> ?_)
 ·refine aw<|aY Z<|bD<|b_ Z Z<| ?_;have aI:=aI.later m2;have dA:=(γ dS m2);have cZ:=cZ.later dA;have ed:=ed.later dA;have dB:=dB.later dA;have ct:=ct.later dA;have c_:=c_.later dA;exact ⟨⟨a.S,a.W,a.K,a.G,a.H,a.s,a.w,a.k,a.g,a.h⟩,by rw [a6.aoJ (by omega)];rfl,by rw [a6.aoJ (by omega)];exact ⟨aI,⟨cZ,ed,dB,ct,c_,ah.own.kb,ah.own.jx,ah.own.iT,ah.own.kO,ah.own.j',ah.own.jT,ah.own.kQ,ah.own.ka,ah.own.jU,ah.own.kP,⟨cN,cN,cN⟩⟩,ah.le,ah.bn,ah.jw,ah.ia,ah.jd,ah.je⟩,(Dj (λ q I=> .inl (Be I)) (λ q I=> .inl (xH I)) (λ q I=> .inl (uT I)) (λ q I=> .inl (Bc I)) (λ q I=> .inl (Bd I))),GL⟩
 ·refine bm<|aB Z<|vm Z<|aa (bx Z)<|aa (aj AV Z)<| ?_;have aI:=aI.later m2;refine st (new:= [Φ L.b', .slice a.S L.bC.length a.s,Φ L.base,Φ (min (L.base+L.b') (L.bC.length:Int)), .slice a.W L.way.length a.w, .slice a.K L.bV.length a.k, .slice a.G L.got.length a.g, .slice a.H L.held.length a.h]) Z Z aI Z dg Z Z Z λ eC FY aI=> ?_;have bO:=GL.md FY lr;refine aC<|av<|aB Z<|aa (bx Z)<|aa (aj CG Z)<|bk Z aI aT Z<|aJ Z<|bJ<| ?_;have gG:=kW (γ dS m2) FY;have ed:=ed.mod gG (bl ah.jw);have cZ:=cZ.mod gG (bl ah.bn);have dB:=dB.mod gG (bl ah.ia);have ct:=ct.mod gG (bl ah.jd);have c_:=c_.mod gG (bl ah.je);refine eV (λ cp cn aP=>∃ j:Nat,∃ cb:Option Addr,∃ c1:Nat,cn= [(0, .pointer (bA b)),(2,Φ 0),(3,Φ (min (L.base+L.b') (L.bC.length:Int))),(4,Φ (L.base+(j:Int)))]∧cp=(min (L.base+L.b') (L.bC.length:Int) - L.base).toNat - j∧Mod (jG b a) w aP∧gi.aF 9 16 aP w0.heap.size (J.ab (a.S)) (a.S) a.s (L.bC)∧bu.aF 3 8 aP w0.heap.size (J.ab (a.K)) (a.K) a.k (L.bV)∧gi.aF 9 16 aP w0.heap.size (J.ab (a.G)) (a.G) a.g (L.got)∧bu.aF 3 8 aP w0.heap.size (J.ab (a.H)) (a.H) a.h (L.held)∧aM aP b [Φ L.b', .slice a.S L.bC.length a.s,Φ L.base,Φ (min (L.base+L.b') (L.bC.length:Int)), .slice cb ((L.way++rD L.base j).length) c1, .slice a.K L.bV.length a.k, .slice a.G L.got.length a.g, .slice a.H L.held.length a.h] 79 (0,0)∧bu.aF 3 8 aP w0.heap.size (J.ab (cb)) (cb) c1 (L.way++rD L.base j)∧((j:Int)≤min (L.base+L.b') (L.bC.length:Int) - L.base)∧(∀ q∈J.ab cb,q∈jG b a∨w.heap.size≤q)∧(∀ q∈J.ab cb,q=b→False)∧(∀ q∈J.ab cb,q∈J.ab a.S→False)∧(∀ q∈J.ab cb,q∈J.ab a.K→False)∧(∀ q∈J.ab cb,q∈J.ab a.G→False)∧(∀ q∈J.ab cb,q∈J.ab a.H→False)) _ _ ⟨0,a.W,a.w,Z,Z,bO,cZ,dB,ct,c_,(by simpa [rD] using aI),(by simpa [rD] using ed),by omega,(λ q I=> .inl (xH I)),ah.jw,ah.own.kb,(λ q I ag=>by (exact ah.own.iT q ag I)),(λ q I ag=>by (exact ah.own.j' q ag I)),(λ q I ag=>by (exact ah.own.ka q ag I))⟩ (eO Z Z Z) ?_;rintro tK afm Gq ⟨j,cb,c1,rfl,rfl,m4,cZ,dB,ct,c_,cC,Rw,ay,Jt,Sv,Yz,NG,Cv,vP⟩;have:=m4.size;have adM:=bM cZ.lt;have aKG:=bM dB.lt;have tX:=bM ct.lt;have aKI:=bM c_.lt;have aIm:=cC.lt;have akx:=I1 L.base j;refine av<|aB Z<|vm Z<|dR Z Z<|aC<| ?_;refine en Z (λ A4=> ?_) (λ A4=> ?_)
  ·refine bm<|av<|bJ<|rg<|vm Z<|vm Z<|aa (bx Z)<|aa (aj uL Z)<|bk Z cC c8 Z<|vm Z<|c7 (e:= 3) (cs:= [Φ (L.base+(j:Int))]) Z (λ _=>by kernel_rfl) Z λ zU R0 d_ aE3 QX=> ?_;have k4:=m4.trans (Mod.a8 d_);have aV9:=QX.lt;have Rw:=Rw.later d_;refine ap asL J.dQ Rw (aM.gu (R:=bu) (by_:=8) (q:=L.base+(j:Int)) QX ⟨Z,cN⟩ (by decide)) Z Z (by rw [aX9,I1];simp only [aYc,aYh];omega) (by rw [aX9,I1];simp only [aYc,aYh];omega) (by omega) Z λ Gs Mq avR oS Nf HT aU6=> ?_;have oy:=k4.md oS Jt;refine aa (bx Z)<|aa (aj uL Z)<| ?_;have cC:=(cC.later d_).mod oS (λ I=>Sv _ I rfl);refine dU Z Z cC Z nH Z Z λ Gt iH cC=> ?_;have rN:=oy.md iH lr;refine nl<|b1<|aX<|rg<|vm Z<|gx Z Z<|va Z<|nl<| ?_;have aW:L.way++rD L.base (j+1)=L.way++rD L.base j++ [L.base+(j:Int)]:=by rw [rD,aYK]
   have aeC:∀ q∈J.ab cb,q∈(jG b a)∨w.heap.size≤q:=Jt;have cZ:=((cZ.later d_).mod oS (cQ Yz)).mod iH (bl ah.bn);have dB:=((dB.later d_).mod oS (cQ NG)).mod iH (bl ah.ia);have ct:=((ct.later d_).mod oS (cQ Cv)).mod iH (bl ah.jd);have c_:=((c_.later d_).mod oS (cQ vP)).mod iH (bl ah.je);have Nf:=Nf.mod iH (bl λ q I ag=>aYC (HT q I) (λ amh=>by (exact Sv q amh ag)) (λ amh=>by omega));exact eJ ⟨j+1,Mq,avR,Z,Z,rN,cZ,dB,ct,c_,(by rw [aW];exact cC),(by rw [aW];exact Nf),by omega,(λ q I=>(HT q I).elim (aeC q) (λ h=> .inr (by omega))),(fJ HT Sv),(hh HT Yz adM),(hh HT NG aKG),(hh HT Cv tX),(hh HT vP aKI)⟩
  ·refine dn<|dk<|dG<|dj<|aX<|aw<|aY Z<|b_ Z Z<| ?_;have Ko:(min (L.base+L.b') (L.bC.length:Int) - L.base).toNat=j:=by omega
   exact ⟨⟨a.S,cb,a.K,a.G,a.H,a.s,c1,a.k,a.g,a.h⟩,by rw [a6.aoK (by omega) Ko];rfl,by rw [a6.aoK (by omega) Ko];exact ⟨cC,⟨cZ,Rw,dB,ct,c_,Yz,ah.own.jx,(cQ NG),ah.own.kO,(cQ Cv),ah.own.jT,ah.own.kQ,(cQ vP),ah.own.jU,ah.own.kP,⟨cN,cN,cN⟩⟩,ah.le,ah.bn,Sv,ah.ia,ah.jd,ah.je⟩,(Dj (λ q I=> .inl (Be I)) Jt (λ q I=> .inl (uT I)) (λ q I=> .inl (Bc I)) (λ q I=> .inl (Bd I))),m4⟩
end
section
variable {A:Option Addr} {c aA:Nat} {l:List Int} {w w':World}
theorem Xn:ez prog bu 22 3 8:=ez.ki (z:=Φ 0) (k:=1) underlying22 xI rfl rfl (by decide) (λ j u h=>Bw j u h)
theorem afJ:ez prog gi 45 9 16:=ez.ki (z:= .string .empty) (k:=1) underlying45 Uf rfl rfl (by decide) (λ j u h=>Vf j u h)
structure lG (w:World) (aA:Nat) (A:Option Addr) (c:Nat) (l:List Int):Prop where
 has:bu.aK 8 w A c l
 lt:∀ q∈J.ab A,aA≤q∧q<w.heap.size
 row:∀ a,A=some a→∃ cur,a=⟨a.block,a.off,none⟩∧aM w a.block cur 3 (0,0)∧a.off+c≤cur.length∧∀ u∈cur,∃ n:Int,u=Φ n
theorem aK.aGs {S:List Nat} (h:bu.aK 8 w A c l) (m:Mod S w w') (bF:∀ q∈J.ab A,q<w.heap.size) (hd:∀ x∈J.ab A,x∉S):bu.aK 8 w' A c l:=by
 obtain ⟨κ,τ,au,aU,ess,bN,cq,ew⟩:=h;refine ⟨κ,τ,au,aU,ess,bN,cq,λ aG=> ?_⟩;obtain ⟨b,o,rfl,hc⟩:=ew aG;refine ⟨b,o,Z,λ j u hu=> ?_⟩;rw [← hc j u hu];have:=m.block b (bF b (aYf.2 rfl)) (hd b (aYf.2 rfl));simp only [World.cell?,this]
theorem lG.mod {S:List Nat} (h:lG w aA A c l) (m:Mod S w w') (hd:∀ x∈J.ab A,x∉S):lG w' aA A c l :=
 ⟨aK.aGs h.has m (λ q I=>(h.lt q I).2) hd,λ q I=>⟨(h.lt q I).1,aZG (h.lt q I).2 m.size⟩,λ a ha=>by
  obtain ⟨cur,aG,κ,τ⟩:=h.row a ha;exact ⟨cur,aG,κ.mod m (hd _ (by subst ha;exact aYf.2 rfl)),τ⟩⟩
theorem lG.later (h:lG w aA A c l) (x:Ext w w'):lG w' aA A c l:=h.mod (S:= []) (Mod.a8 x) λ _ _ h=>by simp at h
theorem lG.of (h:bu.aF 3 8 w aA (J.ab A) A c l):lG w aA A c l:=by
 refine ⟨h.has,λ q I=>h.lt q I,λ a ha=> ?_⟩;subst ha;obtain ⟨_,ps,_,_,bK,_⟩:=id h;obtain ⟨_,τ⟩:=bK;rcases τ with ⟨τ,_⟩ | ⟨g,cap,cur,hv,_⟩
 ·cases τ
 ·injection hv with hv
  injection hv with hv
  subst hv;obtain ⟨cur,κ,_,_,aU,_,_,ew,_⟩:=Pb h;exact ⟨cur,Z,κ,by rw [aU];show 0+c≤c;omega,ew⟩
theorem F8 {lo s q:Nat} (h:q∈J.ab (eF A c lo s)):q∈J.ab A:=by
 unfold eF at h;split at h
 ·exact h
 ·cases A with
  | none=>exact h
  | some a =>
   have e:(a.add (lo * s)).block=a.block:=by unfold Addr.add;split<;>rfl
   have h:q∈ [(a.add (lo * s)).block]:=h;rw [e] at h;exact h
theorem lG.cut (h:lG w aA A c l) (aG:0<l.length):lG w aA (eF A c 1 1) (c - 1) (l.drop 1):=by
 have hc:=h.has.1;have hs:=h.has.sub 1 l.length (by omega) (by omega);rw [aYp (by rw [aYs];exact aYg _)] at hs;refine ⟨hs,λ q I=>h.lt q (F8 I),λ a ha=> ?_⟩;unfold eF at ha;split at ha
 ·rename_i κ
  obtain ⟨cur,tj,τ,au,aU⟩:=h.row a ha;exact ⟨cur,tj,τ,by omega,aU⟩
 ·cases A with
  | none=>cases ha
  | some a0 =>
   obtain rfl:=aYd ha;obtain ⟨cur,tj,τ,au,aU⟩:=h.row a0 rfl;exact ⟨cur,Z,τ,by show a0.off+1 * 1+(c - 1)≤cur.length;omega,aU⟩
structure Ev (w:World) (aA b:Nat) (a:a6.b7) (L:a6):Prop where
 fI:aM w b (a6.cells a L) 79 (0,0)
 S:gi.aF 9 16 w aA (J.ab a.S) a.S a.s L.bC
 W:bu.aF 3 8 w aA (J.ab a.W) a.W a.w L.way
 K:bu.aF 3 8 w aA (J.ab a.K) a.K a.k L.bV
 G:gi.aF 9 16 w aA (J.ab a.G) a.G a.g L.got
 H:lG w aA a.H a.h L.held
 kb:∀ q∈J.ab a.W,q∈J.ab a.S→False
 jx:∀ q∈J.ab a.K,q∈J.ab a.S→False
 iT:∀ q∈J.ab a.K,q∈J.ab a.W→False
 kO:∀ q∈J.ab a.G,q∈J.ab a.S→False
 j':∀ q∈J.ab a.G,q∈J.ab a.W→False
 jT:∀ q∈J.ab a.G,q∈J.ab a.K→False
 kQ:∀ q∈J.ab a.H,q∈J.ab a.S→False
 ka:∀ q∈J.ab a.H,q∈J.ab a.W→False
 jU:∀ q∈J.ab a.H,q∈J.ab a.K→False
 kP:∀ q∈J.ab a.H,q∈J.ab a.G→False
 nums:ea L.b'∧ea L.base∧ea L.next
 le:aA≤b
 bn:∀ q∈J.ab a.S,q=b→False
 jw:∀ q∈J.ab a.W,q=b→False
 ia:∀ q∈J.ab a.K,q=b→False
 jd:∀ q∈J.ab a.G,q=b→False
 je:∀ q∈J.ab a.H,q=b→False
theorem m7.res {b:Nat} {a:a6.b7} {L:a6} (h:m7 w aA b a L):Ev w aA b a L:=⟨h.fI,h.own.S,h.own.W,h.own.K,h.own.G,lG.of h.own.H,h.own.kb,h.own.jx,h.own.iT,h.own.kO,h.own.j',h.own.jT,h.own.kQ,h.own.ka,h.own.jU,h.own.kP,h.own.nums,h.le,h.bn,h.jw,h.ia,h.jd,h.je⟩
theorem anN {i:Nat} {l:List ByteArray} (h:gi.aK 16 w A c l) (hi:i<l.length):(l.getD i ByteArray.empty).size≤140737488351232:=by
 obtain ⟨_,_,_,_,ess,bN,_⟩:=h;obtain ⟨es,_,cq⟩:=bN.at_ (dt (u:=ByteArray.empty) hi);exact cq.2
def kA (S:List ByteArray):List ByteArray→List Int→List ByteArray×List Int
 | g, []=>(g, [])
 | g,h::r=>if h=(g.length:Int) then kA S (g++ [S.getD h.toNat ByteArray.empty]) r else (g,h::r)
def v_ (l:List Int) (x:Int):List Int:=l.take (AE l x)++x::l.drop (AE l x)
def a6.comes (L:a6) (n:Int):a6 :=
 if (L.got.length:Int)<n∧¬ n∈L.held then {L with held:=v_ L.held n,bV:=L.bV++ [(L.got.length:Int)]}
 else if n=(L.got.length:Int) then {L with got:=(kA L.bC (L.got++ [L.bC.getD n.toNat ByteArray.empty]) L.held).1,held:=(kA L.bC (L.got++ [L.bC.getD n.toNat ByteArray.empty]) L.held).2,bV:=L.bV++ [((kA L.bC (L.got++ [L.bC.getD n.toNat ByteArray.empty]) L.held).1.length:Int)]}
 else {L with bV:=L.bV++ [(L.got.length:Int)]}
section
variable {L:a6} {n:Int} {S G:List ByteArray} {r:List Int} {k:Nat}
theorem awu (h:(decide ((L.got.length:Int)<n) && !(L.held.contains n))=true):L.comes n= {L with held:=v_ L.held n,bV:=L.bV++ [(L.got.length:Int)]}:=by
 unfold a6.comes;rw [aYq (by simpa using h)]
theorem awt (h:(decide ((L.got.length:Int)<n) && !(L.held.contains n))=false) (τ:n=(L.got.length:Int)) (hf:kA L.bC (L.got++ [L.bC.getD n.toNat ByteArray.empty]) L.held=(G,r)):L.comes n= {L with got:=G,held:=r,bV:=L.bV++ [(G.length:Int)]}:=by
 unfold a6.comes;rw [aYi (by intro eI;rw [aZ7] at h;rcases h with h | h<;>simp_all),aYq τ,hf]
theorem awv (h:(decide ((L.got.length:Int)<n) && !(L.held.contains n))=false) (τ:¬ n=(L.got.length:Int)):L.comes n= {L with bV:=L.bV++ [(L.got.length:Int)]}:=by
 unfold a6.comes;rw [aYi (by intro eI;rw [aZ7] at h;rcases h with h | h<;>simp_all),aYi τ]
theorem azG (aG:0<r.length) (h:r.getD 0 0=(G.length:Int)):kA S (G++ [S.getD (r.getD 0 0).toNat ByteArray.empty]) (r.drop 1)=kA S G r:=by
 cases r with
 | nil=>simp at aG
 | cons y r=>simp only [bbN] at h;simp only [bbO,baB,bbN,kA,aYq h]
theorem azF (h:r.length=0∨¬ r.getD 0 0=(G.length:Int)):kA S G r=(G,r):=by
 cases r with
 | nil=>rfl
 | cons y r =>
  rcases h with h | h
  ·simp at h
  ·simp only [bbN] at h;simp only [kA,aYi h]
end
theorem aFl (w0:World) (b:Nat) (a:a6.b7) (L:a6) (k:Nat) (w:World) (fg:Ext w0 w) (ah:m7 w w0.heap.size b a L) (uO:L.MY) (hs:L.held.Pairwise (· ≤ ·)) (A_:∀ y∈L.held,0≤y∧y<(L.bC.length:Int)) (ak:k<L.bC.length) (TB:L.bV.length<1000) (aki:L.held.length≤200):
  Calls prog 82 #[.pointer (bA b),Φ (k:Int)] w (λ e w'=>∃ a',e= .returned (.tuple #[])∧Ev w' w0.heap.size b a' (L.comes (k:Int))∧(∀ q∈iV a',q∈jG b a∨w.heap.size≤q)∧Mod (jG b a) w w'):=by
 have aI:=ah.fI;have Ol:=ah.le;have LF:=aI.lt;have cZ:=ah.own.S;have ed:=ah.own.W;have dB:=ah.own.K;have ct:=ah.own.G;have c_:=ah.own.H;have yb:=bM cZ.lt;have DG:=bM ed.lt;have I6:=bM dB.lt;have LR:=bM ct.lt;have LS:=bM c_.lt;have aix:=cZ.has.fa;have S2:=ct.has.fa;have Sf:=cZ.1;have Sd:=ct.1;have C2:=abM ah;have Ij:=b8.1 ah.own.nums.1;have Bb:=b8.1 ah.own.nums.2.1;have FB:=b8.1 ah.own.nums.2.2;obtain ⟨zB,ru,oj,pz,n5,n6,n7,acq,acr,aco,acp⟩:=uO;refine ch (n:=125) func82 Z Z Z ?_;refine av<|aB Z<|aa (bx Z)<|aa (aj s7 Z)<|bk Z aI c8 Z<|vm Z<|cM ayT Z (auY _ _ L.held (k:Int) _ c_.has hs) λ cG dS=> ?_;have:=dS.size;have de:=(Mod.cH (jG b a) w).trans (Mod.a8 dS);refine vm Z<|bs Z Z<|bs Z Z<|va Z<|aJ Z<|bJ<|aB Z<|vm Z<|aa (bx Z)<|aa (aj r6 Z)<| ?_;have aI:=aI.later dS;refine bk Z aI kz Z<|aa (b5 underlying45 Z)<|aa (gO Z Z)<|vm Z<|ec Z Z<|bh Z (λ hc=>dJ (gt hc Z))<|aa (ei Z Z Z Z)<|aJ Z<| ?_;refine du Z (λ q1=> ?_) (λ q1=> ?_)
 ·refine rg<|vm Z<|vm Z<|aa (bx Z)<|aa (aj s7 Z)<|bk Z aI c8 Z<|vm Z<|vm Z<|c7 (e:= 3) (cs:= [Φ (k:Int)]) Z (λ _=>by kernel_rfl) Z λ VZ auI rJ aT4 afh=> ?_;have vx:=de.trans (Mod.a8 rJ);have aIe:=afh.lt;have c_:=c_.later (γ dS rJ);have NG:∀ q∈J.ab a.H,q=auI→False:=λ q I ag=>by (have:=LS q I;omega)
  refine ca ayU Z Z ((aEr w0 _ _ (AE L.held (k:Int)) _ L.held (k:Int) _ (Ext.mod fg vx C2) c_ (ags _ _) (by omega) (b8.2 (by omega)) afh NG).mono ?_);rintro e hG ⟨aqX,avz,rfl,JY,CP,sv⟩;refine cu ?_;have:=sv.size;have c6:=vx.md sv (λ q I=> .inl (Bd I));have Gf:=bM JY.lt;refine aa (bx Z)<|aa (aj s7 Z)<| ?_;have aI:=(aI.later rJ).mod sv (λ I=>ah.je _ I rfl);refine dU Z Z aI Z nH Z Z λ Gq tK aI=> ?_;have:=tK.size;have m4:=c6.md tK lr;refine nl<|b1<|aX<| ?_;refine cO [(4,0),(8,0),(10,2),(11,3),(14,3)] [0,1,2,3,4,5,6,7,8,9,10,11,12,13,14] ?_;refine a1 Z Z<|a1 Z Z<|aq Z (λ _=>bx Z)<|aq Z (λ _=>aj r5 Z)<|cf Z Z aI c8 Z<|a1 Z Z<|aq Z (λ _=>bx Z)<|aq Z (λ _=>aj r6 Z)<|cf Z Z aI kz Z<|aq Z (λ _=>b5 underlying45 Z)<|ff Z Z Z λ zT ik Q hK=>c7 (e:= 3) (cs:= [Φ (L.got.length:Int)]) Z (λ _=>by kernel_rfl) Z λ vh auG fp aE2 GU=>hK _ _ ⟨γ ik fp, ?_⟩;have:=ik.size;have k3:=m4.trans (Mod.a8 ik);have ks:=k3.trans (Mod.a8 fp);have aV6:=GU.lt;have dB:=(((dB.later (γ dS rJ)).mod sv (cQ ah.own.jU)).mod tK (bl ah.ia)).later (γ ik fp);refine dE Z Z Z λ ud dH Q hK=>ap Xn J.dQ (dB.later dH) ((aM.gu (R:=bu) (by_:=8) (q:=(L.got.length:Int)) GU ⟨Z,cN⟩ (by decide)).keep dH) Z Z (by simp only [aX9,aYc,aYh];omega) (by simp only [aX9,aYc,aYh];omega) (by have:=dH.size;omega) Z λ wF ari Hu og XF HS aU5=>hK _ _ ?_;have:=dH.size;have hI:=ks.trans (Mod.a8 dH);have mf:=hI.md og (λ q I=> .inl (uT I));refine aq Z (λ _=>bx Z)<|aq Z (λ _=>aj r5 Z)<| ?_;have aI:=(aI.later (γ ik (γ fp dH))).mod og (λ I=>ah.ia _ I rfl);refine dE Z Z Z λ Qn k0 Q hK=>dU Z Z (aI.later k0) Z nH Z Z λ L4 kX aI=>hK _ _ ?_;have qz:=mf.trans (Mod.a8 k0);have rO:=qz.md kX lr;refine fn λ L6 kp=> ?_;have wP:=rO.trans (Mod.a8 kp);refine ne<|cz .nil<| ?_;have aI:=aI.later kp;have dA:=nw (kW k0 kX) kp;have cZ:=(((((cZ.later (γ dS rJ)).mod sv (cQ ah.own.kQ)).mod tK (bl ah.bn)).later (γ ik (γ fp dH))).mod og (cQ ah.own.jx)).mod dA (bl ah.bn);have ed:=(((((ed.later (γ dS rJ)).mod sv (cQ ah.own.ka)).mod tK (bl ah.jw)).later (γ ik (γ fp dH))).mod og (cQ ah.own.iT)).mod dA (bl ah.jw);have XF:=XF.mod dA (bl λ q I ag=>aYC (HS q I) (λ Pp=>by (exact ah.ia q Pp ag)) (λ Pp=>by omega));have ct:=(((((ct.later (γ dS rJ)).mod sv (cQ ah.own.kP)).mod tK (bl ah.jd)).later (γ ik (γ fp dH))).mod og ah.own.jT).mod dA (bl ah.jd);have JY:=(((JY.mod tK (bl λ q I ag=>aYC (CP q I) (λ Pq=>by (exact ah.je q Pq ag)) (λ Pq=>by omega))).later (γ ik (γ fp dH))).mod og (hh CP ah.own.jU I6)).mod dA (bl λ q I ag=>aYC (CP q I) (λ amj=>by (exact ah.je q amj ag)) (λ amj=>by omega));have aNl:∀ q∈J.ab a.K,q∈(jG b a)∨w.heap.size≤q:=(λ q I=> .inl (uT I));have aNm:∀ q∈J.ab a.H,q∈(jG b a)∨w.heap.size≤q:=(λ q I=> .inl (Bd I));exact ⟨⟨a.S,a.W,ari,a.G,aqX,a.s,a.w,Hu,a.g,avz⟩,Z,by rw [awu q1];exact ⟨aI,cZ,ed,XF,ct,(lG.of JY),ah.own.kb,(hh HS ah.own.jx yb),(hh HS ah.own.iT DG),ah.own.kO,ah.own.j',(cQ (hh HS (cQ ah.own.jT) LR)),(hh CP ah.own.kQ yb),(hh CP ah.own.ka DG),(λ q κ τ=>by (exact aYC (HS q τ) (λ abE=>by (exact aYC (CP q κ) (λ aml=>by (exact ah.own.jU q aml abE)) (λ aml=>by (have:=I6 q abE;omega)))) (λ abE=>by (have:=Gf q κ;omega)))),(hh CP ah.own.kP LR),⟨cN,cN,cN⟩,ah.le,ah.bn,ah.jw,(fJ HS ah.ia),ah.jd,(fJ CP ah.je)⟩,(Dj (λ q I=> .inl (Be I)) (λ q I=> .inl (xH I)) (λ q I=>(HS q I).elim (aNl q) (λ h=> .inr (by omega))) (λ q I=> .inl (Bc I)) (λ q I=>(CP q I).elim (aNm q) (λ h=> .inr (by omega)))),wP⟩
 ·refine aB Z<|vm Z<|aa (bx Z)<|aa (aj r6 Z)<|bk Z aI kz Z<|aa (b5 underlying45 Z)<|aa (beq Z Z)<|aJ Z<| ?_;refine iE Z (λ CY=> ?_) (λ CY=> ?_)
  ·refine av<| ?_;refine cO [(4,0),(8,0),(11,0),(12,2),(13,3),(16,3)] [0,1,2,3,4,5,6,7,8,9,10,11,12,13,14,15,16] ?_;refine a1 Z Z<|a1 Z Z<|aq Z (λ _=>bx Z)<|aq Z (λ _=>aj r6 Z)<|cf Z Z aI kz Z<|a1 Z Z<|aq Z (λ _=>bx Z)<|aq Z (λ _=>aj pb Z)<|cf Z Z aI kz Z<|a1 Z Z<| ?_;have cZ:=cZ.later dS;refine aq Z (λ _=>cl k underlying45 E5 Z Z (cZ.has.bT (aV k)) Z (by omega))<|dT Z (λ _ x=>ax Z (J.aK.fh KP ((cZ.later x).has.cD (aV k)) (dt (l:=L.bC) (u:=ByteArray.empty) (by omega)) Z HJ))<|ff Z Z Z λ L' iN Q hK=>c7 (e:= 9) (cs:= [.string (L.bC.getD k ByteArray.empty)]) Z (λ _=>by kernel_rfl) Z λ Ma auK gz aFc My=>hK _ _ ⟨γ iN gz, ?_⟩;have:=iN.size;have uo:=de.trans (Mod.a8 iN);have uq:=uo.trans (Mod.a8 gz);have aIw:=My.lt;have ct:=ct.later (γ dS (γ iN gz));refine dE Z Z Z λ V4 gT Q hK=>ap afJ Vg (ct.later gT) ((aM.gu (R:=gi) (by_:=16) (q:=L.bC.getD k ByteArray.empty) My ⟨Z,(anN cZ.has (by omega))⟩ (by decide)).keep gT) Z Z (by simp only [aX9,aYc,aYh];omega) (by simp only [aX9,aYc,aYh];omega) (by have:=gT.size;omega) Z λ DQ WS Yp kh Hg CS aGC=>hK _ _ ?_;have:=gT.size;have ur:=uq.trans (Mod.a8 gT);have m5:=ur.md kh (λ q I=> .inl (Bc I));refine aq Z (λ _=>bx Z)<|aq Z (λ _=>aj r6 Z)<| ?_;have aI:=(aI.later (γ iN (γ gz gT))).mod kh (λ I=>ah.jd _ I rfl);refine dE Z Z Z λ Ji kL Q hK=>dU Z Z (aI.later kL) Z NT Z Z λ ad5 ab9 aI=>hK _ _ ?_;have sL:=m5.trans (Mod.a8 kL);have JA:=sL.md ab9 lr;refine fn λ Gn BJ=> ?_;have D3:=JA.trans (Mod.a8 BJ);refine aX<|bJ<| ?_;have aI:=aI.later BJ;have gG:=nw (kW kL ab9) BJ;have Hg:=Hg.mod gG (bl λ q I ag=>aYC (CS q I) (λ Pd=>by (exact ah.jd q Pd ag)) (λ Pd=>by omega));have c_:=((c_.later (γ dS (γ iN (γ gz gT)))).mod kh ah.own.kP).mod gG (bl ah.je);have aNh:∀ q∈J.ab a.G,q∈(jG b a)∨w.heap.size≤q:=(λ q I=> .inl (Bc I));have po:=nw (kW kL ab9) BJ;have cZ:=((cZ.later (γ iN (γ gz gT))).mod kh (cQ ah.own.kO)).mod po (bl ah.bn);have ed:=((ed.later (γ dS (γ iN (γ gz gT)))).mod kh (cQ ah.own.j')).mod po (bl ah.jw);have dB:=((dB.later (γ dS (γ iN (γ gz gT)))).mod kh (cQ ah.own.jT)).mod po (bl ah.ia);refine eV (λ cp cn aP=>∃ G:List ByteArray,∃ r:List Int,∃ cb:Option Addr,∃ c1:Nat,∃ cv:Option Addr,∃ hc:Nat,cn= [(0, .pointer (bA b))]∧cp=r.length∧Mod (jG b a) w aP∧gi.aF 9 16 aP w0.heap.size (J.ab (a.S)) (a.S) a.s (L.bC)∧bu.aF 3 8 aP w0.heap.size (J.ab (a.W)) (a.W) a.w (L.way)∧bu.aF 3 8 aP w0.heap.size (J.ab (a.K)) (a.K) a.k (L.bV)∧aM aP b [Φ L.b', .slice a.S L.bC.length a.s,Φ L.base,Φ L.next, .slice a.W L.way.length a.w, .slice a.K L.bV.length a.k, .slice cb G.length c1, .slice cv r.length hc] 79 (0,0)∧gi.aF 9 16 aP w0.heap.size (J.ab (cb)) (cb) c1 (G)∧lG aP w0.heap.size (cv) hc (r)∧(kA L.bC G r=kA L.bC (L.got++ [L.bC.getD k ByteArray.empty]) L.held)∧(∀ y∈r,0≤y∧y<(L.bC.length:Int))∧(G.length≤L.bC.length)∧(∀ q∈J.ab cb,q∈jG b a∨w.heap.size≤q)∧(∀ q∈J.ab cv,q∈jG b a∨w.heap.size≤q)∧(∀ q∈J.ab cb,q=b→False)∧(∀ q∈J.ab cb,q∈J.ab a.S→False)∧(∀ q∈J.ab cb,q∈J.ab a.W→False)∧(∀ q∈J.ab cb,q∈J.ab a.K→False)∧(∀ q∈J.ab cv,q=b→False)∧(∀ q∈J.ab cv,q∈J.ab a.S→False)∧(∀ q∈J.ab cv,q∈J.ab a.W→False)∧(∀ q∈J.ab cv,q∈J.ab a.K→False)∧(∀ q∈J.ab cv,q∈J.ab cb→False)) _ _ ⟨(L.got++ [L.bC.getD k ByteArray.empty]),L.held,WS,Yp,a.H,a.h,Z,Z,D3,cZ,ed,dB,aI,Hg,(lG.of c_),Z,A_,(by rw [aX9,aYr];omega),(λ q I=>(CS q I).elim (aNh q) (λ h=> .inr (by omega))),(λ q I=> .inl (Bd I)),(fJ CS ah.jd),(hh CS ah.own.kO yb),(hh CS ah.own.j' DG),(hh CS ah.own.jT I6),ah.je,ah.own.kQ,ah.own.ka,ah.own.jU,(cQ (hh CS (cQ ah.own.kP) LS))⟩ (qp Z) ?_;rintro UE aNY aLr ⟨G,r,cb,c1,cv,hc,rfl,rfl,Wt,cZ,ed,dB,cC,Hd,vI,hf,K2,bP,Jt,aqv,xk,Su,Yy,AL,Cu,NC,ND,yW,vO⟩;have:=Wt.size;have tW:=bM cZ.lt;have yc:=bM ed.lt;have BC:=bM dB.lt;have aVJ:=cC.lt;have aKz:=bM Hd.lt;have I7:=bM vI.lt;refine av<|av<| ?_;refine cO [(3,0),(10,0),(12,0),(16,0)] [0,1,2,3,4,5,6,7,8,9,10,11,12,13,14,15,16,17,18,19] ?_;refine a1 Z Z<|aq Z (λ _=>bx Z)<|aq Z (λ _=>aj s7 Z)<|cf Z Z cC c8 Z<|aq Z (λ _=>b5 underlying22 Z)<|aq Z (λ _=>gO Z Z)<|a1 Z Z<|fy Z Z Z<|b0 Z Z (λ hc _=>bx (gt hc Z))<|b0 Z Z (λ hc _=>aj s7 (gt hc Z))<|dL Z Z (λ hc _ x=>ax (gt hc Z) ((cC.later x).one c8 Z))<|b0 Z Z (λ hc _=>cl 0 underlying22 dg (gt hc Z) Z (vI.has.bT (aV 0 (by (try simp only [bn] at hc);omega))) Z (by (try simp only [bn] at hc);omega))<|dL Z Z (λ hc _ x=>ax (gt hc Z) (J.aK.fh fY ((vI.later x).has.cD (aV 0 (by (try simp only [bn] at hc);omega))) (dt (l:=r) (u:=0) (by (try simp only [bn] at hc);omega)) Z aT))<|fy Z Z Z<|b0 Z Z (λ hc _=>bx (gt hc Z))<|b0 Z Z (λ hc _=>aj r6 (gt hc Z))<|dL Z Z (λ hc _ x=>ax (gt hc Z) ((cC.later x).one kz Z))<|b0 Z Z (λ hc _=>b5 underlying45 (gt hc Z))<|b0 Z Z (λ hc _=>beq (gt hc Z) (gt hc Z))<|aq Z (λ _=>ei Z Z Z Z)<|fn λ aLw pM=> ?_;have:=pM.size;have Wv:=Wt.trans (Mod.a8 pM);refine aX<| ?_;refine du Z (λ Tv=> ?_) (λ Tv=> ?_)
   ·have aG:0<r.length:=by have:=(ba3.1 Tv).1;simpa using this
    have eI:r.getD 0 0=(G.length:Int):=by have:=(ba3.1 Tv).2;simpa using this
    have aRL:=K2 _ (jk (d:=0) aG);refine bm<|bJ<| ?_;refine P0 (J.ab cb) [(5,0),(9,0),(13,0),(15,0),(17,0),(18,2),(19,2),(23,0),(27,3),(30,3)] [0,1,2,3,4,5,6,7,8,9,10,11,12,13,14,15,16,17,20,21,22,23,24,18,19,25,26,27,28,29,30] (by kernel_rfl) (by kernel_rfl) ?_;refine fO Z Z (λ _=>gw Z) Z<|fO Z Z (λ _=>gw Z) Z<|fO Z Z (λ _=>gw Z) Z<|fO Z Z (λ _=>bx Z) Z<|fO Z Z (λ _=>aj r6 Z) Z<| ?_;have cC:=cC.later pM;refine r8 Z Z (λ _ x=>ax Z ((cC.mod x (λ I=>xk _ I Z)).one kz Z)) Z<|fO Z Z (λ _=>gw Z) Z<|fO Z Z (λ _=>bx Z) Z<|fO Z Z (λ _=>aj pb Z) Z<|r8 Z Z (λ _ x=>ax Z ((cC.mod x (λ I=>xk _ I Z)).one kz Z)) Z<|fO Z Z (λ _=>gw Z) Z<|fO Z Z (λ _=>bx Z) Z<|fO Z Z (λ _=>aj s7 Z) Z<|r8 Z Z (λ _ x=>ax Z ((cC.mod x (λ I=>xk _ I Z)).one c8 Z)) Z<| ?_;have vI:=vI.later pM;refine fO Z Z (λ _=>cl 0 underlying22 dg Z Z (vI.has.bT (aV 0)) Z (by omega)) Z<|r8 Z Z (λ _ x=>ax Z (J.aK.fh fY ((vI.mod x vO).has.cD (aV 0)) (dt (l:=r) (u:=0) (by omega)) Z aT)) Z<| ?_;have cZ:=cZ.later pM;refine fO Z Z (λ _=>cl ((r.getD 0 0).toNat) underlying45 E5 Z Z (cZ.has.bT (aV ((r.getD 0 0).toNat))) (by omega) (by omega)) Z<|r8 Z Z (λ _ x=>ax Z (J.aK.fh KP ((cZ.mod x (cQ Su)).has.cD (aV ((r.getD 0 0).toNat))) (dt (l:=L.bC) (u:=ByteArray.empty) (by omega)) Z HJ)) Z<|fO Z Z (λ _=>gw Z) Z<|fO Z Z (λ _=>bx Z) Z<|fO Z Z (λ _=>aj s7 Z) Z<|r8 Z Z (λ _ x=>ax Z ((cC.mod x (λ I=>xk _ I Z)).one c8 Z)) Z<|fO Z Z (λ _=>Vm 1 underlying22 dg Z Z Z (by omega)) Z<|CN Z Z Z λ aXi DW Q hK=>c7 (e:= 9) (cs:= [.string (L.bC.getD ((r.getD 0 0).toNat) ByteArray.empty)]) Z (λ _=>by kernel_rfl) Z λ ap1 aPm GC aTu aeY=>hK _ _ ⟨Mod.a8 (γ DW GC), ?_⟩;have:=DW.size;have aMC:=Wv.trans (Mod.a8 DW);have QK:=aMC.trans (Mod.a8 GC);have aVO:=aeY.lt;have Hd:=Hd.later (γ pM (γ DW GC));refine CN Z Z Z λ aXk zZ Q hK=>ap afJ Vg (Hd.later zZ) ((aM.gu (R:=gi) (by_:=16) (q:=L.bC.getD ((r.getD 0 0).toNat) ByteArray.empty) aeY ⟨Z,(anN cZ.has (by omega))⟩ (by decide)).keep zZ) Z Z (by simp only [aX9,aYc,aYh];omega) (by simp only [aX9,aYc,aYh];omega) (by have:=zZ.size;omega) Z λ aLz aq3 avE uX Xz E9 aUP=>hK _ _ ⟨(Mod.a8 zZ).trans uX, ?_⟩;have:=zZ.size;have aMD:=QK.trans (Mod.a8 zZ);have aer:=aMD.md uX Jt;refine fO Z Z (λ _=>bx Z) Z<|fO Z Z (λ _=>aj r6 Z) Z<| ?_;have cC:=(cC.later (γ DW (γ GC zZ))).mod uX (λ I=>xk _ I rfl);refine N0 Z Z Z λ aLA QA Q hK=>dU Z Z (cC.later QA) Z NT Z Z λ ap6 UJ cC=>hK _ _ ?_;have Ww:=aer.trans (Mod.a8 QA);have QN:=Ww.md UJ lr;refine fO Z Z (λ _=>bx Z) Z<|fO Z Z (λ _=>aj s7 Z) Z<|N0 Z Z Z λ aLC yh Q hK=>dU Z Z (cC.later yh) Z nH Z Z λ aXs Dn cC=>hK _ _ ?_;have aeu:=QN.trans (Mod.a8 yh);have aML:=aeu.md Dn lr;refine N1 λ aLD vq=> ?_;have aev:=aML.trans (Mod.a8 vq);refine b1<| ?_;have vI:=((((((vI.later (γ DW (γ GC zZ))).mod uX vO).later QA).mod UJ (bl Cu)).later yh).mod Dn (bl Cu)).later vq;have atT:=vI.cut aG;have aNi:∀ q∈J.ab cb,q∈(jG b a)∨w.heap.size≤q:=Jt;have zq:=nw ((kW QA UJ).trans (kW yh Dn)) vq;have cZ:=((cZ.later (γ DW (γ GC zZ))).mod uX (cQ Su)).mod zq (bl ah.bn);have ed:=((ed.later (γ pM (γ DW (γ GC zZ)))).mod uX (cQ Yy)).mod zq (bl ah.jw);have dB:=((dB.later (γ pM (γ DW (γ GC zZ)))).mod uX (cQ AL)).mod zq (bl ah.ia);have cC:=cC.later vq;have PC:=nw (kW yh Dn) vq;have Xz:=((Xz.later QA).mod UJ (bl λ q I ag=>aYC (E9 q I) (λ FK=>by (exact xk q FK ag)) (λ FK=>by omega))).mod PC (bl λ q I ag=>aYC (E9 q I) (λ alM=>by (exact xk q alM ag)) (λ alM=>by omega));exact om _ _ ⟨G++ [L.bC.getD ((r.getD 0 0).toNat) ByteArray.empty],r.drop 1,aq3,avE,eF cv hc 1 1,hc - 1,Z,Z,aev,cZ,ed,dB,(by rw [aYs];exact cC),Xz,atT,(azG aG eI).trans hf,λ y aE=>K2 y (aZw aE),(by rw [aX9,aYr];omega),(λ q I=>(E9 q I).elim (aNi q) (λ h=> .inr (by omega))),(λ q I=>aqv q (F8 I)),(fJ E9 xk),(λ q I ag=>by (exact aYC (E9 q I) (λ Pg=>by (exact Su q Pg ag)) (λ Pg=>by (have:=tW q ag;have:=yb q ag;omega)))),(λ q I ag=>by (exact aYC (E9 q I) (λ Ph=>by (exact Yy q Ph ag)) (λ Ph=>by (have:=yc q ag;have:=DG q ag;omega)))),(λ q I ag=>by (exact aYC (E9 q I) (λ Pj=>by (exact AL q Pj ag)) (λ Pj=>by (have:=BC q ag;have:=I6 q ag;omega)))),(λ q I ag=>by (exact Cu q (F8 I) ag)),(λ q I ag=>by (exact NC q (F8 I) ag)),(λ q I ag=>by (exact ND q (F8 I) ag)),(λ q I ag=>by (exact yW q (F8 I) ag)),(λ q I ag=>by (exact aYC (E9 q ag) (λ Pk=>by (exact vO q (F8 I) Pk)) (λ Pk=>by (have:=I7 q (F8 I);omega))))⟩ (by rw [aYs];omega) (qp Z)
   ·have hex:r.length=0∨¬ r.getD 0 0=(G.length:Int):=(aZ7.1 Tv).elim (λ h=> .inl (by simpa using h)) (λ h=> .inr (by simpa using h));refine dn<|dk<|dG<|dj<|b1<|aX<| ?_;refine cO [(4,0),(8,0),(10,2),(11,3),(14,3)] [0,1,2,3,4,5,6,7,8,9,10,11,12,13,14] ?_;refine a1 Z Z<|a1 Z Z<|aq Z (λ _=>bx Z)<|aq Z (λ _=>aj r5 Z)<| ?_;have cC:=cC.later pM;refine cf Z Z cC c8 Z<|a1 Z Z<|aq Z (λ _=>bx Z)<|aq Z (λ _=>aj r6 Z)<|cf Z Z cC kz Z<|aq Z (λ _=>b5 underlying45 Z)<|ff Z Z Z λ aLF pN Q hK=>c7 (e:= 3) (cs:= [Φ (G.length:Int)]) Z (λ _=>by kernel_rfl) Z λ aLG aPw GF aTE ae4=>hK _ _ ⟨γ pN GF, ?_⟩;have:=pN.size;have aew:=Wv.trans (Mod.a8 pN);have aex:=aew.trans (Mod.a8 GF);have aVY:=ae4.lt;have dB:=dB.later (γ pM (γ pN GF));refine dE Z Z Z λ aLI BK Q hK=>ap Xn J.dQ (dB.later BK) ((aM.gu (R:=bu) (by_:=8) (q:=(G.length:Int)) ae4 ⟨Z,cN⟩ (by decide)).keep BK) Z Z (by simp only [aX9,aYc,aYh];omega) (by simp only [aX9,aYc,aYh];omega) (by have:=BK.size;omega) Z λ aXB aq9 avK Lg XC HP aUY=>hK _ _ ?_;have:=BK.size;have aez:=aex.trans (Mod.a8 BK);have aMT:=aez.md Lg (λ q I=> .inl (uT I));refine aq Z (λ _=>bx Z)<|aq Z (λ _=>aj r5 Z)<| ?_;have cC:=(cC.later (γ pN (γ GF BK))).mod Lg (λ I=>ah.ia _ I rfl);refine dE Z Z Z λ aXF aed Q hK=>dU Z Z (cC.later aed) Z nH Z Z λ aXH ane cC=>hK _ _ ?_;have aMW:=aMT.trans (Mod.a8 aed);have aMY:=aMW.md ane lr;refine fn λ aXJ aee=> ?_;have aM0:=aMY.trans (Mod.a8 aee);refine ne<|cz .nil<| ?_;have cC:=cC.later aee;have PD:=nw (kW aed ane) aee;have cZ:=((cZ.later (γ pM (γ pN (γ GF BK)))).mod Lg (cQ ah.own.jx)).mod PD (bl ah.bn);have ed:=((ed.later (γ pM (γ pN (γ GF BK)))).mod Lg (cQ ah.own.iT)).mod PD (bl ah.jw);have XC:=XC.mod PD (bl λ q I ag=>aYC (HP q I) (λ Pl=>by (exact ah.ia q Pl ag)) (λ Pl=>by omega));have Hd:=((Hd.later (γ pM (γ pN (γ GF BK)))).mod Lg AL).mod PD (bl xk);have vI:=((vI.later (γ pM (γ pN (γ GF BK)))).mod Lg yW).mod PD (bl Cu);have aNj:∀ q∈J.ab a.K,q∈(jG b a)∨w.heap.size≤q:=(λ q I=> .inl (uT I));exact ⟨⟨a.S,a.W,aq9,cb,cv,a.s,a.w,avK,c1,hc⟩,Z,by rw [awt q1 (by simpa using CY) ((show kA L.bC (L.got++ [L.bC.getD ((k:Int)).toNat ByteArray.empty]) L.held=_ from hf.symm).trans (azF hex))];exact ⟨cC,cZ,ed,XC,Hd,vI,ah.own.kb,(λ q κ τ=>by (exact aYC (HP q κ) (λ alX=>by (exact ah.own.jx q alX τ)) (λ alX=>by (have:=tW q τ;have:=yb q τ;omega)))),(λ q κ τ=>by (exact aYC (HP q κ) (λ Pm=>by (exact ah.own.iT q Pm τ)) (λ Pm=>by (have:=yc q τ;have:=DG q τ;omega)))),Su,Yy,(cQ (hh HP (cQ AL) aKz)),NC,ND,(cQ (hh HP (cQ yW) I7)),vO,⟨cN,cN,cN⟩,ah.le,ah.bn,ah.jw,(fJ HP ah.ia),xk,Cu⟩,(Dj (λ q I=> .inl (Be I)) (λ q I=> .inl (xH I)) (λ q I=>(HP q I).elim (aNj q) (λ h=> .inr (by omega))) Jt aqv),aM0⟩
  ·refine fu<|b1<|aX<| ?_;refine cO [(4,0),(8,0),(10,2),(11,3),(14,3)] [0,1,2,3,4,5,6,7,8,9,10,11,12,13,14] ?_;refine a1 Z Z<|a1 Z Z<|aq Z (λ _=>bx Z)<|aq Z (λ _=>aj r5 Z)<|cf Z Z aI c8 Z<|a1 Z Z<|aq Z (λ _=>bx Z)<|aq Z (λ _=>aj r6 Z)<|cf Z Z aI kz Z<|aq Z (λ _=>b5 underlying45 Z)<|ff Z Z Z λ aXP DY Q hK=>c7 (e:= 3) (cs:= [Φ (L.got.length:Int)]) Z (λ _=>by kernel_rfl) Z λ aLK aPA GI aTI ae8=>hK _ _ ⟨γ DY GI, ?_⟩;have:=DY.size;have aM6:=de.trans (Mod.a8 DY);have aeA:=aM6.trans (Mod.a8 GI);have aIl:=ae8.lt;have dB:=dB.later (γ dS (γ DY GI));refine dE Z Z Z λ aXQ BL Q hK=>ap Xn J.dQ (dB.later BL) ((aM.gu (R:=bu) (by_:=8) (q:=(L.got.length:Int)) ae8 ⟨Z,cN⟩ (by decide)).keep BL) Z Z (by simp only [aX9,aYc,aYh];omega) (by simp only [aX9,aYc,aYh];omega) (by have:=BL.size;omega) Z λ aXR arf avO Lj XD HQ aU1=>hK _ _ ?_;have:=BL.size;have aM7:=aeA.trans (Mod.a8 BL);have aM8:=aM7.md Lj (λ q I=> .inl (uT I));refine aq Z (λ _=>bx Z)<|aq Z (λ _=>aj r5 Z)<| ?_;have aI:=(aI.later (γ DY (γ GI BL))).mod Lj (λ I=>ah.ia _ I rfl);refine dE Z Z Z λ aLL aef Q hK=>dU Z Z (aI.later aef) Z nH Z Z λ aXW anf aI=>hK _ _ ?_;have Wz:=aM8.trans (Mod.a8 aef);have aNb:=Wz.md anf lr;refine fn λ aLM sF=> ?_;have aeB:=aNb.trans (Mod.a8 sF);refine ne<|cz .nil<| ?_;have aI:=aI.later sF;have PE:=nw (kW aef anf) sF;have cZ:=((cZ.later (γ dS (γ DY (γ GI BL)))).mod Lj (cQ ah.own.jx)).mod PE (bl ah.bn);have ed:=((ed.later (γ dS (γ DY (γ GI BL)))).mod Lj (cQ ah.own.iT)).mod PE (bl ah.jw);have XD:=XD.mod PE (bl λ q I ag=>aYC (HQ q I) (λ amd=>by (exact ah.ia q amd ag)) (λ amd=>by omega));have ct:=((ct.later (γ dS (γ DY (γ GI BL)))).mod Lj ah.own.jT).mod PE (bl ah.jd);have c_:=((c_.later (γ dS (γ DY (γ GI BL)))).mod Lj ah.own.jU).mod PE (bl ah.je);have aNk:∀ q∈J.ab a.K,q∈(jG b a)∨w.heap.size≤q:=(λ q I=> .inl (uT I));exact ⟨⟨a.S,a.W,arf,a.G,a.H,a.s,a.w,avO,a.g,a.h⟩,Z,by rw [awv q1 (by simpa using CY)];exact ⟨aI,cZ,ed,XD,ct,(lG.of c_),ah.own.kb,(hh HQ ah.own.jx yb),(hh HQ ah.own.iT DG),ah.own.kO,ah.own.j',(cQ (hh HQ (cQ ah.own.jT) LR)),ah.own.kQ,ah.own.ka,(cQ (hh HQ (cQ ah.own.jU) LS)),ah.own.kP,⟨cN,cN,cN⟩,ah.le,ah.bn,ah.jw,(fJ HQ ah.ia),ah.jd,ah.je⟩,(Dj (λ q I=> .inl (Be I)) (λ q I=> .inl (xH I)) (λ q I=>(HQ q I).elim (aNk q) (λ h=> .inr (by omega))) (λ q I=> .inl (Bc I)) (λ q I=> .inl (Bd I))),aeB⟩
end
structure sP where
 kind:Int
 at_:Int
 keep:Bool
 text:ByteArray
 deriving DecidableEq,Inhabited
namespace sP
def cells (a:sP):List Value:= [.int .i64 (a.kind), .int .i64 (a.at_), .bool (a.keep), .string (a.text)]
def ok (a:sP):Prop:=(Lit.int .i64 a.kind).wf=true∧(Lit.int .i64 a.at_).wf=true∧a.text.size≤140737488351232
def raw (j:Nat) (u:Value):Prop:=match j with
 | 0 | 1=>∃ n:Int,u= .int .i64 n
 | 2=>∃ b:Bool,u= .bool b
 | 3=>∃ s:ByteArray,u= .string s
 | _=>True
theorem qQ (a:sP):∀ (j:Nat) u,a.cells[j]? =some u→raw j u:=by
 intro j u hu
 match j,hu with
 | 0,hu | 1,hu | 2,hu | 3,hu=>exact ⟨_,(aYd hu).symm⟩
 | j+4,hu=>exact trivial
theorem qP (a:sP):∀ u∈a.cells,u.oneCell'=true:=by
 intro u hu;unfold cells at hu;simp only [aYk,aZA,baq] at hu;rcases hu with rfl | rfl | rfl | rfl<;>rfl
def rep:J sP:=J.flat 4 cells ok raw (λ _=>rfl) qP qQ
def zero:Value:= .agg #[.int .i64 0, .int .i64 0, .bool false, .string .empty]
def sh:hl:=(.cons (.int .i64) (.cons (.int .i64) (.cons .bool (.cons .str .nil))))
end sP
section
variable {l:List Int} {i:Int}
theorem asK:ez prog gi 45 9 16:=ez.ki (z:= .string .empty) (k:=1) underlying45 Uf rfl rfl (by decide) (λ j u h=>Vf j u h)
def a6.step (L:a6) (x:sP):a6×Int :=
 if x.kind=1 then (if (L.bC.length:Int)=200 then (L,6) else ({L with bC:=L.bC++ [x.text]},0))
 else if x.kind=2 then L.send
 else if x.kind=3 then (if iL L.way x.at_=false then (L,7) else if (L.bV.length:Int)=1000 then (L,6) else (({L with way:=hj L.way x.at_ x.keep}).comes (mC L.way x.at_),0))
 else if x.kind=4 then (if iL L.bV x.at_=false then (L,7) else ({L with bV:=hj L.bV x.at_ x.keep,base:=max L.base (mC L.bV x.at_),next:=max L.next (max L.base (mC L.bV x.at_))},0))
 else if x.kind=5 then (if x.keep=true then (if iL L.bV x.at_=false then (L,7) else ({L with bV:=hj L.bV x.at_ false},0)) else (if iL L.way x.at_=false then (L,7) else ({L with way:=hj L.way x.at_ false},0)))
 else (L,1)
theorem adE (l:List Int) (i:Int) (keep:Bool):(hj l i keep).length≤l.length:=by
 unfold hj;split
 ·rw [aX9,aYa,aYs];omega
 ·exact aYg _
theorem apk {keep:Bool} {y:Int} (h:y∈hj l i keep):y∈l:=by
 unfold hj at h;split at h
 ·rcases aYo.1 h with h | h
  ·exact aZp h
  ·exact aZw h
 ·exact h
theorem adF {lo hi:Int} (h:l.all (λ n=>b9 n lo hi)=true) (ak:iL l i=true):lo≤mC l i∧mC l i≤hi:=by
 unfold mC;rw [aYq ak];have ak:0≤i∧i<(l.length:Int):=by unfold iL at ak;simpa using ak
 exact hV (aYW.1 h _ (jk (by omega)))
theorem aEj:∀ {l:List Int},sg l=true→l.Pairwise (· ≤ ·):=by
 intro l h;have h:=aY6 h;rw [aYV];intro i j hi ay jF;have mono:∀ d,i+d<l.length→l.getD i 0≤l.getD (i+d) 0:=by
  intro d;induction d with
  | zero=>intro _;exact aZl _
  | succ d bL=>intro hd;have:=h (i+d) (by omega);have:=bL (by omega);rw [show i+(d+1)=i+d+1 by omega];omega
 have:=mono (j - i) (by omega);rw [show i+(j - i)=j by omega,l2 hi,l2 ay] at this;exact this
theorem m7.later {w w':World} {aA b:Nat} {a:a6.b7} {L:a6} (h:m7 w aA b a L) (x:Ext w w'):m7 w' aA b a L :=
 ⟨h.fI.later x,⟨h.own.S.later x,h.own.W.later x,h.own.K.later x,h.own.G.later x,h.own.H.later x,h.own.kb,h.own.jx,h.own.iT,h.own.kO,h.own.j',h.own.jT,h.own.kQ,h.own.ka,h.own.jU,h.own.kP,h.own.nums⟩,h.le,h.bn,h.jw,h.ia,h.jd,h.je⟩
theorem aFm (w0:World) (b:Nat) (a:a6.b7) (L:a6) (n:Int) (w:World) (fg:Ext w0 w) (ah:m7 w w0.heap.size b a L) (uO:L.MY) (hs:L.held.Pairwise (· ≤ ·)) (A_:∀ y∈L.held,0≤y∧y<(L.bC.length:Int)) (aG:0≤n) (ak:n<(L.bC.length:Int)) (TB:L.bV.length<1000) (aki:L.held.length≤200):
  Calls prog 82 #[.pointer (bA b),Φ n] w (λ e w'=>∃ a',e= .returned (.tuple #[])∧Ev w' w0.heap.size b a' (L.comes n)∧(∀ q∈iV a',q∈jG b a∨w.heap.size≤q)∧Mod (jG b a) w w'):=by
 obtain ⟨k,rfl⟩:=aZX aG;exact aFl w0 b a L k w fg ah uO hs A_ (by omega) TB aki
theorem aFn (w0:World) (b:Nat) (a:a6.b7) (L:a6) (x:sP) (w:World) (fg:Ext w0 w) (ah:m7 w w0.heap.size b a L) (hc:L.a7=0) (Dc:x.ok):
  Calls prog 43 #[.pointer (bA b), .agg #[Φ x.kind,Φ x.at_, .bool x.keep, .string x.text]] w (λ e w'=>e= .returned (Φ (L.step x).2)∧((L.step x).2=0→∃ a',Ev w' w0.heap.size b a' (L.step x).1∧(∀ q∈iV a',q∈jG b a∨w.heap.size≤q))∧Mod (jG b a) w w'):=by
 have abt:=fg.size;have aI:=ah.fI;have LF:=aI.lt;have cZ:=ah.own.S;have ed:=ah.own.W;have dB:=ah.own.K;have ct:=ah.own.G;have c_:=ah.own.H;have DG:=bM ed.lt;have I6:=bM dB.lt;have LR:=bM ct.lt;have LS:=bM c_.lt;have aix:=cZ.has.fa;have azt:=dB.has.fa;have azs:=c_.has.fa;have Sf:=cZ.1;have avq:=dB.1;have avp:=c_.1;have C2:=abM ah;have Ij:=b8.1 ah.own.nums.1;have Bb:=b8.1 ah.own.nums.2.1;have FB:=b8.1 ah.own.nums.2.2;have uO:=a6.num hc;have aAM:=uO;obtain ⟨zB,ru,oj,pz,n5,n6,n7,acq,acr,aco,acp⟩:=uO;obtain ⟨aQ3,aQ6,az7⟩:=a6.agQ hc;obtain ⟨g1,g2,g3,g4,g5,g6,g7,g8,g9⟩:=a6.ai9 az7;have A_:∀ y∈L.held,0≤y∧y<(L.bC.length:Int):=λ y aE=>by have:=hV (aYW.1 g8 y aE);omega
 refine ch (n:=127) func43 Z Z Z ?_;refine dZ Z Z λ cG bB aR d' ae=> ?_;have de:=(Mod.cH (jG b a) w).trans (Mod.a8 aR);have hE:=ae.lt;refine aJ Z<|av<|aw<|aa (aj ayV Z)<|bk Z ae aT Z<|aC<|bJ<|aw<|aa (beq Z Z)<|aJ Z<| ?_;refine iE Z (λ gg=> ?_) (λ gg=> ?_)
 ·refine av<|aB Z<|aa (bx Z)<|aa (aj pb Z)<| ?_;have aI:=aI.later aR;refine bk Z aI kz Z<|aa (b5 underlying45 Z)<|aa (beq Z Z)<|aC<| ?_;refine iE Z (λ jD=> ?_) (λ jD=> ?_)
  ·refine aw<|aY Z<|bD<|eb<|bD<|b_ Z Z<| ?_;have ie:L.step x=(L,6):=by
    try simp only [bn] at gg
    try simp only [bn] at jD
    unfold a6.step;simp [gg,jD]
   exact ⟨by rw [ie];rfl,λ aG=>by rw [ie] at aG;simp at aG,de⟩
  ·refine bm<| ?_;refine cO [(4,0),(6,0),(7,2),(8,3),(11,3)] [0,1,2,3,4,5,6,7,8,9,10,11] ?_;refine a1 Z Z<|a1 Z Z<|aq Z (λ _=>bx Z)<|aq Z (λ _=>aj pb Z)<|cf Z Z aI kz Z<|aq Z (λ _=>aj ayW Z)<|cf Z Z ae HJ Z<|ff Z Z Z λ VU zW Q hK=>c7 (e:= 9) (cs:= [.string x.text]) Z (λ _=>by kernel_rfl) Z λ zS xc iy amE fU=>hK _ _ ⟨γ zW iy, ?_⟩;have:=zW.size;have yj:=de.trans (Mod.a8 zW);have m3:=yj.trans (Mod.a8 iy);have aIj:=fU.lt;have cZ:=cZ.later (γ aR (γ zW iy));refine dE Z Z Z λ wE fK Q hK=>ap asK Vg (cZ.later fK) ((aM.gu (R:=gi) (by_:=16) (q:=x.text) fU ⟨Z,Dc.2.2⟩ (by decide)).keep fK) Z Z (by simp only [aX9,aYc,aYh];omega) (by simp only [aX9,aYc,aYh];omega) (by have:=fK.size;omega) Z λ nR ard avP tN Nd HR aU2=>hK _ _ ?_;have:=fK.size;have lz:=m3.trans (Mod.a8 fK);have eZ:=lz.md tN (λ q I=> .inl (Be I));refine aq Z (λ _=>bx Z)<|aq Z (λ _=>aj pb Z)<| ?_;have aI:=(aI.later (γ zW (γ iy fK))).mod tN (λ I=>ah.bn _ I rfl);refine dE Z Z Z λ wF ho Q hK=>dU Z Z (aI.later ho) Z NT Z Z λ Gs og aI=>hK _ _ ?_;have mf:=eZ.trans (Mod.a8 ho);have oy:=mf.md og lr;refine fn λ DL im=> ?_;have nz:=oy.trans (Mod.a8 im);refine b1<|aX<|aw<|aY Z<|b_ Z Z<| ?_;have ie:L.step x=((⟨L.b',L.bC++ [x.text],L.base,L.next,L.way,L.bV,L.got,L.held⟩:a6),0):=by
    try simp only [bn] at gg
    try simp only [bn] at jD
    unfold a6.step;simp [gg,jD]
   have aI:=aI.later im;have dA:=nw (kW ho og) im;have Nd:=Nd.mod dA (bl λ q I ag=>aYC (HR q I) (λ amg=>by (exact ah.bn q amg ag)) (λ amg=>by omega));have ed:=((ed.later (γ aR (γ zW (γ iy fK)))).mod tN ah.own.kb).mod dA (bl ah.jw);have dB:=((dB.later (γ aR (γ zW (γ iy fK)))).mod tN ah.own.jx).mod dA (bl ah.ia);have ct:=((ct.later (γ aR (γ zW (γ iy fK)))).mod tN ah.own.kO).mod dA (bl ah.jd);have c_:=((c_.later (γ aR (γ zW (γ iy fK)))).mod tN ah.own.kQ).mod dA (bl ah.je);have aeC:∀ q∈J.ab a.S,q∈(jG b a)∨w.heap.size≤q:=(λ q I=> .inl (Be I));exact ⟨by rw [ie];rfl,λ _=>⟨⟨ard,a.W,a.K,a.G,a.H,avP,a.w,a.k,a.g,a.h⟩,by rw [ie];exact ⟨aI,Nd,ed,dB,ct,(lG.of c_),(cQ (hh HR (cQ ah.own.kb) DG)),(cQ (hh HR (cQ ah.own.jx) I6)),ah.own.iT,(cQ (hh HR (cQ ah.own.kO) LR)),ah.own.j',ah.own.jT,(cQ (hh HR (cQ ah.own.kQ) LS)),ah.own.ka,ah.own.jU,ah.own.kP,⟨cN,cN,cN⟩,ah.le,(fJ HR ah.bn),ah.jw,ah.ia,ah.jd,ah.je⟩,(Dj (λ q I=>(HR q I).elim (aeC q) (λ h=> .inr (by omega))) (λ q I=> .inl (xH I)) (λ q I=> .inl (uT I)) (λ q I=> .inl (Bc I)) (λ q I=> .inl (Bd I)))⟩,nz⟩
 ·refine aw<|aa (beq Z Z)<|aJ Z<| ?_;refine iE Z (λ jC=> ?_) (λ jC=> ?_)
  ·refine aB Z<| ?_;have aI:=aI.later aR;have cZ:=cZ.later aR;have ed:=ed.later aR;have dB:=dB.later aR;have ct:=ct.later aR;have c_:=c_.later aR;refine ca ayX Z Z ((aFS w0 b a L _ (Ext.mod fg de C2) ⟨aI,⟨cZ,ed,dB,ct,c_,ah.own.kb,ah.own.jx,ah.own.iT,ah.own.kO,ah.own.j',ah.own.jT,ah.own.kQ,ah.own.ka,ah.own.jU,ah.own.kP,⟨cN,cN,cN⟩⟩,ah.le,ah.bn,ah.jw,ah.ia,ah.jd,ah.je⟩ aAM).mono ?_);rintro e DM ⟨auc,rfl,ass,asa,Dr⟩;refine cu ?_;have pR:=de.md Dr (λ q I=> .inl I);refine aY Z<|eb<|bD<|b_ Z Z<| ?_;have ie:L.step x=L.send:=by
    try simp only [bn] at gg
    try simp only [bn] at jC
    unfold a6.step;simp [gg,jC]
   exact ⟨by rw [ie];rfl,λ _=>⟨auc,by rw [ie];exact ass.res,(λ q I=>(asa q I).imp id λ h=>by omega)⟩,pR⟩
  ·refine aw<|aa (beq Z Z)<|aJ Z<| ?_;refine iE Z (λ n'=> ?_) (λ n'=> ?_)
   ·refine av<|av<| ?_;refine cO [(4,0),(5,3)] [0,1,2,3,4,5,6,7,8,9,10] ?_;refine a1 Z Z<|aq Z (λ _=>bx Z)<|aq Z (λ _=>aj uL Z)<|aq Z (λ _=>aj NU Z)<|cf Z Z ae aT Z<| ?_;have aI:=aI.later aR;have cZ:=cZ.later aR;have ed:=ed.later aR;have dB:=dB.later aR;have ct:=ct.later aR;have c_:=c_.later aR;refine dE Z Z Z λ ad3 o4 Q hK=>ca NV Z Z ((adC w0 b a (⟨L.b',L.bC,L.base,L.next,L.way,L.bV,L.got,L.held⟩:a6) x.at_ true _ (γ (Ext.mod fg de C2) o4) (m7.later ⟨aI,⟨cZ,ed,dB,ct,c_,ah.own.kb,ah.own.jx,ah.own.iT,ah.own.kO,ah.own.j',ah.own.jT,ah.own.kQ,ah.own.ka,ah.own.jU,ah.own.kP,⟨cN,cN,cN⟩⟩,ah.le,ah.bn,ah.jw,ah.ia,ah.jd,ah.je⟩ o4)).mono ?_);rintro e DN ⟨rfl,G4,Rv,oV⟩;refine ⟨_,Z,hK _ _ ?_⟩;have:=o4.size;have Jx:=de.trans (Mod.a8 o4);have:=oV.size;have rP:=Jx.md oV (λ q I=> .inl ((aYk.1 I).elim (λ e=>by rw [e];exact aYE) (λ h=>xH h)));rw [Qe] at G4 Rv;have G4:aM DN b [Φ L.b', .slice a.S L.bC.length a.s,Φ L.base,Φ L.next, .slice a.W L.way.length a.w, .slice a.K L.bV.length a.k, .slice a.G L.got.length a.g, .slice a.H L.held.length a.h] 79 (0,0):=G4;refine a1 Z Z<|aq Z (λ _=>ex Z Z)<|aq Z (λ _=>ex Z Z)<|aq Z (λ _=>ee Z)<|aq Z (λ _=>ee Z)<|fn λ L8 k1=> ?_;have:=k1.size;have o8:=rP.trans (Mod.a8 k1);refine aX<|aB Z<|aa (dJ Z)<|aC<| ?_;refine du Z (λ A6=> ?_) (λ A6=> ?_)
    ·refine aw<|aY Z<|bD<|eb<|bD<|b_ Z Z<| ?_;have ie:L.step x=(L,7):=by
      try simp only [bn] at gg
      try simp only [bn] at jC
      try simp only [bn] at n'
      try simp only [bn] at A6
      unfold a6.step;simp [gg,jC,n',A6]
     exact ⟨by rw [ie];rfl,λ aG=>by rw [ie] at aG;simp at aG,o8⟩
    ·have re:iL L.way x.at_=true:=by simpa using A6
     refine bm<|av<|aB Z<|aa (bx Z)<|aa (aj r5 Z)<| ?_;have G4:=G4.later k1;refine bk Z G4 c8 Z<|aa (b5 underlying22 Z)<|aa (beq Z Z)<|aC<| ?_;refine iE Z (λ HY=> ?_) (λ HY=> ?_)
     ·refine aw<|aY Z<|bD<|eb<|bD<|b_ Z Z<| ?_;have ie:L.step x=(L,6):=by
       try simp only [bn] at gg
       try simp only [bn] at jC
       try simp only [bn] at n'
       try simp only [bn] at A6
       try simp only [bn] at HY
       unfold a6.step;simp [gg,jC,n',A6,HY,re]
      exact ⟨by rw [ie];rfl,λ aG=>by rw [ie] at aG;simp at aG,o8⟩
     ·refine bm<|av<| ?_;refine cO [(4,0),(6,0),(7,3)] [0,1,2,3,4,5,6,7,8,9,10,11,12] ?_;refine a1 Z Z<|aq Z (λ _=>bx Z)<|aq Z (λ _=>aj uL Z)<|aq Z (λ _=>aj NU Z)<| ?_;have ae:=((ae.later o4).mod oV (λ h=>(aYk.1 h).elim (λ h=>by omega) (λ h=>(λ q (κ:q∈J.ab a.W) (τ:q=bB)=>show False by (have:=DG q κ;omega)) _ h rfl))).later k1;refine cf Z Z ae aT Z<|aq Z (λ _=>aj Y5 Z)<|cf Z Z ae CI Z<| ?_;have cZ:=((cZ.later o4).mod oV (λ q I h=>(aYk.1 h).elim (λ h=>ah.bn q I h) (λ h=>ah.own.kb q h I))).later k1;have Rv:=Rv.later k1;have dB:=((dB.later o4).mod oV (λ q I h=>(aYk.1 h).elim (λ h=>ah.ia q I h) (λ h=>ah.own.iT q I h))).later k1;have ct:=((ct.later o4).mod oV (λ q I h=>(aYk.1 h).elim (λ h=>ah.jd q I h) (λ h=>ah.own.j' q I h))).later k1;have c_:=((c_.later o4).mod oV (λ q I h=>(aYk.1 h).elim (λ h=>ah.je q I h) (λ h=>ah.own.ka q I h))).later k1;refine dE Z Z Z λ L_ lT Q hK=>ca NV Z Z ((adC w0 b a (⟨L.b',L.bC,L.base,L.next,L.way,L.bV,L.got,L.held⟩:a6) x.at_ x.keep _ (γ (Ext.mod fg o8 C2) lT) (m7.later ⟨G4,⟨cZ,Rv,dB,ct,c_,ah.own.kb,ah.own.jx,ah.own.iT,ah.own.kO,ah.own.j',ah.own.jT,ah.own.kQ,ah.own.ka,ah.own.jU,ah.own.kP,⟨cN,cN,cN⟩⟩,ah.le,ah.bn,ah.jw,ah.ia,ah.jd,ah.je⟩ lT)).mono ?_);rintro e Jg ⟨rfl,MI,Xq,jJ⟩;refine ⟨_,Z,hK _ _ ?_⟩;have:=lT.size;have z_:=o8.trans (Mod.a8 lT);have:=jJ.size;have wQ:=z_.md jJ (λ q I=> .inl ((aYk.1 I).elim (λ e=>by rw [e];exact aYE) (λ h=>xH h)));have MI:aM Jg b [Φ L.b', .slice a.S L.bC.length a.s,Φ L.base,Φ L.next, .slice a.W ((hj L.way x.at_ x.keep).length) a.w, .slice a.K L.bV.length a.k, .slice a.G L.got.length a.g, .slice a.H L.held.length a.h] 79 (0,0):=MI;refine a1 Z Z<|aq Z (λ _=>ex Z Z)<|aq Z (λ _=>ex Z Z)<|aq Z (λ _=>ee Z)<|aq Z (λ _=>ee Z)<|fn λ Jh sH=> ?_;have:=sH.size;have yp:=wQ.trans (Mod.a8 sH);refine aX<|rg<|vm Z<|vm Z<| ?_;have MI:=MI.later sH;have cZ:=((cZ.later lT).mod jJ (λ q I h=>(aYk.1 h).elim (λ h=>ah.bn q I h) (λ h=>ah.own.kb q h I))).later sH;have Xq:=Xq.later sH;have dB:=((dB.later lT).mod jJ (λ q I h=>(aYk.1 h).elim (λ h=>ah.ia q I h) (λ h=>ah.own.iT q I h))).later sH;have ct:=((ct.later lT).mod jJ (λ q I h=>(aYk.1 h).elim (λ h=>ah.jd q I h) (λ h=>ah.own.j' q I h))).later sH;have c_:=((c_.later lT).mod jJ (λ q I h=>(aYk.1 h).elim (λ h=>ah.je q I h) (λ h=>ah.own.ka q I h))).later sH;have aAO:((⟨L.b',L.bC,L.base,L.next,(hj L.way x.at_ x.keep),L.bV,L.got,L.held⟩:a6):a6).MY:=⟨zB,ru,oj,pz,n5,n6,aYF (adE _ _ _) n7,acq,acr,aco,acp⟩;have OR:=adF g6 re;refine ca ayY Z Z ((aFm w0 b a (⟨L.b',L.bC,L.base,L.next,(hj L.way x.at_ x.keep),L.bV,L.got,L.held⟩:a6) (mC L.way x.at_) _ (Ext.mod fg yp C2) ⟨MI,⟨cZ,Xq,dB,ct,c_,ah.own.kb,ah.own.jx,ah.own.iT,ah.own.kO,ah.own.j',ah.own.jT,ah.own.kQ,ah.own.ka,ah.own.jU,ah.own.kP,⟨cN,cN,cN⟩⟩,ah.le,ah.bn,ah.jw,ah.ia,ah.jd,ah.je⟩ aAO (aEj g9) A_ (by omega) (show mC L.way x.at_<(L.bC.length:Int) by omega) (show L.bV.length<1000 by omega) (show L.held.length≤200 by omega)).mono ?_);rintro e DO ⟨aud,rfl,ast,asb,ab8⟩;refine cu ?_;have pT:=yp.md ab8 (λ q I=> .inl I);refine nl<|b1<|aX<|aw<|aY Z<|b_ Z Z<| ?_;have ie:L.step x=(({L with way:=hj L.way x.at_ x.keep}:a6).comes (mC L.way x.at_),0):=by
       try simp only [bn] at gg
       try simp only [bn] at jC
       try simp only [bn] at n'
       try simp only [bn] at A6
       try simp only [bn] at HY
       unfold a6.step;simp [gg,jC,n',A6,HY,re]
      exact ⟨by rw [ie];rfl,λ _=>⟨aud,by rw [ie];exact ast,(λ q I=>(asb q I).imp id λ h=>by omega)⟩,pT⟩
   ·refine aw<|aa (beq Z Z)<|aJ Z<| ?_;refine iE Z (λ q2=> ?_) (λ q2=> ?_)
    ·refine av<| ?_;refine cO [(4,0),(6,0),(7,3)] [0,1,2,3,4,5,6,7,8,9,10,11,12] ?_;refine a1 Z Z<|aq Z (λ _=>bx Z)<|aq Z (λ _=>aj r5 Z)<|aq Z (λ _=>aj NU Z)<|cf Z Z ae aT Z<|aq Z (λ _=>aj Y5 Z)<|cf Z Z ae CI Z<| ?_;have aI:=aI.later aR;have cZ:=cZ.later aR;have ed:=ed.later aR;have dB:=dB.later aR;have ct:=ct.later aR;have c_:=c_.later aR;refine dE Z Z Z λ DQ mb Q hK=>ca NV Z Z ((api w0 b a (⟨L.b',L.bC,L.base,L.next,L.way,L.bV,L.got,L.held⟩:a6) x.at_ x.keep _ (γ (Ext.mod fg de C2) mb) (m7.later ⟨aI,⟨cZ,ed,dB,ct,c_,ah.own.kb,ah.own.jx,ah.own.iT,ah.own.kO,ah.own.j',ah.own.jT,ah.own.kQ,ah.own.ka,ah.own.jU,ah.own.kP,⟨cN,cN,cN⟩⟩,ah.le,ah.bn,ah.jw,ah.ia,ah.jd,ah.je⟩ mb)).mono ?_);rintro e Gv ⟨rfl,uy,Xr,kh⟩;refine ⟨_,Z,hK _ _ ?_⟩;have m5:=de.trans (Mod.a8 mb);have lA:=m5.md kh (λ q I=> .inl ((aYk.1 I).elim (λ e=>by rw [e];exact aYE) (λ h=>uT h)));have uy:aM Gv b [Φ L.b', .slice a.S L.bC.length a.s,Φ L.base,Φ L.next, .slice a.W L.way.length a.w, .slice a.K ((hj L.bV x.at_ x.keep).length) a.k, .slice a.G L.got.length a.g, .slice a.H L.held.length a.h] 79 (0,0):=uy;refine a1 Z Z<|aq Z (λ _=>ex Z Z)<|aq Z (λ _=>ex Z Z)<|aq Z (λ _=>ee Z)<|aq Z (λ _=>ee Z)<|fn λ Md rL=> ?_;have vz:=lA.trans (Mod.a8 rL);refine aX<|av<|aB Z<|aa (dJ Z)<|aC<| ?_;refine du Z (λ KI=> ?_) (λ KI=> ?_)
     ·refine aw<|aY Z<|bD<|eb<|bD<|b_ Z Z<| ?_;have ie:L.step x=(L,7):=by
       try simp only [bn] at gg
       try simp only [bn] at jC
       try simp only [bn] at n'
       try simp only [bn] at q2
       try simp only [bn] at KI
       unfold a6.step;simp [gg,jC,n',q2,KI]
      exact ⟨by rw [ie];rfl,λ aG=>by rw [ie] at aG;simp at aG,vz⟩
     ·have re:iL L.bV x.at_=true:=by simpa using KI
      have aCZ:=adF g7 re;refine bm<|aB Z<|vm Z<|aa (bx Z)<|aa (aj CG Z)<| ?_;have uy:=uy.later rL;refine bk Z uy aT Z<|vm Z<|aa (mx Z Z)<|aa (bx Z)<|aa (aj CG Z)<|dU Z Z uy Z dg Z Z λ Ji mX uy=> ?_;have sL:=vz.md mX lr;refine aC<| ?_;refine cO [(4,0),(8,0),(12,3)] [0,1,2,3,4,5,6,7,8,9,10,11,12] ?_;refine a1 Z Z<|a1 Z Z<|aq Z (λ _=>bx Z)<|aq Z (λ _=>aj AV Z)<|cf Z Z uy aT Z<|a1 Z Z<|aq Z (λ _=>bx Z)<|aq Z (λ _=>aj CG Z)<|cf Z Z uy aT Z<|aq Z (λ _=>mx Z Z)<|aq Z (λ _=>bx Z)<|aq Z (λ _=>aj AV Z)<|dE Z Z Z λ Me kr Q hK=>dU Z Z (uy.later kr) Z dg Z Z λ apU am8 uy=>hK _ _ ?_;have wR:=sL.trans (Mod.a8 kr);have Mj:=wR.md am8 lr;refine fn λ aLn ye=> ?_;have aei:=Mj.trans (Mod.a8 ye);refine b1<|aX<|aw<|aY Z<|b_ Z Z<| ?_;have ie:L.step x=((⟨L.b',L.bC,max L.base (mC L.bV x.at_),max L.next (max L.base (mC L.bV x.at_)),L.way,(hj L.bV x.at_ x.keep),L.got,L.held⟩:a6),0):=by
       try simp only [bn] at gg
       try simp only [bn] at jC
       try simp only [bn] at n'
       try simp only [bn] at q2
       try simp only [bn] at KI
       unfold a6.step;simp [gg,jC,n',q2,KI,re]
      have uy:=uy.later ye;have gG:=nw ((kW rL mX).trans (kW kr am8)) ye;have cZ:=((cZ.later mb).mod kh (λ q I h=>(aYk.1 h).elim (λ h=>ah.bn q I h) (λ h=>ah.own.jx q h I))).mod gG (bl ah.bn);have ed:=((ed.later mb).mod kh (λ q I h=>(aYk.1 h).elim (λ h=>ah.jw q I h) (λ h=>ah.own.iT q h I))).mod gG (bl ah.jw);have Xr:=Xr.mod gG (bl ah.ia);have ct:=((ct.later mb).mod kh (λ q I h=>(aYk.1 h).elim (λ h=>ah.jd q I h) (λ h=>ah.own.jT q I h))).mod gG (bl ah.jd);have c_:=((c_.later mb).mod kh (λ q I h=>(aYk.1 h).elim (λ h=>ah.je q I h) (λ h=>ah.own.jU q I h))).mod gG (bl ah.je);exact ⟨by rw [ie];rfl,λ _=>⟨⟨a.S,a.W,a.K,a.G,a.H,a.s,a.w,a.k,a.g,a.h⟩,by rw [ie];exact ⟨uy,cZ,ed,Xr,ct,(lG.of c_),ah.own.kb,ah.own.jx,ah.own.iT,ah.own.kO,ah.own.j',ah.own.jT,ah.own.kQ,ah.own.ka,ah.own.jU,ah.own.kP,⟨cN,cN,cN⟩,ah.le,ah.bn,ah.jw,ah.ia,ah.jd,ah.je⟩,(Dj (λ q I=> .inl (Be I)) (λ q I=> .inl (xH I)) (λ q I=> .inl (uT I)) (λ q I=> .inl (Bc I)) (λ q I=> .inl (Bd I)))⟩,aei⟩
    ·refine aw<|aa (beq Z Z)<|aJ Z<| ?_;refine iE Z (λ y4=> ?_) (λ y4=> ?_)
     ·refine aB Z<|aa (bx Z)<|aa (aj uL Z)<|aJ Z<|av<|aw<|aa (aj Y5 Z)<|bk Z ae CI Z<|aC<| ?_;refine du Z (λ y5=> ?_) (λ y5=> ?_)
      ·have OL:x.keep=true:=by simpa using y5
       refine rg<|vm Z<|aa (bx Z)<|aa (aj r5 Z)<|aJ Z<|aB Z<|aa (aj NU Z)<|bk Z ae aT Z<| ?_;have aI:=aI.later aR;have cZ:=cZ.later aR;have ed:=ed.later aR;have dB:=dB.later aR;have ct:=ct.later aR;have c_:=c_.later aR;refine ca NV Z Z ((api w0 b a (⟨L.b',L.bC,L.base,L.next,L.way,L.bV,L.got,L.held⟩:a6) x.at_ false _ (Ext.mod fg de C2) ⟨aI,⟨cZ,ed,dB,ct,c_,ah.own.kb,ah.own.jx,ah.own.iT,ah.own.kO,ah.own.j',ah.own.jT,ah.own.kQ,ah.own.ka,ah.own.jU,ah.own.kP,⟨cN,cN,cN⟩⟩,ah.le,ah.bn,ah.jw,ah.ia,ah.jd,ah.je⟩).mono ?_);rintro e ad1 ⟨rfl,W7,asV,su⟩;refine cu ?_;have Mk:=de.md su (λ q I=> .inl ((aYk.1 I).elim (λ e=>by rw [e];exact aYE) (λ h=>uT h)));have W7:aM ad1 b [Φ L.b', .slice a.S L.bC.length a.s,Φ L.base,Φ L.next, .slice a.W L.way.length a.w, .slice a.K ((hj L.bV x.at_ false).length) a.k, .slice a.G L.got.length a.g, .slice a.H L.held.length a.h] 79 (0,0):=W7;refine vm Z<|bs Z Z<|bs Z Z<|va Z<|aJ Z<|aB Z<|aa (dJ Z)<|aC<| ?_;refine du Z (λ Ff=> ?_) (λ Ff=> ?_)
       ·refine aw<|aY Z<|eb<|bD<|b_ Z Z<| ?_;have ie:L.step x=(L,7):=by
         try simp only [bn] at gg
         try simp only [bn] at jC
         try simp only [bn] at n'
         try simp only [bn] at q2
         try simp only [bn] at y4
         try simp only [bn] at y5
         try simp only [bn] at Ff
         unfold a6.step;simp [gg,jC,n',q2,y4,y5,Ff,OL]
        exact ⟨by rw [ie];rfl,λ aG=>by rw [ie] at aG;simp at aG,Mk⟩
       ·have re:iL L.bV x.at_=true:=by simpa using Ff
        have aCZ:=adF g7 re;refine fu<|b1<|aX<|aw<|aY Z<|b_ Z Z<| ?_;have ie:L.step x=((⟨L.b',L.bC,L.base,L.next,L.way,(hj L.bV x.at_ false),L.got,L.held⟩:a6),0):=by
         try simp only [bn] at gg
         try simp only [bn] at jC
         try simp only [bn] at n'
         try simp only [bn] at q2
         try simp only [bn] at y4
         try simp only [bn] at y5
         try simp only [bn] at Ff
         unfold a6.step;simp [gg,jC,n',q2,y4,y5,Ff,re,OL]
        have cZ:=cZ.mod su (λ q I h=>(aYk.1 h).elim (λ h=>ah.bn q I h) (λ h=>ah.own.jx q h I));have ed:=ed.mod su (λ q I h=>(aYk.1 h).elim (λ h=>ah.jw q I h) (λ h=>ah.own.iT q h I));have ct:=ct.mod su (λ q I h=>(aYk.1 h).elim (λ h=>ah.jd q I h) (λ h=>ah.own.jT q I h));have c_:=c_.mod su (λ q I h=>(aYk.1 h).elim (λ h=>ah.je q I h) (λ h=>ah.own.jU q I h));exact ⟨by rw [ie];rfl,λ _=>⟨⟨a.S,a.W,a.K,a.G,a.H,a.s,a.w,a.k,a.g,a.h⟩,by rw [ie];exact ⟨W7,cZ,ed,asV,ct,(lG.of c_),ah.own.kb,ah.own.jx,ah.own.iT,ah.own.kO,ah.own.j',ah.own.jT,ah.own.kQ,ah.own.ka,ah.own.jU,ah.own.kP,⟨cN,cN,cN⟩,ah.le,ah.bn,ah.jw,ah.ia,ah.jd,ah.je⟩,(Dj (λ q I=> .inl (Be I)) (λ q I=> .inl (xH I)) (λ q I=> .inl (uT I)) (λ q I=> .inl (Bc I)) (λ q I=> .inl (Bd I)))⟩,Mk⟩
      ·have OL:x.keep=false:=by simpa using y5
       refine bm<|aB Z<|aa (aj NU Z)<|bk Z ae aT Z<| ?_;have aI:=aI.later aR;have cZ:=cZ.later aR;have ed:=ed.later aR;have dB:=dB.later aR;have ct:=ct.later aR;have c_:=c_.later aR;refine ca NV Z Z ((adC w0 b a (⟨L.b',L.bC,L.base,L.next,L.way,L.bV,L.got,L.held⟩:a6) x.at_ false _ (Ext.mod fg de C2) ⟨aI,⟨cZ,ed,dB,ct,c_,ah.own.kb,ah.own.jx,ah.own.iT,ah.own.kO,ah.own.j',ah.own.jT,ah.own.kQ,ah.own.ka,ah.own.jU,ah.own.kP,⟨cN,cN,cN⟩⟩,ah.le,ah.bn,ah.jw,ah.ia,ah.jd,ah.je⟩).mono ?_);rintro e apX ⟨rfl,W8,asW,nj⟩;refine cu ?_;have Ws:=de.md nj (λ q I=> .inl ((aYk.1 I).elim (λ e=>by rw [e];exact aYE) (λ h=>xH h)));have W8:aM apX b [Φ L.b', .slice a.S L.bC.length a.s,Φ L.base,Φ L.next, .slice a.W ((hj L.way x.at_ false).length) a.w, .slice a.K L.bV.length a.k, .slice a.G L.got.length a.g, .slice a.H L.held.length a.h] 79 (0,0):=W8;refine vm Z<|bs Z Z<|bs Z Z<|va Z<|aJ Z<|aB Z<|aa (dJ Z)<|aC<| ?_;refine du Z (λ Fg=> ?_) (λ Fg=> ?_)
       ·refine aw<|aY Z<|eb<|bD<|b_ Z Z<| ?_;have ie:L.step x=(L,7):=by
         try simp only [bn] at gg
         try simp only [bn] at jC
         try simp only [bn] at n'
         try simp only [bn] at q2
         try simp only [bn] at y4
         try simp only [bn] at y5
         try simp only [bn] at Fg
         unfold a6.step;simp [gg,jC,n',q2,y4,y5,Fg,OL]
        exact ⟨by rw [ie];rfl,λ aG=>by rw [ie] at aG;simp at aG,Ws⟩
       ·have re:iL L.way x.at_=true:=by simpa using Fg
        refine fu<|b1<|aX<|aw<|aY Z<|b_ Z Z<| ?_;have ie:L.step x=((⟨L.b',L.bC,L.base,L.next,(hj L.way x.at_ false),L.bV,L.got,L.held⟩:a6),0):=by
         try simp only [bn] at gg
         try simp only [bn] at jC
         try simp only [bn] at n'
         try simp only [bn] at q2
         try simp only [bn] at y4
         try simp only [bn] at y5
         try simp only [bn] at Fg
         unfold a6.step;simp [gg,jC,n',q2,y4,y5,Fg,re,OL]
        have cZ:=cZ.mod nj (λ q I h=>(aYk.1 h).elim (λ h=>ah.bn q I h) (λ h=>ah.own.kb q h I));have dB:=dB.mod nj (λ q I h=>(aYk.1 h).elim (λ h=>ah.ia q I h) (λ h=>ah.own.iT q I h));have ct:=ct.mod nj (λ q I h=>(aYk.1 h).elim (λ h=>ah.jd q I h) (λ h=>ah.own.j' q I h));have c_:=c_.mod nj (λ q I h=>(aYk.1 h).elim (λ h=>ah.je q I h) (λ h=>ah.own.ka q I h));exact ⟨by rw [ie];rfl,λ _=>⟨⟨a.S,a.W,a.K,a.G,a.H,a.s,a.w,a.k,a.g,a.h⟩,by rw [ie];exact ⟨W8,cZ,asW,dB,ct,(lG.of c_),ah.own.kb,ah.own.jx,ah.own.iT,ah.own.kO,ah.own.j',ah.own.jT,ah.own.kQ,ah.own.ka,ah.own.jU,ah.own.kP,⟨cN,cN,cN⟩,ah.le,ah.bn,ah.jw,ah.ia,ah.jd,ah.je⟩,(Dj (λ q I=> .inl (Be I)) (λ q I=> .inl (xH I)) (λ q I=> .inl (uT I)) (λ q I=> .inl (Bc I)) (λ q I=> .inl (Bd I)))⟩,Ws⟩
     ·refine aw<|aY Z<|eb<|bD<|b_ Z Z<| ?_;have ie:L.step x=(L,1):=by
       try simp only [bn] at gg
       try simp only [bn] at jC
       try simp only [bn] at n'
       try simp only [bn] at q2
       try simp only [bn] at y4
       unfold a6.step;simp [gg,jC,n',q2,y4]
      exact ⟨by rw [ie];rfl,λ aG=>by rw [ie] at aG;simp at aG,de⟩
end
theorem agU (A:Option Addr) (c:Nat) (l:List ByteArray) (w:World) (h:gi.aK 16 w A c l):
  Calls prog 76 #[.slice A l.length c] w λ e w'=>∃ bQ cc,e= .returned (.slice bQ l.length cc)∧gi.aF 9 16 w' w.heap.size (J.ab bQ) bQ cc l∧(bQ=none↔A=none)∧Below w.heap.size w w':=by
 obtain ⟨i0,hi,pj,nL,qe⟩:=baD Uf;have PZ:∀ (w:World) (a:Option Addr) (n c jl cc:Nat),(binOp .eql 45 (.slice a n c) (.slice none jl cc)).run prog w= .ok (.bool a.isNone) w:=λ w a n c jl cc=>baa w _ _ a n c jl cc underlying45;cases A with
 | none =>
  obtain rfl:c=0:=h.2.2.2.1 rfl;obtain rfl:l= []:=aYx (by have:=h.1;omega);go_enter func76,ntmps76;go_wp2_with fail
  go_ret;exact ⟨none,0,Z,J.aF.nil _,by simp,aYG _ _⟩
 | some a =>
  have cV:Below w.heap.size w (w.alloc (.cells #[] 9)):=(aYG _ w).alloc (aYg _) _;obtain ⟨n,fr⟩:∃ n,Hid (l.length=n):=⟨_,aYe rfl⟩;obtain ⟨κ,τ,au,aU,ess,bN,cq⟩:=h.keep cV;have ux:=aYe bN;have mT:∀ u∈ess.flatten,u.oneCell'=true:=by
   intro u hu;obtain ⟨y,aE,hu⟩:=aZj.1 hu;obtain ⟨a,ha⟩:=bN.left y aE;exact gi.one ha u hu
  have ph:∀ (j:Nat) u,ess.flatten[j]? =some u→gi.raw (j % gi.size) u:=λ j u hu=>E7 bN (by decide) hu;rw [fr.out] at κ au cq;have dI:=aYe cq;have jO:=aYe (Own.empty (e:= 9) (size:=gi.size) (G:=gi.raw) w (aYg w.heap.size));clear h aU bN cq;rw [fr.out];go_enter func76,ntmps76;go_wp2_with (at_builtin;refine Jj _ rfl _ _ 45 rfl w.heap.size 9 i0 (Value.string .empty) gi.size 16 underlying45 hi pj nL qe rfl (by decide) gi.raw Vf _ _ _ rfl jO.out (some a) n c ess.flatten rfl dI.out mT ph ?qc4 ?qc5 ?qc6 ?_)
  case qc4=>unfold maxLen;omega
  case qc5=>omega
  case qc6=>simp
  intro v' w1 fz jE mS fX;have dc:=cV.grown jE (by simp) (by intro k ak;simp [Value.ownBlock] at ak;omega);obtain ⟨cb,c1,rfl,hle,_,_,_,lL⟩:=fz.shape;have kS:cb≠none:=by
   intro h;subst h;exact mS (lL Z)
  have bq:Hid (gi.aF 9 16 w1 w.heap.size (J.ab cb) cb c1 l):=aYe (J.aF.Br aIL ux.out (by rw [fr.out];exact au) (by rw [fr.out];simpa using fz));have sQ:=aYe kS;clear jE mS fX fz kS lL mT ph;go_wp2_with fail
  go_ret;exact ⟨cb,c1,Z,bq.out,⟨λ h=>absurd h sQ.out,λ h=>by cases h⟩,dc⟩
theorem am5 (a:a6.b7) (L:a6) (w:World) (dY:a6.Has w a L):
  Calls prog 41 #[.agg #[Φ L.b', .slice a.S L.bC.length a.s,Φ L.base,Φ L.next, .slice a.W L.way.length a.w, .slice a.K L.bV.length a.k, .slice a.G L.got.length a.g, .slice a.H L.held.length a.h]] w (λ e w'=>∃ a',e= .returned (.agg (a6.cells a' L).toArray)∧sU w' w.heap.size a' L∧Ext w w'):=by
 refine ch (n:=24) func41 Z Z Z ?_;refine dZ Z Z λ cG bB aR d' ae=> ?_;have hE:=ae.lt;refine cU HK Z λ eC cJ bt hP ar=> ?_;have bO:=γ aR bt;have mB:=ar.lt;refine aC<|av<| ?_;refine cO [(1,0),(2,2),(4,0),(5,2),(7,3),(9,3)] [0,1,3,4,2,6,5,7,8,9] ?_;refine aq Z (λ _=>aj pb Z)<| ?_;have ae:=ae.later bt;refine cf Z Z ae kz Z<|aq Z (λ _=>aj r6 Z)<|cf Z Z ae kz Z<|ff Z Z Z λ hG fD Q hK=>ca aim Z Z ((agU _ _ L.bC _ (dY.S.keep (γ bO fD))).mono ?_);rintro e wE ⟨yt,Hs,rfl,lD,aCT,fK⟩;refine ⟨_,Z,hK _ _ ⟨γ fD fK, ?_⟩⟩;have:=fD.size;have c6:=γ bO fD;have:=fK.size;have lz:=γ c6 fK;have sA:=bM lD.lt;have wg:=dx lD.lt;refine aq Z (λ _=>aj pb Z)<|ff Z Z Z λ ua fp Q hK=>ca aim Z Z ((agU _ _ L.got _ (dY.G.keep (γ lz fp))).mono ?_);rintro e ub ⟨yu,Ht,rfl,lF,aCU,d_⟩;refine ⟨_,Z,hK _ _ ⟨γ fp d_, ?_⟩⟩;have:=fp.size;have kM:=γ lz fp;have:=d_.size;have hH:=γ kM d_;have pJ:=bM lF.lt;have nN:=dx lF.lt;have ae:=ae.later (γ fD (γ fK (γ fp d_)));refine dE Z Z Z λ wF ho Q hK=>dU Z Z (ae.later ho) Z NT Z Z λ Gs og ae=>hK _ _ ?_;have:=ho.size;have mf:=γ hH ho;have:=og.size;have oy:=Ext.mod mf og bo;refine aq Z (λ _=>aj r6 Z)<|dE Z Z Z λ DL im Q hK=>dU Z Z (ae.later im) Z NT Z Z λ L3 II ae=>hK _ _ ?_;have:=im.size;have nz:=γ oy im;have:=II.size;have wO:=Ext.mod nz II bo;refine fn λ BH hq=> ?_;have:=hq.size;have nA:=γ wO hq;refine aX<|av<| ?_;refine cO [(1,0),(2,2),(4,0),(5,2),(7,0),(8,2),(10,3),(12,3),(14,3)] [0,1,3,4,6,7,2,9,5,8,10,11,12,13,14] ?_;refine aq Z (λ _=>aj uL Z)<| ?_;have ae:=ae.later hq;refine cf Z Z ae c8 Z<|aq Z (λ _=>aj r5 Z)<|cf Z Z ae c8 Z<|aq Z (λ _=>aj s7 Z)<|cf Z Z ae c8 Z<|ff Z Z Z λ wI fv Q hK=>ca xp Z Z ((sZ _ _ L.way _ (dY.W.keep (γ nA fv))).mono ?_);rintro e V0 ⟨arl,agI,rfl,M5,aSl,D0⟩;refine ⟨_,Z,hK _ _ ⟨γ fv D0, ?_⟩⟩;have:=fv.size;have kt:=γ nA fv;have:=D0.size;have yn:=γ kt D0;have apG:=bM M5.lt;have Lb:=dx M5.lt;refine aq Z (λ _=>aj uL Z)<|ff Z Z Z λ V2 ui Q hK=>ca xp Z Z ((sZ _ _ L.bV _ (dY.K.keep (γ yn ui))).mono ?_);rintro e Qp ⟨Ec,Yo,rfl,M6,aSm,iM⟩;refine ⟨_,Z,hK _ _ ⟨γ ui iM, ?_⟩⟩;have:=ui.size;have D6:=γ yn ui;have:=iM.size;have rQ:=γ D6 iM;have LY:=bM M6.lt;have Iz:=dx M6.lt;refine ff Z Z Z λ L_ lT Q hK=>ca xp Z Z ((sZ _ _ L.held _ (dY.H.keep (γ rQ lT))).mono ?_);rintro e Ma ⟨Mr,avU,rfl,Rr,aSo,ox⟩;refine ⟨_,Z,hK _ _ ⟨γ lT ox, ?_⟩⟩;have:=lT.size;have z_:=γ rQ lT;have uq:=γ z_ ox;have FO:=dx Rr.lt;have ae:=ae.later (γ fv (γ D0 (γ ui (γ iM (γ lT ox)))));refine dE Z Z Z λ Mc dK Q hK=>dU Z Z (ae.later dK) Z nH Z Z λ Qr mW ae=>hK _ _ ?_;have qD:=γ uq dK;have rR:=Ext.mod qD mW bo;refine aq Z (λ _=>aj r5 Z)<|dE Z Z Z λ V5 iO Q hK=>dU Z Z (ae.later iO) Z nH Z Z λ Qt l6 ae=>hK _ _ ?_;have D8:=γ rR iO;have yr:=Ext.mod D8 l6 bo;refine aq Z (λ _=>aj s7 Z)<|dE Z Z Z λ V7 o6 Q hK=>dU Z Z (ae.later o6) Z nH Z Z λ V9 xS ae=>hK _ _ ?_;have D_:=γ yr o6;have Ea:=Ext.mod D_ xS bo;refine fn λ Me kr=> ?_;have wR:=γ Ea kr;refine aX<|aw<| ?_;have ae:=ae.later kr;refine aa (ax Z (ae.all p8 jY))<| ?_;have ar:=((((((((((ar.later (γ fD (γ fK (γ fp (γ d_ ho))))).mod og aO).later im).mod II aO).later (γ hq (γ fv (γ D0 (γ ui (γ iM (γ lT (γ ox dK)))))))).mod mW aO).later iO).mod l6 aO).later o6).mod xS aO).later kr;refine cF Z Z ar Z jY Z Z λ Gn lq ar=> ?_;have D3:=Ext.mod wR lq bo;refine sk<|cz (.cell Z (ar.all p8 jY) .nil)<| ?_;have lD:=(((((((((((lD.later (γ fp (γ d_ ho))).mod og (bz wg)).later im).mod II (bz wg)).later (γ hq (γ fv (γ D0 (γ ui (γ iM (γ lT (γ ox dK)))))))).mod mW (bz wg)).later iO).mod l6 (bz wg)).later o6).mod xS (bz wg)).later kr).mod lq (bz wg);have M5:=(((((((M5.later (γ ui (γ iM (γ lT (γ ox dK))))).mod mW (bz Lb)).later iO).mod l6 (bz Lb)).later o6).mod xS (bz Lb)).later kr).mod lq (bz Lb);have M6:=(((((((M6.later (γ lT (γ ox dK))).mod mW (bz Iz)).later iO).mod l6 (bz Iz)).later o6).mod xS (bz Iz)).later kr).mod lq (bz Iz);have lF:=(((((((((((lF.later ho).mod og (bz nN)).later im).mod II (bz nN)).later (γ hq (γ fv (γ D0 (γ ui (γ iM (γ lT (γ ox dK)))))))).mod mW (bz nN)).later iO).mod l6 (bz nN)).later o6).mod xS (bz nN)).later kr).mod lq (bz nN);have Rr:=(((((((Rr.later dK).mod mW (bz FO)).later iO).mod l6 (bz FO)).later o6).mod xS (bz FO)).later kr).mod lq (bz FO);exact ⟨⟨yt,arl,Ec,yu,Mr,Hs,agI,Yo,Ht,avU⟩,Z,⟨lD.down (by omega),M5.down (by omega),M6.down (by omega),lF.down (by omega),Rr.down (by omega),λ q κ τ=>by (have:=Lb q κ;(have:=sA q τ;omega)),λ q κ τ=>by (have:=Iz q κ;(have:=sA q τ;omega)),λ q κ τ=>by (have:=Iz q κ;(have:=apG q τ;omega)),λ q κ τ=>by (have:=nN q κ;(have:=sA q τ;omega)),λ q κ τ=>by (have:=Lb q τ;(have:=pJ q κ;omega)),λ q κ τ=>by (have:=Iz q τ;(have:=pJ q κ;omega)),λ q κ τ=>by (have:=FO q κ;(have:=sA q τ;omega)),λ q κ τ=>by (have:=FO q κ;(have:=apG q τ;omega)),λ q κ τ=>by (have:=FO q κ;(have:=LY q τ;omega)),λ q κ τ=>by (have:=FO q κ;(have:=pJ q τ;omega)),dY.nums⟩,D3⟩
section
variable {x:sP}
structure m8 (w:World) (aA:Nat) (a:a6.b7) (L:a6):Prop where
 S:gi.aF 9 16 w aA (J.ab a.S) a.S a.s L.bC
 W:bu.aF 3 8 w aA (J.ab a.W) a.W a.w L.way
 K:bu.aF 3 8 w aA (J.ab a.K) a.K a.k L.bV
 G:gi.aF 9 16 w aA (J.ab a.G) a.G a.g L.got
 H:lG w aA a.H a.h L.held
 kb:∀ q∈J.ab a.W,q∈J.ab a.S→False
 jx:∀ q∈J.ab a.K,q∈J.ab a.S→False
 iT:∀ q∈J.ab a.K,q∈J.ab a.W→False
 kO:∀ q∈J.ab a.G,q∈J.ab a.S→False
 j':∀ q∈J.ab a.G,q∈J.ab a.W→False
 jT:∀ q∈J.ab a.G,q∈J.ab a.K→False
 kQ:∀ q∈J.ab a.H,q∈J.ab a.S→False
 ka:∀ q∈J.ab a.H,q∈J.ab a.W→False
 jU:∀ q∈J.ab a.H,q∈J.ab a.K→False
 kP:∀ q∈J.ab a.H,q∈J.ab a.G→False
 nums:ea L.b'∧ea L.base∧ea L.next
section
variable {w w':World} {aA Z' b:Nat} {a:a6.b7} {L:a6} {S:List Nat} {q:Nat}
theorem m8.has (h:m8 w aA a L):a6.Has w a L:=⟨h.S.has,h.W.has,h.K.has,h.G.has,h.H.has,h.nums⟩
theorem m8.mod (h:m8 w aA a L) (m:Mod S w w') (hd:∀ q∈iV a,q∉S):m8 w' aA a L :=
 ⟨h.S.mod m λ q I=>hd q (by simp [iV,I]),h.W.mod m λ q I=>hd q (by simp [iV,I]),h.K.mod m λ q I=>hd q (by simp [iV,I]),h.G.mod m λ q I=>hd q (by simp [iV,I]),h.H.mod m λ q I=>hd q (by simp [iV,I]),h.kb,h.jx,h.iT,h.kO,h.j',h.jT,h.kQ,h.ka,h.jU,h.kP,h.nums⟩
theorem m8.later (h:m8 w aA a L) (x:Ext w w'):m8 w' aA a L:=h.mod (S:= []) (Mod.a8 x) λ _ _ h=>by simp at h
theorem lG.down {A:Option Addr} {c:Nat} {l:List Int} (h:lG w aA A c l) (bc:Z'≤aA):lG w Z' A c l:=⟨h.has,λ q I=>⟨aYF bc (h.lt q I).1,(h.lt q I).2⟩,h.row⟩
theorem m8.down (h:m8 w aA a L) (bc:Z'≤aA):m8 w Z' a L:=⟨h.S.down bc,h.W.down bc,h.K.down bc,h.G.down bc,h.H.down bc,h.kb,h.jx,h.iT,h.kO,h.j',h.jT,h.kQ,h.ka,h.jU,h.kP,h.nums⟩
theorem m8.lt (h:m8 w aA a L) (I:q∈iV a):aA≤q∧q<w.heap.size:=by
 rcases abV I with κ | κ | κ | κ | κ
 ·exact h.S.lt q κ
 ·exact h.W.lt q κ
 ·exact h.K.lt q κ
 ·exact h.G.lt q κ
 ·exact h.H.lt q κ
theorem sU.top (h:sU w aA a L):m8 w aA a L:=⟨h.S,h.W,h.K,h.G,lG.of h.H,h.kb,h.jx,h.iT,h.kO,h.j',h.jT,h.kQ,h.ka,h.jU,h.kP,h.nums⟩
theorem Ev.top (h:Ev w aA b a L):m8 w aA a L:=⟨h.S,h.W,h.K,h.G,h.H,h.kb,h.jx,h.iT,h.kO,h.j',h.jT,h.kQ,h.ka,h.jU,h.kP,h.nums⟩
theorem Ev.apart (h:Ev w aA b a L) (I:q∈iV a):q≠b:=by
 rcases abV I with κ | κ | κ | κ | κ
 ·exact λ e=>h.bn q κ e
 ·exact λ e=>h.jw q κ e
 ·exact λ e=>h.ia q κ e
 ·exact λ e=>h.jd q κ e
 ·exact λ e=>h.je q κ e
theorem Pu (h:q∈jG b a) (iv:sU w aA a L):q=b∨(aA≤q∧q<w.heap.size):=(aYk.1 h).imp id λ h=>iv.top.lt h
theorem sU.later (h:sU w aA a L) (x:Ext w w'):sU w' aA a L:=⟨h.S.later x,h.W.later x,h.K.later x,h.G.later x,h.H.later x,h.kb,h.jx,h.iT,h.kO,h.j',h.jT,h.kQ,h.ka,h.jU,h.kP,h.nums⟩
theorem sU.mod (h:sU w aA a L) (m:Mod S w w') (hd:∀ q∈iV a,q∉S):sU w' aA a L :=
 ⟨h.S.mod m λ q I=>hd q (by simp [iV,I]),h.W.mod m λ q I=>hd q (by simp [iV,I]),h.K.mod m λ q I=>hd q (by simp [iV,I]),h.G.mod m λ q I=>hd q (by simp [iV,I]),h.H.mod m λ q I=>hd q (by simp [iV,I]),h.kb,h.jx,h.iT,h.kO,h.j',h.jT,h.kQ,h.ka,h.jU,h.kP,h.nums⟩
theorem sU.down (h:sU w aA a L) (bc:Z'≤aA):sU w Z' a L:=⟨h.S.down bc,h.W.down bc,h.K.down bc,h.G.down bc,h.H.down bc,h.kb,h.jx,h.iT,h.kO,h.j',h.jT,h.kQ,h.ka,h.jU,h.kP,h.nums⟩
theorem m7.ki (bg:aM w b (a6.cells a L) 79 (0,0)) (iv:sU w aA a L) (bc:Z'≤aA) (ag:Z'≤b) (aRy:b<aA):m7 w Z' b a L :=
 ⟨bg,iv.down bc,ag,λ q I e=>by have:=(iv.S.lt q I).1;omega,λ q I e=>by have:=(iv.W.lt q I).1;omega,λ q I e=>by have:=(iv.K.lt q I).1;omega,λ q I e=>by have:=(iv.G.lt q I).1;omega,λ q I e=>by have:=(iv.H.lt q I).1;omega⟩
def a6.uI (L:a6) (x:sP):a6×Int:=if L.a7≠0 then (L,L.a7) else if (L.step x).2≠0 then (L,(L.step x).2) else ((L.step x).1,0)
theorem ahK (h:¬ L.a7=0):L.uI x=(L,L.a7):=by unfold a6.uI;rw [aYq h]
theorem ahL (h:L.a7=0) (τ:¬ (L.step x).2=0):L.uI x=(L,(L.step x).2):=by unfold a6.uI;rw [aYi (by simpa using h),aYq τ]
theorem SC (h:L.a7=0) (τ:(L.step x).2=0):L.uI x=((L.step x).1,0):=by unfold a6.uI;rw [aYi (by simpa using h),aYi (by simpa using τ)]
end
theorem Ul (a:a6.b7) (L:a6) (x:sP) (w:World) (dY:a6.Has w a L) (Dc:x.ok):
  Calls prog 21 #[.agg #[Φ L.b', .slice a.S L.bC.length a.s,Φ L.base,Φ L.next, .slice a.W L.way.length a.w, .slice a.K L.bV.length a.k, .slice a.G L.got.length a.g, .slice a.H L.held.length a.h], .agg #[Φ x.kind,Φ x.at_, .bool x.keep, .string x.text]] w (λ e w'=>∃ a',e= .returned (.tuple #[.agg (a6.cells a' (L.uI x).1).toArray,Φ (L.uI x).2])∧m8 w' w.heap.size a' (L.uI x).1∧Ext w w'):=by
 refine ch (n:=26) func21 Z Z Z ?_;refine dZ Z Z λ cG bB aR d' ae=> ?_;have hE:=ae.lt;refine jR Z Z λ eC cJ bt hP ar=> ?_;have bO:=γ aR bt;have mB:=ar.lt;refine cU HK Z λ hG jf cr rm br=> ?_;have:=cr.size;have c6:=γ bO cr;have xX:=br.lt;refine aJ Z<|aw<| ?_;have ae:=ae.later (γ bt cr);refine aa (ax Z (ae.all p8 jY))<|ca ain Z Z ((am5 a L _ (dY.keep c6)).mono ?_);rintro e vh ⟨af4,rfl,G5,ey⟩;refine cu ?_;have:=ey.size;have ks:=γ c6 ey;have J5:=λ q I=>G5.top.lt (q:=q) I;refine cU HK Z λ DK aPB mE aTK BZ=> ?_;have rM:=γ ks mE;have aV7:=BZ.lt;refine cF Z Z BZ Z jY Z Z λ wF oR BZ=> ?_;have:=oR.size;have mf:=Ext.mod rM oR bo;refine aC<|av<|aw<| ?_;have ae:=(ae.later (γ ey mE)).mod oR aO;refine aa (ax Z (ae.all p8 jY))<|cM ay0 Z (aFk a L _ (dY.keep mf)) λ vk eL=> ?_;have:=eL.size;have jr:=γ mf eL;refine aJ Z<|aB Z<|cS Z Z<|aC<| ?_;refine eU Z (λ Fh=> ?_) (λ Fh=> ?_)
 ·have vX:¬ L.a7=0:=by simpa using Fh
  refine aw<| ?_;have BZ:=BZ.later eL;refine aa (ax Z (BZ.all p8 jY))<|vm Z<| ?_;have br:=((br.later (γ ey mE)).mod oR aO).later eL;refine cF Z Z br Z jY Z Z λ L2 qg br=> ?_;have vw:=Ext.mod jr qg bo;refine aY Z<|bD<|cz (.cell Z (br.all p8 jY) (.tmp Z .nil))<| ?_;have G5:=(((G5.later mE).mod oR (λ q I h=>by have Kn:=aYf.1 h;have:=J5 q I;omega)).later eL).mod qg (λ q I h=>by have Kn:=aYf.1 h;have:=J5 q I;omega);exact ⟨af4,by rw [ahK vX];rfl,by rw [ahK vX];exact G5.top.down (by omega),vw⟩
 ·have vX:L.a7=0:=by simpa using Fh
  refine bm<|aw<| ?_;have ae:=ae.later eL;refine aa (ax Z (ae.all p8 jY))<|ca ain Z Z ((am5 a L _ (dY.keep jr)).mono ?_);rintro e L4 ⟨XR,rfl,Ca,kK⟩;refine cu ?_;have:=kK.size;have rO:=γ jr kK;have auV:=λ q I=>Ca.top.lt (q:=q) I;have MS:=Ca;have ae:=ae.later kK;refine cF Z Z ae Z jY Z Z λ Qo FV ae=> ?_;have:=FV.size;have ym:=Ext.mod rO FV bo;refine aC<|av<|aw<| ?_;have ar:=(((ar.later (γ cr (γ ey mE))).mod oR aO).later (γ eL kK)).mod FV aO;refine aa (ax Z (ar.all ay1 ay2))<| ?_;have Ca:=Ca.mod FV (λ q I h=>by have Kn:=aYf.1 h;have:=auV q I;omega);have afI:=m7.ki (Z':=w.heap.size) ae Ca (by omega) (by omega) (by omega);refine ca ay3 Z Z ((aFn w bB XR L x _ ym afI vX Dc).mono ?_);rintro e V0 ⟨rfl,asy,xQ⟩;refine cu ?_;have yn:=Ext.mod ym xQ (abM afI);refine aJ Z<|aB Z<|cS Z Z<|aC<| ?_;refine eU Z (λ aaq=> ?_) (λ aaq=> ?_)
  ·have g_:¬ (L.step x).2=0:=by simpa using aaq
   refine aw<| ?_;have BZ:=((BZ.later (γ eL kK)).mod FV aO).mod xQ (λ h=>by rcases Pu h MS with e | e<;>omega);refine aa (ax Z (BZ.all p8 jY))<|vm Z<| ?_;have br:=((((br.later (γ ey mE)).mod oR aO).later (γ eL kK)).mod FV aO).mod xQ (λ h=>by rcases Pu h MS with e | e<;>omega);refine cF Z Z br Z jY Z Z λ V1 oV br=> ?_;have D5:=Ext.mod yn oV bo;refine aY Z<|bD<|cz (.cell Z (br.all p8 jY) (.tmp Z .nil))<| ?_;have G5:=(((((G5.later mE).mod oR (λ q I h=>by have Kn:=aYf.1 h;have:=J5 q I;omega)).later (γ eL kK)).mod FV (λ q I h=>by have Kn:=aYf.1 h;have:=J5 q I;omega)).mod xQ (λ q I h=>by have:=J5 q I;rcases Pu h MS with e | e<;>omega)).mod oV (λ q I h=>by have Kn:=aYf.1 h;have:=J5 q I;omega);exact ⟨af4,by rw [ahL vX g_];rfl,by rw [ahL vX g_];exact G5.top.down (by omega),D5⟩
  ·have g_:(L.step x).2=0:=by simpa using aaq
   obtain ⟨a9,Xg,asr⟩:=asy g_;have asu:=Xg.fI;have dI:=Xg.top;have auW:∀ q∈iV a9,q=bB∨vk.heap.size≤q:=λ q I=>(asr q I).elim (λ h=>(Pu h MS).imp id λ h=>h.1) (λ h=> .inr (by omega));refine bm<|aw<|aa (ax Z (asu.all p8 jY))<| ?_;have br:=((((br.later (γ ey mE)).mod oR aO).later (γ eL kK)).mod FV aO).mod xQ (λ h=>by rcases Pu h MS with e | e<;>omega);refine cF Z Z br Z jY Z Z λ Gu kH br=> ?_;have pS:=Ext.mod yn kH bo;refine aY Z<|cz (.cell Z (br.all p8 jY) (.tmp Z .nil))<| ?_;have dI:=dI.mod kH (λ q I h=>by have Kn:=aYf.1 h;have:=auW q I;have:=Xg.apart I;omega);exact ⟨a9,by rw [SC vX g_];rfl,by rw [SC vX g_];exact dI,pS⟩
end
end Go.Proofs.YtmeeljmapailnaaGreat
