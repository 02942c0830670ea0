import Derived.Test.YtlikikpgmmkjbaaGreatShelf
set_option linter.unusedVariables false
set_option linter.unusedSimpArgs false
set_option maxRecDepth 100000
set_option maxHeartbeats 4000000
open Go.RowKit
namespace Go.Proofs.YtlikikpgmmkjbaaGreat
open Tryz
abbrev aVl:=@UInt8.toNat_ofNat'
abbrev aWo:=@Go.World.cell?_alloc_new
abbrev aXo:=@Nat.pow_succ
abbrev aYP:=@List.getElem_singleton
section
def ic (W:aj) (l:List aO):Int:=if oC W l≠0 then oC W l else if 1000000≤W.now then 6 else 0
def zM (W:aj) (l:List aO):aj:=gQ W (dZ W l l.length)
noncomputable def zN (W:aj) (l:List aO):aj:=hH (zM W l) (eB W l l.length)
noncomputable def u2 (W:aj) (l:List aO):aj:=(zN W l).iL (e2 W l l.length)
noncomputable def oD (W:aj) (l:List aO):aj:=if ic W l≠0 then aj.zero else {u2 W l with now:=(u2 W l).now+1}
def zP (W:aj) (l:List aO):List Int:=if ic W l≠0 then [] else tB W (dZ W l l.length)
noncomputable def zQ (W:aj) (l:List aO):List Int:=if ic W l≠0 then [] else o_ (zM W l) (eB W l l.length)
noncomputable def zO (W:aj) (l:List aO):List Bool:=if ic W l≠0 then [] else (zN W l).vQ (e2 W l l.length)
theorem amf {W:aj} {l:List aO} (h:ic W l≠0):oD W l=aj.zero∧zP W l= []∧zQ W l= []∧zO W l= []:=by
 unfold oD zP zQ zO;simp only [aUz h,and_self]
theorem amg {W:aj} {l:List aO} (h:ic W l=0):oD W l= {u2 W l with now:=(u2 W l).now+1}∧zP W l=tB W (dZ W l l.length)∧zQ W l=o_ (zM W l) (eB W l l.length)∧zO W l=(zN W l).vQ (e2 W l l.length):=by
 have dk:¬ ic W l≠0:=by simpa using h
 unfold oD zP zQ zO;simp only [aUr dk,and_self]
theorem Z3 {W:aj} {l:List aO} (h:ic W l=0):oC W l=0∧W.now<1000000∧W.bq=0∧l.length≤100:=by
 unfold ic at h;split at h
 ·contradiction
 ·rename_i γ
  have γ:oC W l=0:=by simpa using γ
  split at h
  ·exact nomatch h
  ·exact ⟨γ,by omega,(SP γ).2,aEn γ⟩
theorem asv {W:aj} {l:List ct} (h:W.bq=0) (aB:l.length≤200):W.rM l=0∧W.iL l=(W.h8 l).1:=by
 have e:W.rM l=0:=by unfold aj.rM;rw [aUr (by omega),aUr (by omega)]
 exact ⟨e,by unfold aj.iL;rw [aUz e]⟩
theorem U9 {W:aj} {l:List dy} (h:W.bq=0) (aB:l.length≤200):mh W l=0:=by unfold mh;rw [aUr (by omega),aUr (by omega)]
theorem aE1 {W:aj} {l:List aO} (h:ic W l=0):mh W (dZ W l l.length)=0∧sk (zM W l) (eB W l l.length)=0∧(zN W l).rM (e2 W l l.length)=0∧Good (zM W l)∧Good (zN W l)∧Good (u2 W l):=by
 obtain ⟨γ,aa,av,aV⟩:=Z3 h;obtain ⟨hX,dW,gd⟩:=alX W l l.length;have a8:=U9 (l:=dZ W l l.length) av (by omega);have g1:Good (zM W l):=(al8 a8).right;have bl:=(R_ (W:=zM W l) (l:=eB W l l.length) g1.bq (by omega)).1;have g2:Good (zN W l):=(aA6 bl).1;obtain ⟨cZ,jP⟩:=asv (W:=zN W l) (l:=e2 W l l.length) g2.bq (by omega);refine ⟨a8,bl,cZ,g1,g2, ?_⟩;unfold u2;rw [jP];exact g2.h8 _
def PC (W:aj) (l:List aO) (w:World) (e:Ending) (w':World):Prop :=
 ∃ a' hq b3 cp c1 cX c2,e= .returned (.tuple #[.agg (aj.cells a' (oD W l)).toArray, .agg #[.slice hq (zP W l).length b3, .slice cp (zQ W l).length c1, .slice cX (zO W l).length c2], .int .i64 (ic W l)])∧bj w' w.heap.size a' (oD W l)∧
  bS.aD 3 8 w' w.heap.size (κ.ae hq) hq b3 (zP W l)∧bS.aD 3 8 w' w.heap.size (κ.ae cp) cp c1 (zQ W l)∧zJ.aD 4 1 w' w.heap.size (κ.ae cX) cX c2 (zO W l)∧
  (∀ q,(q∈κ.ae hq∨q∈κ.ae cp∨q∈κ.ae cX)→q∉bj.bV a')∧Ext w w'
theorem aEY (a:aj.cq) (W:aj) (A:Option Addr) (c:Nat) (l:List aO) (w:World) (bQ:aj.Has w a W) (aB:aO.rep.aK 48 w A c l) (γ:oC W l≠0):
  Calls prog 25 #[.agg ((aj.cells a W).toArray), .slice A l.length c] w (PC W l w):=by
 have dF:(oC W l == 0)=false:=by simpa using γ
 have dt:(oC W l != 0)=true:=by simpa using γ
 refine cl (n:=62) func25 Z Z Z ?_;refine ai<|cI Z Z Z Z λ cW bw a7 eA ab=> ?_;have:=a7.size;have bk:=τ (Ext.bK w) a7;have eG:=ab.lt;refine al Z pR Z Z λ eM cA bo iq ah=> ?_;have:=bo.size;have bR:=τ bk bo;have ia:=ah.lt;refine al Z HS Z Z λ hk h7 b8 p6 aL=> ?_;have:=b8.size;have c':=τ bR b8;have oz:=aL.lt;refine va Z<|ag<|ai<|vm Z<| ?_;have ab:=ab.later (τ bo b8);refine J (ak Z (ab.all dD cf))<|ca VM Z Z ((aEo _ _ l a W _ (aB.keep c') (bQ.keep c') γ).mono ?_);rintro e nd ⟨rfl,eN⟩;refine ⟨_,Z, ?_⟩;have:=eN.size;have eO:=τ c' eN;refine vm rfl<|J (ex rfl rfl)<|J (ex rfl rfl)<|J (ex rfl rfl)<|J (ex rfl rfl)<|va rfl<|va rfl<|va rfl<|va rfl<|ag<|az<|ai<|vm rfl<|J (beq rfl rfl)<|vm (gU rfl dF)<|br (v:=undef) rfl rfl rfl rfl (λ hc=>nomatch hc) rfl<|br (v:=undef) rfl rfl rfl rfl (λ hc=>nomatch hc) rfl<|br (v:=undef) rfl rfl rfl rfl (λ hc=>nomatch hc) rfl<|J (uZ rfl rfl)<|ag<|hL rfl<| ?_;refine bt<|az<|ai<|vm Z<|J (bne Z Z)<|ag<|fe (gU Z dt)<|ai<|J (v:= .agg #[.int .i64 0, .int .i64 0, .slice none 0 0, .slice none 0 0, .slice none 0 0, .slice none 0 0, .slice none 0 0, .int .i64 0, .int .i64 0]) (cM Z (by kernel_rfl))<|J (v:= .agg #[.slice none 0 0, .slice none 0 0, .slice none 0 0]) (cM Z (by kernel_rfl))<|vm Z<| ?_;have ah:=ah.later (τ b8 eN);refine st (new:= [.int .i64 0, .int .i64 0, .slice none 0 0, .slice none 0 0, .slice none 0 0, .slice none 0 0, .slice none 0 0, .int .i64 0, .int .i64 0]) Z Z ah Z cf Z Z Z λ sw DR ah=> ?_;have:=DR.size;have ix:=Ext.mod eO DR bx;have aL:=aL.later eN;have aL:=aL.mod DR aQ;refine st (new:= [.slice none 0 0, .slice none 0 0, .slice none 0 0]) Z Z aL Z AX Z Z Z λ tG x3 aL=> ?_;have:=x3.size;have gw:=Ext.mod ix x3 bx;refine va Z<|ag<|rt<|bT<| ?_;have ah:=ah.mod x3 aQ;refine bb (.cell Z (ah.all dD cf) (.cell Z (aL.all Qs AX) (.tmp Z .nil)))<| ?_;have e0:ic W l=oC W l:=by unfold ic;rw [aUz γ]
 obtain ⟨lQ,z2,z3,z4⟩:=amf (W:=W) (l:=l) (by rw [e0];first | exact γ | decide);exact ⟨⟨none,none,none,none,none,0,0,0,0,0⟩,none,0,none,0,none,0,by rw [e0,lQ,z2,z3,z4];rfl,by rw [lQ];exact bj.zero _ _,by rw [z2];exact κ.aD.nil _,by rw [z3];exact κ.aD.nil _,by rw [z4];exact κ.aD.nil _,λ q I=>by simp [κ.ae] at I,gw⟩
theorem aEZ (a:aj.cq) (W:aj) (A:Option Addr) (c:Nat) (l:List aO) (w:World) (bQ:aj.Has w a W) (aB:aO.rep.aK 48 w A c l) (γ:oC W l=0) (aa:1000000≤W.now):
  Calls prog 25 #[.agg ((aj.cells a W).toArray), .slice A l.length c] w (PC W l w):=by
 refine cl (n:=62) func25 Z Z Z ?_;refine ai<|cI Z Z Z Z λ cW bw a7 eA ab=> ?_;have:=a7.size;have bk:=τ (Ext.bK w) a7;have eG:=ab.lt;refine al Z pR Z Z λ eM cA bo iq ah=> ?_;have:=bo.size;have bR:=τ bk bo;have ia:=ah.lt;refine al Z HS Z Z λ hk h7 b8 p6 aL=> ?_;have:=b8.size;have c':=τ bR b8;have oz:=aL.lt;refine va Z<|ag<|ai<|vm Z<| ?_;have ab:=ab.later (τ bo b8);refine J (ak Z (ab.all dD cf))<|ca VM Z Z ((alZ _ _ l a W _ (aB.keep c') (bQ.keep c') γ).mono ?_);rintro e tG ⟨anO,aqT,T4,aqU,anP,Vi,rfl,Cy,vz,oP,fi⟩;refine ⟨_,Z, ?_⟩;have:=fi.size;have gw:=τ c' fi;have GF:=λ q I=>(Cy.lt q I).2;have Nf:=λ q I=>(Cy.lt q I).1;have Z9:=λ q I=>(vz.lt q I).2;have Ng:=λ q I=>(vz.lt q I).1;have pc:=λ q I=>(oP.lt q I).2;have nJ:=λ q I=>(oP.lt q I).1;refine vm Z<|J (ex Z Z)<|J (ex Z Z)<|J (ex Z Z)<|J (ex Z Z)<|va Z<|va Z<|va Z<|va Z<|ag<|az<|ai<|vm Z<|J (beq Z Z)<|vm Z<|iV Z Z Z<|J (au Li Z)<|iV Z Z Z<| ?_;have ab:=ab.later fi;refine J (ak Z (ab.one bf Z))<|iV Z Z Z<|J (j4 Z Z)<|J (na Z Z)<|ag<| ?_;have oj:(decide (1000000≤W.now))=true:=by exact aUL aa
 refine fe (by rw [← oj];rfl)<|rg<|va Z<|ag<|az<|ai<|vm Z<|J (bne Z Z)<|ag<|fe Z<|ai<|J (v:= .agg #[.int .i64 0, .int .i64 0, .slice none 0 0, .slice none 0 0, .slice none 0 0, .slice none 0 0, .slice none 0 0, .int .i64 0, .int .i64 0]) (cM Z (by kernel_rfl))<|J (v:= .agg #[.slice none 0 0, .slice none 0 0, .slice none 0 0]) (cM Z (by kernel_rfl))<|vm Z<| ?_;have ah:=ah.later (τ b8 fi);refine st (new:= [.int .i64 0, .int .i64 0, .slice none 0 0, .slice none 0 0, .slice none 0 0, .slice none 0 0, .slice none 0 0, .int .i64 0, .int .i64 0]) Z Z ah Z cf Z Z Z λ GJ Bw ah=> ?_;have:=Bw.size;have vn:=Ext.mod gw Bw bx;have aL:=aL.later fi;have aL:=aL.mod Bw aQ;refine st (new:= [.slice none 0 0, .slice none 0 0, .slice none 0 0]) Z Z aL Z AX Z Z Z λ BU uV aL=> ?_;have:=uV.size;have k4:=Ext.mod vn uV bx;refine va Z<|ag<|rt<|bT<| ?_;have ah:=ah.mod uV aQ;refine bb (.cell Z (ah.all dD cf) (.cell Z (aL.all Qs AX) (.tmp Z .nil)))<| ?_;have e0:ic W l=6:=by unfold ic;rw [aUr (by simpa using γ),aUz aa]
 obtain ⟨lQ,z2,z3,z4⟩:=amf (W:=W) (l:=l) (by rw [e0];first | exact γ | decide);exact ⟨⟨none,none,none,none,none,0,0,0,0,0⟩,none,0,none,0,none,0,by rw [e0,lQ,z2,z3,z4];rfl,by rw [lQ];exact bj.zero _ _,by rw [z2];exact κ.aD.nil _,by rw [z3];exact κ.aD.nil _,by rw [z4];exact κ.aD.nil _,λ q I=>by simp [κ.ae] at I,k4⟩
theorem aE0 (a:aj.cq) (W:aj) (A:Option Addr) (c:Nat) (l:List aO) (w:World) (bQ:aj.Has w a W) (aB:aO.rep.aK 48 w A c l) (aI:ic W l=0):
  Calls prog 25 #[.agg ((aj.cells a W).toArray), .slice A l.length c] w (PC W l w):=by
 obtain ⟨γ,aa,av,aV⟩:=Z3 aI;obtain ⟨a8,bl,cZ,g1,g2,g3⟩:=aE1 aI;have ayg:0≤(u2 W l).now∧(u2 W l).now≤1000000:=g3.now;refine cl (n:=62) func25 Z Z Z ?_;refine ai<|cI Z Z Z Z λ cW bw a7 eA ab=> ?_;have:=a7.size;have bk:=τ (Ext.bK w) a7;have eG:=ab.lt;refine al Z pR Z Z λ eM cA bo iq ah=> ?_;have:=bo.size;have bR:=τ bk bo;have ia:=ah.lt;refine al Z HS Z Z λ hk h7 b8 p6 aL=> ?_;have:=b8.size;have c':=τ bR b8;have oz:=aL.lt;refine va Z<|ag<|ai<|vm Z<| ?_;have ab:=ab.later (τ bo b8);refine J (ak Z (ab.all dD cf))<|ca VM Z Z ((alZ _ _ l a W _ (aB.keep c') (bQ.keep c') γ).mono ?_);rintro e tG ⟨anO,aqT,T4,aqU,anP,Vi,rfl,Cy,vz,oP,fi⟩;refine ⟨_,Z, ?_⟩;have:=fi.size;have gw:=τ c' fi;have GF:=λ q I=>(Cy.lt q I).2;have Nf:=λ q I=>(Cy.lt q I).1;have Z9:=λ q I=>(vz.lt q I).2;have Ng:=λ q I=>(vz.lt q I).1;have pc:=λ q I=>(oP.lt q I).2;have nJ:=λ q I=>(oP.lt q I).1;refine vm Z<|J (ex Z Z)<|J (ex Z Z)<|J (ex Z Z)<|J (ex Z Z)<|va Z<|va Z<|va Z<|va Z<|ag<|az<|ai<|vm Z<|J (beq Z Z)<|vm Z<|iV Z Z Z<|J (au Li Z)<|iV Z Z Z<| ?_;have ab:=ab.later fi;refine J (ak Z (ab.one bf Z))<|iV Z Z Z<|J (j4 Z Z)<|J (na Z Z)<|ag<| ?_;have oj:(decide (1000000≤W.now))=false:=by exact aUU (by omega)
 refine hL (by rw [← oj];rfl)<|bt<|az<|ai<|vm Z<|J (bne Z Z)<|ag<|hL Z<|bt<|ai<|al Z HS Z Z λ GJ aJ0 k1 aN1 mb=> ?_;have:=k1.size;have vn:=τ gw k1;have aQT:=mb.lt;refine ag<|ai<| ?_;have ab:=ab.later k1;refine J (ak Z (ab.all dD cf))<|vm Z<| ?_;have Cy:=Cy.later k1;refine ca afk Z Z ((al6 (dZ W l (l).length) _ _ a W _ (bQ.keep vn) Cy.has).mono ?_);rintro e JM ⟨a40,sH,vH,rfl,EP,ja,Xl,oG⟩;refine ⟨_,Z, ?_⟩;have:=oG.size;have vq:=τ vn oG;have tC:=λ q I=>(EP.lt q I).2;have se:=λ q I=>(EP.lt q I).1;have JD:=λ q I=>(ja.lt q I).2;have Bq:=λ q I=>(ja.lt q I).1;have aKN:∀ q∈κ.ae sH,q∈bj.bV a40→False:=Xl;have aKT:∀ q∈bj.bV a40,q∈κ.ae sH→False:=λ q γ aa=>Xl q aa γ;refine vm Z<|J (ex Z Z)<|J (ex Z Z)<|J (ex Z Z)<| ?_;have ab:=ab.later oG;refine st Z Z ab Z cf Z Z Z λ Og zx ab=> ?_;have:=zx.size;have qs:=Ext.mod vq zx bx;refine J (au atn Z)<| ?_;have mb:=mb.later oG;have mb:=mb.mod zx aQ;refine st (new:= [.slice sH ((tB W (dZ W l (l).length)).length) vH, .slice none 0 0, .slice none 0 0]) Z Z mb Z xD Z Z Z λ GM gX mb=> ?_;have:=gX.size;have oJ:=Ext.mod qs gX bx;refine ag<|ai<| ?_;have ab:=ab.mod gX aQ;refine J (ak Z (ab.all dD cf))<|vm Z<| ?_;have vz:=vz.later (τ k1 oG);have vz:=vz.mod zx (bC Ng);have vz:=vz.mod gX (b' Z9);have EP:=EP.mod zx (bC se);have EP:=EP.mod gX (bC se);refine ca ato Z Z ((aBs a40 (gQ W (dZ W l (l).length)) _ _ (eB W l (l).length) _ EP.has vz.has).mono ?_);rintro e Oj ⟨xo,Hc,P6,rfl,n5,k_,Iv,tM⟩;refine ⟨_,Z, ?_⟩;have:=tM.size;have sC:=τ oJ tM;have BO:=λ q I=>(n5.lt q I).2;have IX:=λ q I=>(n5.lt q I).1;have BP:=λ q I=>(k_.lt q I).2;have DL:=λ q I=>(k_.lt q I).1;have aKO:∀ q∈κ.ae Hc,q∈bj.bV xo→False:=Iv;have aKX:∀ q∈bj.bV xo,q∈κ.ae Hc→False:=λ q γ aa=>Iv q aa γ;refine vm Z<|J (ex Z Z)<|J (ex Z Z)<|J (ex Z Z)<| ?_;have ab:=ab.later tM;refine st Z Z ab Z cf Z Z Z λ Tp nM ab=> ?_;have:=nM.size;have sF:=Ext.mod sC nM bx;refine J (au atq Z)<| ?_;have mb:=mb.later tM;have mb:=mb.mod nM aQ;refine st (new:= [.slice sH ((tB W (dZ W l (l).length)).length) vH, .slice Hc ((o_ (gQ W (dZ W l (l).length)) (eB W l (l).length)).length) P6, .slice none 0 0]) Z Z mb Z xD Z Z Z λ amY By mb=> ?_;have:=By.size;have OJ:=Ext.mod sF By bx;refine ag<|ai<| ?_;have ab:=ab.mod By aQ;refine J (ak Z (ab.all dD cf))<|vm Z<| ?_;have oP:=oP.later (τ k1 oG);have oP:=oP.mod zx (bC nJ);have oP:=oP.mod gX (b' pc);have oP:=oP.later tM;have oP:=oP.mod nM (bC nJ);have oP:=oP.mod By (b' pc);have n5:=n5.mod nM (bC IX);have n5:=n5.mod By (bC IX);refine ca atr Z Z ((asD (e2 W l (l).length) _ _ _ xo (hH (gQ W (dZ W l (l).length)) (eB W l (l).length)) n5.has oP.has).mono ?_);rintro e Tt ⟨lz,Kb,Vm,rfl,mg,n7,aha,dM⟩;refine ⟨_,Z, ?_⟩;have:=dM.size;have tS:=τ OJ dM;have Oa:=λ q I=>(mg.lt q I).2;have F9:=λ q I=>(mg.lt q I).1;have aSE:=λ q I=>(n7.lt q I).2;have Ni:=λ q I=>(n7.lt q I).1;have asm:∀ q∈κ.ae Kb,q∈bj.bV lz→False:=aha;have aK6:∀ q∈bj.bV lz,q∈κ.ae Kb→False:=λ q γ aa=>aha q aa γ;refine vm Z<|J (ex Z Z)<|J (ex Z Z)<|J (ex Z Z)<| ?_;have ab:=ab.later dM;refine st Z Z ab Z cf Z Z Z λ BW fW ab=> ?_;have:=fW.size;have oK:=Ext.mod tS fW bx;refine J (au ats Z)<| ?_;have mb:=mb.later dM;have mb:=mb.mod fW aQ;refine st (new:= [.slice sH ((tB W (dZ W l (l).length)).length) vH, .slice Hc ((o_ (gQ W (dZ W l (l).length)) (eB W l (l).length)).length) P6, .slice Kb (((hH (gQ W (dZ W l (l).length)) (eB W l (l).length)).vQ (e2 W l (l).length)).length) Vm]) Z Z mb Z att Z Z Z λ amZ uW mb=> ?_;have:=uW.size;have OK:=Ext.mod oK uW bx;refine ag<|ai<|J (au Li Z)<| ?_;have ab:=ab.mod uW aQ;refine J (ak Z (ab.one bf Z))<|J (bad Z Z (bH ((by have I:_∧_:=ayg;unfold u2 zN zM at I;omega))))<|J (au Li Z)<|st (new:= [.int .i64 (((hH (gQ W (dZ W l (l).length)) (eB W l (l).length)).iL (e2 W l (l).length)).field.wide), .int .i64 (((hH (gQ W (dZ W l (l).length)) (eB W l (l).length)).iL (e2 W l (l).length)).field.high), .slice lz.P (((hH (gQ W (dZ W l (l).length)) (eB W l (l).length)).iL (e2 W l (l).length)).field.aY.length) lz.p, .slice lz.B (((hH (gQ W (dZ W l (l).length)) (eB W l (l).length)).iL (e2 W l (l).length)).aZ.length) lz.b, .slice lz.S (((hH (gQ W (dZ W l (l).length)) (eB W l (l).length)).iL (e2 W l (l).length)).bg.length) lz.s, .slice lz.M (((hH (gQ W (dZ W l (l).length)) (eB W l (l).length)).iL (e2 W l (l).length)).bs.length) lz.m, .slice lz.T (((hH (gQ W (dZ W l (l).length)) (eB W l (l).length)).iL (e2 W l (l).length)).ao.length) lz.t, .int .i64 (((hH (gQ W (dZ W l (l).length)) (eB W l (l).length)).iL (e2 W l (l).length)).next), .int .i64 ((((hH (gQ W (dZ W l (l).length)) (eB W l (l).length)).iL (e2 W l (l).length)).now)+1)]) Z Z ab Z cU Z Z Z λ Tv tq ab=> ?_;have:=tq.size;have Ch:=Ext.mod OK tq bx;refine ag<|az<| ?_;refine SC [cA] [(0,0),(1,0),(2,2),(3,3)] [0,1,2,3,4] (by kernel_rfl) (by kernel_rfl) ?_;refine y9 Z Z (λ _ x=>ak Z ((ab.mod x aQ).all dD cf)) Z<| ?_;have mb:=mb.mod tq aQ;refine y9 Z Z (λ _ x=>ak Z ((mb.mod x aQ).all Qs AX)) Z<| ?_;have ah:=ah.later (τ b8 (τ fi (τ k1 oG)));have ah:=ah.mod zx aQ;have ah:=ah.mod gX aQ;have ah:=ah.later tM;have ah:=ah.mod nM aQ;have ah:=ah.mod By aQ;have ah:=ah.later dM;have ah:=ah.mod fW aQ;have ah:=ah.mod uW aQ;have ah:=ah.mod tq aQ;refine Fu Z Z Z λ Tx gC Q hK=>st (new:= [.int .i64 (((hH (gQ W (dZ W l (l).length)) (eB W l (l).length)).iL (e2 W l (l).length)).field.wide), .int .i64 (((hH (gQ W (dZ W l (l).length)) (eB W l (l).length)).iL (e2 W l (l).length)).field.high), .slice lz.P (((hH (gQ W (dZ W l (l).length)) (eB W l (l).length)).iL (e2 W l (l).length)).field.aY.length) lz.p, .slice lz.B (((hH (gQ W (dZ W l (l).length)) (eB W l (l).length)).iL (e2 W l (l).length)).aZ.length) lz.b, .slice lz.S (((hH (gQ W (dZ W l (l).length)) (eB W l (l).length)).iL (e2 W l (l).length)).bg.length) lz.s, .slice lz.M (((hH (gQ W (dZ W l (l).length)) (eB W l (l).length)).iL (e2 W l (l).length)).bs.length) lz.m, .slice lz.T (((hH (gQ W (dZ W l (l).length)) (eB W l (l).length)).iL (e2 W l (l).length)).ao.length) lz.t, .int .i64 (((hH (gQ W (dZ W l (l).length)) (eB W l (l).length)).iL (e2 W l (l).length)).next), .int .i64 ((((hH (gQ W (dZ W l (l).length)) (eB W l (l).length)).iL (e2 W l (l).length)).now)+1)]) Z Z (ah.later gC) Z cf Z Z Z λ Om kV ah=>hK _ _ ⟨(Mod.bF gC).trans kV, ?_⟩;have:=gC.size;have Cj:=τ Ch gC;have:=kV.size;have wZ:=Ext.mod Cj kV bx;have aL:=aL.later (τ fi (τ k1 oG));have aL:=aL.mod zx aQ;have aL:=aL.mod gX aQ;have aL:=aL.later tM;have aL:=aL.mod nM aQ;have aL:=aL.mod By aQ;have aL:=aL.later dM;have aL:=aL.mod fW aQ;have aL:=aL.mod uW aQ;have aL:=aL.mod tq aQ;have aL:=aL.later gC;have aL:=aL.mod kV aQ;refine We Z Z Z λ On ke Q hK=>st (new:= [.slice sH ((tB W (dZ W l (l).length)).length) vH, .slice Hc ((o_ (gQ W (dZ W l (l).length)) (eB W l (l).length)).length) P6, .slice Kb (((hH (gQ W (dZ W l (l).length)) (eB W l (l).length)).vQ (e2 W l (l).length)).length) Vm]) Z Z (aL.later ke) Z AX Z Z Z λ JH l2 aL=>hK _ _ ?_;have:=ke.size;have rj:=τ wZ ke;have:=l2.size;have Ox:=Ext.mod rj l2 bx;refine jF Z Z (λ _=>fA Z) Z<|QK λ zY Em=> ?_;have:=Em.size;have tO:=τ Ox Em;refine aT<|rt<| ?_;have ah:=ah.later ke;have ah:=ah.mod l2 aQ;have ah:=ah.later Em;have aL:=aL.later Em;refine bb (.cell Z (ah.all dD cf) (.cell Z (aL.all Qs AX) (.tmp Z .nil)))<| ?_;have mg:=mg.mod fW (bC F9);have mg:=mg.mod uW (bC F9);have mg:=mg.mod tq (bC F9);have mg:=mg.later gC;have mg:=mg.mod kV (bC F9);have mg:=mg.later ke;have mg:=mg.mod l2 (bC F9);have mg:=mg.later Em;have ja:=ja.mod zx (bC Bq);have ja:=ja.mod gX (bC Bq);have ja:=ja.later tM;have ja:=ja.mod nM (bC Bq);have ja:=ja.mod By (bC Bq);have ja:=ja.later dM;have ja:=ja.mod fW (bC Bq);have ja:=ja.mod uW (bC Bq);have ja:=ja.mod tq (bC Bq);have ja:=ja.later gC;have ja:=ja.mod kV (bC Bq);have ja:=ja.later ke;have ja:=ja.mod l2 (bC Bq);have ja:=ja.later Em;have k_:=k_.mod nM (bC DL);have k_:=k_.mod By (bC DL);have k_:=k_.later dM;have k_:=k_.mod fW (bC DL);have k_:=k_.mod uW (bC DL);have k_:=k_.mod tq (bC DL);have k_:=k_.later gC;have k_:=k_.mod kV (bC DL);have k_:=k_.later ke;have k_:=k_.mod l2 (bC DL);have k_:=k_.later Em;have n7:=n7.mod fW (bC Ni);have n7:=n7.mod uW (bC Ni);have n7:=n7.mod tq (bC Ni);have n7:=n7.later gC;have n7:=n7.mod kV (bC Ni);have n7:=n7.later ke;have n7:=n7.mod l2 (bC Ni);have n7:=n7.later Em;obtain ⟨lQ,z2,z3,z4⟩:=amg aI;have hR:bj zY w.heap.size lz (oD W l):=by rw [lQ];exact (mg.down (by omega)).alI Z Z Z Z Z ⟨mg.nums.1,mg.nums.2.1,mg.nums.2.2.1,bN.2 (by show _≤(u2 W l).now+1∧(u2 W l).now+1≤_;omega)⟩
 exact ⟨lz,sH,vH,Hc,P6,Kb,Vm,by rw [aI,lQ,z2,z3,z4];rfl,hR,by rw [z2];exact ja.down (by omega),by rw [z3];exact k_.down (by omega),by rw [z4];exact n7.down (by omega),λ q I hf=>I.elim (λ I=>by exfalso;(have:=F9 q hf;(have:=JD q I;omega))) (λ I=>I.elim (λ I=>by exfalso;(have:=F9 q hf;(have:=BP q I;omega))) (λ I=>asm q I hf)),tO⟩
theorem N1 (a:aj.cq) (W:aj) (A:Option Addr) (c:Nat) (l:List aO) (w:World) (bQ:aj.Has w a W) (aB:aO.rep.aK 48 w A c l):Calls prog 25 #[.agg (aj.cells a W).toArray, .slice A l.length c] w (PC W l w):=by
 by_cases γ:oC W l=0
 ·by_cases aa:1000000≤W.now
  ·exact aEZ a W A c l w bQ aB γ aa
  ·exact aE0 a W A c l w bQ aB (by unfold ic;rw [aUr (by simpa using γ),aUr aa])
 ·exact aEY a W A c l w bQ aB γ
end
section
structure Kept (W V:aj):Prop where
 field:V.field=W.field
 aZ:V.aZ=W.aZ
 now:V.now=W.now
 next:V.next=W.next+((V.ao.length:Int) - W.ao.length)
 len:W.ao.length≤V.ao.length
 old:∀ (i:Nat) (t:bd),W.ao[i]? =some t→∃ u:bd,V.ao[i]? =some u∧ {u with load:=t.load}=t
 new:∀ (i:Nat) (u:bd),W.ao.length≤i→V.ao[i]? =some u→W.next≤u.id
theorem Kept.qg {U V W:aj} (h:Kept U V) (k:Kept V W):Kept U W where
 field:=k.field.trans h.field
 aZ:=k.aZ.trans h.aZ
 now:=k.now.trans h.now
 next:=by rw [k.next,h.next];omega
 len:=aUP h.len k.len
 old i t aF:=by
  obtain ⟨u,hu,e⟩:=h.old i t aF;obtain ⟨x,hx,bl⟩:=k.old i u hu;refine ⟨x,hx, ?_⟩;rw [← e,← bl]
 new i u aq hu:=by
  by_cases γ:i<V.ao.length
  ·obtain ⟨t,aF⟩:=hC γ;obtain ⟨x,hx,e⟩:=k.old i t aF;rw [hu] at hx;obtain rfl:=aUh hx;have:=h.new i t aq aF;have cZ:t.id=u.id:=by rw [← e]
   omega
  ·have aa:=k.new i u (by omega) hu;have:=h.next;have:=h.len;omega
theorem Kept.getD {W V:aj} (h:Kept W V) {i:Nat} (aq:i<W.ao.length): {V.ao.getD i default with load:=(W.ao.getD i default).load}=W.ao.getD i default:=by
 obtain ⟨t,aF⟩:=hC aq;obtain ⟨u,hu,e⟩:=h.old i t aF;rw [aUi,aUi,aF,hu];exact e
def akO:List ct→List Bool→List ct
 | d::l,b::c6=>if b then d::akO l c6 else akO l c6
 | _,_=> []
end
section
theorem al7 {W:aj} (h:W.bq=0):gQ W []=W∧tB W []= []:=by
 have a8:=U9 (l:= []) h (by decide);have hS:=al8 a8;have fp:fH W []=List.replicate W.ao.length 0:=by unfold fH;rw [a8];rfl
 have hu:Bj W []=W.ao:=by
  apply aVJ;intro i;cases aF:W.ao[i]? with
  | none =>
   have:=List.getElem?_eq_none_iff.1 aF;rw [aVp (by rw [RI];exact this)]
  | some t =>
   rw [RH aF,fp];have:(List.replicate W.ao.length (0:Int)).getD i 0=0:=by
    rw [aUi,aVr];split<;>rfl
   rw [this,Int.sub_zero]
 have hf:∀ t∈W.ao,0<t.dc:=λ t aF=>by have:=(hS.km.each aF).2.2.dc;omega
 constructor
 ·rw [hS.bQ,hu,List.filter_eq_self.2 λ t aF=>aUL (hf t aF)]
 ·rw [hS.bD,hu,List.filter_eq_nil_iff.2 λ t aF=>by simp [hf t aF]];rfl
theorem al3 {f:aE} {T:List bd}:∀ k,jX f [] T k=(T, [])
 | 0=>rfl
 | k+1=>GB (al3 k) (al5 (by show gA _ ([]:List dz)<0;unfold gA;simp))
theorem aA5 {W:aj} (h:W.bq=0):hH W []=W∧o_ W []= []:=by
 obtain ⟨a8,bl,cZ⟩:=R_ (W:=W) (l:= []) h (by decide);rw [bl,cZ];unfold aj.l7;rw [al3];exact ⟨Z,Z⟩
def nV:List aO:= [⟨0,3,1,⟨2,0⟩,0⟩]
def Z0:aj:=⟨⟨3,1, [0,0,3]⟩, [⟨0,0⟩], [20], [0,0,8], [⟨1,0,1,⟨1,0⟩,10,1⟩],2,1⟩
theorem Z4:ic kZ nV=0∧oD kZ nV=Z0∧zP kZ nV= []∧zQ kZ nV= []∧zO kZ nV= [true]:=by
 have hc:kZ.bq=0:=by decide +kernel
 have afb:dZ kZ nV nV.length= []:=by decide +kernel
 have afF:eB kZ nV nV.length= []:=by decide +kernel
 have afc:e2 kZ nV nV.length= [⟨1,1,⟨2,0⟩,0⟩]:=by decide +kernel
 have a8:ic kZ nV=0:=by decide +kernel
 obtain ⟨lQ,z2,z3,z4⟩:=amg a8;obtain ⟨s1,s2⟩:=al7 hc;have t1:zM kZ nV=kZ:=by unfold zM;rw [afb];exact s1
 obtain ⟨m1,m2⟩:=aA5 hc;have t2:zN kZ nV=kZ:=by unfold zN;rw [t1,afF];exact m1
 have t3:u2 kZ nV=kZ.iL [⟨1,1,⟨2,0⟩,0⟩]:=by unfold u2;rw [t2,afc]
 have hd:kZ.iL [⟨1,1,⟨2,0⟩,0⟩]= {Z0 with now:=0}:=by decide +kernel
 refine ⟨a8, ?_, ?_, ?_, ?_⟩
 ·rw [lQ,t3,hd];rfl
 ·rw [z2,afb];exact s2
 ·rw [z3,t1,afF];exact m2
 ·rw [z4,t2,afc];decide +kernel
end
section
structure ej where
 a:Option Addr
 n:Nat
 c:Nat
instance:Inhabited ej:=⟨⟨none,0,0⟩⟩
def iU:κ ej:=κ.flat 1 (λ v=> [.slice v.a v.n v.c]) (λ _=>True) (λ _ u=>∃ a n c,u= .slice a n c) (λ _=>rfl) (by intro a u hu;simp at hu;subst hu;rfl) (by
 intro a j u hu;cases j with
 | zero=>simp at hu;exact ⟨_,_,_,hu.symm⟩
 | succ j=>simp at hu)
theorem Dh {w:World} {cs:List Value} {a:ej} (h:iU.has w cs a):cs= [.slice a.a a.n a.c]:=aWw (show cs= [.slice a.a a.n a.c]∧True from h)
theorem SB:∀ (j:Nat) u,(Value.slice none 0 0).cells[j]? =some u→iU.raw j u:=by
 intro j u hu;have hu:(#[(.slice none 0 0:Value)]:Array Value)[j]? =some u:=hu
 match j,hu with
 | 0,hu=>exact ⟨_,_,_,(aUh hu).symm⟩
 | j+1,hu=>simp at hu
end
end Go.Proofs.YtlikikpgmmkjbaaGreat
namespace Go.Proofs.YtlikikpgmmkjbaaGreat.Mark
open Tryz
open Go.Proofs.YtlikikpgmmkjbaaGreat.fj

abbrev c7:=BitVec 64
abbrev W:=BitVec 64
def xs (k:Nat) (x:c7):c7:=x ^^^ x >>> k
def c1:c7:=13787848793156543929#64
def c2:c7:=10723151780598845931#64
def WD:c7:=11400714819323198485#64
def mix (n:c7):c7:=xs 31 (xs 27 (xs 30 (n+WD) * c1) * c2)
def down (k:Nat) (x:c7):c7:=xs (2 * k) (xs k x)
def I' (x y:c7):c7:=y * (2#64 - x * y)
def other (x:c7):c7:=I' x (I' x (I' x (I' x (I' x (I' x x)))))
def back (n:c7):c7:=down 30 (down 27 (down 31 n * other c2) * other c1) - WD
section
variable (f:c7→c7)
def S0 (m n:c7):c7:=m ^^^ f n
def yW (l:List c7) (m:c7):c7:=l.foldl (S0 f) m
def Gp (l:List c7):c7:=yW f l 0#64
theorem apR (l:List c7) (x:c7) (m:c7):yW f (l++ [x]) m=S0 f (yW f l m) x:=by unfold yW;rw [aV9];rfl
end
end Go.Proofs.YtlikikpgmmkjbaaGreat.Mark
namespace Go.Proofs.YtlikikpgmmkjbaaGreat
open Tryz
end Go.Proofs.YtlikikpgmmkjbaaGreat
namespace Go.Proofs.YtlikikpgmmkjbaaGreat.Mark
open Tryz
open Go.RowKit Go.Proofs.YtlikikpgmmkjbaaGreat.fj

theorem NM {a b:Int} (h:a=b):Ending.returned (.int .u64 a)= .returned (.int .u64 b):=by rw [h]

theorem aax (x:Int):IntKind.u64.wrap x=U (BitVec.ofInt 64 x):=by
 refine QE ?_ ?_ (aB1 x)
 ·rw [aVy];omega
 ·rw [aVy];omega
theorem apP (a:c7):IntKind.u64.wrap (U a+11400714819323198485)=U (a+WD):=by
 rw [aax,aBT,wA];rfl
theorem aBu (a:c7):IntKind.u64.wrap (U a * 13787848793156543929)=U (a * c1):=by
 rw [aax,akv,wA];rfl
theorem aBv (a:c7):IntKind.u64.wrap (U a * 10723151780598845931)=U (a * c2):=by
 rw [aax,akv,wA];rfl
theorem aaA (k:Nat) (a:c7):bits BinOp.xor IntKind.u64 (U a) (U a / 2 ^ k)=U (xs k a):=by
 refine QE (U8 _ _ _) (U7 _ _ _) ?_;rw [Y9,akx (n:=64) (U a) k (UQ a) (by have:=apI a;omega),wA];rfl
theorem aG2 (a:c7):bits BinOp.xor IntKind.u64 (U a) (U a / 1073741824)=U (xs 30 a):=aaA 30 a
theorem aG0 (a:c7):bits BinOp.xor IntKind.u64 (U a) (U a / 134217728)=U (xs 27 a):=aaA 27 a
theorem aG3 (a:c7):bits BinOp.xor IntKind.u64 (U a) (U a / 2147483648)=U (xs 31 a):=aaA 31 a
theorem YV (x:Int) (n:c7) (hx:x=U n) (w:World):
  Calls prog 118 #[.int .u64 x] w fun e w'=>e= .returned (.int .u64 (U (mix n)))∧w=w':=by
 subst hx;go_enter func118,ntmps118;go_wp2
 go_ret;refine ⟨NM ?_,Z⟩;rw [apP,aG2,aBu,aG0,aBv,aG3];rfl

end Go.Proofs.YtlikikpgmmkjbaaGreat.Mark
namespace Go.Proofs.YtlikikpgmmkjbaaGreat
open Tryz
end Go.Proofs.YtlikikpgmmkjbaaGreat
namespace Go.Proofs.YtlikikpgmmkjbaaGreat.Mark
open Tryz
open Go.RowKit Go.Proofs.YtlikikpgmmkjbaaGreat.fj


theorem N1 (x y:Int) (m n:c7) (hx:x=U m) (aH:y=U n) (w:World):
  Calls prog 133 #[.int .u64 x, .int .u64 y] w fun e w'=>e= .returned (.int .u64 (U (S0 mix m n)))∧w=w':=by
 subst hx aH;go_enter func133,ntmps133;go_wp2_with (go_at_call 118;refine (YV _ n rfl _).mono ?_;rintro e w' ⟨rfl,rfl⟩)
 go_ret;exact ⟨NM (by refine QE (U8 _ _ _) (U7 _ _ _) ?_;rw [Y9,wA,wA];rfl),Z⟩
def E9 (w:World) (a:Option Addr) (n:Nat) (zs:List c7):Prop :=
 n=zs.length∧n≤9223372036854775807∧(zs= []∨∃ b off,a=some ⟨b,off,none⟩∧∀ i (h:i<zs.length),w.cell? ⟨b,off+i,none⟩=some (.int .u64 (U zs[i])))

def E' (rk:List (List c7)) (m:c7):c7:=rk.foldl (fun m l=>yW mix l m) m
theorem apU (rk:List (List c7)) (l:List c7) (m:c7):E' (rk++ [l]) m=yW mix l (E' rk m):=by unfold E';rw [aV9];rfl
theorem al9 {α:Type} (l:List α) (k:Nat) (h:k<l.length):l.take (k+1)=l.take k++ [l[k]]:=aUM h

theorem apS (b c:Nat) (vs:List (Option Addr×Nat×Nat)) (rk:List (List c7)) (w:World) (hn:vs.length=rk.length) (hc:c≤100) (hcv:vs.length≤100)
  (jI:∀ i (h:i<vs.length),w.cell? ⟨b,i,none⟩=some (.slice vs[i].1 vs[i].2.1 vs[i].2.2)) (s7:∀ i (h:i<vs.length) (dk:i<rk.length),E9 w vs[i].1 vs[i].2.1 rk[i]):
  Calls prog 93 #[.slice (some ⟨b,0,none⟩) vs.length c] w fun e w'=>e= .returned (.int .u64 (U (E' rk 0#64)))∧w=w':=by
 obtain ⟨N,fk⟩:∃ N,Hid (N=vs.length):=⟨_,aUl rfl⟩;have Au:=aUl jI;have fw:=aUl s7;have qy:=aUl hn;rw [← fk.out] at hcv ⊢;clear jI s7 hn;go_enter func93,ntmps93;go_wp2
 go_loop [3,10] (fun v i=>∃ k:Nat,k≤N∧i= .int .i64 k∧v= .int .u64 (U (E' (rk.take k) 0#64))) (fun _ i=>N - (intOf i).toNat)
 case atStart=>exact ⟨0,aU6 _,rfl,rfl⟩
 case round =>
  obtain ⟨k,aw,rfl,rfl⟩:=hrel;by_cases bE:k<N
  ·have ahs:k<vs.length:=by have:=fk.out;omega
   have aht:k<rk.length:=by have:=qy.out;omega
   have γ:=Au.out k ahs;have aa:=fw.out k ahs aht;obtain ⟨l,acb⟩:∃ l,Hid (rk[k]=l):=⟨_,aUl rfl⟩;rw [acb.out] at aa;generalize vs[k].1=a at γ aa;generalize vs[k].2.1=n at γ aa;generalize vs[k].2.2=b_ at γ aa;obtain ⟨av,aV,bJ⟩:=aa;have jv:=aUl av;clear av;generalize ml:E' (rk.take k) 0#64=M;have LH:E' (rk.take (k+1)) 0#64=yW mix l M:=by rw [al9 _ _ aht,apU,ml,acb.out]
   have k7:=aUl LH;clear ml LH;rcases bJ with mV | ⟨rH,off,rfl,r3⟩
   ·have ahH:n=0:=by rw [jv.out,mV];rfl
    have aoG:=aUl mV;subst ahH;clear mV;go_wp2_with fail
    refine wp_loop_rounds 1 ?_;rw [rounds_succ];go_wp2_with fail
    go_round
    case rel=>exact ⟨k+1,by omega,by go_num,by rw [k7.out,aoG.out];rfl⟩
    case measure=>simp [intOf];omega
   ·have aoy:=aUl r3;clear r3;go_wp2_with fail
    go_loop [3,16] (fun v i=>∃ q:Nat,q≤n∧i= .int .i64 q∧v= .int .u64 (U (yW mix (l.take q) M))) (fun _ i=>n - (intOf i).toNat)
    case atStart=>exact ⟨0,aU6 _,rfl,rfl⟩
    case round =>
     obtain ⟨q,I,rfl,rfl⟩:=hrel;by_cases aMF:q<n
     ·have ah0:q<l.length:=by have:=jv.out;omega
      have aw8:=aoy.out q ah0;generalize uD:l[q]=z at aw8;generalize agz:yW mix (l.take q) M=M2;have Hj:=aUl (show yW mix (l.take (q+1)) M=S0 mix M2 z by rw [al9 _ _ ah0,apR,agz,uD]);clear uD agz γ;go_wp2_with (go_at_call 133;(with_reducible refine (N1 _ _ M2 z rfl rfl _).mono ?_);rintro e w' ⟨rfl,rfl⟩)
      go_round
      case rel=>exact ⟨q+1,by omega,by go_num,by rw [Hj.out]⟩
      case measure=>simp [intOf];omega
     ·have ayz:n=q:=by omega
      subst ayz;have aB:l.take n=l:=aUI (by have:=jv.out;omega);rw [aB,← k7.out];clear aB γ;go_wp2_with fail
      go_round
      case rel=>exact ⟨k+1,by omega,by go_num,rfl⟩
      case measure=>simp [intOf];omega
  ·have XH:N=k:=by omega
   subst XH;have e:rk.take N=rk:=aUI (by have:=qy.out;have:=fk.out;omega);rw [e];clear e;go_wp2_with fail
   go_ret;exact ⟨Z,Z⟩

theorem E9.later {w w':World} {a:Option Addr} {n:Nat} {zs:List c7} (h:E9 w a n zs) (Φ:Below w.heap.size w w'):E9 w' a n zs:=by
 obtain ⟨γ,aa,av⟩:=h;refine ⟨γ,aa, ?_⟩;rcases av with av | ⟨b,off,ha,hc⟩
 ·exact .inl av
 ·refine .inr ⟨b,off,ha,fun i aq=> ?_⟩;rw [Φ.cell (aWd w _ (hc i aq))];exact hc i aq

theorem apT (b n c:Nat) (a:Option Addr) (l:List c7) (w:World) (h:w.cell? ⟨b,0,none⟩=some (.slice a n c)) (hs:E9 w a n l):
  Calls prog 93 #[.slice (some ⟨b,0,none⟩) 1 1] w fun e w'=>e= .returned (.int .u64 (U (Gp mix l)))∧w=w':=by
 refine (apS b 1 [(a,n,c)] [l] w Z (by decide) (by simp) ?_ ?_).mono fun e w' h=>h
 ·intro i aq
  match i,aq with
  | 0,_=>exact h
 ·intro i aq _
  match i,aq with
  | 0,_=>exact hs
theorem Y6 (a:Option Addr) (n c:Nat) (l:List c7) (w:World) (hs:E9 w a n l):
  Calls prog 58 #[.slice a n c] w fun e w'=>e= .returned (.int .u64 (U (Gp mix l)))∧Below w.heap.size w w':=by
 have Φ:=(aUN w.heap.size w).alloc (aUu _) (.cells #[.slice a n c] 38);have gI:=hs.later Φ;go_enter func58,ntmps58;go_wp2_with fail
 refine (apT _ n c a l _ (by simp [aWo]) gI).mono ?_;rintro e w' ⟨rfl,rfl⟩;go_wp2_with fail
 go_ret;exact ⟨Z,Φ⟩

end Go.Proofs.YtlikikpgmmkjbaaGreat.Mark
namespace Go.Proofs.YtlikikpgmmkjbaaGreat
open Tryz
end Go.Proofs.YtlikikpgmmkjbaaGreat
namespace Go.Proofs.YtlikikpgmmkjbaaGreat.Tree
open Tryz
open Go.Proofs.YtlikikpgmmkjbaaGreat.fj Go.Proofs.YtlikikpgmmkjbaaGreat.Mark

def DK (s:List UInt8):c7:=s.foldl (fun m b=>mix (m ^^^ BitVec.ofNat 64 b.toNat)) (mix (BitVec.ofNat 64 s.length))
def aDF (b:c7):c7:=b <<<32 ||| b >>> 32
def Jh (a b:c7):c7:=mix (mix (a ^^^ aDF b ^^^ 1#64) ^^^ b)
def l6 (n:Nat):Nat:=2 ^ Nat.log2 (n - 1)
def ZA:Nat→List (List UInt8)→c7
 | 0,_=>0#64
 | f+1,l=>match l with
  | []=>0#64
  | [s]=>DK s
  | a::b::r=>Jh (ZA f ((a::b::r).take (l6 (r.length+2)))) (ZA f ((a::b::r).drop (l6 (r.length+2))))
def SD (l:List (List UInt8)):c7:=ZA l.length l
end Go.Proofs.YtlikikpgmmkjbaaGreat.Tree
namespace Go.Proofs.YtlikikpgmmkjbaaGreat
open Tryz
end Go.Proofs.YtlikikpgmmkjbaaGreat
namespace Go.Proofs.YtlikikpgmmkjbaaGreat.Tree
open Tryz
open Go.RowKit Go.Proofs.YtlikikpgmmkjbaaGreat Go.Proofs.YtlikikpgmmkjbaaGreat.fj Go.Proofs.YtlikikpgmmkjbaaGreat.Mark

theorem aGW (a b:c7):bits .xor .u64 (U a) (U b)=U (a ^^^ b):=by
 refine QE (U8 _ _ _) (U7 _ _ _) ?_;rw [Y9,wA,wA]
theorem aAr (l:List UInt8) (n:Nat) (b:UInt8) (m:c7):(l++ [b]).foldl (fun m b=>mix (m ^^^ BitVec.ofNat 64 b.toNat)) m=mix (l.foldl (fun m b=>mix (m ^^^ BitVec.ofNat 64 b.toNat)) m ^^^ BitVec.ofNat 64 b.toNat):=by rw [aV9];rfl
def upto (s:ByteArray) (k:Nat):c7:=(s.data.toList.take k).foldl (fun m b=>mix (m ^^^ BitVec.ofNat 64 b.toNat)) (mix (BitVec.ofNat 64 s.size))
theorem aFJ (s:ByteArray) (k:Nat) (h:k<s.size):upto s (k+1)=mix (upto s k ^^^ BitVec.ofNat 64 s[k].toNat):=by
 unfold upto;have aw:k<s.data.toList.length:=by simpa using h
 rw [aUM aw,aAr _ k];rfl
theorem aFI (s:ByteArray):upto s s.size=DK s.data.toList:=by
 unfold upto DK;rw [aUI (by simp)];rfl
theorem ac6 (n:Nat) (h:n<18446744073709551616):((n:Nat):Int)=U (BitVec.ofNat 64 n):=by
 unfold U;rw [aVY,aVt h]
theorem IU (s:ByteArray) (hs:s.size≤9223372036854775807) (w:World):Calls prog 83 #[.string s] w fun e w'=>e= .returned (.int .u64 (U (DK s.data.toList)))∧∃ q,w'=w.drewN q:=by
 have aI:upto s 0=mix (BitVec.ofNat 64 s.size):=rfl;have uC:=ac6 s.size (by omega);have hm:=YV _ (BitVec.ofNat 64 s.size) uC;have dB:=aUl (aFI s);rw [← aI] at hm;have jt:=aUl aI;have hw:IntKind.u64.wrap (s.size:Int)=(s.size:Int):=by rw [aVy];omega
 clear uC aI;go_enter func83,ntmps83;go_wp2_with fail
 refine (hm _).mono ?_;rintro e w' ⟨rfl,rfl⟩;clear hw;go_wp2_with fail
 go_loop [3,11] (fun m i=>∃ k:Nat,k≤s.size∧i= .int .i64 (k:Int)∧m= .int .u64 (U (upto s k))) (fun _ i=>s.size - (intOf i).toNat)
 case atStart=>exact ⟨0,aU6 _,rfl,rfl⟩
 case round =>
  obtain ⟨k,aw,rfl,rfl⟩:=hrel;by_cases bE:k<s.size
  ·have X1:=aFJ s k bE;have hx:=aGW (upto s k) (BitVec.ofNat 64 s[k].toNat);rw [← ac6 s[k].toNat (by have:=s[k].toNat_lt;omega)] at hx;have hm:=YV _ (upto s k ^^^ BitVec.ofNat 64 s[k].toNat) rfl;rw [← X1] at hm;have fw:=aUl X1;clear X1;have aMQ:IntKind.u64.wrap (s[k].toNat:Int)=(s[k].toNat:Int):=by have:=s[k].toNat_lt;rw [aVy];omega
   obtain ⟨m2,Hj⟩:∃ m2,Hid (upto s (k+1)=m2):=⟨_,aUl rfl⟩;rw [Hj.out] at hm;clear fw;generalize upto s k ^^^ BitVec.ofNat 64 s[k].toNat=x at *
   generalize upto s k=m1 at *
   go_wp2_with fail
   refine (hm _).mono ?_;rintro e w' ⟨rfl,rfl⟩;go_wp2_with fail
   go_round
   case rel=>exact ⟨k+1,by omega,by go_num,by rw [Hj.out]⟩
   case measure=>simp [intOf];omega
  ·obtain rfl:k=s.size:=by omega
   rw [dB.out];go_wp2_with fail
   go_ret;exact ⟨Z,0,Z⟩
def ara (l:List ByteArray):List Value:=l.map Value.string
def lists (l:List ByteArray):List (List UInt8):=l.map fun s=>s.data.toList
def aJq (l:List ByteArray):Prop:=∀ s∈l,s.size≤9223372036854775807
end Go.Proofs.YtlikikpgmmkjbaaGreat.Tree
namespace Go.Proofs.YtlikikpgmmkjbaaGreat
open Tryz
end Go.Proofs.YtlikikpgmmkjbaaGreat
namespace Go.Proofs.YtlikikpgmmkjbaaGreat.Pack
open Tryz
open Go.Proofs.YtlikikpgmmkjbaaGreat.fj
def jW:Nat→Nat→List UInt8
  | 0,n=> [UInt8.ofNat n]
  | k+1,n=>if n<128 then [UInt8.ofNat n] else UInt8.ofNat (n % 128+128)::jW k (n / 128)
def eh (n:Nat):List UInt8:=jW 9 n
def val:List UInt8→Nat
  | []=>0
  | b::l=>b.toNat % 128+128 * val l

theorem BG {k n:Nat} (h:n<128):jW k n= [UInt8.ofNat n]:=by
  cases k with
  | zero=>rfl
  | succ k=>unfold jW;rw [aUz h]
theorem BF {k n:Nat} (h:¬ n<128):jW (k+1) n=UInt8.ofNat (n % 128+128)::jW k (n / 128):=by
  rw [jW];rw [aUr h]
theorem Zi (k n:Nat):(jW k n).length≤k+1∧1≤(jW k n).length:=by
  induction k generalizing n with
  | zero=>simp [jW]
  | succ k bI =>
    by_cases h:n<128
    · rw [BG h];simp
    · rw [BF h];have:=bI (n / 128);simp;omega
theorem BH (n:Nat):(eh n).length≤10∧1≤(eh n).length:=Zi 9 n

theorem Jj {n k:Nat} (h:n<128 ^ (k+2)):n / 128<128 ^ (k+1):=by
  rw [aXo] at h;exact Nat.div_lt_of_lt_mul (by rw [aVB];exact h)
theorem aFN (k n:Nat) (h:n<128 ^ (k+1)):val (jW k n)=n:=by
  induction k generalizing n with
  | zero =>
    have γ:n<128:=by simpa using h
    simp only [jW,val,aVl];omega
  | succ k bI =>
    by_cases γ:n<128
    · rw [BG γ]
      simp only [val,aVl];omega
    · rw [BF γ]
      simp only [val,aVl];rw [bI (n / 128) (Jj h)];omega
theorem F_ {n:Nat} (h:n<18446744073709551616):n<128 ^ (9+1):=aVN h (by decide)
theorem aFO (n:Nat) (h:n<18446744073709551616):val (eh n)=n:=aFN 9 n (F_ h)
theorem aCY (k n i:Nat) (hn:n<128 ^ (k+1)) (h:i+1<(jW k n).length) (aq:i<(jW k n).length):128≤((jW k n)[i]).toNat:=by
  induction k generalizing n i with
  | zero=>simp [jW] at h
  | succ k bI =>
    by_cases γ:n<128
    · simp [BG γ] at h
    · simp only [BF γ] at h aq ⊢
      cases i with
      | zero=>simp only [aXr,aVl];omega
      | succ i =>
        simp only [aXs];exact bI (n / 128) i (Jj hn) (by simpa using h) (by simpa using aq)
theorem ak3 (k n:Nat) (hn:n<128 ^ (k+1)) (i:Nat) (aq:i<(jW k n).length) (aB:i+1=(jW k n).length):((jW k n)[i]).toNat<128:=by
  induction k generalizing n i with
  | zero =>
    have γ:n<128:=by simpa using hn
    simp only [jW,aYP,aVl];omega
  | succ k bI =>
    by_cases γ:n<128
    · simp only [BG γ,aYP,aVl]
      omega
    · simp only [BF γ] at aB aq ⊢
      cases i with
      | zero =>
        have aa:=(Zi k (n / 128)).2;rw [aUn] at aB;omega
      | succ i =>
        simp only [aXs];exact bI (n / 128) (Jj hn) i (by simpa using aq) (by simpa using aB)
theorem aFP (l:List UInt8) (b:UInt8):val (l++ [b])=val l+128 ^ l.length * (b.toNat % 128):=by
  induction l with
  | nil=>simp [val]
  | cons x l bI =>
    simp only [aVW,val,bI,aUn,aXo];rw [Nat.mul_add,← Nat.mul_assoc,aVB 128 (128 ^ l.length)];omega
theorem aFM (l:List UInt8):val l<128 ^ l.length:=by
  induction l with
  | nil=>simp [val]
  | cons x l bI =>
    simp only [val,aUn,aXo];omega
def Kp (l:List UInt8) (n:Nat) (rest:List UInt8) (e:Int):Prop :=
  (∃ k,k<10∧k<l.length∧(∀ i (h:i<l.length),i<k→128≤l[i].toNat)∧(∀ h:k<l.length,l[k].toNat<128)∧
    ((eh (val (l.take (k+1)) % 18446744073709551616)=l.take (k+1)∧n=val (l.take (k+1)) % 18446744073709551616∧rest=l.drop (k+1)∧e=0)∨
     (eh (val (l.take (k+1)) % 18446744073709551616)≠l.take (k+1)∧n=0∧rest= []∧e=4)))∨
  (l.length<10∧(∀ i (h:i<l.length),128≤l[i].toNat)∧n=0∧rest= []∧e=3)∨
  (10≤l.length∧(∀ i (h:i<l.length),i<10→128≤l[i].toNat)∧n=0∧rest= []∧e=4)
def o1 (x:Int):Nat:=if 0≤x then (2 * x).toNat else (-2 * x - 1).toNat
end Go.Proofs.YtlikikpgmmkjbaaGreat.Pack
namespace Go.Proofs.YtlikikpgmmkjbaaGreat
open Tryz
end Go.Proofs.YtlikikpgmmkjbaaGreat
