import Derived.Test.YthlpmldmhakhaaaGreatDoorMrP
set_option linter.unusedVariables false
set_option linter.unusedSimpArgs false
set_option maxRecDepth 100000
set_option maxHeartbeats 4000000
open Go.RowKit
namespace Go.Proofs.YthlpmldmhakhaaaGreatDoor
open Tryz
abbrev aNc:=@Go.Lib.hid
abbrev aNq:=@Or.elim
abbrev aOJ:=@Int.lt_or_le
abbrev aPD:=@Bool.not_eq_false'
abbrev aQh:=@beq_eq_false_iff_ne
abbrev aQM:=@Go.bodyPost_ret
section
variable {o:Oper} {id:Nat} {op:Op}
section
variable {fG:Nat} {fJ:ai→Int} {P:Program} {ops:Array Oper} {Q:Exit→Act→World→Prop} {aL:Nat→Nat}
def tA (fG:Nat) (fJ:ai→Int) (P:Program) (ops:Array Oper) (w0:World) (o:Oper) (v:Value) (a:Act):Prop :=
  (Region.wanted o (yielded ops a.tmps)=true∧∀ w,oj fG fJ w0 w→uo P w v ((execOp a.eval o).run P w))∨
  (Region.wanted o (yielded ops a.tmps)=false∧v=undef)
theorem tA.of_same {w0:World} {v:Value} {a a':Act} (h:tA fG fJ P ops w0 o v a) (he:execOp a'.eval o=execOp a.eval o) (hw:Region.wanted o (yielded ops a'.tmps)=Region.wanted o (yielded ops a.tmps)):tA fG fJ P ops w0 o v a':=by
  unfold tA at *;rw [he,hw];exact h
theorem tA.on {w0 aN:World} {v:Value} {a:Act} (h:tA fG fJ P ops w0 o v a) (hx:oj fG fJ w0 aN):tA fG fJ P ops aN o v a :=
  h.imp (λ ⟨κ,τ⟩=>⟨κ,λ w hw=>τ w (hx.trans hw)⟩) id
theorem Yields.ayl {w0:World} {v:Value} {a:Act} (h:Yields P ops o v a):tA fG fJ P ops w0 o v a :=
  h.imp (λ ⟨κ,τ⟩=>⟨κ,λ w _=>by rw [τ w];exact ⟨rfl,rfl⟩⟩) id
def azM (fG:Nat) (fJ:ai→Int) (P:Program) (ops:Array Oper) (Q:Exit→Act→World→Prop) (aL:Nat→Nat) (i:Nat) (K:Act→World→Prop) (a:Act) (w0:World):Prop :=
  ∃ o,ops[i]? =some o∧
    ((aL i≤1∧∃ v,tA fG fJ P ops w0 o v a∧K (a.put o.dst v) w0)∨
     (1<aL i∧∀ w,Ext w0 w→wpOp P ops Q i (λ a' w'=>(aL i=2→oj fG fJ w0 w')∧K a' w') a w))
def Ip (fG:Nat) (fJ:ai→Int) (P:Program) (ops:Array Oper) (Q:Exit→Act→World→Prop) (aL:Nat→Nat):Nat→Array Bool→Act→World→Prop
  | 0,l,a,w0=>Region.ready .any ops l= []∧∀ w,Ext w0 w→Q .normal a w
  | f+1,l,a,w0=>(Region.ready .any ops l= []→∀ w,Ext w0 w→Q .normal a w)∧∀ i∈Region.ready .any ops l,azM fG fJ P ops Q aL i (Ip fG fJ P ops Q aL f (l.setIfInBounds i true)) a w0
theorem Fj:∀ (f:Nat) (l:Array Bool) (a:Act) (w0:World),Ip fG fJ P ops Q aL f l a w0→∀ w,Ext w0 w→wpAny P .any ops Q f l a w
  | 0,_,_,_,h,w,hw=>⟨h.1,h.2 w hw⟩
  | f+1,l,a,w0,h,w,hw=>⟨λ aC=>h.1 aC w hw,λ i ak=>by
      obtain ⟨o,bk,τ⟩:=h.2 i ak;rcases τ with ⟨_,v,I,aj⟩ | ⟨_,τ⟩
      · unfold wpOp
        simp only [bk];rcases I with ⟨jb,I⟩ | ⟨jb,rfl⟩
        · rw [aNd jb]
          refine .inl ?_;have I:=I w (oj.aP hw);unfold Oper.wp;generalize (execOp a.eval o).run P w=r at *
          cases r with
          | ok n w' =>
            cases n<;>simp only [uo] at I<;>simp only [Oper.upon]
            case value u=>obtain ⟨rfl,rfl⟩:=I;exact Fj f _ _ _ aj _ hw
            case skip=>obtain ⟨rfl,rfl⟩:=I;exact Fj f _ _ _ aj _ hw
            case enter f' args=>obtain ⟨rfl,hc⟩:=I;exact hc.mono λ e ku ⟨he,hx⟩=>by subst he;exact Fj f _ _ _ aj _ (hw.n4 hx)
          | halt x w'=>simp only [uo] at I
        · rw [aM4 (by rw [jb];decide)]
          exact Fj f _ _ _ aj _ hw
      · exact aOK (λ a' w' aq=>Fj f _ _ _ aq.2 _ (Ext.bN w')) (τ w hw)⟩
theorem aau {i:Nat} {c8:Oper} {v:Value} (ak:ops[i]? =some c8) (aj:aL i≤1) (j9:∀ (j:Nat) (o:Oper) cs b,ops[j]? =some o→o.op≠ .select cs b)
    (eJ:∀ c a w,¬ Q (.panic c) a w) (aA:World→Act→Prop) (ky:∀ w0 a,aA w0 a→tA fG fJ P ops w0 c8 v a)
    (z2:∀ w0 a a',aA w0 a→execOp a'.eval c8=execOp a.eval c8→Region.wanted c8 (yielded ops a'.tmps)=Region.wanted c8 (yielded ops a.tmps)→aA w0 a')
    (z3:∀ w0 aN a,oj fG fJ w0 aN→aA w0 a→aA aN a) (R:Nat→Bool) (qp:Array Bool)
    (hR:∀ j cK,ops[j]? =some cK→j≠i→(∀ e∈cK.after,Region.binds .any e=true→R e.on=true)→R j=true)
    (aS:(∀ w0 aN a,aA w0 a→aA aN a)∨∀ j,R j=true→3≤aL j→qp.getD j true=true):
    ∀ (f:Nat) (l:Array Bool) (a:Act) (w0:World),(∀ j,l.getD j false=true→R j=true)→(∀ j,qp.getD j true=true→l.getD j true=true)→
      (∀ j cK,ops[j]? =some cK→j≠i→l.getD j true=false→(∀ e∈cK.after,Region.binds .any e=true→e.on≠i)→c8.apart ops cK=true)→
      i∈Region.ready .any ops l→aA w0 a→Ip fG fJ P ops Q aL f (l.setIfInBounds i true) (a.put c8.dst v) w0→Ip fG fJ P ops Q aL (f+1) l a w0:=by
  intro f;induction f with
  | zero =>
    intro l a w0 _ _ _ hr bo H;refine ⟨λ h=>(by rw [h] at hr;cases hr),λ j aw=> ?_⟩;by_cases fi:j=i
    · subst fi;exact ⟨c8,ak, .inl ⟨aj,v,ky _ _ bo,H⟩⟩
    · have:=aOM aw fi
      rw [H.1] at this;cases this
  | succ f bu =>
    intro l a w0 wq wm wj hr bo H;refine ⟨λ h=>(by rw [h] at hr;cases hr),λ j aw=> ?_⟩;by_cases fi:j=i
    · subst fi;exact ⟨c8,ak, .inl ⟨aj,v,ky _ _ bo,H⟩⟩
    · obtain ⟨cK,hI,κ⟩:=H.2 j (aOM aw fi)
      obtain ⟨qj,ef,wy,ep⟩:=aPt.1 aw;obtain rfl:ef=cK:=by rw [hI] at wy;exact (aNf wy).symm
      have DN:∀ e∈ef.after,Region.binds .any e=true→e.on≠i:=λ e he af heq=>by
        have κ:=ep e he af;have aC:=(aPt.1 hr).1;rw [heq] at κ;rcases aOd i l.size with cp | cp
        · simp [cp] at aC κ;rw [aC] at κ;cases κ
        · simp [aNT cp] at κ
      have Ah:=wj j ef hI fi qj DN;obtain ⟨di,a2,a3⟩:=aP8 Ah;have DQ:∀ cs b,c8.op≠ .select cs b:=λ cs b=>j9 i c8 cs b ak;have rA:∀ cs b,ef.op≠ .select cs b:=λ cs b=>j9 j ef cs b hI;have keep:∀ aN a u,aA aN a→aA aN (a.put ef.dst u):=λ aN a u bo=>z2 _ _ _ bo (aO6 c8 DQ a ef.dst u a3) (aPh c8 a ef.dst u a3);have vZ:R j=true:=hR j ef hI fi λ e he af=>wq _ (ep e he af);have wu:∀ k,(l.setIfInBounds j true).getD k false=true→R k=true:=λ k aj=>by
        by_cases fL:j=k
        · rw [← fL];exact vZ
        · rw [aOD false fL] at aj;exact wq k aj
      have wo:∀ k,qp.getD k true=true→(l.setIfInBounds j true).getD k true=true:=λ k aj=>by
        by_cases fL:j=k
        · subst fL
          rcases aOd j l.size with cp | cp
          · simp [cp]
          · simp [aNT cp]
        · rw [aOD true fL];exact wm k aj
      have wk:∀ k ok,ops[k]? =some ok→k≠i→(l.setIfInBounds j true).getD k true=false→
          (∀ e∈ok.after,Region.binds .any e=true→e.on≠i)→c8.apart ops ok=true:=λ k ok aj lh wB ju=>by
        refine wj k ok aj lh ?_ ju;by_cases fL:j=k
        · subst fL;exact qj
        · rw [aOD true fL] at wB;exact wB
      have wz:=aOM hr (aPp fi);rcases κ with ⟨qk,u,I,hK⟩ | ⟨qk,κ⟩
      · refine ⟨ef,hI, .inl ⟨qk,u,I.of_same (aO6 ef rA a c8.dst v di).symm (aPh ef a c8.dst v di).symm, ?_⟩⟩
        refine bu _ _ _ wu wo wk wz (keep _ _ _ bo) ?_;rw [aN8 _ _ fi,← aOL a v u a2];exact hK
      · refine ⟨ef,hI, .inr ⟨qk,λ w hw=> ?_⟩⟩
        refine aOK (λ a' w' aq=>⟨aq.2.1, ?_⟩) (PR (aA:=aA w0) hI di a2 rA eJ (keep w0) (λ a d bo=>z2 _ _ _ bo Z Z) bo (κ w hw));have DV:aA w' a':=by
          rcases aOd (aL j) 3 with bB | Ak
          · exact z3 _ _ _ (aq.2.1 (by omega)) aq.1
          · rcases aS with aS | aS
            · exact aS _ _ _ aq.1
            · have:=wm j (aS j vZ Ak);rw [qj] at this;cases this
        refine bu _ _ _ wu wo wk wz DV ?_;rw [aN8 _ _ fi];exact aq.2.2
def Hk (fG:Nat) (fJ:ai→Int) (P:Program) (ops:Array Oper) (Q:Exit→Act→World→Prop) (aL:Nat→Nat):List Nat→Act→World→Prop
  | [],a,w0=>∀ w,Ext w0 w→Q .normal a w
  | i::r,a,w0=>∃ o,ops[i]? =some o∧
      ((aL i=0∧∃ v,tA fG fJ P ops w0 o v a∧Hk fG fJ P ops Q aL r (a.put o.dst v) w0)∨
       (aL i=1∧∃ v,Yields P ops o v a∧Hk fG fJ P ops Q aL r (a.put o.dst v) w0)∨
       (1<aL i∧∀ w,Ext w0 w→wpOp P ops Q i (λ a' w'=>(aL i=2→oj fG fJ w0 w')∧Hk fG fJ P ops Q aL r a' w') a w))
theorem Mn (hs:Region.noSelect ops=true) (eJ:∀ c a w,¬ Q (.panic c) a w):∀ (r:List Nat) (l:Array Bool) (a:Act) (w0:World),l.size=ops.size→hQ ops aL r l=true→Hk fG fJ P ops Q aL r a w0→Ip fG fJ P ops Q aL r.length l a w0
  | [],l,a,w0,_,aS,h=>⟨by simpa [hQ] using aS,h⟩
  | i::r,l,a,w0,ay,aS,h=>by
    obtain ⟨o,bk,h⟩:=h;have j9:=aO7 hs;rcases h with ⟨aj,v,I,hK⟩ | ⟨aj,v,I,hK⟩ | ⟨aj,h⟩
    · simp only [hQ,aj,aNa] at aS
      obtain ⟨⟨⟨hf,hr⟩,af⟩,aS⟩:=aS;obtain ⟨R,r1,r2,sW⟩:=Iu ay af;exact aau bk (by omega) j9 eJ (λ w0 a=>tA fG fJ P ops w0 o v a) (λ _ _ h=>h) (λ _ _ _ h he hw=>h.of_same he hw) (λ _ _ _ hx h=>h.on hx) R l r1 (.inr sW) _ _ _ _ r2 (λ _ h=>h) (aOo bk hf) (by simpa using hr) I
        (Mn hs eJ r _ _ _ (by simpa using ay) aS hK)
    · simp only [hQ,aj,aNa] at aS
      obtain ⟨⟨hf,hr⟩,aS⟩:=aS;exact aau bk (by omega) j9 eJ (λ _ a=>Yields P ops o v a) (λ _ _ h=>Yields.ayl h) (λ _ _ _ h he hw=>h.of_same he hw) (λ _ _ _ _ h=>h) (λ _=>true) l (λ _ _ _ _ _=>Z) (.inl λ _ _ _ h=>h) _ _ _ _ (λ _ _=>Z) (λ _ h=>h) (aOo bk hf) (by simpa using hr) I
        (Mn hs eJ r _ _ _ (by simpa using ay) aS hK)
    · obtain ⟨k,lN⟩:∃ k,aL i=k+2:=⟨aL i - 2,by omega⟩
      simp only [hQ,lN,aNa,aNV] at aS;obtain ⟨hr,aS⟩:=aS;refine ⟨λ aC=>(by rw [hr] at aC;cases aC),λ j aw=> ?_⟩;rw [hr] at aw;obtain rfl:j=i:=by simpa using aw
      exact ⟨o,bk, .inr ⟨aj,λ w hw=>aOK (λ a' w' aq=>⟨aq.1,Mn hs eJ r _ _ _ (by simpa using ay) aS aq.2⟩) (h w hw)⟩⟩
theorem ayG {a:Act} {w:World} (ba:List Nat) (hm:P.follows .mixedOrders=true) (aS:(Region.noSelect ops && (ba.length == ops.size) && hQ ops aL ba (Array.replicate ops.size false))=true)
    (h:Hk fG fJ P ops (eY (Q .normal)) aL ba a w):(Code.region id ops true).wp P Q a w:=by
  simp only [aNa,aNV] at aS;obtain ⟨⟨hs,ay⟩,aS⟩:=aS;refine aQL (aPe hm (Q:=eY (Q .normal)) ?_) (λ e a w I=>by cases e<;>first | exact I | exact I.elim);have:=Mn (P:=P) hs (Q:=eY (Q .normal)) (λ _ _ _ h=>h) ba (Array.replicate ops.size false) a w (by simp) aS h;rw [ay] at this;exact Fj _ _ _ _ this _ (aNH _ w).drew
end
section
variable {fG:Nat} {fJ:ai→Int} {P:Program} {n:Nat} {E cd:List (Nat×Value)} {a:Act} {w w' w0 aN:World} {Q:Exit→Act→World→Prop} {ops:Array Oper} {v:Value} {aL:Nat→Nat}
variable {d:Option Nat} {ty:TypeId} {pos:String} {aW:Array Edge} {g:Option (Nat×Bool)} {x y z:Operand} {t:TypeId} {rest:List Oper} {ba:List Nat} {i:Nat}
def xS (fG:Nat) (fJ:ai→Int) (P:Program) (n:Nat) (ops:Array Oper) (Q:Exit→Act→World→Prop) (aL:Nat→Nat) (ba:List Nat) (E:List (Nat×Value)) (w0:World):Prop:=∀ a,c' n E a→Hk fG fJ P ops (eY (Q .normal)) aL ba a w0
theorem U' (fG:Nat) (fJ:ai→Int) (hU:List (Nat×Nat)) (ba:List Nat) (hm:P.follows .mixedOrders=true) (aS:(Region.noSelect ops && (ba.length == ops.size) && hQ ops (j_ hU) ba (Array.replicate ops.size false))=true)
    (h:xS fG fJ P n ops Q (j_ hU) ba E w):W P n (.region id ops true) Q E w:=λ a ha=>ayG ba hm aS (h a ha)
theorem Si (h:∀ w,Ext w0 w→N n Q E w):xS fG fJ P n ops Q aL [] E w0:=λ a ha w hw=>h w hw a ha
theorem BJ {d:Nat} (ak:ops[i]? =some ⟨some d,op,ty,pos,aW,none⟩) (aj:aL i=0) (hr:∀ w,oj fG fJ w0 w→cG P E ⟨some d,op,ty,pos,aW,none⟩ w v w) (hd:Nat.blt d n=true)
    (h:xS fG fJ P n ops Q aL ba ((d,v)::E) w0):xS fG fJ P n ops Q aL (i::ba) E w0:=λ a ha =>
  ⟨_,ak, .inl ⟨aj,v, .inl ⟨qP rfl,λ w hw=>by rw [hr w hw n a ha];exact ⟨rfl,rfl⟩⟩,h _ (ha.put hd v)⟩⟩
theorem rp {d:Nat} (ak:ops[i]? =some ⟨some d,op,ty,pos,aW,none⟩) (aj:aL i=1) (hr:∀ w,cG P E ⟨some d,op,ty,pos,aW,none⟩ w v w) (hd:Nat.blt d n=true)
    (h:xS fG fJ P n ops Q aL ba ((d,v)::E) w0):xS fG fJ P n ops Q aL (i::ba) E w0:=λ a ha =>
  ⟨_,ak, .inr (.inl ⟨aj,v, .inl ⟨qP rfl,λ w=>hr w n a ha⟩,h _ (ha.put hd v)⟩)⟩
theorem Sn (aU:o.guard=none) (ak:ops[i]? =some o) (aj:aL i=2) (h:∀ w,Ext w0 w→Bo P n ops o E w λ cd w'=>oj fG fJ w0 w'∧xS fG fJ P n ops Q aL ba cd w'):xS fG fJ P n ops Q aL (i::ba) E w0:=λ a ha =>
  ⟨_,ak, .inr (.inr ⟨by omega,λ w hw=>Ew aU ak (h w hw) (λ cd w' a' aj oD=>⟨λ _=>aj.1,aj.2 a' oD⟩) ha⟩)⟩
theorem Sb (aU:o.guard=none) (ak:ops[i]? =some o) (aj:aL i=3) (h:∀ w,Ext w0 w→Bo P n ops o E w λ cd w'=>xS fG fJ P n ops Q aL ba cd w'):xS fG fJ P n ops Q aL (i::ba) E w0:=λ a ha =>
  ⟨_,ak, .inr (.inr ⟨by omega,λ w hw=>Ew aU ak (h w hw) (λ cd w' a' aj oD=>⟨λ τ=>by omega,aj a' oD⟩) ha⟩)⟩
end
end
section
variable {j:Nat}
theorem axw {β:Type} {cur old part:List β} {p s:Nat} (bk:old.length=s) (aw:j+part.length≤s) (hc:p+s≤cur.length) (h:∀ m,m<s→cur[p+m]? =old[m]?):
  cur.take p++(old.take j++part++old.drop (j+part.length))++cur.drop (p+(old.take j++part++old.drop (j+part.length)).length)=cur.take (p+j)++part++cur.drop (p+j+part.length):=by
 have ay:(old.take j++part++old.drop (j+part.length)).length=s:=by simp only [aM6,aM9,aNE];omega
 rw [ay];apply aOI;intro k;by_cases κ:k<p
 ·rw [aNB,aNw (by rw [aM9];omega),aNB,aNw (by rw [aM9];omega),aNK,aNK,aNd κ,aNd (by omega)]
 ·by_cases τ:k<p+s
  ·rw [aNB,aNC (by rw [aM9];omega),aNw (by rw [ay,aM9];omega),aM9];obtain ⟨m,rfl⟩:∃ m,k=p+m:=⟨k - p,by omega⟩;rw [show p+m - min p cur.length=m from by omega];by_cases aq:m<j
   ·rw [aNB,aNw (by rw [aM9];omega),aNB,aNw (by rw [aM9];omega),aNK,aNK,aNd aq,aNd (by omega),h m (by omega)]
   ·by_cases bb:m<j+part.length
    ·rw [aNB,aNC (by rw [aM9];omega),aNw (by rw [aM9];omega),aNB,aNC (by rw [aM9];omega),aNw (by rw [aM9];omega),aM9,aM9];congr 1;omega
    ·rw [aNC (by simp only [aM6,aM9];omega),aN6,aNC (by simp only [aM6,aM9];omega),aN6];simp only [aM6,aM9];rw [show p+j+part.length+(p+m - (min (p+j) cur.length+part.length))=p+m from by omega,h m (by omega)];congr 1;omega
  ·rw [aNC (by simp only [aM6,aM9,aNE];omega),aN6,aNC (by simp only [aM6,aM9];omega),aN6];simp only [aM6,aM9,aNE];congr 1;omega
section
variable {P:Program} {n:Nat} {E cd:List (Nat×Value)} {a:Act} {w w' w0 aN:World} {Q:Exit→Act→World→Prop} {ops:Array Oper} {v:Value}
variable {d:Option Nat} {ty:TypeId} {pos:String} {aW:Array Edge} {g:Option (Nat×Bool)} {x y z:Operand} {t:TypeId} {rest:List Oper}
theorem azy {α:Type} {R:Φ α} {e by_ B i:Nat} {A:Option Addr} {c:Nat} {l:List α} {q q':α} {p:Addr} {old part es:List Value} (h:R.aM e by_ w B (Φ.ab A) A c l) (hR:R.vp) (ak:l[i]? =some q) (hold:∀ {w cs},R.has w cs q→cs=old) (hx:ev E x=some (.pointer (some p))) (hp:p=⟨et A,jR A+i * R.size+j,none⟩) (aH:ev E y=some v) (hc:v.cells=part.toArray)
  (aw:Nat.ble (j+part.length) R.size=true) (abM:es=old.take j++part++old.drop (j+part.length)) (I:∀ w,R.has w es q') (hs:eO P t part.length)
  (aj:∀ aN,Mod (Φ.ab A) w aN→R.aM e by_ aN B (Φ.ab A) A c (l.set i q')→bQ P n ops Q rest E aN):bQ P n ops Q (⟨none, .store t x y,ty,pos,aW,none⟩::rest) E w:=by
 have JA:i<l.length:=(aM2.1 ak).1;obtain ⟨b,rfl⟩:=h.block (by omega);have JK:p=⟨b,i * R.size+j,none⟩:=by rw [hp];simp [et,jR]
 subst JK;obtain ⟨_,ps,_,_,bk,_⟩:=id h;obtain ⟨cur,sM,_,_⟩:=bk.YS;obtain ⟨tY,hle⟩:=Φ.aM.agn (q':=q') h hR JA I sM;obtain ⟨vL,Ks,DA,gu⟩:=h.has.at_ (by omega);injection DA with DA
 injection DA with dO bq
 subst dO bq;obtain ⟨FV,abJ,jM⟩:=gu i q ak;obtain rfl:=hold abJ;have asr:FV.length=R.size:=R.len abJ;have abZ:es.length=R.size:=R.len (I w);have N6:=aOu aw;have qf:∀ m,m<R.size→cur.toList[i * R.size+m]? =FV[m]? :=λ m hm=>by
  have hu:FV[m]? =some FV[m]:=aM3 (by omega);have:=jM m FV[m] hu;rw [hu];simpa [World.cell?,sM] using this
 have acn:=axw (cur:=cur.toList) (old:=FV) (part:=part) (p:=i * R.size) (s:=R.size) (j:=j) asr N6 (by rw [abZ] at hle;exact hle) qf;have tV:part.all (·.oneCell')=true:=aNJ.2 λ u hu=>R.one (I w) u (by rw [abM];simp [hu]);have ja:=Vd (P:=P) (w:=w) (b:=b) (p:=i * R.size+j) (cur:=cur.toList) (e:=e) (by simpa [aO] using sM) hc hs tV (by rw [abZ] at hle;omega);rw [← acn,← abM] at ja;refine us (λ n a ha=> ?_) (aj _ (Mod.setRow w b _) tY);simp only [execOp,ha.ev hx,ha.ev aH,Instr.storeAt,Instr.sureAddr,aNh,aNl,aNb,ja]
end
end
section
variable {f:FuncId} {name:String} {xs:Array Operand} {ts:Array TypeId} {args:List Value}
section
variable {P:Program} {n:Nat} {E:List (Nat×Value)} {w w':World} {Q:Exit→Act→World→Prop} {ops:Array Oper} {ty:TypeId} {pos:String} {aW:Array Edge} {rest:List Oper} {x y z:Operand} {t u:TypeId} {v jB:Value} {d:Option Nat} {g:Option (Nat×Bool)}
def Bm (P:Program) (w:World) (t:TypeId) (v:Value) (name:String) (f:FuncId) (jB:Value):Prop:=(Go.method (P.types.size+Made.depth) t v name).run P w= .ok (f,jB) w
theorem age (hf:Enters P f) {a:Act} (ha:c' n E a) (hr:ev E x=some (.iface t v)) (he:fw E xs.toList=some args) (hm:Bm P w t v name f jB):
  (execOp a.eval ⟨d, .call {callee:= .invoke x name,args:=xs,argTypes:=ts},ty,pos,aW,g⟩).run P w= .ok (.enter f (jB::args).toArray) w:=by
 obtain ⟨fn,κ,τ,aq⟩:=hf;have hx:xs.map a.eval=args.toArray:=by rw [← ha.fw he];apply aOr;simp
 unfold Bm at hm;have e0:(#[(Value.iface t v)]++args.toArray)[0]? =some (.iface t v):=by simp
 have aR:(#[(Value.iface t v)]++args.toArray).extract 1 (#[(Value.iface t v)]++args.toArray).size=args.toArray:=by simp
 have a1:#[jB]++args.toArray=(jB::args).toArray:=by simp
 have hp:Sem.run P program w= .ok P w:=rfl;simp only [execOp,resolve,hx,ha.ev hr,aNh,aNl,aNb,invoke,e0,aR,callMethod,callFunc,hp,hm,κ,τ,aq,a1,aNR,aOm]
theorem gM {d:Nat} (hf:Enters P f) (hr:ev E x=some (.iface t v)) (he:fw E xs.toList=some args) (hm:Bm P w t v name f jB) (hd:Nat.blt d n=true)
  (h:Calls P f (jB::args).toArray w λ e w'=>∃ v,e= .returned v∧bQ P n ops Q rest ((d,v)::E) w'):bQ P n ops Q (⟨some d, .call {callee:= .invoke x name,args:=xs,argTypes:=ts},ty,pos,aW,none⟩::rest) E w:=λ a ha=>by
 refine x_ Z ?_;unfold Oper.wp;rw [age hf ha hr he hm];refine aOY h λ e w' dP=> ?_;obtain ⟨v,rfl,h⟩:=dP;exact h _ (ha.put hd v)
theorem acH {d:Nat} {j:Nat} {q b c:Bool} {cK:Oper} {iX:Nat} {v0:Value} (aw:ops[j]? =some cK) (oJ:cK.dst=some iX) (af:look E iX=some (.bool b)) (hc:(b == q)=c)
  (hf:Enters P f) (hx:c=true→ev E x=some (.iface t v0)) (he:c=true→fw E xs.toList=some args) (hm:Bm P w t v0 name f jB) (hr:c=true→Calls P f (jB::args).toArray w λ e w'=>e= .returned v∧Ext w w') (hd:Nat.blt d n=true)
  (h:∀ w',Ext w w'→bQ P n ops Q rest ((d,dK c v)::E) w'):bQ P n ops Q (⟨some d, .call {callee:= .invoke x name,args:=xs,argTypes:=ts},ty,pos,aW,some (j,q)⟩::rest) E w :=
 Wh (c:=c) (λ a ha=>by rw [EK (o:=⟨some d,_,ty,pos,aW,some (j,q)⟩) rfl aw oJ af ha,hc])
  (λ hc a ha=>by unfold Oper.wp;rw [age hf ha (hx hc) (he hc) hm];exact (hr hc).mono λ e w' ⟨κ,atr⟩=>by subst κ;subst hc;exact h w' atr _ (ha.put hd v)) (λ hc a ha=>by subst hc;exact h w (Ext.bN w) _ (ha.put hd undef))
theorem GR (hr:∀ w,(Instr.makeInterface t v).run P w= .ok (.iface t v) w) (hx:ev E x=some v):cG P E ⟨d, .makeInterface t x,ty,pos,aW,g⟩ w (.iface t v) w:=λ n a ha=>by
 simp only [execOp,ha.ev hx,aNh,hr w,aNb,aNl]
theorem agX {t':TypeId} (hr:∀ w,(Instr.typeAssert (.iface t v) t' t false).run P w= .ok v w) (hx:ev E x=some (.iface t v)):cG P E ⟨d, .typeAssert x t' t false,ty,pos,aW,g⟩ w v w:=λ n a ha=>by
 simp only [execOp,ha.ev hx,aNh,hr w,aNb,aNl]
theorem yR {e:TypeId} {p:Addr} (h:(Go.method (P.types.size+Made.depth) t (.pointer (some p)) name).run P w=(loadVar e p >>= λ x=>pure (f,x)).run P w) (ay:kA P w e p v):Bm P w t (.pointer (some p)) name f v:=by
 unfold Bm;unfold kA at ay;rw [h];simp only [aNh,ay,aNb,aNl]
end
end
section
variable {j:Nat}
namespace cm
section
variable {α:Type} [Inhabited α] {key:α→Int} {lm l:List α} {m N n:Nat}
theorem aAE (h:(((((m - 1) / 2:Nat):Int)== (m:Int)) || !decide (key (lm.getD m default)<key (lm.getD ((m - 1) / 2) default)))=true):o0 key lm m=lm:=by
 unfold o0;rw [aM4];rintro ⟨κ,τ⟩;simp only [aNG,aNV,aOa,aM7] at h;rcases h with h | h
 ·omega
 ·exact h τ
theorem aAF (h:(((((m - 1) / 2:Nat):Int)== (m:Int)) || !decide (key (lm.getD m default)<key (lm.getD ((m - 1) / 2) default)))=false):0<m∧o0 key lm m=o0 key (swp lm ((m - 1) / 2) m) ((m - 1) / 2):=by
 simp only [aNO,aQh,aPD,aM8] at h;have hm:0<m:=by
  rcases aOU m with aC | aC
  ·subst aC;exact absurd Z h.1
  ·exact aC
 refine ⟨hm, ?_⟩
 conv=>lhs;unfold o0
 rw [aNd ⟨hm,h.2⟩]
theorem anK (h:(decide ((N:Int)≤2 * (m:Int)+1) || decide (2 * (m:Int)+1<0))=true):jo key N l m=l:=by
 unfold jo;rw [aM4];simp only [aNG,aM8] at h;omega
theorem anL (h:(decide ((N:Int)≤2 * (m:Int)+1) || decide (2 * (m:Int)+1<0))=false):2 * m+1<N:=by
 simp only [aNO,aM7] at h;omega
theorem avK (h:(decide (2 * (m:Int)+1+1<(N:Int)) && decide (key (l.getD (2 * m+1+1) default)<key (l.getD (2 * m+1) default)))=true):m_ key N l m=2 * m+2:=by
 simp only [aNa,aM8] at h;unfold m_;rw [aNd ⟨by omega,h.2⟩]
theorem avI {q:Bool} (h:(decide (2 * (m:Int)+1+1<(N:Int)) && q)=true):2 * m+2<N:=by
 simp only [aNa,aM8] at h;omega
theorem avJ (h:(decide (2 * (m:Int)+1+1<(N:Int)) && decide (key (l.getD (2 * m+1+1) default)<key (l.getD (2 * m+1) default)))=false):m_ key N l m=2 * m+1:=by
 unfold m_;rw [aM4];rintro ⟨κ,τ⟩;rw [aNp (show 2 * (m:Int)+1+1<(N:Int) by omega),aNp (show key (l.getD (2 * m+1+1) default)<key (l.getD (2 * m+1) default) from τ)] at h;cases h
theorem Zy (κ:2 * m+1<N) (ay:m_ key N l m=j) (h:(!decide (key (l.getD j default)<key (l.getD m default)))=true):jo key N l m=l:=by
 unfold jo;rw [aM4];rw [ay];rintro ⟨_,τ⟩;rw [aNp τ] at h;cases h
theorem Zz (κ:2 * m+1<N) (ay:m_ key N l m=j) (h:(!decide (key (l.getD j default)<key (l.getD m default)))=false):jo key N l m=jo key N (swp l m j) j:=by
 conv=>lhs;unfold jo
 rw [ay,aNd ⟨κ,by simpa using h⟩]
end
end cm
theorem az0 (m:Nat):Int.tdiv ((m:Int) - 1) 2=(((m - 1) / 2:Nat):Int):=by
 cases m with
 | zero=>rfl
 | succ m =>
  rw [show ((m+1:Nat):Int) - 1=(m:Int) by omega,aQY (by omega)];simp
section
variable {P:Program} {n:Nat} {E:List (Nat×Value)} {w:World} {ty:TypeId} {pos:String} {aW:Array Edge} {x y:Operand} {t u:TypeId} {d:Option Nat} {g:Option (Nat×Bool)}
theorem alK {k:IntKind} {i j r:Int} (hx:ev E x=some (.int k i)) (aH:ev E y=some (.int k j)) (κ:j≠0) (hr:Int.tdiv i j=r) (hw:k.wrap r=r):cG P E ⟨d, .binOp .quo t x y u,ty,pos,aW,g⟩ w (.int k r) w:=uu hx aH (binOp_quo t k i j) (by
 subst hr;have:Op.intDiv .quo k i j=pure (.int k (Int.tdiv i j)):=by simp [Op.intDiv,κ,hw]
 rw [this];rfl)
end
end
theorem akV:dN prog b5.rep 161 225 32:=dN.jz (z:=b5.zero) (k:=4) underlying161 b5.info rfl rfl (by decide) b5.k6
theorem DH {w:World} {cs:List Value} {a:b5} (h:b5.rep.has w cs a):cs=a.cells:=aPs (show cs=a.cells∧a.ok from h)
theorem Ld (A:Option Addr) (n c:Nat) (w:World):
  Calls prog 149 #[.slice A n c] w (λ e w'=>e= .returned (γ (n:Int))∧Ext w w'):=by
 refine cx (n:=5) func149 Z Z Z ?_;refine aF<|aT Z<|aK Z<|aa (dr underlying161 Z)<|bH Z<|cZ Z Z<| ?_;exact ⟨Z,(Ext.bN w)⟩
theorem PT (A:Option Addr) (n c:Nat) (l:List b5) (i j:Int) (p q:Nat) (w:World) (ay:b5.rep.aQ 32 w A c l) (hn:l.length=n) (ak:i=(p:Int)) (aw:j=(q:Int)) (hp:p<n) (I:q<n):
  Calls prog 187 #[.slice A n c,γ i,γ j] w (λ e w'=>e= .returned (.bool (decide ((l.getD p default).all<(l.getD q default).all)))∧Ext w w'):=by
 refine cx (n:=18) func187 Z Z Z ?_;refine aF<|aT Z<|aI<| ?_;refine dw [(4,0),(9,0)] [0,1,2,3,4,5,6,7,8,9,10,11] ?_;refine bn Z Z<|bn Z Z<|ax Z (λ _=>bX i.toNat underlying161 nM Z Z ((ay.keep (Ext.bN w)).bw (aZ i.toNat)) (by omega) (by omega))<|ax Z (λ _=>au Nk Z)<|cS Z (λ _ x=>aB Z (Φ.aQ.ox DH ((ay.keep (J (Ext.bN w) x)).cg (aZ i.toNat)) 3 (cj (l:=l) (u:=default) (by omega)) Z a6))<|bn Z Z<|bn Z Z<|ax Z (λ _=>bX j.toNat underlying161 nM Z Z ((ay.keep (Ext.bN w)).bw (aZ j.toNat)) (by omega) (by omega))<|ax Z (λ _=>au Nk Z)<|cS Z (λ _ x=>aB Z (Φ.aQ.ox DH ((ay.keep (J (Ext.bN w) x)).cg (aZ j.toNat)) 3 (cj (l:=l) (u:=default) (by omega)) Z a6))<|ax Z (λ _=>blt Z Z)<|ax Z (λ _=>eV Z)<|fn λ dk gH=> ?_;refine br<|rt<|cZ Z Z<| ?_;subst ak aw;exact ⟨by simp only [aN9];rfl,gH⟩
theorem PU (A:Option Addr) (n c aA:Nat) (l:List b5) (i j:Int) (p q:Nat) (w:World) (bc:b5.rep.aM 225 32 w aA (Φ.ab A) A c (l)) (dp:∀ y∈l,y.ok) (hn:l.length=n) (ak:i=(p:Int)) (aw:j=(q:Int)) (hp:p<n) (I:q<n):
  Calls prog 188 #[.slice A n c,γ i,γ j] w (λ e w'=>e= .returned (.tuple #[])∧b5.rep.aM 225 32 w' aA (Φ.ab A) A c (cm.swp l p q)∧Mod (Φ.ab A) w w'):=by
 refine cx (n:=20) func188 Z Z Z ?_;refine dw [(7,0),(11,0),(13,3),(15,3)] [0,1,2,3,4,5,6,7,8,9,10,11,12,13,14,15] ?_;refine bn Z Z<|bn Z Z<|bn Z Z<|bn Z Z<|bn Z Z<|bn Z Z<|ax Z (λ _=>bX j.toNat underlying161 nM Z Z (bc.has.bw (aZ j.toNat (by first | omega | (rw [aNj];omega)))) (by omega) (by first | omega | (rw [aNj];omega)))<|cS Z (λ _ x=>aB Z (Φ.aQ.jJ DH ((bc.later x).has.cg (aZ j.toNat (by first | omega | (rw [aNj];omega)))) (cj (l:=l) (u:=default) (by first | omega | (rw [aNj];omega))) M1 nM))<|bn Z Z<|bn Z Z<|ax Z (λ _=>bX i.toNat underlying161 nM Z Z (bc.has.bw (aZ i.toNat (by first | omega | (rw [aNj];omega)))) (by omega) (by first | omega | (rw [aNj];omega)))<|cS Z (λ _ x=>aB Z (Φ.aQ.jJ DH ((bc.later x).has.cg (aZ i.toNat (by first | omega | (rw [aNj];omega)))) (cj (l:=l) (u:=default) (by first | omega | (rw [aNj];omega))) M1 nM))<|ax Z (λ _=>bX i.toNat underlying161 nM Z Z (bc.has.bw (aZ i.toNat (by first | omega | (rw [aNj];omega)))) (by omega) (by first | omega | (rw [aNj];omega)))<|dC Z Z Z λ dk gH Q hK=>Pf (q':=l.getD j.toNat default) (i:=i.toNat) (bc.later gH) Φ.c6 (by first | omega | (rw [aNj];omega)) Z Z Z Z (λ _=>⟨Z,(dp _ (mr (by omega)))⟩) nM λ PD avT L_=>hK _ _ ?_;have dM:=(Mod.bN (Φ.ab A) w).trans (Mod.aP gH);have A5:=dM.md avT (λ q I=> .inl I);refine ax Z (λ _=>bX j.toNat underlying161 nM Z Z (L_.has.bw (aZ j.toNat (by first | omega | (rw [aNj];omega)))) (by omega) (by first | omega | (rw [aNj];omega)))<|dC Z Z Z λ uG bD Q hK=>Pf (q':=l.getD i.toNat default) (i:=j.toNat) (L_.later bD) Φ.c6 (by first | omega | (rw [aNj];omega)) Z Z Z Z (λ _=>⟨Z,(dp _ (mr (by omega)))⟩) nM λ uD Uy L4=>hK _ _ ?_;have jh:=A5.trans (Mod.aP bD);have jV:=jh.md Uy (λ q I=> .inl I);refine fn λ y4 gw=> ?_;have iz:=jV.trans (Mod.aP gw);refine ne<|dS .nil<| ?_;have L4:=L4.later gw;subst ak aw;simp only [aN9] at L4;exact ⟨Z,L4,iz⟩
theorem aBK (b:Nat) (A:Option Addr) (n c aA:Nat) (l:List b5) (v0 v1 v2 v3 v4 v5:Value) (j:Nat) (w:World) (aE:aO w b [v0,v1,v2,v3,v4,v5, .slice A n c] 163 (0,0)) (bc:b5.rep.aM 225 32 w aA (Φ.ab A) A c (l)) (dp:∀ y∈l,y.ok) (hn:l.length=n) (hd:∀ q∈Φ.ab A,q=b→False) (aw:j<n):
  Calls prog 163 #[.iface 223 (.pointer (some ⟨b,6,none⟩)),γ (j:Int)] w (λ e w'=>e= .returned (.tuple #[])∧aO w' b [v0,v1,v2,v3,v4,v5, .slice A n c] 163 (0,0)∧b5.rep.aM 225 32 w' aA (Φ.ab A) A c (cm.o0 b5.all l j)∧Mod (Φ.ab A) w w'):=by
 have asz:=bc.has.kr;refine cx (n:=23) func163 Z Z Z ?_;refine bT<| ?_;refine gi (λ cJ cu aV=>∃ lm:List b5,∃ m:Nat,cu= [(0, .iface 223 (.pointer (some ⟨b,6,none⟩))),(1,γ (m:Int))]∧cJ=(2 * m)∧Mod (Φ.ab A) w aV∧aO aV b [v0,v1,v2,v3,v4,v5, .slice A n c] 163 (0,0)∧b5.rep.aM 225 32 aV aA (Φ.ab A) A c (lm)∧(m<n)∧(lm.length=n)∧(∀ y∈lm,y.ok)∧(cm.o0 b5.all lm m=cm.o0 b5.all l j)∧(∀ q∈Φ.ab A,q=b→False)) _ _ ⟨l,j,Z,Z,(Mod.bN (Φ.ab A) w),aE,bc,by omega,by omega,dp,rfl,hd⟩ (ih Z) ?_;rintro aeR XJ xq ⟨lm,m,rfl,rfl,kQ,aE,jk,hm,asq,DO,lO,Dd⟩;refine bT<|aK Z<|aa (iM Z Z fP)<|aa (alK (r:=(((m - 1) / 2:Nat):Int)) Z Z (by decide) (az0 m) fP)<|aT Z<|aI<|aK Z<|vm Z<|aa (beq Z Z)<|vm Z<|fS Z Z<|fS Z Z<|fS Z Z<|acH Z Z Z Z M5 (λ hc=>(gt hc Z)) (λ hc=>fO (gt hc Z) (fO (gt hc Z) Z)) (yR (e:= 161) (by kernel_rfl) (aE.one ov Z)) (λ hc=>PT _ _ _ lm (m:Int) ((((m - 1) / 2:Nat):Int)) m ((m - 1) / 2) _ jk.has (by omega) (by omega) (by omega) (by first | omega | (simp only [cq] at hc;omega)) (by first | omega | (simp only [cq] at hc;omega))) Z λ fT ea=> ?_;have b7:=kQ.trans (Mod.aP ea);refine b9 Z (λ hc=>dD (gt hc Z))<|aa (gv Z Z Z Z)<|aJ<| ?_;refine c1 Z (λ hH=> ?_) (λ hH=> ?_)
 ·have hex:=cm.aAE (key:=b5.all) hH;rw [hex] at lO;refine ej<|ei<|Lc Z<|eU<|eh<|ne<|dS .nil<| ?_;have jk:=jk.later ea;have aE:=aE.later ea;exact ⟨Z,aE,by rw [← lO];exact jk,b7⟩
 ·obtain ⟨TL,tU⟩:=cm.aAF (key:=b5.all) hH;refine bE<|aK Z<|vm Z<|vm Z<| ?_;have aE:=aE.later ea;have jk:=jk.later ea;refine gM M7 Z Z (yR (e:= 161) (by kernel_rfl) (aE.one ov Z)) Z ((PU _ _ _ _ lm ((((m - 1) / 2:Nat):Int)) (m:Int) ((m - 1) / 2) m _ jk DO (by omega) (by omega) (by omega) (by omega) (by omega)).mono ?_);rintro e y3 ⟨rfl,akp,rF⟩;refine cF ?_;have mJ:=b7.md rF (λ q I=> .inl I);have asO:∀ y∈cm.swp lm ((m - 1) / 2) m,y.ok:=λ y aH=>DO y ((cm.Cp (by omega) (by omega)).subset aH);have asj:(cm.swp lm ((m - 1) / 2) m).length=n:=by rw [cm.lv];omega
  refine aJ<|rg<|vm Z<|va Z<|nl<|cl<| ?_;have aE:=aE.mod rF (λ I=>Dd _ I rfl);exact eX ⟨cm.swp lm ((m - 1) / 2) m,(m - 1) / 2,Z,Z,mJ,aE,akp,by omega,asj,asO,tU.symm.trans lO,Dd⟩
theorem aBF (b:Nat) (A:Option Addr) (n c aA:Nat) (l:List b5) (v0 v1 v2 v3 v4 v5:Value) (i N:Nat) (w:World) (aE:aO w b [v0,v1,v2,v3,v4,v5, .slice A n c] 163 (0,0)) (bc:b5.rep.aM 225 32 w aA (Φ.ab A) A c (l)) (dp:∀ y∈l,y.ok) (hn:l.length=n) (hd:∀ q∈Φ.ab A,q=b→False) (ak:i<n) (mU:N≤n) (we:n≤1000000):
  Calls prog 164 #[.iface 223 (.pointer (some ⟨b,6,none⟩)),γ (i:Int),γ (N:Int)] w (λ e w'=>(∃ v,e= .returned (.bool v))∧aO w' b [v0,v1,v2,v3,v4,v5, .slice A n c] 163 (0,0)∧b5.rep.aM 225 32 w' aA (Φ.ab A) A c (cm.jo b5.all N l i)∧Mod (Φ.ab A) w w'):=by
 refine cx (n:=48) func164 Z Z Z ?_;refine aF<|aT Z<|aK Z<|aT Z<|aI<|bT<| ?_;refine gi (λ cJ cu aV=>∃ lm:List b5,∃ m:Nat,cu= [(0, .iface 223 (.pointer (some ⟨b,6,none⟩))),(1,γ (i:Int)),(2,γ (N:Int)),(6, .bool false),(7,γ (m:Int))]∧cJ=N - m∧Mod (Φ.ab A) w aV∧aO aV b [v0,v1,v2,v3,v4,v5, .slice A n c] 163 (0,0)∧b5.rep.aM 225 32 aV aA (Φ.ab A) A c (lm)∧(m<n)∧(lm.length=n)∧(∀ y∈lm,y.ok)∧(cm.jo b5.all N lm m=cm.jo b5.all N l i)∧(∀ q∈Φ.ab A,q=b→False)) _ _ ⟨l,i,Z,Z,(Mod.bN (Φ.ab A) w),aE,bc,by omega,by omega,dp,rfl,hd⟩ (ih Z) ?_;rintro aeR XJ xq ⟨lm,m,rfl,rfl,kQ,aE,jk,hm,asq,DO,lO,Dd⟩;refine bT<|aK Z<|aa (zM Z Z fP)<|fl Z Z<|aT Z<|aI<|aK Z<|vm Z<|aa (ld Z Z)<|vm Z<|fS Z Z<|b9 Z (λ hc=>blt (gt hc Z) Z)<|aa (gv Z Z Z Z)<|aJ<| ?_;refine c1 Z (λ oC=> ?_) (λ oC=> ?_)
 ·have hex:=cm.anK (key:=b5.all) (l:=lm) oC;rw [hex] at lO;refine ej<|ei<|Lc Z<|eU<|eh<|br<|aK Z<|vm Z<|aa (hO Z Z)<|bH Z<|cZ Z Z<| ?_
  skip
  exact ⟨⟨_,Z⟩,aE,by rw [← lO];exact jk,kQ⟩
 ·have Gg:=cm.anL oC;refine bE<|aK Z<|aT Z<|aI<|aK Z<|fl Z Z<|aT Z<|aK Z<|vm Z<|fB Z Z<|vm Z<|fS Z Z<|fS Z Z<| ?_;refine fS Z Z<|acH Z Z Z Z M5 (λ hc=>(gt hc Z)) (λ hc=>fO (gt hc Z) (fO (gt hc Z) Z)) (yR (e:= 161) (by kernel_rfl) (aE.one ov Z)) (λ hc=>PT _ _ _ lm (((2 * (m:Int))+1)+1) ((2 * (m:Int))+1) (((2 * m)+1)+1) ((2 * m)+1) _ jk.has (by omega) (by omega) (by omega) (by first | omega | (simp only [cq] at hc;omega)) (by first | omega | (simp only [cq] at hc;omega))) Z λ uG bD=> ?_;have jh:=kQ.trans (Mod.aP bD);refine aa (eZ Z Z Z Z)<|aJ<| ?_;refine c1 Z (λ hT=> ?_) (λ hT=> ?_)
  ·have j8:=cm.avK (key:=b5.all) (l:=lm) (m:=m) hT;have abA:=cm.avI hT;refine rg<|vm Z<|aT Z<|aI<|aK Z<|vm Z<|vm Z<| ?_;have aE:=aE.later bD;have jk:=jk.later bD;refine gM M5 Z Z (yR (e:= 161) (by kernel_rfl) (aE.one ov Z)) Z ((PT _ _ _ lm (((2 * (m:Int))+1)+1) (m:Int) (((2 * m)+1)+1) m _ jk.has (by omega) (by omega) (by omega) (by first | omega | (simp only [cq] at hc;omega)) (by first | omega | (simp only [cq] at hc;omega))).mono ?_);rintro e He ⟨rfl,d_⟩;refine cF ?_;have r3:=jh.trans (Mod.aP d_);refine aa (dD Z)<|aJ<| ?_;refine c1 Z (λ Dw=> ?_) (λ Dw=> ?_)
   ·have hex:=cm.Zy (key:=b5.all) Gg j8 Dw;rw [hex] at lO;refine ej<|ei<|Lc Z<|eU<|eh<|br<|aK Z<|vm Z<|aa (hO Z Z)<|bH Z<|cZ Z Z<| ?_
    skip
    have jk:=jk.later d_;have aE:=aE.later d_;exact ⟨⟨_,Z⟩,aE,by rw [← lO];exact jk,r3⟩
   ·have tU:=cm.Zz (key:=b5.all) Gg j8 Dw;refine bE<|aK Z<|vm Z<|vm Z<| ?_;have aE:=aE.later d_;have jk:=jk.later d_;refine gM M7 Z Z (yR (e:= 161) (by kernel_rfl) (aE.one ov Z)) Z ((PU _ _ _ _ lm (m:Int) (((2 * (m:Int))+1)+1) m (((2 * m)+1)+1) _ jk DO (by omega) (by omega) (by omega) (by omega) (by omega)).mono ?_);rintro e qN ⟨rfl,vE,GM⟩;refine cF ?_;have l3:=r3.md GM (λ q I=> .inl I);have asP:∀ y∈cm.swp lm m (((2 * m)+1)+1),y.ok:=λ y aH=>DO y ((cm.Cp (by omega) (by omega)).subset aH);have asl:(cm.swp lm m (((2 * m)+1)+1)).length=n:=by rw [cm.lv];omega
    refine aJ<|rg<|vm Z<|va Z<|nl<|cl<| ?_;have aE:=aE.mod GM (λ I=>Dd _ I rfl);exact eX ⟨cm.swp lm m (((2 * m)+1)+1),2 * m+2,Z,Z,l3,aE,vE,by omega,asl,asP,tU.symm.trans lO,Dd⟩
  ·have j8:=cm.avJ (key:=b5.all) (l:=lm) (m:=m) hT;refine bE<|aI<|aK Z<|vm Z<|vm Z<| ?_;have aE:=aE.later bD;have jk:=jk.later bD;refine gM M5 Z Z (yR (e:= 161) (by kernel_rfl) (aE.one ov Z)) Z ((PT _ _ _ lm ((2 * (m:Int))+1) (m:Int) ((2 * m)+1) m _ jk.has (by omega) (by omega) (by omega) (by first | omega | (simp only [cq] at hc;omega)) (by first | omega | (simp only [cq] at hc;omega))).mono ?_);rintro e rW ⟨rfl,jU⟩;refine cF ?_;have hZ:=jh.trans (Mod.aP jU);refine aa (dD Z)<|aJ<| ?_;refine c1 Z (λ Jl=> ?_) (λ Jl=> ?_)
   ·have hex:=cm.Zy (key:=b5.all) Gg j8 Jl;rw [hex] at lO;refine ej<|ei<|Lc Z<|eU<|eh<|br<|aK Z<|vm Z<|aa (hO Z Z)<|bH Z<|cZ Z Z<| ?_
    skip
    have jk:=jk.later jU;have aE:=aE.later jU;exact ⟨⟨_,Z⟩,aE,by rw [← lO];exact jk,hZ⟩
   ·have tU:=cm.Zz (key:=b5.all) Gg j8 Jl;refine bE<|aK Z<|vm Z<|vm Z<| ?_;have aE:=aE.later jU;have jk:=jk.later jU;refine gM M7 Z Z (yR (e:= 161) (by kernel_rfl) (aE.one ov Z)) Z ((PU _ _ _ _ lm (m:Int) ((2 * (m:Int))+1) m ((2 * m)+1) _ jk DO (by omega) (by omega) (by omega) (by omega) (by omega)).mono ?_);rintro e EB ⟨rfl,C6,B_⟩;refine cF ?_;have l5:=hZ.md B_ (λ q I=> .inl I);have asQ:∀ y∈cm.swp lm m ((2 * m)+1),y.ok:=λ y aH=>DO y ((cm.Cp (by omega) (by omega)).subset aH);have asm:(cm.swp lm m ((2 * m)+1)).length=n:=by rw [cm.lv];omega
    refine aJ<|rg<|vm Z<|va Z<|nl<|cl<| ?_;have aE:=aE.mod B_ (λ I=>Dd _ I rfl);exact eX ⟨cm.swp lm m ((2 * m)+1),2 * m+1,Z,Z,l5,aE,C6,by omega,asm,asQ,tU.symm.trans lO,Dd⟩
theorem aBJ (b:Nat) (A:Option Addr) (c aA:Nat) (l:List b5) (v0 v1 v2 v3 v4 v5:Value) (x:b5) (w:World) (aE:aO w b [v0,v1,v2,v3,v4,v5, .slice A l.length c] 163 (0,0)) (bc:b5.rep.aM 225 32 w aA (Φ.ab A) A c (l)) (dp:∀ y∈l,y.ok) (hd:∀ q∈Φ.ab A,q=b→False) (hx:x.ok) (we:l.length≤1000000) (sK:aA≤w.heap.size):
  Calls prog 192 #[.pointer (some ⟨b,6,none⟩), .iface 225 (.agg #[γ x.cell.x,γ x.cell.y,γ x.far,γ x.all])] w (λ e w'=>∃ bS cn,e= .returned (.tuple #[])∧aO w' b [v0,v1,v2,v3,v4,v5, .slice bS (l++ [x]).length cn] 163 (0,0)∧b5.rep.aM 225 32 w' aA (Φ.ab bS) bS cn (l++ [x])∧(∀ q∈Φ.ab bS,q∈Φ.ab A∨w.heap.size≤q)∧Mod (b::Φ.ab A) w w'):=by
 have O7:=aE.lt;refine cx (n:=13) func192 Z Z Z ?_;refine dw [(3,0),(6,2),(7,3),(9,3)] [0,1,2,3,4,5,6,7,8,9] ?_;refine bn Z Z<|bn Z Z<|ax Z (λ _=>b3 Z)<|cP Z Z aE ov Z<|bn Z Z<|ax Z (λ _=>agX (λ w=>by kernel_rfl) Z)<|fW Z Z Z λ dk gH Q hK=>b_ (e:= 225) (cs:= [γ x.cell.x,γ x.cell.y,γ x.far,γ x.all]) Z (λ _=>by kernel_rfl) Z λ PD alm qR aur vn=>hK _ _ ⟨J gH qR, ?_⟩;have:=gH.size;have dM:=(Mod.bN (b::Φ.ab A) w).trans (Mod.aP gH);have A5:=dM.trans (Mod.aP qR);have aJ3:=vn.lt;have bc:=bc.later (J gH qR);refine dC Z Z Z λ uD gB Q hK=>ap akV Φ.c6 (bc.later gB) ((aO.fy (R:=b5.rep) (by_:=32) (q:=x) vn ⟨Z,hx⟩ (by decide)).keep gB) Z Z (by simp only [aM1,aM5];omega) (by simp only [aM1,aM5];omega) (by have:=gB.size;omega) Z λ He aiy Bs jP vE aaO aJl=>hK _ _ ?_;have:=gB.size;have jV:=A5.trans (Mod.aP gB);have r3:=jV.md jP (λ q I=> .inl (aNe _ I));refine ax Z (λ _=>b3 Z)<| ?_;have aE:=(aE.later (J gH (J qR gB))).mod jP (λ I=>hd _ I rfl);refine dC Z Z Z λ uE iu Q hK=>fM Z Z (aE.later iu) Z ZX Z Z λ y6 D_ aE=>hK _ _ ?_;have ke:=r3.trans (Mod.aP iu);have l4:=ke.md D_ k0;refine fn λ AQ eL=> ?_;have jg:=l4.trans (Mod.aP eL);refine ne<|dS .nil<| ?_;have vE:=((vE.later iu).mod D_ (c2 λ q I af=>aNq (aaO q I) (λ ac7=>by (exact hd q ac7 af)) (λ ac7=>by omega))).later eL;have aE:=aE.later eL;exact ⟨aiy,Bs,Z,aE,vE,(λ q I=>(aaO q I).imp id λ h=>by omega),jg⟩
theorem aBI (b:Nat) (A:Option Addr) (n c aA:Nat) (l:List b5) (v0 v1 v2 v3 v4 v5:Value) (w:World) (aE:aO w b [v0,v1,v2,v3,v4,v5, .slice A n c] 163 (0,0)) (bc:b5.rep.aM 225 32 w aA (Φ.ab A) A c (l)) (dp:∀ y∈l,y.ok) (hn:l.length=n) (hd:∀ q∈Φ.ab A,q=b→False) (aC:0<n):
  Calls prog 191 #[.pointer (some ⟨b,6,none⟩)] w (λ e w'=>e= .returned (.iface 225 (.agg ((l.getD (n - 1) default).cells).toArray))∧aO w' b [v0,v1,v2,v3,v4,v5, .slice A (n - 1) c] 163 (0,0)∧b5.rep.aM 225 32 w' aA (Φ.ab A) A c (l.take (n - 1))∧Mod (b::Φ.ab A) w w'):=by
 have aAl:=bZ bc.lt;have O7:=aE.lt;have asz:=bc.has.kr;have ab5:=bc.has.1;refine cx (n:=23) func191 Z Z Z ?_;refine aF<|aT Z<|aK Z<|aa (b3 Z)<|bA Z aE ov Z<|aT Z<|aK Z<|vm Z<|aa (dr underlying161 Z)<|aa (iM Z Z fP)<|aa (bX (((n:Int) - 1).toNat) underlying161 nM Z Z (bc.has.bw (aZ (((n:Int) - 1).toNat))) (by omega) (by omega))<|aa (aB Z (Φ.aQ.jJ DH (bc.has.cg (aZ (((n:Int) - 1).toNat))) (cj (l:=l) (u:=default) (by omega)) M1 nM))<|dn ZZ Z λ dk bx bm fQ ag=> ?_;have dM:=(Mod.bN (b::Φ.ab A) w).trans (Mod.aP bm);refine c9 Z Z ag Z nM Z Z λ fT kH ag=> ?_;have b7:=dM.md kH (λ q I=> .inr (by have:=aMZ.1 I;omega));refine aJ<|aK Z<|vm Z<|vm Z<|aa (dr underlying161 Z)<|aa (iM Z Z fP)<|aa (Vf (n - 1) (n - 1) underlying161 nM Z Z (by omega) (by omega) Z)<|aa (b3 Z)<| ?_;have aE:=(aE.later bm).mod kH aY;refine fM Z Z aE Z ZX Z Z λ xp rF aE=> ?_;have iU:=b7.md rF k0;refine aJ<|aF<| ?_;have ag:=ag.mod rF aY;refine aa (aB Z (ag.all M1 nM))<|aa (GR (λ w=>by kernel_rfl) Z)<|bH Z<|cZ Z Z<| ?_;have bc:=((bc.later bm).mod kH (bl aAl)).mod rF (c2 hd);exact ⟨by rw [show ((n:Int) - 1).toNat=n - 1 by omega];rfl,aE,Φ.aM.cut bc Φ.c6 (n - 1) (by omega),iU⟩
theorem aBH (b:Nat) (A:Option Addr) (c aA:Nat) (l:List b5) (v0 v1 v2 v3 v4 v5:Value) (x:b5) (w:World) (aE:aO w b [v0,v1,v2,v3,v4,v5, .slice A l.length c] 163 (0,0)) (bc:b5.rep.aM 225 32 w aA (Φ.ab A) A c (l)) (dp:∀ y∈l,y.ok) (hd:∀ q∈Φ.ab A,q=b→False) (hx:x.ok) (we:l.length≤1000000) (sK:aA≤w.heap.size):
  Calls prog 148 #[.iface 223 (.pointer (some ⟨b,6,none⟩)), .iface 225 (.agg #[γ x.cell.x,γ x.cell.y,γ x.far,γ x.all])] w (λ e w'=>∃ bS cn,e= .returned (.tuple #[])∧aO w' b [v0,v1,v2,v3,v4,v5, .slice bS (cm.push b5.all l x).length cn] 163 (0,0)∧b5.rep.aM 225 32 w' aA (Φ.ab bS) bS cn (cm.push b5.all l x)∧(∀ q∈Φ.ab bS,q∈Φ.ab A∨w.heap.size≤q)∧Mod (b::Φ.ab A) w w'):=by
 have O7:=aE.lt;refine cx (n:=12) func148 Z Z Z ?_;refine aK Z<|vm Z<|gM aoD Z Z (by unfold Bm;kernel_rfl) Z ((aBJ b A c aA l v0 v1 v2 v3 v4 v5 x _ aE bc dp hd hx (by omega) sK).mono ?_);rintro e xq ⟨cc,bd,rfl,iJ,Qz,BS,Uw⟩;refine cF ?_;have kQ:=(Mod.bN (b::Φ.ab A) w).md Uw (λ q I=> .inl I);have Gp:(l++ [x]).length=l.length+1:=by rw [aM6];rfl
 have abF:∀ q∈Φ.ab cc,q=b→False:=λ q I e=>(BS q I).elim (λ h=>hd q h e) (λ h=>by omega);have Oa:∀ y∈l++ [x],y.ok:=λ y aH=>(aNi.1 aH).elim (dp y) λ h=>by rw [aMZ.1 h];exact hx
 refine aJ<|rg<|vm Z<|vm Z<|gM IU Z Z (yR (e:= 161) (by kernel_rfl) (iJ.one ov Z)) Z ((Ld _ ((l++ [x]).length) _ _).mono ?_);rintro e aho ⟨rfl,qR⟩;refine cF ?_;have Hv:=kQ.trans (Mod.aP qR);refine aa (iM Z Z fP)<| ?_;have Qz:=Qz.later qR;have iJ:=iJ.later qR;refine ca aoN Z Z (((show Calls _ _ #[_,γ (((l++ [x]).length:Int) - 1)] _ _ from (by rw [show ((l++ [x]).length:Int) - 1=(l.length:Int) by rw [Gp];omega];exact aBK b cc (l++ [x]).length bd aA (l++ [x]) v0 v1 v2 v3 v4 v5 l.length _ iJ Qz Oa rfl abF (by omega)))).mono ?_);rintro e fT ⟨rfl,gI,tu,avU⟩;refine cF ?_;have b7:=Hv.md avU (λ q I=>(BS q I).imp (aNe _) λ h=>by omega);refine nl<|ne<|dS .nil<| ?_;exact ⟨cc,bd,Z,by rw [show (cm.push b5.all l x).length=(l++ [x]).length by rw [cm.KC,Gp]];exact gI,tu,BS,b7⟩
theorem aBG (b:Nat) (A:Option Addr) (n c aA:Nat) (l:List b5) (v0 v1 v2 v3 v4 v5:Value) (w:World) (aE:aO w b [v0,v1,v2,v3,v4,v5, .slice A n c] 163 (0,0)) (bc:b5.rep.aM 225 32 w aA (Φ.ab A) A c (l)) (dp:∀ y∈l,y.ok) (hn:l.length=n) (hd:∀ q∈Φ.ab A,q=b→False) (aC:0<n) (we:n≤1000000):
  Calls prog 150 #[.iface 223 (.pointer (some ⟨b,6,none⟩))] w (λ e w'=>e= .returned (.iface 225 (.agg (l.getD 0 default).cells.toArray))∧aO w' b [v0,v1,v2,v3,v4,v5, .slice A (cm.nh b5.all l).length c] 163 (0,0)∧b5.rep.aM 225 32 w' aA (Φ.ab A) A c (cm.nh b5.all l)∧Mod (b::Φ.ab A) w w'):=by
 refine cx (n:=15) func150 Z Z Z ?_;refine aF<|aT Z<|aK Z<|gM IU Z Z (yR (e:= 161) (by kernel_rfl) (aE.one ov Z)) Z ((Ld _ n _ _).mono ?_);rintro e dk ⟨rfl,gH⟩;refine cF ?_;have dM:=(Mod.bN (b::Φ.ab A) w).trans (Mod.aP gH);refine aa (iM Z Z fP)<|aT Z<|aK Z<|vm Z<| ?_;have aE:=aE.later gH;have bc:=bc.later gH;refine gM M7 Z Z (yR (e:= 161) (by kernel_rfl) (aE.one ov Z)) Z ((PU _ _ _ _ l 0 ((n:Int) - 1) 0 (n - 1) _ bc dp (by omega) (by omega) (by omega) (by omega) (by omega)).mono ?_);rintro e aht ⟨rfl,akA,OM⟩;refine cF ?_;have EY:=dM.md OM (λ q I=> .inl (aNe _ I));have aca:∀ y∈cm.swp l 0 (n - 1),y.ok:=λ y aH=>dp y ((cm.Cp (by omega) (by omega)).subset aH);have aGE:(cm.swp l 0 (n - 1)).length=n:=by rw [cm.lv];omega
 refine aJ<|aK Z<|vm Z<| ?_;have aE:=aE.mod OM (λ I=>hd _ I rfl);refine ca aoT Z Z (((show Calls _ _ #[_,γ 0,γ ((n:Int) - 1)] _ _ from (by rw [show (n:Int) - 1=((n - 1:Nat):Int) by omega];exact aBF b A n c aA (cm.swp l 0 (n - 1)) v0 v1 v2 v3 v4 v5 0 (n - 1) _ aE akA aca (by omega) hd (by omega) (by omega) we))).mono ?_);rintro e PA ⟨⟨aLu,rfl⟩,iJ,akJ,kH⟩;refine cF ?_;have lz:=EY.md kH (λ q I=> .inl (aNe _ I));have asR:∀ y∈cm.jo b5.all (n - 1) (cm.swp l 0 (n - 1)) 0,y.ok:=λ y aH=>aca y ((cm.ZD _ _ _ _ (aNk _) (by omega) (by omega)).subset aH);have aGF:(cm.jo b5.all (n - 1) (cm.swp l 0 (n - 1)) 0).length=n:=by rw [cm.ZC _ _ _ _ (aNk _)];omega
 refine aJ<|aK Z<|gM aoV Z Z (by unfold Bm;kernel_rfl) Z ((aBI b A n c aA (cm.jo b5.all (n - 1) (cm.swp l 0 (n - 1)) 0) v0 v1 v2 v3 v4 v5 _ iJ akJ asR (by omega) hd aC).mono ?_);rintro e He ⟨rfl,ajB,ajJ,Uy⟩;refine cF ?_;have r3:=lz.md Uy (λ q I=> .inl I);refine bH Z<|cZ Z Z<| ?_;subst hn;exact ⟨by rw [← cm.afD (key:=b5.all) aC];rfl,by rw [cm.GZ];exact ajB,ajJ,r3⟩
theorem hk {a b:Bool} (h:a=b):Ending.returned (.bool a)= .returned (.bool b):=by rw [h]
theorem kB (w:World) (o:Obj):Below w.heap.size w (w.alloc o):=(aNH _ w).alloc (aNk _) o
open Tryz

def av.oo (p:Int):Bool:= !av.O4 p
theorem alv {p:Int}:(p<0→av.oo p=true)∧(4≤p→av.oo p=true)∧(0≤p→p<4→av.oo p=false):=by
 unfold av.oo av.O4;refine ⟨λ h=>by rw [oL (.inl h)];rfl,λ h=>by rw [oL (.inr (by omega))];rfl,λ κ τ=>by rw [ml κ (by omega)];rfl⟩
theorem apN (p:Int) (w:World):Calls prog 104 #[.int .i64 p] w λ e w'=>e= .returned (.bool (av.oo p))∧Below w.heap.size w w':=by
 obtain ⟨q7,fe,gJ⟩:=alv (p:=p);rcases aOJ p 0 with h | h
 ·have af:=q7 h;have hd:decide (p<0)=true:=by simpa using h
  rw [af];clear q7 fe gJ af;go_enter func104,ntmps104;go_wp2
  go_ret;exact ⟨Z,aNH _ _⟩
 ·rcases aOJ p 4 with bb | bb
  ·have af:=gJ h bb;have hd:decide (p<0)=false:=by simpa using h
   rw [af];clear q7 fe gJ af;go_enter func104,ntmps104;go_wp2
   go_ret;exact ⟨hk (by simp<;>omega),aNH _ _⟩
  ·have af:=fe bb;have hd:decide (p<0)=false:=by simpa using h
   rw [af];clear q7 fe gJ af;go_enter func104,ntmps104;go_wp2
   go_ret;exact ⟨hk (by simp<;>omega),aNH _ _⟩
theorem atE  (A:Option Addr) (c:Nat) (l:List Int) (w:World) (ay:bz.aQ 8 w A c l):
  Calls prog 130 #[.slice A l.length c, .func (.func 104) #[] #[]] w λ e w'=>e= .returned (.int .i64 (hi (av.oo) l))∧Below w.heap.size w w':=by
 obtain ⟨n,hn⟩:∃ n,l.length=n:=⟨_,rfl⟩;have hle:n≤9223372036854775807:=by have:=ay.1;have:=ay.2.1;omega
 rw [hn];have b1:=aNc ay;have jj:=aNc hn;clear ay hn;go_enter func130,ntmps130;go_wp2_with fail
 go_loopw [5,8] (λ _ gM wr=>∃ k:Nat,k≤n∧gM= .int .i64 (k:Int)∧Hid (∀ j (aw:j<k) (jt:j<l.length),(av.oo) l[j]=false)∧Below w.heap.size w wr) (λ _ gM _=>n - (intOf gM).toNat)
 case atStart=>exact ⟨0,aNQ _,rfl,(λ j aw=>by omega),aNH _ _⟩
 case round =>
  obtain ⟨k,aj,rfl,ji,af⟩:=hrel;by_cases bB:k<n
  ·have nO:k<l.length:=by rw [jj.out];exact bB
   obtain ⟨b,o,rfl,jM⟩:=Es (b1.out.keep af) (by omega);obtain ⟨x,qm⟩:∃ x,l[k]'nO=x:=⟨_,rfl⟩;have sV:=jM k x (by rw [aM3 nO,qm]);have vu:=aNc qm

   have hc:=apN x wr;clear jM qm;cases jL:(av.oo) x with
   | true =>
    have kp:hi (av.oo) l=(k:Int):=JV nO (by rw [vu.out];exact jL) λ j aw=>ji.out j aw (by omega);rw [jL] at hc;have pY:=aNc kp;clear kp jL;go_wp2_with (go_at_call 104;refine hc.mono ?_;rintro e w' ⟨rfl,bq⟩)
    go_ret;exact ⟨by rw [pY.out];rfl,af.trans (bq.mono af.size)⟩
   | false =>
    rw [jL] at hc;have od:Hid (∀ j (aw:j<k+1) (jt:j<l.length),(av.oo) l[j]=false):=by
     intro j aw jt;by_cases h:j<k
     ·exact ji.out j h jt
     ·obtain rfl:j=k:=by omega
      rw [vu.out];exact jL
    clear jL;go_wp2_with (go_at_call 104;refine hc.mono ?_;rintro e w' ⟨rfl,bq⟩)
    go_roundw
    case rel=>exact ⟨k+1,by omega,by go_num,od,af.trans (bq.mono af.size)⟩
    case measure=>simp [intOf];omega
  ·have kp:hi (av.oo) l= -1:=GD λ j aw=>ji.out j (by have:=jj.out;omega) aw;have pY:=aNc kp;clear kp;go_wp2_with fail
   go_ret;exact ⟨by rw [pY.out];rfl,af⟩
theorem aro  (A:Option Addr) (c:Nat) (l:List Int) (w:World) (ay:bz.aQ 8 w A c l):
  Calls prog 103 #[.slice A l.length c, .func (.func 104) #[] #[]] w λ e w'=>e= .returned (.bool (l.any (av.oo)))∧Below w.heap.size w w':=by
 have hc:=atE  A c l w ay ;rw [← T'];generalize hi (av.oo) l=r at *
 generalize l.length=n at *
 clear ay ;go_enter func103,ntmps103;go_wp2_with (go_at_call 130;refine hc.mono ?_;rintro e w' ⟨rfl,bq⟩)
 go_ret;exact ⟨Z,bq⟩
theorem PQ (n lo ak:Int) (w:World):Calls prog 133 #[.int .i64 n, .int .i64 lo, .int .i64 ak] w λ e w'=>e= .returned (.bool (cM n lo ak))∧w=w':=by
 rcases aOJ n lo with h | h
 ·rw [oL (.inl h)];go_enter func133,ntmps133;go_wp2
  go_ret;exact ⟨Z,Z⟩
 ·rcases aOJ ak n with bb | bb
  ·rw [oL (.inr bb)];go_enter func133,ntmps133;go_wp2
   go_ret;exact ⟨hk (by simp<;>omega),Z⟩
  ·rw [ml h bb];go_enter func133,ntmps133;go_wp2
   go_ret;exact ⟨hk (by simp<;>omega),Z⟩
theorem agv (n:Int) (w:World):Calls prog 102 #[.int .i64 n] w λ e w'=>e= .returned (.bool (cM n 1 40))∧w=w':=by
 rcases aOJ n 1 with h | h
 ·rw [oL (.inl h)];go_enter func102,ntmps102;go_wp2
  go_ret;exact ⟨Z,Z⟩
 ·rcases aOJ 40 n with bb | bb
  ·rw [oL (.inr bb)];go_enter func102,ntmps102;go_wp2
   go_ret;exact ⟨hk (by simp<;>omega),Z⟩
  ·rw [ml h bb];go_enter func102,ntmps102;go_wp2
   go_ret;exact ⟨hk (by simp<;>omega),Z⟩
open Tryz

theorem av.anb {f:av} (κ:cM f.wide 1 40=true) (τ:cM f.high 1 40=true) (aq:¬ (f.places.length:Int)=f.wide * f.high):f.a7=4:=by
 unfold av.a7;rw [κ,τ,aNu aq];rfl
theorem av.am6 {f:av} (κ:cM f.wide 1 40=true) (τ:cM f.high 1 40=true) (aq:(f.places.length:Int)=f.wide * f.high):f.a7=if f.places.any av.oo then 4 else 0:=by
 unfold av.a7;rw [κ,τ,aNp aq];have:f.places.all av.O4= !f.places.any av.oo:=by
  rw [List.all_eq_not_any_not];rfl
 rw [this];cases f.places.any av.oo<;>rfl
theorem Sh (f:av) (A:Option Addr) (c:Nat) (w:World) (bL:bz.aQ 8 w A c f.places):
  Calls prog 80 #[.agg #[.int .i64 f.wide, .int .i64 f.high, .slice A f.places.length c]] w λ e w'=>e= .returned (.int .i64 f.a7)∧Below w.heap.size w w':=by
 have af:=kB w (.cells #[.int .i64 f.wide, .int .i64 f.high, .slice A f.places.length c] 48);have gh:=agv f.wide;have iN:=agv f.high;cases κ:cM f.wide 1 40 with
 | false =>
  rw [κ] at gh;rw [av.YX (by rw [κ];rfl)];clear κ iN bL;go_enter func80,ntmps80;go_wp2_with (go_at_call 102;refine (gh _).mono ?_;rintro e w' ⟨rfl,rfl⟩)
  go_ret;exact ⟨Z,af⟩
 | true =>
  rw [κ] at gh;cases τ:cM f.high 1 40 with
  | false =>
   rw [τ] at iN;rw [av.YX (by rw [κ,τ];rfl)];clear κ τ bL;go_enter func80,ntmps80;go_wp2_with fail
   refine (gh _).mono ?_;rintro e w' ⟨rfl,rfl⟩;go_wp2_with fail
   refine (iN _).mono ?_;rintro e w' ⟨rfl,rfl⟩;go_wp2_with fail
   go_ret;exact ⟨Z,af⟩
  | true =>
   rw [τ] at iN;have hw:=jw κ;have dP:=jw τ;have TL:0≤f.wide * f.high:=aPC (by omega) (by omega);have Gq:f.wide * f.high≤40 * 40:=aO4 hw.2 dP.2 (by omega) (by omega);by_cases aq:(f.places.length:Int)=f.wide * f.high
   ·have hc:=aro A c f.places _ (bL.keep af);have hd:((f.places.length:Int)== f.wide * f.high)=true:=by simpa using aq
    have Gi:((f.places.length:Int) != f.wide * f.high)=false:=by simpa using aq
    rw [av.am6 κ τ aq];clear κ τ aq bL;generalize f.places.any av.oo=r at *
    generalize f.places.length=n at *
    cases r with
    | true =>
     go_enter func80,ntmps80;go_wp2_with fail
     refine (gh _).mono ?_;rintro e w' ⟨rfl,rfl⟩;go_wp2_with fail
     refine (iN _).mono ?_;rintro e w' ⟨rfl,rfl⟩;go_wp2_with fail
     refine hc.mono ?_;rintro e w' ⟨rfl,bq⟩;go_wp2_with fail
     go_ret;exact ⟨Z,af.trans (bq.mono af.size)⟩
    | false =>
     go_enter func80,ntmps80;go_wp2_with fail
     refine (gh _).mono ?_;rintro e w' ⟨rfl,rfl⟩;go_wp2_with fail
     refine (iN _).mono ?_;rintro e w' ⟨rfl,rfl⟩;go_wp2_with fail
     refine hc.mono ?_;rintro e w' ⟨rfl,bq⟩;go_wp2_with fail
     go_ret;exact ⟨Z,af.trans (bq.mono af.size)⟩
   ·have hd:((f.places.length:Int)== f.wide * f.high)=false:=by simpa using aq
    have Gi:((f.places.length:Int) != f.wide * f.high)=true:=by simpa using aq
    rw [av.anb κ τ aq];clear κ τ aq bL;generalize f.places.length=n at *
    go_enter func80,ntmps80;go_wp2_with fail
    refine (gh _).mono ?_;rintro e w' ⟨rfl,rfl⟩;go_wp2_with fail
    refine (iN _).mono ?_;rintro e w' ⟨rfl,rfl⟩;go_wp2_with fail
    go_ret;exact ⟨Z,af⟩
theorem ad2 (w:World):Calls prog 68 #[.int .i64 1] w λ e w'=>e= .returned (.tuple #[.agg #[.int .i64 10, .int .i64 1, .int .i64 1, .int .i64 5], .int .i64 0])∧Below w.heap.size w w':=by
 go_enter func68,ntmps68;go_wp2
 refine aQM (v:= .tuple #[.agg #[.int .i64 10, .int .i64 1, .int .i64 1, .int .i64 5], .int .i64 0]) (by simp [results,results68,go_sem]) Z ⟨Z,(aNH _ _).alloc (aNk _) _⟩
theorem ad3 (w:World):Calls prog 68 #[.int .i64 2] w λ e w'=>e= .returned (.tuple #[.agg #[.int .i64 20, .int .i64 2, .int .i64 4, .int .i64 12], .int .i64 0])∧Below w.heap.size w w':=by
 go_enter func68,ntmps68;go_wp2
 refine aQM (v:= .tuple #[.agg #[.int .i64 20, .int .i64 2, .int .i64 4, .int .i64 12], .int .i64 0]) (by simp [results,results68,go_sem]) Z ⟨Z,(aNH _ _).alloc (aNk _) _⟩
theorem ad4 (k:Int) (w:World) (h:cM k 1 2=false):Calls prog 68 #[.int .i64 k] w λ e w'=>e= .returned (.tuple #[.agg #[.int .i64 0, .int .i64 0, .int .i64 0, .int .i64 0], .int .i64 1])∧Below w.heap.size w w':=by
 have cp:=atJ h;have κ:(k == 1)=false:=by simp;omega
 have τ:(k == 2)=false:=by simp;omega
 clear h cp;go_enter func68,ntmps68;go_wp2
 refine aQM (v:= .tuple #[.agg #[.int .i64 0, .int .i64 0, .int .i64 0, .int .i64 0], .int .i64 1]) (by simp [results,results68,go_sem]) Z ⟨Z,(aNH _ _).alloc (aNk _) _⟩
open Tryz

theorem Vb {k k':IntKind} {a b a' vL:Int} (κ:a=a') (τ:b=vL):Ending.returned (.tuple #[.int k a, .int k' b])= .returned (.tuple #[.int k a', .int k' vL]):=by rw [κ,τ]
def W_ (f:av) (c:ai) (w:World) (e:Ending) (w':World):Prop:=e= .returned (.tuple #[.int .i64 (f.mb c), .int .i64 (f.cH c)])∧Below w.heap.size w w'
theorem Sg (f:av) (p:ai) (A:Option Addr) (c:Nat) (w:World) (bL:bz.aQ 8 w A c f.places):
  Calls prog 122 #[.agg #[.int .i64 f.wide, .int .i64 f.high, .slice A f.places.length c], .agg #[.int .i64 p.x, .int .i64 p.y]] w (W_ f p w):=by
 have hA:=aO.new w (ae.FW A c f) 48 (0,0);have af:=kB w (.cells (ae.FW A c f).toArray 48 (0,0));have aS:=aO.new (w.alloc (.cells (ae.FW A c f).toArray 48 (0,0))) p.cells 98 (0,0);have dO:=kB (w.alloc (.cells (ae.FW A c f).toArray 48 (0,0))) (.cells p.cells.toArray 98 (0,0));have kU:=hA.later dO;have oH:=af.trans (dO.mono af.size);have hc:=Sh f A c _ (bL.keep oH);have Ji:=bL.keep oH;obtain ⟨aN,og⟩:∃ aN,Hid ((w.alloc (.cells (ae.FW A c f).toArray 48 (0,0))).alloc (.cells p.cells.toArray 98 (0,0))=aN):=⟨_,aNc rfl⟩;rw [og.out] at kU aS hc oH Ji;rw [World.size_alloc] at aS;clear hA af dO bL;have ja:∀ K:World→Prop,K aN→K ((w.alloc (.cells #[.int .i64 f.wide, .int .i64 f.high, .slice A f.places.length c] 48)).alloc (.cells #[.int .i64 p.x, .int .i64 p.y] 98)):=λ K h=>by
  have:=og.out;rw [← this] at h;exact h
 by_cases aC:f.a7=0
 ·have rv:=av.kr aC;obtain ⟨g1,g2,g3,g4,_,_⟩:=av.hg aC;rw [aC] at hc;by_cases ew:0≤p.x∧p.x<f.wide∧0≤p.y∧p.y<f.high
  ·obtain ⟨i1,i2,i3,i4⟩:=ew;have hIn:=av.atP i1 i2 i3 i4;obtain ⟨aR,a1⟩:=av.la aC hIn;obtain ⟨fo,fU,_⟩:=av.idx aC hIn;have uY:0≤p.y * f.wide:=aPC i3 (by omega);have qU:p.y * f.wide≤1600:=by omega
   obtain ⟨b,o,rfl,jM⟩:=Es Ji (by omega);have hce:=jM (p.y * f.wide+p.x).toNat (f.place p) (by
    unfold av.place;rw [aM0,aM3 (show (p.y * f.wide+p.x).toNat<f.places.length by omega)];rfl)
   have ajC:=aNc hce;have q1:=aNc (And.intro aR a1);have zm:=aNc kU;have aE:=aNc aS;have d1:decide (p.x<0)=false:=by simpa using i1
   have d2:decide (p.y<0)=false:=by simpa using i3
   clear aC hIn aR a1 jM hce Ji kU aS;go_enter func122,ntmps122;go_wp2_with fail
   refine ja (λ W=>Calls _ _ _ W _) ?_;refine hc.mono ?_;rintro e cb ⟨rfl,bq⟩;obtain ⟨sV,lu,nZ⟩:=ae.aaq (zm.out.later bq);obtain ⟨Ck,r1⟩:=ai.en (aE.out.later bq);have aGj:=cell_later bq ajC.out;go_wp2_with fail
   go_ret2
   exact ⟨Vb q1.out.2.symm q1.out.1.symm,oH.trans (bq.mono oH.size)⟩
  ·have Gu:p.x<0∨f.wide≤p.x∨p.y<0∨f.high≤p.y:=by omega
   have q1:=aNc (av.It aC (av.atQ Gu));have zm:=aNc kU;have aE:=aNc aS;clear aC Ji kU aS ew;have ajK:=aNc Gu;clear Gu;go_enter func122,ntmps122;go_wp2_with fail
   refine ja (λ W=>Calls _ _ _ W _) ?_;refine hc.mono ?_;rintro e cb ⟨rfl,bq⟩;obtain ⟨sV,lu,nZ⟩:=ae.aaq (zm.out.later bq);obtain ⟨Ck,r1⟩:=ai.en (aE.out.later bq);have key:decide (p.x<0)=true∨(decide (p.x<0)=false∧decide (f.wide≤p.x)=true)∨(decide (p.x<0)=false∧decide (f.wide≤p.x)=false∧decide (p.y<0)=true)∨(decide (p.x<0)=false∧decide (f.wide≤p.x)=false∧decide (p.y<0)=false∧decide (f.high≤p.y)=true):=by
    have:=ajK.out;by_cases dv:p.x<0
    ·simp [dv]
    by_cases ey:f.wide≤p.x
    ·simp [dv,ey]
    by_cases jx:p.y<0
    ·simp [dv,ey,jx]
    ·simp [dv,ey,jx];omega
   rcases key with h | ⟨h,τ⟩ | ⟨h,τ,aq⟩ | ⟨h,τ,aq,bb⟩
   all_goals
    go_wp2_with fail
    go_ret2
    exact ⟨Vb q1.out.2.symm q1.out.1.symm,oH.trans (bq.mono oH.size)⟩
 ·obtain ⟨aR,a1⟩:=av.Mu (c:=p) aC;have q1:=aNc (And.intro aR a1);have aGZ:(f.a7 != 0)=true:=by simpa using aC
  clear aR a1 aC Ji kU aS;generalize f.a7=k at *
  go_enter func122,ntmps122;go_wp2_with fail
  refine ja (λ W=>Calls _ _ _ W _) ?_;refine hc.mono ?_;rintro e cb ⟨rfl,bq⟩;go_wp2_with fail
  go_ret2
  exact ⟨Vb q1.out.2.symm q1.out.1.symm,oH.trans (bq.mono oH.size)⟩
theorem Jf (f:av) (p:ai) (A:Option Addr) (c:Nat) (w:World) (bL:bz.aQ 8 w A c f.places) (aC:f.a7=0):
  Calls prog 131 #[.agg #[.int .i64 f.wide, .int .i64 f.high, .slice A f.places.length c], .agg #[.int .i64 p.x, .int .i64 p.y]] w λ e w'=>e= .returned (.bool (f.ground p))∧Below w.heap.size w w':=by
 have af:=kB w (.cells #[.int .i64 f.wide, .int .i64 f.high, .slice A f.places.length c] 48);have dO:=kB (w.alloc (.cells #[.int .i64 f.wide, .int .i64 f.high, .slice A f.places.length c] 48)) (.cells #[.int .i64 p.x, .int .i64 p.y] 98);have oH:=af.trans (dO.mono af.size);have hc:=Sg f p A c _ (bL.keep oH);unfold W_ at hc;clear af dO bL;cases ew:f.dV p with
 | true =>
  obtain ⟨aR,a1⟩:=av.la aC ew;rw [aR,a1] at hc;have aU:f.ground p=(f.place p != 1):=by unfold av.ground;rw [ew];rfl
  rw [aU];clear aR a1 ew aU aC;generalize f.place p=v at *
  generalize f.places.length=n at *
  cases hv:v != 1 with
  | true =>
   go_enter func131,ntmps131;go_wp2_with fail
   refine hc.mono ?_;rintro e cb ⟨rfl,bq⟩;go_wp2_with fail
   go_ret;exact ⟨hk (by simp),oH.trans (bq.mono oH.size)⟩
  | false =>
   go_enter func131,ntmps131;go_wp2_with fail
   refine hc.mono ?_;rintro e cb ⟨rfl,bq⟩;go_wp2_with fail
   go_ret;exact ⟨hk (by simp),oH.trans (bq.mono oH.size)⟩
 | false =>
  obtain ⟨aR,a1⟩:=av.It aC ew;rw [aR,a1] at hc;have aU:f.ground p=false:=by unfold av.ground;rw [ew];rfl
  rw [aU];clear aR a1 ew aU aC;generalize f.places.length=n at *
  go_enter func131,ntmps131;go_wp2_with fail
  refine hc.mono ?_;rintro e cb ⟨rfl,bq⟩;go_wp2_with fail
  go_ret;exact ⟨Z,oH.trans (bq.mono oH.size)⟩
open Tryz

def ai.is (p x:ai):Bool:=decide (x=p)
theorem ai.atY {p x:ai} (h:ai.is p x=true):x=p:=by simpa [ai.is] using h
theorem ai.atX {p x:ai} (h:ai.is p x=false):((p.x == x.x)=false)∨((p.x == x.x)=true∧(p.y == x.y)=false):=by
 have:¬ x=p:=by simpa [ai.is] using h
 obtain ⟨a,b⟩:=p;obtain ⟨c,d⟩:=x;simp at this ⊢;omega
theorem atB (p:ai) (A:Option Addr) (c:Nat) (l:List ai) (w:World) (ay:ai.rep.aQ 16 w A c l):
  Calls prog 152 #[.slice A l.length c, .agg #[.int .i64 p.x, .int .i64 p.y]] w λ e w'=>e= .returned (.int .i64 (hi (ai.is p) l))∧Below w.heap.size w w':=by
 obtain ⟨n,hn⟩:∃ n,l.length=n:=⟨_,rfl⟩;have hle:n≤9223372036854775807:=by have:=ay.1;have:=ay.2.1;omega
 rw [hn];have cT:=kB w (.cells #[.int .i64 p.x, .int .i64 p.y] 98);have aE:=aNc (aO.new w p.cells 98 (0,0));have b1:=aNc (ay.keep cT);have jj:=aNc hn;clear ay hn;go_enter func152,ntmps152;go_wp2_with fail
 obtain ⟨w0,iK⟩:∃ w0,Hid (w0=w.alloc (.cells #[.int .i64 p.x, .int .i64 p.y] 98)):=⟨_,aNc rfl⟩;rw [← iK.out] at cT ⊢;have aE:Hid (aO w0 w.heap.size p.cells 98 (0,0)):=by rw [iK.out];exact aE
 have b1:Hid (ai.rep.aQ 16 w0 A c l):=by rw [iK.out];exact b1
 go_loopw [5,8] (λ _ gM wr=>∃ k m:Nat,k≤n∧gM= .int .i64 (k:Int)∧Hid (∀ j (aw:j<k) (jt:j<l.length),(ai.is p) l[j]=false)∧Hid (wr=w0.drewN m)) (λ _ gM _=>n - (intOf gM).toNat)
 case atStart=>exact ⟨0,0,aNQ _,rfl,(λ j aw=>by omega),rfl⟩
 case round =>
  obtain ⟨k,m,aj,rfl,ji,bO⟩:=hrel;by_cases bB:k<n
  ·have nO:k<l.length:=by rw [jj.out];exact bB
   have abc:ai.rep.aQ 16 wr A c l:=by rw [bO.out];exact b1.out.drewN m
   have aa6:aO wr w.heap.size p.cells 98 (0,0):=by rw [bO.out];exact aE.out.drewN m
   have DF:Below w.heap.size w wr:=by rw [bO.out];exact below_drewN cT m
   obtain ⟨b,o,rfl,jM⟩:=ai.at_ abc (by omega);obtain ⟨x,qm⟩:∃ x,l[k]'nO=x:=⟨_,rfl⟩;obtain ⟨sV,lu⟩:=jM k x (by rw [aM3 nO,qm]);obtain ⟨Ck,r1⟩:=ai.en aa6;have vu:=aNc qm;have lh:(k:Int)<(n:Int):=by omega
   have sO:(0:Int)≤(k:Int):=by omega
   clear jM qm abc aa6;cases jL:(ai.is p) x with
   | true =>
    have kp:hi (ai.is p) l=(k:Int):=JV nO (by rw [vu.out];exact jL) λ j aw=>ji.out j aw (by omega);have pY:=aNc kp;have atq:=ai.atY jL;subst atq;clear kp jL;go_wp2_with fail
    go_quiet (fail)
    go_wp2_with fail
    go_ret;exact ⟨by rw [pY.out];rfl,below_drewN DF _⟩
   | false =>
    have od:Hid (∀ j (aw:j<k+1) (jt:j<l.length),(ai.is p) l[j]=false):=by
     intro j aw jt;by_cases h:j<k
     ·exact ji.out j h jt
     ·obtain rfl:j=k:=by omega
      rw [vu.out];exact jL
    have dF:=ai.atX jL;clear jL;rcases dF with κ | ⟨κ,τ⟩
    all_goals
     go_wp2_with fail
     go_quiet (fail)
     go_wp2_with fail
     go_roundw
     case rel=>exact ⟨k+1,_,by omega,by go_num,od,by show _=_;rw [bO.out];simp;rfl⟩
     case measure=>simp [intOf];omega
  ·have kp:hi (ai.is p) l= -1:=GD λ j aw=>ji.out j (by have:=jj.out;omega) aw;have pY:=aNc kp;have atp:=bO.out;subst atp;clear kp;go_wp2_with fail
   go_ret;exact ⟨by rw [pY.out];rfl,below_drewN cT _⟩
theorem ark (p:ai) (A:Option Addr) (c:Nat) (l:List ai) (w:World) (ay:ai.rep.aQ 16 w A c l):
  Calls prog 132 #[.slice A l.length c, .agg #[.int .i64 p.x, .int .i64 p.y]] w λ e w'=>e= .returned (.bool (l.contains p))∧Below w.heap.size w w':=by
 have cT:=kB w (.cells #[.int .i64 p.x, .int .i64 p.y] 98);have hc:=atB p A c l _ (ay.keep cT);have oE:l.contains p=decide (0≤hi (ai.is p) l):=by
  rw [T',List.contains_eq_any_beq];congr 1
  funext x
  unfold ai.is;by_cases h:x=p
  ·simp [h]
  ·simp [h,aPp h]
 rw [oE];generalize hi (ai.is p) l=r at *
 generalize l.length=n at *
 clear ay oE;go_enter func132,ntmps132;go_wp2_with (go_at_call 152;refine hc.mono ?_;rintro e w' ⟨rfl,bq⟩)
 go_ret;exact ⟨Z,cT.trans (bq.mono cT.size)⟩
open Tryz
section
variable {w aN:World} {aA q c:Nat} {a:ae.cW} {A:Option Addr}
theorem bt.MX {W:ae} (h:bt w aA a W):
  (∀ x∈Φ.ab a.M,x∉Φ.ab a.P∧x∉Φ.ab a.B∧x∉Φ.ab a.S∧x∉Φ.ab a.T)∧
  (∀ x∈Φ.ab a.T,x∉Φ.ab a.P∧x∉Φ.ab a.B∧x∉Φ.ab a.S∧x∉Φ.ab a.M)∧
  (∀ x∈Φ.ab a.S,x∉Φ.ab a.P∧x∉Φ.ab a.B∧x∉Φ.ab a.M∧x∉Φ.ab a.T):=by
 have hn:=h.apart;rw [aNP,aNP,aNP,aNP] at hn;obtain ⟨⟨⟨⟨_,_,Cf⟩,_,rM⟩,_,pA⟩,_,qD⟩:=hn;refine ⟨λ x hx=>⟨λ hp=> ?_,λ hp=> ?_,λ hp=> ?_,λ hp=> ?_⟩,λ x hx=>⟨λ hp=> ?_,λ hp=> ?_,λ hp=> ?_,λ hp=> ?_⟩,λ x hx=>⟨λ hp=> ?_,λ hp=> ?_,λ hp=> ?_,λ hp=> ?_⟩⟩
 ·exact pA x (by simp [hp]) x hx Z
 ·exact pA x (by simp [hp]) x hx Z
 ·exact pA x (by simp [hp]) x hx Z
 ·exact qD x (by simp [hx]) x hp Z
 ·exact qD x (by simp [hp]) x hx Z
 ·exact qD x (by simp [hp]) x hx Z
 ·exact qD x (by simp [hp]) x hx Z
 ·exact qD x (by simp [hp]) x hx Z
 ·exact rM x (by simp [hp]) x hx Z
 ·exact rM x (by simp [hp]) x hx Z
 ·exact pA x (by simp [hx]) x hp Z
 ·exact qD x (by simp [hx]) x hp Z
theorem oy {g:Nat}:g∈bt.cA a↔g∈Φ.ab a.P∨g∈Φ.ab a.B∨g∈Φ.ab a.S∨g∈Φ.ab a.M∨g∈Φ.ab a.T:=by
 unfold bt.cA;simp only [aNi];constructor
 ·rintro ((((h | h) | h) | h) | h)<;>simp [h]
 ·rintro (h | h | h | h | h)<;>simp [h]
namespace ae
def k1 (k:Int):Int:=if k=1 then 5 else if k=2 then 12 else 0
end ae
theorem bt.mod {W:ae} {S:List Nat} (h:bt w aA a W) (m:Mod S w aN) (hd:∀ x∈bt.cA a,x∉S):bt aN aA a W :=
 ⟨h.P.mod m λ x hx=>hd x (oy.2 (.inl hx)),h.B.mod m λ x hx=>hd x (oy.2 (.inr (.inl hx))),h.S.mod m λ x hx=>hd x (oy.2 (.inr (.inr (.inl hx)))),h.M.mod m λ x hx=>hd x (oy.2 (.inr (.inr (.inr (.inl hx))))),h.T.mod m λ x hx=>hd x (oy.2 (.inr (.inr (.inr (.inr hx))))),h.apart,h.nums⟩
theorem ph (h:q∈Φ.ab a.T):q∈bt.cA a:=oy.2 (.inr (.inr (.inr (.inr h))))
theorem BI (h:q∈Φ.ab a.S):q∈bt.cA a:=oy.2 (.inr (.inr (.inl h)))
theorem BH (h:q∈Φ.ab a.M):q∈bt.cA a:=oy.2 (.inr (.inr (.inr (.inl h))))
theorem Ny (h:q∈Φ.ab a.B):q∈bt.cA a:=oy.2 (.inr (.inl h))
theorem I2 (h:q∈Φ.ab a.P):q∈bt.cA a:=oy.2 (.inl h)
theorem bt.ags {W:ae} {l:List Int} (h:bt w aA a W) (m:Mod (Φ.ab a.S) w aN) (hS:bz.aM 3 8 aN aA (Φ.ab a.S) a.S a.s l):bt aN aA a {W with bh:=l}:=by
 obtain ⟨d1,d2,d3⟩:=h.MX;exact ⟨h.P.mod m λ x hx hs=>(d3 x hs).1 hx,h.B.mod m λ x hx hs=>(d3 x hs).2.1 hx,hS,h.M.mod m λ x hx hs=>(d3 x hs).2.2.1 hx,h.T.mod m λ x hx hs=>(d3 x hs).2.2.2 hx,h.apart,h.nums⟩
theorem bt.swapT {W:ae} {l:List a8} (h:bt w aA a W) (m:Mod (Φ.ab a.T) w aN) (aX:a8.rep.aM 108 56 aN aA (Φ.ab A) A c l) (I:∀ q∈Φ.ab A,q∈Φ.ab a.T∨w.heap.size≤q):
  bt aN aA {a with T:=A,t:=c} {W with ah:=l}:=by
 obtain ⟨d1,d2,d3⟩:=h.MX;refine ⟨h.P.mod m λ x hx hs=>(d2 x hs).1 hx,h.B.mod m λ x hx hs=>(d2 x hs).2.1 hx,h.S.mod m λ x hx hs=>(d2 x hs).2.2.1 hx,h.M.mod m λ x hx hs=>(d2 x hs).2.2.2 hx,aX, ?_,h.nums⟩;have hn:=h.apart;rw [aNP] at hn ⊢;refine ⟨hn.1,rb A,λ x hx y aH e=> ?_⟩;subst e;rcases I x aH with aH | aH
 ·exact hn.2.2 x hx x aH Z
 ·have hf:x∈bt.cA a:=by unfold bt.cA;rw [aNi];exact .inl hx
  have:=(h.lt x hf).2;omega
theorem bt.Vi {W V:ae} (h:bt w aA a W) (κ:V.field.places=W.field.places) (τ:V.bj=W.bj) (aq:V.bh=W.bh) (bb:V.bY=W.bY) (bV:V.ah=W.ah) (hn:dB V.field.wide∧dB V.field.high∧dB V.next∧dB V.now):bt w aA a V :=
 ⟨by rw [κ];exact h.P,by rw [τ];exact h.B,by rw [aq];exact h.S,by rw [bb];exact h.M,by rw [bV];exact h.T,h.apart,hn⟩
theorem aaE {w:World} {aA:Nat} {W:ae} (h:q∈bt.cA {a with T:=A,t:=c}):q∈bt.cA a∨q∈Φ.ab A:=by
 rcases oy.1 h with h | h | h | h | h
 ·exact .inl (I2 h)
 ·exact .inl (Ny h)
 ·exact .inl (BI h)
 ·exact .inl (BH h)
 ·exact .inr h
def Va (k:Int):Int:=if k=1 then 1 else if k=2 then 2 else 0
def yz (k:Int):Int:=if k=1 then 1 else if k=2 then 4 else 0
def qo (k:Int):Int:=if k=1 then 0 else if k=2 then 0 else 1
theorem Oq (k:Int) (w:World):Calls prog 68 #[.int .i64 k] w λ e w'=>e= .returned (.tuple #[.agg #[.int .i64 (ae.hj k), .int .i64 (Va k), .int .i64 (yz k), .int .i64 (ae.k1 k)], .int .i64 (qo k)])∧Ext w w':=by
 by_cases κ:k=1
 ·subst κ;exact ad2 w
 ·by_cases τ:k=2
  ·subst τ;exact ad3 w
  ·have:=ad4 k w (oL (by omega));simpa [ae.hj,Va,yz,ae.k1,qo,κ,τ] using this
theorem bt.down {vJ:Nat} {W:ae} (h:bt w aA a W) (bo:vJ≤aA):bt w vJ a W:=⟨h.P.down bo,h.B.down bo,h.S.down bo,h.M.down bo,h.T.down bo,h.apart,h.nums⟩
def ae.zero:ae:=⟨⟨0,0, []⟩, [], [], [], [],0,0⟩
theorem bt.zero (w:World) (aA:Nat):bt w aA ⟨none,none,none,none,none,0,0,0,0,0⟩ ae.zero:=⟨Φ.aM.nil w,Φ.aM.nil w,Φ.aM.nil w,Φ.aM.nil w,Φ.aM.nil w,by simp [Φ.ab],cI.2 (by decide),cI.2 (by decide),cI.2 (by decide),cI.2 (by decide)⟩
theorem Is {f:av} {c:ai} (h:f.a7=0) (he:f.cH c=0):f.dV c=true:=by
 cases ak:f.dV c with
 | true=>rfl
 | false=>rw [(av.It h ak).1] at he;omega
theorem p_ (f:av) (p:ai) (A:Option Addr) (c:Nat) (w:World) (bL:bz.aQ 8 w A c f.places):
  Calls prog 122 #[.agg #[.int .i64 f.wide, .int .i64 f.high, .slice A f.places.length c], .agg #[.int .i64 p.x, .int .i64 p.y]] w λ e w'=>e= .returned (.tuple #[.int .i64 (f.mb p), .int .i64 (f.cH p)])∧Below w.heap.size w w':=Sg f p A c w bL
theorem bt.UP {P B S M T:Option Addr} {p b s m t:Nat} {W:ae} (bL:bz.aM 3 8 w aA (Φ.ab P) P p W.field.places) (aS:ai.rep.aM 98 16 w aA (Φ.ab B) B b W.bj) (hS:bz.aM 3 8 w aA (Φ.ab S) S s W.bh) (oA:bz.aM 3 8 w aA (Φ.ab M) M m W.bY) (aX:a8.rep.aM 108 56 w aA (Φ.ab T) T t W.ah)
  (κ:∀ q∈Φ.ab B,q∈Φ.ab P→False) (τ:∀ q∈Φ.ab S,q∈Φ.ab P→False) (aq:∀ q∈Φ.ab S,q∈Φ.ab B→False) (bb:∀ q∈Φ.ab M,q∈Φ.ab P→False) (bV:∀ q∈Φ.ab M,q∈Φ.ab B→False) (cy:∀ q∈Φ.ab M,q∈Φ.ab S→False)
  (ed:∀ q∈Φ.ab T,q∈Φ.ab P→False) (fx:∀ q∈Φ.ab T,q∈Φ.ab B→False) (pk:∀ q∈Φ.ab T,q∈Φ.ab S→False) (aF2:∀ q∈Φ.ab T,q∈Φ.ab M→False) (hn:dB W.field.wide∧dB W.field.high∧dB W.next∧dB W.now):
  bt w aA ⟨P,B,S,M,T,p,b,s,m,t⟩ W:=by
 refine ⟨bL,aS,hS,oA,aX, ?_,hn⟩;have aR:=rb P;have a1:=rb B;have cL:=rb S;have iY:=rb M;have IL:=rb T;simp only [aNP,aNi]
 grind
theorem bt.ae6 {W:ae} {p:List a8} (h:bt w aA a W) (aX:a8.rep.aM 108 56 w aA (Φ.ab A) A c p) (κ:∀ q∈Φ.ab A,q∈bt.cA a→False):bt w aA {a with T:=A,t:=c} {W with ah:=p}:=by
 refine ⟨h.P,h.B,h.S,h.M,aX, ?_,h.nums⟩;have hn:=h.apart;have aR:=rb A;have f1:∀ q∈Φ.ab A,(q∈Φ.ab a.P→False)∧(q∈Φ.ab a.B→False)∧(q∈Φ.ab a.S→False)∧(q∈Φ.ab a.M→False):=λ q I=>⟨λ h=>κ q I (I2 h),λ h=>κ q I (Ny h),λ h=>κ q I (BI h),λ h=>κ q I (BH h)⟩;simp only [aNP,aNi] at hn ⊢
 grind
theorem ap9 (h:q∈bt.cA {a with T:=A,t:=c}):q∈bt.cA a∨q∈Φ.ab A:=by
 rcases oy.1 h with h | h | h | h | h
 ·exact .inl (I2 h)
 ·exact .inl (Ny h)
 ·exact .inl (BI h)
 ·exact .inl (BH h)
 ·exact .inr h
structure aD8 (a:ae.cW):Prop where
 q3:∀ q∈Φ.ab a.P,q∈Φ.ab a.S→False
 aD6:∀ q∈Φ.ab a.P,q∈Φ.ab a.M→False
 aD5:∀ q∈Φ.ab a.P,q∈Φ.ab a.B→False
 aD7:∀ q∈Φ.ab a.P,q∈Φ.ab a.T→False
 aEb:∀ q∈Φ.ab a.S,q∈Φ.ab a.M→False
 aEa:∀ q∈Φ.ab a.S,q∈Φ.ab a.B→False
 ST:∀ q∈Φ.ab a.S,q∈Φ.ab a.T→False
 aDZ:∀ q∈Φ.ab a.M,q∈Φ.ab a.B→False
 XY:∀ q∈Φ.ab a.M,q∈Φ.ab a.T→False
 aDq:∀ q∈Φ.ab a.B,q∈Φ.ab a.T→False
end
section
variable {f:av} {c:ai}
def oU (f:av) (c:ai):Int:=if f.dV c then sw (f.place c) else 0
theorem YY (hf:f.a7=0) (hc:f.dV c=true):(tE (f.place c)== 0)=f.ground c∧(f.ground c=true→sw (f.place c)=f.fk c):=by
 obtain ⟨_,_,_,_,_,g6⟩:=av.hg hf;have hp:=g6 (f.place c) (by unfold av.place;exact mr (av.ya hf hc).1);unfold av.ground;rw [hc];have:f.place c=0∨f.place c=1∨f.place c=2∨f.place c=3:=by omega
 unfold av.fk tE sw;rcases this with h | h | h | h<;>rw [h]<;>simp
theorem axC (hf:f.a7=0) (h:¬ f.cH c=0):oU f c=0∧f.ground c=false:=by
 have hc:f.dV c=false:=by
  cases hc:f.dV c with
  | false=>rfl
  | true=>exact absurd (av.la hf hc).1 h
 unfold oU av.ground;rw [hc];exact ⟨Z,Z⟩
theorem axB (hf:f.a7=0) (h:f.cH c=0):oU f c=sw (f.mb c)∧f.ground c=(tE (f.mb c)== 0):=by
 have hc:=Is hf h;rw [(av.la hf hc).2];unfold oU;rw [hc];exact ⟨Z,(YY hf hc).1.symm⟩
theorem aft (hf:f.a7=0) (h:f.ground c=true):oU f c=f.fk c:=by
 have hc:=av.jr h;unfold oU;rw [aNd hc];exact (YY hf hc).2 h
theorem apO (p:Int) (w:World):
  Calls prog 126 #[γ p] w (λ e w'=>e= .returned (.tuple #[γ (sw p),γ (tE p)])∧Ext w w'):=by
 refine cx (n:=12) func126 Z Z Z ?_;refine aF<|va Z<|aT Z<|aI<|aK Z<|aJ<|bT<|aI<|aF<|aa (beq Z Z)<|aT Z<| ?_;refine lf Z (λ po=> ?_) (λ po=> ?_)
 ·have aHE:(p == 0)=true:=by simpa using po
  refine bE<| ?_;refine lf Z (λ S4=> ?_) (λ S4=> ?_)
  ·have aHH:(p == 0)=true:=by simpa using S4
   refine aF<|va Z<|bH Z<|hq<|cU<|ht Z Z Z<| ?_;exact ⟨by simp_all [sw,tE,qK],(Ext.bN w)⟩
  ·have aHI:(p == 0)=false:=by simpa using S4
   refine aF<|aa (beq Z Z)<|aT Z<| ?_;refine lf Z (λ oB=> ?_) (λ oB=> ?_)
   ·have aHJ:(p == 2)=true:=by simpa using oB
    refine aF<|va Z<|bH Z<|hq<|cU<|ht Z Z Z<| ?_;exact ⟨by simp_all [sw,tE,qK],(Ext.bN w)⟩
   ·have aHK:(p == 2)=false:=by simpa using oB
    refine aF<|aa (beq Z Z)<|aT Z<| ?_;refine lf Z (λ Dy=> ?_) (λ Dy=> ?_)
    ·have aHx:(p == 1)=true:=by simpa using Dy
     refine aF<|va Z<|bH Z<|hq<|cU<|ht Z Z Z<| ?_;exact ⟨by simp_all [sw,tE,qK],(Ext.bN w)⟩
    ·have aHy:(p == 1)=false:=by simpa using Dy
     refine fZ<|cl<|br<|aF<|va Z<|bH Z<|ht Z Z Z<| ?_;exact ⟨by simp_all [sw,tE,qK],(Ext.bN w)⟩
 ·have aHz:(p == 0)=false:=by simpa using po
  refine rg<|aa (beq Z Z)<|aT Z<| ?_;refine lf Z (λ Dv=> ?_) (λ Dv=> ?_)
  ·have aHA:(p == 3)=true:=by simpa using Dv
   refine aF<|va Z<|bH Z<|hq<|cU<|ht Z Z Z<| ?_;exact ⟨by simp_all [sw,tE,qK],(Ext.bN w)⟩
  ·have aHB:(p == 3)=false:=by simpa using Dv
   refine aF<|aa (beq Z Z)<|aT Z<| ?_;refine lf Z (λ Dw=> ?_) (λ Dw=> ?_)
   ·have aHC:(p == 2)=true:=by simpa using Dw
    refine aF<|va Z<|bH Z<|hq<|cU<|ht Z Z Z<| ?_;exact ⟨by simp_all [sw,tE,qK],(Ext.bN w)⟩
   ·have aHD:(p == 2)=false:=by simpa using Dw
    refine aF<|aa (beq Z Z)<|aT Z<| ?_;refine lf Z (λ tP=> ?_) (λ tP=> ?_)
    ·have aHF:(p == 1)=true:=by simpa using tP
     refine aF<|va Z<|bH Z<|hq<|cU<|ht Z Z Z<| ?_;exact ⟨by simp_all [sw,tE,qK],(Ext.bN w)⟩
    ·have aHG:(p == 1)=false:=by simpa using tP
     refine fZ<|cl<|br<|aF<|va Z<|bH Z<|ht Z Z Z<| ?_;exact ⟨by simp_all [sw,tE,qK],(Ext.bN w)⟩
theorem qF (w0:World) (f:av) (P F A:Option Addr) (cv ff c b:Nat) (far:List Int) (l:List b5) (bg:ai) (p:ai) (w:World) (jO:Ext w0 w) (hf:f.a7=0) (bL:bz.aQ 8 w0 P cv f.places) (aE:aO w b [γ f.wide,γ f.high, .slice P f.places.length cv,γ bg.x,γ bg.y, .slice F far.length ff, .slice A l.length c] 163 (0,0)) (hp: -500≤p.x∧p.x≤500∧ -500≤p.y∧p.y≤500):
  Calls prog 93 #[.pointer (a_ b), .agg #[γ p.x,γ p.y]] w (λ e w'=>e= .returned (γ (p.y * f.wide+p.x))∧Ext w w'):=by
 obtain ⟨g1,g2,g3,g4,g5,g6⟩:=av.hg hf;refine cx (n:=16) func93 Z Z Z ?_;refine fa Z Z λ dk bx bm fQ ag=> ?_;have dM:=J jO bm;refine aT Z<|aI<| ?_;refine dw [(1,0),(6,0),(9,0)] [0,1,2,3,4,5,6,7,8,9,10,11] ?_;refine ax Z (λ _=>au hG Z)<|cP Z Z ag a6 Z<|bn Z Z<|ax Z (λ _=>b3 Z)<|ax Z (λ _=>au aab Z)<|ax Z (λ _=>au Dm Z)<| ?_;have aE:=aE.later bm;refine cP Z Z aE a6 Z<|ax Z (λ _=>zM Z Z (ll ((by have:=aO4 (show p.y≤500 by omega) g2 (by omega) (by omega);have:=aO4 (show -p.y≤500 by omega) g2 (by omega) (by omega);rw [Int.neg_mul] at this;omega))))<|ax Z (λ _=>au hE Z)<|cP Z Z ag a6 Z<|ax Z (λ _=>bad Z Z (ll ((by have:=aO4 (show p.y≤500 by omega) g2 (by omega) (by omega);have:=aO4 (show -p.y≤500 by omega) g2 (by omega) (by omega);rw [Int.neg_mul] at this;omega))))<|ax Z (λ _=>eV Z)<|fn λ fT ea=> ?_;refine br<|rt<|cZ Z Z<| ?_;exact ⟨Z,J bm ea⟩
theorem UT (w0:World) (f:av) (P F A:Option Addr) (cv ff c b:Nat) (far:List Int) (l:List b5) (bg:ai) (p:ai) (w:World) (jO:Ext w0 w) (hf:f.a7=0) (bL:bz.aQ 8 w0 P cv f.places) (aE:aO w b [γ f.wide,γ f.high, .slice P f.places.length cv,γ bg.x,γ bg.y, .slice F far.length ff, .slice A l.length c] 163 (0,0)):
  Calls prog 91 #[.pointer (a_ b), .agg #[γ p.x,γ p.y]] w (λ e w'=>e= .returned (.tuple #[γ (oU f p), .bool (f.ground p)])∧Ext w w'):=by
 obtain ⟨g1,g2,g3,g4,g5,g6⟩:=av.hg hf;refine cx (n:=28) func91 Z Z Z ?_;refine fa Z Z λ dk bx bm fQ ag=> ?_;have dM:=J jO bm;refine va Z<|aT Z<|aI<| ?_;refine dw [(3,0),(4,0),(5,0)] [0,1,2,3,4,5,6,7,8,9,10] ?_;refine bn Z Z<|ax Z (λ _=>b3 Z)<|ax Z (λ _=>au aab Z)<| ?_;have aE:=aE.later bm;refine cS Z (λ _ x=>aB Z ((aE.later x).par [γ f.wide,γ f.high, .slice P f.places.length cv] hb gD Z))<|cS Z (λ _ x=>aB Z ((ag.later x).all b2 bs))<|rk Z Z pg Z (λ _ x=>p_ f p _ _ _ (bL.keep (J dM x))) Z<|bn Z Z<|ax Z (λ _=>ex Z Z)<|ax Z (λ _=>ex Z Z)<|ax Z (λ _=>eV Z)<|ax Z (λ _=>eV Z)<|fn λ fT ea=> ?_;have b7:=J dM ea;refine br<|aI<|aK Z<|gN Z Z<|aJ<| ?_;refine oq Z (λ hH=> ?_) (λ hH=> ?_)
 ·have JM:=axC hf hH;refine aF<|va Z<|bH Z<|cU<|ht Z Z Z<| ?_;exact ⟨by rw [JM.1,JM.2];rfl,J bm ea⟩
 ·have JM:=axB hf hH;refine bE<|aK Z<|c0 ape Z (apO (f.mb p) _) λ xp eA=> ?_;refine vm Z<|b0 Z Z<|b0 Z Z<|va Z<|aT Z<|aK Z<|vm Z<|aa (beq Z Z)<|va Z<|bH Z<|ht Z Z Z<| ?_;exact ⟨by rw [JM.1,JM.2];rfl,J (J bm ea) eA⟩
theorem afI (p:ai) (w:World) (hp: -100000≤p.x∧p.x≤100000∧ -100000≤p.y∧p.y≤100000):
  Calls prog 92 #[.agg #[γ p.x,γ p.y]] w (λ e w'=>e= .returned (.agg #[γ p.x,γ (p.y - 1),γ (p.x - 1),γ p.y,γ (p.x+1),γ p.y,γ p.x,γ (p.y+1)])∧Ext w w'):=by
 refine cx (n:=28) func92 Z Z Z ?_;refine fa Z Z λ dk bx bm fQ ag=> ?_;have jd:=ag.lt;refine dn apf Z λ fT dJ bD j' aG=> ?_;have b7:=J bm bD;refine aJ<|aF<|aa (au hE Z)<| ?_;have ag:=ag.later bD;refine bA Z ag a6 Z<|aa (au hG Z)<|bA Z ag a6 Z<|aa (iM Z Z fP)<|aa (v:= .agg #[γ p.x,γ (p.y - 1)]) (hC Z)<|aa (au hE Z)<|bA Z ag a6 Z<|aa (iM Z Z fP)<|aa (au hG Z)<|bA Z ag a6 Z<|aa (v:= .agg #[γ (p.x - 1),γ p.y]) (hC Z)<|aa (au hE Z)<|bA Z ag a6 Z<|fl Z Z<|aa (au hG Z)<|bA Z ag a6 Z<|aa (v:= .agg #[γ (p.x+1),γ p.y]) (hC Z)<|aa (au hE Z)<|bA Z ag a6 Z<|aa (au hG Z)<|bA Z ag a6 Z<|fl Z Z<|aa (v:= .agg #[γ p.x,γ (p.y+1)]) (hC Z)<|aa (v:= .agg #[γ p.x,γ (p.y - 1),γ (p.x - 1),γ p.y,γ (p.x+1),γ p.y,γ p.x,γ (p.y+1)]) (hC Z)<| ?_;refine c9 Z Z aG Z aae Z Z λ hX jP aG=> ?_;have cY:=Ext.mod b7 jP bF;refine tZ<|dS (.cell Z (aG.all apg aae) .nil)<| ?_;exact ⟨Z,cY⟩
end
theorem p9 {P:Program} {n:Nat} {ops:Array Oper} {Q:Exit→Act→World→Prop} {aL:Nat→Nat} {ba:List Nat} {E:List (Nat×Value)} {w0:World} {i d:Nat} {op:Op} {ty:TypeId} {pos:String} {aW:Array Edge} {j:Nat} {q:Bool} {u:Value} {cK:Oper} {iX:Nat} (ak:ops[i]? =some ⟨some d,op,ty,pos,aW,some (j,q)⟩) (aj:Nat.ble (aL i) 1=true) (aw:ops[j]? =some cK) (oJ:cK.dst=some iX) (af:look E iX=some (dK false u)) (hd:Nat.blt d n=true)
  (h:eD P n ops Q aL ba ((d,undef)::E) w0):eD P n ops Q aL (i::ba) E w0:=λ a ha=>by
 have κ:=ha.g _ _ af;simp only [dK,aNR,aOm] at κ;have hw:Region.wanted ⟨some d,op,ty,pos,aW,some (j,q)⟩ (yielded ops a.tmps)=false:=by simp [Region.wanted,yielded,aw,oJ,κ,undef]
 have aj:=aOu aj;rcases aOd 0 (aL i) with aC | aC
 ·exact ⟨_,ak, .inr (.inl ⟨by omega,undef, .inr ⟨hw,rfl⟩,h _ (ha.put hd _)⟩)⟩
 ·exact ⟨_,ak, .inl ⟨by omega,undef, .inr ⟨hw,rfl⟩,h _ (ha.put hd _)⟩⟩
theorem UX (w0:World) (f:av) (P F A:Option Addr) (cv ff c b:Nat) (far:List Int) (l:List b5) (bg:ai) (p:ai) (d:Int) (w:World) (jO:Ext w0 w) (hf:f.a7=0) (bL:bz.aQ 8 w0 P cv f.places) (aE:aO w b [γ f.wide,γ f.high, .slice P f.places.length cv,γ bg.x,γ bg.y, .slice F far.length ff, .slice A l.length c] 163 (0,0)) (af:w0.heap.size≤b) (Bl:b5.rep.aM 225 32 w w0.heap.size (Φ.ab A) A c l) (N2:∀ q∈Φ.ab A,q=b→False) (dp:∀ y∈l,y.ok) (ay:l.length≤1000000) (hp: -500≤p.x∧p.x≤500∧ -500≤p.y∧p.y≤500) (aD: -500≤bg.x∧bg.x≤500∧ -500≤bg.y∧bg.y≤500) (hd:0≤d∧d≤100000):
  Calls prog 124 #[.pointer (a_ b), .agg #[γ p.x,γ p.y],γ d] w (λ e w'=>∃ bS cn,e= .returned (.tuple #[])∧aO w' b [γ f.wide,γ f.high, .slice P f.places.length cv,γ bg.x,γ bg.y, .slice F far.length ff, .slice bS ((cm.push b5.all l ⟨p,d,d+av.iZ bg p⟩).length) cn] 163 (0,0)∧b5.rep.aM 225 32 w' w0.heap.size (Φ.ab bS) bS cn (cm.push b5.all l ⟨p,d,d+av.iZ bg p⟩)∧(∀ q∈Φ.ab bS,q=b→False)∧(∀ q∈Φ.ab bS,q∈Φ.ab A∨w.heap.size≤q)∧Mod (b::Φ.ab A) w w'):=by
 have O7:=aE.lt;obtain ⟨g1,g2,g3,g4,g5,g6⟩:=av.hg hf;have aHd:=iG (bg.x - p.x);have aHe:=iG (bg.y - p.y);refine cx (n:=32) func124 Z Z Z ?_;refine fa Z Z λ dk bx bm fQ ag=> ?_;have dM:=(Mod.bN (b::Φ.ab A) w).trans (Mod.aP bm);have jd:=ag.lt;refine aJ<|aI<| ?_;refine dw [(0,0),(4,0),(5,0)] [0,1,2,3,4,5,6,7,8,9,10,11,12] ?_;refine cS Z (λ _ x=>aB Z ((ag.later x).all b2 bs))<|bn Z Z<|ax Z (λ _=>b3 Z)<|ax Z (λ _=>au aaf Z)<| ?_;have aE:=aE.later bm;refine cS Z (λ _ x=>aB Z ((aE.later x).par [γ bg.x,γ bg.y] b2 bs Z))<|rk Z Z aag Z (λ _ x=>Yb p bg _ (by omega) (by omega)) Z<|bn Z Z<|ax Z (λ _=>ex Z Z)<|ax Z (λ _=>ex Z Z)<|ax Z (λ _=>ex Z Z)<|ax Z (λ _=>eV Z)<|ax Z (λ _=>eV Z)<|ax Z (λ _=>eV Z)<|fn λ fT ea=> ?_;have:=ea.size;have b7:=dM.trans (Mod.aP ea);refine br<| ?_;refine dw [(4,0),(12,3)] [0,1,2,3,4,5,6,7,8,9,10,11,12] ?_;refine bn Z Z<|ax Z (λ _=>b3 Z)<|ax Z (λ _=>au Dn Z)<|ax Z (λ _=>GR (λ w=>by kernel_rfl) Z)<| ?_;have ag:=ag.later ea;refine cS Z (λ _ x=>aB Z ((ag.later x).all b2 bs))<|bn Z Z<|bn Z Z<|bn Z Z<|ax Z (λ _=>zM Z Z fP)<|ax Z (λ _=>bad Z Z fP)<|kn (v:= .agg #[γ p.x,γ p.y,γ d,γ (d+(2 * (cf (bg.x - p.x)+cf (bg.y - p.y))))]) Z Z (λ _=>gR Z (by kernel_rfl)) Z<|ax Z (λ _=>GR (λ w=>by kernel_rfl) Z)<| ?_;have Bl:=Bl.later (J bm ea);have aE:=aE.later ea;refine dC Z Z Z λ uD gB Q hK=>ca aph Z Z ((aBH b A c w0.heap.size l (γ f.wide) (γ f.high) (.slice P f.places.length cv) (γ bg.x) (γ bg.y) (.slice F far.length ff) ((⟨⟨p.x,p.y⟩,d,d+(2 * (cf (bg.x - p.x)+cf (bg.y - p.y)))⟩:b5)) _ (aE.later gB) (Bl.later gB) dp N2 ⟨cI.2 (by dsimp only;omega),cI.2 (by dsimp only;omega),cI.2 (by dsimp only;omega),cI.2 (by dsimp only;omega)⟩ ay (by have:=gB.size;omega)).mono ?_);rintro e hX ⟨WR,YK,rfl,Qt,QD,abQ,avP⟩;refine ⟨_,Z,hK _ _ ?_⟩;have:=gB.size;have jV:=b7.trans (Mod.aP gB);have cY:=jV.md avP (λ q I=> .inl I);refine fn λ qN kN=> ?_;have l3:=cY.trans (Mod.aP kN);refine ne<|dS .nil<| ?_;have QD:=QD.later kN;have Qt:=Qt.later kN;exact ⟨WR,YK,Z,Qt,QD,λ q I af=>by exfalso;(exact aNq (abQ q I) (λ ac2=>by (exact N2 q ac2 af)) (λ ac2=>by omega)),λ q I=>(abQ q I).imp id λ h=>by omega,l3⟩
end Go.Proofs.YthlpmldmhakhaaaGreatDoor
