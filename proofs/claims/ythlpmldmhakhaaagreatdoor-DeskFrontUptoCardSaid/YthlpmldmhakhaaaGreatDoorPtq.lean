import Derived.Test.YthlpmldmhakhaaaGreatDoorMrP
set_option linter.unusedVariables false
set_option linter.unusedSimpArgs false
set_option maxRecDepth 100000
set_option maxHeartbeats 4000000
open Go.RowKit
namespace Go.Proofs.YthlpmldmhakhaaaGreatDoor
open Tryz
abbrev aMH:=@Go.Lib.hid
abbrev aMS:=@Or.elim
abbrev aOe:=@Int.lt_or_le
abbrev aO8:=@Bool.not_eq_false'
abbrev aPL:=@beq_eq_false_iff_ne
abbrev aQg:=@Go.bodyPost_ret
section
variable {o:Oper} {id:Nat} {op:Op}
section
variable {fB:Nat} {fD:ai→Int} {P:Program} {ops:Array Oper} {Q:Exit→Act→World→Prop} {aK:Nat→Nat}
def s8 (fB:Nat) (fD:ai→Int) (P:Program) (ops:Array Oper) (w0:World) (o:Oper) (v:Value) (a:Act):Prop :=
  (Region.wanted o (yielded ops a.tmps)=true∧∀ w,n' fB fD w0 w→tY P w v ((execOp a.eval o).run P w))∨
  (Region.wanted o (yielded ops a.tmps)=false∧v=undef)
theorem s8.of_same {w0:World} {v:Value} {a a':Act} (h:s8 fB fD P ops w0 o v a) (he:execOp a'.eval o=execOp a.eval o) (hw:Region.wanted o (yielded ops a'.tmps)=Region.wanted o (yielded ops a.tmps)):s8 fB fD P ops w0 o v a':=by
  unfold s8 at *;rw [he,hw];exact h
theorem s8.on {w0 aM:World} {v:Value} {a:Act} (h:s8 fB fD P ops w0 o v a) (hx:n' fB fD w0 aM):s8 fB fD P ops aM o v a :=
  h.imp (λ ⟨κ,τ⟩=>⟨κ,λ w hw=>τ w (hx.trans hw)⟩) id
theorem Yields.axJ {w0:World} {v:Value} {a:Act} (h:Yields P ops o v a):s8 fB fD P ops w0 o v a :=
  h.imp (λ ⟨κ,τ⟩=>⟨κ,λ w _=>by rw [τ w];exact ⟨rfl,rfl⟩⟩) id
def aza (fB:Nat) (fD:ai→Int) (P:Program) (ops:Array Oper) (Q:Exit→Act→World→Prop) (aK:Nat→Nat) (i:Nat) (K:Act→World→Prop) (a:Act) (w0:World):Prop :=
  ∃ o,ops[i]? =some o∧
    ((aK i≤1∧∃ v,s8 fB fD P ops w0 o v a∧K (a.put o.dst v) w0)∨
     (1<aK i∧∀ w,Ext w0 w→wpOp P ops Q i (λ a' w'=>(aK i=2→n' fB fD w0 w')∧K a' w') a w))
def H8 (fB:Nat) (fD:ai→Int) (P:Program) (ops:Array Oper) (Q:Exit→Act→World→Prop) (aK:Nat→Nat):Nat→Array Bool→Act→World→Prop
  | 0,l,a,w0=>Region.ready .any ops l= []∧∀ w,Ext w0 w→Q .normal a w
  | f+1,l,a,w0=>(Region.ready .any ops l= []→∀ w,Ext w0 w→Q .normal a w)∧∀ i∈Region.ready .any ops l,aza fB fD P ops Q aK i (H8 fB fD P ops Q aK f (l.setIfInBounds i true)) a w0
theorem E2:∀ (f:Nat) (l:Array Bool) (a:Act) (w0:World),H8 fB fD P ops Q aK f l a w0→∀ w,Ext w0 w→wpAny P .any ops Q f l a w
  | 0,_,_,_,h,w,hw=>⟨h.1,h.2 w hw⟩
  | f+1,l,a,w0,h,w,hw=>⟨λ aB=>h.1 aB w hw,λ i ak=>by
      obtain ⟨o,bl,τ⟩:=h.2 i ak;rcases τ with ⟨_,v,I,aj⟩ | ⟨_,τ⟩
      · unfold wpOp
        simp only [bl];rcases I with ⟨i_,I⟩ | ⟨i_,rfl⟩
        · rw [aMI i_]
          refine .inl ?_;have I:=I w (n'.aP hw);unfold Oper.wp;generalize (execOp a.eval o).run P w=r at *
          cases r with
          | ok n w' =>
            cases n<;>simp only [tY] at I<;>simp only [Oper.upon]
            case value u=>obtain ⟨rfl,rfl⟩:=I;exact E2 f _ _ _ aj _ hw
            case skip=>obtain ⟨rfl,rfl⟩:=I;exact E2 f _ _ _ aj _ hw
            case enter f' args=>obtain ⟨rfl,hc⟩:=I;exact hc.mono λ e kp ⟨he,hx⟩=>by subst he;exact E2 f _ _ _ aj _ (hw.nT hx)
          | halt x w'=>simp only [tY] at I
        · rw [aMA (by rw [i_];decide)]
          exact E2 f _ _ _ aj _ hw
      · exact aOf (λ a' w' aq=>E2 f _ _ _ aq.2 _ (Ext.bM w')) (τ w hw)⟩
theorem Z1 {i:Nat} {c2:Oper} {v:Value} (ak:ops[i]? =some c2) (aj:aK i≤1) (j6:∀ (j:Nat) (o:Oper) cs b,ops[j]? =some o→o.op≠ .select cs b)
    (eI:∀ c a w,¬ Q (.panic c) a w) (az:World→Act→Prop) (kt:∀ w0 a,az w0 a→s8 fB fD P ops w0 c2 v a)
    (z2:∀ w0 a a',az w0 a→execOp a'.eval c2=execOp a.eval c2→Region.wanted c2 (yielded ops a'.tmps)=Region.wanted c2 (yielded ops a.tmps)→az w0 a')
    (z3:∀ w0 aM a,n' fB fD w0 aM→az w0 a→az aM a) (R:Nat→Bool) (qg:Array Bool)
    (hR:∀ j cI,ops[j]? =some cI→j≠i→(∀ e∈cI.after,Region.binds .any e=true→R e.on=true)→R j=true)
    (aS:(∀ w0 aM a,az w0 a→az aM a)∨∀ j,R j=true→3≤aK j→qg.getD j true=true):
    ∀ (f:Nat) (l:Array Bool) (a:Act) (w0:World),(∀ j,l.getD j false=true→R j=true)→(∀ j,qg.getD j true=true→l.getD j true=true)→
      (∀ j cI,ops[j]? =some cI→j≠i→l.getD j true=false→(∀ e∈cI.after,Region.binds .any e=true→e.on≠i)→c2.apart ops cI=true)→
      i∈Region.ready .any ops l→az w0 a→H8 fB fD P ops Q aK f (l.setIfInBounds i true) (a.put c2.dst v) w0→H8 fB fD P ops Q aK (f+1) l a w0:=by
  intro f;induction f with
  | zero =>
    intro l a w0 _ _ _ hr bo H;refine ⟨λ h=>(by rw [h] at hr;cases hr),λ j aw=> ?_⟩;by_cases fe:j=i
    · subst fe;exact ⟨c2,ak, .inl ⟨aj,v,kt _ _ bo,H⟩⟩
    · have:=aOh aw fe
      rw [H.1] at this;cases this
  | succ f bu =>
    intro l a w0 vU vS vQ hr bo H;refine ⟨λ h=>(by rw [h] at hr;cases hr),λ j aw=> ?_⟩;by_cases fe:j=i
    · subst fe;exact ⟨c2,ak, .inl ⟨aj,v,kt _ _ bo,H⟩⟩
    · obtain ⟨cI,hD,κ⟩:=H.2 j (aOh aw fe)
      obtain ⟨qb,ef,vY,ej⟩:=aOZ.1 aw;obtain rfl:ef=cI:=by rw [hD] at vY;exact (aMJ vY).symm
      have Du:∀ e∈ef.after,Region.binds .any e=true→e.on≠i:=λ e he af heq=>by
        have κ:=ej e he af;have aB:=(aOZ.1 hr).1;rw [heq] at κ;rcases aNI i l.size with cp | cp
        · simp [cp] at aB κ;rw [aB] at κ;cases κ
        · simp [aNo cp] at κ
      have zV:=vQ j ef hD fe qb Du;obtain ⟨cV,a2,a3⟩:=aPC zV;have Dw:∀ cs b,c2.op≠ .select cs b:=λ cs b=>j6 i c2 cs b ak;have ri:∀ cs b,ef.op≠ .select cs b:=λ cs b=>j6 j ef cs b hD;have keep:∀ aM a u,az aM a→az aM (a.put ef.dst u):=λ aM a u bo=>z2 _ _ _ bo (aOA c2 Dw a ef.dst u a3) (aOL c2 a ef.dst u a3);have vK:R j=true:=hR j ef hD fe λ e he af=>vU _ (ej e he af);have vV:∀ k,(l.setIfInBounds j true).getD k false=true→R k=true:=λ k aj=>by
        by_cases fF:j=k
        · rw [← fF];exact vK
        · rw [aN8 false fF] at aj;exact vU k aj
      have vT:∀ k,qg.getD k true=true→(l.setIfInBounds j true).getD k true=true:=λ k aj=>by
        by_cases fF:j=k
        · subst fF
          rcases aNI j l.size with cp | cp
          · simp [cp]
          · simp [aNo cp]
        · rw [aN8 true fF];exact vS k aj
      have vR:∀ k ok,ops[k]? =some ok→k≠i→(l.setIfInBounds j true).getD k true=false→
          (∀ e∈ok.after,Region.binds .any e=true→e.on≠i)→c2.apart ops ok=true:=λ k ok aj k9 wa jr=>by
        refine vQ k ok aj k9 ?_ jr;by_cases fF:j=k
        · subst fF;exact qb
        · rw [aN8 true fF] at wa;exact wa
      have vZ:=aOh hr (aOV fe);rcases κ with ⟨qc,u,I,hK⟩ | ⟨qc,κ⟩
      · refine ⟨ef,hD, .inl ⟨qc,u,I.of_same (aOA ef ri a c2.dst v cV).symm (aOL ef a c2.dst v cV).symm, ?_⟩⟩
        refine bu _ _ _ vV vT vR vZ (keep _ _ _ bo) ?_;rw [aNC _ _ fe,← aOg a v u a2];exact hK
      · refine ⟨ef,hD, .inr ⟨qc,λ w hw=> ?_⟩⟩
        refine aOf (λ a' w' aq=>⟨aq.2.1, ?_⟩) (Pw (az:=az w0) hD cV a2 ri eI (keep w0) (λ a d bo=>z2 _ _ _ bo Z Z) bo (κ w hw));have DB:az w' a':=by
          rcases aNI (aK j) 3 with bB | zY
          · exact z3 _ _ _ (aq.2.1 (by omega)) aq.1
          · rcases aS with aS | aS
            · exact aS _ _ _ aq.1
            · have:=vS j (aS j vK zY);rw [qb] at this;cases this
        refine bu _ _ _ vV vT vR vZ DB ?_;rw [aNC _ _ fe];exact aq.2.2
def G6 (fB:Nat) (fD:ai→Int) (P:Program) (ops:Array Oper) (Q:Exit→Act→World→Prop) (aK:Nat→Nat):List Nat→Act→World→Prop
  | [],a,w0=>∀ w,Ext w0 w→Q .normal a w
  | i::r,a,w0=>∃ o,ops[i]? =some o∧
      ((aK i=0∧∃ v,s8 fB fD P ops w0 o v a∧G6 fB fD P ops Q aK r (a.put o.dst v) w0)∨
       (aK i=1∧∃ v,Yields P ops o v a∧G6 fB fD P ops Q aK r (a.put o.dst v) w0)∨
       (1<aK i∧∀ w,Ext w0 w→wpOp P ops Q i (λ a' w'=>(aK i=2→n' fB fD w0 w')∧G6 fB fD P ops Q aK r a' w') a w))
theorem L7 (hs:Region.noSelect ops=true) (eI:∀ c a w,¬ Q (.panic c) a w):∀ (r:List Nat) (l:Array Bool) (a:Act) (w0:World),l.size=ops.size→hM ops aK r l=true→G6 fB fD P ops Q aK r a w0→H8 fB fD P ops Q aK r.length l a w0
  | [],l,a,w0,_,aS,h=>⟨by simpa [hM] using aS,h⟩
  | i::r,l,a,w0,ay,aS,h=>by
    obtain ⟨o,bl,h⟩:=h;have j6:=aOB hs;rcases h with ⟨aj,v,I,hK⟩ | ⟨aj,v,I,hK⟩ | ⟨aj,h⟩
    · simp only [hM,aj,aMF] at aS
      obtain ⟨⟨⟨hf,hr⟩,af⟩,aS⟩:=aS;obtain ⟨R,r1,r2,sI⟩:=Ib ay af;exact Z1 bl (by omega) j6 eI (λ w0 a=>s8 fB fD P ops w0 o v a) (λ _ _ h=>h) (λ _ _ _ h he hw=>h.of_same he hw) (λ _ _ _ hx h=>h.on hx) R l r1 (.inr sI) _ _ _ _ r2 (λ _ h=>h) (aNT bl hf) (by simpa using hr) I
        (L7 hs eI r _ _ _ (by simpa using ay) aS hK)
    · simp only [hM,aj,aMF] at aS
      obtain ⟨⟨hf,hr⟩,aS⟩:=aS;exact Z1 bl (by omega) j6 eI (λ _ a=>Yields P ops o v a) (λ _ _ h=>Yields.axJ h) (λ _ _ _ h he hw=>h.of_same he hw) (λ _ _ _ _ h=>h) (λ _=>true) l (λ _ _ _ _ _=>Z) (.inl λ _ _ _ h=>h) _ _ _ _ (λ _ _=>Z) (λ _ h=>h) (aNT bl hf) (by simpa using hr) I
        (L7 hs eI r _ _ _ (by simpa using ay) aS hK)
    · obtain ⟨k,lH⟩:∃ k,aK i=k+2:=⟨aK i - 2,by omega⟩
      simp only [hM,lH,aMF,aNq] at aS;obtain ⟨hr,aS⟩:=aS;refine ⟨λ aB=>(by rw [hr] at aB;cases aB),λ j aw=> ?_⟩;rw [hr] at aw;obtain rfl:j=i:=by simpa using aw
      exact ⟨o,bl, .inr ⟨aj,λ w hw=>aOf (λ a' w' aq=>⟨aq.1,L7 hs eI r _ _ _ (by simpa using ay) aS aq.2⟩) (h w hw)⟩⟩
theorem ax4 {a:Act} {w:World} (ba:List Nat) (hm:P.follows .mixedOrders=true) (aS:(Region.noSelect ops && (ba.length == ops.size) && hM ops aK ba (Array.replicate ops.size false))=true)
    (h:G6 fB fD P ops (eT (Q .normal)) aK ba a w):(Code.region id ops true).wp P Q a w:=by
  simp only [aMF,aNq] at aS;obtain ⟨⟨hs,ay⟩,aS⟩:=aS;refine aQf (aOI hm (Q:=eT (Q .normal)) ?_) (λ e a w I=>by cases e<;>first | exact I | exact I.elim);have:=L7 (P:=P) hs (Q:=eT (Q .normal)) (λ _ _ _ h=>h) ba (Array.replicate ops.size false) a w (by simp) aS h;rw [ay] at this;exact E2 _ _ _ _ this _ (aNb _ w).drew
end
section
variable {fB:Nat} {fD:ai→Int} {P:Program} {n:Nat} {E cd:List (Nat×Value)} {a:Act} {w w' w0 aM:World} {Q:Exit→Act→World→Prop} {ops:Array Oper} {v:Value} {aK:Nat→Nat}
variable {d:Option Nat} {ty:TypeId} {pos:String} {aW:Array Edge} {g:Option (Nat×Bool)} {x y z:Operand} {t:TypeId} {rest:List Oper} {ba:List Nat} {i:Nat}
def xE (fB:Nat) (fD:ai→Int) (P:Program) (n:Nat) (ops:Array Oper) (Q:Exit→Act→World→Prop) (aK:Nat→Nat) (ba:List Nat) (E:List (Nat×Value)) (w0:World):Prop:=∀ a,c8 n E a→G6 fB fD P ops (eT (Q .normal)) aK ba a w0
theorem UG (fB:Nat) (fD:ai→Int) (hO:List (Nat×Nat)) (ba:List Nat) (hm:P.follows .mixedOrders=true) (aS:(Region.noSelect ops && (ba.length == ops.size) && hM ops (j7 hO) ba (Array.replicate ops.size false))=true)
    (h:xE fB fD P n ops Q (j7 hO) ba E w):W P n (.region id ops true) Q E w:=λ a ha=>ax4 ba hm aS (h a ha)
theorem RX (h:∀ w,Ext w0 w→N n Q E w):xE fB fD P n ops Q aK [] E w0:=λ a ha w hw=>h w hw a ha
theorem Bo {d:Nat} (ak:ops[i]? =some ⟨some d,op,ty,pos,aW,none⟩) (aj:aK i=0) (hr:∀ w,n' fB fD w0 w→cF P E ⟨some d,op,ty,pos,aW,none⟩ w v w) (hd:Nat.blt d n=true)
    (h:xE fB fD P n ops Q aK ba ((d,v)::E) w0):xE fB fD P n ops Q aK (i::ba) E w0:=λ a ha =>
  ⟨_,ak, .inl ⟨aj,v, .inl ⟨qG rfl,λ w hw=>by rw [hr w hw n a ha];exact ⟨rfl,rfl⟩⟩,h _ (ha.put hd v)⟩⟩
theorem q_ {d:Nat} (ak:ops[i]? =some ⟨some d,op,ty,pos,aW,none⟩) (aj:aK i=1) (hr:∀ w,cF P E ⟨some d,op,ty,pos,aW,none⟩ w v w) (hd:Nat.blt d n=true)
    (h:xE fB fD P n ops Q aK ba ((d,v)::E) w0):xE fB fD P n ops Q aK (i::ba) E w0:=λ a ha =>
  ⟨_,ak, .inr (.inl ⟨aj,v, .inl ⟨qG rfl,λ w=>hr w n a ha⟩,h _ (ha.put hd v)⟩)⟩
theorem R2 (aT:o.guard=none) (ak:ops[i]? =some o) (aj:aK i=2) (h:∀ w,Ext w0 w→A4 P n ops o E w λ cd w'=>n' fB fD w0 w'∧xE fB fD P n ops Q aK ba cd w'):xE fB fD P n ops Q aK (i::ba) E w0:=λ a ha =>
  ⟨_,ak, .inr (.inr ⟨by omega,λ w hw=>Ec aT ak (h w hw) (λ cd w' a' aj ot=>⟨λ _=>aj.1,aj.2 a' ot⟩) ha⟩)⟩
theorem RP (aT:o.guard=none) (ak:ops[i]? =some o) (aj:aK i=3) (h:∀ w,Ext w0 w→A4 P n ops o E w λ cd w'=>xE fB fD P n ops Q aK ba cd w'):xE fB fD P n ops Q aK (i::ba) E w0:=λ a ha =>
  ⟨_,ak, .inr (.inr ⟨by omega,λ w hw=>Ec aT ak (h w hw) (λ cd w' a' aj ot=>⟨λ τ=>by omega,aj a' ot⟩) ha⟩)⟩
end
end
section
variable {j:Nat}
theorem awT {β:Type} {cur old part:List β} {p s:Nat} (bl:old.length=s) (aw:j+part.length≤s) (hc:p+s≤cur.length) (h:∀ m,m<s→cur[p+m]? =old[m]?):
  cur.take p++(old.take j++part++old.drop (j+part.length))++cur.drop (p+(old.take j++part++old.drop (j+part.length)).length)=cur.take (p+j)++part++cur.drop (p+j+part.length):=by
 have ay:(old.take j++part++old.drop (j+part.length)).length=s:=by simp only [aMB,aME,aM9];omega
 rw [ay];apply aOd;intro k;by_cases κ:k<p
 ·rw [aM6,aMZ (by rw [aME];omega),aM6,aMZ (by rw [aME];omega),aNe,aNe,aMI κ,aMI (by omega)]
 ·by_cases τ:k<p+s
  ·rw [aM6,aM7 (by rw [aME];omega),aMZ (by rw [ay,aME];omega),aME];obtain ⟨m,rfl⟩:∃ m,k=p+m:=⟨k - p,by omega⟩;rw [show p+m - min p cur.length=m from by omega];by_cases aq:m<j
   ·rw [aM6,aMZ (by rw [aME];omega),aM6,aMZ (by rw [aME];omega),aNe,aNe,aMI aq,aMI (by omega),h m (by omega)]
   ·by_cases bb:m<j+part.length
    ·rw [aM6,aM7 (by rw [aME];omega),aMZ (by rw [aME];omega),aM6,aM7 (by rw [aME];omega),aMZ (by rw [aME];omega),aME,aME];congr 1;omega
    ·rw [aM7 (by simp only [aMB,aME];omega),aNz,aM7 (by simp only [aMB,aME];omega),aNz];simp only [aMB,aME];rw [show p+j+part.length+(p+m - (min (p+j) cur.length+part.length))=p+m from by omega,h m (by omega)];congr 1;omega
  ·rw [aM7 (by simp only [aMB,aME,aM9];omega),aNz,aM7 (by simp only [aMB,aME];omega),aNz];simp only [aMB,aME,aM9];congr 1;omega
section
variable {P:Program} {n:Nat} {E cd:List (Nat×Value)} {a:Act} {w w' w0 aM:World} {Q:Exit→Act→World→Prop} {ops:Array Oper} {v:Value}
variable {d:Option Nat} {ty:TypeId} {pos:String} {aW:Array Edge} {g:Option (Nat×Bool)} {x y z:Operand} {t:TypeId} {rest:List Oper}
theorem ayW {α:Type} {R:Φ α} {e by_ B i:Nat} {A:Option Addr} {c:Nat} {l:List α} {q q':α} {p:Addr} {old part es:List Value} (h:R.aL e by_ w B (Φ.ab A) A c l) (hR:R.uW) (ak:l[i]? =some q) (hold:∀ {w cs},R.has w cs q→cs=old) (hx:ev E x=some (.pointer (some p))) (hp:p=⟨et A,jO A+i * R.size+j,none⟩) (aH:ev E y=some v) (hc:v.cells=part.toArray)
  (aw:Nat.ble (j+part.length) R.size=true) (abf:es=old.take j++part++old.drop (j+part.length)) (I:∀ w,R.has w es q') (hs:eN P t part.length)
  (aj:∀ aM,Mod (Φ.ab A) w aM→R.aL e by_ aM B (Φ.ab A) A c (l.set i q')→bO P n ops Q rest E aM):bO P n ops Q (⟨none, .store t x y,ty,pos,aW,none⟩::rest) E w:=by
 have Jl:i<l.length:=(aMx.1 ak).1;obtain ⟨b,rfl⟩:=h.block (by omega);have Jv:p=⟨b,i * R.size+j,none⟩:=by rw [hp];simp [et,jO]
 subst Jv;obtain ⟨_,ps,_,_,bl,_⟩:=id h;obtain ⟨cur,sz,_,_⟩:=bl.Yn;obtain ⟨tL,hle⟩:=Φ.aL.afN (q':=q') h hR Jl I sz;obtain ⟨vx,Kb,Dh,gg⟩:=h.has.at_ (by omega);injection Dh with Dh
 injection Dh with dM bq
 subst dM bq;obtain ⟨FD,abc,jJ⟩:=gg i q ak;obtain rfl:=hold abc;have arP:FD.length=R.size:=R.len abc;have abt:es.length=R.size:=R.len (I w);have NK:=aNZ aw;have p9:∀ m,m<R.size→cur.toList[i * R.size+m]? =FD[m]? :=λ m hm=>by
  have hu:FD[m]? =some FD[m]:=aMy (by omega);have:=jJ m FD[m] hu;rw [hu];simpa [World.cell?,sz] using this
 have abP:=awT (cur:=cur.toList) (old:=FD) (part:=part) (p:=i * R.size) (s:=R.size) (j:=j) arP NK (by rw [abt] at hle;exact hle) p9;have tI:part.all (·.oneCell')=true:=aNd.2 λ u hu=>R.one (I w) u (by rw [abf];simp [hu]);have iZ:=UL (P:=P) (w:=w) (b:=b) (p:=i * R.size+j) (cur:=cur.toList) (e:=e) (by simpa [aO] using sz) hc hs tI (by rw [abt] at hle;omega);rw [← abP,← abf] at iZ;refine us (λ n a ha=> ?_) (aj _ (Mod.setRow w b _) tL);simp only [execOp,ha.ev hx,ha.ev aH,Instr.storeAt,Instr.sureAddr,aML,aMP,aMG,iZ]
end
end
section
variable {f:FuncId} {name:String} {xs:Array Operand} {ts:Array TypeId} {args:List Value}
section
variable {P:Program} {n:Nat} {E:List (Nat×Value)} {w w':World} {Q:Exit→Act→World→Prop} {ops:Array Oper} {ty:TypeId} {pos:String} {aW:Array Edge} {rest:List Oper} {x y z:Operand} {t u:TypeId} {v jy:Value} {d:Option Nat} {g:Option (Nat×Bool)}
def A2 (P:Program) (w:World) (t:TypeId) (v:Value) (name:String) (f:FuncId) (jy:Value):Prop:=(Go.method (P.types.size+Made.depth) t v name).run P w= .ok (f,jy) w
theorem afF (hf:Enters P f) {a:Act} (ha:c8 n E a) (hr:ev E x=some (.iface t v)) (he:fr E xs.toList=some args) (hm:A2 P w t v name f jy):
  (execOp a.eval ⟨d, .call {callee:= .invoke x name,args:=xs,argTypes:=ts},ty,pos,aW,g⟩).run P w= .ok (.enter f (jy::args).toArray) w:=by
 obtain ⟨fn,κ,τ,aq⟩:=hf;have hx:xs.map a.eval=args.toArray:=by rw [← ha.fr he];apply aNW;simp
 unfold A2 at hm;have e0:(#[(Value.iface t v)]++args.toArray)[0]? =some (.iface t v):=by simp
 have aR:(#[(Value.iface t v)]++args.toArray).extract 1 (#[(Value.iface t v)]++args.toArray).size=args.toArray:=by simp
 have a6:#[jy]++args.toArray=(jy::args).toArray:=by simp
 have hp:Sem.run P program w= .ok P w:=rfl;simp only [execOp,resolve,hx,ha.ev hr,aML,aMP,aMG,invoke,e0,aR,callMethod,callFunc,hp,hm,κ,τ,aq,a6,aNm,aNR]
theorem gI {d:Nat} (hf:Enters P f) (hr:ev E x=some (.iface t v)) (he:fr E xs.toList=some args) (hm:A2 P w t v name f jy) (hd:Nat.blt d n=true)
  (h:Calls P f (jy::args).toArray w λ e w'=>∃ v,e= .returned v∧bO P n ops Q rest ((d,v)::E) w'):bO P n ops Q (⟨some d, .call {callee:= .invoke x name,args:=xs,argTypes:=ts},ty,pos,aW,none⟩::rest) E w:=λ a ha=>by
 refine xL Z ?_;unfold Oper.wp;rw [afF hf ha hr he hm];refine aOs h λ e w' dN=> ?_;obtain ⟨v,rfl,h⟩:=dN;exact h _ (ha.put hd v)
theorem ab7 {d:Nat} {j:Nat} {q b c:Bool} {cI:Oper} {iU:Nat} {v0:Value} (aw:ops[j]? =some cI) (oz:cI.dst=some iU) (af:look E iU=some (.bool b)) (hc:(b == q)=c)
  (hf:Enters P f) (hx:c=true→ev E x=some (.iface t v0)) (he:c=true→fr E xs.toList=some args) (hm:A2 P w t v0 name f jy) (hr:c=true→Calls P f (jy::args).toArray w λ e w'=>e= .returned v∧Ext w w') (hd:Nat.blt d n=true)
  (h:∀ w',Ext w w'→bO P n ops Q rest ((d,eb c v)::E) w'):bO P n ops Q (⟨some d, .call {callee:= .invoke x name,args:=xs,argTypes:=ts},ty,pos,aW,some (j,q)⟩::rest) E w :=
 VN (c:=c) (λ a ha=>by rw [Es (o:=⟨some d,_,ty,pos,aW,some (j,q)⟩) rfl aw oz af ha,hc])
  (λ hc a ha=>by unfold Oper.wp;rw [afF hf ha (hx hc) (he hc) hm];exact (hr hc).mono λ e w' ⟨κ,asQ⟩=>by subst κ;subst hc;exact h w' asQ _ (ha.put hd v)) (λ hc a ha=>by subst hc;exact h w (Ext.bM w) _ (ha.put hd undef))
theorem Gz (hr:∀ w,(Instr.makeInterface t v).run P w= .ok (.iface t v) w) (hx:ev E x=some v):cF P E ⟨d, .makeInterface t x,ty,pos,aW,g⟩ w (.iface t v) w:=λ n a ha=>by
 simp only [execOp,ha.ev hx,aML,hr w,aMG,aMP]
theorem agm {t':TypeId} (hr:∀ w,(Instr.typeAssert (.iface t v) t' t false).run P w= .ok v w) (hx:ev E x=some (.iface t v)):cF P E ⟨d, .typeAssert x t' t false,ty,pos,aW,g⟩ w v w:=λ n a ha=>by
 simp only [execOp,ha.ev hx,aML,hr w,aMG,aMP]
theorem yC {e:TypeId} {p:Addr} (h:(Go.method (P.types.size+Made.depth) t (.pointer (some p)) name).run P w=(loadVar e p >>= λ x=>pure (f,x)).run P w) (ay:kx P w e p v):A2 P w t (.pointer (some p)) name f v:=by
 unfold A2;unfold kx at ay;rw [h];simp only [aML,ay,aMG,aMP]
end
end
section
variable {j:Nat}
namespace cj
section
variable {α:Type} [Inhabited α] {key:α→Int} {lm l:List α} {m N n:Nat}
theorem az1 (h:(((((m - 1) / 2:Nat):Int)== (m:Int)) || !decide (key (lm.getD m default)<key (lm.getD ((m - 1) / 2) default)))=true):oQ key lm m=lm:=by
 unfold oQ;rw [aMA];rintro ⟨κ,τ⟩;simp only [aNa,aNq,aNF,aMC] at h;rcases h with h | h
 ·omega
 ·exact h τ
theorem az2 (h:(((((m - 1) / 2:Nat):Int)== (m:Int)) || !decide (key (lm.getD m default)<key (lm.getD ((m - 1) / 2) default)))=false):0<m∧oQ key lm m=oQ key (swp lm ((m - 1) / 2) m) ((m - 1) / 2):=by
 simp only [aNj,aPL,aO8,aMD] at h;have hm:0<m:=by
  rcases aOo m with aB | aB
  ·subst aB;exact absurd Z h.1
  ·exact aB
 refine ⟨hm, ?_⟩
 conv=>lhs;unfold oQ
 rw [aMI ⟨hm,h.2⟩]
theorem am3 (h:(decide ((N:Int)≤2 * (m:Int)+1) || decide (2 * (m:Int)+1<0))=true):jl key N l m=l:=by
 unfold jl;rw [aMA];simp only [aNa,aMD] at h;omega
theorem am4 (h:(decide ((N:Int)≤2 * (m:Int)+1) || decide (2 * (m:Int)+1<0))=false):2 * m+1<N:=by
 simp only [aNj,aMC] at h;omega
theorem au7 (h:(decide (2 * (m:Int)+1+1<(N:Int)) && decide (key (l.getD (2 * m+1+1) default)<key (l.getD (2 * m+1) default)))=true):mT key N l m=2 * m+2:=by
 simp only [aMF,aMD] at h;unfold mT;rw [aMI ⟨by omega,h.2⟩]
theorem au5 {q:Bool} (h:(decide (2 * (m:Int)+1+1<(N:Int)) && q)=true):2 * m+2<N:=by
 simp only [aMF,aMD] at h;omega
theorem au6 (h:(decide (2 * (m:Int)+1+1<(N:Int)) && decide (key (l.getD (2 * m+1+1) default)<key (l.getD (2 * m+1) default)))=false):mT key N l m=2 * m+1:=by
 unfold mT;rw [aMA];rintro ⟨κ,τ⟩;rw [aMV (show 2 * (m:Int)+1+1<(N:Int) by omega),aMV (show key (l.getD (2 * m+1+1) default)<key (l.getD (2 * m+1) default) from τ)] at h;cases h
theorem Y5 (κ:2 * m+1<N) (ay:mT key N l m=j) (h:(!decide (key (l.getD j default)<key (l.getD m default)))=true):jl key N l m=l:=by
 unfold jl;rw [aMA];rw [ay];rintro ⟨_,τ⟩;rw [aMV τ] at h;cases h
theorem Y6 (κ:2 * m+1<N) (ay:mT key N l m=j) (h:(!decide (key (l.getD j default)<key (l.getD m default)))=false):jl key N l m=jl key N (swp l m j) j:=by
 conv=>lhs;unfold jl
 rw [ay,aMI ⟨κ,by simpa using h⟩]
end
end cj
theorem azp (m:Nat):Int.tdiv ((m:Int) - 1) 2=(((m - 1) / 2:Nat):Int):=by
 cases m with
 | zero=>rfl
 | succ m =>
  rw [show ((m+1:Nat):Int) - 1=(m:Int) by omega,aQt (by omega)];simp
section
variable {P:Program} {n:Nat} {E:List (Nat×Value)} {w:World} {ty:TypeId} {pos:String} {aW:Array Edge} {x y:Operand} {t u:TypeId} {d:Option Nat} {g:Option (Nat×Bool)}
theorem ak7 {k:IntKind} {i j r:Int} (hx:ev E x=some (.int k i)) (aH:ev E y=some (.int k j)) (κ:j≠0) (hr:Int.tdiv i j=r) (hw:k.wrap r=r):cF P E ⟨d, .binOp .quo t x y u,ty,pos,aW,g⟩ w (.int k r) w:=ua hx aH (binOp_quo t k i j) (by
 subst hr;have:Op.intDiv .quo k i j=pure (.int k (Int.tdiv i j)):=by simp [Op.intDiv,κ,hw]
 rw [this];rfl)
end
end
theorem akj:dL prog b4.rep 161 225 32:=dL.jw (z:=b4.zero) (k:=4) underlying161 b4.info rfl rfl (by decide) b4.k3
theorem Dp {w:World} {cs:List Value} {a:b4} (h:b4.rep.has w cs a):cs=a.cells:=aOY (show cs=a.cells∧a.ok from h)
theorem KY (A:Option Addr) (n c:Nat) (w:World):
  Calls prog 149 #[.slice A n c] w (λ e w'=>e= .returned (γ (n:Int))∧Ext w w'):=by
 refine cx (n:=5) func149 Z Z Z ?_;refine aG<|aU Z<|aN Z<|aa (dC underlying161 Z)<|bL Z<|c' Z Z<| ?_;exact ⟨Z,(Ext.bM w)⟩
theorem Py (A:Option Addr) (n c:Nat) (l:List b4) (i j:Int) (p q:Nat) (w:World) (ay:b4.rep.aQ 32 w A c l) (hn:l.length=n) (ak:i=(p:Int)) (aw:j=(q:Int)) (hp:p<n) (I:q<n):
  Calls prog 187 #[.slice A n c,γ i,γ j] w (λ e w'=>e= .returned (.bool (decide ((l.getD p default).all<(l.getD q default).all)))∧Ext w w'):=by
 refine cx (n:=18) func187 Z Z Z ?_;refine aG<|aU Z<|aI<| ?_;refine du [(4,0),(9,0)] [0,1,2,3,4,5,6,7,8,9,10,11] ?_;refine bn Z Z<|bn Z Z<|ax Z (λ _=>bX i.toNat underlying161 nE Z Z ((ay.keep (Ext.bM w)).bx (a1 i.toNat)) (by omega) (by omega))<|ax Z (λ _=>ar M0 Z)<|cR Z (λ _ x=>aA Z (Φ.aQ.oh Dp ((ay.keep (J (Ext.bM w) x)).ck (a1 i.toNat)) 3 (cl (l:=l) (u:=default) (by omega)) Z aZ))<|bn Z Z<|bn Z Z<|ax Z (λ _=>bX j.toNat underlying161 nE Z Z ((ay.keep (Ext.bM w)).bx (a1 j.toNat)) (by omega) (by omega))<|ax Z (λ _=>ar M0 Z)<|cR Z (λ _ x=>aA Z (Φ.aQ.oh Dp ((ay.keep (J (Ext.bM w) x)).ck (a1 j.toNat)) 3 (cl (l:=l) (u:=default) (by omega)) Z aZ))<|ax Z (λ _=>blt Z Z)<|ax Z (λ _=>eQ Z)<|fn λ dn gV=> ?_;refine br<|rt<|c' Z Z<| ?_;subst ak aw;exact ⟨by simp only [aNE];rfl,gV⟩
theorem Pz (A:Option Addr) (n c az:Nat) (l:List b4) (i j:Int) (p q:Nat) (w:World) (bc:b4.rep.aL 225 32 w az (Φ.ab A) A c (l)) (dk:∀ y∈l,y.ok) (hn:l.length=n) (ak:i=(p:Int)) (aw:j=(q:Int)) (hp:p<n) (I:q<n):
  Calls prog 188 #[.slice A n c,γ i,γ j] w (λ e w'=>e= .returned (.tuple #[])∧b4.rep.aL 225 32 w' az (Φ.ab A) A c (cj.swp l p q)∧Mod (Φ.ab A) w w'):=by
 refine cx (n:=20) func188 Z Z Z ?_;refine du [(7,0),(11,0),(13,3),(15,3)] [0,1,2,3,4,5,6,7,8,9,10,11,12,13,14,15] ?_;refine bn Z Z<|bn Z Z<|bn Z Z<|bn Z Z<|bn Z Z<|bn Z Z<|ax Z (λ _=>bX j.toNat underlying161 nE Z Z (bc.has.bx (a1 j.toNat (by first | omega | (rw [aMM];omega)))) (by omega) (by first | omega | (rw [aMM];omega)))<|cR Z (λ _ x=>aA Z (Φ.aQ.jG Dp ((bc.later x).has.ck (a1 j.toNat (by first | omega | (rw [aMM];omega)))) (cl (l:=l) (u:=default) (by first | omega | (rw [aMM];omega))) MK nE))<|bn Z Z<|bn Z Z<|ax Z (λ _=>bX i.toNat underlying161 nE Z Z (bc.has.bx (a1 i.toNat (by first | omega | (rw [aMM];omega)))) (by omega) (by first | omega | (rw [aMM];omega)))<|cR Z (λ _ x=>aA Z (Φ.aQ.jG Dp ((bc.later x).has.ck (a1 i.toNat (by first | omega | (rw [aMM];omega)))) (cl (l:=l) (u:=default) (by first | omega | (rw [aMM];omega))) MK nE))<|ax Z (λ _=>bX i.toNat underlying161 nE Z Z (bc.has.bx (a1 i.toNat (by first | omega | (rw [aMM];omega)))) (by omega) (by first | omega | (rw [aMM];omega)))<|dA Z Z Z λ dn gV Q hK=>OW (q':=l.getD j.toNat default) (i:=i.toNat) (bc.later gV) Φ.cZ (by first | omega | (rw [aMM];omega)) Z Z Z Z (λ _=>⟨Z,(dk _ (mU (by omega)))⟩) nE λ Ph avg LS=>hK _ _ ?_;have dK:=(Mod.bM (Φ.ab A) w).trans (Mod.aP gV);have AJ:=dK.md avg (λ q I=> .inl I);refine ax Z (λ _=>bX j.toNat underlying161 nE Z Z (LS.has.bx (a1 j.toNat (by first | omega | (rw [aMM];omega)))) (by omega) (by first | omega | (rw [aMM];omega)))<|dA Z Z Z λ uo bD Q hK=>OW (q':=l.getD i.toNat default) (i:=j.toNat) (LS.later bD) Φ.cZ (by first | omega | (rw [aMM];omega)) Z Z Z Z (λ _=>⟨Z,(dk _ (mU (by omega)))⟩) nE λ w_ T8 LM=>hK _ _ ?_;have je:=AJ.trans (Mod.aP bD);have ku:=je.md T8 (λ q I=> .inl I);refine fn λ yQ gi=> ?_;have iu:=ku.trans (Mod.aP gi);refine ne<|dR .nil<| ?_;have LM:=LM.later gi;subst ak aw;simp only [aNE] at LM;exact ⟨Z,LM,iu⟩
theorem aA8 (b:Nat) (A:Option Addr) (n c az:Nat) (l:List b4) (v0 v1 v2 v3 v4 v5:Value) (j:Nat) (w:World) (aE:aO w b [v0,v1,v2,v3,v4,v5, .slice A n c] 163 (0,0)) (bc:b4.rep.aL 225 32 w az (Φ.ab A) A c (l)) (dk:∀ y∈l,y.ok) (hn:l.length=n) (hd:∀ q∈Φ.ab A,q=b→False) (aw:j<n):
  Calls prog 163 #[.iface 223 (.pointer (some ⟨b,6,none⟩)),γ (j:Int)] w (λ e w'=>e= .returned (.tuple #[])∧aO w' b [v0,v1,v2,v3,v4,v5, .slice A n c] 163 (0,0)∧b4.rep.aL 225 32 w' az (Φ.ab A) A c (cj.oQ b4.all l j)∧Mod (Φ.ab A) w w'):=by
 have arX:=bc.has.km;refine cx (n:=23) func163 Z Z Z ?_;refine bV<| ?_;refine gh (λ cL cw aV=>∃ lm:List b4,∃ m:Nat,cw= [(0, .iface 223 (.pointer (some ⟨b,6,none⟩))),(1,γ (m:Int))]∧cL=(2 * m)∧Mod (Φ.ab A) w aV∧aO aV b [v0,v1,v2,v3,v4,v5, .slice A n c] 163 (0,0)∧b4.rep.aL 225 32 aV az (Φ.ab A) A c (lm)∧(m<n)∧(lm.length=n)∧(∀ y∈lm,y.ok)∧(cj.oQ b4.all lm m=cj.oQ b4.all l j)∧(∀ q∈Φ.ab A,q=b→False)) _ _ ⟨l,j,Z,Z,(Mod.bM (Φ.ab A) w),aE,bc,by omega,by omega,dk,rfl,hd⟩ (ib Z) ?_;rintro ael Xe xb ⟨lm,m,rfl,rfl,kL,aE,jh,hm,arO,Dv,lI,CX⟩;refine bV<|aN Z<|aa (iH Z Z fN)<|aa (ak7 (r:=(((m - 1) / 2:Nat):Int)) Z Z (by decide) (azp m) fN)<|aU Z<|aI<|aN Z<|vm Z<|aa (beq Z Z)<|vm Z<|gw Z Z<|gw Z Z<|gw Z Z<|ab7 Z Z Z Z MN (λ hc=>(gt hc Z)) (λ hc=>gG (gt hc Z) (gG (gt hc Z) Z)) (yC (e:= 161) (by kernel_rfl) (aE.one oe Z)) (λ hc=>Py _ _ _ lm (m:Int) ((((m - 1) / 2:Nat):Int)) m ((m - 1) / 2) _ jh.has (by omega) (by omega) (by omega) (by first | omega | (simp only [cq] at hc;omega)) (by first | omega | (simp only [cq] at hc;omega))) Z λ fP d_=> ?_;have b7:=kL.trans (Mod.aP d_);refine cb Z (λ hc=>dH (gt hc Z))<|aa (gq Z Z Z Z)<|aJ<| ?_;refine c_ Z (λ hC=> ?_) (λ hC=> ?_)
 ·have hex:=cj.az1 (key:=b4.all) hC;rw [hex] at lI;refine er<|ep<|KX Z<|eY<|eo<|ne<|dR .nil<| ?_;have jh:=jh.later d_;have aE:=aE.later d_;exact ⟨Z,aE,by rw [← lI];exact jh,b7⟩
 ·obtain ⟨Tn,tH⟩:=cj.az2 (key:=b4.all) hC;refine bF<|aN Z<|vm Z<|vm Z<| ?_;have aE:=aE.later d_;have jh:=jh.later d_;refine gI MP Z Z (yC (e:= 161) (by kernel_rfl) (aE.one oe Z)) Z ((Pz _ _ _ _ lm ((((m - 1) / 2:Nat):Int)) (m:Int) ((m - 1) / 2) m _ jh Dv (by omega) (by omega) (by omega) (by omega) (by omega)).mono ?_);rintro e yP ⟨rfl,ajN,rq⟩;refine cK ?_;have mC:=b7.md rq (λ q I=> .inl I);have asc:∀ y∈cj.swp lm ((m - 1) / 2) m,y.ok:=λ y aH=>Dv y ((cj.B6 (by omega) (by omega)).subset aH);have arI:(cj.swp lm ((m - 1) / 2) m).length=n:=by rw [cj.lj];omega
  refine aJ<|rg<|vm Z<|va Z<|nl<|cm<| ?_;have aE:=aE.mod rq (λ I=>CX _ I rfl);exact fh ⟨cj.swp lm ((m - 1) / 2) m,(m - 1) / 2,Z,Z,mC,aE,ajN,by omega,arI,asc,tH.symm.trans lI,CX⟩
theorem aA3 (b:Nat) (A:Option Addr) (n c az:Nat) (l:List b4) (v0 v1 v2 v3 v4 v5:Value) (i N:Nat) (w:World) (aE:aO w b [v0,v1,v2,v3,v4,v5, .slice A n c] 163 (0,0)) (bc:b4.rep.aL 225 32 w az (Φ.ab A) A c (l)) (dk:∀ y∈l,y.ok) (hn:l.length=n) (hd:∀ q∈Φ.ab A,q=b→False) (ak:i<n) (mN:N≤n) (F0:n≤1000000):
  Calls prog 164 #[.iface 223 (.pointer (some ⟨b,6,none⟩)),γ (i:Int),γ (N:Int)] w (λ e w'=>(∃ v,e= .returned (.bool v))∧aO w' b [v0,v1,v2,v3,v4,v5, .slice A n c] 163 (0,0)∧b4.rep.aL 225 32 w' az (Φ.ab A) A c (cj.jl b4.all N l i)∧Mod (Φ.ab A) w w'):=by
 refine cx (n:=48) func164 Z Z Z ?_;refine aG<|aU Z<|aN Z<|aU Z<|aI<|bV<| ?_;refine gh (λ cL cw aV=>∃ lm:List b4,∃ m:Nat,cw= [(0, .iface 223 (.pointer (some ⟨b,6,none⟩))),(1,γ (i:Int)),(2,γ (N:Int)),(6, .bool false),(7,γ (m:Int))]∧cL=N - m∧Mod (Φ.ab A) w aV∧aO aV b [v0,v1,v2,v3,v4,v5, .slice A n c] 163 (0,0)∧b4.rep.aL 225 32 aV az (Φ.ab A) A c (lm)∧(m<n)∧(lm.length=n)∧(∀ y∈lm,y.ok)∧(cj.jl b4.all N lm m=cj.jl b4.all N l i)∧(∀ q∈Φ.ab A,q=b→False)) _ _ ⟨l,i,Z,Z,(Mod.bM (Φ.ab A) w),aE,bc,by omega,by omega,dk,rfl,hd⟩ (ib Z) ?_;rintro ael Xe xb ⟨lm,m,rfl,rfl,kL,aE,jh,hm,arO,Dv,lI,CX⟩;refine bV<|aN Z<|aa (zx Z Z fN)<|fi Z Z<|aU Z<|aI<|aN Z<|vm Z<|aa (k7 Z Z)<|vm Z<|gw Z Z<|cb Z (λ hc=>blt (gt hc Z) Z)<|aa (gq Z Z Z Z)<|aJ<| ?_;refine c_ Z (λ oq=> ?_) (λ oq=> ?_)
 ·have hex:=cj.am3 (key:=b4.all) (l:=lm) oq;rw [hex] at lI;refine er<|ep<|KX Z<|eY<|eo<|br<|aN Z<|vm Z<|aa (iv Z Z)<|bL Z<|c' Z Z<| ?_
  skip
  exact ⟨⟨_,Z⟩,aE,by rw [← lI];exact jh,kL⟩
 ·have F2:=cj.am4 oq;refine bF<|aN Z<|aU Z<|aI<|aN Z<|fi Z Z<|aU Z<|aN Z<|vm Z<|fI Z Z<|vm Z<|gw Z Z<|gw Z Z<| ?_;refine gw Z Z<|ab7 Z Z Z Z MN (λ hc=>(gt hc Z)) (λ hc=>gG (gt hc Z) (gG (gt hc Z) Z)) (yC (e:= 161) (by kernel_rfl) (aE.one oe Z)) (λ hc=>Py _ _ _ lm (((2 * (m:Int))+1)+1) ((2 * (m:Int))+1) (((2 * m)+1)+1) ((2 * m)+1) _ jh.has (by omega) (by omega) (by omega) (by first | omega | (simp only [cq] at hc;omega)) (by first | omega | (simp only [cq] at hc;omega))) Z λ uo bD=> ?_;have je:=kL.trans (Mod.aP bD);refine aa (fG Z Z Z Z)<|aJ<| ?_;refine c_ Z (λ hN=> ?_) (λ hN=> ?_)
  ·have j5:=cj.au7 (key:=b4.all) (l:=lm) (m:=m) hN;have aa3:=cj.au5 hN;refine rg<|vm Z<|aU Z<|aI<|aN Z<|vm Z<|vm Z<| ?_;have aE:=aE.later bD;have jh:=jh.later bD;refine gI MN Z Z (yC (e:= 161) (by kernel_rfl) (aE.one oe Z)) Z ((Py _ _ _ lm (((2 * (m:Int))+1)+1) (m:Int) (((2 * m)+1)+1) m _ jh.has (by omega) (by omega) (by omega) (by first | omega | (simp only [cq] at hc;omega)) (by first | omega | (simp only [cq] at hc;omega))).mono ?_);rintro e G0 ⟨rfl,dY⟩;refine cK ?_;have rQ:=je.trans (Mod.aP dY);refine aa (dH Z)<|aJ<| ?_;refine c_ Z (λ Dd=> ?_) (λ Dd=> ?_)
   ·have hex:=cj.Y5 (key:=b4.all) F2 j5 Dd;rw [hex] at lI;refine er<|ep<|KX Z<|eY<|eo<|br<|aN Z<|vm Z<|aa (iv Z Z)<|bL Z<|c' Z Z<| ?_
    skip
    have jh:=jh.later dY;have aE:=aE.later dY;exact ⟨⟨_,Z⟩,aE,by rw [← lI];exact jh,rQ⟩
   ·have tH:=cj.Y6 (key:=b4.all) F2 j5 Dd;refine bF<|aN Z<|vm Z<|vm Z<| ?_;have aE:=aE.later dY;have jh:=jh.later dY;refine gI MP Z Z (yC (e:= 161) (by kernel_rfl) (aE.one oe Z)) Z ((Pz _ _ _ _ lm (m:Int) (((2 * (m:Int))+1)+1) m (((2 * m)+1)+1) _ jh Dv (by omega) (by omega) (by omega) (by omega) (by omega)).mono ?_);rintro e qE ⟨rfl,vp,Gv⟩;refine cK ?_;have lX:=rQ.md Gv (λ q I=> .inl I);have ase:∀ y∈cj.swp lm m (((2 * m)+1)+1),y.ok:=λ y aH=>Dv y ((cj.B6 (by omega) (by omega)).subset aH);have arJ:(cj.swp lm m (((2 * m)+1)+1)).length=n:=by rw [cj.lj];omega
    refine aJ<|rg<|vm Z<|va Z<|nl<|cm<| ?_;have aE:=aE.mod Gv (λ I=>CX _ I rfl);exact fh ⟨cj.swp lm m (((2 * m)+1)+1),2 * m+2,Z,Z,lX,aE,vp,by omega,arJ,ase,tH.symm.trans lI,CX⟩
  ·have j5:=cj.au6 (key:=b4.all) (l:=lm) (m:=m) hN;refine bF<|aI<|aN Z<|vm Z<|vm Z<| ?_;have aE:=aE.later bD;have jh:=jh.later bD;refine gI MN Z Z (yC (e:= 161) (by kernel_rfl) (aE.one oe Z)) Z ((Py _ _ _ lm ((2 * (m:Int))+1) (m:Int) ((2 * m)+1) m _ jh.has (by omega) (by omega) (by omega) (by first | omega | (simp only [cq] at hc;omega)) (by first | omega | (simp only [cq] at hc;omega))).mono ?_);rintro e rL ⟨rfl,jS⟩;refine cK ?_;have hU:=je.trans (Mod.aP jS);refine aa (dH Z)<|aJ<| ?_;refine c_ Z (λ I8=> ?_) (λ I8=> ?_)
   ·have hex:=cj.Y5 (key:=b4.all) F2 j5 I8;rw [hex] at lI;refine er<|ep<|KX Z<|eY<|eo<|br<|aN Z<|vm Z<|aa (iv Z Z)<|bL Z<|c' Z Z<| ?_
    skip
    have jh:=jh.later jS;have aE:=aE.later jS;exact ⟨⟨_,Z⟩,aE,by rw [← lI];exact jh,hU⟩
   ·have tH:=cj.Y6 (key:=b4.all) F2 j5 I8;refine bF<|aN Z<|vm Z<|vm Z<| ?_;have aE:=aE.later jS;have jh:=jh.later jS;refine gI MP Z Z (yC (e:= 161) (by kernel_rfl) (aE.one oe Z)) Z ((Pz _ _ _ _ lm (m:Int) ((2 * (m:Int))+1) m ((2 * m)+1) _ jh Dv (by omega) (by omega) (by omega) (by omega) (by omega)).mono ?_);rintro e Ei ⟨rfl,CO,BN⟩;refine cK ?_;have lZ:=hU.md BN (λ q I=> .inl I);have asf:∀ y∈cj.swp lm m ((2 * m)+1),y.ok:=λ y aH=>Dv y ((cj.B6 (by omega) (by omega)).subset aH);have arK:(cj.swp lm m ((2 * m)+1)).length=n:=by rw [cj.lj];omega
    refine aJ<|rg<|vm Z<|va Z<|nl<|cm<| ?_;have aE:=aE.mod BN (λ I=>CX _ I rfl);exact fh ⟨cj.swp lm m ((2 * m)+1),2 * m+1,Z,Z,lZ,aE,CO,by omega,arK,asf,tH.symm.trans lI,CX⟩
theorem aA7 (b:Nat) (A:Option Addr) (c az:Nat) (l:List b4) (v0 v1 v2 v3 v4 v5:Value) (x:b4) (w:World) (aE:aO w b [v0,v1,v2,v3,v4,v5, .slice A l.length c] 163 (0,0)) (bc:b4.rep.aL 225 32 w az (Φ.ab A) A c (l)) (dk:∀ y∈l,y.ok) (hd:∀ q∈Φ.ab A,q=b→False) (hx:x.ok) (F0:l.length≤1000000) (sx:az≤w.heap.size):
  Calls prog 192 #[.pointer (some ⟨b,6,none⟩), .iface 225 (.agg #[γ x.cell.x,γ x.cell.y,γ x.far,γ x.all])] w (λ e w'=>∃ bR cn,e= .returned (.tuple #[])∧aO w' b [v0,v1,v2,v3,v4,v5, .slice bR (l++ [x]).length cn] 163 (0,0)∧b4.rep.aL 225 32 w' az (Φ.ab bR) bR cn (l++ [x])∧(∀ q∈Φ.ab bR,q∈Φ.ab A∨w.heap.size≤q)∧Mod (b::Φ.ab A) w w'):=by
 have OO:=aE.lt;refine cx (n:=13) func192 Z Z Z ?_;refine du [(3,0),(6,2),(7,3),(9,3)] [0,1,2,3,4,5,6,7,8,9] ?_;refine bn Z Z<|bn Z Z<|ax Z (λ _=>b1 Z)<|cO Z Z aE oe Z<|bn Z Z<|ax Z (λ _=>agm (λ w=>by kernel_rfl) Z)<|fS Z Z Z λ dn gV Q hK=>b9 (e:= 225) (cs:= [γ x.cell.x,γ x.cell.y,γ x.far,γ x.all]) Z (λ _=>by kernel_rfl) Z λ Ph akK uG atN uU=>hK _ _ ⟨J gV uG, ?_⟩;have:=gV.size;have dK:=(Mod.bM (b::Φ.ab A) w).trans (Mod.aP gV);have AJ:=dK.trans (Mod.aP uG);have aJw:=uU.lt;have bc:=bc.later (J gV uG);refine dA Z Z Z λ w_ gK Q hK=>ap akj Φ.cZ (bc.later gK) ((aO.fu (R:=b4.rep) (by_:=32) (q:=x) uU ⟨Z,hx⟩ (by decide)).keep gK) Z Z (by simp only [aMw,aMz];omega) (by simp only [aMw,aMz];omega) (by have:=gK.size;omega) Z λ G0 ahV A8 jM vp aaj aIO=>hK _ _ ?_;have:=gK.size;have ku:=AJ.trans (Mod.aP gK);have rQ:=ku.md jM (λ q I=> .inl (aMK _ I));refine ax Z (λ _=>b1 Z)<| ?_;have aE:=(aE.later (J gV (J uG gK))).mod jM (λ I=>hd _ I rfl);refine dA Z Z Z λ uk il Q hK=>fH Z Z (aE.later il) Z Zs Z Z λ yS DS aE=>hK _ _ ?_;have ka:=rQ.trans (Mod.aP il);have lY:=ka.md DS kV;refine fn λ Au eK=> ?_;have jd:=lY.trans (Mod.aP eK);refine ne<|dR .nil<| ?_;have vp:=((vp.later il).mod DS (cY λ q I af=>aMS (aaj q I) (λ acA=>by (exact hd q acA af)) (λ acA=>by omega))).later eK;have aE:=aE.later eK;exact ⟨ahV,A8,Z,aE,vp,(λ q I=>(aaj q I).imp id λ h=>by omega),jd⟩
theorem aA6 (b:Nat) (A:Option Addr) (n c az:Nat) (l:List b4) (v0 v1 v2 v3 v4 v5:Value) (w:World) (aE:aO w b [v0,v1,v2,v3,v4,v5, .slice A n c] 163 (0,0)) (bc:b4.rep.aL 225 32 w az (Φ.ab A) A c (l)) (dk:∀ y∈l,y.ok) (hn:l.length=n) (hd:∀ q∈Φ.ab A,q=b→False) (aB:0<n):
  Calls prog 191 #[.pointer (some ⟨b,6,none⟩)] w (λ e w'=>e= .returned (.iface 225 (.agg ((l.getD (n - 1) default).cells).toArray))∧aO w' b [v0,v1,v2,v3,v4,v5, .slice A (n - 1) c] 163 (0,0)∧b4.rep.aL 225 32 w' az (Φ.ab A) A c (l.take (n - 1))∧Mod (b::Φ.ab A) w w'):=by
 have azI:=bY bc.lt;have OO:=aE.lt;have arX:=bc.has.km;have abz:=bc.has.1;refine cx (n:=23) func191 Z Z Z ?_;refine aG<|aU Z<|aN Z<|aa (b1 Z)<|bA Z aE oe Z<|aU Z<|aN Z<|vm Z<|aa (dC underlying161 Z)<|aa (iH Z Z fN)<|aa (bX (((n:Int) - 1).toNat) underlying161 nE Z Z (bc.has.bx (a1 (((n:Int) - 1).toNat))) (by omega) (by omega))<|aa (aA Z (Φ.aQ.jG Dp (bc.has.ck (a1 (((n:Int) - 1).toNat))) (cl (l:=l) (u:=default) (by omega)) MK nE))<|dj Zu Z λ dn bw bm fO ag=> ?_;have dK:=(Mod.bM (b::Φ.ab A) w).trans (Mod.aP bm);refine c6 Z Z ag Z nE Z Z λ fP kE ag=> ?_;have b7:=dK.md kE (λ q I=> .inr (by have:=aMu.1 I;omega));refine aJ<|aN Z<|vm Z<|vm Z<|aa (dC underlying161 Z)<|aa (iH Z Z fN)<|aa (UN (n - 1) (n - 1) underlying161 nE Z Z (by omega) (by omega) Z)<|aa (b1 Z)<| ?_;have aE:=(aE.later bm).mod kE aY;refine fH Z Z aE Z Zs Z Z λ xa rq aE=> ?_;have iQ:=b7.md rq kV;refine aJ<|aG<| ?_;have ag:=ag.mod rq aY;refine aa (aA Z (ag.all MK nE))<|aa (Gz (λ w=>by kernel_rfl) Z)<|bL Z<|c' Z Z<| ?_;have bc:=((bc.later bm).mod kE (bk azI)).mod rq (cY hd);exact ⟨by rw [show ((n:Int) - 1).toNat=n - 1 by omega];rfl,aE,Φ.aL.cut bc Φ.cZ (n - 1) (by omega),iQ⟩
theorem aA5 (b:Nat) (A:Option Addr) (c az:Nat) (l:List b4) (v0 v1 v2 v3 v4 v5:Value) (x:b4) (w:World) (aE:aO w b [v0,v1,v2,v3,v4,v5, .slice A l.length c] 163 (0,0)) (bc:b4.rep.aL 225 32 w az (Φ.ab A) A c (l)) (dk:∀ y∈l,y.ok) (hd:∀ q∈Φ.ab A,q=b→False) (hx:x.ok) (F0:l.length≤1000000) (sx:az≤w.heap.size):
  Calls prog 148 #[.iface 223 (.pointer (some ⟨b,6,none⟩)), .iface 225 (.agg #[γ x.cell.x,γ x.cell.y,γ x.far,γ x.all])] w (λ e w'=>∃ bR cn,e= .returned (.tuple #[])∧aO w' b [v0,v1,v2,v3,v4,v5, .slice bR (cj.push b4.all l x).length cn] 163 (0,0)∧b4.rep.aL 225 32 w' az (Φ.ab bR) bR cn (cj.push b4.all l x)∧(∀ q∈Φ.ab bR,q∈Φ.ab A∨w.heap.size≤q)∧Mod (b::Φ.ab A) w w'):=by
 have OO:=aE.lt;refine cx (n:=12) func148 Z Z Z ?_;refine aN Z<|vm Z<|gI anY Z Z (by unfold A2;kernel_rfl) Z ((aA7 b A c az l v0 v1 v2 v3 v4 v5 x _ aE bc dk hd hx (by omega) sx).mono ?_);rintro e xb ⟨cc,bd,rfl,iE,Qg,Bx,T6⟩;refine cK ?_;have kL:=(Mod.bM (b::Φ.ab A) w).md T6 (λ q I=> .inl I);have F':(l++ [x]).length=l.length+1:=by rw [aMB];rfl
 have aa8:∀ q∈Φ.ab cc,q=b→False:=λ q I e=>(Bx q I).elim (λ h=>hd q h e) (λ h=>by omega);have NQ:∀ y∈l++ [x],y.ok:=λ y aH=>(aMQ.1 aH).elim (dk y) λ h=>by rw [aMu.1 h];exact hx
 refine aJ<|rg<|vm Z<|vm Z<|gI IA Z Z (yC (e:= 161) (by kernel_rfl) (iE.one oe Z)) Z ((KY _ ((l++ [x]).length) _ _).mono ?_);rintro e aAv ⟨rfl,uG⟩;refine cK ?_;have PL:=kL.trans (Mod.aP uG);refine aa (iH Z Z fN)<| ?_;have Qg:=Qg.later uG;have iE:=iE.later uG;refine ca an8 Z Z (((show Calls _ _ #[_,γ (((l++ [x]).length:Int) - 1)] _ _ from (by rw [show ((l++ [x]).length:Int) - 1=(l.length:Int) by rw [F'];omega];exact aA8 b cc (l++ [x]).length bd az (l++ [x]) v0 v1 v2 v3 v4 v5 l.length _ iE Qg NQ rfl aa8 (by omega)))).mono ?_);rintro e fP ⟨rfl,gC,s4,avh⟩;refine cK ?_;have b7:=PL.md avh (λ q I=>(Bx q I).imp (aMK _) λ h=>by omega);refine nl<|ne<|dR .nil<| ?_;exact ⟨cc,bd,Z,by rw [show (cj.push b4.all l x).length=(l++ [x]).length by rw [cj.Kj,F']];exact gC,s4,Bx,b7⟩
theorem aA4 (b:Nat) (A:Option Addr) (n c az:Nat) (l:List b4) (v0 v1 v2 v3 v4 v5:Value) (w:World) (aE:aO w b [v0,v1,v2,v3,v4,v5, .slice A n c] 163 (0,0)) (bc:b4.rep.aL 225 32 w az (Φ.ab A) A c (l)) (dk:∀ y∈l,y.ok) (hn:l.length=n) (hd:∀ q∈Φ.ab A,q=b→False) (aB:0<n) (F0:n≤1000000):
  Calls prog 150 #[.iface 223 (.pointer (some ⟨b,6,none⟩))] w (λ e w'=>e= .returned (.iface 225 (.agg (l.getD 0 default).cells.toArray))∧aO w' b [v0,v1,v2,v3,v4,v5, .slice A (cj.m_ b4.all l).length c] 163 (0,0)∧b4.rep.aL 225 32 w' az (Φ.ab A) A c (cj.m_ b4.all l)∧Mod (b::Φ.ab A) w w'):=by
 refine cx (n:=15) func150 Z Z Z ?_;refine aG<|aU Z<|aN Z<|gI IA Z Z (yC (e:= 161) (by kernel_rfl) (aE.one oe Z)) Z ((KY _ n _ _).mono ?_);rintro e dn ⟨rfl,gV⟩;refine cK ?_;have dK:=(Mod.bM (b::Φ.ab A) w).trans (Mod.aP gV);refine aa (iH Z Z fN)<|aU Z<|aN Z<|vm Z<| ?_;have aE:=aE.later gV;have bc:=bc.later gV;refine gI MP Z Z (yC (e:= 161) (by kernel_rfl) (aE.one oe Z)) Z ((Pz _ _ _ _ l 0 ((n:Int) - 1) 0 (n - 1) _ bc dk (by omega) (by omega) (by omega) (by omega) (by omega)).mono ?_);rintro e agR ⟨rfl,ajY,Oq⟩;refine cK ?_;have EF:=dK.md Oq (λ q I=> .inl (aMK _ I));have abE:∀ y∈cj.swp l 0 (n - 1),y.ok:=λ y aH=>dk y ((cj.B6 (by omega) (by omega)).subset aH);have aF6:(cj.swp l 0 (n - 1)).length=n:=by rw [cj.lj];omega
 refine aJ<|aN Z<|vm Z<| ?_;have aE:=aE.mod Oq (λ I=>hd _ I rfl);refine ca aoe Z Z (((show Calls _ _ #[_,γ 0,γ ((n:Int) - 1)] _ _ from (by rw [show (n:Int) - 1=((n - 1:Nat):Int) by omega];exact aA3 b A n c az (cj.swp l 0 (n - 1)) v0 v1 v2 v3 v4 v5 0 (n - 1) _ aE ajY abE (by omega) hd (by omega) (by omega) F0))).mono ?_);rintro e Pe ⟨⟨aKY,rfl⟩,iE,aj7,kE⟩;refine cK ?_;have lp:=EF.md kE (λ q I=> .inl (aMK _ I));have asg:∀ y∈cj.jl b4.all (n - 1) (cj.swp l 0 (n - 1)) 0,y.ok:=λ y aH=>abE y ((cj.Y_ _ _ _ _ (aMO _) (by omega) (by omega)).subset aH);have aF7:(cj.jl b4.all (n - 1) (cj.swp l 0 (n - 1)) 0).length=n:=by rw [cj.Y9 _ _ _ _ (aMO _)];omega
 refine aJ<|aN Z<|gI aog Z Z (by unfold A2;kernel_rfl) Z ((aA6 b A n c az (cj.jl b4.all (n - 1) (cj.swp l 0 (n - 1)) 0) v0 v1 v2 v3 v4 v5 _ iE aj7 asg (by omega) hd aB).mono ?_);rintro e G0 ⟨rfl,aiY,ai6,T8⟩;refine cK ?_;have rQ:=lp.md T8 (λ q I=> .inl I);refine bL Z<|c' Z Z<| ?_;subst hn;exact ⟨by rw [← cj.ae4 (key:=b4.all) aB];rfl,by rw [cj.GF];exact aiY,ai6,rQ⟩
theorem hh {a b:Bool} (h:a=b):Ending.returned (.bool a)= .returned (.bool b):=by rw [h]
theorem ky (w:World) (o:Obj):Below w.heap.size w (w.alloc o):=(aNb _ w).alloc (aMO _) o
open Tryz

def au.oa (p:Int):Bool:= !au.OL p
theorem akS {p:Int}:(p<0→au.oa p=true)∧(4≤p→au.oa p=true)∧(0≤p→p<4→au.oa p=false):=by
 unfold au.oa au.OL;refine ⟨λ h=>by rw [oB (.inl h)];rfl,λ h=>by rw [oB (.inr (by omega))];rfl,λ κ τ=>by rw [ma κ (by omega)];rfl⟩
theorem ao9 (p:Int) (w:World):Calls prog 104 #[.int .i64 p] w λ e w'=>e= .returned (.bool (au.oa p))∧Below w.heap.size w w':=by
 obtain ⟨qX,e_,gD⟩:=akS (p:=p);rcases aOe p 0 with h | h
 ·have af:=qX h;have hd:decide (p<0)=true:=by simpa using h
  rw [af];clear qX e_ gD af;go_enter func104,ntmps104;go_wp2
  go_ret;exact ⟨Z,aNb _ _⟩
 ·rcases aOe p 4 with bb | bb
  ·have af:=gD h bb;have hd:decide (p<0)=false:=by simpa using h
   rw [af];clear qX e_ gD af;go_enter func104,ntmps104;go_wp2
   go_ret;exact ⟨hh (by simp<;>omega),aNb _ _⟩
  ·have af:=e_ bb;have hd:decide (p<0)=false:=by simpa using h
   rw [af];clear qX e_ gD af;go_enter func104,ntmps104;go_wp2
   go_ret;exact ⟨hh (by simp<;>omega),aNb _ _⟩
theorem as3  (A:Option Addr) (c:Nat) (l:List Int) (w:World) (ay:bz.aQ 8 w A c l):
  Calls prog 130 #[.slice A l.length c, .func (.func 104) #[] #[]] w λ e w'=>e= .returned (.int .i64 (hb (au.oa) l))∧Below w.heap.size w w':=by
 obtain ⟨n,hn⟩:∃ n,l.length=n:=⟨_,rfl⟩;have hle:n≤9223372036854775807:=by have:=ay.1;have:=ay.2.1;omega
 rw [hn];have bZ:=aMH ay;have jg:=aMH hn;clear ay hn;go_enter func130,ntmps130;go_wp2_with fail
 go_loopw [5,8] (λ _ gI wr=>∃ k:Nat,k≤n∧gI= .int .i64 (k:Int)∧Hid (∀ j (aw:j<k) (jq:j<l.length),(au.oa) l[j]=false)∧Below w.heap.size w wr) (λ _ gI _=>n - (intOf gI).toNat)
 case atStart=>exact ⟨0,aNl _,rfl,(λ j aw=>by omega),aNb _ _⟩
 case round =>
  obtain ⟨k,aj,rfl,jf,af⟩:=hrel;by_cases bB:k<n
  ·have nG:k<l.length:=by rw [jg.out];exact bB
   obtain ⟨b,o,rfl,jJ⟩:=D_ (bZ.out.keep af) (by omega);obtain ⟨x,qe⟩:∃ x,l[k]'nG=x:=⟨_,rfl⟩;have sH:=jJ k x (by rw [aMy nG,qe]);have u_:=aMH qe

   have hc:=ao9 x wr;clear jJ qe;cases jI:(au.oa) x with
   | true =>
    have kk:hb (au.oa) l=(k:Int):=JF nG (by rw [u_.out];exact jI) λ j aw=>jf.out j aw (by omega);rw [jI] at hc;have pP:=aMH kk;clear kk jI;go_wp2_with (go_at_call 104;refine hc.mono ?_;rintro e w' ⟨rfl,bq⟩)
    go_ret;exact ⟨by rw [pP.out];rfl,af.trans (bq.mono af.size)⟩
   | false =>
    rw [jI] at hc;have n6:Hid (∀ j (aw:j<k+1) (jq:j<l.length),(au.oa) l[j]=false):=by
     intro j aw jq;by_cases h:j<k
     ·exact jf.out j h jq
     ·obtain rfl:j=k:=by omega
      rw [u_.out];exact jI
    clear jI;go_wp2_with (go_at_call 104;refine hc.mono ?_;rintro e w' ⟨rfl,bq⟩)
    go_roundw
    case rel=>exact ⟨k+1,by omega,by go_num,n6,af.trans (bq.mono af.size)⟩
    case measure=>simp [intOf];omega
  ·have kk:hb (au.oa) l= -1:=Gm λ j aw=>jf.out j (by have:=jg.out;omega) aw;have pP:=aMH kk;clear kk;go_wp2_with fail
   go_ret;exact ⟨by rw [pP.out];rfl,af⟩
theorem aqL  (A:Option Addr) (c:Nat) (l:List Int) (w:World) (ay:bz.aQ 8 w A c l):
  Calls prog 103 #[.slice A l.length c, .func (.func 104) #[] #[]] w λ e w'=>e= .returned (.bool (l.any (au.oa)))∧Below w.heap.size w w':=by
 have hc:=as3  A c l w ay ;rw [← TL];generalize hb (au.oa) l=r at *
 generalize l.length=n at *
 clear ay ;go_enter func103,ntmps103;go_wp2_with (go_at_call 130;refine hc.mono ?_;rintro e w' ⟨rfl,bq⟩)
 go_ret;exact ⟨Z,bq⟩
theorem Pv (n lo ak:Int) (w:World):Calls prog 133 #[.int .i64 n, .int .i64 lo, .int .i64 ak] w λ e w'=>e= .returned (.bool (cJ n lo ak))∧w=w':=by
 rcases aOe n lo with h | h
 ·rw [oB (.inl h)];go_enter func133,ntmps133;go_wp2
  go_ret;exact ⟨Z,Z⟩
 ·rcases aOe ak n with bb | bb
  ·rw [oB (.inr bb)];go_enter func133,ntmps133;go_wp2
   go_ret;exact ⟨hh (by simp<;>omega),Z⟩
  ·rw [ma h bb];go_enter func133,ntmps133;go_wp2
   go_ret;exact ⟨hh (by simp<;>omega),Z⟩
theorem afV (n:Int) (w:World):Calls prog 102 #[.int .i64 n] w λ e w'=>e= .returned (.bool (cJ n 1 40))∧w=w':=by
 rcases aOe n 1 with h | h
 ·rw [oB (.inl h)];go_enter func102,ntmps102;go_wp2
  go_ret;exact ⟨Z,Z⟩
 ·rcases aOe 40 n with bb | bb
  ·rw [oB (.inr bb)];go_enter func102,ntmps102;go_wp2
   go_ret;exact ⟨hh (by simp<;>omega),Z⟩
  ·rw [ma h bb];go_enter func102,ntmps102;go_wp2
   go_ret;exact ⟨hh (by simp<;>omega),Z⟩
open Tryz

theorem au.amz {f:au} (κ:cJ f.wide 1 40=true) (τ:cJ f.high 1 40=true) (aq:¬ (f.places.length:Int)=f.wide * f.high):f.a7=4:=by
 unfold au.a7;rw [κ,τ,aMY aq];rfl
theorem au.amu {f:au} (κ:cJ f.wide 1 40=true) (τ:cJ f.high 1 40=true) (aq:(f.places.length:Int)=f.wide * f.high):f.a7=if f.places.any au.oa then 4 else 0:=by
 unfold au.a7;rw [κ,τ,aMV aq];have:f.places.all au.OL= !f.places.any au.oa:=by
  rw [List.all_eq_not_any_not];rfl
 rw [this];cases f.places.any au.oa<;>rfl
theorem RV (f:au) (A:Option Addr) (c:Nat) (w:World) (bJ:bz.aQ 8 w A c f.places):
  Calls prog 80 #[.agg #[.int .i64 f.wide, .int .i64 f.high, .slice A f.places.length c]] w λ e w'=>e= .returned (.int .i64 f.a7)∧Below w.heap.size w w':=by
 have af:=ky w (.cells #[.int .i64 f.wide, .int .i64 f.high, .slice A f.places.length c] 48);have gm:=afV f.wide;have iI:=afV f.high;cases κ:cJ f.wide 1 40 with
 | false =>
  rw [κ] at gm;rw [au.Ys (by rw [κ];rfl)];clear κ iI bJ;go_enter func80,ntmps80;go_wp2_with (go_at_call 102;refine (gm _).mono ?_;rintro e w' ⟨rfl,rfl⟩)
  go_ret;exact ⟨Z,af⟩
 | true =>
  rw [κ] at gm;cases τ:cJ f.high 1 40 with
  | false =>
   rw [τ] at iI;rw [au.Ys (by rw [κ,τ];rfl)];clear κ τ bJ;go_enter func80,ntmps80;go_wp2_with fail
   refine (gm _).mono ?_;rintro e w' ⟨rfl,rfl⟩;go_wp2_with fail
   refine (iI _).mono ?_;rintro e w' ⟨rfl,rfl⟩;go_wp2_with fail
   go_ret;exact ⟨Z,af⟩
  | true =>
   rw [τ] at iI;have hw:=jt κ;have dN:=jt τ;have Tn:0≤f.wide * f.high:=aO7 (by omega) (by omega);have NL:f.wide * f.high≤40 * 40:=aOy hw.2 dN.2 (by omega) (by omega);by_cases aq:(f.places.length:Int)=f.wide * f.high
   ·have hc:=aqL A c f.places _ (bJ.keep af);have hd:((f.places.length:Int)== f.wide * f.high)=true:=by simpa using aq
    have F5:((f.places.length:Int) != f.wide * f.high)=false:=by simpa using aq
    rw [au.amu κ τ aq];clear κ τ aq bJ;generalize f.places.any au.oa=r at *
    generalize f.places.length=n at *
    cases r with
    | true =>
     go_enter func80,ntmps80;go_wp2_with fail
     refine (gm _).mono ?_;rintro e w' ⟨rfl,rfl⟩;go_wp2_with fail
     refine (iI _).mono ?_;rintro e w' ⟨rfl,rfl⟩;go_wp2_with fail
     refine hc.mono ?_;rintro e w' ⟨rfl,bq⟩;go_wp2_with fail
     go_ret;exact ⟨Z,af.trans (bq.mono af.size)⟩
    | false =>
     go_enter func80,ntmps80;go_wp2_with fail
     refine (gm _).mono ?_;rintro e w' ⟨rfl,rfl⟩;go_wp2_with fail
     refine (iI _).mono ?_;rintro e w' ⟨rfl,rfl⟩;go_wp2_with fail
     refine hc.mono ?_;rintro e w' ⟨rfl,bq⟩;go_wp2_with fail
     go_ret;exact ⟨Z,af.trans (bq.mono af.size)⟩
   ·have hd:((f.places.length:Int)== f.wide * f.high)=false:=by simpa using aq
    have F5:((f.places.length:Int) != f.wide * f.high)=true:=by simpa using aq
    rw [au.amz κ τ aq];clear κ τ aq bJ;generalize f.places.length=n at *
    go_enter func80,ntmps80;go_wp2_with fail
    refine (gm _).mono ?_;rintro e w' ⟨rfl,rfl⟩;go_wp2_with fail
    refine (iI _).mono ?_;rintro e w' ⟨rfl,rfl⟩;go_wp2_with fail
    go_ret;exact ⟨Z,af⟩
theorem adv (w:World):Calls prog 68 #[.int .i64 1] w λ e w'=>e= .returned (.tuple #[.agg #[.int .i64 10, .int .i64 1, .int .i64 1, .int .i64 5], .int .i64 0])∧Below w.heap.size w w':=by
 go_enter func68,ntmps68;go_wp2
 refine aQg (v:= .tuple #[.agg #[.int .i64 10, .int .i64 1, .int .i64 1, .int .i64 5], .int .i64 0]) (by simp [results,results68,go_sem]) Z ⟨Z,(aNb _ _).alloc (aMO _) _⟩
theorem adw (w:World):Calls prog 68 #[.int .i64 2] w λ e w'=>e= .returned (.tuple #[.agg #[.int .i64 20, .int .i64 2, .int .i64 4, .int .i64 12], .int .i64 0])∧Below w.heap.size w w':=by
 go_enter func68,ntmps68;go_wp2
 refine aQg (v:= .tuple #[.agg #[.int .i64 20, .int .i64 2, .int .i64 4, .int .i64 12], .int .i64 0]) (by simp [results,results68,go_sem]) Z ⟨Z,(aNb _ _).alloc (aMO _) _⟩
theorem adx (k:Int) (w:World) (h:cJ k 1 2=false):Calls prog 68 #[.int .i64 k] w λ e w'=>e= .returned (.tuple #[.agg #[.int .i64 0, .int .i64 0, .int .i64 0, .int .i64 0], .int .i64 1])∧Below w.heap.size w w':=by
 have cp:=as8 h;have κ:(k == 1)=false:=by simp;omega
 have τ:(k == 2)=false:=by simp;omega
 clear h cp;go_enter func68,ntmps68;go_wp2
 refine aQg (v:= .tuple #[.agg #[.int .i64 0, .int .i64 0, .int .i64 0, .int .i64 0], .int .i64 1]) (by simp [results,results68,go_sem]) Z ⟨Z,(aNb _ _).alloc (aMO _) _⟩
open Tryz

theorem UI {k k':IntKind} {a b a' vx:Int} (κ:a=a') (τ:b=vx):Ending.returned (.tuple #[.int k a, .int k' b])= .returned (.tuple #[.int k a', .int k' vx]):=by rw [κ,τ]
def WD (f:au) (c:ai) (w:World) (e:Ending) (w':World):Prop:=e= .returned (.tuple #[.int .i64 (f.l6 c), .int .i64 (f.cG c)])∧Below w.heap.size w w'
theorem RU (f:au) (p:ai) (A:Option Addr) (c:Nat) (w:World) (bJ:bz.aQ 8 w A c f.places):
  Calls prog 122 #[.agg #[.int .i64 f.wide, .int .i64 f.high, .slice A f.places.length c], .agg #[.int .i64 p.x, .int .i64 p.y]] w (WD f p w):=by
 have hA:=aO.new w (ae.FE A c f) 48 (0,0);have af:=ky w (.cells (ae.FE A c f).toArray 48 (0,0));have aS:=aO.new (w.alloc (.cells (ae.FE A c f).toArray 48 (0,0))) p.cells 98 (0,0);have dM:=ky (w.alloc (.cells (ae.FE A c f).toArray 48 (0,0))) (.cells p.cells.toArray 98 (0,0));have kQ:=hA.later dM;have ox:=af.trans (dM.mono af.size);have hc:=RV f A c _ (bJ.keep ox);have I4:=bJ.keep ox;obtain ⟨aM,n8⟩:∃ aM,Hid ((w.alloc (.cells (ae.FE A c f).toArray 48 (0,0))).alloc (.cells p.cells.toArray 98 (0,0))=aM):=⟨_,aMH rfl⟩;rw [n8.out] at kQ aS hc ox I4;rw [World.size_alloc] at aS;clear hA af dM bJ;have iZ:∀ K:World→Prop,K aM→K ((w.alloc (.cells #[.int .i64 f.wide, .int .i64 f.high, .slice A f.places.length c] 48)).alloc (.cells #[.int .i64 p.x, .int .i64 p.y] 98)):=λ K h=>by
  have:=n8.out;rw [← this] at h;exact h
 by_cases aB:f.a7=0
 ·have rf:=au.km aB;obtain ⟨g1,g2,g3,g4,_,_⟩:=au.g_ aB;rw [aB] at hc;by_cases ew:0≤p.x∧p.x<f.wide∧0≤p.y∧p.y<f.high
  ·obtain ⟨i1,i2,i3,i4⟩:=ew;have hIn:=au.ate i1 i2 i3 i4;obtain ⟨aR,a6⟩:=au.k6 aB hIn;obtain ⟨fj,fQ,_⟩:=au.idx aB hIn;have uK:0≤p.y * f.wide:=aO7 i3 (by omega);have qJ:p.y * f.wide≤1600:=by omega
   obtain ⟨b,o,rfl,jJ⟩:=D_ I4 (by omega);have hce:=jJ (p.y * f.wide+p.x).toNat (f.place p) (by
    unfold au.place;rw [aMv,aMy (show (p.y * f.wide+p.x).toNat<f.places.length by omega)];rfl)
   have aiZ:=aMH hce;have qQ:=aMH (And.intro aR a6);have y9:=aMH kQ;have aE:=aMH aS;have d1:decide (p.x<0)=false:=by simpa using i1
   have d2:decide (p.y<0)=false:=by simpa using i3
   clear aB hIn aR a6 jJ hce I4 kQ aS;go_enter func122,ntmps122;go_wp2_with fail
   refine iZ (λ W=>Calls _ _ _ W _) ?_;refine hc.mono ?_;rintro e b' ⟨rfl,bq⟩;obtain ⟨sH,kX,nP⟩:=ae.ZX (y9.out.later bq);obtain ⟨B0,r1⟩:=ai.eh (aE.out.later bq);have aFL:=cell_later bq aiZ.out;go_wp2_with fail
   go_ret2
   exact ⟨UI qQ.out.2.symm qQ.out.1.symm,ox.trans (bq.mono ox.size)⟩
  ·have Gd:p.x<0∨f.wide≤p.x∨p.y<0∨f.high≤p.y:=by omega
   have qQ:=aMH (au.Ia aB (au.atf Gd));have y9:=aMH kQ;have aE:=aMH aS;clear aB I4 kQ aS ew;have ai7:=aMH Gd;clear Gd;go_enter func122,ntmps122;go_wp2_with fail
   refine iZ (λ W=>Calls _ _ _ W _) ?_;refine hc.mono ?_;rintro e b' ⟨rfl,bq⟩;obtain ⟨sH,kX,nP⟩:=ae.ZX (y9.out.later bq);obtain ⟨B0,r1⟩:=ai.eh (aE.out.later bq);have key:decide (p.x<0)=true∨(decide (p.x<0)=false∧decide (f.wide≤p.x)=true)∨(decide (p.x<0)=false∧decide (f.wide≤p.x)=false∧decide (p.y<0)=true)∨(decide (p.x<0)=false∧decide (f.wide≤p.x)=false∧decide (p.y<0)=false∧decide (f.high≤p.y)=true):=by
    have:=ai7.out;by_cases dt:p.x<0
    ·simp [dt]
    by_cases ey:f.wide≤p.x
    ·simp [dt,ey]
    by_cases ju:p.y<0
    ·simp [dt,ey,ju]
    ·simp [dt,ey,ju];omega
   rcases key with h | ⟨h,τ⟩ | ⟨h,τ,aq⟩ | ⟨h,τ,aq,bb⟩
   all_goals
    go_wp2_with fail
    go_ret2
    exact ⟨UI qQ.out.2.symm qQ.out.1.symm,ox.trans (bq.mono ox.size)⟩
 ·obtain ⟨aR,a6⟩:=au.Mb (c:=p) aB;have qQ:=aMH (And.intro aR a6);have aGr:(f.a7 != 0)=true:=by simpa using aB
  clear aR a6 aB I4 kQ aS;generalize f.a7=k at *
  go_enter func122,ntmps122;go_wp2_with fail
  refine iZ (λ W=>Calls _ _ _ W _) ?_;refine hc.mono ?_;rintro e b' ⟨rfl,bq⟩;go_wp2_with fail
  go_ret2
  exact ⟨UI qQ.out.2.symm qQ.out.1.symm,ox.trans (bq.mono ox.size)⟩
theorem I1 (f:au) (p:ai) (A:Option Addr) (c:Nat) (w:World) (bJ:bz.aQ 8 w A c f.places) (aB:f.a7=0):
  Calls prog 131 #[.agg #[.int .i64 f.wide, .int .i64 f.high, .slice A f.places.length c], .agg #[.int .i64 p.x, .int .i64 p.y]] w λ e w'=>e= .returned (.bool (f.ground p))∧Below w.heap.size w w':=by
 have af:=ky w (.cells #[.int .i64 f.wide, .int .i64 f.high, .slice A f.places.length c] 48);have dM:=ky (w.alloc (.cells #[.int .i64 f.wide, .int .i64 f.high, .slice A f.places.length c] 48)) (.cells #[.int .i64 p.x, .int .i64 p.y] 98);have ox:=af.trans (dM.mono af.size);have hc:=RU f p A c _ (bJ.keep ox);unfold WD at hc;clear af dM bJ;cases ew:f.dU p with
 | true =>
  obtain ⟨aR,a6⟩:=au.k6 aB ew;rw [aR,a6] at hc;have aT:f.ground p=(f.place p != 1):=by unfold au.ground;rw [ew];rfl
  rw [aT];clear aR a6 ew aT aB;generalize f.place p=v at *
  generalize f.places.length=n at *
  cases hv:v != 1 with
  | true =>
   go_enter func131,ntmps131;go_wp2_with fail
   refine hc.mono ?_;rintro e b' ⟨rfl,bq⟩;go_wp2_with fail
   go_ret;exact ⟨hh (by simp),ox.trans (bq.mono ox.size)⟩
  | false =>
   go_enter func131,ntmps131;go_wp2_with fail
   refine hc.mono ?_;rintro e b' ⟨rfl,bq⟩;go_wp2_with fail
   go_ret;exact ⟨hh (by simp),ox.trans (bq.mono ox.size)⟩
 | false =>
  obtain ⟨aR,a6⟩:=au.Ia aB ew;rw [aR,a6] at hc;have aT:f.ground p=false:=by unfold au.ground;rw [ew];rfl
  rw [aT];clear aR a6 ew aT aB;generalize f.places.length=n at *
  go_enter func131,ntmps131;go_wp2_with fail
  refine hc.mono ?_;rintro e b' ⟨rfl,bq⟩;go_wp2_with fail
  go_ret;exact ⟨Z,ox.trans (bq.mono ox.size)⟩
open Tryz

def ai.is (p x:ai):Bool:=decide (x=p)
theorem ai.atm {p x:ai} (h:ai.is p x=true):x=p:=by simpa [ai.is] using h
theorem ai.atl {p x:ai} (h:ai.is p x=false):((p.x == x.x)=false)∨((p.x == x.x)=true∧(p.y == x.y)=false):=by
 have:¬ x=p:=by simpa [ai.is] using h
 obtain ⟨a,b⟩:=p;obtain ⟨c,d⟩:=x;simp at this ⊢;omega
theorem as0 (p:ai) (A:Option Addr) (c:Nat) (l:List ai) (w:World) (ay:ai.rep.aQ 16 w A c l):
  Calls prog 152 #[.slice A l.length c, .agg #[.int .i64 p.x, .int .i64 p.y]] w λ e w'=>e= .returned (.int .i64 (hb (ai.is p) l))∧Below w.heap.size w w':=by
 obtain ⟨n,hn⟩:∃ n,l.length=n:=⟨_,rfl⟩;have hle:n≤9223372036854775807:=by have:=ay.1;have:=ay.2.1;omega
 rw [hn];have cS:=ky w (.cells #[.int .i64 p.x, .int .i64 p.y] 98);have aE:=aMH (aO.new w p.cells 98 (0,0));have bZ:=aMH (ay.keep cS);have jg:=aMH hn;clear ay hn;go_enter func152,ntmps152;go_wp2_with fail
 obtain ⟨w0,iF⟩:∃ w0,Hid (w0=w.alloc (.cells #[.int .i64 p.x, .int .i64 p.y] 98)):=⟨_,aMH rfl⟩;rw [← iF.out] at cS ⊢;have aE:Hid (aO w0 w.heap.size p.cells 98 (0,0)):=by rw [iF.out];exact aE
 have bZ:Hid (ai.rep.aQ 16 w0 A c l):=by rw [iF.out];exact bZ
 go_loopw [5,8] (λ _ gI wr=>∃ k m:Nat,k≤n∧gI= .int .i64 (k:Int)∧Hid (∀ j (aw:j<k) (jq:j<l.length),(ai.is p) l[j]=false)∧Hid (wr=w0.drewN m)) (λ _ gI _=>n - (intOf gI).toNat)
 case atStart=>exact ⟨0,0,aNl _,rfl,(λ j aw=>by omega),rfl⟩
 case round =>
  obtain ⟨k,m,aj,rfl,jf,bN⟩:=hrel;by_cases bB:k<n
  ·have nG:k<l.length:=by rw [jg.out];exact bB
   have aaH:ai.rep.aQ 16 wr A c l:=by rw [bN.out];exact bZ.out.drewN m
   have aaB:aO wr w.heap.size p.cells 98 (0,0):=by rw [bN.out];exact aE.out.drewN m
   have Dm:Below w.heap.size w wr:=by rw [bN.out];exact below_drewN cS m
   obtain ⟨b,o,rfl,jJ⟩:=ai.at_ aaH (by omega);obtain ⟨x,qe⟩:∃ x,l[k]'nG=x:=⟨_,rfl⟩;obtain ⟨sH,kX⟩:=jJ k x (by rw [aMy nG,qe]);obtain ⟨B0,r1⟩:=ai.eh aaB;have u_:=aMH qe;have k9:(k:Int)<(n:Int):=by omega
   have sB:(0:Int)≤(k:Int):=by omega
   clear jJ qe aaH aaB;cases jI:(ai.is p) x with
   | true =>
    have kk:hb (ai.is p) l=(k:Int):=JF nG (by rw [u_.out];exact jI) λ j aw=>jf.out j aw (by omega);have pP:=aMH kk;have asP:=ai.atm jI;subst asP;clear kk jI;go_wp2_with fail
    go_quiet (fail)
    go_wp2_with fail
    go_ret;exact ⟨by rw [pP.out];rfl,below_drewN Dm _⟩
   | false =>
    have n6:Hid (∀ j (aw:j<k+1) (jq:j<l.length),(ai.is p) l[j]=false):=by
     intro j aw jq;by_cases h:j<k
     ·exact jf.out j h jq
     ·obtain rfl:j=k:=by omega
      rw [u_.out];exact jI
    have dD:=ai.atl jI;clear jI;rcases dD with κ | ⟨κ,τ⟩
    all_goals
     go_wp2_with fail
     go_quiet (fail)
     go_wp2_with fail
     go_roundw
     case rel=>exact ⟨k+1,_,by omega,by go_num,n6,by show _=_;rw [bN.out];simp;rfl⟩
     case measure=>simp [intOf];omega
  ·have kk:hb (ai.is p) l= -1:=Gm λ j aw=>jf.out j (by have:=jg.out;omega) aw;have pP:=aMH kk;have asO:=bN.out;subst asO;clear kk;go_wp2_with fail
   go_ret;exact ⟨by rw [pP.out];rfl,below_drewN cS _⟩
theorem aqI (p:ai) (A:Option Addr) (c:Nat) (l:List ai) (w:World) (ay:ai.rep.aQ 16 w A c l):
  Calls prog 132 #[.slice A l.length c, .agg #[.int .i64 p.x, .int .i64 p.y]] w λ e w'=>e= .returned (.bool (l.contains p))∧Below w.heap.size w w':=by
 have cS:=ky w (.cells #[.int .i64 p.x, .int .i64 p.y] 98);have hc:=as0 p A c l _ (ay.keep cS);have ou:l.contains p=decide (0≤hb (ai.is p) l):=by
  rw [TL,List.contains_eq_any_beq];congr 1
  funext x
  unfold ai.is;by_cases h:x=p
  ·simp [h]
  ·simp [h,aOV h]
 rw [ou];generalize hb (ai.is p) l=r at *
 generalize l.length=n at *
 clear ay ou;go_enter func132,ntmps132;go_wp2_with (go_at_call 152;refine hc.mono ?_;rintro e w' ⟨rfl,bq⟩)
 go_ret;exact ⟨Z,cS.trans (bq.mono cS.size)⟩
open Tryz
section
variable {w aM:World} {az q c:Nat} {a:ae.cU} {A:Option Addr}
theorem bt.MH {W:ae} (h:bt w az a W):
  (∀ x∈Φ.ab a.M,x∉Φ.ab a.P∧x∉Φ.ab a.B∧x∉Φ.ab a.S∧x∉Φ.ab a.T)∧
  (∀ x∈Φ.ab a.T,x∉Φ.ab a.P∧x∉Φ.ab a.B∧x∉Φ.ab a.S∧x∉Φ.ab a.M)∧
  (∀ x∈Φ.ab a.S,x∉Φ.ab a.P∧x∉Φ.ab a.B∧x∉Φ.ab a.M∧x∉Φ.ab a.T):=by
 have hn:=h.apart;rw [aNk,aNk,aNk,aNk] at hn;obtain ⟨⟨⟨⟨_,_,BU⟩,_,rB⟩,_,pj⟩,_,qv⟩:=hn;refine ⟨λ x hx=>⟨λ hp=> ?_,λ hp=> ?_,λ hp=> ?_,λ hp=> ?_⟩,λ x hx=>⟨λ hp=> ?_,λ hp=> ?_,λ hp=> ?_,λ hp=> ?_⟩,λ x hx=>⟨λ hp=> ?_,λ hp=> ?_,λ hp=> ?_,λ hp=> ?_⟩⟩
 ·exact pj x (by simp [hp]) x hx Z
 ·exact pj x (by simp [hp]) x hx Z
 ·exact pj x (by simp [hp]) x hx Z
 ·exact qv x (by simp [hx]) x hp Z
 ·exact qv x (by simp [hp]) x hx Z
 ·exact qv x (by simp [hp]) x hx Z
 ·exact qv x (by simp [hp]) x hx Z
 ·exact qv x (by simp [hp]) x hx Z
 ·exact rB x (by simp [hp]) x hx Z
 ·exact rB x (by simp [hp]) x hx Z
 ·exact pj x (by simp [hx]) x hp Z
 ·exact qv x (by simp [hx]) x hp Z
theorem oi {g:Nat}:g∈bt.cA a↔g∈Φ.ab a.P∨g∈Φ.ab a.B∨g∈Φ.ab a.S∨g∈Φ.ab a.M∨g∈Φ.ab a.T:=by
 unfold bt.cA;simp only [aMQ];constructor
 ·rintro ((((h | h) | h) | h) | h)<;>simp [h]
 ·rintro (h | h | h | h | h)<;>simp [h]
namespace ae
def kW (k:Int):Int:=if k=1 then 5 else if k=2 then 12 else 0
end ae
theorem bt.mod {W:ae} {S:List Nat} (h:bt w az a W) (m:Mod S w aM) (hd:∀ x∈bt.cA a,x∉S):bt aM az a W :=
 ⟨h.P.mod m λ x hx=>hd x (oi.2 (.inl hx)),h.B.mod m λ x hx=>hd x (oi.2 (.inr (.inl hx))),h.S.mod m λ x hx=>hd x (oi.2 (.inr (.inr (.inl hx)))),h.M.mod m λ x hx=>hd x (oi.2 (.inr (.inr (.inr (.inl hx))))),h.T.mod m λ x hx=>hd x (oi.2 (.inr (.inr (.inr (.inr hx))))),h.apart,h.nums⟩
theorem o9 (h:q∈Φ.ab a.T):q∈bt.cA a:=oi.2 (.inr (.inr (.inr (.inr h))))
theorem Bn (h:q∈Φ.ab a.S):q∈bt.cA a:=oi.2 (.inr (.inr (.inl h)))
theorem Bm (h:q∈Φ.ab a.M):q∈bt.cA a:=oi.2 (.inr (.inr (.inr (.inl h))))
theorem Nc (h:q∈Φ.ab a.B):q∈bt.cA a:=oi.2 (.inr (.inl h))
theorem II (h:q∈Φ.ab a.P):q∈bt.cA a:=oi.2 (.inl h)
theorem bt.afS {W:ae} {l:List Int} (h:bt w az a W) (m:Mod (Φ.ab a.S) w aM) (hS:bz.aL 3 8 aM az (Φ.ab a.S) a.S a.s l):bt aM az a {W with bh:=l}:=by
 obtain ⟨d1,d2,d3⟩:=h.MH;exact ⟨h.P.mod m λ x hx hs=>(d3 x hs).1 hx,h.B.mod m λ x hx hs=>(d3 x hs).2.1 hx,hS,h.M.mod m λ x hx hs=>(d3 x hs).2.2.1 hx,h.T.mod m λ x hx hs=>(d3 x hs).2.2.2 hx,h.apart,h.nums⟩
theorem bt.swapT {W:ae} {l:List a8} (h:bt w az a W) (m:Mod (Φ.ab a.T) w aM) (aX:a8.rep.aL 108 56 aM az (Φ.ab A) A c l) (I:∀ q∈Φ.ab A,q∈Φ.ab a.T∨w.heap.size≤q):
  bt aM az {a with T:=A,t:=c} {W with ah:=l}:=by
 obtain ⟨d1,d2,d3⟩:=h.MH;refine ⟨h.P.mod m λ x hx hs=>(d2 x hs).1 hx,h.B.mod m λ x hx hs=>(d2 x hs).2.1 hx,h.S.mod m λ x hx hs=>(d2 x hs).2.2.1 hx,h.M.mod m λ x hx hs=>(d2 x hs).2.2.2 hx,aX, ?_,h.nums⟩;have hn:=h.apart;rw [aNk] at hn ⊢;refine ⟨hn.1,q2 A,λ x hx y aH e=> ?_⟩;subst e;rcases I x aH with aH | aH
 ·exact hn.2.2 x hx x aH Z
 ·have hf:x∈bt.cA a:=by unfold bt.cA;rw [aMQ];exact .inl hx
  have:=(h.lt x hf).2;omega
theorem bt.UQ {W V:ae} (h:bt w az a W) (κ:V.field.places=W.field.places) (τ:V.bj=W.bj) (aq:V.bh=W.bh) (bb:V.bW=W.bW) (bT:V.ah=W.ah) (hn:dz V.field.wide∧dz V.field.high∧dz V.next∧dz V.now):bt w az a V :=
 ⟨by rw [κ];exact h.P,by rw [τ];exact h.B,by rw [aq];exact h.S,by rw [bb];exact h.M,by rw [bT];exact h.T,h.apart,hn⟩
theorem Z' {w:World} {az:Nat} {W:ae} (h:q∈bt.cA {a with T:=A,t:=c}):q∈bt.cA a∨q∈Φ.ab A:=by
 rcases oi.1 h with h | h | h | h | h
 ·exact .inl (II h)
 ·exact .inl (Nc h)
 ·exact .inl (Bn h)
 ·exact .inl (Bm h)
 ·exact .inr h
def UH (k:Int):Int:=if k=1 then 1 else if k=2 then 2 else 0
def yi (k:Int):Int:=if k=1 then 1 else if k=2 then 4 else 0
def qf (k:Int):Int:=if k=1 then 0 else if k=2 then 0 else 1
theorem N7 (k:Int) (w:World):Calls prog 68 #[.int .i64 k] w λ e w'=>e= .returned (.tuple #[.agg #[.int .i64 (ae.hg k), .int .i64 (UH k), .int .i64 (yi k), .int .i64 (ae.kW k)], .int .i64 (qf k)])∧Ext w w':=by
 by_cases κ:k=1
 ·subst κ;exact adv w
 ·by_cases τ:k=2
  ·subst τ;exact adw w
  ·have:=adx k w (oB (by omega));simpa [ae.hg,UH,yi,ae.kW,qf,κ,τ] using this
theorem bt.down {vv:Nat} {W:ae} (h:bt w az a W) (bo:vv≤az):bt w vv a W:=⟨h.P.down bo,h.B.down bo,h.S.down bo,h.M.down bo,h.T.down bo,h.apart,h.nums⟩
def ae.zero:ae:=⟨⟨0,0, []⟩, [], [], [], [],0,0⟩
theorem bt.zero (w:World) (az:Nat):bt w az ⟨none,none,none,none,none,0,0,0,0,0⟩ ae.zero:=⟨Φ.aL.nil w,Φ.aL.nil w,Φ.aL.nil w,Φ.aL.nil w,Φ.aL.nil w,by simp [Φ.ab],cH.2 (by decide),cH.2 (by decide),cH.2 (by decide),cH.2 (by decide)⟩
theorem H' {f:au} {c:ai} (h:f.a7=0) (he:f.cG c=0):f.dU c=true:=by
 cases ak:f.dU c with
 | true=>rfl
 | false=>rw [(au.Ia h ak).1] at he;omega
theorem p2 (f:au) (p:ai) (A:Option Addr) (c:Nat) (w:World) (bJ:bz.aQ 8 w A c f.places):
  Calls prog 122 #[.agg #[.int .i64 f.wide, .int .i64 f.high, .slice A f.places.length c], .agg #[.int .i64 p.x, .int .i64 p.y]] w λ e w'=>e= .returned (.tuple #[.int .i64 (f.l6 p), .int .i64 (f.cG p)])∧Below w.heap.size w w':=RU f p A c w bJ
theorem bt.Um {P B S M T:Option Addr} {p b s m t:Nat} {W:ae} (bJ:bz.aL 3 8 w az (Φ.ab P) P p W.field.places) (aS:ai.rep.aL 98 16 w az (Φ.ab B) B b W.bj) (hS:bz.aL 3 8 w az (Φ.ab S) S s W.bh) (om:bz.aL 3 8 w az (Φ.ab M) M m W.bW) (aX:a8.rep.aL 108 56 w az (Φ.ab T) T t W.ah)
  (κ:∀ q∈Φ.ab B,q∈Φ.ab P→False) (τ:∀ q∈Φ.ab S,q∈Φ.ab P→False) (aq:∀ q∈Φ.ab S,q∈Φ.ab B→False) (bb:∀ q∈Φ.ab M,q∈Φ.ab P→False) (bT:∀ q∈Φ.ab M,q∈Φ.ab B→False) (cy:∀ q∈Φ.ab M,q∈Φ.ab S→False)
  (ec:∀ q∈Φ.ab T,q∈Φ.ab P→False) (ft:∀ q∈Φ.ab T,q∈Φ.ab B→False) (o':∀ q∈Φ.ab T,q∈Φ.ab S→False) (aFu:∀ q∈Φ.ab T,q∈Φ.ab M→False) (hn:dz W.field.wide∧dz W.field.high∧dz W.next∧dz W.now):
  bt w az ⟨P,B,S,M,T,p,b,s,m,t⟩ W:=by
 refine ⟨bJ,aS,hS,om,aX, ?_,hn⟩;have aR:=q2 P;have a6:=q2 B;have cM:=q2 S;have iV:=q2 M;have Iv:=q2 T;simp only [aNk,aMQ]
 grind
theorem bt.aeA {W:ae} {p:List a8} (h:bt w az a W) (aX:a8.rep.aL 108 56 w az (Φ.ab A) A c p) (κ:∀ q∈Φ.ab A,q∈bt.cA a→False):bt w az {a with T:=A,t:=c} {W with ah:=p}:=by
 refine ⟨h.P,h.B,h.S,h.M,aX, ?_,h.nums⟩;have hn:=h.apart;have aR:=q2 A;have f1:∀ q∈Φ.ab A,(q∈Φ.ab a.P→False)∧(q∈Φ.ab a.B→False)∧(q∈Φ.ab a.S→False)∧(q∈Φ.ab a.M→False):=λ q I=>⟨λ h=>κ q I (II h),λ h=>κ q I (Nc h),λ h=>κ q I (Bn h),λ h=>κ q I (Bm h)⟩;simp only [aNk,aMQ] at hn ⊢
 grind
theorem apw (h:q∈bt.cA {a with T:=A,t:=c}):q∈bt.cA a∨q∈Φ.ab A:=by
 rcases oi.1 h with h | h | h | h | h
 ·exact .inl (II h)
 ·exact .inl (Nc h)
 ·exact .inl (Bn h)
 ·exact .inl (Bm h)
 ·exact .inr h
structure aDy (a:ae.cU):Prop where
 qT:∀ q∈Φ.ab a.P,q∈Φ.ab a.S→False
 aDw:∀ q∈Φ.ab a.P,q∈Φ.ab a.M→False
 aDv:∀ q∈Φ.ab a.P,q∈Φ.ab a.B→False
 aDx:∀ q∈Φ.ab a.P,q∈Φ.ab a.T→False
 aDB:∀ q∈Φ.ab a.S,q∈Φ.ab a.M→False
 aDA:∀ q∈Φ.ab a.S,q∈Φ.ab a.B→False
 ST:∀ q∈Φ.ab a.S,q∈Φ.ab a.T→False
 aDo:∀ q∈Φ.ab a.M,q∈Φ.ab a.B→False
 Xt:∀ q∈Φ.ab a.M,q∈Φ.ab a.T→False
 aCO:∀ q∈Φ.ab a.B,q∈Φ.ab a.T→False
end
section
variable {f:au} {c:ai}
def oK (f:au) (c:ai):Int:=if f.dU c then sb (f.place c) else 0
theorem Yt (hf:f.a7=0) (hc:f.dU c=true):(th (f.place c)== 0)=f.ground c∧(f.ground c=true→sb (f.place c)=f.fg c):=by
 obtain ⟨_,_,_,_,_,g6⟩:=au.g_ hf;have hp:=g6 (f.place c) (by unfold au.place;exact mU (au.xN hf hc).1);unfold au.ground;rw [hc];have:f.place c=0∨f.place c=1∨f.place c=2∨f.place c=3:=by omega
 unfold au.fg th sb;rcases this with h | h | h | h<;>rw [h]<;>simp
theorem awZ (hf:f.a7=0) (h:¬ f.cG c=0):oK f c=0∧f.ground c=false:=by
 have hc:f.dU c=false:=by
  cases hc:f.dU c with
  | false=>rfl
  | true=>exact absurd (au.k6 hf hc).1 h
 unfold oK au.ground;rw [hc];exact ⟨Z,Z⟩
theorem awY (hf:f.a7=0) (h:f.cG c=0):oK f c=sb (f.l6 c)∧f.ground c=(th (f.l6 c)== 0):=by
 have hc:=H' hf h;rw [(au.k6 hf hc).2];unfold oK;rw [hc];exact ⟨Z,(Yt hf hc).1.symm⟩
theorem aeU (hf:f.a7=0) (h:f.ground c=true):oK f c=f.fg c:=by
 have hc:=au.jn h;unfold oK;rw [aMI hc];exact (Yt hf hc).2 h
theorem apa (p:Int) (w:World):
  Calls prog 126 #[γ p] w (λ e w'=>e= .returned (.tuple #[γ (sb p),γ (th p)])∧Ext w w'):=by
 refine cx (n:=12) func126 Z Z Z ?_;refine aG<|va Z<|aU Z<|aI<|aN Z<|aJ<|bV<|aI<|aG<|aa (beq Z Z)<|aU Z<| ?_;refine lF Z (λ pb=> ?_) (λ pb=> ?_)
 ·have aG7:(p == 0)=true:=by simpa using pb
  refine bF<| ?_;refine lF Z (λ SF=> ?_) (λ SF=> ?_)
  ·have aHa:(p == 0)=true:=by simpa using SF
   refine aG<|va Z<|bL Z<|hk<|cW<|hl Z Z Z<| ?_;exact ⟨by simp_all [sb,th,qB],(Ext.bM w)⟩
  ·have aHb:(p == 0)=false:=by simpa using SF
   refine aG<|aa (beq Z Z)<|aU Z<| ?_;refine lF Z (λ oo=> ?_) (λ oo=> ?_)
   ·have aHc:(p == 2)=true:=by simpa using oo
    refine aG<|va Z<|bL Z<|hk<|cW<|hl Z Z Z<| ?_;exact ⟨by simp_all [sb,th,qB],(Ext.bM w)⟩
   ·have aHd:(p == 2)=false:=by simpa using oo
    refine aG<|aa (beq Z Z)<|aU Z<| ?_;refine lF Z (λ Df=> ?_) (λ Df=> ?_)
    ·have aG0:(p == 1)=true:=by simpa using Df
     refine aG<|va Z<|bL Z<|hk<|cW<|hl Z Z Z<| ?_;exact ⟨by simp_all [sb,th,qB],(Ext.bM w)⟩
    ·have aG1:(p == 1)=false:=by simpa using Df
     refine gb<|cm<|br<|aG<|va Z<|bL Z<|hl Z Z Z<| ?_;exact ⟨by simp_all [sb,th,qB],(Ext.bM w)⟩
 ·have aG2:(p == 0)=false:=by simpa using pb
  refine rg<|aa (beq Z Z)<|aU Z<| ?_;refine lF Z (λ Dc=> ?_) (λ Dc=> ?_)
  ·have aG3:(p == 3)=true:=by simpa using Dc
   refine aG<|va Z<|bL Z<|hk<|cW<|hl Z Z Z<| ?_;exact ⟨by simp_all [sb,th,qB],(Ext.bM w)⟩
  ·have aG4:(p == 3)=false:=by simpa using Dc
   refine aG<|aa (beq Z Z)<|aU Z<| ?_;refine lF Z (λ Dd=> ?_) (λ Dd=> ?_)
   ·have aG5:(p == 2)=true:=by simpa using Dd
    refine aG<|va Z<|bL Z<|hk<|cW<|hl Z Z Z<| ?_;exact ⟨by simp_all [sb,th,qB],(Ext.bM w)⟩
   ·have aG6:(p == 2)=false:=by simpa using Dd
    refine aG<|aa (beq Z Z)<|aU Z<| ?_;refine lF Z (λ tB=> ?_) (λ tB=> ?_)
    ·have aG8:(p == 1)=true:=by simpa using tB
     refine aG<|va Z<|bL Z<|hk<|cW<|hl Z Z Z<| ?_;exact ⟨by simp_all [sb,th,qB],(Ext.bM w)⟩
    ·have aG9:(p == 1)=false:=by simpa using tB
     refine gb<|cm<|br<|aG<|va Z<|bL Z<|hl Z Z Z<| ?_;exact ⟨by simp_all [sb,th,qB],(Ext.bM w)⟩
theorem qw (w0:World) (f:au) (P F A:Option Addr) (cu fa c b:Nat) (far:List Int) (l:List b4) (bg:ai) (p:ai) (w:World) (jL:Ext w0 w) (hf:f.a7=0) (bJ:bz.aQ 8 w0 P cu f.places) (aE:aO w b [γ f.wide,γ f.high, .slice P f.places.length cu,γ bg.x,γ bg.y, .slice F far.length fa, .slice A l.length c] 163 (0,0)) (hp: -500≤p.x∧p.x≤500∧ -500≤p.y∧p.y≤500):
  Calls prog 93 #[.pointer (a_ b), .agg #[γ p.x,γ p.y]] w (λ e w'=>e= .returned (γ (p.y * f.wide+p.x))∧Ext w w'):=by
 obtain ⟨g1,g2,g3,g4,g5,g6⟩:=au.g_ hf;refine cx (n:=16) func93 Z Z Z ?_;refine eW Z Z λ dn bw bm fO ag=> ?_;have dK:=J jL bm;refine aU Z<|aI<| ?_;refine du [(1,0),(6,0),(9,0)] [0,1,2,3,4,5,6,7,8,9,10,11] ?_;refine ax Z (λ _=>ar hB Z)<|cO Z Z ag aZ Z<|bn Z Z<|ax Z (λ _=>b1 Z)<|ax Z (λ _=>ar ZI Z)<|ax Z (λ _=>ar C6 Z)<| ?_;have aE:=aE.later bm;refine cO Z Z aE aZ Z<|ax Z (λ _=>zx Z Z (la ((by have:=aOy (show p.y≤500 by omega) g2 (by omega) (by omega);have:=aOy (show -p.y≤500 by omega) g2 (by omega) (by omega);rw [Int.neg_mul] at this;omega))))<|ax Z (λ _=>ar hz Z)<|cO Z Z ag aZ Z<|ax Z (λ _=>bad Z Z (la ((by have:=aOy (show p.y≤500 by omega) g2 (by omega) (by omega);have:=aOy (show -p.y≤500 by omega) g2 (by omega) (by omega);rw [Int.neg_mul] at this;omega))))<|ax Z (λ _=>eQ Z)<|fn λ fP d_=> ?_;refine br<|rt<|c' Z Z<| ?_;exact ⟨Z,J bm d_⟩
theorem Uq (w0:World) (f:au) (P F A:Option Addr) (cu fa c b:Nat) (far:List Int) (l:List b4) (bg:ai) (p:ai) (w:World) (jL:Ext w0 w) (hf:f.a7=0) (bJ:bz.aQ 8 w0 P cu f.places) (aE:aO w b [γ f.wide,γ f.high, .slice P f.places.length cu,γ bg.x,γ bg.y, .slice F far.length fa, .slice A l.length c] 163 (0,0)):
  Calls prog 91 #[.pointer (a_ b), .agg #[γ p.x,γ p.y]] w (λ e w'=>e= .returned (.tuple #[γ (oK f p), .bool (f.ground p)])∧Ext w w'):=by
 obtain ⟨g1,g2,g3,g4,g5,g6⟩:=au.g_ hf;refine cx (n:=28) func91 Z Z Z ?_;refine eW Z Z λ dn bw bm fO ag=> ?_;have dK:=J jL bm;refine va Z<|aU Z<|aI<| ?_;refine du [(3,0),(4,0),(5,0)] [0,1,2,3,4,5,6,7,8,9,10] ?_;refine bn Z Z<|ax Z (λ _=>b1 Z)<|ax Z (λ _=>ar ZI Z)<| ?_;have aE:=aE.later bm;refine cR Z (λ _ x=>aA Z ((aE.later x).par [γ f.wide,γ f.high, .slice P f.places.length cu] gZ gy Z))<|cR Z (λ _ x=>aA Z ((ag.later x).all b0 bs))<|q8 Z Z o8 Z (λ _ x=>p2 f p _ _ _ (bJ.keep (J dK x))) Z<|bn Z Z<|ax Z (λ _=>ex Z Z)<|ax Z (λ _=>ex Z Z)<|ax Z (λ _=>eQ Z)<|ax Z (λ _=>eQ Z)<|fn λ fP d_=> ?_;have b7:=J dK d_;refine br<|aI<|aN Z<|gJ Z Z<|aJ<| ?_;refine ob Z (λ hC=> ?_) (λ hC=> ?_)
 ·have Jw:=awZ hf hC;refine aG<|va Z<|bL Z<|cW<|hl Z Z Z<| ?_;exact ⟨by rw [Jw.1,Jw.2];rfl,J bm d_⟩
 ·have Jw:=awY hf hC;refine bF<|aN Z<|de aoB Z (apa (f.l6 p) _) λ xa eA=> ?_;refine vm Z<|b2 Z Z<|b2 Z Z<|va Z<|aU Z<|aN Z<|vm Z<|aa (beq Z Z)<|va Z<|bL Z<|hl Z Z Z<| ?_;exact ⟨by rw [Jw.1,Jw.2];rfl,J (J bm d_) eA⟩
theorem ae9 (p:ai) (w:World) (hp: -100000≤p.x∧p.x≤100000∧ -100000≤p.y∧p.y≤100000):
  Calls prog 92 #[.agg #[γ p.x,γ p.y]] w (λ e w'=>e= .returned (.agg #[γ p.x,γ (p.y - 1),γ (p.x - 1),γ p.y,γ (p.x+1),γ p.y,γ p.x,γ (p.y+1)])∧Ext w w'):=by
 refine cx (n:=28) func92 Z Z Z ?_;refine eW Z Z λ dn bw bm fO ag=> ?_;have ja:=ag.lt;refine dj aoC Z λ fP dI bD j8 aF=> ?_;have b7:=J bm bD;refine aJ<|aG<|aa (ar hz Z)<| ?_;have ag:=ag.later bD;refine bA Z ag aZ Z<|aa (ar hB Z)<|bA Z ag aZ Z<|aa (iH Z Z fN)<|aa (v:= .agg #[γ p.x,γ (p.y - 1)]) (ht Z)<|aa (ar hz Z)<|bA Z ag aZ Z<|aa (iH Z Z fN)<|aa (ar hB Z)<|bA Z ag aZ Z<|aa (v:= .agg #[γ (p.x - 1),γ p.y]) (ht Z)<|aa (ar hz Z)<|bA Z ag aZ Z<|fi Z Z<|aa (ar hB Z)<|bA Z ag aZ Z<|aa (v:= .agg #[γ (p.x+1),γ p.y]) (ht Z)<|aa (ar hz Z)<|bA Z ag aZ Z<|aa (ar hB Z)<|bA Z ag aZ Z<|fi Z Z<|aa (v:= .agg #[γ p.x,γ (p.y+1)]) (ht Z)<|aa (v:= .agg #[γ p.x,γ (p.y - 1),γ (p.x - 1),γ p.y,γ (p.x+1),γ p.y,γ p.x,γ (p.y+1)]) (ht Z)<| ?_;refine c6 Z Z aF Z ZL Z Z λ iM jM aF=> ?_;have c1:=Ext.mod b7 jM bE;refine tM<|dR (.cell Z (aF.all aoD ZL) .nil)<| ?_;exact ⟨Z,c1⟩
end
theorem p1 {P:Program} {n:Nat} {ops:Array Oper} {Q:Exit→Act→World→Prop} {aK:Nat→Nat} {ba:List Nat} {E:List (Nat×Value)} {w0:World} {i d:Nat} {op:Op} {ty:TypeId} {pos:String} {aW:Array Edge} {j:Nat} {q:Bool} {u:Value} {cI:Oper} {iU:Nat} (ak:ops[i]? =some ⟨some d,op,ty,pos,aW,some (j,q)⟩) (aj:Nat.ble (aK i) 1=true) (aw:ops[j]? =some cI) (oz:cI.dst=some iU) (af:look E iU=some (eb false u)) (hd:Nat.blt d n=true)
  (h:eD P n ops Q aK ba ((d,undef)::E) w0):eD P n ops Q aK (i::ba) E w0:=λ a ha=>by
 have κ:=ha.g _ _ af;simp only [eb,aNm,aNR] at κ;have hw:Region.wanted ⟨some d,op,ty,pos,aW,some (j,q)⟩ (yielded ops a.tmps)=false:=by simp [Region.wanted,yielded,aw,oz,κ,undef]
 have aj:=aNZ aj;rcases aNI 0 (aK i) with aB | aB
 ·exact ⟨_,ak, .inr (.inl ⟨by omega,undef, .inr ⟨hw,rfl⟩,h _ (ha.put hd _)⟩)⟩
 ·exact ⟨_,ak, .inl ⟨by omega,undef, .inr ⟨hw,rfl⟩,h _ (ha.put hd _)⟩⟩
theorem Ut (w0:World) (f:au) (P F A:Option Addr) (cu fa c b:Nat) (far:List Int) (l:List b4) (bg:ai) (p:ai) (d:Int) (w:World) (jL:Ext w0 w) (hf:f.a7=0) (bJ:bz.aQ 8 w0 P cu f.places) (aE:aO w b [γ f.wide,γ f.high, .slice P f.places.length cu,γ bg.x,γ bg.y, .slice F far.length fa, .slice A l.length c] 163 (0,0)) (af:w0.heap.size≤b) (A1:b4.rep.aL 225 32 w w0.heap.size (Φ.ab A) A c l) (NG:∀ q∈Φ.ab A,q=b→False) (dk:∀ y∈l,y.ok) (ay:l.length≤1000000) (hp: -500≤p.x∧p.x≤500∧ -500≤p.y∧p.y≤500) (aC: -500≤bg.x∧bg.x≤500∧ -500≤bg.y∧bg.y≤500) (hd:0≤d∧d≤100000):
  Calls prog 124 #[.pointer (a_ b), .agg #[γ p.x,γ p.y],γ d] w (λ e w'=>∃ bR cn,e= .returned (.tuple #[])∧aO w' b [γ f.wide,γ f.high, .slice P f.places.length cu,γ bg.x,γ bg.y, .slice F far.length fa, .slice bR ((cj.push b4.all l ⟨p,d,d+au.iW bg p⟩).length) cn] 163 (0,0)∧b4.rep.aL 225 32 w' w0.heap.size (Φ.ab bR) bR cn (cj.push b4.all l ⟨p,d,d+au.iW bg p⟩)∧(∀ q∈Φ.ab bR,q=b→False)∧(∀ q∈Φ.ab bR,q∈Φ.ab A∨w.heap.size≤q)∧Mod (b::Φ.ab A) w w'):=by
 have OO:=aE.lt;obtain ⟨g1,g2,g3,g4,g5,g6⟩:=au.g_ hf;have aGG:=iB (bg.x - p.x);have aGH:=iB (bg.y - p.y);refine cx (n:=32) func124 Z Z Z ?_;refine eW Z Z λ dn bw bm fO ag=> ?_;have dK:=(Mod.bM (b::Φ.ab A) w).trans (Mod.aP bm);have ja:=ag.lt;refine aJ<|aI<| ?_;refine du [(0,0),(4,0),(5,0)] [0,1,2,3,4,5,6,7,8,9,10,11,12] ?_;refine cR Z (λ _ x=>aA Z ((ag.later x).all b0 bs))<|bn Z Z<|ax Z (λ _=>b1 Z)<|ax Z (λ _=>ar ZM Z)<| ?_;have aE:=aE.later bm;refine cR Z (λ _ x=>aA Z ((aE.later x).par [γ bg.x,γ bg.y] b0 bs Z))<|q8 Z Z ZN Z (λ _ x=>XJ p bg _ (by omega) (by omega)) Z<|bn Z Z<|ax Z (λ _=>ex Z Z)<|ax Z (λ _=>ex Z Z)<|ax Z (λ _=>ex Z Z)<|ax Z (λ _=>eQ Z)<|ax Z (λ _=>eQ Z)<|ax Z (λ _=>eQ Z)<|fn λ fP d_=> ?_;have:=d_.size;have b7:=dK.trans (Mod.aP d_);refine br<| ?_;refine du [(4,0),(12,3)] [0,1,2,3,4,5,6,7,8,9,10,11,12] ?_;refine bn Z Z<|ax Z (λ _=>b1 Z)<|ax Z (λ _=>ar C7 Z)<|ax Z (λ _=>Gz (λ w=>by kernel_rfl) Z)<| ?_;have ag:=ag.later d_;refine cR Z (λ _ x=>aA Z ((ag.later x).all b0 bs))<|bn Z Z<|bn Z Z<|bn Z Z<|ax Z (λ _=>zx Z Z fN)<|ax Z (λ _=>bad Z Z fN)<|ki (v:= .agg #[γ p.x,γ p.y,γ d,γ (d+(2 * (cf (bg.x - p.x)+cf (bg.y - p.y))))]) Z Z (λ _=>gO Z (by kernel_rfl)) Z<|ax Z (λ _=>Gz (λ w=>by kernel_rfl) Z)<| ?_;have A1:=A1.later (J bm d_);have aE:=aE.later d_;refine dA Z Z Z λ w_ gK Q hK=>ca aoE Z Z ((aA5 b A c w0.heap.size l (γ f.wide) (γ f.high) (.slice P f.places.length cu) (γ bg.x) (γ bg.y) (.slice F far.length fa) ((⟨⟨p.x,p.y⟩,d,d+(2 * (cf (bg.x - p.x)+cf (bg.y - p.y)))⟩:b4)) _ (aE.later gK) (A1.later gK) dk NG ⟨cH.2 (by dsimp only;omega),cH.2 (by dsimp only;omega),cH.2 (by dsimp only;omega),cH.2 (by dsimp only;omega)⟩ ay (by have:=gK.size;omega)).mono ?_);rintro e iM ⟨Wk,Yf,rfl,Qa,Qk,abj,avc⟩;refine ⟨_,Z,hK _ _ ?_⟩;have:=gK.size;have ku:=b7.trans (Mod.aP gK);have c1:=ku.md avc (λ q I=> .inl I);refine fn λ qE kI=> ?_;have lX:=c1.trans (Mod.aP kI);refine ne<|dR .nil<| ?_;have Qk:=Qk.later kI;have Qa:=Qa.later kI;exact ⟨Wk,Yf,Z,Qa,Qk,λ q I af=>by exfalso;(exact aMS (abj q I) (λ acv=>by (exact NG q acv af)) (λ acv=>by omega)),λ q I=>(abj q I).imp id λ h=>by omega,lX⟩
end Go.Proofs.YthlpmldmhakhaaaGreatDoor
