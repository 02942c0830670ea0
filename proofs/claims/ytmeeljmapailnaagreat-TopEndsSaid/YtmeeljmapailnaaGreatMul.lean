import Derived.Test.YtmeeljmapailnaaGreatFlM
import Derived.Shelf.Bits.Mul64
set_option linter.unusedVariables false
set_option linter.unusedSimpArgs false
set_option maxRecDepth 100000
set_option maxHeartbeats 4000000
open Go.RowKit
namespace Go.Proofs.YtmeeljmapailnaaGreat
open Tryz
abbrev aYe:=@Go.Lib.hid
abbrev aYC:=@Or.elim
abbrev aZb:=@congrArg
abbrev aZP:=@Bool.not_eq_false'
abbrev bae:=@Int.lt_or_le
abbrev bag:=@beq_eq_false_iff_ne
abbrev bcm:=@Nat.div_eq_of_lt
abbrev bcs:=@Go.bodyPost_ret
section
variable {j:Nat}
theorem acJ {β:Type} {cur old part:List β} {p s:Nat} (bK:old.length=s) (ay:j+part.length≤s) (hc:p+s≤cur.length) (h:∀ m,m<s→cur[p+m]? =old[m]?):
  cur.take p++(old.take j++part++old.drop (j+part.length))++cur.drop (p+(old.take j++part++old.drop (j+part.length)).length)=cur.take (p+j)++part++cur.drop (p+j+part.length):=by
 have ah:(old.take j++part++old.drop (j+part.length)).length=s:=by simp only [aX9,aYa,aYs];omega
 rw [ah];apply aZW;intro k;by_cases κ:k<p
 ·rw [aYK,aYw (by rw [aYa];omega),aYK,aYw (by rw [aYa];omega),aYO,aYO,aYq κ,aYq (by omega)]
 ·by_cases τ:k<p+s
  ·rw [aYK,aYy (by rw [aYa];omega),aYw (by rw [ah,aYa];omega),aYa];obtain ⟨m,rfl⟩:∃ m,k=p+m:=⟨k - p,by omega⟩;rw [show p+m - min p cur.length=m from by omega];by_cases au:m<j
   ·rw [aYK,aYw (by rw [aYa];omega),aYK,aYw (by rw [aYa];omega),aYO,aYO,aYq au,aYq (by omega),h m (by omega)]
   ·by_cases aU:m<j+part.length
    ·rw [aYK,aYy (by rw [aYa];omega),aYw (by rw [aYa];omega),aYK,aYy (by rw [aYa];omega),aYw (by rw [aYa];omega),aYa,aYa];congr 1;omega
    ·rw [aYy (by simp only [aX9,aYa];omega),aZk,aYy (by simp only [aX9,aYa];omega),aZk];simp only [aX9,aYa];rw [show p+j+part.length+(p+m - (min (p+j) cur.length+part.length))=p+m from by omega,h m (by omega)];congr 1;omega
  ·rw [aYy (by simp only [aX9,aYa,aYs];omega),aZk,aYy (by simp only [aX9,aYa];omega),aZk];simp only [aX9,aYa,aYs];congr 1;omega
section
variable {P:Program} {n:Nat} {E cW:List (Nat×Value)} {a:Act} {w w' w0 w1:World} {Q:Exit→Act→World→Prop} {ops:Array Oper} {v:Value}
variable {d:Option Nat} {ty:TypeId} {pos:String} {af:Array Edge} {g:Option (Nat×Bool)} {x y z:Operand} {t:TypeId} {rest:List Oper}
theorem aJD {α:Type} {R:J α} {e by_ B i:Nat} {A:Option Addr} {c:Nat} {l:List α} {q q':α} {p:Addr} {old part es:List Value} (h:R.aF e by_ w B (J.ab A) A c l) (hR:R.rV) (hi:l[i]? =some q) (hold:∀ {w cs},R.has w cs q→cs=old) (hx:ev E x=some (.pointer (some p))) (hp:p=⟨fN A,mA A+i * R.size+j,none⟩) (aE:ev E y=some v) (hc:v.cells=part.toArray)
  (ay:Nat.ble (j+part.length) R.size=true) (C1:es=old.take j++part++old.drop (j+part.length)) (I:∀ w,R.has w es q') (hs:eS P t part.length)
  (ak:∀ w1,Mod (J.ab A) w w1→R.aF e by_ w1 B (J.ab A) A c (l.set i q')→cg P n ops Q rest E w1):cg P n ops Q (⟨none, .store t x y,ty,pos,af,none⟩::rest) E w:=by
 have A':i<l.length:=(aX8.1 hi).1;obtain ⟨b,rfl⟩:=h.block (by omega);have OV:p=⟨b,i * R.size+j,none⟩:=by rw [hp];simp [fN,mA]
 subst OV;obtain ⟨_,ps,_,_,bK,_⟩:=id h;obtain ⟨cur,vY,_,_⟩:=bK.agL;obtain ⟨xF,hle⟩:=J.aF.aoM (q':=q') h hR A' I vY;obtain ⟨qM,Lq,H3,fX⟩:=h.has.at_ (by omega);injection H3 with H3
 injection H3 with dc bI
 subst dc bI;obtain ⟨Kp,aj8,kD⟩:=fX i q hi;obtain rfl:=hold aj8;have aCG:Kp.length=R.size:=R.len aj8;have aku:es.length=R.size:=R.len (I w);have OK:=aZ4 ay;have oc:∀ m,m<R.size→cur.toList[i * R.size+m]? =Kp[m]? :=λ m hm=>by
  have hu:Kp[m]? =some Kp[m]:=aYb (by omega);have:=kD m Kp[m] hu;rw [hu];simpa [World.cell?,vY] using this
 have aDq:=acJ (cur:=cur.toList) (old:=Kp) (part:=part) (p:=i * R.size) (s:=R.size) (j:=j) aCG OK (by rw [aku] at hle;exact hle) oc;have mT:part.all (·.oneCell')=true:=aYW.2 λ u hu=>R.one (I w) u (by rw [C1];simp [hu]);have g_:=ade (P:=P) (w:=w) (b:=b) (p:=i * R.size+j) (cur:=cur.toList) (e:=e) (by simpa [aM] using vY) hc hs mT (by rw [aku] at hle;omega);rw [← aDq,← C1] at g_;refine us (λ n a ha=> ?_) (ak _ (Mod.setRow w b _) xF);simp only [execOp,ha.ev hx,ha.ev aE,Instr.storeAt,Instr.sureAddr,aYt,aYu,aYj,g_]
end
end
section
variable {f:FuncId} {name:String} {ts:Array TypeId} {args:List Value}
section
variable {P:Program} {n:Nat} {E:List (Nat×Value)} {w w':World} {Q:Exit→Act→World→Prop} {ops:Array Oper} {ty:TypeId} {pos:String} {af:Array Edge} {rest:List Oper} {x y z:Operand} {t u:TypeId} {v lv:Value} {d:Option Nat} {g:Option (Nat×Bool)}
def Ew (P:Program) (w:World) (t:TypeId) (v:Value) (name:String) (f:FuncId) (lv:Value):Prop:=(Go.method (P.types.size+Made.depth) t v name).run P w= .ok (f,lv) w
theorem aoD (hf:Enters P f) {xs:Array Operand} {a:Act} (ha:fj n E a) (hr:ev E x=some (.iface t v)) (he:hL E xs.toList=some args) (hm:Ew P w t v name f lv):
  (execOp a.eval ⟨d, .call {callee:= .invoke x name,args:=xs,argTypes:=ts},ty,pos,af,g⟩).run P w= .ok (.enter f (lv::args).toArray) w:=by
 obtain ⟨fn,κ,τ,au⟩:=hf;have hx:xs.map a.eval=args.toArray:=by rw [← ha.hL he];apply aZK;simp
 unfold Ew at hm;have e0:(#[(Value.iface t v)]++args.toArray)[0]? =some (.iface t v):=by simp
 have aW:(#[(Value.iface t v)]++args.toArray).extract 1 (#[(Value.iface t v)]++args.toArray).size=args.toArray:=by simp
 have bb:#[lv]++args.toArray=(lv::args).toArray:=by simp
 have hp:Sem.run P program w= .ok P w:=rfl;simp only [execOp,resolve,hx,ha.ev hr,aYt,aYu,aYj,invoke,e0,aW,callMethod,callFunc,hp,hm,κ,τ,au,bb,aY8,aZI]
theorem ih {d:Nat} (hf:Enters P f) {xs:Array Operand} (hr:ev E x=some (.iface t v)) (he:hL E xs.toList=some args) (hm:Ew P w t v name f lv) (hd:Nat.blt d n=true)
  (h:Calls P f (lv::args).toArray w λ e w'=>∃ v,e= .returned v∧cg P n ops Q rest ((d,v)::E) w'):cg P n ops Q (⟨some d, .call {callee:= .invoke x name,args:=xs,argTypes:=ts},ty,pos,af,none⟩::rest) E w:=λ a ha=>by
 refine Hm Z ?_;unfold Oper.wp;rw [aoD hf ha hr he hm];refine bcl h λ e w' eI=> ?_;obtain ⟨v,rfl,h⟩:=eI;exact h _ (ha.put hd v)
theorem alz {d:Nat} {xs:Array Operand} {j:Nat} {q b c:Bool} {dF:Oper} {jV:Nat} {v0:Value} (ay:ops[j]? =some dF) (oJ:dF.dst=some jV) (ag:look E jV=some (.bool b)) (hc:(b == q)=c)
  (hf:Enters P f) (hx:c=true→ev E x=some (.iface t v0)) (he:c=true→hL E xs.toList=some args) (hm:Ew P w t v0 name f lv) (hr:c=true→Calls P f (lv::args).toArray w λ e w'=>e= .returned v∧Ext w w') (hd:Nat.blt d n=true)
  (h:∀ w',Ext w w'→cg P n ops Q rest ((d,gQ c v)::E) w'):cg P n ops Q (⟨some d, .call {callee:= .invoke x name,args:=xs,argTypes:=ts},ty,pos,af,some (j,q)⟩::rest) E w :=
 Wa (c:=c) (λ a ha=>by rw [Gw (o:=⟨some d,_,ty,pos,af,some (j,q)⟩) rfl ay oJ ag ha,hc])
  (λ hc a ha=>by unfold Oper.wp;rw [aoD hf ha (hx hc) (he hc) hm];exact (hr hc).mono λ e w' ⟨κ,aDT⟩=>by subst κ;subst hc;exact h w' aDT _ (ha.put hd v)) (λ hc a ha=>by subst hc;exact h w (Ext.cH w) _ (ha.put hd undef))
theorem UT (hr:∀ w,(Instr.makeInterface t v).run P w= .ok (.iface t v) w) (hx:ev E x=some v):c9 P E ⟨d, .makeInterface t x,ty,pos,af,g⟩ w (.iface t v) w:=λ n a ha=>by
 simp only [execOp,ha.ev hx,aYt,hr w,aYj,aYu]
theorem apw {t':TypeId} (hr:∀ w,(Instr.typeAssert (.iface t v) t' t false).run P w= .ok v w) (hx:ev E x=some (.iface t v)):c9 P E ⟨d, .typeAssert x t' t false,ty,pos,af,g⟩ w v w:=λ n a ha=>by
 simp only [execOp,ha.ev hx,aYt,hr w,aYj,aYu]
theorem Bo {e:TypeId} {p:Addr} (h:(Go.method (P.types.size+Made.depth) t (.pointer (some p)) name).run P w=(loadVar e p >>= λ x=>pure (f,x)).run P w) (ah:mL P w e p v):Ew P w t (.pointer (some p)) name f v:=by
 unfold Ew;unfold mL at ah;rw [h];simp only [aYt,ah,aYj,aYu]
end
end
section
variable {j:Nat}
namespace cv
section
variable {α:Type} [Inhabited α] {key:α→Int} {lm l:List α} {m N n:Nat}
theorem aKV (h:(((((m - 1) / 2:Nat):Int)== (m:Int)) || !decide (key (lm.getD m default)<key (lm.getD ((m - 1) / 2) default)))=true):rE key lm m=lm:=by
 unfold rE;rw [aYi];rintro ⟨κ,τ⟩;simp only [aYZ,aZf,aZv,aYI] at h;rcases h with h | h
 ·omega
 ·exact h τ
theorem aKW (h:(((((m - 1) / 2:Nat):Int)== (m:Int)) || !decide (key (lm.getD m default)<key (lm.getD ((m - 1) / 2) default)))=false):0<m∧rE key lm m=rE key (swp lm ((m - 1) / 2) m) ((m - 1) / 2):=by
 simp only [aYM,bag,aZP,aYB] at h;have hm:0<m:=by
  rcases baO m with aG | aG
  ·subst aG;exact absurd Z h.1
  ·exact aG
 refine ⟨hm, ?_⟩
 conv=>lhs;unfold rE
 rw [aYq ⟨hm,h.2⟩]
theorem axc (h:(decide ((N:Int)≤2 * (m:Int)+1) || decide (2 * (m:Int)+1<0))=true):la key N l m=l:=by
 unfold la;rw [aYi];simp only [aYZ,aYB] at h;omega
theorem axd (h:(decide ((N:Int)≤2 * (m:Int)+1) || decide (2 * (m:Int)+1<0))=false):2 * m+1<N:=by
 simp only [aYM,aYI] at h;omega
theorem aFR (h:(decide (2 * (m:Int)+1+1<(N:Int)) && decide (key (l.getD (2 * m+1+1) default)<key (l.getD (2 * m+1) default)))=true):pn key N l m=2 * m+2:=by
 simp only [aYl,aYB] at h;unfold pn;rw [aYq ⟨by omega,h.2⟩]
theorem aFP {q:Bool} (h:(decide (2 * (m:Int)+1+1<(N:Int)) && q)=true):2 * m+2<N:=by
 simp only [aYl,aYB] at h;omega
theorem aFQ (h:(decide (2 * (m:Int)+1+1<(N:Int)) && decide (key (l.getD (2 * m+1+1) default)<key (l.getD (2 * m+1) default)))=false):pn key N l m=2 * m+1:=by
 unfold pn;rw [aYi];rintro ⟨κ,τ⟩;rw [aYD (show 2 * (m:Int)+1+1<(N:Int) by omega),aYD (show key (l.getD (2 * m+1+1) default)<key (l.getD (2 * m+1) default) from τ)] at h;cases h
theorem ahH (κ:2 * m+1<N) (ah:pn key N l m=j) (h:(!decide (key (l.getD j default)<key (l.getD m default)))=true):la key N l m=l:=by
 unfold la;rw [aYi];rw [ah];rintro ⟨_,τ⟩;rw [aYD τ] at h;cases h
theorem ahI (κ:2 * m+1<N) (ah:pn key N l m=j) (h:(!decide (key (l.getD j default)<key (l.getD m default)))=false):la key N l m=la key N (swp l m j) j:=by
 conv=>lhs;unfold la
 rw [ah,aYq ⟨κ,by simpa using h⟩]
end
end cv
theorem aKf (m:Nat):Int.tdiv ((m:Int) - 1) 2=(((m - 1) / 2:Nat):Int):=by
 cases m with
 | zero=>rfl
 | succ m =>
  rw [show ((m+1:Nat):Int) - 1=(m:Int) by omega,bcD (by omega)];simp
section
variable {P:Program} {n:Nat} {E:List (Nat×Value)} {w:World} {ty:TypeId} {pos:String} {af:Array Edge} {x y:Operand} {t u:TypeId} {d:Option Nat} {g:Option (Nat×Bool)}
theorem au7 {k:IntKind} {i j r:Int} (hx:ev E x=some (.int k i)) (aE:ev E y=some (.int k j)) (κ:j≠0) (hr:Int.tdiv i j=r) (hw:k.wrap r=r):c9 P E ⟨d, .binOp .quo t x y u,ty,pos,af,g⟩ w (.int k r) w:=qo hx aE (binOp_quo t k i j) (by
 subst hr;have:Op.intDiv .quo k i j=pure (.int k (Int.tdiv i j)):=by simp [Op.intDiv,κ,hw]
 rw [this];rfl)
end
end
theorem atx:ez prog cw.rep 247 304 32:=ez.ki (z:=cw.zero) (k:=4) underlying247 cw.info rfl rfl (by decide) cw.j8
theorem H9 {w:World} {cs:List Value} {a:cw} (h:cw.rep.has w cs a):cs=a.cells:=bas (show cs=a.cells∧a.ok from h)
theorem Qv (A:Option Addr) (n c:Nat) (w:World):
  Calls prog 185 #[.slice A n c] w (λ e w'=>e= .returned (Φ (n:Int))∧Ext w w'):=by
 refine ch (n:=5) func185 Z Z Z ?_;refine aw<|aJ Z<|aB Z<|aa (b5 underlying247 Z)<|aY Z<|b_ Z Z<| ?_;exact ⟨Z,(Ext.cH w)⟩
theorem Wh (A:Option Addr) (n c:Nat) (l:List cw) (i j:Int) (p q:Nat) (w:World) (ah:cw.rep.aK 32 w A c l) (hn:l.length=n) (hi:i=(p:Int)) (ay:j=(q:Int)) (hp:p<n) (I:q<n):
  Calls prog 210 #[.slice A n c,Φ i,Φ j] w (λ e w'=>e= .returned (.bool (decide ((l.getD p default).all<(l.getD q default).all)))∧Ext w w'):=by
 refine ch (n:=18) func210 Z Z Z ?_;refine aw<|aJ Z<|av<| ?_;refine cO [(4,0),(9,0)] [0,1,2,3,4,5,6,7,8,9,10,11] ?_;refine a1 Z Z<|a1 Z Z<|aq Z (λ _=>cl i.toNat underlying247 p_ Z Z ((ah.keep (Ext.cH w)).bT (aV i.toNat)) (by omega) (by omega))<|aq Z (λ _=>aj S0 Z)<|dT Z (λ _ x=>ax Z (J.aK.lg H9 ((ah.keep (γ (Ext.cH w) x)).cD (aV i.toNat)) 3 (dt (l:=l) (u:=default) (by omega)) Z aT))<|a1 Z Z<|a1 Z Z<|aq Z (λ _=>cl j.toNat underlying247 p_ Z Z ((ah.keep (Ext.cH w)).bT (aV j.toNat)) (by omega) (by omega))<|aq Z (λ _=>aj S0 Z)<|dT Z (λ _ x=>ax Z (J.aK.lg H9 ((ah.keep (γ (Ext.cH w) x)).cD (aV j.toNat)) 3 (dt (l:=l) (u:=default) (by omega)) Z aT))<|aq Z (λ _=>blt Z Z)<|aq Z (λ _=>ee Z)<|fn λ cG dS=> ?_;refine aX<|rt<|b_ Z Z<| ?_;subst hi ay;exact ⟨by simp only [aY2];rfl,dS⟩
theorem Wi (A:Option Addr) (n c aA:Nat) (l:List cw) (i j:Int) (p q:Nat) (w:World) (bq:cw.rep.aF 304 32 w aA (J.ab A) A c (l)) (di:∀ y∈l,y.ok) (hn:l.length=n) (hi:i=(p:Int)) (ay:j=(q:Int)) (hp:p<n) (I:q<n):
  Calls prog 211 #[.slice A n c,Φ i,Φ j] w (λ e w'=>e= .returned (.tuple #[])∧cw.rep.aF 304 32 w' aA (J.ab A) A c (cv.swp l p q)∧Mod (J.ab A) w w'):=by
 refine ch (n:=20) func211 Z Z Z ?_;refine cO [(7,0),(11,0),(13,3),(15,3)] [0,1,2,3,4,5,6,7,8,9,10,11,12,13,14,15] ?_;refine a1 Z Z<|a1 Z Z<|a1 Z Z<|a1 Z Z<|a1 Z Z<|a1 Z Z<|aq Z (λ _=>cl j.toNat underlying247 p_ Z Z (bq.has.bT (aV j.toNat (by first | omega | (rw [aYn];omega)))) (by omega) (by first | omega | (rw [aYn];omega)))<|dT Z (λ _ x=>ax Z (J.aK.iu H9 ((bq.later x).has.cD (aV j.toNat (by first | omega | (rw [aYn];omega)))) (dt (l:=l) (u:=default) (by first | omega | (rw [aYn];omega))) SE p_))<|a1 Z Z<|a1 Z Z<|aq Z (λ _=>cl i.toNat underlying247 p_ Z Z (bq.has.bT (aV i.toNat (by first | omega | (rw [aYn];omega)))) (by omega) (by first | omega | (rw [aYn];omega)))<|dT Z (λ _ x=>ax Z (J.aK.iu H9 ((bq.later x).has.cD (aV i.toNat (by first | omega | (rw [aYn];omega)))) (dt (l:=l) (u:=default) (by first | omega | (rw [aYn];omega))) SE p_))<|aq Z (λ _=>cl i.toNat underlying247 p_ Z Z (bq.has.bT (aV i.toNat (by first | omega | (rw [aYn];omega)))) (by omega) (by first | omega | (rw [aYn];omega)))<|dE Z Z Z λ cG dS Q hK=>P' (q':=l.getD j.toNat default) (i:=i.toNat) (bq.later dS) J.dQ (by first | omega | (rw [aYn];omega)) Z Z Z Z (λ _=>⟨Z,(di _ (jk (by omega)))⟩) p_ λ ap7 Bl RJ=>hK _ _ ?_;have de:=(Mod.cH (J.ab A) w).trans (Mod.a8 dS);have QO:=de.md Bl (λ q I=> .inl I);refine aq Z (λ _=>cl j.toNat underlying247 p_ Z Z (RJ.has.bT (aV j.toNat (by first | omega | (rw [aYn];omega)))) (by omega) (by first | omega | (rw [aYn];omega)))<|dE Z Z Z λ uf bt Q hK=>P' (q':=l.getD i.toNat default) (i:=j.toNat) (RJ.later bt) J.dQ (by first | omega | (rw [aYn];omega)) Z Z Z Z (λ _=>⟨Z,(di _ (jk (by omega)))⟩) p_ λ wC Ld He=>hK _ _ ?_;have jN:=QO.trans (Mod.a8 bt);have k2:=jN.md Ld (λ q I=> .inl I);refine fn λ Gq qx=> ?_;have m4:=k2.trans (Mod.a8 qx);refine ne<|cz .nil<| ?_;have He:=He.later qx;subst hi ay;simp only [aY2] at He;exact ⟨Z,He,m4⟩
theorem aMb (b:Nat) (A:Option Addr) (n c aA:Nat) (l:List cw) (v0 v1 v2 v3 v4 v5:Value) (j:Nat) (w:World) (aI:aM w b [v0,v1,v2,v3,v4,v5, .slice A n c] 249 (0,0)) (bq:cw.rep.aF 304 32 w aA (J.ab A) A c (l)) (di:∀ y∈l,y.ok) (hn:l.length=n) (hd:∀ q∈J.ab A,q=b→False) (ay:j<n):
  Calls prog 192 #[.iface 302 (.pointer (some ⟨b,6,none⟩)),Φ (j:Int)] w (λ e w'=>e= .returned (.tuple #[])∧aM w' b [v0,v1,v2,v3,v4,v5, .slice A n c] 249 (0,0)∧cw.rep.aF 304 32 w' aA (J.ab A) A c (cv.rE cw.all l j)∧Mod (J.ab A) w w'):=by
 have TX:=bq.has.fa;refine ch (n:=23) func192 Z Z Z ?_;refine bJ<| ?_;refine eV (λ cp cn aP=>∃ lm:List cw,∃ m:Nat,cn= [(0, .iface 302 (.pointer (some ⟨b,6,none⟩))),(1,Φ (m:Int))]∧cp=(2 * m)∧Mod (J.ab A) w aP∧aM aP b [v0,v1,v2,v3,v4,v5, .slice A n c] 249 (0,0)∧cw.rep.aF 304 32 aP aA (J.ab A) A c (lm)∧(m<n)∧(lm.length=n)∧(∀ y∈lm,y.ok)∧(cv.rE cw.all lm m=cv.rE cw.all l j)∧(∀ q∈J.ab A,q=b→False)) _ _ ⟨l,j,Z,Z,(Mod.cH (J.ab A) w),aI,bq,by omega,by omega,di,rfl,hd⟩ (qp Z) ?_;rintro Lk JJ l9 ⟨lm,m,rfl,rfl,fb,aI,k6,hm,aCF,Il,od,Hw⟩;refine bJ<|aB Z<|aa (kx Z Z gD)<|aa (au7 (r:=(((m - 1) / 2:Nat):Int)) Z Z (by decide) (aKf m) gD)<|aJ Z<|av<|aB Z<|vm Z<|aa (beq Z Z)<|vm Z<|ec Z Z<|ec Z Z<|ec Z Z<|alz Z Z Z Z SI (λ hc=>(gt hc Z)) (λ hc=>gp (gt hc Z) (gp (gt hc Z) Z)) (Bo (e:= 247) (by kernel_rfl) (aI.one qR Z)) (λ hc=>Wh _ _ _ lm (m:Int) ((((m - 1) / 2:Nat):Int)) m ((m - 1) / 2) _ k6.has (by omega) (by omega) (by omega) (by first | omega | (simp only [bn] at hc;omega)) (by first | omega | (simp only [bn] at hc;omega))) Z λ eC dm=> ?_;have bO:=fb.trans (Mod.a8 dm);refine bh Z (λ hc=>dJ (gt hc Z))<|aa (eW Z Z Z Z)<|aC<| ?_;refine du Z (λ hz=> ?_) (λ hz=> ?_)
 ·have hex:=cv.aKV (key:=cw.all) hz;rw [hex] at od;refine dn<|dk<|Qu Z<|dG<|dj<|ne<|cz .nil<| ?_;have k6:=k6.later dm;have aI:=aI.later dm;exact ⟨Z,aI,by rw [← od];exact k6,bO⟩
 ·obtain ⟨Ig,xD⟩:=cv.aKW (key:=cw.all) hz;refine bm<|aB Z<|vm Z<|vm Z<| ?_;have aI:=aI.later dm;have k6:=k6.later dm;refine ih SJ Z Z (Bo (e:= 247) (by kernel_rfl) (aI.one qR Z)) Z ((Wi _ _ _ _ lm ((((m - 1) / 2:Nat):Int)) (m:Int) ((m - 1) / 2) m _ k6 Il (by omega) (by omega) (by omega) (by omega) (by omega)).mono ?_);rintro e L0 ⟨rfl,JY,sv⟩;refine cu ?_;have yk:=bO.md sv (λ q I=> .inl I);have aC1:∀ y∈cv.swp lm ((m - 1) / 2) m,y.ok:=λ y aE=>Il y ((cv.Ga (by omega) (by omega)).subset aE);have aCA:(cv.swp lm ((m - 1) / 2) m).length=n:=by rw [cv.nQ];omega
  refine aC<|rg<|vm Z<|va Z<|nl<|b1<| ?_;have aI:=aI.mod sv (λ I=>Hw _ I rfl);exact eJ ⟨cv.swp lm ((m - 1) / 2) m,(m - 1) / 2,Z,Z,yk,aI,JY,by omega,aCA,aC1,xD.symm.trans od,Hw⟩
theorem aL6 (b:Nat) (A:Option Addr) (n c aA:Nat) (l:List cw) (v0 v1 v2 v3 v4 v5:Value) (i N:Nat) (w:World) (aI:aM w b [v0,v1,v2,v3,v4,v5, .slice A n c] 249 (0,0)) (bq:cw.rep.aF 304 32 w aA (J.ab A) A c (l)) (di:∀ y∈l,y.ok) (hn:l.length=n) (hd:∀ q∈J.ab A,q=b→False) (hi:i<n) (uO:N≤n) (TF:n≤1000000):
  Calls prog 193 #[.iface 302 (.pointer (some ⟨b,6,none⟩)),Φ (i:Int),Φ (N:Int)] w (λ e w'=>(∃ v,e= .returned (.bool v))∧aM w' b [v0,v1,v2,v3,v4,v5, .slice A n c] 249 (0,0)∧cw.rep.aF 304 32 w' aA (J.ab A) A c (cv.la cw.all N l i)∧Mod (J.ab A) w w'):=by
 refine ch (n:=48) func193 Z Z Z ?_;refine aw<|aJ Z<|aB Z<|aJ Z<|av<|bJ<| ?_;refine eV (λ cp cn aP=>∃ lm:List cw,∃ m:Nat,cn= [(0, .iface 302 (.pointer (some ⟨b,6,none⟩))),(1,Φ (i:Int)),(2,Φ (N:Int)),(6, .bool false),(7,Φ (m:Int))]∧cp=N - m∧Mod (J.ab A) w aP∧aM aP b [v0,v1,v2,v3,v4,v5, .slice A n c] 249 (0,0)∧cw.rep.aF 304 32 aP aA (J.ab A) A c (lm)∧(m<n)∧(lm.length=n)∧(∀ y∈lm,y.ok)∧(cv.la cw.all N lm m=cv.la cw.all N l i)∧(∀ q∈J.ab A,q=b→False)) _ _ ⟨l,i,Z,Z,(Mod.cH (J.ab A) w),aI,bq,by omega,by omega,di,rfl,hd⟩ (qp Z) ?_;rintro Lk JJ l9 ⟨lm,m,rfl,rfl,fb,aI,k6,hm,aCF,Il,od,Hw⟩;refine bJ<|aB Z<|aa (ER Z Z gD)<|gx Z Z<|aJ Z<|av<|aB Z<|vm Z<|aa (jg Z Z)<|vm Z<|ec Z Z<|bh Z (λ hc=>blt (gt hc Z) Z)<|aa (eW Z Z Z Z)<|aC<| ?_;refine du Z (λ gg=> ?_) (λ gg=> ?_)
 ·have hex:=cv.axc (key:=cw.all) (l:=lm) gg;rw [hex] at od;refine dn<|dk<|Qu Z<|dG<|dj<|aX<|aB Z<|vm Z<|aa (gO Z Z)<|aY Z<|b_ Z Z<| ?_
  skip
  exact ⟨⟨_,Z⟩,aI,by rw [← od];exact k6,fb⟩
 ·have uR:=cv.axd gg;refine bm<|aB Z<|aJ Z<|av<|aB Z<|gx Z Z<|aJ Z<|aB Z<|vm Z<|dR Z Z<|vm Z<|ec Z Z<|ec Z Z<| ?_;refine ec Z Z<|alz Z Z Z Z SI (λ hc=>(gt hc Z)) (λ hc=>gp (gt hc Z) (gp (gt hc Z) Z)) (Bo (e:= 247) (by kernel_rfl) (aI.one qR Z)) (λ hc=>Wh _ _ _ lm (((2 * (m:Int))+1)+1) ((2 * (m:Int))+1) (((2 * m)+1)+1) ((2 * m)+1) _ k6.has (by omega) (by omega) (by omega) (by first | omega | (simp only [bn] at hc;omega)) (by first | omega | (simp only [bn] at hc;omega))) Z λ uf bt=> ?_;have jN:=fb.trans (Mod.a8 bt);refine aa (ei Z Z Z Z)<|aC<| ?_;refine du Z (λ oI=> ?_) (λ oI=> ?_)
  ·have kd:=cv.aFR (key:=cw.all) (l:=lm) (m:=m) oI;have ajQ:=cv.aFP oI;refine rg<|vm Z<|aJ Z<|av<|aB Z<|vm Z<|vm Z<| ?_;have aI:=aI.later bt;have k6:=k6.later bt;refine ih SI Z Z (Bo (e:= 247) (by kernel_rfl) (aI.one qR Z)) Z ((Wh _ _ _ lm (((2 * (m:Int))+1)+1) (m:Int) (((2 * m)+1)+1) m _ k6.has (by omega) (by omega) (by omega) (by first | omega | (simp only [bn] at hc;omega)) (by first | omega | (simp only [bn] at hc;omega))).mono ?_);rintro e BF ⟨rfl,iy⟩;refine cu ?_;have hZ:=jN.trans (Mod.a8 iy);refine aa (dJ Z)<|aC<| ?_;refine du Z (λ q0=> ?_) (λ q0=> ?_)
   ·have hex:=cv.ahH (key:=cw.all) uR kd q0;rw [hex] at od;refine dn<|dk<|Qu Z<|dG<|dj<|aX<|aB Z<|vm Z<|aa (gO Z Z)<|aY Z<|b_ Z Z<| ?_
    skip
    have k6:=k6.later iy;have aI:=aI.later iy;exact ⟨⟨_,Z⟩,aI,by rw [← od];exact k6,hZ⟩
   ·have xD:=cv.ahI (key:=cw.all) uR kd q0;refine bm<|aB Z<|vm Z<|vm Z<| ?_;have aI:=aI.later iy;have k6:=k6.later iy;refine ih SJ Z Z (Bo (e:= 247) (by kernel_rfl) (aI.one qR Z)) Z ((Wi _ _ _ _ lm (m:Int) (((2 * (m:Int))+1)+1) m (((2 * m)+1)+1) _ k6 Il (by omega) (by omega) (by omega) (by omega) (by omega)).mono ?_);rintro e Gr ⟨rfl,Nc,tK⟩;refine cu ?_;have mF:=hZ.md tK (λ q I=> .inl I);have aC2:∀ y∈cv.swp lm m (((2 * m)+1)+1),y.ok:=λ y aE=>Il y ((cv.Ga (by omega) (by omega)).subset aE);have aCB:(cv.swp lm m (((2 * m)+1)+1)).length=n:=by rw [cv.nQ];omega
    refine aC<|rg<|vm Z<|va Z<|nl<|b1<| ?_;have aI:=aI.mod tK (λ I=>Hw _ I rfl);exact eJ ⟨cv.swp lm m (((2 * m)+1)+1),2 * m+2,Z,Z,mF,aI,Nc,by omega,aCB,aC2,xD.symm.trans od,Hw⟩
  ·have kd:=cv.aFQ (key:=cw.all) (l:=lm) (m:=m) oI;refine bm<|av<|aB Z<|vm Z<|vm Z<| ?_;have aI:=aI.later bt;have k6:=k6.later bt;refine ih SI Z Z (Bo (e:= 247) (by kernel_rfl) (aI.one qR Z)) Z ((Wh _ _ _ lm ((2 * (m:Int))+1) (m:Int) ((2 * m)+1) m _ k6.has (by omega) (by omega) (by omega) (by first | omega | (simp only [bn] at hc;omega)) (by first | omega | (simp only [bn] at hc;omega))).mono ?_);rintro e zT ⟨rfl,ik⟩;refine cu ?_;have k3:=jN.trans (Mod.a8 ik);refine aa (dJ Z)<|aC<| ?_;refine du Z (λ y6=> ?_) (λ y6=> ?_)
   ·have hex:=cv.ahH (key:=cw.all) uR kd y6;rw [hex] at od;refine dn<|dk<|Qu Z<|dG<|dj<|aX<|aB Z<|vm Z<|aa (gO Z Z)<|aY Z<|b_ Z Z<| ?_
    skip
    have k6:=k6.later ik;have aI:=aI.later ik;exact ⟨⟨_,Z⟩,aI,by rw [← od];exact k6,k3⟩
   ·have xD:=cv.ahI (key:=cw.all) uR kd y6;refine bm<|aB Z<|vm Z<|vm Z<| ?_;have aI:=aI.later ik;have k6:=k6.later ik;refine ih SJ Z Z (Bo (e:= 247) (by kernel_rfl) (aI.one qR Z)) Z ((Wi _ _ _ _ lm (m:Int) ((2 * (m:Int))+1) m ((2 * m)+1) _ k6 Il (by omega) (by omega) (by omega) (by omega) (by omega)).mono ?_);rintro e Qm ⟨rfl,Hf,IH⟩;refine cu ?_;have yl:=k3.md IH (λ q I=> .inl I);have aC3:∀ y∈cv.swp lm m ((2 * m)+1),y.ok:=λ y aE=>Il y ((cv.Ga (by omega) (by omega)).subset aE);have aCC:(cv.swp lm m ((2 * m)+1)).length=n:=by rw [cv.nQ];omega
    refine aC<|rg<|vm Z<|va Z<|nl<|b1<| ?_;have aI:=aI.mod IH (λ I=>Hw _ I rfl);exact eJ ⟨cv.swp lm m ((2 * m)+1),2 * m+1,Z,Z,yl,aI,Hf,by omega,aCC,aC3,xD.symm.trans od,Hw⟩
theorem aMa (b:Nat) (A:Option Addr) (c aA:Nat) (l:List cw) (v0 v1 v2 v3 v4 v5:Value) (x:cw) (w:World) (aI:aM w b [v0,v1,v2,v3,v4,v5, .slice A l.length c] 249 (0,0)) (bq:cw.rep.aF 304 32 w aA (J.ab A) A c (l)) (di:∀ y∈l,y.ok) (hd:∀ q∈J.ab A,q=b→False) (hx:x.ok) (TF:l.length≤1000000) (xx:aA≤w.heap.size):
  Calls prog 215 #[.pointer (some ⟨b,6,none⟩), .iface 304 (.agg #[Φ x.cell.x,Φ x.cell.y,Φ x.aZ,Φ x.all])] w (λ e w'=>∃ bQ cc,e= .returned (.tuple #[])∧aM w' b [v0,v1,v2,v3,v4,v5, .slice bQ (l++ [x]).length cc] 249 (0,0)∧cw.rep.aF 304 32 w' aA (J.ab bQ) bQ cc (l++ [x])∧(∀ q∈J.ab bQ,q∈J.ab A∨w.heap.size≤q)∧Mod (b::J.ab A) w w'):=by
 have LF:=aI.lt;refine ch (n:=13) func215 Z Z Z ?_;refine cO [(3,0),(6,2),(7,3),(9,3)] [0,1,2,3,4,5,6,7,8,9] ?_;refine a1 Z Z<|a1 Z Z<|aq Z (λ _=>bx Z)<|cf Z Z aI qR Z<|a1 Z Z<|aq Z (λ _=>apw (λ w=>by kernel_rfl) Z)<|ff Z Z Z λ cG dS Q hK=>c7 (e:= 304) (cs:= [Φ x.cell.x,Φ x.cell.y,Φ x.aZ,Φ x.all]) Z (λ _=>by kernel_rfl) Z λ ap7 aPF m2 aTV afc=>hK _ _ ⟨γ dS m2, ?_⟩;have:=dS.size;have de:=(Mod.cH (b::J.ab A) w).trans (Mod.a8 dS);have QO:=de.trans (Mod.a8 m2);have aVz:=afc.lt;have bq:=bq.later (γ dS m2);refine dE Z Z Z λ wC pL Q hK=>ap atx J.dQ (bq.later pL) ((aM.gu (R:=cw.rep) (by_:=32) (q:=x) afc ⟨Z,hx⟩ (by decide)).keep pL) Z Z (by simp only [aYc,aYh];omega) (by simp only [aYc,aYh];omega) (by have:=pL.size;omega) Z λ BF aq1 ES UI Nc aiZ aUX=>hK _ _ ?_;have:=pL.size;have k2:=QO.trans (Mod.a8 pL);have hZ:=k2.md UI (λ q I=> .inl (aYm _ I));refine aq Z (λ _=>bx Z)<| ?_;have aI:=(aI.later (γ dS (γ m2 pL))).mod UI (λ I=>hd _ I rfl);refine dE Z Z Z λ ua fp Q hK=>dU Z Z (aI.later fp) Z ahY Z Z λ DK kG aI=>hK _ _ ?_;have kM:=hZ.trans (Mod.a8 fp);have rM:=kM.md kG lr;refine fn λ ud dH=> ?_;have hI:=rM.trans (Mod.a8 dH);refine ne<|cz .nil<| ?_;have Nc:=((Nc.later fp).mod kG (bl λ q I ag=>aYC (aiZ q I) (λ ame=>by (exact hd q ame ag)) (λ ame=>by omega))).later dH;have aI:=aI.later dH;exact ⟨aq1,ES,Z,aI,Nc,(λ q I=>(aiZ q I).imp id λ h=>by omega),hI⟩
theorem aL9 (b:Nat) (A:Option Addr) (n c aA:Nat) (l:List cw) (v0 v1 v2 v3 v4 v5:Value) (w:World) (aI:aM w b [v0,v1,v2,v3,v4,v5, .slice A n c] 249 (0,0)) (bq:cw.rep.aF 304 32 w aA (J.ab A) A c (l)) (di:∀ y∈l,y.ok) (hn:l.length=n) (hd:∀ q∈J.ab A,q=b→False) (aG:0<n):
  Calls prog 214 #[.pointer (some ⟨b,6,none⟩)] w (λ e w'=>e= .returned (.iface 304 (.agg ((l.getD (n - 1) default).cells).toArray))∧aM w' b [v0,v1,v2,v3,v4,v5, .slice A (n - 1) c] 249 (0,0)∧cw.rep.aF 304 32 w' aA (J.ab A) A c (l.take (n - 1))∧Mod (b::J.ab A) w w'):=by
 have aKu:=bM bq.lt;have LF:=aI.lt;have TX:=bq.has.fa;have aSj:=bq.has.1;refine ch (n:=23) func214 Z Z Z ?_;refine aw<|aJ Z<|aB Z<|aa (bx Z)<|bk Z aI qR Z<|aJ Z<|aB Z<|vm Z<|aa (b5 underlying247 Z)<|aa (kx Z Z gD)<|aa (cl (((n:Int) - 1).toNat) underlying247 p_ Z Z (bq.has.bT (aV (((n:Int) - 1).toNat))) (by omega) (by omega))<|aa (ax Z (J.aK.iu H9 (bq.has.cD (aV (((n:Int) - 1).toNat))) (dt (l:=l) (u:=default) (by omega)) SE p_))<|cU ah0 Z λ cG bB aR d' ae=> ?_;have de:=(Mod.cH (b::J.ab A) w).trans (Mod.a8 aR);refine cF Z Z ae Z p_ Z Z λ eC FY ae=> ?_;have bO:=de.md FY (λ q I=> .inr (by have:=aYf.1 I;omega));refine aC<|aB Z<|vm Z<|vm Z<|aa (b5 underlying247 Z)<|aa (kx Z Z gD)<|aa (LI (n - 1) (n - 1) underlying247 p_ Z Z (by omega) (by omega) Z)<|aa (bx Z)<| ?_;have aI:=(aI.later aR).mod FY aO;refine dU Z Z aI Z ahY Z Z λ zS sv aI=> ?_;have m3:=bO.md sv lr;refine aC<|aw<| ?_;have ae:=ae.mod sv aO;refine aa (ax Z (ae.all SE p_))<|aa (UT (λ w=>by kernel_rfl) Z)<|aY Z<|b_ Z Z<| ?_;have bq:=((bq.later aR).mod FY (bU aKu)).mod sv (bl hd);exact ⟨by rw [show ((n:Int) - 1).toNat=n - 1 by omega];rfl,aI,J.aF.cut bq J.dQ (n - 1) (by omega),m3⟩
theorem aL8 (b:Nat) (A:Option Addr) (c aA:Nat) (l:List cw) (v0 v1 v2 v3 v4 v5:Value) (x:cw) (w:World) (aI:aM w b [v0,v1,v2,v3,v4,v5, .slice A l.length c] 249 (0,0)) (bq:cw.rep.aF 304 32 w aA (J.ab A) A c (l)) (di:∀ y∈l,y.ok) (hd:∀ q∈J.ab A,q=b→False) (hx:x.ok) (TF:l.length≤1000000) (xx:aA≤w.heap.size):
  Calls prog 184 #[.iface 302 (.pointer (some ⟨b,6,none⟩)), .iface 304 (.agg #[Φ x.cell.x,Φ x.cell.y,Φ x.aZ,Φ x.all])] w (λ e w'=>∃ bQ cc,e= .returned (.tuple #[])∧aM w' b [v0,v1,v2,v3,v4,v5, .slice bQ (cv.push cw.all l x).length cc] 249 (0,0)∧cw.rep.aF 304 32 w' aA (J.ab bQ) bQ cc (cv.push cw.all l x)∧(∀ q∈J.ab bQ,q∈J.ab A∨w.heap.size≤q)∧Mod (b::J.ab A) w w'):=by
 have LF:=aI.lt;refine ch (n:=12) func184 Z Z Z ?_;refine aB Z<|vm Z<|ih ax6 Z Z (by unfold Ew;kernel_rfl) Z ((aMa b A c aA l v0 v1 v2 v3 v4 v5 x _ aI bq di hd hx (by omega) xx).mono ?_);rintro e l9 ⟨cb,c1,rfl,cC,Xc,Ft,aF0⟩;refine cu ?_;have fb:=(Mod.cH (b::J.ab A) w).md aF0 (λ q I=> .inl I);have tD:(l++ [x]).length=l.length+1:=by rw [aX9];rfl
 have aj0:∀ q∈J.ab cb,q=b→False:=λ q I e=>(Ft q I).elim (λ h=>hd q h e) (λ h=>by omega);have TY:∀ y∈l++ [x],y.ok:=λ y aE=>(aYo.1 aE).elim (di y) λ h=>by rw [aYf.1 h];exact hx
 refine aC<|rg<|vm Z<|vm Z<|ih NP Z Z (Bo (e:= 247) (by kernel_rfl) (cC.one qR Z)) Z ((Qv _ ((l++ [x]).length) _ _).mono ?_);rintro e VY ⟨rfl,m2⟩;refine cu ?_;have GL:=fb.trans (Mod.a8 m2);refine aa (kx Z Z gD)<| ?_;have Xc:=Xc.later m2;have cC:=cC.later m2;refine ca ayf Z Z (((show Calls _ _ #[_,Φ (((l++ [x]).length:Int) - 1)] _ _ from (by rw [show ((l++ [x]).length:Int) - 1=(l.length:Int) by rw [tD];omega];exact aMb b cb (l++ [x]).length c1 aA (l++ [x]) v0 v1 v2 v3 v4 v5 l.length _ cC Xc TY rfl aj0 (by omega)))).mono ?_);rintro e eC ⟨rfl,cP,wU,anh⟩;refine cu ?_;have bO:=GL.md anh (λ q I=>(Ft q I).imp (aYm _) λ h=>by omega);refine nl<|ne<|cz .nil<| ?_;exact ⟨cb,c1,Z,by rw [show (cv.push cw.all l x).length=(l++ [x]).length by rw [cv.PV,tD]];exact cP,wU,Ft,bO⟩
theorem aL7 (b:Nat) (A:Option Addr) (n c aA:Nat) (l:List cw) (v0 v1 v2 v3 v4 v5:Value) (w:World) (aI:aM w b [v0,v1,v2,v3,v4,v5, .slice A n c] 249 (0,0)) (bq:cw.rep.aF 304 32 w aA (J.ab A) A c (l)) (di:∀ y∈l,y.ok) (hn:l.length=n) (hd:∀ q∈J.ab A,q=b→False) (aG:0<n) (TF:n≤1000000):
  Calls prog 186 #[.iface 302 (.pointer (some ⟨b,6,none⟩))] w (λ e w'=>e= .returned (.iface 304 (.agg (l.getD 0 default).cells.toArray))∧aM w' b [v0,v1,v2,v3,v4,v5, .slice A (cv.pF cw.all l).length c] 249 (0,0)∧cw.rep.aF 304 32 w' aA (J.ab A) A c (cv.pF cw.all l)∧Mod (b::J.ab A) w w'):=by
 refine ch (n:=15) func186 Z Z Z ?_;refine aw<|aJ Z<|aB Z<|ih NP Z Z (Bo (e:= 247) (by kernel_rfl) (aI.one qR Z)) Z ((Qv _ n _ _).mono ?_);rintro e cG ⟨rfl,dS⟩;refine cu ?_;have de:=(Mod.cH (b::J.ab A) w).trans (Mod.a8 dS);refine aa (kx Z Z gD)<|aJ Z<|aB Z<|vm Z<| ?_;have aI:=aI.later dS;have bq:=bq.later dS;refine ih SJ Z Z (Bo (e:= 247) (by kernel_rfl) (aI.one qR Z)) Z ((Wi _ _ _ _ l 0 ((n:Int) - 1) 0 (n - 1) _ bq di (by omega) (by omega) (by omega) (by omega) (by omega)).mono ?_);rintro e Je ⟨rfl,atg,UM⟩;refine cu ?_;have mI:=de.md UM (λ q I=> .inl (aYm _ I));have akN:∀ y∈cv.swp l 0 (n - 1),y.ok:=λ y aE=>di y ((cv.Ga (by omega) (by omega)).subset aE);have aR1:(cv.swp l 0 (n - 1)).length=n:=by rw [cv.nQ];omega
 refine aC<|aB Z<|vm Z<| ?_;have aI:=aI.mod UM (λ I=>hd _ I rfl);refine ca ayi Z Z (((show Calls _ _ #[_,Φ 0,Φ ((n:Int) - 1)] _ _ from (by rw [show (n:Int) - 1=((n - 1:Nat):Int) by omega];exact aL6 b A n c aA (cv.swp l 0 (n - 1)) v0 v1 v2 v3 v4 v5 0 (n - 1) _ aI atg akN (by omega) hd (by omega) (by omega) TF))).mono ?_);rintro e VU ⟨⟨aW5,rfl⟩,cC,atk,FY⟩;refine cu ?_;have yj:=mI.md FY (λ q I=> .inl (aYm _ I));have aC4:∀ y∈cv.la cw.all (n - 1) (cv.swp l 0 (n - 1)) 0,y.ok:=λ y aE=>akN y ((cv.ahQ _ _ _ _ (aYg _) (by omega) (by omega)).subset aE);have aR2:(cv.la cw.all (n - 1) (cv.swp l 0 (n - 1)) 0).length=n:=by rw [cv.ahP _ _ _ _ (aYg _)];omega
 refine aC<|aB Z<|ih ayr Z Z (by unfold Ew;kernel_rfl) Z ((aL9 b A n c aA (cv.la cw.all (n - 1) (cv.swp l 0 (n - 1)) 0) v0 v1 v2 v3 v4 v5 _ cC atk aC4 (by omega) hd aG).mono ?_);rintro e BF ⟨rfl,ar5,asi,Ld⟩;refine cu ?_;have hZ:=yj.md Ld (λ q I=> .inl I);refine aY Z<|b_ Z Z<| ?_;subst hn;exact ⟨by rw [← cv.an4 (key:=cw.all) aG];rfl,by rw [cv.LB];exact ar5,asi,hZ⟩
theorem iX {a b:Bool} (h:a=b):Ending.returned (.bool a)= .returned (.bool b):=by rw [h]
theorem mN (w:World) (o:Obj):Below w.heap.size w (w.alloc o):=(aYG _ w).alloc (aYg _) o
open Tryz

def aL.qO (p:Int):Bool:= !aL.U6 p
theorem auN {p:Int}:(p<0→aL.qO p=true)∧(4≤p→aL.qO p=true)∧(0≤p→p<4→aL.qO p=false):=by
 unfold aL.qO aL.U6;refine ⟨λ h=>by rw [ri (.inl h)];rfl,λ h=>by rw [ri (.inr (by omega))];rfl,λ κ τ=>by rw [nM κ (by omega)];rfl⟩
theorem azD (p:Int) (w:World):Calls prog 110 #[.int .i64 p] w λ e w'=>e= .returned (.bool (aL.qO p))∧Below w.heap.size w w':=by
 obtain ⟨k_,fw,hQ⟩:=auN (p:=p);rcases bae p 0 with h | h
 ·have ag:=k_ h;have hd:decide (p<0)=true:=by simpa using h
  rw [ag];clear k_ fw hQ ag;go_enter func110,ntmps110;go_wp2
  go_ret;exact ⟨Z,aYG _ _⟩
 ·rcases bae p 4 with aU | aU
  ·have ag:=hQ h aU;have hd:decide (p<0)=false:=by simpa using h
   rw [ag];clear k_ fw hQ ag;go_enter func110,ntmps110;go_wp2
   go_ret;exact ⟨iX (by simp<;>omega),aYG _ _⟩
  ·have ag:=fw aU;have hd:decide (p<0)=false:=by simpa using h
   rw [ag];clear k_ fw hQ ag;go_enter func110,ntmps110;go_wp2
   go_ret;exact ⟨iX (by simp<;>omega),aYG _ _⟩
theorem aEa  (A:Option Addr) (c:Nat) (l:List Int) (w:World) (ah:bu.aK 8 w A c l):
  Calls prog 145 #[.slice A l.length c, .func (.func 110) #[] #[]] w λ e w'=>e= .returned (.int .i64 (gY (aL.qO) l))∧Below w.heap.size w w':=by
 obtain ⟨n,hn⟩:∃ n,l.length=n:=⟨_,rfl⟩;have hle:n≤9223372036854775807:=by have:=ah.1;have:=ah.2.1;omega
 rw [hn];have rX:=aYe ah;have fr:=aYe hn;clear ah hn;go_enter func145,ntmps145;go_wp2_with fail
 go_loopw [5,8] (λ _ ih wr=>∃ k:Nat,k≤n∧ih= .int .i64 (k:Int)∧Hid (∀ j (ay:j<k) (tB:j<l.length),(aL.qO) l[j]=false)∧Below w.heap.size w wr) (λ _ ih _=>n - (intOf ih).toNat)
 case atStart=>exact ⟨0,aYX _,rfl,(λ j ay=>by omega),aYG _ _⟩
 case round =>
  obtain ⟨k,ak,rfl,iQ,ag⟩:=hrel;by_cases bF:k<n
  ·have j0:k<l.length:=by rw [fr.out];exact bF
   obtain ⟨b,o,rfl,kD⟩:=F6 (rX.out.keep ag) (by omega);obtain ⟨x,tG⟩:∃ x,l[k]'j0=x:=⟨_,rfl⟩;have wv:=kD k x (by rw [aYb j0,tG]);have yD:=aYe tG

   have hc:=azD x wr;clear kD tG;cases kB:(aL.qO) x with
   | true =>
    have my:gY (aL.qO) l=(k:Int):=Ir j0 (by rw [yD.out];exact kB) λ j ay=>iQ.out j ay (by omega);rw [kB] at hc;have sS:=aYe my;clear my kB;go_wp2_with (go_at_call 110;refine hc.mono ?_;rintro e w' ⟨rfl,bI⟩)
    go_ret;exact ⟨by rw [sS.out];rfl,ag.trans (bI.mono ag.size)⟩
   | false =>
    rw [kB] at hc;have qF:Hid (∀ j (ay:j<k+1) (tB:j<l.length),(aL.qO) l[j]=false):=by
     intro j ay tB;by_cases h:j<k
     ·exact iQ.out j h tB
     ·obtain rfl:j=k:=by omega
      rw [yD.out];exact kB
    clear kB;go_wp2_with (go_at_call 110;refine hc.mono ?_;rintro e w' ⟨rfl,bI⟩)
    go_roundw
    case rel=>exact ⟨k+1,by omega,by go_num,qF,ag.trans (bI.mono ag.size)⟩
    case measure=>simp [intOf];omega
  ·have my:gY (aL.qO) l= -1:=Iq λ j ay=>iQ.out j (by have:=fr.out;omega) ay;have sS:=aYe my;clear my;go_wp2_with fail
   go_ret;exact ⟨by rw [sS.out];rfl,ag⟩
theorem aBx  (A:Option Addr) (c:Nat) (l:List Int) (w:World) (ah:bu.aK 8 w A c l):
  Calls prog 109 #[.slice A l.length c, .func (.func 110) #[] #[]] w λ e w'=>e= .returned (.bool (l.any (aL.qO)))∧Below w.heap.size w w':=by
 have hc:=aEa  A c l w ah ;rw [← K6];generalize gY (aL.qO) l=r at *
 generalize l.length=n at *
 clear ah ;go_enter func109,ntmps109;go_wp2_with (go_at_call 145;refine hc.mono ?_;rintro e w' ⟨rfl,bI⟩)
 go_ret;exact ⟨Z,bI⟩
theorem V' (n lo hi:Int) (w:World):Calls prog 113 #[.int .i64 n, .int .i64 lo, .int .i64 hi] w λ e w'=>e= .returned (.bool (b9 n lo hi))∧w=w':=by
 rcases bae n lo with h | h
 ·rw [ri (.inl h)];go_enter func113,ntmps113;go_wp2
  go_ret;exact ⟨Z,Z⟩
 ·rcases bae hi n with aU | aU
  ·rw [ri (.inr aU)];go_enter func113,ntmps113;go_wp2
   go_ret;exact ⟨iX (by simp<;>omega),Z⟩
  ·rw [nM h aU];go_enter func113,ntmps113;go_wp2
   go_ret;exact ⟨iX (by simp<;>omega),Z⟩
theorem aoS (n:Int) (w:World):Calls prog 108 #[.int .i64 n] w λ e w'=>e= .returned (.bool (b9 n 1 40))∧w=w':=by
 rcases bae n 1 with h | h
 ·rw [ri (.inl h)];go_enter func108,ntmps108;go_wp2
  go_ret;exact ⟨Z,Z⟩
 ·rcases bae 40 n with aU | aU
  ·rw [ri (.inr aU)];go_enter func108,ntmps108;go_wp2
   go_ret;exact ⟨iX (by simp<;>omega),Z⟩
  ·rw [nM h aU];go_enter func108,ntmps108;go_wp2
   go_ret;exact ⟨iX (by simp<;>omega),Z⟩
open Tryz

theorem aL.awl {f:aL} (κ:b9 f.wide 1 40=true) (τ:b9 f.high 1 40=true) (au:¬ (f.a_.length:Int)=f.wide * f.high):f.a7=4:=by
 unfold aL.a7;rw [κ,τ,aYL au];rfl
theorem aL.awi {f:aL} (κ:b9 f.wide 1 40=true) (τ:b9 f.high 1 40=true) (au:(f.a_.length:Int)=f.wide * f.high):f.a7=if f.a_.any aL.qO then 4 else 0:=by
 unfold aL.a7;rw [κ,τ,aYD au];have:f.a_.all aL.U6= !f.a_.any aL.qO:=by
  rw [List.all_eq_not_any_not];rfl
 rw [this];cases f.a_.any aL.qO<;>rfl
theorem aiO (f:aL) (A:Option Addr) (c:Nat) (w:World) (cK:bu.aK 8 w A c f.a_):
  Calls prog 64 #[.agg #[.int .i64 f.wide, .int .i64 f.high, .slice A f.a_.length c]] w λ e w'=>e= .returned (.int .i64 f.a7)∧Below w.heap.size w w':=by
 have ag:=mN w (.cells #[.int .i64 f.wide, .int .i64 f.high, .slice A f.a_.length c] 24);have hN:=aoS f.wide;have hO:=aoS f.high;cases κ:b9 f.wide 1 40 with
 | false =>
  rw [κ] at hN;rw [aL.agP (by rw [κ];rfl)];clear κ hO cK;go_enter func64,ntmps64;go_wp2_with (go_at_call 108;refine (hN _).mono ?_;rintro e w' ⟨rfl,rfl⟩)
  go_ret;exact ⟨Z,ag⟩
 | true =>
  rw [κ] at hN;cases τ:b9 f.high 1 40 with
  | false =>
   rw [τ] at hO;rw [aL.agP (by rw [κ,τ];rfl)];clear κ τ cK;go_enter func64,ntmps64;go_wp2_with fail
   refine (hN _).mono ?_;rintro e w' ⟨rfl,rfl⟩;go_wp2_with fail
   refine (hO _).mono ?_;rintro e w' ⟨rfl,rfl⟩;go_wp2_with fail
   go_ret;exact ⟨Z,ag⟩
  | true =>
   rw [τ] at hO;have hw:=hV κ;have eI:=hV τ;have Ig:0≤f.wide * f.high:=bbH (by omega) (by omega);have KY:f.wide * f.high≤40 * 40:=baX hw.2 eI.2 (by omega) (by omega);by_cases au:(f.a_.length:Int)=f.wide * f.high
   ·have hc:=aBx A c f.a_ _ (cK.keep ag);have hd:((f.a_.length:Int)== f.wide * f.high)=true:=by simpa using au
    have KQ:((f.a_.length:Int) != f.wide * f.high)=false:=by simpa using au
    rw [aL.awi κ τ au];clear κ τ au cK;generalize f.a_.any aL.qO=r at *
    generalize f.a_.length=n at *
    cases r with
    | true =>
     go_enter func64,ntmps64;go_wp2_with fail
     refine (hN _).mono ?_;rintro e w' ⟨rfl,rfl⟩;go_wp2_with fail
     refine (hO _).mono ?_;rintro e w' ⟨rfl,rfl⟩;go_wp2_with fail
     refine hc.mono ?_;rintro e w' ⟨rfl,bI⟩;go_wp2_with fail
     go_ret;exact ⟨Z,ag.trans (bI.mono ag.size)⟩
    | false =>
     go_enter func64,ntmps64;go_wp2_with fail
     refine (hN _).mono ?_;rintro e w' ⟨rfl,rfl⟩;go_wp2_with fail
     refine (hO _).mono ?_;rintro e w' ⟨rfl,rfl⟩;go_wp2_with fail
     refine hc.mono ?_;rintro e w' ⟨rfl,bI⟩;go_wp2_with fail
     go_ret;exact ⟨Z,ag.trans (bI.mono ag.size)⟩
   ·have hd:((f.a_.length:Int)== f.wide * f.high)=false:=by simpa using au
    have KQ:((f.a_.length:Int) != f.wide * f.high)=true:=by simpa using au
    rw [aL.awl κ τ au];clear κ τ au cK;generalize f.a_.length=n at *
    go_enter func64,ntmps64;go_wp2_with fail
    refine (hN _).mono ?_;rintro e w' ⟨rfl,rfl⟩;go_wp2_with fail
    refine (hO _).mono ?_;rintro e w' ⟨rfl,rfl⟩;go_wp2_with fail
    go_ret;exact ⟨Z,ag⟩
theorem amt (w:World):Calls prog 11 #[.int .i64 1] w λ e w'=>e= .returned (.tuple #[.agg #[.int .i64 10, .int .i64 1, .int .i64 1, .int .i64 5], .int .i64 0])∧Below w.heap.size w w':=by
 go_enter func11,ntmps11;go_wp2
 refine bcs (v:= .tuple #[.agg #[.int .i64 10, .int .i64 1, .int .i64 1, .int .i64 5], .int .i64 0]) (by simp [results,results11,go_sem]) Z ⟨Z,(aYG _ _).alloc (aYg _) _⟩
theorem amu (w:World):Calls prog 11 #[.int .i64 2] w λ e w'=>e= .returned (.tuple #[.agg #[.int .i64 20, .int .i64 2, .int .i64 4, .int .i64 12], .int .i64 0])∧Below w.heap.size w w':=by
 go_enter func11,ntmps11;go_wp2
 refine bcs (v:= .tuple #[.agg #[.int .i64 20, .int .i64 2, .int .i64 4, .int .i64 12], .int .i64 0]) (by simp [results,results11,go_sem]) Z ⟨Z,(aYG _ _).alloc (aYg _) _⟩
theorem amv (k:Int) (w:World) (h:b9 k 1 2=false):Calls prog 11 #[.int .i64 k] w λ e w'=>e= .returned (.tuple #[.agg #[.int .i64 0, .int .i64 0, .int .i64 0, .int .i64 0], .int .i64 1])∧Below w.heap.size w w':=by
 have dh:=aEe h;have κ:(k == 1)=false:=by simp;omega
 have τ:(k == 2)=false:=by simp;omega
 clear h dh;go_enter func11,ntmps11;go_wp2
 refine bcs (v:= .tuple #[.agg #[.int .i64 0, .int .i64 0, .int .i64 0, .int .i64 0], .int .i64 1]) (by simp [results,results11,go_sem]) Z ⟨Z,(aYG _ _).alloc (aYg _) _⟩
open Tryz

theorem ac8 {k k':IntKind} {a b a' qM:Int} (κ:a=a') (τ:b=qM):Ending.returned (.tuple #[.int k a, .int k' b])= .returned (.tuple #[.int k a', .int k' qM]):=by rw [κ,τ]
def aeO (f:aL) (c:az) (w:World) (e:Ending) (w':World):Prop:=e= .returned (.tuple #[.int .i64 (f.oE c), .int .i64 (f.et c)])∧Below w.heap.size w w'
theorem Zx (f:aL) (p:az) (A:Option Addr) (c:Nat) (w:World) (cK:bu.aK 8 w A c f.a_):
  Calls prog 143 #[.agg #[.int .i64 f.wide, .int .i64 f.high, .slice A f.a_.length c], .agg #[.int .i64 p.x, .int .i64 p.y]] w (aeO f p w):=by
 have hA:=aM.new w (ai.Kq A c f) 24 (0,0);have ag:=mN w (.cells (ai.Kq A c f).toArray 24 (0,0));have bg:=aM.new (w.alloc (.cells (ai.Kq A c f).toArray 24 (0,0))) p.cells 55 (0,0);have dc:=mN (w.alloc (.cells (ai.Kq A c f).toArray 24 (0,0))) (.cells p.cells.toArray 55 (0,0));have kS:=hA.later dc;have q5:=ag.trans (dc.mono ag.size);have hc:=aiO f A c _ (cK.keep q5);have Og:=cK.keep q5;obtain ⟨w1,qG⟩:∃ w1,Hid ((w.alloc (.cells (ai.Kq A c f).toArray 24 (0,0))).alloc (.cells p.cells.toArray 55 (0,0))=w1):=⟨_,aYe rfl⟩;rw [qG.out] at kS bg hc q5 Og;rw [World.size_alloc] at bg;clear hA ag dc cK;have g_:∀ K:World→Prop,K w1→K ((w.alloc (.cells #[.int .i64 f.wide, .int .i64 f.high, .slice A f.a_.length c] 24)).alloc (.cells #[.int .i64 p.x, .int .i64 p.y] 55)):=λ K h=>by
  have:=qG.out;rw [← this] at h;exact h
 by_cases aG:f.a7=0
 ·have se:=aL.fa aG;obtain ⟨g1,g2,g3,g4,_,_⟩:=aL.eB aG;rw [aG] at hc;by_cases e_:0≤p.x∧p.x<f.wide∧0≤p.y∧p.y<f.high
  ·obtain ⟨i1,i2,i3,i4⟩:=e_;have hIn:=aL.aEw i1 i2 i3 i4;obtain ⟨aW,bb⟩:=aL.n8 aG hIn;obtain ⟨eX,fA,_⟩:=aL.idx aG hIn;have uk:0≤p.y * f.wide:=bbH i3 (by omega);have QG:p.y * f.wide≤1600:=by omega
   obtain ⟨b,o,rfl,kD⟩:=F6 Og (by omega);have hce:=kD (p.y * f.wide+p.x).toNat (f.place p) (by
    unfold aL.place;rw [aX7,aYb (show (p.y * f.wide+p.x).toNat<f.a_.length by omega)];rfl)
   have ar6:=aYe hce;have jO:=aYe (And.intro aW bb);have sQ:=aYe kS;have aI:=aYe bg;have d1:decide (p.x<0)=false:=by simpa using i1
   have d2:decide (p.y<0)=false:=by simpa using i3
   clear aG hIn aW bb kD hce Og kS bg;go_enter func143,ntmps143;go_wp2_with fail
   refine g_ (λ W=>Calls _ _ _ W _) ?_;refine hc.mono ?_;rintro e cx ⟨rfl,bI⟩;obtain ⟨wv,lM,nt⟩:=ai.aiD (sQ.out.later bI);obtain ⟨F5,r1⟩:=az.fI (aI.out.later bI);have aRA:=cell_later bI ar6.out;go_wp2_with fail
   go_ret2
   exact ⟨ac8 jO.out.2.symm jO.out.1.symm,q5.trans (bI.mono q5.size)⟩
  ·have K0:p.x<0∨f.wide≤p.x∨p.y<0∨f.high≤p.y:=by omega
   have jO:=aYe (aL.Np aG (aL.aEx K0));have sQ:=aYe kS;have aI:=aYe bg;clear aG Og kS bg e_;have asj:=aYe K0;clear K0;go_enter func143,ntmps143;go_wp2_with fail
   refine g_ (λ W=>Calls _ _ _ W _) ?_;refine hc.mono ?_;rintro e cx ⟨rfl,bI⟩;obtain ⟨wv,lM,nt⟩:=ai.aiD (sQ.out.later bI);obtain ⟨F5,r1⟩:=az.fI (aI.out.later bI);have key:decide (p.x<0)=true∨(decide (p.x<0)=false∧decide (f.wide≤p.x)=true)∨(decide (p.x<0)=false∧decide (f.wide≤p.x)=false∧decide (p.y<0)=true)∨(decide (p.x<0)=false∧decide (f.wide≤p.x)=false∧decide (p.y<0)=false∧decide (f.high≤p.y)=true):=by
    have:=asj.out;by_cases dw:p.x<0
    ·simp [dw]
    by_cases dN:f.wide≤p.x
    ·simp [dw,dN]
    by_cases hb:p.y<0
    ·simp [dw,dN,hb]
    ·simp [dw,dN,hb];omega
   rcases key with h | ⟨h,τ⟩ | ⟨h,τ,au⟩ | ⟨h,τ,au,aU⟩
   all_goals
    go_wp2_with fail
    go_ret2
    exact ⟨ac8 jO.out.2.symm jO.out.1.symm,q5.trans (bI.mono q5.size)⟩
 ·obtain ⟨aW,bb⟩:=aL.X0 (c:=p) aG;have jO:=aYe (And.intro aW bb);have aSq:(f.a7 != 0)=true:=by simpa using aG
  clear aW bb aG Og kS bg;generalize f.a7=k at *
  go_enter func143,ntmps143;go_wp2_with fail
  refine g_ (λ W=>Calls _ _ _ W _) ?_;refine hc.mono ?_;rintro e cx ⟨rfl,bI⟩;go_wp2_with fail
  go_ret2
  exact ⟨ac8 jO.out.2.symm jO.out.1.symm,q5.trans (bI.mono q5.size)⟩
theorem Oa (f:aL) (p:az) (A:Option Addr) (c:Nat) (w:World) (cK:bu.aK 8 w A c f.a_) (aG:f.a7=0):
  Calls prog 111 #[.agg #[.int .i64 f.wide, .int .i64 f.high, .slice A f.a_.length c], .agg #[.int .i64 p.x, .int .i64 p.y]] w λ e w'=>e= .returned (.bool (f.ground p))∧Below w.heap.size w w':=by
 have ag:=mN w (.cells #[.int .i64 f.wide, .int .i64 f.high, .slice A f.a_.length c] 24);have dc:=mN (w.alloc (.cells #[.int .i64 f.wide, .int .i64 f.high, .slice A f.a_.length c] 24)) (.cells #[.int .i64 p.x, .int .i64 p.y] 55);have q5:=ag.trans (dc.mono ag.size);have hc:=Zx f p A c _ (cK.keep q5);unfold aeO at hc;clear ag dc cK;cases e_:f.fP p with
 | true =>
  obtain ⟨aW,bb⟩:=aL.n8 aG e_;rw [aW,bb] at hc;have aN:f.ground p=(f.place p != 1):=by unfold aL.ground;rw [e_];rfl
  rw [aN];clear aW bb e_ aN aG;generalize f.place p=v at *
  generalize f.a_.length=n at *
  cases hv:v != 1 with
  | true =>
   go_enter func111,ntmps111;go_wp2_with fail
   refine hc.mono ?_;rintro e cx ⟨rfl,bI⟩;go_wp2_with fail
   go_ret;exact ⟨iX (by simp),q5.trans (bI.mono q5.size)⟩
  | false =>
   go_enter func111,ntmps111;go_wp2_with fail
   refine hc.mono ?_;rintro e cx ⟨rfl,bI⟩;go_wp2_with fail
   go_ret;exact ⟨iX (by simp),q5.trans (bI.mono q5.size)⟩
 | false =>
  obtain ⟨aW,bb⟩:=aL.Np aG e_;rw [aW,bb] at hc;have aN:f.ground p=false:=by unfold aL.ground;rw [e_];rfl
  rw [aN];clear aW bb e_ aN aG;generalize f.a_.length=n at *
  go_enter func111,ntmps111;go_wp2_with fail
  refine hc.mono ?_;rintro e cx ⟨rfl,bI⟩;go_wp2_with fail
  go_ret;exact ⟨Z,q5.trans (bI.mono q5.size)⟩
open Tryz

def az.is (p x:az):Bool:=decide (x=p)
theorem az.aEz {p x:az} (h:az.is p x=true):x=p:=by simpa [az.is] using h
theorem az.aEy {p x:az} (h:az.is p x=false):((p.x == x.x)=false)∨((p.x == x.x)=true∧(p.y == x.y)=false):=by
 have:¬ x=p:=by simpa [az.is] using h
 obtain ⟨a,b⟩:=p;obtain ⟨c,d⟩:=x;simp at this ⊢;omega
theorem aD8 (p:az) (A:Option Addr) (c:Nat) (l:List az) (w:World) (ah:az.rep.aK 16 w A c l):
  Calls prog 146 #[.slice A l.length c, .agg #[.int .i64 p.x, .int .i64 p.y]] w λ e w'=>e= .returned (.int .i64 (gY (az.is p) l))∧Below w.heap.size w w':=by
 obtain ⟨n,hn⟩:∃ n,l.length=n:=⟨_,rfl⟩;have hle:n≤9223372036854775807:=by have:=ah.1;have:=ah.2.1;omega
 rw [hn];have cV:=mN w (.cells #[.int .i64 p.x, .int .i64 p.y] 55);have aI:=aYe (aM.new w p.cells 55 (0,0));have rX:=aYe (ah.keep cV);have fr:=aYe hn;clear ah hn;go_enter func146,ntmps146;go_wp2_with fail
 obtain ⟨w0,kv⟩:∃ w0,Hid (w0=w.alloc (.cells #[.int .i64 p.x, .int .i64 p.y] 55)):=⟨_,aYe rfl⟩;rw [← kv.out] at cV ⊢;have aI:Hid (aM w0 w.heap.size p.cells 55 (0,0)):=by rw [kv.out];exact aI
 have rX:Hid (az.rep.aK 16 w0 A c l):=by rw [kv.out];exact rX
 go_loopw [5,8] (λ _ ih wr=>∃ k m:Nat,k≤n∧ih= .int .i64 (k:Int)∧Hid (∀ j (ay:j<k) (tB:j<l.length),(az.is p) l[j]=false)∧Hid (wr=w0.drewN m)) (λ _ ih _=>n - (intOf ih).toNat)
 case atStart=>exact ⟨0,0,aYX _,rfl,(λ j ay=>by omega),rfl⟩
 case round =>
  obtain ⟨k,m,ak,rfl,iQ,Et⟩:=hrel;by_cases bF:k<n
  ·have j0:k<l.length:=by rw [fr.out];exact bF
   have ajs:az.rep.aK 16 wr A c l:=by rw [Et.out];exact rX.out.drewN m
   have ajl:aM wr w.heap.size p.cells 55 (0,0):=by rw [Et.out];exact aI.out.drewN m
   have H7:Below w.heap.size w wr:=by rw [Et.out];exact below_drewN cV m
   obtain ⟨b,o,rfl,kD⟩:=az.at_ ajs (by omega);obtain ⟨x,tG⟩:∃ x,l[k]'j0=x:=⟨_,rfl⟩;obtain ⟨wv,lM⟩:=kD k x (by rw [aYb j0,tG]);obtain ⟨F5,r1⟩:=az.fI ajl;have yD:=aYe tG;have q9:(k:Int)<(n:Int):=by omega
   have q7:(0:Int)≤(k:Int):=by omega
   clear kD tG ajs ajl;cases kB:(az.is p) x with
   | true =>
    have my:gY (az.is p) l=(k:Int):=Ir j0 (by rw [yD.out];exact kB) λ j ay=>iQ.out j ay (by omega);have sS:=aYe my;have aDR:=az.aEz kB;subst aDR;clear my kB;go_wp2_with fail
    go_quiet (fail)
    go_wp2_with fail
    go_ret;exact ⟨by rw [sS.out];rfl,below_drewN H7 _⟩
   | false =>
    have qF:Hid (∀ j (ay:j<k+1) (tB:j<l.length),(az.is p) l[j]=false):=by
     intro j ay tB;by_cases h:j<k
     ·exact iQ.out j h tB
     ·obtain rfl:j=k:=by omega
      rw [yD.out];exact kB
    have fZ:=az.aEy kB;clear kB;rcases fZ with κ | ⟨κ,τ⟩
    all_goals
     go_wp2_with fail
     go_quiet (fail)
     go_wp2_with fail
     go_roundw
     case rel=>exact ⟨k+1,_,by omega,by go_num,qF,by show _=_;rw [Et.out];simp;rfl⟩
     case measure=>simp [intOf];omega
  ·have my:gY (az.is p) l= -1:=Iq λ j ay=>iQ.out j (by have:=fr.out;omega) ay;have sS:=aYe my;have aDP:=Et.out;subst aDP;clear my;go_wp2_with fail
   go_ret;exact ⟨by rw [sS.out];rfl,below_drewN cV _⟩
theorem aBv (p:az) (A:Option Addr) (c:Nat) (l:List az) (w:World) (ah:az.rep.aK 16 w A c l):
  Calls prog 112 #[.slice A l.length c, .agg #[.int .i64 p.x, .int .i64 p.y]] w λ e w'=>e= .returned (.bool (l.contains p))∧Below w.heap.size w w':=by
 have cV:=mN w (.cells #[.int .i64 p.x, .int .i64 p.y] 55);have hc:=aD8 p A c l _ (ah.keep cV);have q3:l.contains p=decide (0≤gY (az.is p) l):=by
  rw [K6,List.contains_eq_any_beq];congr 1
  funext x
  unfold az.is;by_cases h:x=p
  ·simp [h]
  ·simp [h,ba7 h]
 rw [q3];generalize gY (az.is p) l=r at *
 generalize l.length=n at *
 clear ah q3;go_enter func112,ntmps112;go_wp2_with (go_at_call 146;refine hc.mono ?_;rintro e w' ⟨rfl,bI⟩)
 go_ret;exact ⟨Z,cV.trans (bI.mono cV.size)⟩
open Tryz
section
variable {w w1:World} {aA q c:Nat} {a:ai.b7} {A:Option Addr}
theorem bH.Sz {W:ai} (h:bH w aA a W):
  (∀ x∈J.ab a.M,x∉J.ab a.P∧x∉J.ab a.B∧x∉J.ab a.S∧x∉J.ab a.T)∧
  (∀ x∈J.ab a.T,x∉J.ab a.P∧x∉J.ab a.B∧x∉J.ab a.S∧x∉J.ab a.M)∧
  (∀ x∈J.ab a.S,x∉J.ab a.P∧x∉J.ab a.B∧x∉J.ab a.M∧x∉J.ab a.T):=by
 have hn:=h.apart;rw [aY7,aY7,aY7,aY7] at hn;obtain ⟨⟨⟨⟨_,_,zB⟩,_,ru⟩,_,oj⟩,_,pz⟩:=hn;refine ⟨λ x hx=>⟨λ hp=> ?_,λ hp=> ?_,λ hp=> ?_,λ hp=> ?_⟩,λ x hx=>⟨λ hp=> ?_,λ hp=> ?_,λ hp=> ?_,λ hp=> ?_⟩,λ x hx=>⟨λ hp=> ?_,λ hp=> ?_,λ hp=> ?_,λ hp=> ?_⟩⟩
 ·exact oj x (by simp [hp]) x hx Z
 ·exact oj x (by simp [hp]) x hx Z
 ·exact oj x (by simp [hp]) x hx Z
 ·exact pz x (by simp [hx]) x hp Z
 ·exact pz x (by simp [hp]) x hx Z
 ·exact pz x (by simp [hp]) x hx Z
 ·exact pz x (by simp [hp]) x hx Z
 ·exact pz x (by simp [hp]) x hx Z
 ·exact ru x (by simp [hp]) x hx Z
 ·exact ru x (by simp [hp]) x hx Z
 ·exact oj x (by simp [hx]) x hp Z
 ·exact pz x (by simp [hx]) x hp Z
theorem xt {g:Nat}:g∈bH.cR a↔g∈J.ab a.P∨g∈J.ab a.B∨g∈J.ab a.S∨g∈J.ab a.M∨g∈J.ab a.T:=by
 unfold bH.cR;simp only [aYo];constructor
 ·rintro ((((h | h) | h) | h) | h)<;>simp [h]
 ·rintro (h | h | h | h | h)<;>simp [h]
namespace ai
def nr (k:Int):Int:=if k=1 then 5 else if k=2 then 12 else 0
end ai
theorem bH.mod {W:ai} {S:List Nat} (h:bH w aA a W) (m:Mod S w w1) (hd:∀ x∈bH.cR a,x∉S):bH w1 aA a W :=
 ⟨h.P.mod m λ x hx=>hd x (xt.2 (.inl hx)),h.B.mod m λ x hx=>hd x (xt.2 (.inr (.inl hx))),h.S.mod m λ x hx=>hd x (xt.2 (.inr (.inr (.inl hx)))),h.M.mod m λ x hx=>hd x (xt.2 (.inr (.inr (.inr (.inl hx))))),h.T.mod m λ x hx=>hd x (xt.2 (.inr (.inr (.inr (.inr hx))))),h.apart,h.nums⟩
theorem s_ (h:q∈J.ab a.T):q∈bH.cR a:=xt.2 (.inr (.inr (.inr (.inr h))))
theorem HO (h:q∈J.ab a.S):q∈bH.cR a:=xt.2 (.inr (.inr (.inl h)))
theorem Kt (h:q∈J.ab a.M):q∈bH.cR a:=xt.2 (.inr (.inr (.inr (.inl h))))
theorem Zz (h:q∈J.ab a.B):q∈bH.cR a:=xt.2 (.inr (.inl h))
theorem ZA (h:q∈J.ab a.P):q∈bH.cR a:=xt.2 (.inl h)
theorem bH.aoP {W:ai} {l:List Int} (h:bH w aA a W) (m:Mod (J.ab a.S) w w1) (hS:bu.aF 3 8 w1 aA (J.ab a.S) a.S a.s l):bH w1 aA a {W with bE:=l}:=by
 obtain ⟨d1,d2,d3⟩:=h.Sz;exact ⟨h.P.mod m λ x hx hs=>(d3 x hs).1 hx,h.B.mod m λ x hx hs=>(d3 x hs).2.1 hx,hS,h.M.mod m λ x hx hs=>(d3 x hs).2.2.1 hx,h.T.mod m λ x hx hs=>(d3 x hs).2.2.2 hx,h.apart,h.nums⟩
theorem bH.swapT {W:ai} {l:List bj} (h:bH w aA a W) (m:Mod (J.ab a.T) w w1) (cB:bj.rep.aF 57 56 w1 aA (J.ab A) A c l) (I:∀ q∈J.ab A,q∈J.ab a.T∨w.heap.size≤q):
  bH w1 aA {a with T:=A,t:=c} {W with ao:=l}:=by
 obtain ⟨d1,d2,d3⟩:=h.Sz;refine ⟨h.P.mod m λ x hx hs=>(d2 x hs).1 hx,h.B.mod m λ x hx hs=>(d2 x hs).2.1 hx,h.S.mod m λ x hx hs=>(d2 x hs).2.2.1 hx,h.M.mod m λ x hx hs=>(d2 x hs).2.2.2 hx,cB, ?_,h.nums⟩;have hn:=h.apart;rw [aY7] at hn ⊢;refine ⟨hn.1,xe A,λ x hx y aE e=> ?_⟩;subst e;rcases I x aE with aE | aE
 ·exact hn.2.2 x hx x aE Z
 ·have hf:x∈bH.cR a:=by unfold bH.cR;rw [aYo];exact .inl hx
  have:=(h.lt x hf).2;omega
theorem bH.aoO {W V:ai} (h:bH w aA a W) (κ:V.field.a_=W.field.a_) (τ:V.bf=W.bf) (au:V.bE=W.bE) (aU:V.bX=W.bX) (bN:V.ao=W.ao) (hn:ea V.field.wide∧ea V.field.high∧ea V.next∧ea V.now):bH w aA a V :=
 ⟨by rw [κ];exact h.P,by rw [τ];exact h.B,by rw [au];exact h.S,by rw [aU];exact h.M,by rw [bN];exact h.T,h.apart,hn⟩
theorem aiT {w:World} {aA:Nat} {W:ai} (h:q∈bH.cR {a with T:=A,t:=c}):q∈bH.cR a∨q∈J.ab A:=by
 rcases xt.1 h with h | h | h | h | h
 ·exact .inl (ZA h)
 ·exact .inl (Zz h)
 ·exact .inl (HO h)
 ·exact .inl (Kt h)
 ·exact .inr h
def ac4 (k:Int):Int:=if k=1 then 1 else if k=2 then 2 else 0
def A8 (k:Int):Int:=if k=1 then 1 else if k=2 then 4 else 0
def K8 (k:Int):Int:=if k=1 then 0 else if k=2 then 0 else 1
theorem abJ (k:Int) (w:World):Calls prog 11 #[.int .i64 k] w λ e w'=>e= .returned (.tuple #[.agg #[.int .i64 (ai.ni k), .int .i64 (ac4 k), .int .i64 (A8 k), .int .i64 (ai.nr k)], .int .i64 (K8 k)])∧Ext w w':=by
 by_cases κ:k=1
 ·subst κ;exact amt w
 ·by_cases τ:k=2
  ·subst τ;exact amu w
  ·have:=amv k w (ri (by omega));simpa [ai.ni,ac4,A8,ai.nr,K8,κ,τ] using this
theorem bH.down {Z':Nat} {W:ai} (h:bH w aA a W) (bc:Z'≤aA):bH w Z' a W:=⟨h.P.down bc,h.B.down bc,h.S.down bc,h.M.down bc,h.T.down bc,h.apart,h.nums⟩
def ai.zero:ai:=⟨⟨0,0, []⟩, [], [], [], [],0,0⟩
theorem bH.zero (w:World) (aA:Nat):bH w aA ⟨none,none,none,none,none,0,0,0,0,0⟩ ai.zero:=⟨J.aF.nil w,J.aF.nil w,J.aF.nil w,J.aF.nil w,J.aF.nil w,by simp [J.ab],b8.2 (by decide),b8.2 (by decide),b8.2 (by decide),b8.2 (by decide)⟩
theorem XZ {f:aL} {c:az} (h:f.a7=0) (he:f.et c=0):f.fP c=true:=by
 cases hi:f.fP c with
 | true=>rfl
 | false=>rw [(aL.Np h hi).1] at he;omega
theorem uM (f:aL) (p:az) (A:Option Addr) (c:Nat) (w:World) (cK:bu.aK 8 w A c f.a_):
  Calls prog 143 #[.agg #[.int .i64 f.wide, .int .i64 f.high, .slice A f.a_.length c], .agg #[.int .i64 p.x, .int .i64 p.y]] w λ e w'=>e= .returned (.tuple #[.int .i64 (f.oE p), .int .i64 (f.et p)])∧Below w.heap.size w w':=Zx f p A c w cK
theorem bH.acx {P B S M T:Option Addr} {p b s m t:Nat} {W:ai} (cK:bu.aF 3 8 w aA (J.ab P) P p W.field.a_) (bg:az.rep.aF 55 16 w aA (J.ab B) B b W.bf) (hS:bu.aF 3 8 w aA (J.ab S) S s W.bE) (qZ:bu.aF 3 8 w aA (J.ab M) M m W.bX) (cB:bj.rep.aF 57 56 w aA (J.ab T) T t W.ao)
  (κ:∀ q∈J.ab B,q∈J.ab P→False) (τ:∀ q∈J.ab S,q∈J.ab P→False) (au:∀ q∈J.ab S,q∈J.ab B→False) (aU:∀ q∈J.ab M,q∈J.ab P→False) (bN:∀ q∈J.ab M,q∈J.ab B→False) (cq:∀ q∈J.ab M,q∈J.ab S→False)
  (ew:∀ q∈J.ab T,q∈J.ab P→False) (gB:∀ q∈J.ab T,q∈J.ab B→False) (tj:∀ q∈J.ab T,q∈J.ab S→False) (Tl:∀ q∈J.ab T,q∈J.ab M→False) (hn:ea W.field.wide∧ea W.field.high∧ea W.next∧ea W.now):
  bH w aA ⟨P,B,S,M,T,p,b,s,m,t⟩ W:=by
 refine ⟨cK,bg,hS,qZ,cB, ?_,hn⟩;have aW:=xe P;have bb:=xe B;have df:=xe S;have jy:=xe M;have HC:=xe T;simp only [aY7,aYo]
 grind
theorem bH.aGF {W:ai} {p:List bj} (h:bH w aA a W) (cB:bj.rep.aF 57 56 w aA (J.ab A) A c p) (κ:∀ q∈J.ab A,q∈bH.cR a→False):bH w aA {a with T:=A,t:=c} {W with ao:=p}:=by
 refine ⟨h.P,h.B,h.S,h.M,cB, ?_,h.nums⟩;have hn:=h.apart;have aW:=xe A;have f1:∀ q∈J.ab A,(q∈J.ab a.P→False)∧(q∈J.ab a.B→False)∧(q∈J.ab a.S→False)∧(q∈J.ab a.M→False):=λ q I=>⟨λ h=>κ q I (ZA h),λ h=>κ q I (Zz h),λ h=>κ q I (HO h),λ h=>κ q I (Kt h)⟩;simp only [aY7,aYo] at hn ⊢
 grind
theorem azW (h:q∈bH.cR {a with T:=A,t:=c}):q∈bH.cR a∨q∈J.ab A:=by
 rcases xt.1 h with h | h | h | h | h
 ·exact .inl (ZA h)
 ·exact .inl (Zz h)
 ·exact .inl (HO h)
 ·exact .inl (Kt h)
 ·exact .inr h
structure aOR (a:ai.b7):Prop where
 uD:∀ q∈J.ab a.P,q∈J.ab a.S→False
 aOP:∀ q∈J.ab a.P,q∈J.ab a.M→False
 aOO:∀ q∈J.ab a.P,q∈J.ab a.B→False
 aOQ:∀ q∈J.ab a.P,q∈J.ab a.T→False
 aOX:∀ q∈J.ab a.S,q∈J.ab a.M→False
 aOW:∀ q∈J.ab a.S,q∈J.ab a.B→False
 ST:∀ q∈J.ab a.S,q∈J.ab a.T→False
 aOy:∀ q∈J.ab a.M,q∈J.ab a.B→False
 afK:∀ q∈J.ab a.M,q∈J.ab a.T→False
 aNy:∀ q∈J.ab a.B,q∈J.ab a.T→False
end
section
variable {f:aL} {c:az}
def rB (f:aL) (c:az):Int:=if f.fP c then vM (f.place c) else 0
theorem agX (hf:f.a7=0) (hc:f.fP c=true):(xh (f.place c)== 0)=f.ground c∧(f.ground c=true→vM (f.place c)=f.hB c):=by
 obtain ⟨_,_,_,_,_,g6⟩:=aL.eB hf;have hp:=g6 (f.place c) (by unfold aL.place;exact jk (aL.AD hf hc).1);unfold aL.ground;rw [hc];have:f.place c=0∨f.place c=1∨f.place c=2∨f.place c=3:=by omega
 unfold aL.hB xh vM;rcases this with h | h | h | h<;>rw [h]<;>simp
theorem aHx (hf:f.a7=0) (h:¬ f.et c=0):rB f c=0∧f.ground c=false:=by
 have hc:f.fP c=false:=by
  cases hc:f.fP c with
  | false=>rfl
  | true=>exact absurd (aL.n8 hf hc).1 h
 unfold rB aL.ground;rw [hc];exact ⟨Z,Z⟩
theorem aHw (hf:f.a7=0) (h:f.et c=0):rB f c=vM (f.oE c)∧f.ground c=(xh (f.oE c)== 0):=by
 have hc:=XZ hf h;rw [(aL.n8 hf hc).2];unfold rB;rw [hc];exact ⟨Z,(agX hf hc).1.symm⟩
theorem anX (hf:f.a7=0) (h:f.ground c=true):rB f c=f.hB c:=by
 have hc:=aL.lj h;unfold rB;rw [aYq hc];exact (agX hf hc).2 h
theorem azE (p:Int) (w:World):
  Calls prog 171 #[Φ p] w (λ e w'=>e= .returned (.tuple #[Φ (vM p),Φ (xh p)])∧Ext w w'):=by
 refine ch (n:=12) func171 Z Z Z ?_;refine aw<|va Z<|aJ Z<|av<|aB Z<|aC<|bJ<|av<|aw<|aa (beq Z Z)<|aJ Z<| ?_;refine iE Z (λ hy=> ?_) (λ hy=> ?_)
 ·have aS8:(p == 0)=true:=by simpa using hy
  refine bm<| ?_;refine iE Z (λ aam=> ?_) (λ aam=> ?_)
  ·have aTb:(p == 0)=true:=by simpa using aam
   refine aw<|va Z<|aY Z<|eb<|bD<|f_ Z Z Z<| ?_;exact ⟨by simp_all [vM,xh,tV],(Ext.cH w)⟩
  ·have aTc:(p == 0)=false:=by simpa using aam
   refine aw<|aa (beq Z Z)<|aJ Z<| ?_;refine iE Z (λ ng=> ?_) (λ ng=> ?_)
   ·have aTd:(p == 2)=true:=by simpa using ng
    refine aw<|va Z<|aY Z<|eb<|bD<|f_ Z Z Z<| ?_;exact ⟨by simp_all [vM,xh,tV],(Ext.cH w)⟩
   ·have aTe:(p == 2)=false:=by simpa using ng
    refine aw<|aa (beq Z Z)<|aJ Z<| ?_;refine iE Z (λ jD=> ?_) (λ jD=> ?_)
    ·have aS1:(p == 1)=true:=by simpa using jD
     refine aw<|va Z<|aY Z<|eb<|bD<|f_ Z Z Z<| ?_;exact ⟨by simp_all [vM,xh,tV],(Ext.cH w)⟩
    ·have aS2:(p == 1)=false:=by simpa using jD
     refine fu<|b1<|aX<|aw<|va Z<|aY Z<|f_ Z Z Z<| ?_;exact ⟨by simp_all [vM,xh,tV],(Ext.cH w)⟩
 ·have aS3:(p == 0)=false:=by simpa using hy
  refine rg<|aa (beq Z Z)<|aJ Z<| ?_;refine iE Z (λ aaj=> ?_) (λ aaj=> ?_)
  ·have aS4:(p == 3)=true:=by simpa using aaj
   refine aw<|va Z<|aY Z<|eb<|bD<|f_ Z Z Z<| ?_;exact ⟨by simp_all [vM,xh,tV],(Ext.cH w)⟩
  ·have aS5:(p == 3)=false:=by simpa using aaj
   refine aw<|aa (beq Z Z)<|aJ Z<| ?_;refine iE Z (λ q0=> ?_) (λ q0=> ?_)
   ·have aS6:(p == 2)=true:=by simpa using q0
    refine aw<|va Z<|aY Z<|eb<|bD<|f_ Z Z Z<| ?_;exact ⟨by simp_all [vM,xh,tV],(Ext.cH w)⟩
   ·have aS7:(p == 2)=false:=by simpa using q0
    refine aw<|aa (beq Z Z)<|aJ Z<| ?_;refine iE Z (λ mR=> ?_) (λ mR=> ?_)
    ·have aS9:(p == 1)=true:=by simpa using mR
     refine aw<|va Z<|aY Z<|eb<|bD<|f_ Z Z Z<| ?_;exact ⟨by simp_all [vM,xh,tV],(Ext.cH w)⟩
    ·have aTa:(p == 1)=false:=by simpa using mR
     refine fu<|b1<|aX<|aw<|va Z<|aY Z<|f_ Z Z Z<| ?_;exact ⟨by simp_all [vM,xh,tV],(Ext.cH w)⟩
theorem tT (w0:World) (f:aL) (P F A:Option Addr) (cy gl c b:Nat) (aZ:List Int) (l:List cw) (bp:az) (p:az) (w:World) (fg:Ext w0 w) (hf:f.a7=0) (cK:bu.aK 8 w0 P cy f.a_) (aI:aM w b [Φ f.wide,Φ f.high, .slice P f.a_.length cy,Φ bp.x,Φ bp.y, .slice F aZ.length gl, .slice A l.length c] 249 (0,0)) (hp: -500≤p.x∧p.x≤500∧ -500≤p.y∧p.y≤500):
  Calls prog 139 #[.pointer (bA b), .agg #[Φ p.x,Φ p.y]] w (λ e w'=>e= .returned (Φ (p.y * f.wide+p.x))∧Ext w w'):=by
 obtain ⟨g1,g2,g3,g4,g5,g6⟩:=aL.eB hf;refine ch (n:=16) func139 Z Z Z ?_;refine dZ Z Z λ cG bB aR d' ae=> ?_;have de:=γ fg aR;refine aJ Z<|av<| ?_;refine cO [(1,0),(6,0),(9,0)] [0,1,2,3,4,5,6,7,8,9,10,11] ?_;refine aq Z (λ _=>aj jX Z)<|cf Z Z ae aT Z<|a1 Z Z<|aq Z (λ _=>bx Z)<|aq Z (λ _=>aj ah7 Z)<|aq Z (λ _=>aj NS Z)<| ?_;have aI:=aI.later aR;refine cf Z Z aI aT Z<|aq Z (λ _=>ER Z Z (pk ((by have:=baX (show p.y≤500 by omega) g2 (by omega) (by omega);have:=baX (show -p.y≤500 by omega) g2 (by omega) (by omega);rw [Int.neg_mul] at this;omega))))<|aq Z (λ _=>aj jW Z)<|cf Z Z ae aT Z<|aq Z (λ _=>bad Z Z (pk ((by have:=baX (show p.y≤500 by omega) g2 (by omega) (by omega);have:=baX (show -p.y≤500 by omega) g2 (by omega) (by omega);rw [Int.neg_mul] at this;omega))))<|aq Z (λ _=>ee Z)<|fn λ eC dm=> ?_;refine aX<|rt<|b_ Z Z<| ?_;exact ⟨Z,γ aR dm⟩
theorem acK (w0:World) (f:aL) (P F A:Option Addr) (cy gl c b:Nat) (aZ:List Int) (l:List cw) (bp:az) (p:az) (w:World) (fg:Ext w0 w) (hf:f.a7=0) (cK:bu.aK 8 w0 P cy f.a_) (aI:aM w b [Φ f.wide,Φ f.high, .slice P f.a_.length cy,Φ bp.x,Φ bp.y, .slice F aZ.length gl, .slice A l.length c] 249 (0,0)):
  Calls prog 137 #[.pointer (bA b), .agg #[Φ p.x,Φ p.y]] w (λ e w'=>e= .returned (.tuple #[Φ (rB f p), .bool (f.ground p)])∧Ext w w'):=by
 obtain ⟨g1,g2,g3,g4,g5,g6⟩:=aL.eB hf;refine ch (n:=28) func137 Z Z Z ?_;refine dZ Z Z λ cG bB aR d' ae=> ?_;have de:=γ fg aR;refine va Z<|aJ Z<|av<| ?_;refine cO [(3,0),(4,0),(5,0)] [0,1,2,3,4,5,6,7,8,9,10] ?_;refine a1 Z Z<|aq Z (λ _=>bx Z)<|aq Z (λ _=>aj ah7 Z)<| ?_;have aI:=aI.later aR;refine dT Z (λ _ x=>ax Z ((aI.later x).par [Φ f.wide,Φ f.high, .slice P f.a_.length cy] mo mq Z))<|dT Z (λ _ x=>ax Z ((ae.later x).all cA b3))<|qW Z Z s6 Z (λ _ x=>uM f p _ _ _ (cK.keep (γ de x))) Z<|a1 Z Z<|aq Z (λ _=>ex Z Z)<|aq Z (λ _=>ex Z Z)<|aq Z (λ _=>ee Z)<|aq Z (λ _=>ee Z)<|fn λ eC dm=> ?_;have bO:=γ de dm;refine aX<|av<|aB Z<|cS Z Z<|aC<| ?_;refine eU Z (λ hz=> ?_) (λ hz=> ?_)
 ·have OW:=aHx hf hz;refine aw<|va Z<|aY Z<|bD<|f_ Z Z Z<| ?_;exact ⟨by rw [OW.1,OW.2];rfl,γ aR dm⟩
 ·have OW:=aHw hf hz;refine bm<|aB Z<|cM ayO Z (azE (f.oE p) _) λ zS fi=> ?_;refine vm Z<|bs Z Z<|bs Z Z<|va Z<|aJ Z<|aB Z<|vm Z<|aa (beq Z Z)<|va Z<|aY Z<|f_ Z Z Z<| ?_;exact ⟨by rw [OW.1,OW.2];rfl,γ (γ aR dm) fi⟩
theorem an9 (p:az) (w:World) (hp: -100000≤p.x∧p.x≤100000∧ -100000≤p.y∧p.y≤100000):
  Calls prog 138 #[.agg #[Φ p.x,Φ p.y]] w (λ e w'=>e= .returned (.agg #[Φ p.x,Φ (p.y - 1),Φ (p.x - 1),Φ p.y,Φ (p.x+1),Φ p.y,Φ p.x,Φ (p.y+1)])∧Ext w w'):=by
 refine ch (n:=28) func138 Z Z Z ?_;refine dZ Z Z λ cG bB aR d' ae=> ?_;have hE:=ae.lt;refine cU ayS Z λ eC cJ bt hP ar=> ?_;have bO:=γ aR bt;refine aC<|aw<|aa (aj jW Z)<| ?_;have ae:=ae.later bt;refine bk Z ae aT Z<|aa (aj jX Z)<|bk Z ae aT Z<|aa (kx Z Z gD)<|aa (v:= .agg #[Φ p.x,Φ (p.y - 1)]) (eu Z)<|aa (aj jW Z)<|bk Z ae aT Z<|aa (kx Z Z gD)<|aa (aj jX Z)<|bk Z ae aT Z<|aa (v:= .agg #[Φ (p.x - 1),Φ p.y]) (eu Z)<|aa (aj jW Z)<|bk Z ae aT Z<|gx Z Z<|aa (aj jX Z)<|bk Z ae aT Z<|aa (v:= .agg #[Φ (p.x+1),Φ p.y]) (eu Z)<|aa (aj jW Z)<|bk Z ae aT Z<|aa (aj jX Z)<|bk Z ae aT Z<|gx Z Z<|aa (v:= .agg #[Φ p.x,Φ (p.y+1)]) (eu Z)<|aa (v:= .agg #[Φ p.x,Φ (p.y - 1),Φ (p.x - 1),Φ p.y,Φ (p.x+1),Φ p.y,Φ p.x,Φ (p.y+1)]) (eu Z)<| ?_;refine cF Z Z ar Z ail Z Z λ hG UI ar=> ?_;have c6:=Ext.mod bO UI bo;refine sk<|cz (.cell Z (ar.all ayZ ail) .nil)<| ?_;exact ⟨Z,c6⟩
end
theorem s9 {P:Program} {n:Nat} {ops:Array Oper} {Q:Exit→Act→World→Prop} {aS:Nat→Nat} {bY:List Nat} {E:List (Nat×Value)} {w0:World} {i d:Nat} {op:Op} {ty:TypeId} {pos:String} {af:Array Edge} {j:Nat} {q:Bool} {u:Value} {dF:Oper} {jV:Nat} (hi:ops[i]? =some ⟨some d,op,ty,pos,af,some (j,q)⟩) (ak:Nat.ble (aS i) 1=true) (ay:ops[j]? =some dF) (oJ:dF.dst=some jV) (ag:look E jV=some (gQ false u)) (hd:Nat.blt d n=true)
  (h:gI P n ops Q aS bY ((d,undef)::E) w0):gI P n ops Q aS (i::bY) E w0:=λ a ha=>by
 have κ:=ha.g _ _ ag;simp only [gQ,aY8,aZI] at κ;have hw:Region.wanted ⟨some d,op,ty,pos,af,some (j,q)⟩ (yielded ops a.tmps)=false:=by simp [Region.wanted,yielded,ay,oJ,κ,undef]
 have ak:=aZ4 ak;rcases aZc 0 (aS i) with aG | aG
 ·exact ⟨_,hi, .inr (.inl ⟨by omega,undef, .inr ⟨hw,rfl⟩,h _ (ha.put hd _)⟩)⟩
 ·exact ⟨_,hi, .inl ⟨by omega,undef, .inr ⟨hw,rfl⟩,h _ (ha.put hd _)⟩⟩
theorem acP (w0:World) (f:aL) (P F A:Option Addr) (cy gl c b:Nat) (aZ:List Int) (l:List cw) (bp:az) (p:az) (d:Int) (w:World) (fg:Ext w0 w) (hf:f.a7=0) (cK:bu.aK 8 w0 P cy f.a_) (aI:aM w b [Φ f.wide,Φ f.high, .slice P f.a_.length cy,Φ bp.x,Φ bp.y, .slice F aZ.length gl, .slice A l.length c] 249 (0,0)) (ag:w0.heap.size≤b) (Eo:cw.rep.aF 304 32 w w0.heap.size (J.ab A) A c l) (TL:∀ q∈J.ab A,q=b→False) (di:∀ y∈l,y.ok) (ah:l.length≤1000000) (hp: -500≤p.x∧p.x≤500∧ -500≤p.y∧p.y≤500) (aH: -500≤bp.x∧bp.x≤500∧ -500≤bp.y∧bp.y≤500) (hd:0≤d∧d≤100000):
  Calls prog 169 #[.pointer (bA b), .agg #[Φ p.x,Φ p.y],Φ d] w (λ e w'=>∃ bQ cc,e= .returned (.tuple #[])∧aM w' b [Φ f.wide,Φ f.high, .slice P f.a_.length cy,Φ bp.x,Φ bp.y, .slice F aZ.length gl, .slice bQ ((cv.push cw.all l ⟨p,d,d+aL.l1 bp p⟩).length) cc] 249 (0,0)∧cw.rep.aF 304 32 w' w0.heap.size (J.ab bQ) bQ cc (cv.push cw.all l ⟨p,d,d+aL.l1 bp p⟩)∧(∀ q∈J.ab bQ,q=b→False)∧(∀ q∈J.ab bQ,q∈J.ab A∨w.heap.size≤q)∧Mod (b::J.ab A) w w'):=by
 have LF:=aI.lt;obtain ⟨g1,g2,g3,g4,g5,g6⟩:=aL.eB hf;have aSD:=kn (bp.x - p.x);have aSE:=kn (bp.y - p.y);refine ch (n:=32) func169 Z Z Z ?_;refine dZ Z Z λ cG bB aR d' ae=> ?_;have de:=(Mod.cH (b::J.ab A) w).trans (Mod.a8 aR);have hE:=ae.lt;refine aC<|av<| ?_;refine cO [(0,0),(4,0),(5,0)] [0,1,2,3,4,5,6,7,8,9,10,11,12] ?_;refine dT Z (λ _ x=>ax Z ((ae.later x).all cA b3))<|a1 Z Z<|aq Z (λ _=>bx Z)<|aq Z (λ _=>aj aip Z)<| ?_;have aI:=aI.later aR;refine dT Z (λ _ x=>ax Z ((aI.later x).par [Φ bp.x,Φ bp.y] cA b3 Z))<|qW Z Z aiq Z (λ _ x=>aga p bp _ (by omega) (by omega)) Z<|a1 Z Z<|aq Z (λ _=>ex Z Z)<|aq Z (λ _=>ex Z Z)<|aq Z (λ _=>ex Z Z)<|aq Z (λ _=>ee Z)<|aq Z (λ _=>ee Z)<|aq Z (λ _=>ee Z)<|fn λ eC dm=> ?_;have:=dm.size;have bO:=de.trans (Mod.a8 dm);refine aX<| ?_;refine cO [(4,0),(12,3)] [0,1,2,3,4,5,6,7,8,9,10,11,12] ?_;refine a1 Z Z<|aq Z (λ _=>bx Z)<|aq Z (λ _=>aj HL Z)<|aq Z (λ _=>UT (λ w=>by kernel_rfl) Z)<| ?_;have ae:=ae.later dm;refine dT Z (λ _ x=>ax Z ((ae.later x).all cA b3))<|a1 Z Z<|a1 Z Z<|a1 Z Z<|aq Z (λ _=>ER Z Z gD)<|aq Z (λ _=>bad Z Z gD)<|r9 (v:= .agg #[Φ p.x,Φ p.y,Φ d,Φ (d+(2 * (cL (bp.x - p.x)+cL (bp.y - p.y))))]) Z Z (λ _=>lH Z (by kernel_rfl)) Z<|aq Z (λ _=>UT (λ w=>by kernel_rfl) Z)<| ?_;have Eo:=Eo.later (γ aR dm);have aI:=aI.later dm;refine dE Z Z Z λ wC pL Q hK=>ca ay9 Z Z ((aL8 b A c w0.heap.size l (Φ f.wide) (Φ f.high) (.slice P f.a_.length cy) (Φ bp.x) (Φ bp.y) (.slice F aZ.length gl) ((⟨⟨p.x,p.y⟩,d,d+(2 * (cL (bp.x - p.x)+cL (bp.y - p.y)))⟩:cw)) _ (aI.later pL) (Eo.later pL) di TL ⟨b8.2 (by dsimp only;omega),b8.2 (by dsimp only;omega),b8.2 (by dsimp only;omega),b8.2 (by dsimp only;omega)⟩ ah (by have:=pL.size;omega)).mono ?_);rintro e hG ⟨aqE,avd,rfl,W6,Xf,akf,ana⟩;refine ⟨_,Z,hK _ _ ?_⟩;have:=pL.size;have k2:=bO.trans (Mod.a8 pL);have c6:=k2.md ana (λ q I=> .inl I);refine fn λ Gr qy=> ?_;have mF:=c6.trans (Mod.a8 qy);refine ne<|cz .nil<| ?_;have Xf:=Xf.later qy;have W6:=W6.later qy;exact ⟨aqE,avd,Z,W6,Xf,λ q I ag=>by exfalso;(exact aYC (akf q I) (λ alZ=>by (exact TL q alZ ag)) (λ alZ=>by omega)),λ q I=>(akf q I).imp id λ h=>by omega,mF⟩
theorem aH3 (c:az) (w:World):(Instr.index 244 (.agg #[Φ c.x,Φ (c.y - 1),Φ (c.x - 1),Φ c.y,Φ (c.x+1),Φ c.y,Φ c.x,Φ (c.y+1)]) (Φ 0)).run prog w= .ok (.agg #[Φ c.x,Φ (c.y - 1)]) w:=by kernel_rfl
theorem aH4 (c:az) (w:World):(Instr.index 244 (.agg #[Φ c.x,Φ (c.y - 1),Φ (c.x - 1),Φ c.y,Φ (c.x+1),Φ c.y,Φ c.x,Φ (c.y+1)]) (Φ 1)).run prog w= .ok (.agg #[Φ (c.x - 1),Φ c.y]) w:=by kernel_rfl
theorem aH5 (c:az) (w:World):(Instr.index 244 (.agg #[Φ c.x,Φ (c.y - 1),Φ (c.x - 1),Φ c.y,Φ (c.x+1),Φ c.y,Φ c.x,Φ (c.y+1)]) (Φ 2)).run prog w= .ok (.agg #[Φ (c.x+1),Φ c.y]) w:=by kernel_rfl
theorem aH6 (c:az) (w:World):(Instr.index 244 (.agg #[Φ c.x,Φ (c.y - 1),Φ (c.x - 1),Φ c.y,Φ (c.x+1),Φ c.y,Φ c.x,Φ (c.y+1)]) (Φ 3)).run prog w= .ok (.agg #[Φ c.x,Φ (c.y+1)]) w:=by kernel_rfl
theorem aoa (c:az) (j:Nat) (ay:j<4) {cE:az} (h:(eK c).getD j default=cE) (w:World):(Instr.index 244 (.agg #[Φ c.x,Φ (c.y - 1),Φ (c.x - 1),Φ c.y,Φ (c.x+1),Φ c.y,Φ c.x,Φ (c.y+1)]) (Φ (j:Int))).run prog w= .ok (.agg #[Φ cE.x,Φ cE.y]) w:=by
 subst h;have:j=0∨j=1∨j=2∨j=3:=by omega
 rcases this with rfl | rfl | rfl | rfl
 ·exact aH3 c w
 ·exact aH4 c w
 ·exact aH5 c w
 ·exact aH6 c w
theorem aoU {c:az} {j:Nat} (ay:j<4):c.x - 1≤((eK c).getD j default).x∧((eK c).getD j default).x≤c.x+1∧c.y - 1≤((eK c).getD j default).y∧((eK c).getD j default).y≤c.y+1:=by
 have:j=0∨j=1∨j=2∨j=3:=by omega
 rcases this with rfl | rfl | rfl | rfl<;>simp [eK]<;>omega
theorem an8 (w0:World) (f:aL) (P F A:Option Addr) (cy gl c b:Nat) (aZ:List Int) (l:List cw) (bp:az) (a dO:az) (w:World) (fg:Ext w0 w) (hf:f.a7=0) (cK:bu.aK 8 w0 P cy f.a_) (aI:aM w b [Φ f.wide,Φ f.high, .slice P f.a_.length cy,Φ bp.x,Φ bp.y, .slice F aZ.length gl, .slice A l.length c] 249 (0,0)) (ag:w0.heap.size≤b) (cI:bu.aF 3 8 w w0.heap.size (J.ab F) F gl aZ) (Eo:cw.rep.aF 304 32 w w0.heap.size (J.ab A) A c l) (aj5:∀ q∈J.ab F,q=b→False) (TL:∀ q∈J.ab A,q=b→False) (aBU:∀ q∈J.ab A,q∈J.ab F→False) (hs:uD f a bp aZ l dO []) (hv:yO f bp aZ) (e_:f.fP bp=true) (aBC:l.length+5 * und aZ≤20000):
  Calls prog 170 #[.pointer (bA b)] w (λ e w'=>∃ S9 bQ cc wa,e= .returned (.tuple #[])∧aM w' b [Φ f.wide,Φ f.high, .slice P f.a_.length cy,Φ bp.x,Φ bp.y, .slice F S9.length gl, .slice bQ ((wa:List cw).length) cc] 249 (0,0)∧bu.aF 3 8 w' w0.heap.size (J.ab F) F gl S9∧qJ f a bp S9∧Mod (b::(J.ab F++J.ab A)) w w'):=by
 obtain ⟨g1,g2,g3,g4,g5,g6⟩:=aL.eB hf;have FI:∀ q∈b::(J.ab F++J.ab A),w0.heap.size≤q:=λ q I=>(aYk.1 I).elim (λ h=>by omega) λ h=>(aYo.1 h).elim (λ h=>(cI.lt q h).1) λ h=>(Eo.lt q h).1;obtain ⟨_,_,aWS,aWT,aWU,aWV⟩:=aL.idx hf e_;refine ch (n:=108) func170 Z Z Z ?_;refine aB Z<|vm Z<|aa (bx Z)<|aa (aj aip Z)<|aa (ax Z (aI.par [Φ bp.x,Φ bp.y] cA b3 Z))<|cM n_ Z (tT w0 f P F A cy gl c b aZ l bp bp _ (Ext.mod fg (Mod.cH (b::(J.ab F++J.ab A)) w) FI) hf cK aI (by first | omega | (dsimp only;omega))) λ cG dS=> ?_;have de:=(Mod.cH (b::(J.ab F++J.ab A)) w).trans (Mod.a8 dS);refine aJ Z<|bJ<| ?_;have aI:=aI.later dS;have cI:=cI.later dS;have Eo:=Eo.later dS;refine eV (λ cp cn aP=>∃ fB:List Int,∃ fo:List cw,∃ cb:Option Addr,∃ c1:Nat,∃ eX:az,cn= [(0, .pointer (bA b)),(2,Φ (bp.y * f.wide+bp.x))]∧cp=(fo.length+5 * und fB)∧Mod (b::(J.ab F++J.ab A)) w aP∧aM aP b [Φ f.wide,Φ f.high, .slice P f.a_.length cy,Φ bp.x,Φ bp.y, .slice F fB.length gl, .slice cb fo.length c1] 249 (0,0)∧bu.aF 3 8 aP w0.heap.size (J.ab F) F gl fB∧cw.rep.aF 304 32 aP w0.heap.size (J.ab cb) cb c1 fo∧(uD f a bp fB fo eX [])∧(yO f bp fB)∧(fo.length+5 * und fB≤20000)∧(∀ q∈J.ab cb,q∈J.ab A∨w.heap.size≤q)∧(∀ q∈J.ab F,q=b→False)∧(∀ q∈J.ab cb,q=b→False)∧(∀ q∈J.ab cb,q∈J.ab F→False)) _ _ ⟨aZ,l,A,c,dO,Z,Z,de,aI,cI,Eo,hs,hv,aBC,λ q I=> .inl I,aj5,TL,aBU⟩ (qp Z) ?_;rintro Ll aOp BI ⟨fB,fo,cb,c1,eX,rfl,rfl,mg,cC,lX,pY,hN,qd,H6,aaR,NI,YC,Sx⟩;have:=mg.size;have aIe:=cC.lt;have Gf:=bM lX.lt;have Gh:=bM pY.lt;obtain ⟨aWW,aWX,aWY⟩:=kR hf hN.len e_;refine av<|av<| ?_;rcases agf (decide (0<(fo.length:Int))) ((decide (f.aD fB bp<0)) || (decide ((fo.getD 0 default).all≤f.aD fB bp))) with ck | ⟨ck,vL⟩ | ⟨ck,vL⟩
 ·have aaM:=aHz hN qd (by have tj:=bak ck;omega);refine cO [(3,0),(4,0),(10,0),(13,0),(19,0),(22,0),(26,0),(29,0)] [0,1,2,3,4,5,6,7,8,9,10,11,12,13,14,15,16,17,18,19,20,21,22,23,24,25,26,27,28,29,30,31,32] ?_;refine a1 Z Z<|aq Z (λ _=>bx Z)<|aq Z (λ _=>aj HL Z)<|cf Z Z cC qR Z<|qW Z Z NP Z (λ _ x=>Qv _ fo.length _ _) Z<|aq Z (λ _=>gO Z Z)<|aq Z (λ _=>gw (ep Z ck))<|c0 Z Z<|c0 Z Z<|c0 Z Z<|jh Z Z<|c0 Z Z<|c0 Z Z<|jh Z Z<|c0 Z Z<|c0 Z Z<|s9 Z Z Z Z Z Z<|s9 Z Z Z Z Z Z<|s9 Z Z Z Z Z Z<|s9 Z Z Z Z Z Z<|s9 Z Z Z Z Z Z<|s9 Z Z Z Z Z Z<|s9 Z Z Z Z Z Z<|s9 Z Z Z Z Z Z<| ?_;refine s9 Z Z Z Z Z Z<|s9 Z Z Z Z Z Z<|s9 Z Z Z Z Z Z<|s9 Z Z Z Z Z Z<|s9 Z Z Z Z Z Z<|s9 Z Z Z Z Z Z<|s9 Z Z Z Z Z Z<|c0 Z Z<|aq Z (λ _=>fR Z Z)<|fn λ L0 wK=> ?_;have yk:=mg.trans (Mod.a8 wK);refine aX<|gj Z<|dn<|dk<|dG<|dj<|ne<|cz .nil<| ?_;have pY:=pY.later wK;have lX:=lX.later wK;have cC:=cC.later wK;exact ⟨fB,cb,c1,fo,Z,cC,lX,aaM,yk⟩
 ·have AZ:0<fo.length:=by simpa using ck
  obtain ⟨cj,Db⟩:∃ cj,fo.getD 0 default=cj:=⟨_,rfl⟩;have Ud:cj∈fo:=by rw [← Db];exact jk AZ
  obtain ⟨aVl,aVm,aVn,aVo,aVp,aVq,aVr,aVs,aVt⟩:=hN.node hf e_ Ud;have Da:=aL.lj (hN.all cj Ud).2;obtain ⟨aX3,aX4,aX5⟩:=kR hf hN.len Da;have tv:f.aD fB bp<0∨cj.all≤f.aD fB bp:=by rw [Db] at vL;rw [aYZ,aYB,aYB] at vL;exact vL
  refine cO [(3,0),(4,0),(10,0),(13,0),(19,0),(22,0),(26,0),(29,0)] [0,1,2,3,4,5,6,7,8,9,10,11,12,13,14,15,16,17,18,19,20,21,22,23,24,25,26,27,28,29,30,31,32] ?_;have Fj:=(kR hf hN.len e_).1;refine a1 Z Z<|aq Z (λ _=>bx Z)<|aq Z (λ _=>aj HL Z)<|cf Z Z cC qR Z<|qW Z Z NP Z (λ _ x=>Qv _ fo.length _ _) Z<|aq Z (λ _=>gO Z Z)<|aq Z (λ _=>gw (ep Z ck))<|fy Z Z Z<|b0 Z Z (λ hc _=>bx Z)<|b0 Z Z (λ hc _=>aj p9 Z)<|dL Z Z (λ hc _ x=>ax Z ((cC.later x).one c8 Z))<|fy Z Z Z<|b0 Z Z (λ hc _=>cl ((bp.y * f.wide+bp.x).toNat) underlying22 dg Z Z (lX.has.bT (aV ((bp.y * f.wide+bp.x).toNat) (by omega))) (by (try simp only [bn] at hc);omega) (by omega))<|dL Z Z (λ hc _ x=>ax Z (J.aK.fh fY ((lX.later x).has.cD (aV ((bp.y * f.wide+bp.x).toNat) (by omega))) (CM hf hN.len e_) Z aT))<|b0 Z Z (λ hc _=>blt Z Z)<|fy Z Z Z<|fy Z Z Z<|b0 Z Z (λ hc _=>bx (gt hc Z))<|b0 Z Z (λ hc _=>aj HL (gt hc Z))<|dL Z Z (λ hc _ x=>ax (gt hc Z) ((cC.later x).one qR Z))<|b0 Z Z (λ hc _=>cl 0 underlying247 p_ (gt hc Z) Z (pY.has.bT (aV 0 (by (try simp only [bn] at hc);omega))) Z (by (try simp only [bn] at hc);omega))<|b0 Z Z (λ hc _=>aj S0 (gt hc Z))<|dL Z Z (λ hc _ x=>ax (gt hc Z) (J.aK.lg H9 ((pY.later x).has.cD (aV 0 (by (try simp only [bn] at hc);omega))) 3 (dt (l:=fo) (u:=default) (by (try simp only [bn] at hc);omega)) Z aT))<|fy Z Z Z<| ?_;refine b0 Z Z (λ hc _=>bx (gt hc Z))<|b0 Z Z (λ hc _=>aj p9 (gt hc Z))<|dL Z Z (λ hc _ x=>ax (gt hc Z) ((cC.later x).one c8 Z))<|fy Z Z Z<|b0 Z Z (λ hc _=>cl ((bp.y * f.wide+bp.x).toNat) underlying22 dg (gt hc Z) (gt hc Z) (lX.has.bT (aV ((bp.y * f.wide+bp.x).toNat) (by omega))) (by (try simp only [bn] at hc);omega) (by omega))<|dL Z Z (λ hc _ x=>ax (gt hc Z) (J.aK.fh fY ((lX.later x).has.cD (aV ((bp.y * f.wide+bp.x).toNat) (by omega))) (CM hf hN.len e_) Z aT))<|b0 Z Z (λ hc _=>ble (gt hc Z) (gt hc Z))<|b0 Z Z (λ hc _=>eW Z Z Z Z)<|aq Z (λ _=>iK Z (ep Z vL))<|fn λ Gq qx=> ?_;have:=qx.size;have m4:=mg.trans (Mod.a8 qx);refine aX<|eT Z<|bm<|bJ<|aB Z<|aa (bx Z)<|aa (aj HL Z)<|aa (UT (λ w=>by kernel_rfl) Z)<| ?_;have pY:=pY.later qx;have cC:=cC.later qx;have ajw:=aL7 b cb fo.length c1 w0.heap.size fo (Φ f.wide) (Φ f.high) (.slice P f.a_.length cy) (Φ bp.x) (Φ bp.y) (.slice F fB.length gl) _ cC pY (λ y aE=>(hN.node hf e_ aE).2.2.2.2.2.2.2.2) rfl YC AZ (by omega);rw [Db] at ajw;refine ca aza Z Z ((ajw).mono ?_);rintro e nR ⟨rfl,sR,JP,Dp⟩;refine cu ?_;have:=Dp.size;have eZ:=m4.md Dp (λ q I=>(aYk.1 I).elim (λ h=> .inl (by rw [h];exact aYE)) (λ h=>(aaR q h).imp (λ h=>aYm _ (aY5 _ h)) id));refine aa (apw (λ w=>by kernel_rfl) Z)<|cU ah0 Z λ ua yQ cX amF ir=> ?_;have kM:=eZ.trans (Mod.a8 cX);refine cF Z Z ir Z p_ Z Z λ ud jI ir=> ?_;have hI:=kM.md jI (λ q I=> .inr (by have:=aYf.1 I;omega));refine aC<|av<|av<| ?_;refine cO [(3,0),(6,0),(7,0),(9,0)] [0,1,2,3,4,5,6,7,8,9,10] ?_;refine a1 Z Z<|aq Z (λ _=>bx Z)<|aq Z (λ _=>aj p9 Z)<| ?_;have sR:=(sR.later cX).mod jI aO;refine cf Z Z sR c8 Z<|a1 Z Z<|aq Z (λ _=>aj Y6 Z)<|dT Z (λ _ x=>ax Z ((ir.later x).par [Φ cj.cell.x,Φ cj.cell.y] cA b3 Z))<|qW Z Z n_ Z (λ _ x=>tT w0 f P F cb cy gl c1 b fB (cv.pF cw.all fo) bp cj.cell _ (γ (Ext.mod fg hI FI) x) hf cK (sR.later x) (by first | omega | (dsimp only;omega))) Z<| ?_;have lX:=(((lX.later qx).mod Dp (λ q I h=>(aYk.1 h).elim (λ h=>NI q I h) (λ h=>Sx q h I))).later cX).mod jI (bU Gf);refine aq Z (λ _=>cl ((cj.cell.y * f.wide+cj.cell.x).toNat) underlying22 dg Z Z (lX.has.bT (aV ((cj.cell.y * f.wide+cj.cell.x).toNat) (by have bw:=(kR hf hN.len Da).1;omega))) (by omega) (by have bw:=(kR hf hN.len Da).1;omega))<|dT Z (λ _ x=>ax Z (J.aK.fh fY ((lX.later x).has.cD (aV ((cj.cell.y * f.wide+cj.cell.x).toNat) (by have bw:=(kR hf hN.len Da).1;omega))) (CM hf hN.len Da) Z aT))<|aq Z (λ _=>jg Z Z)<|fn λ Gs nT=> ?_;have oy:=hI.trans (Mod.a8 nT);refine aX<| ?_;refine J9 Z (λ tl=> ?_) (λ tl=> ?_)
  ·have ak:=tl;refine dn<|dk<|dj<| ?_;have sR:=sR.later nT;have lX:=lX.later nT;have JP:=((JP.later cX).mod jI (bU Gh)).later nT;exact om _ _ ⟨fB,cv.pF cw.all fo,cb,c1,eX,Z,Z,oy,(by first | exact sR | (rw [akw];exact sR)),lX,JP,hN.aJw AZ (by rw [Db];exact ak),qd,by rw [cv.LB];omega,aaR,NI,YC,Sx⟩ (by first | (rw [cv.LB];omega) | omega) (qp Z)
  ·have ak:f.aD fB cj.cell<0:=by omega
   obtain ⟨hO,alg⟩:=hN.new hf (aL.U3 f bp) AZ (by rw [Db];exact ak);rw [Db] at hO alg;have FH:=aLa hN hf AZ Db ak qd tv;refine bm<|av<| ?_;refine cO [(3,0),(6,0),(7,0),(9,0),(11,3)] [0,1,2,3,4,5,6,7,8,9,10,11] ?_;refine a1 Z Z<|aq Z (λ _=>bx Z)<|aq Z (λ _=>aj p9 Z)<| ?_;have sR:=sR.later nT;refine cf Z Z sR c8 Z<|a1 Z Z<|aq Z (λ _=>aj Y6 Z)<| ?_;have ir:=ir.later nT;refine dT Z (λ _ x=>ax Z ((ir.later x).par [Φ cj.cell.x,Φ cj.cell.y] cA b3 Z))<|qW Z Z n_ Z (λ _ x=>tT w0 f P F cb cy gl c1 b fB (cv.pF cw.all fo) bp cj.cell _ (γ (Ext.mod fg oy FI) x) hf cK (sR.later x) (by first | omega | (dsimp only;omega))) Z<|aq Z (λ _=>aj air Z)<|cf Z Z ir aT Z<| ?_;have lX:=lX.later nT;refine aq Z (λ _=>cl ((cj.cell.y * f.wide+cj.cell.x).toNat) underlying22 dg Z Z (lX.has.bT (aV ((cj.cell.y * f.wide+cj.cell.x).toNat) (by have bw:=(kR hf hN.len Da).1;omega))) (by omega) (by have bw:=(kR hf hN.len Da).1;omega))<|dE Z Z Z λ wG fE Q hK=>so (q':=cj.aZ) (j:=0) (i:=((cj.cell.y * f.wide+cj.cell.x).toNat)) (lX.later fE) J.dQ (CM hf hN.len Da) Z Z Z Z (λ _ cs h=>by have rz:=(show _∧_ from h).2;obtain rfl:=fY h;exact ⟨rfl,b8.2 (by omega)⟩) Z Z dg λ L2 qg XG=>hK _ _ ?_;have mH:=oy.trans (Mod.a8 fE);have vw:=mH.md qg (λ q I=> .inl (aYm _ (aZJ _ I)));refine fn λ BH hq=> ?_;have nA:=vw.trans (Mod.a8 hq);refine aX<|aw<|aa (aj Y6 Z)<| ?_;have ir:=ir.later fE;have NJ:∀ q∈J.ab F,q=yQ→False:=λ q I ag=>by (have:=Gf q I;omega)
   have ir:=(ir.mod qg (λ I=>NJ _ I rfl)).later hq;refine aa (ax Z (ir.par [Φ cj.cell.x,Φ cj.cell.y] cA b3 Z))<| ?_;have XG:=XG.later hq;have KU:∃ CJ,fB.set (f.at_ cj.cell) cj.aZ=CJ:=⟨_,rfl⟩;obtain ⟨CJ,KU⟩:=KU;rw [KU] at hO alg FH;have akw:CJ.length=fB.length:=by rw [← KU,aYn]
   have ja:bu.aF 3 8 BH w0.heap.size (J.ab F) F gl CJ:=by rw [← KU];exact XG
   have aB5:f.aD CJ cj.cell=cj.aZ:=by rw [← KU];exact aL.Te hf hN.len Da
   refine cM ais Z (an9 cj.cell _ (by first | omega | (dsimp only;omega))) λ L6 kp=> ?_;have wP:=nA.trans (Mod.a8 kp);refine vm Z<|aC<|bJ<| ?_;have dA:=(γ hq kp);have sR:=((sR.later fE).mod qg (λ I=>NI _ I rfl)).later dA;have JP:=((((JP.later cX).mod jI (bU Gh)).later (γ nT fE)).mod qg Sx).later dA;have ja:=ja.later kp;have ir:=ir.later kp;refine eV (λ cp cn aP=>∃ j:Nat,∃ kU:List cw,∃ dp:Option Addr,∃ c2:Nat,cn= [(0, .pointer (bA b)),(2,Φ (bp.y * f.wide+bp.x)),(3, .pointer (bA yQ)),(14, .pointer (bA b)),(15, .pointer (bA b)),(16, .pointer (some ⟨b,6,none⟩)),(17, .slice cb fo.length c1),(18,Φ (fo.length:Int)),(19, .bool (decide (0<(fo.length:Int)))),(20, .bool true),(21, .pointer (bA b)),(22, .pointer (bA b)),(23, .pointer (some ⟨b,5,none⟩)),(24, .slice F fB.length gl),(25,Φ (bp.y * f.wide+bp.x)),(26, .pointer (some ⟨fN F,mA F+((bp.y * f.wide+bp.x).toNat) * 1,none⟩)),(27,Φ (f.aD fB bp)),(28, .bool (decide (f.aD fB bp<0))),(29, .bool (decide (f.aD fB bp<0))),(30,gQ ((decide (f.aD fB bp<0))== false) (.pointer (bA b))),(31,gQ ((decide (f.aD fB bp<0))== false) (.pointer (bA b))),(32,gQ ((decide (f.aD fB bp<0))== false) (.pointer (some ⟨b,6,none⟩))),(33,gQ ((decide (f.aD fB bp<0))== false) (.slice cb fo.length c1)),(34,gQ ((decide (f.aD fB bp<0))== false) (.pointer (some ⟨fN cb,mA cb+0 * 4,none⟩))),(35,gQ ((decide (f.aD fB bp<0))== false) (.pointer (some ⟨fN cb,mA cb+0 * 4+3,none⟩))),(36,gQ ((decide (f.aD fB bp<0))== false) (Φ ((fo.getD 0 default).all))),(37,gQ ((decide (f.aD fB bp<0))== false) (.pointer (bA b))),(38,gQ ((decide (f.aD fB bp<0))== false) (.pointer (bA b))),(39,gQ ((decide (f.aD fB bp<0))== false) (.pointer (some ⟨b,5,none⟩))),(40,gQ ((decide (f.aD fB bp<0))== false) (.slice F fB.length gl)),(41,gQ ((decide (f.aD fB bp<0))== false) (Φ (bp.y * f.wide+bp.x))),(42,gQ ((decide (f.aD fB bp<0))== false) (.pointer (some ⟨fN F,mA F+((bp.y * f.wide+bp.x).toNat) * 1,none⟩))),(43,gQ ((decide (f.aD fB bp<0))== false) (Φ (f.aD fB bp))),(44,gQ ((decide (f.aD fB bp<0))== false) (.bool (decide ((fo.getD 0 default).all≤f.aD fB bp)))),(45, .bool ((decide (f.aD fB bp<0)) || (decide ((fo.getD 0 default).all≤f.aD fB bp)))),(46, .bool true),(47, .pointer (bA b)),(48, .pointer (bA b)),(49, .pointer (some ⟨b,6,none⟩)),(50, .iface 302 (.pointer (some ⟨b,6,none⟩))),(51, .iface 304 (.agg #[Φ cj.cell.x,Φ cj.cell.y,Φ cj.aZ,Φ cj.all])),(52, .agg #[Φ cj.cell.x,Φ cj.cell.y,Φ cj.aZ,Φ cj.all]),(53, .pointer (bA b)),(54, .pointer (bA b)),(55, .pointer (some ⟨b,5,none⟩)),(56, .slice F fB.length gl),(57, .pointer (bA b)),(58, .pointer (bA yQ)),(59, .agg #[Φ cj.cell.x,Φ cj.cell.y]),(60,Φ (cj.cell.y * f.wide+cj.cell.x)),(61, .pointer (some ⟨fN F,mA F+((cj.cell.y * f.wide+cj.cell.x).toNat) * 1,none⟩)),(62,Φ (f.aD fB cj.cell)),(63, .bool (decide (0≤f.aD fB cj.cell))),(64, .pointer (bA b)),(65, .pointer (bA b)),(66, .pointer (some ⟨b,5,none⟩)),(67, .slice F fB.length gl),(68, .pointer (bA b)),(69, .pointer (bA yQ)),(70, .agg #[Φ cj.cell.x,Φ cj.cell.y]),(71,Φ (cj.cell.y * f.wide+cj.cell.x)),(72, .pointer (some ⟨yQ,2,none⟩)),(73,Φ cj.aZ),(74, .pointer (some ⟨fN F,mA F+((cj.cell.y * f.wide+cj.cell.x).toNat) * 1,none⟩)),(75, .pointer (bA yQ)),(76, .agg #[Φ cj.cell.x,Φ cj.cell.y]),(77, .agg #[Φ cj.cell.x,Φ (cj.cell.y - 1),Φ (cj.cell.x - 1),Φ cj.cell.y,Φ (cj.cell.x+1),Φ cj.cell.y,Φ cj.cell.x,Φ (cj.cell.y+1)]),(78,Φ (j:Int))]∧cp=4 - j∧Mod (b::(J.ab F++J.ab A)) w aP∧aM aP yQ [Φ cj.cell.x,Φ cj.cell.y,Φ cj.aZ,Φ cj.all] 304 (0,0)∧bu.aF 3 8 aP w0.heap.size (J.ab F) F gl CJ∧aM aP b [Φ f.wide,Φ f.high, .slice P f.a_.length cy,Φ bp.x,Φ bp.y, .slice F fB.length gl, .slice dp kU.length c2] 249 (0,0)∧cw.rep.aF 304 32 aP w0.heap.size (J.ab dp) dp c2 kU∧(j≤4)∧(uD f a bp CJ kU cj.cell (((eK cj.cell).drop j).filter f.ground))∧(kU.length+1≤fo.length+j)∧(∀ q∈J.ab dp,q∈J.ab A∨w.heap.size≤q)∧(∀ q∈J.ab dp,q=yQ→False)∧(∀ q∈J.ab dp,q=b→False)∧(∀ q∈J.ab dp,q∈J.ab F→False)) _ _ ⟨0,cv.pF cw.all fo,cb,c1,Z,Z,wP,ir,ja,sR,JP,by omega,hO,by rw [cv.LB];omega,aaR,(λ q I ag=>by (have:=Gh q I;omega)),YC,Sx⟩ (eO Z Z Z) ?_;rintro oi aOg ue ⟨j,kU,dp,c2,rfl,rfl,j7,ir,ja,cP,yC,ay,hO,kc,OJ,Cx,yY,oG⟩;have aIt:=ir.lt;have LY:=bM ja.lt;have aWm:=cP.lt;have adR:=bM yC.lt;refine aw<|dR Z Z<|aC<|av<| ?_;refine en Z (λ aBk=> ?_) (λ aBk=> ?_)
   ·refine bm<|av<|bJ<|aw<| ?_;obtain ⟨cE,kE⟩:∃ cE,(eK cj.cell).getD j default=cE:=⟨_,rfl⟩;have OR:=aoU (c:=cj.cell) (j:=j) (by omega);rw [kE] at OR;refine aa (Is Z Z (aoa cj.cell j (by omega) kE _))<|cU yZ Z λ L9 aPM nU aTY vB=> ?_;have D7:=j7.trans (Mod.a8 nU);have aWq:=vB.lt;refine cF Z Z vB Z b3 Z Z λ Ma rr vB=> ?_;have:=rr.size;have uq:=D7.md rr (λ q I=> .inr (by have:=aYf.1 I;omega));refine aC<|aB Z<|aa (ax Z (vB.all cA b3))<| ?_;have cP:=(cP.later nU).mod rr aO;refine cM Y7 Z (acK w0 f P F dp cy gl c2 b fB kU bp cE _ (Ext.mod fg uq FI) hf cK cP) λ Mc dK=> ?_;have:=dK.size;have qD:=uq.trans (Mod.a8 dK);refine vm Z<|bs Z Z<|bs Z Z<|va Z<|aJ Z<|av<| ?_;rcases agf (f.ground cE) (decide (f.aD CJ cE<0)) with ck | ⟨ck,vL⟩ | ⟨ck,vL⟩
    ·have C8:=hO.aFM (by omega) (by rw [kE];exact ck);refine cO [(5,0),(7,0),(8,0),(10,0)] [0,1,2,3,4,5,6,7,8,9,10,11,12] ?_;refine aq rfl (λ _=>gw (ep rfl ck))<|a1 rfl rfl<|c0 rfl rfl<|c0 rfl rfl<|c0 rfl rfl<|jh rfl rfl<|c0 rfl rfl<|jh rfl rfl<|ef (v:=undef) (args:= []) rfl rfl rfl rfl rfl rfl n_ (λ hc=>nomatch hc) (λ hc=>nomatch hc) rfl<|c0 rfl rfl<|jh rfl rfl<|c0 rfl rfl<|aq rfl (λ _=>fR rfl rfl)<|fn λ DO lU=> ?_;have pT:=qD.trans (Mod.a8 lU);refine aX<|gj Z<|fu<|b1<|eM Z Z Z<| ?_;have gG:=(γ dK lU);have ir:=((ir.later nU).mod rr aO).later gG;have ja:=((ja.later nU).mod rr (bl λ q I ag=>by have:=LY q I;have:=Gf q I;omega)).later gG;have cP:=cP.later gG;have yC:=((yC.later nU).mod rr (bU adR)).later gG;exact eJ ⟨j+1,kU,dp,c2,Z,Z,pT,ir,ja,cP,yC,by omega,C8,by omega,OJ,Cx,yY,oG⟩
    ·have nK:=aL.lj ck;obtain ⟨UX,UY,UZ⟩:=kR hf hO.len nK;have tC:=f.rk (c:=cE);have q_:=anX hf ck;refine cO [(5,0),(7,0),(8,0),(10,0)] [0,1,2,3,4,5,6,7,8,9,10,11,12] ?_;refine aq Z (λ _=>gw (ep Z ck))<|a1 Z Z<|fy Z Z Z<|b0 Z Z (λ hc _=>bx Z)<|b0 Z Z (λ hc _=>aj p9 Z)<| ?_;have cP:=cP.later dK;refine dL Z Z (λ hc _ x=>ax Z ((cP.later x).one c8 Z))<|fy Z Z Z<| ?_;have vB:=vB.later dK;refine dL Z Z (λ hc _ x=>ax Z ((vB.later x).all cA b3))<|ef Z Z Z Z Z Z n_ (λ hc=>Z) (λ hc _ x=>tT w0 f P F dp cy gl c2 b fB kU bp cE _ (γ (Ext.mod fg qD FI) x) hf cK (cP.later x) (by first | omega | (dsimp only;omega))) Z<| ?_;have ja:=((ja.later nU).mod rr (bl λ q I ag=>by have:=LY q I;have:=Gf q I;omega)).later dK;have Fj:=(kR hf hO.len nK).1;refine b0 Z Z (λ hc _=>cl ((cE.y * f.wide+cE.x).toNat) underlying22 dg Z Z (ja.has.bT (aV ((cE.y * f.wide+cE.x).toNat) (by omega))) (by (try simp only [bn] at hc);omega) (by omega))<|dL Z Z (λ hc _ x=>ax Z (J.aK.fh fY ((ja.later x).has.cD (aV ((cE.y * f.wide+cE.x).toNat) (by omega))) (CM hf hO.len nK) Z aT))<|b0 Z Z (λ hc _=>blt Z Z)<|aq Z (λ _=>iK Z (ep Z vL))<|fn λ DQ mb=> ?_;have:=mb.size;have m5:=qD.trans (Mod.a8 mb);refine aX<|eT Z<|rg<|vm Z<| ?_;have vB:=vB.later mb;refine aa (ax Z (vB.all cA b3))<|aa (aj air Z)<| ?_;have ir:=((ir.later nU).mod rr aO).later (γ dK mb);refine bk Z ir aT Z<|vm Z<|gx Z Z<| ?_;have yC:=((yC.later nU).mod rr (bU adR)).later (γ dK mb);have cP:=cP.later mb;refine ca Y8 Z Z ((acP w0 f P F dp cy gl c2 b fB kU bp cE (cj.aZ+(rB f cE)) _ (Ext.mod fg m5 FI) hf cK cP ag yC yY (λ y aE=>(hO.node hf e_ aE).2.2.2.2.2.2.2.2) (by omega) (by omega) (by omega) (by omega)).mono ?_);rintro e V6 ⟨aqR,avo,rfl,ar4,aso,aBT,aaQ,l6⟩;refine cu ?_;have D9:=m5.md l6 (λ q I=>(aYk.1 I).elim (λ h=> .inl (by rw [h];exact aYE)) (λ h=>(OJ q h).imp (λ h=>aYm _ (aY5 _ h)) id));have abh:=hO.aFL (n:=⟨cE,cj.aZ+(rB f cE),cj.aZ+(rB f cE)+aL.l1 bp cE⟩) (aL.U3 f bp) (by omega) (by rw [kE];exact ck) (by rw [kE]) (by rw [kE,aB5,← q_]) (by rw [kE]);refine nl<|b1<|eM Z Z Z<| ?_;have ir:=ir.mod l6 (λ I=>(aYk.1 I).elim (λ h=>by omega) (λ h=>(show ∀ q,q∈J.ab dp→q=yQ→False from λ q h ag=>by (exact Cx q h ag)) _ h rfl));have ja:=(ja.later mb).mod l6 (λ q I h=>(aYk.1 h).elim (λ h=>NI q I h) (λ h=>oG q h I));exact eJ ⟨j+1,cv.push cw.all kU ⟨cE,cj.aZ+(rB f cE),cj.aZ+(rB f cE)+aL.l1 bp cE⟩,aqR,avo,Z,Z,D9,ir,ja,ar4,aso,by omega,abh,by rw [cv.PV];omega,(λ q I=>(aaQ q I).elim (OJ q) (λ h=> .inr (by omega))),(fJ aaQ Cx),aBT,(λ q I ag=>by (exact aYC (aaQ q I) (λ amp=>by (exact oG q amp ag)) (λ amp=>by (have:=LY q ag;have:=Gf q ag;omega))))⟩
    ·have nK:=aL.lj ck;obtain ⟨UX,UY,UZ⟩:=kR hf hO.len nK;have C8:=hO.aFK (by omega) (by rw [kE];have tj:=bak vL;omega) (by rw [kE];exact ck);refine cO [(5,0),(7,0),(8,0),(10,0)] [0,1,2,3,4,5,6,7,8,9,10,11,12] ?_;refine aq Z (λ _=>gw (ep Z ck))<|a1 Z Z<|fy Z Z Z<|b0 Z Z (λ hc _=>bx Z)<|b0 Z Z (λ hc _=>aj p9 Z)<| ?_;have cP:=cP.later dK;refine dL Z Z (λ hc _ x=>ax Z ((cP.later x).one c8 Z))<|fy Z Z Z<| ?_;have vB:=vB.later dK;refine dL Z Z (λ hc _ x=>ax Z ((vB.later x).all cA b3))<|ef Z Z Z Z Z Z n_ (λ hc=>Z) (λ hc _ x=>tT w0 f P F dp cy gl c2 b fB kU bp cE _ (γ (Ext.mod fg qD FI) x) hf cK (cP.later x) (by first | omega | (dsimp only;omega))) Z<| ?_;have ja:=((ja.later nU).mod rr (bl λ q I ag=>by have:=LY q I;have:=Gf q I;omega)).later dK;have Fj:=(kR hf hO.len nK).1;refine b0 Z Z (λ hc _=>cl ((cE.y * f.wide+cE.x).toNat) underlying22 dg Z Z (ja.has.bT (aV ((cE.y * f.wide+cE.x).toNat) (by omega))) (by (try simp only [bn] at hc);omega) (by omega))<|dL Z Z (λ hc _ x=>ax Z (J.aK.fh fY ((ja.later x).has.cD (aV ((cE.y * f.wide+cE.x).toNat) (by omega))) (CM hf hO.len nK) Z aT))<|b0 Z Z (λ hc _=>blt Z Z)<|aq Z (λ _=>iK Z (ep Z vL))<|fn λ V9 D2=> ?_;have Ea:=qD.trans (Mod.a8 D2);refine aX<|gj Z<|fu<|b1<|eM Z Z Z<| ?_;have po:=(γ dK D2);have ir:=((ir.later nU).mod rr aO).later po;have ja:=ja.later D2;have cP:=cP.later D2;have yC:=((yC.later nU).mod rr (bU adR)).later po;exact eJ ⟨j+1,kU,dp,c2,Z,Z,Ea,ir,ja,cP,yC,by omega,C8,by omega,OJ,Cx,yY,oG⟩
   ·refine dn<|dk<|dG<|dj<|b1<| ?_;exact om _ _ ⟨CJ,kU,dp,c2,cj.cell,Z,Z,j7,(by first | exact cP | (rw [akw];exact cP)),ja,yC,(by have e:j=4:=(by omega);subst e;exact hO),FH,by omega,OJ,NI,yY,oG⟩ (by first | (rw [cv.LB];omega) | omega) (qp Z)
 ·have AZ:0<fo.length:=by simpa using ck
  have aaM:=aHy hN qd AZ (by rw [aYM,aYI,aYI] at vL;omega) (by rw [aYM,aYI,aYI] at vL;omega);refine cO [(3,0),(4,0),(10,0),(13,0),(19,0),(22,0),(26,0),(29,0)] [0,1,2,3,4,5,6,7,8,9,10,11,12,13,14,15,16,17,18,19,20,21,22,23,24,25,26,27,28,29,30,31,32] ?_;have Fj:=(kR hf hN.len e_).1;refine a1 Z Z<|aq Z (λ _=>bx Z)<|aq Z (λ _=>aj HL Z)<|cf Z Z cC qR Z<|qW Z Z NP Z (λ _ x=>Qv _ fo.length _ _) Z<|aq Z (λ _=>gO Z Z)<|aq Z (λ _=>gw (ep Z ck))<|fy Z Z Z<|b0 Z Z (λ hc _=>bx Z)<|b0 Z Z (λ hc _=>aj p9 Z)<|dL Z Z (λ hc _ x=>ax Z ((cC.later x).one c8 Z))<|fy Z Z Z<|b0 Z Z (λ hc _=>cl ((bp.y * f.wide+bp.x).toNat) underlying22 dg Z Z (lX.has.bT (aV ((bp.y * f.wide+bp.x).toNat) (by omega))) (by (try simp only [bn] at hc);omega) (by omega))<|dL Z Z (λ hc _ x=>ax Z (J.aK.fh fY ((lX.later x).has.cD (aV ((bp.y * f.wide+bp.x).toNat) (by omega))) (CM hf hN.len e_) Z aT))<|b0 Z Z (λ hc _=>blt Z Z)<|fy Z Z Z<|fy Z Z Z<|b0 Z Z (λ hc _=>bx (gt hc Z))<|b0 Z Z (λ hc _=>aj HL (gt hc Z))<|dL Z Z (λ hc _ x=>ax (gt hc Z) ((cC.later x).one qR Z))<|b0 Z Z (λ hc _=>cl 0 underlying247 p_ (gt hc Z) Z (pY.has.bT (aV 0 (by (try simp only [bn] at hc);omega))) Z (by (try simp only [bn] at hc);omega))<|b0 Z Z (λ hc _=>aj S0 (gt hc Z))<|dL Z Z (λ hc _ x=>ax (gt hc Z) (J.aK.lg H9 ((pY.later x).has.cD (aV 0 (by (try simp only [bn] at hc);omega))) 3 (dt (l:=fo) (u:=default) (by (try simp only [bn] at hc);omega)) Z aT))<|fy Z Z Z<| ?_;refine b0 Z Z (λ hc _=>bx (gt hc Z))<|b0 Z Z (λ hc _=>aj p9 (gt hc Z))<|dL Z Z (λ hc _ x=>ax (gt hc Z) ((cC.later x).one c8 Z))<|fy Z Z Z<|b0 Z Z (λ hc _=>cl ((bp.y * f.wide+bp.x).toNat) underlying22 dg (gt hc Z) (gt hc Z) (lX.has.bT (aV ((bp.y * f.wide+bp.x).toNat) (by omega))) (by (try simp only [bn] at hc);omega) (by omega))<|dL Z Z (λ hc _ x=>ax (gt hc Z) (J.aK.fh fY ((lX.later x).has.cD (aV ((bp.y * f.wide+bp.x).toNat) (by omega))) (CM hf hN.len e_) Z aT))<|b0 Z Z (λ hc _=>ble (gt hc Z) (gt hc Z))<|b0 Z Z (λ hc _=>eW Z Z Z Z)<|aq Z (λ _=>iK Z (ep Z vL))<|fn λ ad5 BM=> ?_;have JA:=mg.trans (Mod.a8 BM);refine aX<|gj Z<|dn<|dk<|dG<|dj<|ne<|cz .nil<| ?_;have pY:=pY.later BM;have lX:=lX.later BM;have cC:=cC.later BM;exact ⟨fB,cb,c1,fo,Z,cC,lX,aaM,JA⟩
def aGA:Go.Shelf.Ren:=⟨fun | 212=> 183 | 263=> 190 | 264=> 191 | n=>n,fun | 46=> 215 | 53=> 130 | 51=> 35 | 146=> 311 | 148=> 313 | n=>n,fun | n=>n⟩
theorem aFj:Go.Proofs.Lays.n212 prog aGA:= {
 mixed:=by kernel_rfl
 f212:=func183.trans (aZb some (by kernel_rfl))
 f263:=func190.trans (aZb some (by kernel_rfl))
 f264:=func191.trans (aZb some (by kernel_rfl))
 t46:=underlying215
 a46:=isAgg215
 z46:=sizeOf215
 v46:=zeroValue215
 t51:=underlying35
 a51:=isAgg35
 z51:=sizeOf35
 v51:=zeroValue35
 t53:=underlying130
 a53:=isAgg130
 z53:=sizeOf130
 v53:=zeroValue130
 t146:=underlying311
 a146:=isAgg311
 z146:=sizeOf311
 v146:=zeroValue311
 t148:=underlying313
 a148:=isAgg313
 z148:=sizeOf313
 v148:=zeroValue313 }
theorem mul_one (n:Nat) (hn:n<18446744073709551616) (w:World):Calls prog 183 #[.int .u64 1, .int .u64 (n:Int)] w (λ e w'=>e= .returned (.tuple #[.int .u64 0, .int .u64 (n:Int)])∧Ext w w'):=by
 refine (Any.bits_Mul aFj 1 n (by decide) hn w).mono λ e w' ⟨κ,τ⟩=> ?_;subst τ;rw [κ];refine ⟨?_,Ext.cH _⟩;rw [Nat.one_mul,bcm hn,aZz hn];rfl
end Go.Proofs.YtmeeljmapailnaaGreat
