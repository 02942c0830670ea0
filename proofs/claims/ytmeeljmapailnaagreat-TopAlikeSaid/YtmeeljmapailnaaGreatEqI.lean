import Derived.Test.YtmeeljmapailnaaGreatCelK
set_option linter.unusedVariables false
set_option linter.unusedSimpArgs false
set_option maxRecDepth 100000
set_option maxHeartbeats 4000000
open Go.RowKit
namespace Go.Proofs.YtmeeljmapailnaaGreat
open Tryz
abbrev aUq:=@List.length_singleton
abbrev aVm:=@Bool.not_eq_false'
abbrev aV3:=@beq_eq_false_iff_ne
abbrev aXm:=@List.countP_append
abbrev aXJ:=@List.countP_cons
abbrev aXP:=@Go.Proofs.Tryz.zeroValue3
abbrev aYS:=@Nat.le_succ_of_le
section
open Go.RowKit Go.Maps
section
variable {w w':World} {b:Nat} {g:az→Int} {S:List Nat} {x:az} {st:Nat}
def EK (w:World) (b:Nat) (l:List (az×Int×Nat)) (lB:Nat) (g:az→Int):Prop :=
 dP az.key w b l lB∧(∀ e∈l,e.1.ok)∧(l.map (·.1)).Nodup∧∀ y,(dP.get l y).getD 0=g y
def kK (w:World) (b:Nat) (g:az→Int):Prop:=∃ l lB,EK w b l lB g
def sC (w:World) (b:Nat) (g:az→Int) (x:az) (st:Nat):Prop:=∃ l lB,EK w b l lB g∧∃ (j:Nat) (v:Int),l[j]? =some (x,v,st)
theorem kK.lt (h:kK w b g):b<w.heap.size:=by obtain ⟨l,c,h,_⟩:=h;exact h.lt
theorem EK.keep {l:List (az×Int×Nat)} {lB:Nat} (h:EK w b l lB g) (au:w'.heap[b]? =w.heap[b]?):EK w' b l lB g:=⟨h.1.keep au,h.2⟩
theorem kK.keep (h:kK w b g) (au:w'.heap[b]? =w.heap[b]?):kK w' b g:=by obtain ⟨l,c,h⟩:=h;exact ⟨l,c,h.keep au⟩
theorem kK.later (h:kK w b g) (x:Ext w w'):kK w' b g:=h.keep (x.block b h.lt)
theorem kK.mod (h:kK w b g) (m:Mod S w w') (hs:b∉S):kK w' b g:=h.keep (m.block b h.lt hs)
theorem sC.map (h:sC w b g x st):kK w b g:=by obtain ⟨l,c,h,_⟩:=h;exact ⟨l,c,h⟩
theorem sC.lt (h:sC w b g x st):b<w.heap.size:=h.map.lt
theorem sC.keep (h:sC w b g x st) (au:w'.heap[b]? =w.heap[b]?):sC w' b g x st:=by obtain ⟨l,c,h,ae⟩:=h;exact ⟨l,c,h.keep au,ae⟩
theorem sC.later (h:sC w b g x st) (e:Ext w w'):sC w' b g x st:=h.keep (e.block b h.lt)
theorem kK.of_nil (h:pB w b []):kK w b λ _=>0:=by
 obtain ⟨es,c,τ,ae⟩:=h;have:es.toList= []:=by
  cases he:es.toList with
  | nil=>rfl
  | cons a r=>rw [he] at ae;exact ae.elim
 have e:es=#[]:=by apply aVc;simpa using this
 subst e;exact ⟨[],c,⟨by simpa using τ,by simp,by simp⟩,by simp,by simp,λ y=>rfl⟩
def pF (b:Nat) (g:az→Int) (w w':World):Prop:=Mod [b] w w'∧(kK w b g→kK w' b g)
theorem pF.bt (h:Ext w w'):pF b g w w':=⟨Mod.bt h,λ k=>k.later h⟩
theorem pF.trans {aS cS:World} (h:pF b g w aS) (k:pF b g aS cS):pF b g w cS:=⟨h.1.trans k.1,λ q=>k.2 (h.2 q)⟩
theorem Z4 {es:Array MapEntry} {clock:Nat}:Mod [b] w (ji w b es clock):=
 ⟨rfl,rfl,rfl,by rw [alx];exact aTK _,λ k _ hn=>Ns (by simpa using hn)⟩
def s_ (g:az→Int) (x:az) (v:Int):az→Int:=λ y=>if y=x then v else g y
end
section
variable {w:World} {b:Nat} {l:List (az×Int×Nat)} {clock:Nat} {g:az→Int}
theorem ajV:prog.underlying 205 =some (.map 55 3):=by kernel_rfl
theorem aBI (h:kK w b g) (x:az) (hx:x.ok):(Instr.lookup 205 (.map (some b)) (az.key x) false).run prog w= .ok (.int .i64 (g x)) w:=by
 obtain ⟨l,c,τ,ae,aw,aU⟩:=h;rw [← aU x];exact (dP.lookup az.zG ajV (aXP w) τ ae aw x hx).1
theorem aFJ {l:List (az×Int×Nat)} {j:Nat} {a:az×Int×Nat} (hm:(l.map (·.2.2)).Nodup) (aA:l[j]? =some a):((l.map (dS az.key)).toArray).findIdx? (λ y=>((y.born:Nat):Int)== ((a.2.2:Nat):Int))=some j:=by
 rw [aYc];refine aX6 (l:=l.map (dS az.key)) (j:=j) (e0:=dS az.key a) ?_ (by rw [aTY,aA];rfl);rw [aWq];exact hm
theorem aBH (h:kK w b g) (x:az) (hx:x.ok):∃ (st:Nat) (w':World),(Instr.mapEntry 205 (.map (some b)) (az.key x)).run prog w= .ok (.tuple #[.int .i64 (g x), .int .i64 (st:Int)]) w'∧Mod [b] w w'∧sC w' b g x st:=by
 obtain ⟨l,clock,h,hw,hn,aM⟩:=h;obtain ⟨hZ,rT⟩:=az.zG.lit x hx;have γ:=h.gV;have bA:=h.lt;have aJ:=ajV;have bG:=aXP;rcases dP.found az.zG h hw x hx with ⟨τ,ae,aw⟩ | ⟨j,v0,n0,τ,ae⟩
 ·have Io:g x=0:=by rw [← aM x,ae];rfl
  have Dx:dP.put l clock x 0=l++ [(x,0,clock)]:=by
   unfold dP.put;rw [aTL];intro ha;obtain ⟨a,ha,hd⟩:=aU1.1 ha;exact aw a ha (by simpa using hd)
  have hY:EK (ji w b ((l++ [(x,0,clock)]).map (dS az.key)).toArray (clock+1)) b (l++ [(x,0,clock)]) (clock+1) g:=by
   refine ⟨⟨D0 bA,λ a ha=> ?_, ?_⟩,λ a ha=> ?_, ?_,λ y=> ?_⟩
   ·rcases aTP.1 ha with ha | ha
    ·have:=h.born a ha;omega
    ·simp at ha;subst ha;simp
   ·rw [aT8,aUu];refine ⟨h.stamps,by simp,λ a ha c hc e=> ?_⟩;simp at hc;obtain ⟨y,aF,rfl⟩:=aUh.1 ha;have:=h.born y aF;omega
   ·rcases aTP.1 ha with ha | ha
    ·exact hw a ha
    ·simp at ha;subst ha;exact hx
   ·have:=dP.IE hn clock x 0;rw [Dx] at this;exact this
   ·have:=dP.Bk l clock x y 0;rw [Dx] at this;rw [this];by_cases e:y=x
    ·rw [aTO e,e,Io];rfl
    ·rw [aTL e];exact aM y
  refine ⟨clock,_, ?_,Z4,⟨_,_,hY,l.length,0,by simp⟩⟩
  ·rw [Io];have:(l.map (dS az.key)).toArray.push (⟨az.key x, .int .i64 0,clock⟩:MapEntry)=((l++ [(x,0,clock)]).map (dS az.key)).toArray:=by simp [dS]
   simp [Instr.mapEntry,aUQ aJ,aUA γ,az.zG.keyed.check w false rT,τ,bG,aU3 _ γ,Result.andThen,ji,Go.ChangeMaps.setBlock,goInt,dS]
 ·have Io:g x=v0:=by rw [← aM x,dP.gH hn ae];rfl
  have hY:EK (ji w b (l.map (dS az.key)).toArray clock) b l clock g:=⟨⟨D0 bA,h.born,h.stamps⟩,hw,hn,aM⟩;refine ⟨n0,_, ?_,Z4,⟨_,_,hY,j,v0,ae⟩⟩
  ·rw [Io];have aA:(l.map (dS az.key)).toArray[j]? =some (dS az.key (x,v0,n0)):=by simp [ae]
   have Ye:(l.map (dS az.key)).toArray.modify j (λ e=> {e with key:=az.key x})=(l.map (dS az.key)).toArray:=by
    apply aVc;rw [aV6,aVT _ _ _ _ (by rw [aTY,ae];rfl)];exact aYr _ _ _ (by rw [aTY,ae];rfl)
   have XU:(dS az.key (x,v0,n0)).key=az.key x:=rfl;have Xx:(dS az.key (x,v0,n0)).born=n0:=rfl;simp only [Instr.mapEntry,aTQ,aUQ aJ,aTJ,aUA γ,az.zG.keyed.check w false rT,τ,aA,aU6,aUM,XU,az.zG.keyed.stays w rT,Ye,aU3 _ γ,Xx,aTV];rfl
theorem aBJ {st:Nat} {x:az} (h:sC w b g x st) (v:Int):∃ w',(Instr.entryStore 205 (.map (some b)) (.int .i64 (st:Int)) (.int .i64 v)).run prog w= .ok () w'∧Mod [b] w w'∧kK w' b (s_ g x v):=by
 obtain ⟨l,clock,⟨h,hw,hn,aM⟩,j,v0,ae⟩:=h;have γ:=h.gV;have bA:=h.lt;have eG:=aFJ (a:=(x,v0,st)) h.stamps ae;have pS:l.any (λ e=>decide (e.1=x))=true:=aU1.2 ⟨_,aUg ae,by simp⟩;have vL:dP.put l clock x v=l.set j (x,v,st):=by
  unfold dP.put;rw [aTO pS];refine aUS λ i=> ?_;rw [aTY];by_cases hl:j=i
  ·subst hl;rw [ae,aT2 (aTC.1 ae).1];simp
  ·rw [aT9 hl];cases ar:l[i]? with
   | none=>rfl
   | some a =>
    have:a.1≠x:=by
     intro ug;have aY:(l.map (·.1))[i]? =(l.map (·.1))[j]? :=by rw [aTY,aTY,ar,ae];simp [ug]
     have:=(aXu (by simpa using (aTC.1 ar).1) hn).1 aY;exact hl this.symm
    simp [this]
 have FH:(l.map (dS az.key)).toArray.modify j (λ e=> {e with val:=Value.int .i64 v})=((l.set j (x,v,st)).map (dS az.key)).toArray:=by
  apply aVc;rw [aV6,aVT _ _ _ _ (by rw [aTY,ae];rfl),aUY];rfl
 refine ⟨ji w b ((l.set j (x,v,st)).map (dS az.key)).toArray clock, ?_,Z4,l.set j (x,v,st),clock,⟨D0 bA,λ a ha=> ?_, ?_⟩,λ a ha=> ?_, ?_,λ y=> ?_⟩
 ·rw [← FH];simp only [Instr.entryStore,aTQ,aUA γ,aTJ,asInt,asIntOf,goInt,aTV];rw [eG];exact aU3 _ γ
 ·rcases aVu ha with ha | ha
  ·exact h.born a ha
  ·rw [ha];exact h.born (x,v0,st) (aUg ae)
 ·rw [aUY];have:(l.map (·.2.2)).set j st=l.map (·.2.2):=by
   obtain ⟨lD,kO⟩:=aTC.1 ae;have e:(l.map (·.2.2))[j]'(by simpa using lD)=st:=by rw [aWJ,kO]
   conv=>lhs;rw [← e]
   exact aVr _
  rw [this];exact h.stamps
 ·rcases aVu ha with ha | ha
  ·exact hw a ha
  ·rw [ha];exact hw (x,v0,st) (aUg ae)
 ·have:=dP.IE hn clock x v;rw [vL] at this;exact this
 ·have:=dP.Bk l clock x y v;rw [vL] at this;rw [this];unfold s_;by_cases e:y=x
  ·rw [aTO e,aTO e];rfl
  ·rw [aTL e,aTL e];exact aM y
end
section
variable {n:Nat} {E cO:List (Nat×Value)} {a:Act} {w w' w0 aS:World} {Q:Exit→Act→World→Prop} {ops:Array Oper}
variable {d:Option Nat} {ty:TypeId} {pos:String} {af:Array Edge} {awi:Option (Nat×Bool)} {x y z m:Operand} {rest:List Oper} {r st:Nat} {g:az→Int} {p:az} {v:Int}
theorem RG (h:kK w r g) (au:p.ok) (hx:ev E m=some (.map (some r))) (aF:ev E y=some (az.key p)):
  cQ prog E ⟨d, .lookup 205 m y false,ty,pos,af,awi⟩ w (.int .i64 (g p)) w:=λ n a ha=>by
 simp only [execOp,ha.ev hx,ha.ev aF,aTQ,aBI h p au,aTJ,aTV]
theorem meC {d:Nat} (h:kK w r g) (au:p.ok) (hx:ev E m=some (.map (some r))) (aF:ev E y=some (az.key p)) (hd:Nat.blt d n=true)
  (hK:∀ aS (st:Nat),Mod [r] w aS→sC aS r g p st→cy prog n ops Q rest ((d, .tuple #[.int .i64 (g p), .int .i64 (st:Int)])::E) aS):cy prog n ops Q (⟨some d, .mapEntry 205 m y,ty,pos,af,none⟩::rest) E w:=by
 obtain ⟨st,aS,τ,ae,aw⟩:=aBH h p au;refine iV (w':=aS) (v:= .tuple #[.int .i64 (g p), .int .i64 (st:Int)]) (λ n a ha=> ?_) hd (hK _ st ae aw);simp only [execOp,ha.ev hx,ha.ev aF,aTQ,τ,aTJ,aTV]
theorem Wi (h:sC w r g p st) (hx:ev E m=some (.map (some r))) (aF:ev E y=some (.int .i64 (st:Int))) (bG:ev E z=some (.int .i64 v))
  (hK:∀ aS,Mod [r] w aS→kK aS r (s_ g p v)→cy prog n ops Q rest E aS):cy prog n ops Q (⟨none, .entryStore 205 m y z,ty,pos,af,none⟩::rest) E w:=by
 obtain ⟨aS,τ,ae,aw⟩:=aBJ h v;refine us (w':=aS) (λ n a ha=> ?_) (hK _ ae aw);simp only [execOp,ha.ev hx,ha.ev aF,ha.ev bG,aTQ,τ,aTJ,aTV]
end
end
section
def jv (T:List bd) (c:az):Int:=((T.countP λ t=>decide (t.spot=c):Nat):Int)
theorem R7 (T:List bd) (c:az):0≤jv T c∧jv T c≤(T.length:Int):=⟨aVN _,Int.ofNat_le.2 List.countP_le_length⟩
theorem aCw (T:List bd) (t:bd):jv (T++ [t])=s_ (jv T) t.spot (jv T t.spot+1):=by
 funext y
 unfold jv s_;rw [aXm,aXJ,List.countP_nil];by_cases e:y=t.spot
 ·subst e;simp
 ·have e':¬ t.spot=y:=λ h=>e h.symm;rw [aTL e];simp [e']
theorem aF8 {α:Type} {T:List α} {k:Nat} {d:α} (h:k<T.length):T.take (k+1)=T.take k++ [T.getD k d]:=by
 rw [List.take_add_one,aTF h,aTB,aTF h];rfl
theorem aCx {T:List bd} {k:Nat} (h:k<T.length):jv (T.take (k+1))=s_ (jv (T.take k)) (T.getD k default).spot (jv (T.take k) (T.getD k default).spot+1):=by
 rw [aF8 (d:=default) h,aCw]
theorem countP_split {T:List bd} {k:Nat} (h:k<T.length) (t:bd) (c:az):
  ((T.countP λ t=>decide (t.spot=c):Nat):Int)=(((T.take k).countP λ t=>decide (t.spot=c):Nat):Int)+(if (T.getD k default).spot=c then 1 else 0)+(((T.drop (k+1)).countP λ t=>decide (t.spot=c):Nat):Int)∧
  (((T.set k t).countP λ t=>decide (t.spot=c):Nat):Int)=(((T.take k).countP λ t=>decide (t.spot=c):Nat):Int)+(if t.spot=c then 1 else 0)+(((T.drop (k+1)).countP λ t=>decide (t.spot=c):Nat):Int):=by
 have e:T=T.take k++T.getD k default::T.drop (k+1):=by
  conv=>lhs;rw [← aVb k T,aU2 h]
  rw [aTB,aTF h];rfl
 constructor
 ·conv=>lhs;rw [e]
  rw [aXm,aXJ];by_cases hc:(T.getD k default).spot=c<;>simp only [hc,aWA,aWo,aVo,aU5]<;>simp<;>omega
 ·rw [aWd,aTO h,aXm,aXJ];by_cases hc:t.spot=c<;>simp only [hc,aWA,aWo,aVo,aU5]<;>simp<;>omega
theorem aCv {T:List bd} {k:Nat} (h:k<T.length) (t:bd):
  jv (T.set k t)=s_ (s_ (jv T) (T.getD k default).spot (jv T (T.getD k default).spot - 1)) t.spot (s_ (jv T) (T.getD k default).spot (jv T (T.getD k default).spot - 1) t.spot+1):=by
 obtain ⟨A,D,hA,bj⟩:∃ A D:az→Int,(∀ y,jv T y=A y+(if (T.getD k default).spot=y then 1 else 0)+D y)∧∀ y,jv (T.set k t) y=A y+(if t.spot=y then 1 else 0)+D y :=
  ⟨_,_,λ y=>(countP_split h t y).1,λ y=>(countP_split h t y).2⟩
 funext y
 unfold s_;rw [bj y,hA y,hA t.spot,hA (T.getD k default).spot];generalize (T.getD k default).spot=a;generalize t.spot=b;by_cases aY:y=b
 ·subst aY;by_cases bb:y=a
  ·subst bb;simp only [aVo,eq_self];omega
  ·have cP:¬ a=y:=λ h=>bb h.symm;simp only [aVo,bb,cP,aU5];omega
 ·have jq:¬ b=y:=λ h=>aY h.symm;by_cases bb:y=a
  ·subst bb;simp only [aVo,aY,jq,aU5];omega
  ·have cP:¬ a=y:=λ h=>bb h.symm;simp only [aY,bb,cP,jq,aU5]
theorem aGL {g:az→Int} {n v:Int} {x:az} (h:∀ y,0≤g y∧g y≤n) (τ: -1≤v) (ae:v≤n) (y:az): -1≤s_ g x v y∧s_ g x v y≤n:=by
 unfold s_;have:=h y;split<;>omega
theorem aCu {T:List bd} {c:az}:0<jv T c↔∃ t∈T,t.spot=c:=by
 unfold jv;rw [Int.natCast_pos,List.countP_pos_iff];simp
def eX (l:List dG) (id:Int):Int:=fP (λ g=>g.id == id) l
theorem awp (l:List dG) (id:Int):eX l id= -1∧(∀ g∈l,g.id≠id)∨∃ k,k<l.length∧eX l id=(k:Int)∧(l.getD k default).id=id∧∀ j,j<k→(l.getD j default).id≠id:=by
 rcases Mj (λ g=>g.id == id) l with ⟨τ,ae⟩ | ⟨k,au,τ,ae,aw⟩
 ·exact .inl ⟨τ,λ g aM=>by simpa using ae g aM⟩
 ·refine .inr ⟨k,au,τ, ?_,λ j aA=> ?_⟩
  ·rw [aTB,aTF au];simpa using ae
  ·rw [aTB,aTF (by omega)];simpa using aw j aA
noncomputable def qZ (f:aI) (l:List dG) (T:List bd) (k:Nat):Option az :=
 if eX l (T.getD k default).id<0 then none
 else if hk f (T.getD k default).spot (l.getD (eX l (T.getD k default).id).toNat default).bm≠0 then none
 else if (gv f (T.getD k default).spot (l.getD (eX l (T.getD k default).id).toNat default).bm).length<2 then none
 else if 0<jv T ((gv f (T.getD k default).spot (l.getD (eX l (T.getD k default).id).toNat default).bm).getD 1 default) then none
 else some ((gv f (T.getD k default).spot (l.getD (eX l (T.getD k default).id).toNat default).bm).getD 1 default)
def bd.bm (t:bd) (c:az):bd:= {t with spot:=c}
noncomputable def j0 (f:aI) (l:List dG) (T:List bd):Nat→List bd×List Int
 | 0=>(T, [])
 | k+1=>match qZ f l (j0 f l T k).1 k with
  | none=>j0 f l T k
  | some c=>((j0 f l T k).1.set k (((j0 f l T k).1.getD k default).bm c),(j0 f l T k).2++ [((j0 f l T k).1.getD k default).id])
theorem Gp {f:aI} {l:List dG} {T U:List bd} {M:List Int} {k:Nat} (h:j0 f l T k=(U,M)) (hs:qZ f l U k=none):j0 f l T (k+1)=(U,M):=by
 show (match qZ f l (j0 f l T k).1 k with | none=>_ | some c=>_)=_;rw [h];simp only [hs]
theorem Nx {f:aI} {l:List dG} {T U:List bd} {M:List Int} {k:Nat} {c:az} (h:j0 f l T k=(U,M)) (hs:qZ f l U k=some c):j0 f l T (k+1)=(U.set k ((U.getD k default).bm c),M++ [(U.getD k default).id]):=by
 show (match qZ f l (j0 f l T k).1 k with | none=>_ | some c=>_)=_;rw [h];simp only [hs]
theorem SF {f:aI} {l:List dG} {T:List bd}:∀ k,(j0 f l T k).1.length=T.length∧(j0 f l T k).2.length≤k
 | 0=>⟨rfl,aTK _⟩
 | k+1=>by
  have bK:=SF (f:=f) (l:=l) (T:=T) k;cases hs:qZ f l (j0 f l T k).1 k with
  | none=>rw [Gp rfl hs];exact ⟨bK.1,aYS bK.2⟩
  | some c=>rw [Nx rfl hs];exact ⟨by rw [aTH];exact bK.1,by rw [aTE,aUq];omega⟩
noncomputable def ak.lY (W:ak) (l:List dG):ak×List Int:=({W with aq:=(j0 W.field l W.aq W.aq.length).1},(j0 W.field l W.aq W.aq.length).2)
end
section
section
variable {gg:Nat} {gi:az→Int} {P:Program} {ops:Array Oper} {Q:Exit→Act→World→Prop} {aT:Nat→Nat}
def uY (gg:Nat) (gi:az→Int) (P:Program) (ops:Array Oper) (w0:World) (o:Oper) (v:Value) (a:Act):Prop :=
  (Region.wanted o (yielded ops a.tmps)=true∧∀ w,pF gg gi w0 w→zU P w v ((execOp a.eval o).run P w))∨
  (Region.wanted o (yielded ops a.tmps)=false∧v=undef)
theorem uY.of_same {w0:World} {o:Oper} {v:Value} {a a':Act} (h:uY gg gi P ops w0 o v a) (he:execOp a'.eval o=execOp a.eval o) (hw:Region.wanted o (yielded ops a'.tmps)=Region.wanted o (yielded ops a.tmps)):uY gg gi P ops w0 o v a':=by
  unfold uY at *;rw [he,hw];exact h
theorem uY.on {w0 aS:World} {o:Oper} {v:Value} {a:Act} (h:uY gg gi P ops w0 o v a) (hx:pF gg gi w0 aS):uY gg gi P ops aS o v a :=
  h.imp (λ ⟨τ,ae⟩=>⟨τ,λ w hw=>ae w (hx.trans hw)⟩) id
theorem Yields.aD3 {w0:World} {o:Oper} {v:Value} {a:Act} (h:Yields P ops o v a):uY gg gi P ops w0 o v a :=
  h.imp (λ ⟨τ,ae⟩=>⟨τ,λ w _=>by rw [ae w];exact ⟨rfl,rfl⟩⟩) id
def aFS (gg:Nat) (gi:az→Int) (P:Program) (ops:Array Oper) (Q:Exit→Act→World→Prop) (aT:Nat→Nat) (i:Nat) (K:Act→World→Prop) (a:Act) (w0:World):Prop :=
  ∃ o,ops[i]? =some o∧
    ((aT i≤1∧∃ v,uY gg gi P ops w0 o v a∧K (a.put o.dst v) w0)∨
     (1<aT i∧∀ w,Ext w0 w→wpOp P ops Q i (λ a' w'=>(aT i=2→pF gg gi w0 w')∧K a' w') a w))
def KB (gg:Nat) (gi:az→Int) (P:Program) (ops:Array Oper) (Q:Exit→Act→World→Prop) (aT:Nat→Nat):Nat→Array Bool→Act→World→Prop
  | 0,l,a,w0=>Region.ready .any ops l= []∧∀ w,Ext w0 w→Q .normal a w
  | f+1,l,a,w0=>(Region.ready .any ops l= []→∀ w,Ext w0 w→Q .normal a w)∧∀ i∈Region.ready .any ops l,aFS gg gi P ops Q aT i (KB gg gi P ops Q aT f (l.setIfInBounds i true)) a w0
theorem Hp:∀ (f:Nat) (l:Array Bool) (a:Act) (w0:World),KB gg gi P ops Q aT f l a w0→∀ w,Ext w0 w→wpAny P .any ops Q f l a w
  | 0,_,_,_,h,w,hw=>⟨h.1,h.2 w hw⟩
  | f+1,l,a,w0,h,w,hw=>⟨λ aK=>h.1 aK w hw,λ i ar=>by
      obtain ⟨o,cc,ae⟩:=h.2 i ar;rcases ae with ⟨_,v,I,au⟩ | ⟨_,ae⟩
      · unfold wpOp
        simp only [cc];rcases I with ⟨nz,I⟩ | ⟨nz,rfl⟩
        · rw [aTO nz]
          refine .inl ?_;have I:=I w (pF.bt hw);unfold Oper.wp;generalize (execOp a.eval o).run P w=r at *
          cases r with
          | ok n w' =>
            cases n<;>simp only [zU] at I<;>simp only [Oper.upon]
            case value u=>obtain ⟨rfl,rfl⟩:=I;exact Hp f _ _ _ au _ hw
            case skip=>obtain ⟨rfl,rfl⟩:=I;exact Hp f _ _ _ au _ hw
            case enter f' args=>obtain ⟨rfl,hc⟩:=I;exact hc.mono λ e jM ⟨he,hx⟩=>by subst he;exact Hp f _ _ _ au _ (hw.nL hx)
          | halt x w'=>simp only [zU] at I
        · rw [aTL (by rw [nz];decide)]
          exact Hp f _ _ _ au _ hw
      · exact aV7 (λ a' w' aw=>Hp f _ _ _ aw.2 _ (Ext.bg w')) (ae w hw)⟩
theorem afd {i:Nat} {dN:Oper} {v:Value} (ar:ops[i]? =some dN) (au:aT i≤1) (ny:∀ (j:Nat) (o:Oper) cs b,ops[j]? =some o→o.op≠ .select cs b)
    (iC:∀ c a w,¬ Q (.panic c) a w) (aE:World→Act→Prop) (mv:∀ w0 a,aE w0 a→uY gg gi P ops w0 dN v a)
    (z2:∀ w0 a a',aE w0 a→execOp a'.eval dN=execOp a.eval dN→Region.wanted dN (yielded ops a'.tmps)=Region.wanted dN (yielded ops a.tmps)→aE w0 a')
    (z3:∀ w0 aS a,pF gg gi w0 aS→aE w0 a→aE aS a) (R:Nat→Bool) (xH:Array Bool)
    (hR:∀ j dc,ops[j]? =some dc→j≠i→(∀ e∈dc.after,Region.binds .any e=true→R e.on=true)→R j=true)
    (bj:(∀ w0 aS a,aE w0 a→aE aS a)∨∀ j,R j=true→3≤aT j→xH.getD j true=true):
    ∀ (f:Nat) (l:Array Bool) (a:Act) (w0:World),(∀ j,l.getD j false=true→R j=true)→(∀ j,xH.getD j true=true→l.getD j true=true)→
      (∀ j dc,ops[j]? =some dc→j≠i→l.getD j true=false→(∀ e∈dc.after,Region.binds .any e=true→e.on≠i)→dN.apart ops dc=true)→
      i∈Region.ready .any ops l→aE w0 a→KB gg gi P ops Q aT f (l.setIfInBounds i true) (a.put dN.dst v) w0→KB gg gi P ops Q aT (f+1) l a w0:=by
  intro f;induction f with
  | zero =>
    intro l a w0 _ _ _ hr bG H;refine ⟨λ h=>(by rw [h] at hr;cases hr),λ j aA=> ?_⟩;by_cases hO:j=i
    · subst hO;exact ⟨dN,ar, .inl ⟨au,v,mv _ _ bG,H⟩⟩
    · have:=aWf aA hO
      rw [H.1] at this;cases this
  | succ f bK =>
    intro l a w0 Dq vH Dk hr bG H;refine ⟨λ h=>(by rw [h] at hr;cases hr),λ j aA=> ?_⟩;by_cases hO:j=i
    · subst hO;exact ⟨dN,ar, .inl ⟨au,v,mv _ _ bG,H⟩⟩
    · obtain ⟨dc,kP,τ⟩:=H.2 j (aWf aA hO)
      obtain ⟨xA,gQ,Dw,dD⟩:=aXi.1 aA;obtain rfl:gQ=dc:=by rw [kP] at Dw;exact (aTA Dw).symm
      have LZ:∀ e∈gQ.after,Region.binds .any e=true→e.on≠i:=λ e he γ heq=>by
        have τ:=dD e he γ;have aK:=(aXi.1 hr).1;rw [heq] at τ;rcases aUt i l.size with c7 | c7
        · simp [c7] at aK τ;rw [aK] at τ;cases τ
        · simp [aUD c7] at τ
      have LB:=Dk j gQ kP hO xA LZ;obtain ⟨cF,a2,a3⟩:=aX5 LB;have Ma:∀ cs b,dN.op≠ .select cs b:=λ cs b=>ny i dN cs b ar;have xE:∀ cs b,gQ.op≠ .select cs b:=λ cs b=>ny j gQ cs b kP;have keep:∀ aS a u,aE aS a→aE aS (a.put gQ.dst u):=λ aS a u bG=>z2 _ _ _ bG (aWm dN Ma a gQ.dst u a3) (aWy dN a gQ.dst u a3);have De:R j=true:=hR j gQ kP hO λ e he γ=>Dq _ (dD e he γ);have Dr:∀ k,(l.setIfInBounds j true).getD k false=true→R k=true:=λ k au=>by
        by_cases hb:j=k
        · rw [← hb];exact De
        · rw [aV1 false hb] at au;exact Dq k au
      have Dp:∀ k,xH.getD k true=true→(l.setIfInBounds j true).getD k true=true:=λ k au=>by
        by_cases hb:j=k
        · subst hb
          rcases aUt j l.size with c7 | c7
          · simp [c7]
          · simp [aUD c7]
        · rw [aV1 true hb];exact vH k au
      have Dl:∀ k ok,ops[k]? =some ok→k≠i→(l.setIfInBounds j true).getD k true=false→
          (∀ e∈ok.after,Region.binds .any e=true→e.on≠i)→dN.apart ops ok=true:=λ k ok au pY DA kx=>by
        refine Dk k ok au pY ?_ kx;by_cases hb:j=k
        · subst hb;exact xA
        · rw [aV1 true hb] at DA;exact DA
      have Dz:=aWf hr (aWp hO);rcases τ with ⟨xB,u,I,hK⟩ | ⟨xB,τ⟩
      · refine ⟨gQ,kP, .inl ⟨xB,u,I.of_same (aWm gQ xE a dN.dst v cF).symm (aWy gQ a dN.dst v cF).symm, ?_⟩⟩
        refine bK _ _ _ Dr Dp Dl Dz (keep _ _ _ bG) ?_;rw [aVd _ _ hO,← aVR a v u a2];exact hK
      · refine ⟨gQ,kP, .inr ⟨xB,λ w hw=> ?_⟩⟩
        refine aV7 (λ a' w' aw=>⟨aw.2.1, ?_⟩) (aaM (aE:=aE w0) kP cF a2 xE iC (keep w0) (λ a d bG=>z2 _ _ _ bG Z Z) bG (τ w hw));have Mf:aE w' a':=by
          rcases aUt (aT j) 3 with bA | n9
          · exact z3 _ _ _ (aw.2.1 (by omega)) aw.1
          · rcases bj with bj | bj
            · exact bj _ _ _ aw.1
            · have:=vH j (bj j De n9);rw [xA] at this;cases this
        refine bK _ _ _ Dr Dp Dl Dz Mf ?_;rw [aVd _ _ hO];exact aw.2.2
def JI (gg:Nat) (gi:az→Int) (P:Program) (ops:Array Oper) (Q:Exit→Act→World→Prop) (aT:Nat→Nat):List Nat→Act→World→Prop
  | [],a,w0=>∀ w,Ext w0 w→Q .normal a w
  | i::r,a,w0=>∃ o,ops[i]? =some o∧
      ((aT i=0∧∃ v,uY gg gi P ops w0 o v a∧JI gg gi P ops Q aT r (a.put o.dst v) w0)∨
       (aT i=1∧∃ v,Yields P ops o v a∧JI gg gi P ops Q aT r (a.put o.dst v) w0)∨
       (1<aT i∧∀ w,Ext w0 w→wpOp P ops Q i (λ a' w'=>(aT i=2→pF gg gi w0 w')∧JI gg gi P ops Q aT r a' w') a w))
theorem Pq (hs:Region.noSelect ops=true) (iC:∀ c a w,¬ Q (.panic c) a w):∀ (r:List Nat) (l:Array Bool) (a:Act) (w0:World),l.size=ops.size→kd ops aT r l=true→JI gg gi P ops Q aT r a w0→KB gg gi P ops Q aT r.length l a w0
  | [],l,a,w0,_,bj,h=>⟨by simpa [kd] using bj,h⟩
  | i::r,l,a,w0,aC,bj,h=>by
    obtain ⟨o,cc,h⟩:=h;have ny:=aWn hs;rcases h with ⟨au,v,I,hK⟩ | ⟨au,v,I,hK⟩ | ⟨au,h⟩
    · simp only [kd,au,aTM] at bj
      obtain ⟨⟨⟨hf,hr⟩,γ⟩,bj⟩:=bj;obtain ⟨R,r1,r2,se⟩:=Px aC γ;exact afd cc (by omega) ny iC (λ w0 a=>uY gg gi P ops w0 o v a) (λ _ _ h=>h) (λ _ _ _ h he hw=>h.of_same he hw) (λ _ _ _ hx h=>h.on hx) R l r1 (.inr se) _ _ _ _ r2 (λ _ h=>h) (aVp cc hf) (by simpa using hr) I
        (Pq hs iC r _ _ _ (by simpa using aC) bj hK)
    · simp only [kd,au,aTM] at bj
      obtain ⟨⟨hf,hr⟩,bj⟩:=bj;exact afd cc (by omega) ny iC (λ _ a=>Yields P ops o v a) (λ _ _ h=>Yields.aD3 h) (λ _ _ _ h he hw=>h.of_same he hw) (λ _ _ _ _ h=>h) (λ _=>true) l (λ _ _ _ _ _=>Z) (.inl λ _ _ _ h=>h) _ _ _ _ (λ _ _=>Z) (λ _ h=>h) (aVp cc hf) (by simpa using hr) I
        (Pq hs iC r _ _ _ (by simpa using aC) bj hK)
    · obtain ⟨k,ff⟩:∃ k,aT i=k+2:=⟨aT i - 2,by omega⟩
      simp only [kd,ff,aTM,aUC] at bj;obtain ⟨hr,bj⟩:=bj;refine ⟨λ aK=>(by rw [hr] at aK;cases aK),λ j aA=> ?_⟩;rw [hr] at aA;obtain rfl:j=i:=by simpa using aA
      exact ⟨o,cc, .inr ⟨au,λ w hw=>aV7 (λ a' w' aw=>⟨aw.1,Pq hs iC r _ _ _ (by simpa using aC) bj aw.2⟩) (h w hw)⟩⟩
theorem aEk {id:Nat} {a:Act} {w:World} (bV:List Nat) (hm:P.follows .mixedOrders=true) (bj:(Region.noSelect ops && (bV.length == ops.size) && kd ops aT bV (Array.replicate ops.size false))=true)
    (h:JI gg gi P ops (hz (Q .normal)) aT bV a w):(Code.region id ops true).wp P Q a w:=by
  simp only [aTM,aUC] at bj;obtain ⟨⟨hs,aC⟩,bj⟩:=bj;refine aYA (aXq hm (Q:=hz (Q .normal)) ?_) (λ e a w I=>by cases e<;>first | exact I | exact I.elim);have:=Pq (P:=P) hs (Q:=hz (Q .normal)) (λ _ _ _ h=>h) bV (Array.replicate ops.size false) a w (by simp) bj h;rw [aC] at this;exact Hp _ _ _ _ this _ (aUb _ w).drew
end
section
variable {gg:Nat} {gi:az→Int} {P:Program} {n:Nat} {E cO:List (Nat×Value)} {a:Act} {w w' w0 aS:World} {Q:Exit→Act→World→Prop} {ops:Array Oper} {v:Value} {aT:Nat→Nat}
variable {d:Option Nat} {ty:TypeId} {pos:String} {af:Array Edge} {g:Option (Nat×Bool)} {x y z:Operand} {t:TypeId} {rest:List Oper} {bV:List Nat} {i:Nat}
def yV (gg:Nat) (gi:az→Int) (P:Program) (n:Nat) (ops:Array Oper) (Q:Exit→Act→World→Prop) (aT:Nat→Nat) (bV:List Nat) (E:List (Nat×Value)) (w0:World):Prop:=∀ a,eD n E a→JI gg gi P ops (hz (Q .normal)) aT bV a w0
theorem ZH {id:Nat} (gg:Nat) (gi:az→Int) (ll:List (Nat×Nat)) (bV:List Nat) (hm:P.follows .mixedOrders=true) (bj:(Region.noSelect ops && (bV.length == ops.size) && kd ops (nA ll) bV (Array.replicate ops.size false))=true)
    (h:yV gg gi P n ops Q (nA ll) bV E w):W P n (.region id ops true) Q E w:=λ a ha=>aEk bV hm bj (h a ha)
theorem Wx (h:∀ w,Ext w0 w→N n Q E w):yV gg gi P n ops Q aT [] E w0:=λ a ha w hw=>h w hw a ha
theorem Db {d:Nat} {op:Op} (ar:ops[i]? =some ⟨some d,op,ty,pos,af,none⟩) (au:aT i=0) (hr:∀ w,pF gg gi w0 w→cQ P E ⟨some d,op,ty,pos,af,none⟩ w v w) (hd:Nat.blt d n=true)
    (h:yV gg gi P n ops Q aT bV ((d,v)::E) w0):yV gg gi P n ops Q aT (i::bV) E w0:=λ a ha =>
  ⟨_,ar, .inl ⟨au,v, .inl ⟨Aj rfl,λ w hw=>by rw [hr w hw n a ha];exact ⟨rfl,rfl⟩⟩,h _ (ha.put hd v)⟩⟩
theorem sQ {d:Nat} {op:Op} (ar:ops[i]? =some ⟨some d,op,ty,pos,af,none⟩) (au:aT i=1) (hr:∀ w,cQ P E ⟨some d,op,ty,pos,af,none⟩ w v w) (hd:Nat.blt d n=true)
    (h:yV gg gi P n ops Q aT bV ((d,v)::E) w0):yV gg gi P n ops Q aT (i::bV) E w0:=λ a ha =>
  ⟨_,ar, .inr (.inl ⟨au,v, .inl ⟨Aj rfl,λ w=>hr w n a ha⟩,h _ (ha.put hd v)⟩)⟩
theorem WD {o:Oper} (aM:o.guard=none) (ar:ops[i]? =some o) (au:aT i=2) (h:∀ w,Ext w0 w→ET P n ops o E w λ cO w'=>pF gg gi w0 w'∧yV gg gi P n ops Q aT bV cO w'):yV gg gi P n ops Q aT (i::bV) E w0:=λ a ha =>
  ⟨_,ar, .inr (.inr ⟨by omega,λ w hw=>Jk aM ar (h w hw) (λ cO w' a' au rK=>⟨λ _=>au.1,au.2 a' rK⟩) ha⟩)⟩
theorem Wm {o:Oper} (aM:o.guard=none) (ar:ops[i]? =some o) (au:aT i=3) (h:∀ w,Ext w0 w→ET P n ops o E w λ cO w'=>yV gg gi P n ops Q aT bV cO w'):yV gg gi P n ops Q aT (i::bV) E w0:=λ a ha =>
  ⟨_,ar, .inr (.inr ⟨by omega,λ w hw=>Jk aM ar (h w hw) (λ cO w' a' au rK=>⟨λ ae=>by omega,au a' rK⟩) ha⟩)⟩
end
end
section
theorem Zm {β:Type} {cur old part:List β} {p s j:Nat} (cc:old.length=s) (aA:j+part.length≤s) (hc:p+s≤cur.length) (h:∀ m,m<s→cur[p+m]? =old[m]?):
  cur.take p++(old.take j++part++old.drop (j+part.length))++cur.drop (p+(old.take j++part++old.drop (j+part.length)).length)=cur.take (p+j)++part++cur.drop (p+j+part.length):=by
 have aC:(old.take j++part++old.drop (j+part.length)).length=s:=by simp only [aTE,aTD,aTW];omega
 rw [aC];apply aUS;intro k;by_cases τ:k<p
 ·rw [aTX,aTR (by rw [aTD];omega),aTX,aTR (by rw [aTD];omega),aUf,aUf,aTO τ,aTO (by omega)]
 ·by_cases ae:k<p+s
  ·rw [aTX,aTU (by rw [aTD];omega),aTR (by rw [aC,aTD];omega),aTD];obtain ⟨m,rfl⟩:∃ m,k=p+m:=⟨k - p,by omega⟩;rw [show p+m - min p cur.length=m from by omega];by_cases aw:m<j
   ·rw [aTX,aTR (by rw [aTD];omega),aTX,aTR (by rw [aTD];omega),aUf,aUf,aTO aw,aTO (by omega),h m (by omega)]
   ·by_cases aU:m<j+part.length
    ·rw [aTX,aTU (by rw [aTD];omega),aTR (by rw [aTD];omega),aTX,aTU (by rw [aTD];omega),aTR (by rw [aTD];omega),aTD,aTD];congr 1;omega
    ·rw [aTU (by simp only [aTE,aTD];omega),aUy,aTU (by simp only [aTE,aTD];omega),aUy];simp only [aTE,aTD];rw [show p+j+part.length+(p+m - (min (p+j) cur.length+part.length))=p+m from by omega,h m (by omega)];congr 1;omega
  ·rw [aTU (by simp only [aTE,aTD,aTW];omega),aUy,aTU (by simp only [aTE,aTD];omega),aUy];simp only [aTE,aTD,aTW];congr 1;omega
section
variable {P:Program} {n:Nat} {E cO:List (Nat×Value)} {a:Act} {w w' w0 aS:World} {Q:Exit→Act→World→Prop} {ops:Array Oper} {v:Value}
variable {d:Option Nat} {ty:TypeId} {pos:String} {af:Array Edge} {g:Option (Nat×Bool)} {x y z:Operand} {t:TypeId} {rest:List Oper}
theorem aFw {α:Type} {R:aa α} {e by_ B i j:Nat} {A:Option Addr} {c:Nat} {l:List α} {q q':α} {p:Addr} {old part es:List Value} (h:R.aH e by_ w B (aa.aj A) A c l) (hR:R.re) (ar:l[i]? =some q) (hold:∀ {w cs},R.has w cs q→cs=old) (hx:ev E x=some (.pointer (some p))) (hp:p=⟨eV A,kz A+i * R.size+j,none⟩) (aF:ev E y=some v) (hc:v.cells=part.toArray)
  (aA:Nat.ble (j+part.length) R.size=true) (FC:es=old.take j++part++old.drop (j+part.length)) (I:∀ w,R.has w es q') (hs:eK P t part.length)
  (au:∀ aS,Mod (aa.aj A) w aS→R.aH e by_ aS B (aa.aj A) A c (l.set i q')→cy P n ops Q rest E aS):cy P n ops Q (⟨none, .store t x y,ty,pos,af,none⟩::rest) E w:=by
 have Ip:i<l.length:=(aTC.1 ar).1;obtain ⟨b,rfl⟩:=h.block (by omega);have L1:p=⟨b,i * R.size+j,none⟩:=by rw [hp];simp [eV,kz]
 subst L1;obtain ⟨_,ps,_,_,cc,_⟩:=id h;obtain ⟨cur,uh,_,_⟩:=cc.adk;obtain ⟨vL,hle⟩:=aa.aH.als (q':=q') h hR Ip I uh;obtain ⟨pG,I0,Ft,fA⟩:=h.has.at_ (by omega);injection Ft with Ft
 injection Ft with c8 bF
 subst c8 bF;obtain ⟨HS,agC,jJ⟩:=fA i q ar;obtain rfl:=hold agC;have ayC:HS.length=R.size:=R.len agC;have agU:es.length=R.size:=R.len (I w);have FE:=aVq aA;have rO:∀ m,m<R.size→cur.toList[i * R.size+m]? =HS[m]? :=λ m hm=>by
  have hu:HS[m]? =some HS[m]:=aTF (by omega);have:=jJ m HS[m] hu;rw [hu];simpa [World.cell?,uh] using this
 have azl:=Zm (cur:=cur.toList) (old:=HS) (part:=part) (p:=i * R.size) (s:=R.size) (j:=j) ayC FE (by rw [agU] at hle;exact hle) rO;have mS:part.all (·.oneCell')=true:=aUp.2 λ u hu=>R.one (I w) u (by rw [FC];simp [hu]);have hY:=ZS (P:=P) (w:=w) (b:=b) (p:=i * R.size+j) (cur:=cur.toList) (e:=e) (by simpa [aR] using uh) hc hs mS (by rw [agU] at hle;omega);rw [← azl,← FC] at hY;refine us (λ n a ha=> ?_) (au _ (Mod.setRow w b _) vL);simp only [execOp,ha.ev hx,ha.ev aF,Instr.storeAt,Instr.sureAddr,aTQ,aTV,aTJ,hY]
end
end
section
section
variable {P:Program} {n:Nat} {E:List (Nat×Value)} {w w':World} {Q:Exit→Act→World→Prop} {ops:Array Oper} {ty:TypeId} {pos:String} {af:Array Edge} {rest:List Oper} {x y z:Operand} {t u:TypeId} {v kj:Value} {d:Option Nat} {g:Option (Nat×Bool)}
def CE (P:Program) (w:World) (t:TypeId) (v:Value) (name:String) (f:FuncId) (kj:Value):Prop:=(Go.method (P.types.size+Made.depth) t v name).run P w= .ok (f,kj) w
theorem alh {f:FuncId} {name:String} (hf:Enters P f) {xs:Array Operand} {ts:Array TypeId} {args:List Value} {a:Act} (ha:eD n E a) (hr:ev E x=some (.iface t v)) (he:gX E xs.toList=some args) (hm:CE P w t v name f kj):
  (execOp a.eval ⟨d, .call {callee:= .invoke x name,args:=xs,argTypes:=ts},ty,pos,af,g⟩).run P w= .ok (.enter f (kj::args).toArray) w:=by
 obtain ⟨fn,τ,ae,aw⟩:=hf;have hx:xs.map a.eval=args.toArray:=by rw [← ha.gX he];apply aVc;simp
 unfold CE at hm;have e0:(#[(Value.iface t v)]++args.toArray)[0]? =some (.iface t v):=by simp
 have aY:(#[(Value.iface t v)]++args.toArray).extract 1 (#[(Value.iface t v)]++args.toArray).size=args.toArray:=by simp
 have bb:#[kj]++args.toArray=(kj::args).toArray:=by simp
 have hp:Sem.run P program w= .ok P w:=rfl;simp only [execOp,resolve,hx,ha.ev hr,aTQ,aTV,aTJ,invoke,e0,aY,callMethod,callFunc,hp,hm,τ,ae,aw,bb,aUm,aU5]
theorem ht {d:Nat} {f:FuncId} {name:String} (hf:Enters P f) {xs:Array Operand} {ts:Array TypeId} {args:List Value} (hr:ev E x=some (.iface t v)) (he:gX E xs.toList=some args) (hm:CE P w t v name f kj) (hd:Nat.blt d n=true)
  (h:Calls P f (kj::args).toArray w λ e w'=>∃ v,e= .returned v∧cy P n ops Q rest ((d,v)::E) w'):cy P n ops Q (⟨some d, .call {callee:= .invoke x name,args:=xs,argTypes:=ts},ty,pos,af,none⟩::rest) E w:=λ a ha=>by
 refine EV Z ?_;unfold Oper.wp;rw [alh hf ha hr he hm];refine aXD h λ e w' fI=> ?_;obtain ⟨v,rfl,h⟩:=fI;exact h _ (ha.put hd v)
theorem ahU {d:Nat} {f:FuncId} {name:String} {xs:Array Operand} {ts:Array TypeId} {args:List Value} {j:Nat} {q b c:Bool} {dc:Oper} {ik:Nat} {v0:Value} (aA:ops[j]? =some dc) (mb:dc.dst=some ik) (γ:look E ik=some (.bool b)) (hc:(b == q)=c)
  (hf:Enters P f) (hx:c=true→ev E x=some (.iface t v0)) (he:c=true→gX E xs.toList=some args) (hm:CE P w t v0 name f kj) (hr:c=true→Calls P f (kj::args).toArray w λ e w'=>e= .returned v∧Ext w w') (hd:Nat.blt d n=true)
  (h:∀ w',Ext w w'→cy P n ops Q rest ((d,fO c v)::E) w'):cy P n ops Q (⟨some d, .call {callee:= .invoke x name,args:=xs,argTypes:=ts},ty,pos,af,some (j,q)⟩::rest) E w :=
 Tl (c:=c) (λ a ha=>by rw [B9 (o:=⟨some d,_,ty,pos,af,some (j,q)⟩) rfl aA mb γ ha,hc])
  (λ hc a ha=>by unfold Oper.wp;rw [alh hf ha (hx hc) (he hc) hm];exact (hr hc).mono λ e w' ⟨τ,azM⟩=>by subst τ;subst hc;exact h w' azM _ (ha.put hd v)) (λ hc a ha=>by subst hc;exact h w (Ext.bg w) _ (ha.put hd undef))
theorem R0 (hr:∀ w,(Instr.makeInterface t v).run P w= .ok (.iface t v) w) (hx:ev E x=some v):cQ P E ⟨d, .makeInterface t x,ty,pos,af,g⟩ w (.iface t v) w:=λ n a ha=>by
 simp only [execOp,ha.ev hx,aTQ,hr w,aTJ,aTV]
theorem ame {t':TypeId} (hr:∀ w,(Instr.typeAssert (.iface t v) t' t false).run P w= .ok v w) (hx:ev E x=some (.iface t v)):cQ P E ⟨d, .typeAssert x t' t false,ty,pos,af,g⟩ w v w:=λ n a ha=>by
 simp only [execOp,ha.ev hx,aTQ,hr w,aTJ,aTV]
theorem zQ {e:TypeId} {p:Addr} {name:String} {f:FuncId} (h:(Go.method (P.types.size+Made.depth) t (.pointer (some p)) name).run P w=(loadVar e p >>= λ x=>pure (f,x)).run P w) (aC:lz P w e p v):CE P w t (.pointer (some p)) name f v:=by
 unfold CE;unfold lz at aC;rw [h];simp only [aTQ,aC,aTJ,aTV]
end
end
section
namespace cH
section
variable {α:Type} [Inhabited α] {key:α→Int} {lm l:List α} {m N n:Nat}
theorem aGP (h:(((((m - 1) / 2:Nat):Int)== (m:Int)) || !decide (key (lm.getD m default)<key (lm.getD ((m - 1) / 2) default)))=true):qj key lm m=lm:=by
 unfold qj;rw [aTL];rintro ⟨τ,ae⟩;simp only [aUr,aUC,aUT,aUj] at h;rcases h with h | h
 ·omega
 ·exact h ae
theorem aGQ (h:(((((m - 1) / 2:Nat):Int)== (m:Int)) || !decide (key (lm.getD m default)<key (lm.getD ((m - 1) / 2) default)))=false):0<m∧qj key lm m=qj key (swp lm ((m - 1) / 2) m) ((m - 1) / 2):=by
 simp only [aUl,aV3,aVm,aUa] at h;have hm:0<m:=by
  rcases aWs m with aK | aK
  ·subst aK;exact absurd Z h.1
  ·exact aK
 refine ⟨hm, ?_⟩
 conv=>lhs;unfold qj
 rw [aTO ⟨hm,h.2⟩]
theorem ata (h:(decide ((N:Int)≤2 * (m:Int)+1) || decide (2 * (m:Int)+1<0))=true):j' key N l m=l:=by
 unfold j';rw [aTL];simp only [aUr,aUa] at h;omega
theorem atb (h:(decide ((N:Int)≤2 * (m:Int)+1) || decide (2 * (m:Int)+1<0))=false):2 * m+1<N:=by
 simp only [aUl,aUj] at h;omega
theorem aBj (h:(decide (2 * (m:Int)+1+1<(N:Int)) && decide (key (l.getD (2 * m+1+1) default)<key (l.getD (2 * m+1) default)))=true):oc key N l m=2 * m+2:=by
 simp only [aTM,aUa] at h;unfold oc;rw [aTO ⟨by omega,h.2⟩]
theorem aBh {q:Bool} (h:(decide (2 * (m:Int)+1+1<(N:Int)) && q)=true):2 * m+2<N:=by
 simp only [aTM,aUa] at h;omega
theorem aBi (h:(decide (2 * (m:Int)+1+1<(N:Int)) && decide (key (l.getD (2 * m+1+1) default)<key (l.getD (2 * m+1) default)))=false):oc key N l m=2 * m+1:=by
 unfold oc;rw [aTL];rintro ⟨τ,ae⟩;rw [aT3 (show 2 * (m:Int)+1+1<(N:Int) by omega),aT3 (show key (l.getD (2 * m+1+1) default)<key (l.getD (2 * m+1) default) from ae)] at h;cases h
theorem aeh {j:Nat} (τ:2 * m+1<N) (aC:oc key N l m=j) (h:(!decide (key (l.getD j default)<key (l.getD m default)))=true):j' key N l m=l:=by
 unfold j';rw [aTL];rw [aC];rintro ⟨_,ae⟩;rw [aT3 ae] at h;cases h
theorem aei {j:Nat} (τ:2 * m+1<N) (aC:oc key N l m=j) (h:(!decide (key (l.getD j default)<key (l.getD m default)))=false):j' key N l m=j' key N (swp l m j) j:=by
 conv=>lhs;unfold j'
 rw [aC,aTO ⟨τ,by simpa using h⟩]
end
end cH
theorem aGa (m:Nat):Int.tdiv ((m:Int) - 1) 2=(((m - 1) / 2:Nat):Int):=by
 cases m with
 | zero=>rfl
 | succ m =>
  rw [show ((m+1:Nat):Int) - 1=(m:Int) by omega,aXX (by omega)];simp
section
variable {P:Program} {n:Nat} {E:List (Nat×Value)} {w:World} {ty:TypeId} {pos:String} {af:Array Edge} {x y:Operand} {t u:TypeId} {d:Option Nat} {g:Option (Nat×Bool)}
theorem arc {k:IntKind} {i j r:Int} (hx:ev E x=some (.int k i)) (aF:ev E y=some (.int k j)) (τ:j≠0) (hr:Int.tdiv i j=r) (hw:k.wrap r=r):cQ P E ⟨d, .binOp .quo t x y u,ty,pos,af,g⟩ w (.int k r) w:=oq hx aF (binOp_quo t k i j) (by
 subst hr;have:Op.intDiv .quo k i j=pure (.int k (Int.tdiv i j)):=by simp [Op.intDiv,τ,hw]
 rw [this];rfl)
end
end
section
theorem ap5:fi prog cp.rep 247 304 32:=fi.lH (z:=cp.zero) (k:=4) underlying247 cp.info rfl rfl (by decide) cp.ix
theorem Fy {w:World} {cs:List Value} {a:cp} (h:cp.rep.has w cs a):cs=a.cells:=aVP (show cs=a.cells∧a.ok from h)
theorem NU (A:Option Addr) (n c:Nat) (w:World):
  Calls prog 185 #[.slice A n c] w (λ e w'=>e= .returned (J (n:Int))∧Ext w w'):=by
 refine b' (n:=5) func185 Z Z Z ?_;refine ah<|va Z<|ag<|ah<|vm Z<|Φ (cl underlying247 Z)<|va Z<|ag<|rt<|aV (.tmp Z .nil)<| ?_;exact ⟨Z,(Ext.bg w)⟩
theorem Tr (A:Option Addr) (n c:Nat) (l:List cp) (i j:Int) (p q:Nat) (w:World) (aC:cp.rep.aG 32 w A c l) (hn:l.length=n) (ar:i=(p:Int)) (aA:j=(q:Int)) (hp:p<n) (I:q<n):
  Calls prog 210 #[.slice A n c,J i,J j] w (λ e w'=>e= .returned (.bool (decide ((l.getD p default).all<(l.getD q default).all)))∧Ext w w'):=by
 refine b' (n:=18) func210 Z Z Z ?_;refine ah<|va Z<|ag<|ay<| ?_;refine cR [(4,0),(9,0)] [0,1,2,3,4,5,6,7,8,9,10,11] ?_;refine a1 Z Z<|a1 Z Z<|aB Z (λ _=>bT i.toNat underlying247 oR Z Z ((aC.keep (Ext.bg w)).bs (aO i.toNat)) (by omega) (by omega))<|aB Z (λ _=>av Qh Z)<|bx Z (λ _ x=>ao Z (aa.aG.jT Fy ((aC.keep (ab (Ext.bg w) x)).cg (aO i.toNat)) 3 (cA (l:=l) (u:=default) (by omega)) Z a6))<|a1 Z Z<|a1 Z Z<|aB Z (λ _=>bT j.toNat underlying247 oR Z Z ((aC.keep (Ext.bg w)).bs (aO j.toNat)) (by omega) (by omega))<|aB Z (λ _=>av Qh Z)<|bx Z (λ _ x=>ao Z (aa.aG.jT Fy ((aC.keep (ab (Ext.bg w) x)).cg (aO j.toNat)) 3 (cA (l:=l) (u:=default) (by omega)) Z a6))<|aB Z (λ _=>blt Z Z)<|aB Z (λ _=>fG Z)<|fn λ cK fw=> ?_;have ba:=ab (Ext.bg w) fw;refine aP<|rt<|aV (.tmp Z .nil)<| ?_;subst ar aA;exact ⟨by simp only [aUx];rfl,ba⟩
theorem Ts (A:Option Addr) (n c aE:Nat) (l:List cp) (i j:Int) (p q:Nat) (w:World) (aX:cp.rep.aH 304 32 w aE (aa.aj A) A c (l)) (eA:∀ y∈l,y.ok) (hn:l.length=n) (ar:i=(p:Int)) (aA:j=(q:Int)) (hp:p<n) (I:q<n):
  Calls prog 211 #[.slice A n c,J i,J j] w (λ e w'=>e= .returned (.tuple #[])∧cp.rep.aH 304 32 w' aE (aa.aj A) A c (cH.swp l p q)∧Mod (aa.aj A) w w'):=by
 refine b' (n:=20) func211 Z Z Z ?_;refine cR [(7,0),(11,0),(13,3),(15,3)] [0,1,2,3,4,5,6,7,8,9,10,11,12,13,14,15] ?_;refine a1 Z Z<|a1 Z Z<|a1 Z Z<|a1 Z Z<|a1 Z Z<|a1 Z Z<|aB Z (λ _=>bT j.toNat underlying247 oR Z Z (aX.has.bs (aO j.toNat (by first | omega | (rw [aTH];omega)))) (by omega) (by first | omega | (rw [aTH];omega)))<|bx Z (λ _ x=>ao Z (aa.aG.er Fy ((aX.later x).has.cg (aO j.toNat (by first | omega | (rw [aTH];omega)))) (cA (l:=l) (u:=default) (by first | omega | (rw [aTH];omega))) PZ oR))<|a1 Z Z<|a1 Z Z<|aB Z (λ _=>bT i.toNat underlying247 oR Z Z (aX.has.bs (aO i.toNat (by first | omega | (rw [aTH];omega)))) (by omega) (by first | omega | (rw [aTH];omega)))<|bx Z (λ _ x=>ao Z (aa.aG.er Fy ((aX.later x).has.cg (aO i.toNat (by first | omega | (rw [aTH];omega)))) (cA (l:=l) (u:=default) (by first | omega | (rw [aTH];omega))) PZ oR))<|aB Z (λ _=>bT i.toNat underlying247 oR Z Z (aX.has.bs (aO i.toNat (by first | omega | (rw [aTH];omega)))) (by omega) (by first | omega | (rw [aTH];omega)))<|eg Z Z Z λ cK fw Q hK=>Gn (q':=l.getD j.toNat default) (i:=i.toNat) (aX.later fw) aa.dj (by first | omega | (rw [aTH];omega)) Z Z Z Z (λ _=>⟨Z,(eA _ (gP (by omega)))⟩) oR λ aaD RU Pc=>hK _ _ ?_;have ba:=(Mod.bg (aa.aj A) w).trans (Mod.bt fw);have GV:=ba.md RU (λ q I=> .inl I);refine aB Z (λ _=>bT j.toNat underlying247 oR Z Z (Pc.has.bs (aO j.toNat (by first | omega | (rw [aTH];omega)))) (by omega) (by first | omega | (rw [aTH];omega)))<|eg Z Z Z λ tk br Q hK=>Gn (q':=l.getD i.toNat default) (i:=j.toNat) (Pc.later br) aa.dj (by first | omega | (rw [aTH];omega)) Z Z Z Z (λ _=>⟨Z,(eA _ (gP (by omega)))⟩) oR λ td IM EM=>hK _ _ ?_;have jC:=GV.trans (Mod.bt br);have jA:=jC.md IM (λ q I=> .inl I);refine fn λ Gw ph=> ?_;have na:=jA.trans (Mod.bt ph);refine ne<|aV .nil<| ?_;have EM:=EM.later ph;subst ar aA;simp only [aUx] at EM;exact ⟨Z,EM,na⟩
theorem aHV (b:Nat) (A:Option Addr) (n c aE:Nat) (l:List cp) (v0 v1 v2 v3 v4 v5:Value) (j:Nat) (w:World) (aZ:aR w b [v0,v1,v2,v3,v4,v5, .slice A n c] 249 (0,0)) (aX:cp.rep.aH 304 32 w aE (aa.aj A) A c (l)) (eA:∀ y∈l,y.ok) (hn:l.length=n) (hd:∀ q∈aa.aj A,q=b→False) (aA:j<n):
  Calls prog 192 #[.iface 302 (.pointer (some ⟨b,6,none⟩)),J (j:Int)] w (λ e w'=>e= .returned (.tuple #[])∧aR w' b [v0,v1,v2,v3,v4,v5, .slice A n c] 249 (0,0)∧cp.rep.aH 304 32 w' aE (aa.aj A) A c (cH.qj cp.all l j)∧Mod (aa.aj A) w w'):=by
 have Rh:=aX.has.eZ;refine b' (n:=23) func192 Z Z Z ?_;refine bu<| ?_;refine dx (λ bZ bS aL=>∃ lm:List cp,∃ m:Nat,bS= [(0, .iface 302 (.pointer (some ⟨b,6,none⟩))),(1,J (m:Int))]∧bZ=(2 * m)∧Mod (aa.aj A) w aL∧aR aL b [v0,v1,v2,v3,v4,v5, .slice A n c] 249 (0,0)∧cp.rep.aH 304 32 aL aE (aa.aj A) A c (lm)∧(m<n)∧(lm.length=n)∧(∀ y∈lm,y.ok)∧(cH.qj cp.all lm m=cH.qj cp.all l j)∧(∀ q∈aa.aj A,q=b→False)) _ _ ⟨l,j,Z,Z,(Mod.bg (aa.aj A) w),aZ,aX,by omega,by omega,eA,rfl,(λ q I γ=>by (exact hd q I γ))⟩ (hB Z) ?_;rintro r3 rf iH ⟨lm,m,rfl,rfl,b9,aZ,j7,hm,FF,FK,mT,E1⟩;refine bu<|ah<|vm Z<|Φ (gh Z Z (bf (by omega)))<|Φ (arc (r:=(((m - 1) / 2:Nat):Int)) Z Z (by decide) (aGa m) (bf (by omega)))<|va Z<|ag<|ay<|ah<|vm Z<|vm Z<|Φ (beq Z Z)<|vm Z<|eN Z Z<|eN Z Z<|eN Z Z<|ahU Z Z Z Z P3 (λ hc=>(gt hc Z)) (λ hc=>ez (gt hc Z) (ez (gt hc Z) Z)) (zQ (e:= 247) (by kernel_rfl) (aZ.one pJ Z)) (λ hc=>Tr _ _ _ lm (m:Int) ((((m - 1) / 2:Nat):Int)) m ((m - 1) / 2) _ j7.has (by omega) (by omega) (by omega) (by first | omega | (simp only [ch] at hc;omega)) (by first | omega | (simp only [ch] at hc;omega))) Z λ ea cZ=> ?_;have bE:=b9.trans (Mod.bt cZ);refine bh Z (λ hc=>ek (gt hc Z))<|Φ (fC Z Z Z Z)<|ag<| ?_;refine dn Z (λ kf=> ?_) (λ kf=> ?_)
 ·have hex:=cH.aGP (key:=cp.all) kf;rw [hex] at mT;refine cV<|cU<|NT Z<|c'<|cT<|ne<|aV .nil<| ?_;have j7:=j7.later cZ;have aZ:=aZ.later cZ;exact ⟨Z,aZ,by rw [← mT];exact j7,bE⟩
 ·obtain ⟨Br,vI⟩:=cH.aGQ (key:=cp.all) kf;refine bl<|ah<|vm Z<|vm Z<|vm Z<| ?_;have aZ:=aZ.later cZ;have j7:=j7.later cZ;refine ht P4 Z Z (zQ (e:= 247) (by kernel_rfl) (aZ.one pJ Z)) Z ((Ts _ _ _ _ lm ((((m - 1) / 2:Nat):Int)) (m:Int) ((m - 1) / 2) m _ j7 FK (by omega) (by omega) (by omega) (by omega) (by omega)).mono ?_);rintro e B5 ⟨rfl,O5,DJ⟩;refine ⟨_,Z, ?_⟩;have m_:=bE.md DJ (λ q I=> .inl I);have ayV:∀ y∈cH.swp lm ((m - 1) / 2) m,y.ok:=λ y aF=>FK y ((cH.D3 (by omega) (by omega)).subset aF);have ayv:(cH.swp lm ((m - 1) / 2) m).length=n:=by rw [cH.ml];omega
  refine ag<|rg<|vm Z<|va Z<|nl<|bU<| ?_;have aZ:=aZ.mod DJ (λ I=>E1 _ I rfl);exact cD _ _ ⟨cH.swp lm ((m - 1) / 2) m,(m - 1) / 2,Z,Z,m_,aZ,O5,by omega,ayv,ayV,vI.symm.trans mT,(λ q I γ=>by (exact E1 q I γ))⟩ (by omega) (.cons Z (.cons (bH Z) .nil))
theorem aHQ (b:Nat) (A:Option Addr) (n c aE:Nat) (l:List cp) (v0 v1 v2 v3 v4 v5:Value) (i N:Nat) (w:World) (aZ:aR w b [v0,v1,v2,v3,v4,v5, .slice A n c] 249 (0,0)) (aX:cp.rep.aH 304 32 w aE (aa.aj A) A c (l)) (eA:∀ y∈l,y.ok) (hn:l.length=n) (hd:∀ q∈aa.aj A,q=b→False) (ar:i<n) (afX:N≤n) (QY:n≤1000000):
  Calls prog 193 #[.iface 302 (.pointer (some ⟨b,6,none⟩)),J (i:Int),J (N:Int)] w (λ e w'=>(∃ v,e= .returned (.bool v))∧aR w' b [v0,v1,v2,v3,v4,v5, .slice A n c] 249 (0,0)∧cp.rep.aH 304 32 w' aE (aa.aj A) A c (cH.j' cp.all N l i)∧Mod (aa.aj A) w w'):=by
 refine b' (n:=48) func193 Z Z Z ?_;refine ah<|va Z<|ag<|ah<|vm Z<|va Z<|ag<|ay<|bu<| ?_;refine dx (λ bZ bS aL=>∃ lm:List cp,∃ m:Nat,bS= [(0, .iface 302 (.pointer (some ⟨b,6,none⟩))),(1,J (i:Int)),(2,J (N:Int)),(6, .bool false),(7,J (m:Int))]∧bZ=N - m∧Mod (aa.aj A) w aL∧aR aL b [v0,v1,v2,v3,v4,v5, .slice A n c] 249 (0,0)∧cp.rep.aH 304 32 aL aE (aa.aj A) A c (lm)∧(m<n)∧(lm.length=n)∧(∀ y∈lm,y.ok)∧(cH.j' cp.all N lm m=cH.j' cp.all N l i)∧(∀ q∈aa.aj A,q=b→False)) _ _ ⟨l,i,Z,Z,(Mod.bg (aa.aj A) w),aZ,aX,by omega,by omega,eA,rfl,(λ q I γ=>by (exact hd q I γ))⟩ (hB Z) ?_;rintro r3 rf iH ⟨lm,m,rfl,rfl,b9,aZ,j7,hm,FF,FK,mT,E1⟩;refine bu<|ah<|vm Z<|Φ (w_ Z Z (bf (by omega)))<|Φ (bad Z Z (bf (by omega)))<|va Z<|ag<|ay<|ah<|vm Z<|vm Z<|Φ (j_ Z Z)<|vm Z<|eN Z Z<|bh Z (λ hc=>blt (gt hc Z) Z)<|Φ (fC Z Z Z Z)<|ag<| ?_;refine dn Z (λ oW=> ?_) (λ oW=> ?_)
 ·have hex:=cH.ata (key:=cp.all) (l:=lm) oW;rw [hex] at mT;refine cV<|cU<|NT Z<|c'<|cT<|aP<|ah<|vm Z<|vm Z<|Φ (hM Z Z)<|va Z<|ag<|rt<|aV (.tmp Z .nil)<| ?_
  skip
  exact ⟨⟨_,Z⟩,aZ,by rw [← mT];exact j7,b9⟩
 ·have sV:=cH.atb oW;refine bl<|ah<|vm Z<|va Z<|ag<|ay<|ah<|vm Z<|Φ (bad Z Z (bf (by omega)))<|va Z<|ag<|ah<|vm Z<|vm Z<|Φ (blt Z Z)<|vm Z<|eN Z Z<|eN Z Z<| ?_;refine eN Z Z<|ahU Z Z Z Z P3 (λ hc=>(gt hc Z)) (λ hc=>ez (gt hc Z) (ez (gt hc Z) Z)) (zQ (e:= 247) (by kernel_rfl) (aZ.one pJ Z)) (λ hc=>Tr _ _ _ lm (((2 * (m:Int))+1)+1) ((2 * (m:Int))+1) (((2 * m)+1)+1) ((2 * m)+1) _ j7.has (by omega) (by omega) (by omega) (by first | omega | (simp only [ch] at hc;omega)) (by first | omega | (simp only [ch] at hc;omega))) Z λ tk br=> ?_;have jC:=b9.trans (Mod.bt br);refine Φ (dv Z Z Z Z)<|ag<| ?_;refine dn Z (λ qL=> ?_) (λ qL=> ?_)
  ·have jt:=cH.aBj (key:=cp.all) (l:=lm) (m:=m) qL;have agm:=cH.aBh qL;refine rg<|vm Z<|va Z<|ag<|ay<|ah<|vm Z<|vm Z<|vm Z<| ?_;have aZ:=aZ.later br;have j7:=j7.later br;refine ht P3 Z Z (zQ (e:= 247) (by kernel_rfl) (aZ.one pJ Z)) Z ((Tr _ _ _ lm (((2 * (m:Int))+1)+1) (m:Int) (((2 * m)+1)+1) m _ j7.has (by omega) (by omega) (by omega) (by first | omega | (simp only [ch] at hc;omega)) (by first | omega | (simp only [ch] at hc;omega))).mono ?_);rintro e Af ⟨rfl,l2⟩;refine ⟨_,Z, ?_⟩;have iL:=jC.trans (Mod.bt l2);refine Φ (ek Z)<|ag<| ?_;refine dn Z (λ pQ=> ?_) (λ pQ=> ?_)
   ·have hex:=cH.aeh (key:=cp.all) sV jt pQ;rw [hex] at mT;refine cV<|cU<|NT Z<|c'<|cT<|aP<|ah<|vm Z<|vm Z<|Φ (hM Z Z)<|va Z<|ag<|rt<|aV (.tmp Z .nil)<| ?_
    skip
    have j7:=j7.later l2;have aZ:=aZ.later l2;exact ⟨⟨_,Z⟩,aZ,by rw [← mT];exact j7,iL⟩
   ·have vI:=cH.aei (key:=cp.all) sV jt pQ;refine bl<|ah<|vm Z<|vm Z<|vm Z<| ?_;have aZ:=aZ.later l2;have j7:=j7.later l2;refine ht P4 Z Z (zQ (e:= 247) (by kernel_rfl) (aZ.one pJ Z)) Z ((Ts _ _ _ _ lm (m:Int) (((2 * (m:Int))+1)+1) m (((2 * m)+1)+1) _ j7 FK (by omega) (by omega) (by omega) (by omega) (by omega)).mono ?_);rintro e B6 ⟨rfl,Kt,BG⟩;refine ⟨_,Z, ?_⟩;have oA:=iL.md BG (λ q I=> .inl I);have ayW:∀ y∈cH.swp lm m (((2 * m)+1)+1),y.ok:=λ y aF=>FK y ((cH.D3 (by omega) (by omega)).subset aF);have ayw:(cH.swp lm m (((2 * m)+1)+1)).length=n:=by rw [cH.ml];omega
    refine ag<|rg<|vm Z<|va Z<|nl<|bU<| ?_;have aZ:=aZ.mod BG (λ I=>E1 _ I rfl);exact cD _ _ ⟨cH.swp lm m (((2 * m)+1)+1),2 * m+2,Z,Z,oA,aZ,Kt,by omega,ayw,ayW,vI.symm.trans mT,(λ q I γ=>by (exact E1 q I γ))⟩ (by omega) (.cons Z (.cons Z (.cons Z (.cons Z (.cons (bH Z) .nil)))))
  ·have jt:=cH.aBi (key:=cp.all) (l:=lm) (m:=m) qL;refine bl<|ay<|ah<|vm Z<|vm Z<|vm Z<| ?_;have aZ:=aZ.later br;have j7:=j7.later br;refine ht P3 Z Z (zQ (e:= 247) (by kernel_rfl) (aZ.one pJ Z)) Z ((Tr _ _ _ lm ((2 * (m:Int))+1) (m:Int) ((2 * m)+1) m _ j7.has (by omega) (by omega) (by omega) (by first | omega | (simp only [ch] at hc;omega)) (by first | omega | (simp only [ch] at hc;omega))).mono ?_);rintro e wm ⟨rfl,jk⟩;refine ⟨_,Z, ?_⟩;have jB:=jC.trans (Mod.bt jk);refine Φ (ek Z)<|ag<| ?_;refine dn Z (λ Lq=> ?_) (λ Lq=> ?_)
   ·have hex:=cH.aeh (key:=cp.all) sV jt Lq;rw [hex] at mT;refine cV<|cU<|NT Z<|c'<|cT<|aP<|ah<|vm Z<|vm Z<|Φ (hM Z Z)<|va Z<|ag<|rt<|aV (.tmp Z .nil)<| ?_
    skip
    have j7:=j7.later jk;have aZ:=aZ.later jk;exact ⟨⟨_,Z⟩,aZ,by rw [← mT];exact j7,jB⟩
   ·have vI:=cH.aei (key:=cp.all) sV jt Lq;refine bl<|ah<|vm Z<|vm Z<|vm Z<| ?_;have aZ:=aZ.later jk;have j7:=j7.later jk;refine ht P4 Z Z (zQ (e:= 247) (by kernel_rfl) (aZ.one pJ Z)) Z ((Ts _ _ _ _ lm (m:Int) ((2 * (m:Int))+1) m ((2 * m)+1) _ j7 FK (by omega) (by omega) (by omega) (by omega) (by omega)).mono ?_);rintro e Jw ⟨rfl,EN,DM⟩;refine ⟨_,Z, ?_⟩;have tC:=jB.md DM (λ q I=> .inl I);have ayX:∀ y∈cH.swp lm m ((2 * m)+1),y.ok:=λ y aF=>FK y ((cH.D3 (by omega) (by omega)).subset aF);have ayx:(cH.swp lm m ((2 * m)+1)).length=n:=by rw [cH.ml];omega
    refine ag<|rg<|vm Z<|va Z<|nl<|bU<| ?_;have aZ:=aZ.mod DM (λ I=>E1 _ I rfl);exact cD _ _ ⟨cH.swp lm m ((2 * m)+1),2 * m+1,Z,Z,tC,aZ,EN,by omega,ayx,ayX,vI.symm.trans mT,(λ q I γ=>by (exact E1 q I γ))⟩ (by omega) (.cons Z (.cons Z (.cons Z (.cons Z (.cons (bH Z) .nil)))))
theorem aHU (b:Nat) (A:Option Addr) (c aE:Nat) (l:List cp) (v0 v1 v2 v3 v4 v5:Value) (x:cp) (w:World) (aZ:aR w b [v0,v1,v2,v3,v4,v5, .slice A l.length c] 249 (0,0)) (aX:cp.rep.aH 304 32 w aE (aa.aj A) A c (l)) (eA:∀ y∈l,y.ok) (hd:∀ q∈aa.aj A,q=b→False) (hx:x.ok) (QY:l.length≤1000000) (xq:aE≤w.heap.size):
  Calls prog 215 #[.pointer (some ⟨b,6,none⟩), .iface 304 (.agg #[J x.cell.x,J x.cell.y,J x.a_,J x.all])] w (λ e w'=>∃ bL bX,e= .returned (.tuple #[])∧aR w' b [v0,v1,v2,v3,v4,v5, .slice bL (l++ [x]).length bX] 249 (0,0)∧cp.rep.aH 304 32 w' aE (aa.aj bL) bL bX (l++ [x])∧(∀ q∈aa.aj bL,q∈aa.aj A∨w.heap.size≤q)∧Mod (b::aa.aj A) w w'):=by
 have Sg:=aZ.lt;refine b' (n:=13) func215 Z Z Z ?_;refine cR [(3,0),(6,2),(7,3),(9,3)] [0,1,2,3,4,5,6,7,8,9] ?_;refine a1 Z Z<|a1 Z Z<|aB Z (λ _=>cf Z)<|bx Z (λ _ x=>ao Z ((aZ.later x).one pJ Z))<|a1 Z Z<|aB Z (λ _=>ame (λ w=>by kernel_rfl) Z)<|gz Z Z Z λ cK fw Q hK=>cu (e:= 304) (cs:= [J x.cell.x,J x.cell.y,J x.a_,J x.all]) Z (λ _=>by kernel_rfl) Z λ aaD aLl pk aPu abF=>hK _ _ ⟨ab fw pk, ?_⟩;have:=fw.size;have ba:=(Mod.bg (b::aa.aj A) w).trans (Mod.bt fw);have GV:=ba.trans (Mod.bt pk);have aQW:=abF.lt;have aX:=aX.later (ab fw pk);refine eg Z Z Z λ td ox Q hK=>ap ap5 aa.dj (aX.later ox) ((aR.gY (R:=cp.rep) (by_:=32) (q:=x) abF ⟨Z,hx⟩ (by decide)).keep ox) Z Z (by simp only [aTI,aTN];omega) (by simp only [aTI,aTN];omega) (by have:=ox.size;omega) Z λ Af anG y_ RP Kt afu aQq=>hK _ _ ?_;have:=ox.size;have jA:=GV.trans (Mod.bt ox);have iL:=jA.md RP (λ q I=> .inl (aTS _ I));refine aB Z (λ _=>cf Z)<| ?_;have aZ:=(aZ.later (ab fw (ab pk ox))).mod RP (λ I=>hd _ I rfl);refine eg Z Z Z λ q2 gS Q hK=>fb Z Z (aZ.later gS) Z aeA Z Z λ Ag jh aZ=>hK _ _ ?_;have iM:=iL.trans (Mod.bt gS);have oB:=iM.md jh (λ q I=> .inl (by rw [aTz.1 I];exact aT1));refine fn λ th dO=> ?_;have iY:=oB.trans (Mod.bt dO);refine ne<|aV .nil<| ?_;have Kt:=((Kt.later gS).mod jh (λ q I h=>by have γ:=aTz.1 h;exfalso;(exact aTT (afu q I) (λ aiR=>by (exact hd q aiR γ)) (λ aiR=>by omega)))).later dO;have aZ:=aZ.later dO;exact ⟨anG,y_,Z,aZ,Kt,(λ q I=>(afu q I).imp id λ h=>by omega),iY⟩
theorem aHT (b:Nat) (A:Option Addr) (n c aE:Nat) (l:List cp) (v0 v1 v2 v3 v4 v5:Value) (w:World) (aZ:aR w b [v0,v1,v2,v3,v4,v5, .slice A n c] 249 (0,0)) (aX:cp.rep.aH 304 32 w aE (aa.aj A) A c (l)) (eA:∀ y∈l,y.ok) (hn:l.length=n) (hd:∀ q∈aa.aj A,q=b→False) (aK:0<n):
  Calls prog 214 #[.pointer (some ⟨b,6,none⟩)] w (λ e w'=>e= .returned (.iface 304 (.agg ((l.getD (n - 1) default).cells).toArray))∧aR w' b [v0,v1,v2,v3,v4,v5, .slice A (n - 1) c] 249 (0,0)∧cp.rep.aH 304 32 w' aE (aa.aj A) A c (l.take (n - 1))∧Mod (b::aa.aj A) w w'):=by
 have aGp:=b7 aX.lt;have Sg:=aZ.lt;have Rh:=aX.has.eZ;have aNM:=aX.has.1;refine b' (n:=23) func214 Z Z Z ?_;refine ah<|va Z<|ag<|ah<|vm Z<|Φ (cf Z)<|Φ (ao Z (aZ.one pJ Z))<|va Z<|ag<|ah<|vm Z<|vm Z<|Φ (cl underlying247 Z)<|Φ (gh Z Z (bf (by omega)))<|Φ (bT (((n:Int) - 1).toNat) underlying247 oR Z Z (aX.has.bs (aO (((n:Int) - 1).toNat))) (by omega) (by omega))<|Φ (ao Z (aa.aG.er Fy (aX.has.cg (aO (((n:Int) - 1).toNat))) (cA (l:=l) (u:=default) (by omega)) PZ oR))<|al Z aeC Z Z λ cK bR bq dU ai=> ?_;have ba:=(Mod.bg (b::aa.aj A) w).trans (Mod.bt bq);refine st (new:= [J ((l.getD (((n:Int) - 1).toNat) default).cell.x),J ((l.getD (((n:Int) - 1).toNat) default).cell.y),J ((l.getD (((n:Int) - 1).toNat) default).a_),J ((l.getD (((n:Int) - 1).toNat) default).all)]) Z Z ai Z oR Z Z Z λ ea F8 ai=> ?_;have bE:=ba.md F8 (λ q I=> .inr (by have:=aTz.1 I;omega));refine ag<|ah<|vm Z<|vm Z<|vm Z<|Φ (cl underlying247 Z)<|Φ (gh Z Z (bf (by omega)))<|Φ (ZW (n - 1) (n - 1) underlying247 oR Z Z (by omega) (by omega) Z)<|Φ (cf Z)<| ?_;have aZ:=(aZ.later bq).mod F8 aQ;refine fb Z Z aZ Z aeA Z Z λ B4 DJ aZ=> ?_;have nS:=bE.md DJ (λ q I=> .inl (by rw [aTz.1 I];exact aT1));refine ag<|ah<| ?_;have ai:=ai.mod DJ aQ;refine Φ (ao Z (ai.all PZ oR))<|Φ (R0 (λ w=>by kernel_rfl) Z)<|va Z<|ag<|rt<|aV (.tmp Z .nil)<| ?_;have aX:=((aX.later bq).mod F8 (b0 aGp)).mod DJ (λ q I h=>by have γ:=aTz.1 h;exfalso;(exact hd q I γ));exact ⟨by rw [show ((n:Int) - 1).toNat=n - 1 by omega];rfl,aZ,aa.aH.cut aX aa.dj (n - 1) (by omega),nS⟩
theorem aHS (b:Nat) (A:Option Addr) (c aE:Nat) (l:List cp) (v0 v1 v2 v3 v4 v5:Value) (x:cp) (w:World) (aZ:aR w b [v0,v1,v2,v3,v4,v5, .slice A l.length c] 249 (0,0)) (aX:cp.rep.aH 304 32 w aE (aa.aj A) A c (l)) (eA:∀ y∈l,y.ok) (hd:∀ q∈aa.aj A,q=b→False) (hx:x.ok) (QY:l.length≤1000000) (xq:aE≤w.heap.size):
  Calls prog 184 #[.iface 302 (.pointer (some ⟨b,6,none⟩)), .iface 304 (.agg #[J x.cell.x,J x.cell.y,J x.a_,J x.all])] w (λ e w'=>∃ bL bX,e= .returned (.tuple #[])∧aR w' b [v0,v1,v2,v3,v4,v5, .slice bL (cH.push cp.all l x).length bX] 249 (0,0)∧cp.rep.aH 304 32 w' aE (aa.aj bL) bL bX (cH.push cp.all l x)∧(∀ q∈aa.aj bL,q∈aa.aj A∨w.heap.size≤q)∧Mod (b::aa.aj A) w w'):=by
 have Sg:=aZ.lt;refine b' (n:=12) func184 Z Z Z ?_;refine ah<|vm Z<|vm Z<|ht at4 Z Z (by unfold CE;kernel_rfl) Z ((aHU b A c aE l v0 v1 v2 v3 v4 v5 x _ aZ aX eA hd hx (by omega) xq).mono ?_);rintro e iH ⟨cw,c1,rfl,fj,Ug,Dm,aBw⟩;refine ⟨_,Z, ?_⟩;have b9:=(Mod.bg (b::aa.aj A) w).md aBw (λ q I=> .inl I);have rS:(l++ [x]).length=l.length+1:=by rw [aTE];rfl
 have agv:∀ q∈aa.aj cw,q=b→False:=λ q I e=>(Dm q I).elim (λ h=>hd q h e) (λ h=>by omega);have FJ:∀ y∈l++ [x],y.ok:=λ y aF=>(aTP.1 aF).elim (eA y) λ h=>by rw [aTz.1 h];exact hx
 refine ag<|rg<|vm Z<|vm Z<|ht K0 Z Z (zQ (e:= 247) (by kernel_rfl) (fj.one pJ Z)) Z ((NU _ ((l++ [x]).length) _ _).mono ?_);rintro e amK ⟨rfl,pk⟩;refine ⟨_,Z, ?_⟩;have Od:=b9.trans (Mod.bt pk);refine Φ (gh Z Z (bf (by omega)))<| ?_;have Ug:=Ug.later pk;have fj:=fj.later pk;refine ca aud Z Z (((show Calls _ _ #[_,J (((l++ [x]).length:Int) - 1)] _ _ from (by rw [show ((l++ [x]).length:Int) - 1=(l.length:Int) by rw [rS];omega];exact aHV b cw (l++ [x]).length c1 aE (l++ [x]) v0 v1 v2 v3 v4 v5 l.length _ fj Ug FJ rfl agv (by omega)))).mono ?_);rintro e ea ⟨rfl,cW,uS,ajT⟩;refine ⟨_,Z, ?_⟩;have bE:=Od.md ajT (λ q I=>(Dm q I).imp (aTS _) λ h=>by omega);refine nl<|ne<|aV .nil<| ?_;exact ⟨cw,c1,Z,by rw [show (cH.push cp.all l x).length=(l++ [x]).length by rw [cH.Nc,rS]];exact cW,uS,Dm,bE⟩
theorem aHR (b:Nat) (A:Option Addr) (n c aE:Nat) (l:List cp) (v0 v1 v2 v3 v4 v5:Value) (w:World) (aZ:aR w b [v0,v1,v2,v3,v4,v5, .slice A n c] 249 (0,0)) (aX:cp.rep.aH 304 32 w aE (aa.aj A) A c (l)) (eA:∀ y∈l,y.ok) (hn:l.length=n) (hd:∀ q∈aa.aj A,q=b→False) (aK:0<n) (QY:n≤1000000):
  Calls prog 186 #[.iface 302 (.pointer (some ⟨b,6,none⟩))] w (λ e w'=>e= .returned (.iface 304 (.agg (l.getD 0 default).cells.toArray))∧aR w' b [v0,v1,v2,v3,v4,v5, .slice A (cH.om cp.all l).length c] 249 (0,0)∧cp.rep.aH 304 32 w' aE (aa.aj A) A c (cH.om cp.all l)∧Mod (b::aa.aj A) w w'):=by
 refine b' (n:=15) func186 Z Z Z ?_;refine ah<|va Z<|ag<|ah<|vm Z<|ht K0 Z Z (zQ (e:= 247) (by kernel_rfl) (aZ.one pJ Z)) Z ((NU _ n _ _).mono ?_);rintro e cK ⟨rfl,fw⟩;refine ⟨_,Z, ?_⟩;have ba:=(Mod.bg (b::aa.aj A) w).trans (Mod.bt fw);refine Φ (gh Z Z (bf (by omega)))<|va Z<|ag<|ah<|vm Z<|vm Z<| ?_;have aZ:=aZ.later fw;have aX:=aX.later fw;refine ht P4 Z Z (zQ (e:= 247) (by kernel_rfl) (aZ.one pJ Z)) Z ((Ts _ _ _ _ l 0 ((n:Int) - 1) 0 (n - 1) _ aX eA (by omega) (by omega) (by omega) (by omega) (by omega)).mono ?_);rintro e GB ⟨rfl,apL,ajS⟩;refine ⟨_,Z, ?_⟩;have lv:=ba.md ajS (λ q I=> .inl (aTS _ I));have ahe:∀ y∈cH.swp l 0 (n - 1),y.ok:=λ y aF=>eA y ((cH.D3 (by omega) (by omega)).subset aF);have aNs:(cH.swp l 0 (n - 1)).length=n:=by rw [cH.ml];omega
 refine ag<|ah<|vm Z<|vm Z<| ?_;have aZ:=aZ.mod ajS (λ I=>hd _ I rfl);refine ca aui Z Z (((show Calls _ _ #[_,J 0,J ((n:Int) - 1)] _ _ from (by rw [show (n:Int) - 1=((n - 1:Nat):Int) by omega];exact aHQ b A n c aE (cH.swp l 0 (n - 1)) v0 v1 v2 v3 v4 v5 0 (n - 1) _ aZ apL ahe (by omega) hd (by omega) (by omega) QY))).mono ?_);rintro e NJ ⟨⟨aSn,rfl⟩,fj,apQ,F8⟩;refine ⟨_,Z, ?_⟩;have tB:=lv.md F8 (λ q I=> .inl (aTS _ I));have ayY:∀ y∈cH.j' cp.all (n - 1) (cH.swp l 0 (n - 1)) 0,y.ok:=λ y aF=>ahe y ((cH.aeq _ _ _ _ (aTK _) (by omega) (by omega)).subset aF);have aNt:(cH.j' cp.all (n - 1) (cH.swp l 0 (n - 1)) 0).length=n:=by rw [cH.aep _ _ _ _ (aTK _)];omega
 refine ag<|ah<|vm Z<|ht aus Z Z (by unfold CE;kernel_rfl) Z ((aHT b A n c aE (cH.j' cp.all (n - 1) (cH.swp l 0 (n - 1)) 0) v0 v1 v2 v3 v4 v5 _ fj apQ ayY (by omega) hd aK).mono ?_);rintro e Af ⟨rfl,aoE,aoO,IM⟩;refine ⟨_,Z, ?_⟩;have iL:=tB.md IM (λ q I=> .inl I);refine va Z<|ag<|rt<|aV (.tmp Z .nil)<| ?_;subst hn;exact ⟨by rw [← cH.akH (key:=cp.all) aK];rfl,by rw [cH.I9];exact aoE,aoO,iL⟩
end
section
theorem iq {a b:Bool} (h:a=b):Ending.returned (.bool a)= .returned (.bool b):=by rw [h]
theorem lA (w:World) (o:Obj):Below w.heap.size w (w.alloc o):=(aUb _ w).alloc (aTK _) o
end
end Go.Proofs.YtmeeljmapailnaaGreat
