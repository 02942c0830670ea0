import Derived.Test.YtmeeljmapailnaaGreatCelK
set_option linter.unusedVariables false
set_option linter.unusedSimpArgs false
set_option maxRecDepth 100000
set_option maxHeartbeats 4000000
open Go.RowKit
namespace Go.Proofs.YtmeeljmapailnaaGreat
open Tryz
abbrev aSS:=@List.length_singleton
abbrev aTE:=@Bool.not_eq_false'
abbrev aUb:=@beq_eq_false_iff_ne
abbrev aVy:=@List.countP_append
abbrev aVV:=@List.countP_cons
abbrev aV0:=@Go.Proofs.Tryz.zeroValue3
abbrev aWR:=@Nat.le_succ_of_le
section
open Go.RowKit Go.Maps
section
variable {w w':World} {b:Nat} {g:ax→Int} {S:List Nat} {x:ax} {st:Nat}
def E8 (w:World) (b:Nat) (l:List (ax×Int×Nat)) (lO:Nat) (g:ax→Int):Prop :=
 dE ax.key w b l lO∧(∀ e∈l,e.1.ok)∧(l.map (·.1)).Nodup∧∀ y,(dE.get l y).getD 0=g y
def kZ (w:World) (b:Nat) (g:ax→Int):Prop:=∃ l lO,E8 w b l lO g
def sT (w:World) (b:Nat) (g:ax→Int) (x:ax) (st:Nat):Prop:=∃ l lO,E8 w b l lO g∧∃ (j:Nat) (v:Int),l[j]? =some (x,v,st)
theorem kZ.lt (h:kZ w b g):b<w.heap.size:=by obtain ⟨l,c,h,_⟩:=h;exact h.lt
theorem E8.keep {l:List (ax×Int×Nat)} {lO:Nat} (h:E8 w b l lO g) (ar:w'.heap[b]? =w.heap[b]?):E8 w' b l lO g:=⟨h.1.keep ar,h.2⟩
theorem kZ.keep (h:kZ w b g) (ar:w'.heap[b]? =w.heap[b]?):kZ w' b g:=by obtain ⟨l,c,h⟩:=h;exact ⟨l,c,h.keep ar⟩
theorem kZ.later (h:kZ w b g) (x:Ext w w'):kZ w' b g:=h.keep (x.block b h.lt)
theorem kZ.mod (h:kZ w b g) (m:Mod S w w') (hs:b∉S):kZ w' b g:=h.keep (m.block b h.lt hs)
theorem sT.map (h:sT w b g x st):kZ w b g:=by obtain ⟨l,c,h,_⟩:=h;exact ⟨l,c,h⟩
theorem sT.lt (h:sT w b g x st):b<w.heap.size:=h.map.lt
theorem sT.keep (h:sT w b g x st) (ar:w'.heap[b]? =w.heap[b]?):sT w' b g x st:=by obtain ⟨l,c,h,ab⟩:=h;exact ⟨l,c,h.keep ar,ab⟩
theorem sT.later (h:sT w b g x st) (e:Ext w w'):sT w' b g x st:=h.keep (e.block b h.lt)
theorem kZ.of_nil (h:pR w b []):kZ w b λ _=>0:=by
 obtain ⟨es,c,κ,ab⟩:=h;have:es.toList= []:=by
  cases he:es.toList with
  | nil=>rfl
  | cons a r=>rw [he] at ab;exact ab.elim
 have e:es=#[]:=by apply aTq;simpa using this
 subst e;exact ⟨[],c,⟨by simpa using κ,by simp,by simp⟩,by simp,by simp,λ y=>rfl⟩
def pW (b:Nat) (g:ax→Int) (w w':World):Prop:=Mod [b] w w'∧(kZ w b g→kZ w' b g)
theorem pW.bE (h:Ext w w'):pW b g w w':=⟨Mod.bE h,λ k=>k.later h⟩
theorem pW.trans {aT cB:World} (h:pW b g w aT) (k:pW b g aT cB):pW b g w cB:=⟨h.1.trans k.1,λ q=>k.2 (h.2 q)⟩
theorem Zr {es:Array MapEntry} {clock:Nat}:Mod [b] w (jk w b es clock):=
 ⟨rfl,rfl,rfl,by rw [alE];exact aR7 _,λ k _ hn=>NA (by simpa using hn)⟩
def tL (g:ax→Int) (x:ax) (v:Int):ax→Int:=λ y=>if y=x then v else g y
end
section
variable {w:World} {b:Nat} {l:List (ax×Int×Nat)} {clock:Nat} {g:ax→Int}
theorem aj0:prog.underlying 205 =some (.map 55 3):=by kernel_rfl
theorem azW (h:kZ w b g) (x:ax) (hx:x.ok):(Instr.lookup 205 (.map (some b)) (ax.key x) false).run prog w= .ok (.int .i64 (g x)) w:=by
 obtain ⟨l,c,κ,ab,aw,a6⟩:=h;rw [← a6 x];exact (dE.lookup ax.zJ aj0 (aV0 w) κ ab aw x hx).1
theorem aDk {l:List (ax×Int×Nat)} {j:Nat} {a:ax×Int×Nat} (hm:(l.map (·.2.2)).Nodup) (az:l[j]? =some a):((l.map (dH ax.key)).toArray).findIdx? (λ y=>((y.born:Nat):Int)== ((a.2.2:Nat):Int))=some j:=by
 rw [aWl];refine aWf (l:=l.map (dH ax.key)) (j:=j) (e0:=dH ax.key a) ?_ (by rw [aSd,az];rfl);rw [aUr];exact hm
theorem azV (h:kZ w b g) (x:ax) (hx:x.ok):∃ (st:Nat) (w':World),(Instr.mapEntry 205 (.map (some b)) (ax.key x)).run prog w= .ok (.tuple #[.int .i64 (g x), .int .i64 (st:Int)]) w'∧Mod [b] w w'∧sT w' b g x st:=by
 obtain ⟨l,clock,h,hw,hn,aO⟩:=h;obtain ⟨cQ,sf⟩:=ax.zJ.lit x hx;have Φ:=h.fy;have bz:=h.lt;have aC:=aj0;have bC:=aV0;rcases dE.found ax.zJ h hw x hx with ⟨κ,ab,aw⟩ | ⟨j,v0,n0,κ,ab⟩
 ·have Ir:g x=0:=by rw [← aO x,ab];rfl
  have DL:dE.put l clock x 0=l++ [(x,0,clock)]:=by
   unfold dE.put;rw [aR5];intro ha;obtain ⟨a,ha,hd⟩:=aS9.1 ha;exact aw a ha (by simpa using hd)
  have iO:E8 (jk w b ((l++ [(x,0,clock)]).map (dH ax.key)).toArray (clock+1)) b (l++ [(x,0,clock)]) (clock+1) g:=by
   refine ⟨⟨D' bz,λ a ha=> ?_, ?_⟩,λ a ha=> ?_, ?_,λ y=> ?_⟩
   ·rcases aSb.1 ha with ha | ha
    ·have:=h.born a ha;omega
    ·simp at ha;subst ha;simp
   ·rw [aSm,aSN];refine ⟨h.stamps,by simp,λ a ha c hc e=> ?_⟩;simp at hc;obtain ⟨y,aI,rfl⟩:=aSt.1 ha;have:=h.born y aI;omega
   ·rcases aSb.1 ha with ha | ha
    ·exact hw a ha
    ·simp at ha;subst ha;exact hx
   ·have:=dE.IE hn clock x 0;rw [DL] at this;exact this
   ·have:=dE.Bs l clock x y 0;rw [DL] at this;rw [this];by_cases e:y=x
    ·rw [aR8 e,e,Ir];rfl
    ·rw [aR5 e];exact aO y
  refine ⟨clock,_, ?_,Zr,⟨_,_,iO,l.length,0,by simp⟩⟩
  ·rw [Ir];have:(l.map (dH ax.key)).toArray.push (⟨ax.key x, .int .i64 0,clock⟩:MapEntry)=((l++ [(x,0,clock)]).map (dH ax.key)).toArray:=by simp [dH]
   simp [Instr.mapEntry,aTa aC,aSQ Φ,ax.zJ.keyed.check w false sf,κ,bC,aTi _ Φ,Result.andThen,jk,Go.ChangeMaps.setBlock,goInt,dH]
 ·have Ir:g x=v0:=by rw [← aO x,dE.iM hn ab];rfl
  have iO:E8 (jk w b (l.map (dH ax.key)).toArray clock) b l clock g:=⟨⟨D' bz,h.born,h.stamps⟩,hw,hn,aO⟩;refine ⟨n0,_, ?_,Zr,⟨_,_,iO,j,v0,ab⟩⟩
  ·rw [Ir];have az:(l.map (dH ax.key)).toArray[j]? =some (dH ax.key (x,v0,n0)):=by simp [ab]
   have XE:(l.map (dH ax.key)).toArray.modify j (λ e=> {e with key:=ax.key x})=(l.map (dH ax.key)).toArray:=by
    apply aTq;rw [aUe,aT2 _ _ _ _ (by rw [aSd,ab];rfl)];exact aWx _ _ _ (by rw [aSd,ab];rfl)
   have Xj:(dH ax.key (x,v0,n0)).key=ax.key x:=rfl;have WT:(dH ax.key (x,v0,n0)).born=n0:=rfl;simp only [Instr.mapEntry,aSc,aTa aC,aR3,aSQ Φ,ax.zJ.keyed.check w false sf,κ,az,aTv,aS2,Xj,ax.zJ.keyed.stays w sf,XE,aTi _ Φ,WT,aSe];rfl
theorem azX {st:Nat} {x:ax} (h:sT w b g x st) (v:Int):∃ w',(Instr.entryStore 205 (.map (some b)) (.int .i64 (st:Int)) (.int .i64 v)).run prog w= .ok () w'∧Mod [b] w w'∧kZ w' b (tL g x v):=by
 obtain ⟨l,clock,⟨h,hw,hn,aO⟩,j,v0,ab⟩:=h;have Φ:=h.fy;have bz:=h.lt;have et:=aDk (a:=(x,v0,st)) h.stamps ab;have p4:l.any (λ e=>decide (e.1=x))=true:=aS9.2 ⟨_,aSo ab,by simp⟩;have wk:dE.put l clock x v=l.set j (x,v,st):=by
  unfold dE.put;rw [aR8 p4];refine aTN λ i=> ?_;rw [aSd];by_cases j3:j=i
  ·subst j3;rw [ab,aSl (aRW.1 ab).1];simp
  ·rw [aSp j3];cases aq:l[i]? with
   | none=>rfl
   | some a =>
    have:a.1≠x:=by
     intro Bx;have aZ:(l.map (·.1))[i]? =(l.map (·.1))[j]? :=by rw [aSd,aSd,aq,ab];simp [Bx]
     have:=(aVH (by simpa using (aRW.1 aq).1) hn).1 aZ;exact j3 this.symm
    simp [this]
 have L1:(l.map (dH ax.key)).toArray.modify j (λ e=> {e with val:=Value.int .i64 v})=((l.set j (x,v,st)).map (dH ax.key)).toArray:=by
  apply aTq;rw [aUe,aT2 _ _ _ _ (by rw [aSd,ab];rfl),aS6];rfl
 refine ⟨jk w b ((l.set j (x,v,st)).map (dH ax.key)).toArray clock, ?_,Zr,l.set j (x,v,st),clock,⟨D' bz,λ a ha=> ?_, ?_⟩,λ a ha=> ?_, ?_,λ y=> ?_⟩
 ·rw [← L1];simp only [Instr.entryStore,aSc,aSQ Φ,aR3,asInt,asIntOf,goInt,aSe];rw [et];exact aTi _ Φ
 ·rcases aTJ ha with ha | ha
  ·exact h.born a ha
  ·rw [ha];exact h.born (x,v0,st) (aSo ab)
 ·rw [aS6];have:(l.map (·.2.2)).set j st=l.map (·.2.2):=by
   obtain ⟨qZ,pd⟩:=aRW.1 ab;have e:(l.map (·.2.2))[j]'(by simpa using qZ)=st:=by rw [aUU,pd]
   conv=>lhs;rw [← e]
   exact aTI _
  rw [this];exact h.stamps
 ·rcases aTJ ha with ha | ha
  ·exact hw a ha
  ·rw [ha];exact hw (x,v0,st) (aSo ab)
 ·have:=dE.IE hn clock x v;rw [wk] at this;exact this
 ·have:=dE.Bs l clock x y v;rw [wk] at this;rw [this];unfold tL;by_cases e:y=x
  ·rw [aR8 e,aR8 e];rfl
  ·rw [aR5 e,aR5 e];exact aO y
end
section
variable {n:Nat} {E cU:List (Nat×Value)} {a:Act} {w w' w0 aT:World} {Q:Exit→Act→World→Prop} {ops:Array Oper}
variable {d:Option Nat} {ty:TypeId} {pos:String} {af:Array Edge} {au0:Option (Nat×Bool)} {x y z m:Operand} {rest:List Oper} {r st:Nat} {g:ax→Int} {p:ax} {v:Int}
theorem Rz (h:kZ w r g) (ar:p.ok) (hx:ev E m=some (.map (some r))) (aI:ev E y=some (ax.key p)):
  cW prog E ⟨d, .lookup 205 m y false,ty,pos,af,au0⟩ w (.int .i64 (g p)) w:=λ n a ha=>by
 simp only [execOp,ha.ev hx,ha.ev aI,aSc,azW h p ar,aR3,aSe]
theorem meC {d:Nat} (h:kZ w r g) (ar:p.ok) (hx:ev E m=some (.map (some r))) (aI:ev E y=some (ax.key p)) (hd:Nat.blt d n=true)
  (hK:∀ aT (st:Nat),Mod [r] w aT→sT aT r g p st→cK prog n ops Q rest ((d, .tuple #[.int .i64 (g p), .int .i64 (st:Int)])::E) aT):cK prog n ops Q (⟨some d, .mapEntry 205 m y,ty,pos,af,none⟩::rest) E w:=by
 obtain ⟨st,aT,κ,ab,aw⟩:=azV h p ar;refine iT (w':=aT) (v:= .tuple #[.int .i64 (g p), .int .i64 (st:Int)]) (λ n a ha=> ?_) hd (hK _ st ab aw);simp only [execOp,ha.ev hx,ha.ev aI,aSc,κ,aR3,aSe]
theorem VI (h:sT w r g p st) (hx:ev E m=some (.map (some r))) (aI:ev E y=some (.int .i64 (st:Int))) (bC:ev E z=some (.int .i64 v))
  (hK:∀ aT,Mod [r] w aT→kZ aT r (tL g p v)→cK prog n ops Q rest E aT):cK prog n ops Q (⟨none, .entryStore 205 m y z,ty,pos,af,none⟩::rest) E w:=by
 obtain ⟨aT,κ,ab,aw⟩:=azX h v;refine us (w':=aT) (λ n a ha=> ?_) (hK _ ab aw);simp only [execOp,ha.ev hx,ha.ev aI,ha.ev bC,aSc,κ,aR3,aSe]
end
end
section
def jD (T:List aY) (c:ax):Int:=((T.countP λ t=>decide (t.spot=c):Nat):Int)
theorem RX (T:List aY) (c:ax):0≤jD T c∧jD T c≤(T.length:Int):=⟨aTV _,Int.ofNat_le.2 List.countP_le_length⟩
theorem aAH (T:List aY) (t:aY):jD (T++ [t])=tL (jD T) t.spot (jD T t.spot+1):=by
 funext y
 unfold jD tL;rw [aVy,aVV,List.countP_nil];by_cases e:y=t.spot
 ·subst e;simp
 ·have e':¬ t.spot=y:=λ h=>e h.symm;rw [aR5 e];simp [e']
theorem aDE {α:Type} {T:List α} {k:Nat} {d:α} (h:k<T.length):T.take (k+1)=T.take k++ [T.getD k d]:=by
 rw [List.take_add_one,aRX h,aRU,aRX h];rfl
theorem aAI {T:List aY} {k:Nat} (h:k<T.length):jD (T.take (k+1))=tL (jD (T.take k)) (T.getD k default).spot (jD (T.take k) (T.getD k default).spot+1):=by
 rw [aDE (d:=default) h,aAH]
theorem countP_split {T:List aY} {k:Nat} (h:k<T.length) (t:aY) (c:ax):
  ((T.countP λ t=>decide (t.spot=c):Nat):Int)=(((T.take k).countP λ t=>decide (t.spot=c):Nat):Int)+(if (T.getD k default).spot=c then 1 else 0)+(((T.drop (k+1)).countP λ t=>decide (t.spot=c):Nat):Int)∧
  (((T.set k t).countP λ t=>decide (t.spot=c):Nat):Int)=(((T.take k).countP λ t=>decide (t.spot=c):Nat):Int)+(if t.spot=c then 1 else 0)+(((T.drop (k+1)).countP λ t=>decide (t.spot=c):Nat):Int):=by
 have e:T=T.take k++T.getD k default::T.drop (k+1):=by
  conv=>lhs;rw [← aT0 k T,aTL h]
  rw [aRU,aRX h];rfl
 constructor
 ·conv=>lhs;rw [e]
  rw [aVy,aVV];by_cases hc:(T.getD k default).spot=c<;>simp only [hc,aUN,aUE,aTG,aTm]<;>simp<;>omega
 ·rw [aVC,aR8 h,aVy,aVV];by_cases hc:t.spot=c<;>simp only [hc,aUN,aUE,aTG,aTm]<;>simp<;>omega
theorem aAG {T:List aY} {k:Nat} (h:k<T.length) (t:aY):
  jD (T.set k t)=tL (tL (jD T) (T.getD k default).spot (jD T (T.getD k default).spot - 1)) t.spot (tL (jD T) (T.getD k default).spot (jD T (T.getD k default).spot - 1) t.spot+1):=by
 obtain ⟨A,D,hA,bf⟩:∃ A D:ax→Int,(∀ y,jD T y=A y+(if (T.getD k default).spot=y then 1 else 0)+D y)∧∀ y,jD (T.set k t) y=A y+(if t.spot=y then 1 else 0)+D y :=
  ⟨_,_,λ y=>(countP_split h t y).1,λ y=>(countP_split h t y).2⟩
 funext y
 unfold tL;rw [bf y,hA y,hA t.spot,hA (T.getD k default).spot];generalize (T.getD k default).spot=a;generalize t.spot=b;by_cases aZ:y=b
 ·subst aZ;by_cases bh:y=a
  ·subst bh;simp only [aTG,eq_self];omega
  ·have cF:¬ a=y:=λ h=>bh h.symm;simp only [aTG,bh,cF,aTm];omega
 ·have jd:¬ b=y:=λ h=>aZ h.symm;by_cases bh:y=a
  ·subst bh;simp only [aTG,aZ,jd,aTm];omega
  ·have cF:¬ a=y:=λ h=>bh h.symm;simp only [aZ,bh,cF,jd,aTm]
theorem aEp {g:ax→Int} {n v:Int} {x:ax} (h:∀ y,0≤g y∧g y≤n) (κ: -1≤v) (ab:v≤n) (y:ax): -1≤tL g x v y∧tL g x v y≤n:=by
 unfold tL;have:=h y;split<;>omega
theorem aAF {T:List aY} {c:ax}:0<jD T c↔∃ t∈T,t.spot=c:=by
 unfold jD;rw [Int.natCast_pos,List.countP_pos_iff];simp
def ey (l:List dm) (id:Int):Int:=gx (λ g=>g.id == id) l
theorem au6 (l:List dm) (id:Int):ey l id= -1∧(∀ g∈l,g.id≠id)∨∃ k,k<l.length∧ey l id=(k:Int)∧(l.getD k default).id=id∧∀ j,j<k→(l.getD j default).id≠id:=by
 rcases XT (λ g=>g.id == id) l with ⟨κ,ab⟩ | ⟨k,ar,κ,ab,aw⟩
 ·exact .inl ⟨κ,λ g aO=>by simpa using ab g aO⟩
 ·refine .inr ⟨k,ar,κ, ?_,λ j az=> ?_⟩
  ·rw [aRU,aRX ar];simpa using ab
  ·rw [aRU,aRX (by omega)];simpa using aw j az
noncomputable def re (f:aE) (l:List dm) (T:List aY) (k:Nat):Option ax :=
 if ey l (T.getD k default).id<0 then none
 else if hq f (T.getD k default).spot (l.getD (ey l (T.getD k default).id).toNat default).bq≠0 then none
 else if (fU f (T.getD k default).spot (l.getD (ey l (T.getD k default).id).toNat default).bq).length<2 then none
 else if 0<jD T ((fU f (T.getD k default).spot (l.getD (ey l (T.getD k default).id).toNat default).bq).getD 1 default) then none
 else some ((fU f (T.getD k default).spot (l.getD (ey l (T.getD k default).id).toNat default).bq).getD 1 default)
def aY.bq (t:aY) (c:ax):aY:= {t with spot:=c}
noncomputable def kj (f:aE) (l:List dm) (T:List aY):Nat→List aY×List Int
 | 0=>(T, [])
 | k+1=>match re f l (kj f l T k).1 k with
  | none=>kj f l T k
  | some c=>((kj f l T k).1.set k (((kj f l T k).1.getD k default).bq c),(kj f l T k).2++ [((kj f l T k).1.getD k default).id])
theorem GB {f:aE} {l:List dm} {T U:List aY} {M:List Int} {k:Nat} (h:kj f l T k=(U,M)) (hs:re f l U k=none):kj f l T (k+1)=(U,M):=by
 show (match re f l (kj f l T k).1 k with | none=>_ | some c=>_)=_;rw [h];simp only [hs]
theorem NG {f:aE} {l:List dm} {T U:List aY} {M:List Int} {k:Nat} {c:ax} (h:kj f l T k=(U,M)) (hs:re f l U k=some c):kj f l T (k+1)=(U.set k ((U.getD k default).bq c),M++ [(U.getD k default).id]):=by
 show (match re f l (kj f l T k).1 k with | none=>_ | some c=>_)=_;rw [h];simp only [hs]
theorem Sv {f:aE} {l:List dm} {T:List aY}:∀ k,(kj f l T k).1.length=T.length∧(kj f l T k).2.length≤k
 | 0=>⟨rfl,aR7 _⟩
 | k+1=>by
  have bx:=Sv (f:=f) (l:=l) (T:=T) k;cases hs:re f l (kj f l T k).1 k with
  | none=>rw [GB rfl hs];exact ⟨bx.1,aWR bx.2⟩
  | some c=>rw [NG rfl hs];exact ⟨by rw [aR4];exact bx.1,by rw [aR1,aSS];omega⟩
noncomputable def ae.mv (W:ae) (l:List dm):ae×List Int:=({W with ak:=(kj W.field l W.ak W.ak.length).1},(kj W.field l W.ak W.ak.length).2)
end
section
section
variable {gb:Nat} {gd:ax→Int} {P:Program} {ops:Array Oper} {Q:Exit→Act→World→Prop} {a7:Nat→Nat}
def vB (gb:Nat) (gd:ax→Int) (P:Program) (ops:Array Oper) (w0:World) (o:Oper) (v:Value) (a:Act):Prop :=
  (Region.wanted o (yielded ops a.tmps)=true∧∀ w,pW gb gd w0 w→zY P w v ((execOp a.eval o).run P w))∨
  (Region.wanted o (yielded ops a.tmps)=false∧v=undef)
theorem vB.of_same {w0:World} {o:Oper} {v:Value} {a a':Act} (h:vB gb gd P ops w0 o v a) (he:execOp a'.eval o=execOp a.eval o) (hw:Region.wanted o (yielded ops a'.tmps)=Region.wanted o (yielded ops a.tmps)):vB gb gd P ops w0 o v a':=by
  unfold vB at *;rw [he,hw];exact h
theorem vB.on {w0 aT:World} {o:Oper} {v:Value} {a:Act} (h:vB gb gd P ops w0 o v a) (hx:pW gb gd w0 aT):vB gb gd P ops aT o v a :=
  h.imp (λ ⟨κ,ab⟩=>⟨κ,λ w hw=>ab w (hx.trans hw)⟩) id
theorem Yields.aCe {w0:World} {o:Oper} {v:Value} {a:Act} (h:Yields P ops o v a):vB gb gd P ops w0 o v a :=
  h.imp (λ ⟨κ,ab⟩=>⟨κ,λ w _=>by rw [ab w];exact ⟨rfl,rfl⟩⟩) id
def aDr (gb:Nat) (gd:ax→Int) (P:Program) (ops:Array Oper) (Q:Exit→Act→World→Prop) (a7:Nat→Nat) (i:Nat) (K:Act→World→Prop) (a:Act) (w0:World):Prop :=
  ∃ o,ops[i]? =some o∧
    ((a7 i≤1∧∃ v,vB gb gd P ops w0 o v a∧K (a.put o.dst v) w0)∨
     (1<a7 i∧∀ w,Ext w0 w→wpOp P ops Q i (λ a' w'=>(a7 i=2→pW gb gd w0 w')∧K a' w') a w))
def KC (gb:Nat) (gd:ax→Int) (P:Program) (ops:Array Oper) (Q:Exit→Act→World→Prop) (a7:Nat→Nat):Nat→Array Bool→Act→World→Prop
  | 0,l,a,w0=>Region.ready .any ops l= []∧∀ w,Ext w0 w→Q .normal a w
  | f+1,l,a,w0=>(Region.ready .any ops l= []→∀ w,Ext w0 w→Q .normal a w)∧∀ i∈Region.ready .any ops l,aDr gb gd P ops Q a7 i (KC gb gd P ops Q a7 f (l.setIfInBounds i true)) a w0
theorem Hz:∀ (f:Nat) (l:Array Bool) (a:Act) (w0:World),KC gb gd P ops Q a7 f l a w0→∀ w,Ext w0 w→wpAny P .any ops Q f l a w
  | 0,_,_,_,h,w,hw=>⟨h.1,h.2 w hw⟩
  | f+1,l,a,w0,h,w,hw=>⟨λ aG=>h.1 aG w hw,λ i aq=>by
      obtain ⟨o,b4,ab⟩:=h.2 i aq;rcases ab with ⟨_,v,I,ar⟩ | ⟨_,ab⟩
      · unfold wpOp
        simp only [b4];rcases I with ⟨mN,I⟩ | ⟨mN,rfl⟩
        · rw [aR8 mN]
          refine .inl ?_;have I:=I w (pW.bE hw);unfold Oper.wp;generalize (execOp a.eval o).run P w=r at *
          cases r with
          | ok n w' =>
            cases n<;>simp only [zY] at I<;>simp only [Oper.upon]
            case value u=>obtain ⟨rfl,rfl⟩:=I;exact Hz f _ _ _ ar _ hw
            case skip=>obtain ⟨rfl,rfl⟩:=I;exact Hz f _ _ _ ar _ hw
            case enter f' args=>obtain ⟨rfl,hc⟩:=I;exact hc.mono λ e lZ ⟨he,hx⟩=>by subst he;exact Hz f _ _ _ ar _ (hw.uU hx)
          | halt x w'=>simp only [zY] at I
        · rw [aR5 (by rw [mN];decide)]
          exact Hz f _ _ _ ar _ hw
      · exact aUg (λ a' w' aw=>Hz f _ _ _ aw.2 _ (Ext.bN w')) (ab w hw)⟩
theorem afg {i:Nat} {dB:Oper} {v:Value} (aq:ops[i]? =some dB) (ar:a7 i≤1) (nO:∀ (j:Nat) (o:Oper) cs b,ops[j]? =some o→o.op≠ .select cs b)
    (iy:∀ c a w,¬ Q (.panic c) a w) (aD:World→Act→Prop) (lp:∀ w0 a,aD w0 a→vB gb gd P ops w0 dB v a)
    (z2:∀ w0 a a',aD w0 a→execOp a'.eval dB=execOp a.eval dB→Region.wanted dB (yielded ops a'.tmps)=Region.wanted dB (yielded ops a.tmps)→aD w0 a')
    (z3:∀ w0 aT a,pW gb gd w0 aT→aD w0 a→aD aT a) (R:Nat→Bool) (xZ:Array Bool)
    (hR:∀ j dg,ops[j]? =some dg→j≠i→(∀ e∈dg.after,Region.binds .any e=true→R e.on=true)→R j=true)
    (bf:(∀ w0 aT a,aD w0 a→aD aT a)∨∀ j,R j=true→3≤a7 j→xZ.getD j true=true):
    ∀ (f:Nat) (l:Array Bool) (a:Act) (w0:World),(∀ j,l.getD j false=true→R j=true)→(∀ j,xZ.getD j true=true→l.getD j true=true)→
      (∀ j dg,ops[j]? =some dg→j≠i→l.getD j true=false→(∀ e∈dg.after,Region.binds .any e=true→e.on≠i)→dB.apart ops dg=true)→
      i∈Region.ready .any ops l→aD w0 a→KC gb gd P ops Q a7 f (l.setIfInBounds i true) (a.put dB.dst v) w0→KC gb gd P ops Q a7 (f+1) l a w0:=by
  intro f;induction f with
  | zero =>
    intro l a w0 _ _ _ hr bC H;refine ⟨λ h=>(by rw [h] at hr;cases hr),λ j az=> ?_⟩;by_cases hV:j=i
    · subst hV;exact ⟨dB,aq, .inl ⟨ar,v,lp _ _ bC,H⟩⟩
    · have:=aUp az hV
      rw [H.1] at this;cases this
  | succ f bx =>
    intro l a w0 DD DB Dx hr bC H;refine ⟨λ h=>(by rw [h] at hr;cases hr),λ j az=> ?_⟩;by_cases hV:j=i
    · subst hV;exact ⟨dB,aq, .inl ⟨ar,v,lp _ _ bC,H⟩⟩
    · obtain ⟨dg,k5,κ⟩:=H.2 j (aUp az hV)
      obtain ⟨xR,gL,DK,dK⟩:=aVu.1 az;obtain rfl:gL=dg:=by rw [k5] at DK;exact (aRV DK).symm
      have L_:∀ e∈gL.after,Region.binds .any e=true→e.on≠i:=λ e he Φ heq=>by
        have κ:=dK e he Φ;have aG:=(aVu.1 hr).1;rw [heq] at κ;rcases aSZ i l.size with c6 | c6
        · simp [c6] at aG κ;rw [aG] at κ;cases κ
        · simp [aSU c6] at κ
      have LH:=Dx j gL k5 hV xR L_;obtain ⟨ck,a2,a3⟩:=aWe LH;have Mk:∀ cs b,dB.op≠ .select cs b:=λ cs b=>nO i dB cs b aq;have xW:∀ cs b,gL.op≠ .select cs b:=λ cs b=>nO j gL cs b k5;have keep:∀ aT a u,aD aT a→aD aT (a.put gL.dst u):=λ aT a u bC=>z2 _ _ _ bC (aUA dB Mk a gL.dst u a3) (aUL dB a gL.dst u a3);have Dp:R j=true:=hR j gL k5 hV λ e he Φ=>DD _ (dK e he Φ);have DE:∀ k,(l.setIfInBounds j true).getD k false=true→R k=true:=λ k ar=>by
        by_cases g_:j=k
        · rw [← g_];exact Dp
        · rw [aUa false g_] at ar;exact DD k ar
      have DC:∀ k,xZ.getD k true=true→(l.setIfInBounds j true).getD k true=true:=λ k ar=>by
        by_cases g_:j=k
        · subst g_
          rcases aSZ j l.size with c6 | c6
          · simp [c6]
          · simp [aSU c6]
        · rw [aUa true g_];exact DB k ar
      have Dy:∀ k ok,ops[k]? =some ok→k≠i→(l.setIfInBounds j true).getD k true=false→
          (∀ e∈ok.after,Region.binds .any e=true→e.on≠i)→dB.apart ops ok=true:=λ k ok ar p' DN j5=>by
        refine Dx k ok ar p' ?_ j5;by_cases g_:j=k
        · subst g_;exact xR
        · rw [aUa true g_] at DN;exact DN
      have DM:=aUp hr (aUF hV);rcases κ with ⟨xS,u,I,hK⟩ | ⟨xS,κ⟩
      · refine ⟨gL,k5, .inl ⟨xS,u,I.of_same (aUA gL xW a dB.dst v ck).symm (aUL gL a dB.dst v ck).symm, ?_⟩⟩
        refine bx _ _ _ DE DC Dy DM (keep _ _ _ bC) ?_;rw [aTr _ _ hV,← aTY a v u a2];exact hK
      · refine ⟨gL,k5, .inr ⟨xS,λ w hw=> ?_⟩⟩
        refine aUg (λ a' w' aw=>⟨aw.2.1, ?_⟩) (aag (aD:=aD w0) k5 ck a2 xW iy (keep w0) (λ a d bC=>z2 _ _ _ bC Z Z) bC (κ w hw));have Mo:aD w' a':=by
          rcases aSZ (a7 j) 3 with bz | uG
          · exact z3 _ _ _ (aw.2.1 (by omega)) aw.1
          · rcases bf with bf | bf
            · exact bf _ _ _ aw.1
            · have:=DB j (bf j Dp uG);rw [xR] at this;cases this
        refine bx _ _ _ DE DC Dy DM Mo ?_;rw [aTr _ _ hV];exact aw.2.2
def JI (gb:Nat) (gd:ax→Int) (P:Program) (ops:Array Oper) (Q:Exit→Act→World→Prop) (a7:Nat→Nat):List Nat→Act→World→Prop
  | [],a,w0=>∀ w,Ext w0 w→Q .normal a w
  | i::r,a,w0=>∃ o,ops[i]? =some o∧
      ((a7 i=0∧∃ v,vB gb gd P ops w0 o v a∧JI gb gd P ops Q a7 r (a.put o.dst v) w0)∨
       (a7 i=1∧∃ v,Yields P ops o v a∧JI gb gd P ops Q a7 r (a.put o.dst v) w0)∨
       (1<a7 i∧∀ w,Ext w0 w→wpOp P ops Q i (λ a' w'=>(a7 i=2→pW gb gd w0 w')∧JI gb gd P ops Q a7 r a' w') a w))
theorem Pf (hs:Region.noSelect ops=true) (iy:∀ c a w,¬ Q (.panic c) a w):∀ (r:List Nat) (l:Array Bool) (a:Act) (w0:World),l.size=ops.size→kI ops a7 r l=true→JI gb gd P ops Q a7 r a w0→KC gb gd P ops Q a7 r.length l a w0
  | [],l,a,w0,_,bf,h=>⟨by simpa [kI] using bf,h⟩
  | i::r,l,a,w0,ay,bf,h=>by
    obtain ⟨o,b4,h⟩:=h;have nO:=aUC hs;rcases h with ⟨ar,v,I,hK⟩ | ⟨ar,v,I,hK⟩ | ⟨ar,h⟩
    · simp only [kI,ar,aR2] at bf
      obtain ⟨⟨⟨hf,hr⟩,Φ⟩,bf⟩:=bf;obtain ⟨R,r1,r2,yr⟩:=Pq ay Φ;exact afg b4 (by omega) nO iy (λ w0 a=>vB gb gd P ops w0 o v a) (λ _ _ h=>h) (λ _ _ _ h he hw=>h.of_same he hw) (λ _ _ _ hx h=>h.on hx) R l r1 (.inr yr) _ _ _ _ r2 (λ _ h=>h) (aTH b4 hf) (by simpa using hr) I
        (Pf hs iy r _ _ _ (by simpa using ay) bf hK)
    · simp only [kI,ar,aR2] at bf
      obtain ⟨⟨hf,hr⟩,bf⟩:=bf;exact afg b4 (by omega) nO iy (λ _ a=>Yields P ops o v a) (λ _ _ h=>Yields.aCe h) (λ _ _ _ h he hw=>h.of_same he hw) (λ _ _ _ _ h=>h) (λ _=>true) l (λ _ _ _ _ _=>Z) (.inl λ _ _ _ h=>h) _ _ _ _ (λ _ _=>Z) (λ _ h=>h) (aTH b4 hf) (by simpa using hr) I
        (Pf hs iy r _ _ _ (by simpa using ay) bf hK)
    · obtain ⟨k,iA⟩:∃ k,a7 i=k+2:=⟨a7 i - 2,by omega⟩
      simp only [kI,iA,aR2,aST] at bf;obtain ⟨hr,bf⟩:=bf;refine ⟨λ aG=>(by rw [hr] at aG;cases aG),λ j az=> ?_⟩;rw [hr] at az;obtain rfl:j=i:=by simpa using az
      exact ⟨o,b4, .inr ⟨ar,λ w hw=>aUg (λ a' w' aw=>⟨aw.1,Pf hs iy r _ _ _ (by simpa using ay) bf aw.2⟩) (h w hw)⟩⟩
theorem aCp {id:Nat} {a:Act} {w:World} (b1:List Nat) (hm:P.follows .mixedOrders=true) (bf:(Region.noSelect ops && (b1.length == ops.size) && kI ops a7 b1 (Array.replicate ops.size false))=true)
    (h:JI gb gd P ops (hC (Q .normal)) a7 b1 a w):(Code.region id ops true).wp P Q a w:=by
  simp only [aR2,aST] at bf;obtain ⟨⟨hs,ay⟩,bf⟩:=bf;refine wp_mono (aVD hm (Q:=hC (Q .normal)) ?_) (λ e a w I=>by cases e<;>first | exact I | exact I.elim);have:=Pf (P:=P) hs (Q:=hC (Q .normal)) (λ _ _ _ h=>h) b1 (Array.replicate ops.size false) a w (by simp) bf h;rw [ay] at this;exact Hz _ _ _ _ this _ (aSr _ w).drew
end
section
variable {gb:Nat} {gd:ax→Int} {P:Program} {n:Nat} {E cU:List (Nat×Value)} {a:Act} {w w' w0 aT:World} {Q:Exit→Act→World→Prop} {ops:Array Oper} {v:Value} {a7:Nat→Nat}
variable {d:Option Nat} {ty:TypeId} {pos:String} {af:Array Edge} {g:Option (Nat×Bool)} {x y z:Operand} {t:TypeId} {rest:List Oper} {b1:List Nat} {i:Nat}
def yZ (gb:Nat) (gd:ax→Int) (P:Program) (n:Nat) (ops:Array Oper) (Q:Exit→Act→World→Prop) (a7:Nat→Nat) (b1:List Nat) (E:List (Nat×Value)) (w0:World):Prop:=∀ a,ep n E a→JI gb gd P ops (hC (Q .normal)) a7 b1 a w0
theorem Za {id:Nat} (gb:Nat) (gd:ax→Int) (na:List (Nat×Nat)) (b1:List Nat) (hm:P.follows .mixedOrders=true) (bf:(Region.noSelect ops && (b1.length == ops.size) && kI ops (pk na) b1 (Array.replicate ops.size false))=true)
    (h:yZ gb gd P n ops Q (pk na) b1 E w):W P n (.region id ops true) Q E w:=λ a ha=>aCp b1 hm bf (h a ha)
theorem VV (h:∀ w,Ext w0 w→N n Q E w):yZ gb gd P n ops Q a7 [] E w0:=λ a ha w hw=>h w hw a ha
theorem Dl {d:Nat} {op:Op} (aq:ops[i]? =some ⟨some d,op,ty,pos,af,none⟩) (ar:a7 i=0) (hr:∀ w,pW gb gd w0 w→cW P E ⟨some d,op,ty,pos,af,none⟩ w v w) (hd:Nat.blt d n=true)
    (h:yZ gb gd P n ops Q a7 b1 ((d,v)::E) w0):yZ gb gd P n ops Q a7 (i::b1) E w0:=λ a ha =>
  ⟨_,aq, .inl ⟨ar,v, .inl ⟨Ck rfl,λ w hw=>by rw [hr w hw n a ha];exact ⟨rfl,rfl⟩⟩,h _ (ha.put hd v)⟩⟩
theorem s7 {d:Nat} {op:Op} (aq:ops[i]? =some ⟨some d,op,ty,pos,af,none⟩) (ar:a7 i=1) (hr:∀ w,cW P E ⟨some d,op,ty,pos,af,none⟩ w v w) (hd:Nat.blt d n=true)
    (h:yZ gb gd P n ops Q a7 b1 ((d,v)::E) w0):yZ gb gd P n ops Q a7 (i::b1) E w0:=λ a ha =>
  ⟨_,aq, .inr (.inl ⟨ar,v, .inl ⟨Ck rfl,λ w=>hr w n a ha⟩,h _ (ha.put hd v)⟩)⟩
theorem V1 {o:Oper} (aO:o.guard=none) (aq:ops[i]? =some o) (ar:a7 i=2) (h:∀ w,Ext w0 w→Fj P n ops o E w λ cU w'=>pW gb gd w0 w'∧yZ gb gd P n ops Q a7 b1 cU w'):yZ gb gd P n ops Q a7 (i::b1) E w0:=λ a ha =>
  ⟨_,aq, .inr (.inr ⟨by omega,λ w hw=>Jg aO aq (h w hw) (λ cU w' a' ar r3=>⟨λ _=>ar.1,ar.2 a' r3⟩) ha⟩)⟩
theorem VM {o:Oper} (aO:o.guard=none) (aq:ops[i]? =some o) (ar:a7 i=3) (h:∀ w,Ext w0 w→Fj P n ops o E w λ cU w'=>yZ gb gd P n ops Q a7 b1 cU w'):yZ gb gd P n ops Q a7 (i::b1) E w0:=λ a ha =>
  ⟨_,aq, .inr (.inr ⟨by omega,λ w hw=>Jg aO aq (h w hw) (λ cU w' a' ar r3=>⟨λ ab=>by omega,ar a' r3⟩) ha⟩)⟩
end
end
section
theorem YT {β:Type} {cur old part:List β} {p s j:Nat} (b4:old.length=s) (az:j+part.length≤s) (hc:p+s≤cur.length) (h:∀ m,m<s→cur[p+m]? =old[m]?):
  cur.take p++(old.take j++part++old.drop (j+part.length))++cur.drop (p+(old.take j++part++old.drop (j+part.length)).length)=cur.take (p+j)++part++cur.drop (p+j+part.length):=by
 have ay:(old.take j++part++old.drop (j+part.length)).length=s:=by simp only [aR1,aRZ,aSf];omega
 rw [ay];apply aTN;intro k;by_cases κ:k<p
 ·rw [aSA,aSg (by rw [aRZ];omega),aSA,aSg (by rw [aRZ];omega),aSE,aSE,aR8 κ,aR8 (by omega)]
 ·by_cases ab:k<p+s
  ·rw [aSA,aSi (by rw [aRZ];omega),aSg (by rw [ay,aRZ];omega),aRZ];obtain ⟨m,rfl⟩:∃ m,k=p+m:=⟨k - p,by omega⟩;rw [show p+m - min p cur.length=m from by omega];by_cases aw:m<j
   ·rw [aSA,aSg (by rw [aRZ];omega),aSA,aSg (by rw [aRZ];omega),aSE,aSE,aR8 aw,aR8 (by omega),h m (by omega)]
   ·by_cases a6:m<j+part.length
    ·rw [aSA,aSi (by rw [aRZ];omega),aSg (by rw [aRZ];omega),aSA,aSi (by rw [aRZ];omega),aSg (by rw [aRZ];omega),aRZ,aRZ];congr 1;omega
    ·rw [aSi (by simp only [aR1,aRZ];omega),aS0,aSi (by simp only [aR1,aRZ];omega),aS0];simp only [aR1,aRZ];rw [show p+j+part.length+(p+m - (min (p+j) cur.length+part.length))=p+m from by omega,h m (by omega)];congr 1;omega
  ·rw [aSi (by simp only [aR1,aRZ,aSf];omega),aS0,aSi (by simp only [aR1,aRZ];omega),aS0];simp only [aR1,aRZ,aSf];congr 1;omega
section
variable {P:Program} {n:Nat} {E cU:List (Nat×Value)} {a:Act} {w w' w0 aT:World} {Q:Exit→Act→World→Prop} {ops:Array Oper} {v:Value}
variable {d:Option Nat} {ty:TypeId} {pos:String} {af:Array Edge} {g:Option (Nat×Bool)} {x y z:Operand} {t:TypeId} {rest:List Oper}
theorem aDa {α:Type} {R:τ α} {e by_ B i j:Nat} {A:Option Addr} {c:Nat} {l:List α} {q q':α} {p:Addr} {old part es:List Value} (h:R.aF e by_ w B (τ.ah A) A c l) (hR:R.xe) (aq:l[i]? =some q) (hold:∀ {w cs},R.has w cs q→cs=old) (hx:ev E x=some (.pointer (some p))) (hp:p=⟨eU A,la A+i * R.size+j,none⟩) (aI:ev E y=some v) (hc:v.cells=part.toArray)
  (az:Nat.ble (j+part.length) R.size=true) (FZ:es=old.take j++part++old.drop (j+part.length)) (I:∀ w,R.has w es q') (hs:eI P t part.length)
  (ar:∀ aT,Mod (τ.ah A) w aT→R.aF e by_ aT B (τ.ah A) A c (l.set i q')→cK P n ops Q rest E aT):cK P n ops Q (⟨none, .store t x y,ty,pos,af,none⟩::rest) E w:=by
 have Is:i<l.length:=(aRW.1 aq).1;obtain ⟨b,rfl⟩:=h.block (by omega);have Ma:p=⟨b,i * R.size+j,none⟩:=by rw [hp];simp [eU,la]
 subst Ma;obtain ⟨_,ps,_,_,b4,_⟩:=id h;obtain ⟨cur,uF,_,_⟩:=b4.adq;obtain ⟨wk,hle⟩:=τ.aF.alA (q':=q') h hR Is I uF;obtain ⟨rJ,Nc,FQ,fA⟩:=h.has.at_ (by omega);injection FQ with FQ
 injection FQ with cP bw
 subst cP bw;obtain ⟨HV,agG,j1⟩:=fA i q aq;obtain rfl:=hold agG;have aw6:HV.length=R.size:=R.len agG;have agX:es.length=R.size:=R.len (I w);have LX:=aTZ az;have r9:∀ m,m<R.size→cur.toList[i * R.size+m]? =HV[m]? :=λ m hm=>by
  have hu:HV[m]? =some HV[m]:=aRX (by omega);have:=j1 m HV[m] hu;rw [hu];simpa [World.cell?,uF] using this
 have axM:=YT (cur:=cur.toList) (old:=HV) (part:=part) (p:=i * R.size) (s:=R.size) (j:=j) aw6 LX (by rw [agX] at hle;exact hle) r9;have pe:part.all (·.oneCell')=true:=aSO.2 λ u hu=>R.one (I w) u (by rw [FZ];simp [hu]);have iO:=Zi (P:=P) (w:=w) (b:=b) (p:=i * R.size+j) (cur:=cur.toList) (e:=e) (by simpa [aP] using uF) hc hs pe (by rw [agX] at hle;omega);rw [← axM,← FZ] at iO;refine us (λ n a ha=> ?_) (ar _ (Mod.setRow w b _) wk);simp only [execOp,ha.ev hx,ha.ev aI,Instr.storeAt,Instr.sureAddr,aSc,aSe,aR3,iO]
end
end
section
section
variable {P:Program} {n:Nat} {E:List (Nat×Value)} {w w':World} {Q:Exit→Act→World→Prop} {ops:Array Oper} {ty:TypeId} {pos:String} {af:Array Edge} {rest:List Oper} {x y z:Operand} {t u:TypeId} {v jj:Value} {d:Option Nat} {g:Option (Nat×Bool)}
def CR (P:Program) (w:World) (t:TypeId) (v:Value) (name:String) (f:FuncId) (jj:Value):Prop:=(Go.method (P.types.size+Made.depth) t v name).run P w= .ok (f,jj) w
theorem alr {f:FuncId} {name:String} (hf:Enters P f) {xs:Array Operand} {ts:Array TypeId} {args:List Value} {a:Act} (ha:ep n E a) (hr:ev E x=some (.iface t v)) (he:hU E xs.toList=some args) (hm:CR P w t v name f jj):
  (execOp a.eval ⟨d, .call {callee:= .invoke x name,args:=xs,argTypes:=ts},ty,pos,af,g⟩).run P w= .ok (.enter f (jj::args).toArray) w:=by
 obtain ⟨fn,κ,ab,aw⟩:=hf;have hx:xs.map a.eval=args.toArray:=by rw [← ha.hU he];apply aTq;simp
 unfold CR at hm;have e0:(#[(Value.iface t v)]++args.toArray)[0]? =some (.iface t v):=by simp
 have aZ:(#[(Value.iface t v)]++args.toArray).extract 1 (#[(Value.iface t v)]++args.toArray).size=args.toArray:=by simp
 have bh:#[jj]++args.toArray=(jj::args).toArray:=by simp
 have hp:Sem.run P program w= .ok P w:=rfl;simp only [execOp,resolve,hx,ha.ev hr,aSc,aSe,aR3,invoke,e0,aZ,callMethod,callFunc,hp,hm,κ,ab,aw,bh,aSG,aTm]
theorem hB {d:Nat} {f:FuncId} {name:String} (hf:Enters P f) {xs:Array Operand} {ts:Array TypeId} {args:List Value} (hr:ev E x=some (.iface t v)) (he:hU E xs.toList=some args) (hm:CR P w t v name f jj) (hd:Nat.blt d n=true)
  (h:Calls P f (jj::args).toArray w λ e w'=>∃ v,e= .returned v∧cK P n ops Q rest ((d,v)::E) w'):cK P n ops Q (⟨some d, .call {callee:= .invoke x name,args:=xs,argTypes:=ts},ty,pos,af,none⟩::rest) E w:=λ a ha=>by
 refine Hv Z ?_;unfold Oper.wp;rw [alr hf ha hr he hm];refine aVP h λ e w' fV=> ?_;obtain ⟨v,rfl,h⟩:=fV;exact h _ (ha.put hd v)
theorem ahT {d:Nat} {f:FuncId} {name:String} {xs:Array Operand} {ts:Array TypeId} {args:List Value} {j:Nat} {q b c:Bool} {dg:Oper} {kb:Nat} {v0:Value} (az:ops[j]? =some dg) (nM:dg.dst=some kb) (Φ:look E kb=some (.bool b)) (hc:(b == q)=c)
  (hf:Enters P f) (hx:c=true→ev E x=some (.iface t v0)) (he:c=true→hU E xs.toList=some args) (hm:CR P w t v0 name f jj) (hr:c=true→Calls P f (jj::args).toArray w λ e w'=>e= .returned v∧Ext w w') (hd:Nat.blt d n=true)
  (h:∀ w',Ext w w'→cK P n ops Q rest ((d,ix c v)::E) w'):cK P n ops Q (⟨some d, .call {callee:= .invoke x name,args:=xs,argTypes:=ts},ty,pos,af,some (j,q)⟩::rest) E w :=
 Ta (c:=c) (λ a ha=>by rw [Et (o:=⟨some d,_,ty,pos,af,some (j,q)⟩) rfl az nM Φ ha,hc])
  (λ hc a ha=>by unfold Oper.wp;rw [alr hf ha (hx hc) (he hc) hm];exact (hr hc).mono λ e w' ⟨κ,ayc⟩=>by subst κ;subst hc;exact h w' ayc _ (ha.put hd v)) (λ hc a ha=>by subst hc;exact h w (Ext.bN w) _ (ha.put hd undef))
theorem RP (hr:∀ w,(Instr.makeInterface t v).run P w= .ok (.iface t v) w) (hx:ev E x=some v):cW P E ⟨d, .makeInterface t x,ty,pos,af,g⟩ w (.iface t v) w:=λ n a ha=>by
 simp only [execOp,ha.ev hx,aSc,hr w,aR3,aSe]
theorem amh {t':TypeId} (hr:∀ w,(Instr.typeAssert (.iface t v) t' t false).run P w= .ok v w) (hx:ev E x=some (.iface t v)):cW P E ⟨d, .typeAssert x t' t false,ty,pos,af,g⟩ w v w:=λ n a ha=>by
 simp only [execOp,ha.ev hx,aSc,hr w,aR3,aSe]
theorem zV {e:TypeId} {p:Addr} {name:String} {f:FuncId} (h:(Go.method (P.types.size+Made.depth) t (.pointer (some p)) name).run P w=(loadVar e p >>= λ x=>pure (f,x)).run P w) (ay:lK P w e p v):CR P w t (.pointer (some p)) name f v:=by
 unfold CR;unfold lK at ay;rw [h];simp only [aSc,ay,aR3,aSe]
end
end
section
namespace cr
section
variable {α:Type} [Inhabited α] {key:α→Int} {lm l:List α} {m N n:Nat}
theorem aEt (h:(((((m - 1) / 2:Nat):Int)== (m:Int)) || !decide (key (lm.getD m default)<key (lm.getD ((m - 1) / 2) default)))=true):qu key lm m=lm:=by
 unfold qu;rw [aR5];rintro ⟨κ,ab⟩;simp only [aSL,aST,aTf,aSD] at h;rcases h with h | h
 ·omega
 ·exact h ab
theorem aEu (h:(((((m - 1) / 2:Nat):Int)== (m:Int)) || !decide (key (lm.getD m default)<key (lm.getD ((m - 1) / 2) default)))=false):0<m∧qu key lm m=qu key (swp lm ((m - 1) / 2) m) ((m - 1) / 2):=by
 simp only [aSJ,aUb,aTE,aSq] at h;have hm:0<m:=by
  rcases aUH m with aG | aG
  ·subst aG;exact absurd Z h.1
  ·exact aG
 refine ⟨hm, ?_⟩
 conv=>lhs;unfold qu
 rw [aR8 ⟨hm,h.2⟩]
theorem ar9 (h:(decide ((N:Int)≤2 * (m:Int)+1) || decide (2 * (m:Int)+1<0))=true):kt key N l m=l:=by
 unfold kt;rw [aR5];simp only [aSL,aSq] at h;omega
theorem asa (h:(decide ((N:Int)≤2 * (m:Int)+1) || decide (2 * (m:Int)+1<0))=false):2 * m+1<N:=by
 simp only [aSJ,aSD] at h;omega
theorem azM (h:(decide (2 * (m:Int)+1+1<(N:Int)) && decide (key (l.getD (2 * m+1+1) default)<key (l.getD (2 * m+1) default)))=true):oD key N l m=2 * m+2:=by
 simp only [aR2,aSq] at h;unfold oD;rw [aR8 ⟨by omega,h.2⟩]
theorem azK {q:Bool} (h:(decide (2 * (m:Int)+1+1<(N:Int)) && q)=true):2 * m+2<N:=by
 simp only [aR2,aSq] at h;omega
theorem azL (h:(decide (2 * (m:Int)+1+1<(N:Int)) && decide (key (l.getD (2 * m+1+1) default)<key (l.getD (2 * m+1) default)))=false):oD key N l m=2 * m+1:=by
 unfold oD;rw [aR5];rintro ⟨κ,ab⟩;rw [aSw (show 2 * (m:Int)+1+1<(N:Int) by omega),aSw (show key (l.getD (2 * m+1+1) default)<key (l.getD (2 * m+1) default) from ab)] at h;cases h
theorem aem {j:Nat} (κ:2 * m+1<N) (ay:oD key N l m=j) (h:(!decide (key (l.getD j default)<key (l.getD m default)))=true):kt key N l m=l:=by
 unfold kt;rw [aR5];rw [ay];rintro ⟨_,ab⟩;rw [aSw ab] at h;cases h
theorem aen {j:Nat} (κ:2 * m+1<N) (ay:oD key N l m=j) (h:(!decide (key (l.getD j default)<key (l.getD m default)))=false):kt key N l m=kt key N (swp l m j) j:=by
 conv=>lhs;unfold kt
 rw [ay,aR8 ⟨κ,by simpa using h⟩]
end
end cr
theorem aDG (m:Nat):Int.tdiv ((m:Int) - 1) 2=(((m - 1) / 2:Nat):Int):=by
 cases m with
 | zero=>rfl
 | succ m =>
  rw [show ((m+1:Nat):Int) - 1=(m:Int) by omega,aV8 (by omega)];simp
section
variable {P:Program} {n:Nat} {E:List (Nat×Value)} {w:World} {ty:TypeId} {pos:String} {af:Array Edge} {x y:Operand} {t u:TypeId} {d:Option Nat} {g:Option (Nat×Bool)}
theorem aqh {k:IntKind} {i j r:Int} (hx:ev E x=some (.int k i)) (aI:ev E y=some (.int k j)) (κ:j≠0) (hr:Int.tdiv i j=r) (hw:k.wrap r=r):cW P E ⟨d, .binOp .quo t x y u,ty,pos,af,g⟩ w (.int k r) w:=pz hx aI (binOp_quo t k i j) (by
 subst hr;have:Op.intDiv .quo k i j=pure (.int k (Int.tdiv i j)):=by simp [Op.intDiv,κ,hw]
 rw [this];rfl)
end
end
section
theorem apc:eX prog cb.rep 247 304 32:=eX.lV (z:=cb.zero) (k:=4) underlying247 cb.info rfl rfl (by decide) cb.jq
theorem FW {w:World} {cs:List Value} {a:cb} (h:cb.rep.has w cs a):cs=a.cells:=aTW (show cs=a.cells∧a.ok from h)
theorem N3 (A:Option Addr) (n c:Nat) (w:World):
  Calls prog 185 #[.slice A n c] w (λ e w'=>e= .returned (.int .i64 (n:Int))∧Ext w w'):=by
 refine cl (n:=5) func185 Z Z Z ?_;refine aj<|va Z<|ai<|aj<|vm Z<|J (cG underlying247 Z)<|va Z<|ai<|rt<|bd (.tmp Z .nil)<| ?_;exact ⟨Z,(Ext.bN w)⟩
theorem Tg (A:Option Addr) (n c:Nat) (l:List cb) (i j:Int) (p q:Nat) (w:World) (ay:cb.rep.aJ 32 w A c l) (hn:l.length=n) (aq:i=(p:Int)) (az:j=(q:Int)) (hp:p<n) (I:q<n):
  Calls prog 210 #[.slice A n c, .int .i64 i, .int .i64 j] w (λ e w'=>e= .returned (.bool (decide ((l.getD p default).all<(l.getD q default).all)))∧Ext w w'):=by
 refine cl (n:=18) func210 Z Z Z ?_;refine aj<|va Z<|ai<|aA<| ?_;refine rd [(4,0),(9,0)] [0,1,2,3,4,5,6,7,8,9,10,11] (by kernel_rfl) (by kernel_rfl) ?_;refine au Z (λ _=>aK Z)<|au Z (λ _=>aK Z)<|au Z (λ _=>b9 i.toNat underlying247 o9 Z Z ((ay.keep (Ext.bN w)).bP (bb i.toNat)) (by omega) (by omega))<|au Z (λ _=>av Qe Z)<|bJ Z (λ _ x=>ao Z (τ.aJ.kx FW ((ay.keep (γ (Ext.bN w) x)).cw (bb i.toNat)) 3 (c8 (l:=l) (u:=default) (by omega)) Z bc))<|au Z (λ _=>aK Z)<|au Z (λ _=>aK Z)<|au Z (λ _=>b9 j.toNat underlying247 o9 Z Z ((ay.keep (Ext.bN w)).bP (bb j.toNat)) (by omega) (by omega))<|au Z (λ _=>av Qe Z)<|bJ Z (λ _ x=>ao Z (τ.aJ.kx FW ((ay.keep (γ (Ext.bN w) x)).cw (bb j.toNat)) 3 (c8 (l:=l) (u:=default) (by omega)) Z bc))<|au Z (λ _=>blt Z Z)<|au Z (λ _=>fF Z)<|fn λ cC fc=> ?_;have:=fc.size;have bj:=γ (Ext.bN w) fc;refine aU<|rt<|bd (.tmp Z .nil)<| ?_;subst aq az;exact ⟨by simp only [aSR];rfl,bj⟩
theorem Th (A:Option Addr) (n c aD:Nat) (l:List cb) (i j:Int) (p q:Nat) (w:World) (aS:cb.rep.aF 304 32 w aD (τ.ah A) A c (l)) (eh:∀ y∈l,y.ok) (hn:l.length=n) (aq:i=(p:Int)) (az:j=(q:Int)) (hp:p<n) (I:q<n):
  Calls prog 211 #[.slice A n c, .int .i64 i, .int .i64 j] w (λ e w'=>e= .returned (.tuple #[])∧cb.rep.aF 304 32 w' aD (τ.ah A) A c (cr.swp l p q)∧Mod (τ.ah A) w w'):=by
 have Ee:=λ q I=>(aS.lt q I).2;refine cl (n:=20) func211 Z Z Z ?_;refine rd [(7,0),(11,0),(13,3),(15,3)] [0,1,2,3,4,5,6,7,8,9,10,11,12,13,14,15] (by kernel_rfl) (by kernel_rfl) ?_;refine au Z (λ _=>aK Z)<|au Z (λ _=>aK Z)<|au Z (λ _=>aK Z)<|au Z (λ _=>aK Z)<|au Z (λ _=>aK Z)<|au Z (λ _=>aK Z)<|au Z (λ _=>b9 j.toNat underlying247 o9 Z Z (aS.has.bP (bb j.toNat (by first | omega | (rw [aR4];omega)))) (by omega) (by first | omega | (rw [aR4];omega)))<|bJ Z (λ _ x=>ao Z (τ.aJ.ik FW ((aS.later x).has.cw (bb j.toNat (by first | omega | (rw [aR4];omega)))) (c8 (l:=l) (u:=default) (by first | omega | (rw [aR4];omega))) PW o9))<|au Z (λ _=>aK Z)<|au Z (λ _=>aK Z)<|au Z (λ _=>b9 i.toNat underlying247 o9 Z Z (aS.has.bP (bb i.toNat (by first | omega | (rw [aR4];omega)))) (by omega) (by first | omega | (rw [aR4];omega)))<|bJ Z (λ _ x=>ao Z (τ.aJ.ik FW ((aS.later x).has.cw (bb i.toNat (by first | omega | (rw [aR4];omega)))) (c8 (l:=l) (u:=default) (by first | omega | (rw [aR4];omega))) PW o9))<|au Z (λ _=>b9 i.toNat underlying247 o9 Z Z (aS.has.bP (bb i.toNat (by first | omega | (rw [aR4];omega)))) (by omega) (by first | omega | (rw [aR4];omega)))<|eK Z Z Z λ cC fc Q hK=>ND (q':=l.getD j.toNat default) (i:=i.toNat) (es:= [.int .i64 ((l.getD j.toNat default).cell.x), .int .i64 ((l.getD j.toNat default).cell.y), .int .i64 ((l.getD j.toNat default).a_), .int .i64 ((l.getD j.toNat default).all)]) (aS.later fc) τ.dI (by first | omega | (rw [aR4];omega)) Z Z Z Z (λ _=>⟨Z,(eh _ (jC (by omega)))⟩) o9 λ amS IY Kv=>hK _ _ ?_;have:=fc.size;have bj:=(Mod.bN (τ.ah A) w).trans (Mod.bE fc);have:=IY.size;have Oh:=bj.md IY (λ q I=> .inl I);refine au Z (λ _=>b9 j.toNat underlying247 o9 Z Z (Kv.has.bP (bb j.toNat (by first | omega | (rw [aR4];omega)))) (by omega) (by first | omega | (rw [aR4];omega)))<|eK Z Z Z λ ve bl Q hK=>ND (q':=l.getD i.toNat default) (i:=j.toNat) (es:= [.int .i64 ((l.getD i.toNat default).cell.x), .int .i64 ((l.getD i.toNat default).cell.y), .int .i64 ((l.getD i.toNat default).a_), .int .i64 ((l.getD i.toNat default).all)]) (Kv.later bl) τ.dI (by first | omega | (rw [aR4];omega)) Z Z Z Z (λ _=>⟨Z,(eh _ (jC (by omega)))⟩) o9 λ wP BW Fe=>hK _ _ ?_;have:=bl.size;have kn:=Oh.trans (Mod.bE bl);have:=BW.size;have kU:=kn.md BW (λ q I=> .inl I);refine fn λ Ju mz=> ?_;have:=mz.size;have n':=kU.trans (Mod.bE mz);refine ne<|bd .nil<| ?_;have Fe:=Fe.later mz;subst aq az;simp only [aSR] at Fe;exact ⟨Z,Fe,n'⟩
theorem aFz (b:Nat) (A:Option Addr) (n c aD:Nat) (l:List cb) (v0 v1 v2 v3 v4 v5:Value) (j:Nat) (w:World) (aN:aP w b [v0,v1,v2,v3,v4,v5, .slice A n c] 249 (0,0)) (aS:cb.rep.aF 304 32 w aD (τ.ah A) A c (l)) (eh:∀ y∈l,y.ok) (hn:l.length=n) (hd:∀ q∈τ.ah A,q=b→False) (az:j<n):
  Calls prog 192 #[.iface 302 (.pointer (some ⟨b,6,none⟩)), .int .i64 (j:Int)] w (λ e w'=>e= .returned (.tuple #[])∧aP w' b [v0,v1,v2,v3,v4,v5, .slice A n c] 249 (0,0)∧cb.rep.aF 304 32 w' aD (τ.ah A) A c (cr.qu cb.all l j)∧Mod (τ.ah A) w w'):=by
 have Ee:=λ q I=>(aS.lt q I).2;have yp:=aN.lt;have L5:=aS.has.2.1;have DI:=aS.has.eE;have L6:=aS.has.1;refine cl (n:=23) func192 Z Z Z ?_;refine bL<| ?_;refine eL (λ cg cf aQ=>∃ lm:List cb,∃ m:Nat,cf= [(0, .iface 302 (.pointer (some ⟨b,6,none⟩))),(1, .int .i64 (m:Int))]∧cg=(2 * m)∧Mod (τ.ah A) w aQ∧aP aQ b [v0,v1,v2,v3,v4,v5, .slice A n c] 249 (0,0)∧cb.rep.aF 304 32 aQ aD (τ.ah A) A c (lm)∧(m<n)∧(lm.length=n)∧(∀ y∈lm,y.ok)∧(cr.qu cb.all lm m=cr.qu cb.all l j)∧(∀ q∈τ.ah A,q=b→False)) _ _ ⟨l,j,Z,Z,(Mod.bN (τ.ah A) w),aN,aS,by omega,by omega,eh,rfl,(λ q I Φ=>by (exact hd q I Φ))⟩ (tI Z) ?_;rintro ajW abr l0 ⟨lm,m,rfl,rfl,fJ,aN,jM,hm,ag0,F4,m9,Ft⟩;have:=fJ.size;have aCa:=aN.lt;have amx:=λ q I=>(jM.lt q I).2;refine bL<|aj<|vm Z<|J (mJ Z Z (bD (by omega)))<|J (aqh (r:=(((m - 1) / 2:Nat):Int)) Z Z (by decide) (aDG m) (bD (by omega)))<|va Z<|ai<|aA<|aj<|vm Z<|vm Z<|J (beq Z Z)<|vm Z<|bs Z Z Z Z (λ hc=>aK Z) Z<|bs Z Z Z Z (λ hc=>aK Z) Z<|bs Z Z Z Z (λ hc=>aK Z) Z<|ahT Z Z Z Z P1 (λ hc=>(gt hc Z)) (λ hc=>ij (gt hc Z) (ij (gt hc Z) Z)) (zV (e:= 247) (by kernel_rfl) (aN.one p0 Z)) (λ hc=>Tg _ _ _ lm (m:Int) ((((m - 1) / 2:Nat):Int)) m ((m - 1) / 2) _ jM.has (by omega) (by omega) (by omega) (by first | omega | (simp only [cE] at hc;omega)) (by first | omega | (simp only [cE] at hc;omega))) Z λ ew cz=> ?_;have:=cz.size;have bO:=fJ.trans (Mod.bE cz);refine bs Z Z Z Z (λ hc=>dV (gt hc Z)) Z<|J (fB Z Z Z Z)<|ai<| ?_;refine ed Z (λ jx=> ?_) (λ jx=> ?_)
 ·have hex:=cr.aEt (key:=cb.all) jx;rw [hex] at m9;refine dw<|du<|N2 Z<|dN<|dt<|ne<|bd .nil<| ?_;have jM:=jM.later cz;have aN:=aN.later cz;exact ⟨Z,aN,by rw [← m9];exact jM,bO⟩
 ·obtain ⟨BE,th⟩:=cr.aEu (key:=cb.all) jx;refine bu<|aj<|vm Z<|vm Z<|vm Z<| ?_;have aN:=aN.later cz;have jM:=jM.later cz;refine hB P3 Z Z (zV (e:= 247) (by kernel_rfl) (aN.one p0 Z)) Z ((Th _ _ _ _ lm ((((m - 1) / 2:Nat):Int)) (m:Int) ((m - 1) / 2) m _ jM F4 (by omega) (by omega) (by omega) (by omega) (by omega)).mono ?_);rintro e Jt ⟨rfl,ao0,BX⟩;refine ⟨_,Z, ?_⟩;have:=BX.size;have wX:=bO.md BX (λ q I=> .inl I);have axp:∀ y∈cr.swp lm ((m - 1) / 2) m,y.ok:=λ y aI=>F4 y ((cr.Ec (by omega) (by omega)).subset aI);have awZ:(cr.swp lm ((m - 1) / 2) m).length=n:=by rw [cr.mR];omega
  refine ai<|rg<|vm Z<|va Z<|nl<|bY<| ?_;have aN:=aN.mod BX (λ I=>Ft _ I rfl);exact c9 _ _ ⟨cr.swp lm ((m - 1) / 2) m,(m - 1) / 2,Z,Z,wX,aN,ao0,by omega,awZ,axp,th.symm.trans m9,(λ q I Φ=>by (exact Ft q I Φ))⟩ (by omega) (.cons Z (.cons (bW Z) .nil))
theorem aFu (b:Nat) (A:Option Addr) (n c aD:Nat) (l:List cb) (v0 v1 v2 v3 v4 v5:Value) (i N:Nat) (w:World) (aN:aP w b [v0,v1,v2,v3,v4,v5, .slice A n c] 249 (0,0)) (aS:cb.rep.aF 304 32 w aD (τ.ah A) A c (l)) (eh:∀ y∈l,y.ok) (hn:l.length=n) (hd:∀ q∈τ.ah A,q=b→False) (aq:i<n) (avs:N≤n) (QQ:n≤1000000):
  Calls prog 193 #[.iface 302 (.pointer (some ⟨b,6,none⟩)), .int .i64 (i:Int), .int .i64 (N:Int)] w (λ e w'=>(∃ v,e= .returned (.bool v))∧aP w' b [v0,v1,v2,v3,v4,v5, .slice A n c] 249 (0,0)∧cb.rep.aF 304 32 w' aD (τ.ah A) A c (cr.kt cb.all N l i)∧Mod (τ.ah A) w w'):=by
 have Ee:=λ q I=>(aS.lt q I).2;have yp:=aN.lt;have L5:=aS.has.2.1;have DI:=aS.has.eE;have L6:=aS.has.1;refine cl (n:=48) func193 Z Z Z ?_;refine aj<|va Z<|ai<|aj<|vm Z<|va Z<|ai<|aA<|bL<| ?_;refine eL (λ cg cf aQ=>∃ lm:List cb,∃ m:Nat,cf= [(0, .iface 302 (.pointer (some ⟨b,6,none⟩))),(1, .int .i64 (i:Int)),(2, .int .i64 (N:Int)),(6, .bool false),(7, .int .i64 (m:Int))]∧cg=N - m∧Mod (τ.ah A) w aQ∧aP aQ b [v0,v1,v2,v3,v4,v5, .slice A n c] 249 (0,0)∧cb.rep.aF 304 32 aQ aD (τ.ah A) A c (lm)∧(m<n)∧(lm.length=n)∧(∀ y∈lm,y.ok)∧(cr.kt cb.all N lm m=cr.kt cb.all N l i)∧(∀ q∈τ.ah A,q=b→False)) _ _ ⟨l,i,Z,Z,(Mod.bN (τ.ah A) w),aN,aS,by omega,by omega,eh,rfl,(λ q I Φ=>by (exact hd q I Φ))⟩ (tI Z) ?_;rintro ajW abr l0 ⟨lm,m,rfl,rfl,fJ,aN,jM,hm,ag0,F4,m9,Ft⟩;have:=fJ.size;have aCa:=aN.lt;have amx:=λ q I=>(jM.lt q I).2;refine bL<|aj<|vm Z<|J (C8 Z Z (bD (by omega)))<|J (bad Z Z (bD (by omega)))<|va Z<|ai<|aA<|aj<|vm Z<|vm Z<|J (ks Z Z)<|vm Z<|bs Z Z Z Z (λ hc=>aK Z) Z<|bs Z Z Z Z (λ hc=>blt (gt hc Z) Z) Z<|J (fB Z Z Z Z)<|ai<| ?_;refine ed Z (λ qW=> ?_) (λ qW=> ?_)
 ·have hex:=cr.ar9 (key:=cb.all) (l:=lm) qW;rw [hex] at m9;refine dw<|du<|N2 Z<|dN<|dt<|aU<|aj<|vm Z<|vm Z<|J (iJ Z Z)<|va Z<|ai<|rt<|bd (.tmp Z .nil)<| ?_
  skip
  exact ⟨⟨_,Z⟩,aN,by rw [← m9];exact jM,fJ⟩
 ·have s_:=cr.asa qW;refine bu<|aj<|vm Z<|va Z<|ai<|aA<|aj<|vm Z<|J (bad Z Z (bD (by omega)))<|va Z<|ai<|aj<|vm Z<|vm Z<|J (blt Z Z)<|vm Z<|bs Z Z Z Z (λ hc=>aK Z) Z<|bs Z Z Z Z (λ hc=>aK Z) Z<| ?_;refine bs Z Z Z Z (λ hc=>aK Z) Z<|ahT Z Z Z Z P1 (λ hc=>(gt hc Z)) (λ hc=>ij (gt hc Z) (ij (gt hc Z) Z)) (zV (e:= 247) (by kernel_rfl) (aN.one p0 Z)) (λ hc=>Tg _ _ _ lm (((2 * (m:Int))+1)+1) ((2 * (m:Int))+1) (((2 * m)+1)+1) ((2 * m)+1) _ jM.has (by omega) (by omega) (by omega) (by first | omega | (simp only [cE] at hc;omega)) (by first | omega | (simp only [cE] at hc;omega))) Z λ ve bl=> ?_;have:=bl.size;have kn:=fJ.trans (Mod.bE bl);refine J (eN Z Z Z Z)<|ai<| ?_;refine ed Z (λ qV=> ?_) (λ qV=> ?_)
  ·have jy:=cr.azM (key:=cb.all) (l:=lm) (m:=m) qV;have agn:=cr.azK qV;refine rg<|vm Z<|va Z<|ai<|aA<|aj<|vm Z<|vm Z<|vm Z<| ?_;have aN:=aN.later bl;have jM:=jM.later bl;refine hB P1 Z Z (zV (e:= 247) (by kernel_rfl) (aN.one p0 Z)) Z ((Tg _ _ _ lm (((2 * (m:Int))+1)+1) (m:Int) (((2 * m)+1)+1) m _ jM.has (by omega) (by omega) (by omega) (by first | omega | (simp only [cE] at hc;omega)) (by first | omega | (simp only [cE] at hc;omega))).mono ?_);rintro e Aj ⟨rfl,kP⟩;refine ⟨_,Z, ?_⟩;have:=kP.size;have jn:=kn.trans (Mod.bE kP);refine J (dV Z)<|ai<| ?_;refine ed Z (λ p3=> ?_) (λ p3=> ?_)
   ·have hex:=cr.aem (key:=cb.all) s_ jy p3;rw [hex] at m9;refine dw<|du<|N2 Z<|dN<|dt<|aU<|aj<|vm Z<|vm Z<|J (iJ Z Z)<|va Z<|ai<|rt<|bd (.tmp Z .nil)<| ?_
    skip
    have jM:=jM.later kP;have aN:=aN.later kP;exact ⟨⟨_,Z⟩,aN,by rw [← m9];exact jM,jn⟩
   ·have th:=cr.aen (key:=cb.all) s_ jy p3;refine bu<|aj<|vm Z<|vm Z<|vm Z<| ?_;have aN:=aN.later kP;have jM:=jM.later kP;refine hB P3 Z Z (zV (e:= 247) (by kernel_rfl) (aN.one p0 Z)) Z ((Th _ _ _ _ lm (m:Int) (((2 * (m:Int))+1)+1) m (((2 * m)+1)+1) _ jM F4 (by omega) (by omega) (by omega) (by omega) (by omega)).mono ?_);rintro e GH ⟨rfl,y_,DZ⟩;refine ⟨_,Z, ?_⟩;have:=DZ.size;have sJ:=jn.md DZ (λ q I=> .inl I);have axq:∀ y∈cr.swp lm m (((2 * m)+1)+1),y.ok:=λ y aI=>F4 y ((cr.Ec (by omega) (by omega)).subset aI);have aw0:(cr.swp lm m (((2 * m)+1)+1)).length=n:=by rw [cr.mR];omega
    refine ai<|rg<|vm Z<|va Z<|nl<|bY<| ?_;have aN:=aN.mod DZ (λ I=>Ft _ I rfl);exact c9 _ _ ⟨cr.swp lm m (((2 * m)+1)+1),2 * m+2,Z,Z,sJ,aN,y_,by omega,aw0,axq,th.symm.trans m9,(λ q I Φ=>by (exact Ft q I Φ))⟩ (by omega) (.cons Z (.cons Z (.cons Z (.cons Z (.cons (bW Z) .nil)))))
  ·have jy:=cr.azL (key:=cb.all) (l:=lm) (m:=m) qV;refine bu<|aA<|aj<|vm Z<|vm Z<|vm Z<| ?_;have aN:=aN.later bl;have jM:=jM.later bl;refine hB P1 Z Z (zV (e:= 247) (by kernel_rfl) (aN.one p0 Z)) Z ((Tg _ _ _ lm ((2 * (m:Int))+1) (m:Int) ((2 * m)+1) m _ jM.has (by omega) (by omega) (by omega) (by first | omega | (simp only [cE] at hc;omega)) (by first | omega | (simp only [cE] at hc;omega))).mono ?_);rintro e Al ⟨rfl,lj⟩;refine ⟨_,Z, ?_⟩;have:=lj.size;have lJ:=kn.trans (Mod.bE lj);refine J (dV Z)<|ai<| ?_;refine ed Z (λ Lv=> ?_) (λ Lv=> ?_)
   ·have hex:=cr.aem (key:=cb.all) s_ jy Lv;rw [hex] at m9;refine dw<|du<|N2 Z<|dN<|dt<|aU<|aj<|vm Z<|vm Z<|J (iJ Z Z)<|va Z<|ai<|rt<|bd (.tmp Z .nil)<| ?_
    skip
    have jM:=jM.later lj;have aN:=aN.later lj;exact ⟨⟨_,Z⟩,aN,by rw [← m9];exact jM,lJ⟩
   ·have th:=cr.aen (key:=cb.all) s_ jy Lv;refine bu<|aj<|vm Z<|vm Z<|vm Z<| ?_;have aN:=aN.later lj;have jM:=jM.later lj;refine hB P3 Z Z (zV (e:= 247) (by kernel_rfl) (aN.one p0 Z)) Z ((Th _ _ _ _ lm (m:Int) ((2 * (m:Int))+1) m ((2 * m)+1) _ jM F4 (by omega) (by omega) (by omega) (by omega) (by omega)).mono ?_);rintro e SW ⟨rfl,uf,Gj⟩;refine ⟨_,Z, ?_⟩;have:=Gj.size;have Au:=lJ.md Gj (λ q I=> .inl I);have axr:∀ y∈cr.swp lm m ((2 * m)+1),y.ok:=λ y aI=>F4 y ((cr.Ec (by omega) (by omega)).subset aI);have aw1:(cr.swp lm m ((2 * m)+1)).length=n:=by rw [cr.mR];omega
    refine ai<|rg<|vm Z<|va Z<|nl<|bY<| ?_;have aN:=aN.mod Gj (λ I=>Ft _ I rfl);exact c9 _ _ ⟨cr.swp lm m ((2 * m)+1),2 * m+1,Z,Z,Au,aN,uf,by omega,aw1,axr,th.symm.trans m9,(λ q I Φ=>by (exact Ft q I Φ))⟩ (by omega) (.cons Z (.cons Z (.cons Z (.cons Z (.cons (bW Z) .nil)))))
theorem aFy (b:Nat) (A:Option Addr) (c aD:Nat) (l:List cb) (v0 v1 v2 v3 v4 v5:Value) (x:cb) (w:World) (aN:aP w b [v0,v1,v2,v3,v4,v5, .slice A l.length c] 249 (0,0)) (aS:cb.rep.aF 304 32 w aD (τ.ah A) A c (l)) (eh:∀ y∈l,y.ok) (hd:∀ q∈τ.ah A,q=b→False) (hx:x.ok) (QQ:l.length≤1000000) (s8:aD≤w.heap.size):
  Calls prog 215 #[.pointer (some ⟨b,6,none⟩), .iface 304 (.agg #[.int .i64 x.cell.x, .int .i64 x.cell.y, .int .i64 x.a_, .int .i64 x.all])] w (λ e w'=>∃ bK b5,e= .returned (.tuple #[])∧aP w' b [v0,v1,v2,v3,v4,v5, .slice bK (l++ [x]).length b5] 249 (0,0)∧cb.rep.aF 304 32 w' aD (τ.ah bK) bK b5 (l++ [x])∧(∀ q∈τ.ah bK,q∈τ.ah A∨w.heap.size≤q)∧Mod (b::τ.ah A) w w'):=by
 have Ee:=λ q I=>(aS.lt q I).2;have yp:=aN.lt;have L5:=aS.has.2.1;have DI:=aS.has.eE;have L6:=aS.has.1;refine cl (n:=13) func215 Z Z Z ?_;refine rd [(3,0),(6,2),(7,3),(9,3)] [0,1,2,3,4,5,6,7,8,9] (by kernel_rfl) (by kernel_rfl) ?_;refine au Z (λ _=>aK Z)<|au Z (λ _=>aK Z)<|au Z (λ _=>b0 Z)<|bJ Z (λ _ x=>ao Z ((aN.later x).one p0 Z))<|au Z (λ _=>aK Z)<|au Z (λ _=>amh (λ w=>by kernel_rfl) Z)<|gv Z Z Z λ cC fc Q hK=>cX (e:= 304) (cs:= [.int .i64 x.cell.x, .int .i64 x.cell.y, .int .i64 x.a_, .int .i64 x.all]) Z (λ _=>by kernel_rfl) Z λ amS aIB n4 aMK abh=>hK _ _ ⟨γ fc n4, ?_⟩;have:=fc.size;have bj:=(Mod.bN (b::τ.ah A) w).trans (Mod.bE fc);have:=n4.size;have Oh:=bj.trans (Mod.bE n4);have aOs:=abh.lt;have aS:=aS.later (γ fc n4);refine eK Z Z Z λ wP nt Q hK=>ap apc τ.dI (aS.later nt) ((aP.gS (R:=cb.rep) (by_:=32) (q:=x) abh ⟨Z,hx⟩ (by decide)).keep nt) Z Z (by simp only [aR0,aR6];omega) (by simp only [aR0,aR6];omega) (by have:=nt.size;omega) Z λ Aj aaK m4 DY y_ afx aNT=>hK _ _ ?_;have:=nt.size;have kU:=Oh.trans (Mod.bE nt);have:=DY.size;have jn:=kU.md DY (λ q I=> .inl (aSa _ I));have amv:=λ q I=>(y_.lt q I).2;have:=DY.size;refine au Z (λ _=>b0 Z)<| ?_;have aN:=aN.later (γ fc (γ n4 nt));have aN:=aN.mod DY (λ I=>hd _ I rfl);refine eK Z Z Z λ tM hj Q hK=>st (new:= [v0,v1,v2,v3,v4,v5, .slice aaK ((l++ [x]).length) m4]) Z Z (aN.later hj) Z aeD Z Z Z λ Ep im aN=>hK _ _ ?_;have:=hj.size;have jH:=jn.trans (Mod.bE hj);have:=im.size;have sK:=jH.md im (λ q I=> .inl (by rw [aRT.1 I];exact aSj));refine fn λ vd dh=> ?_;have:=dh.size;have jI:=sK.trans (Mod.bE dh);refine ne<|bd .nil<| ?_;have y_:=y_.later hj;have y_:=y_.mod im (λ q I h=>by have Φ:=aRT.1 h;exfalso;(exact aR9 (afx q I) (λ aiQ=>by (exact hd q aiQ Φ)) (λ aiQ=>by omega)));have y_:=y_.later dh;have aN:=aN.later dh;exact ⟨aaK,m4,Z,aN,y_,(λ q I=>(afx q I).imp id λ h=>by omega),jI⟩
theorem aFx (b:Nat) (A:Option Addr) (n c aD:Nat) (l:List cb) (v0 v1 v2 v3 v4 v5:Value) (w:World) (aN:aP w b [v0,v1,v2,v3,v4,v5, .slice A n c] 249 (0,0)) (aS:cb.rep.aF 304 32 w aD (τ.ah A) A c (l)) (eh:∀ y∈l,y.ok) (hn:l.length=n) (hd:∀ q∈τ.ah A,q=b→False) (aG:0<n):
  Calls prog 214 #[.pointer (some ⟨b,6,none⟩)] w (λ e w'=>e= .returned (.iface 304 (.agg ((l.getD (n - 1) default).cells).toArray))∧aP w' b [v0,v1,v2,v3,v4,v5, .slice A (n - 1) c] 249 (0,0)∧cb.rep.aF 304 32 w' aD (τ.ah A) A c (l.take (n - 1))∧Mod (b::τ.ah A) w w'):=by
 have Ee:=λ q I=>(aS.lt q I).2;have yp:=aN.lt;have L5:=aS.has.2.1;have DI:=aS.has.eE;have L6:=aS.has.1;refine cl (n:=23) func214 Z Z Z ?_;refine aj<|va Z<|ai<|aj<|vm Z<|J (b0 Z)<|J (ao Z (aN.one p0 Z))<|va Z<|ai<|aj<|vm Z<|vm Z<|J (cG underlying247 Z)<|J (mJ Z Z (bD (by omega)))<|J (b9 (((n:Int) - 1).toNat) underlying247 o9 Z Z (aS.has.bP (bb (((n:Int) - 1).toNat))) (by omega) (by omega))<|J (ao Z (τ.aJ.ik FW (aS.has.cw (bb (((n:Int) - 1).toNat))) (c8 (l:=l) (u:=default) (by omega)) PW o9))<|al Z aeG Z Z λ cC bF a8 ef aa=> ?_;have:=a8.size;have bj:=(Mod.bN (b::τ.ah A) w).trans (Mod.bE a8);have ei:=aa.lt;refine st (new:= [.int .i64 ((l.getD (((n:Int) - 1).toNat) default).cell.x), .int .i64 ((l.getD (((n:Int) - 1).toNat) default).cell.y), .int .i64 ((l.getD (((n:Int) - 1).toNat) default).a_), .int .i64 ((l.getD (((n:Int) - 1).toNat) default).all)]) Z Z aa Z o9 Z Z Z λ ew Gk aa=> ?_;have:=Gk.size;have bO:=bj.md Gk (λ q I=> .inr (by have:=aRT.1 I;omega));refine ai<|aj<|vm Z<|vm Z<|vm Z<|J (cG underlying247 Z)<|J (mJ Z Z (bD (by omega)))<|J (alu (n - 1) (n - 1) underlying247 o9 Z Z (by omega) (by omega) Z)<|J (b0 Z)<| ?_;have aN:=aN.later a8;have aN:=aN.mod Gk aM;refine st (new:= [v0,v1,v2,v3,v4,v5, .slice A (n - 1) c]) Z Z aN Z aeD Z Z Z λ Ai BX aN=> ?_;have:=BX.size;have kC:=bO.md BX (λ q I=> .inl (by rw [aRT.1 I];exact aSj));refine ai<|aj<| ?_;have aa:=aa.mod BX aM;refine J (ao Z (aa.all PW o9))<|J (RP (λ w=>by kernel_rfl) Z)<|va Z<|ai<|rt<|bd (.tmp Z .nil)<| ?_;have aS:=aS.later a8;have aS:=aS.mod Gk (bI Ee);have aS:=aS.mod BX (λ q I h=>by have Φ:=aRT.1 h;exfalso;(exact hd q I Φ));exact ⟨by rw [show ((n:Int) - 1).toNat=n - 1 by omega];rfl,aN,τ.aF.cut aS τ.dI (n - 1) (by omega),kC⟩
theorem aFw (b:Nat) (A:Option Addr) (c aD:Nat) (l:List cb) (v0 v1 v2 v3 v4 v5:Value) (x:cb) (w:World) (aN:aP w b [v0,v1,v2,v3,v4,v5, .slice A l.length c] 249 (0,0)) (aS:cb.rep.aF 304 32 w aD (τ.ah A) A c (l)) (eh:∀ y∈l,y.ok) (hd:∀ q∈τ.ah A,q=b→False) (hx:x.ok) (QQ:l.length≤1000000) (s8:aD≤w.heap.size):
  Calls prog 184 #[.iface 302 (.pointer (some ⟨b,6,none⟩)), .iface 304 (.agg #[.int .i64 x.cell.x, .int .i64 x.cell.y, .int .i64 x.a_, .int .i64 x.all])] w (λ e w'=>∃ bK b5,e= .returned (.tuple #[])∧aP w' b [v0,v1,v2,v3,v4,v5, .slice bK (cr.push cb.all l x).length b5] 249 (0,0)∧cb.rep.aF 304 32 w' aD (τ.ah bK) bK b5 (cr.push cb.all l x)∧(∀ q∈τ.ah bK,q∈τ.ah A∨w.heap.size≤q)∧Mod (b::τ.ah A) w w'):=by
 have Ee:=λ q I=>(aS.lt q I).2;have yp:=aN.lt;have L5:=aS.has.2.1;have DI:=aS.has.eE;have L6:=aS.has.1;refine cl (n:=12) func184 Z Z Z ?_;refine aj<|vm Z<|vm Z<|hB as1 Z Z (by unfold CR;kernel_rfl) Z ((aFy b A c aD l v0 v1 v2 v3 v4 v5 x _ aN aS eh hd hx (by omega) s8).mono ?_);rintro e l0 ⟨cp,c1,rfl,eH,OS,Dz,ajT⟩;refine ⟨_,Z, ?_⟩;have:=ajT.size;have fJ:=(Mod.bN (b::τ.ah A) w).md ajT (λ q I=> .inl I);have oA:(l++ [x]).length=l.length+1:=by rw [aR1];rfl
 have aD5:=λ q I=>(OS.lt q I).2;have aOr:=eH.lt;have agw:∀ q∈τ.ah cp,q=b→False:=λ q I e=>(Dz q I).elim (λ h=>hd q h e) (λ h=>by omega);have Q':∀ y∈l++ [x],y.ok:=λ y aI=>(aSb.1 aI).elim (eh y) λ h=>by rw [aRT.1 h];exact hx
 refine ai<|rg<|vm Z<|vm Z<|hB K0 Z Z (zV (e:= 247) (by kernel_rfl) (eH.one p0 Z)) Z ((N3 _ ((l++ [x]).length) _ _).mono ?_);rintro e amT ⟨rfl,n4⟩;refine ⟨_,Z, ?_⟩;have:=n4.size;have Oi:=fJ.trans (Mod.bE n4);refine J (mJ Z Z (bD (by omega)))<| ?_;have OS:=OS.later n4;have eH:=eH.later n4;refine ca ata Z Z (((show Calls _ _ #[_, .int .i64 (((l++ [x]).length:Int) - 1)] _ _ from (by rw [show ((l++ [x]).length:Int) - 1=(l.length:Int) by rw [oA];omega];exact aFz b cp (l++ [x]).length c1 aD (l++ [x]) v0 v1 v2 v3 v4 v5 l.length _ eH OS Q' rfl agw (by omega)))).mono ?_);rintro e ew ⟨rfl,b_,oc,Ys⟩;refine ⟨_,Z, ?_⟩;have:=Ys.size;have bO:=Oi.md Ys (λ q I=>(Dz q I).imp (aSa _) λ h=>by omega);refine nl<|ne<|bd .nil<| ?_;exact ⟨cp,c1,Z,by rw [show (cr.push cb.all l x).length=(l++ [x]).length by rw [cr.Nn,oA]];exact b_,oc,Dz,bO⟩
theorem aFv (b:Nat) (A:Option Addr) (n c aD:Nat) (l:List cb) (v0 v1 v2 v3 v4 v5:Value) (w:World) (aN:aP w b [v0,v1,v2,v3,v4,v5, .slice A n c] 249 (0,0)) (aS:cb.rep.aF 304 32 w aD (τ.ah A) A c (l)) (eh:∀ y∈l,y.ok) (hn:l.length=n) (hd:∀ q∈τ.ah A,q=b→False) (aG:0<n) (QQ:n≤1000000):
  Calls prog 186 #[.iface 302 (.pointer (some ⟨b,6,none⟩))] w (λ e w'=>e= .returned (.iface 304 (.agg (l.getD 0 default).cells.toArray))∧aP w' b [v0,v1,v2,v3,v4,v5, .slice A (cr.oK cb.all l).length c] 249 (0,0)∧cb.rep.aF 304 32 w' aD (τ.ah A) A c (cr.oK cb.all l)∧Mod (b::τ.ah A) w w'):=by
 have Ee:=λ q I=>(aS.lt q I).2;have yp:=aN.lt;have L5:=aS.has.2.1;have DI:=aS.has.eE;have L6:=aS.has.1;refine cl (n:=15) func186 Z Z Z ?_;refine aj<|va Z<|ai<|aj<|vm Z<|hB K0 Z Z (zV (e:= 247) (by kernel_rfl) (aN.one p0 Z)) Z ((N3 _ n _ _).mono ?_);rintro e cC ⟨rfl,fc⟩;refine ⟨_,Z, ?_⟩;have:=fc.size;have bj:=(Mod.bN (b::τ.ah A) w).trans (Mod.bE fc);refine J (mJ Z Z (bD (by omega)))<|va Z<|ai<|aj<|vm Z<|vm Z<| ?_;have aN:=aN.later fc;have aS:=aS.later fc;refine hB P3 Z Z (zV (e:= 247) (by kernel_rfl) (aN.one p0 Z)) Z ((Th _ _ _ _ l 0 ((n:Int) - 1) 0 (n - 1) _ aS eh (by omega) (by omega) (by omega) (by omega) (by omega)).mono ?_);rintro e Jz ⟨rfl,ao5,Yq⟩;refine ⟨_,Z, ?_⟩;have:=Yq.size;have mU:=bj.md Yq (λ q I=> .inl (aSa _ I));have ahe:∀ y∈cr.swp l 0 (n - 1),y.ok:=λ y aI=>eh y ((cr.Ec (by omega) (by omega)).subset aI);have aKG:(cr.swp l 0 (n - 1)).length=n:=by rw [cr.mR];omega
 refine ai<|aj<|vm Z<|vm Z<| ?_;have aN:=aN.mod Yq (λ I=>hd _ I rfl);refine ca ath Z Z (((show Calls _ _ #[_, .int .i64 0, .int .i64 ((n:Int) - 1)] _ _ from (by rw [show (n:Int) - 1=((n - 1:Nat):Int) by omega];exact aFu b A n c aD (cr.swp l 0 (n - 1)) v0 v1 v2 v3 v4 v5 0 (n - 1) _ aN ao5 ahe (by omega) hd (by omega) (by omega) QQ))).mono ?_);rintro e Z0 ⟨⟨aQO,rfl⟩,eH,acn,Gk⟩;refine ⟨_,Z, ?_⟩;have:=Gk.size;have yL:=mU.md Gk (λ q I=> .inl (aSa _ I));have axs:∀ y∈cr.kt cb.all (n - 1) (cr.swp l 0 (n - 1)) 0,y.ok:=λ y aI=>ahe y ((cr.aeu _ _ _ _ (aR7 _) (by omega) (by omega)).subset aI);have aKH:(cr.kt cb.all (n - 1) (cr.swp l 0 (n - 1)) 0).length=n:=by rw [cr.aet _ _ _ _ (aR7 _)];omega
 have aD5:=λ q I=>(acn.lt q I).2;refine ai<|aj<|vm Z<|hB ato Z Z (by unfold CR;kernel_rfl) Z ((aFx b A n c aD (cr.kt cb.all (n - 1) (cr.swp l 0 (n - 1)) 0) v0 v1 v2 v3 v4 v5 _ eH acn axs (by omega) hd aG).mono ?_);rintro e Aj ⟨rfl,j',aoG,BW⟩;refine ⟨_,Z, ?_⟩;have:=BW.size;have jn:=yL.md BW (λ q I=> .inl I);refine va Z<|ai<|rt<|bd (.tmp Z .nil)<| ?_;subst hn;exact ⟨by rw [← cr.akM (key:=cb.all) aG];rfl,by rw [cr.I9];exact j',aoG,jn⟩
end
section
theorem iu {a b:Bool} (h:a=b):Ending.returned (.bool a)= .returned (.bool b):=by rw [h]
theorem lN (w:World) (o:Obj):Below w.heap.size w (w.alloc o):=(aSr _ w).alloc (aR7 _) o
end
end Go.Proofs.YtmeeljmapailnaaGreat
