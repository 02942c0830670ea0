import Derived.Test.YtlikikpgmmkjbaaGreatCelK
set_option linter.unusedVariables false
set_option linter.unusedSimpArgs false
set_option maxRecDepth 100000
set_option maxHeartbeats 4000000
open Go.RowKit
namespace Go.Proofs.YtlikikpgmmkjbaaGreat
open Tryz
abbrev aSx:=@List.length_singleton
abbrev aTk:=@Bool.not_eq_false'
abbrev aT2:=@beq_eq_false_iff_ne
abbrev aVr:=@List.countP_append
abbrev aVO:=@List.countP_cons
abbrev aVT:=@Go.Proofs.Tryz.zeroValue3
abbrev aWJ:=@Nat.le_succ_of_le
section
open Go.RowKit Go.Maps
section
variable {w w':World} {b:Nat} {g:ax→Int} {S:List Nat} {x:ax} {st:Nat}
def Ee (w:World) (b:Nat) (l:List (ax×Int×Nat)) (lu:Nat) (g:ax→Int):Prop :=
 dz ax.key w b l lu∧(∀ e∈l,e.1.ok)∧(l.map (·.1)).Nodup∧∀ y,(dz.get l y).getD 0=g y
def kF (w:World) (b:Nat) (g:ax→Int):Prop:=∃ l lu,Ee w b l lu g
def sx (w:World) (b:Nat) (g:ax→Int) (x:ax) (st:Nat):Prop:=∃ l lu,Ee w b l lu g∧∃ (j:Nat) (v:Int),l[j]? =some (x,v,st)
theorem kF.lt (h:kF w b g):b<w.heap.size:=by obtain ⟨l,c,h,_⟩:=h;exact h.lt
theorem Ee.keep {l:List (ax×Int×Nat)} {lu:Nat} (h:Ee w b l lu g) (av:w'.heap[b]? =w.heap[b]?):Ee w' b l lu g:=⟨h.1.keep av,h.2⟩
theorem kF.keep (h:kF w b g) (av:w'.heap[b]? =w.heap[b]?):kF w' b g:=by obtain ⟨l,c,h⟩:=h;exact ⟨l,c,h.keep av⟩
theorem kF.later (h:kF w b g) (x:Ext w w'):kF w' b g:=h.keep (x.block b h.lt)
theorem kF.mod (h:kF w b g) (m:Mod S w w') (hs:b∉S):kF w' b g:=h.keep (m.block b h.lt hs)
theorem sx.map (h:sx w b g x st):kF w b g:=by obtain ⟨l,c,h,_⟩:=h;exact ⟨l,c,h⟩
theorem sx.lt (h:sx w b g x st):b<w.heap.size:=h.map.lt
theorem sx.keep (h:sx w b g x st) (av:w'.heap[b]? =w.heap[b]?):sx w' b g x st:=by obtain ⟨l,c,h,aa⟩:=h;exact ⟨l,c,h.keep av,aa⟩
theorem sx.later (h:sx w b g x st) (e:Ext w w'):sx w' b g x st:=h.keep (e.block b h.lt)
theorem kF.of_nil (h:pz w b []):kF w b λ _=>0:=by
 obtain ⟨es,c,κ,aa⟩:=h;have:es.toList= []:=by
  cases he:es.toList with
  | nil=>rfl
  | cons a r=>rw [he] at aa;exact aa.elim
 have e:es=#[]:=by apply aTl;simpa using this
 subst e;exact ⟨[],c,⟨by simpa using κ,by simp,by simp⟩,by simp,by simp,λ y=>rfl⟩
def pE (b:Nat) (g:ax→Int) (w w':World):Prop:=Mod [b] w w'∧(kF w b g→kF w' b g)
theorem pE.bz (h:Ext w w'):pE b g w w':=⟨Mod.bz h,λ k=>k.later h⟩
theorem pE.trans {aW cF:World} (h:pE b g w aW) (k:pE b g aW cF):pE b g w cF:=⟨h.1.trans k.1,λ q=>k.2 (h.2 q)⟩
theorem Y3 {es:Array MapEntry} {clock:Nat}:Mod [b] w (iM w b es clock):=
 ⟨rfl,rfl,rfl,by rw [ak4];exact aR3 _,λ k _ hn=>MQ (by simpa using hn)⟩
def s9 (g:ax→Int) (x:ax) (v:Int):ax→Int:=λ y=>if y=x then v else g y
end
section
variable {w:World} {b:Nat} {l:List (ax×Int×Nat)} {clock:Nat} {g:ax→Int}
theorem ajv:prog.underlying 205 =some (.map 49 3):=by kernel_rfl
theorem azH (h:kF w b g) (x:ax) (hx:x.ok):(Instr.lookup 205 (.map (some b)) (ax.key x) false).run prog w= .ok (.int .i64 (g x)) w:=by
 obtain ⟨l,c,κ,aa,aw,a6⟩:=h;rw [← a6 x];exact (dz.lookup ax.y1 ajv (aVT w) κ aa aw x hx).1
theorem aDe {l:List (ax×Int×Nat)} {j:Nat} {a:ax×Int×Nat} (hm:(l.map (·.2.2)).Nodup) (ay:l[j]? =some a):((l.map (dC ax.key)).toArray).findIdx? (λ y=>((y.born:Nat):Int)== ((a.2.2:Nat):Int))=some j:=by
 rw [aWc];refine aV7 (l:=l.map (dC ax.key)) (j:=j) (e0:=dC ax.key a) ?_ (by rw [aSa,ay];rfl);rw [aUy];exact hm
theorem azG (h:kF w b g) (x:ax) (hx:x.ok):∃ (st:Nat) (w':World),(Instr.mapEntry 205 (.map (some b)) (ax.key x)).run prog w= .ok (.tuple #[.int .i64 (g x), .int .i64 (st:Int)]) w'∧Mod [b] w w'∧sx w' b g x st:=by
 obtain ⟨l,clock,h,hw,hn,aO⟩:=h;obtain ⟨iv,rU⟩:=ax.y1.lit x hx;have Φ:=h.ft;have bC:=h.lt;have aE:=ajv;have bE:=aVT;rcases dz.found ax.y1 h hw x hx with ⟨κ,aa,aw⟩ | ⟨j,v0,n0,κ,aa⟩
 ·have HI:g x=0:=by rw [← aO x,aa];rfl
  have CU:dz.put l clock x 0=l++ [(x,0,clock)]:=by
   unfold dz.put;rw [aR0];intro ha;obtain ⟨a,ha,hd⟩:=aTa.1 ha;exact aw a ha (by simpa using hd)
  have iu:Ee (iM w b ((l++ [(x,0,clock)]).map (dC ax.key)).toArray (clock+1)) b (l++ [(x,0,clock)]) (clock+1) g:=by
   refine ⟨⟨Dg bC,λ a ha=> ?_, ?_⟩,λ a ha=> ?_, ?_,λ y=> ?_⟩
   ·rcases aR6.1 ha with ha | ha
    ·have:=h.born a ha;omega
    ·simp at ha;subst ha;simp
   ·rw [aSi,aSI];refine ⟨h.stamps,by simp,λ a ha c hc e=> ?_⟩;simp at hc;obtain ⟨y,aK,rfl⟩:=aSz.1 ha;have:=h.born y aK;omega
   ·rcases aR6.1 ha with ha | ha
    ·exact hw a ha
    ·simp at ha;subst ha;exact hx
   ·have:=dz.HT hn clock x 0;rw [CU] at this;exact this
   ·have:=dz.AB l clock x y 0;rw [CU] at this;rw [this];by_cases e:y=x
    ·rw [aR5 e,e,HI];rfl
    ·rw [aR0 e];exact aO y
  refine ⟨clock,_, ?_,Y3,⟨_,_,iu,l.length,0,by simp⟩⟩
  ·rw [HI];have:(l.map (dC ax.key)).toArray.push (⟨ax.key x, .int .i64 0,clock⟩:MapEntry)=((l++ [(x,0,clock)]).map (dC ax.key)).toArray:=by simp [dC]
   simp [Instr.mapEntry,aS1 aE,aSO Φ,ax.y1.keyed.check w false rU,κ,bE,aTb _ Φ,Result.andThen,iM,Go.ChangeMaps.setBlock,goInt,dC]
 ·have HI:g x=v0:=by rw [← aO x,dz.hP hn aa];rfl
  have iu:Ee (iM w b (l.map (dC ax.key)).toArray clock) b l clock g:=⟨⟨Dg bC,h.born,h.stamps⟩,hw,hn,aO⟩;refine ⟨n0,_, ?_,Y3,⟨_,_,iu,j,v0,aa⟩⟩
  ·rw [HI];have ay:(l.map (dC ax.key)).toArray[j]? =some (dC ax.key (x,v0,n0)):=by simp [aa]
   have Xe:(l.map (dC ax.key)).toArray.modify j (λ e=> {e with key:=ax.key x})=(l.map (dC ax.key)).toArray:=by
    apply aTl;rw [aT5,aTU _ _ _ _ (by rw [aSa,aa];rfl)];exact aWo _ _ _ (by rw [aSa,aa];rfl)
   have WR:(dC ax.key (x,v0,n0)).key=ax.key x:=rfl;have Wp:(dC ax.key (x,v0,n0)).born=n0:=rfl;simp only [Instr.mapEntry,aR8,aS1 aE,aRZ,aSO Φ,ax.y1.keyed.check w false rU,κ,ay,aTr,aSX,WR,ax.y1.keyed.stays w rU,Xe,aTb _ Φ,Wp,aR9];rfl
theorem azI {st:Nat} {x:ax} (h:sx w b g x st) (v:Int):∃ w',(Instr.entryStore 205 (.map (some b)) (.int .i64 (st:Int)) (.int .i64 v)).run prog w= .ok () w'∧Mod [b] w w'∧kF w' b (s9 g x v):=by
 obtain ⟨l,clock,⟨h,hw,hn,aO⟩,j,v0,aa⟩:=h;have Φ:=h.ft;have bC:=h.lt;have ez:=aDe (a:=(x,v0,st)) h.stamps aa;have pQ:l.any (λ e=>decide (e.1=x))=true:=aTa.2 ⟨_,aSv aa,by simp⟩;have vL:dz.put l clock x v=l.set j (x,v,st):=by
  unfold dz.put;rw [aR5 pQ];refine aTq λ i=> ?_;rw [aSa];by_cases jG:j=i
  ·subst jG;rw [aa,aSg (aRS.1 aa).1];simp
  ·rw [aSl jG];cases ar:l[i]? with
   | none=>rfl
   | some a =>
    have:a.1≠x:=by
     intro AI;have bc:(l.map (·.1))[i]? =(l.map (·.1))[j]? :=by rw [aSa,aSa,ar,aa];simp [AI]
     have:=(aVA (by simpa using (aRS.1 ar).1) hn).1 bc;exact jG this.symm
    simp [this]
 have Lh:(l.map (dC ax.key)).toArray.modify j (λ e=> {e with val:=Value.int .i64 v})=((l.set j (x,v,st)).map (dC ax.key)).toArray:=by
  apply aTl;rw [aT5,aTU _ _ _ _ (by rw [aSa,aa];rfl),aS7];rfl
 refine ⟨iM w b ((l.set j (x,v,st)).map (dC ax.key)).toArray clock, ?_,Y3,l.set j (x,v,st),clock,⟨Dg bC,λ a ha=> ?_, ?_⟩,λ a ha=> ?_, ?_,λ y=> ?_⟩
 ·rw [← Lh];simp only [Instr.entryStore,aR8,aSO Φ,aRZ,asInt,asIntOf,goInt,aR9];rw [ez];exact aTb _ Φ
 ·rcases aTA ha with ha | ha
  ·exact h.born a ha
  ·rw [ha];exact h.born (x,v0,st) (aSv aa)
 ·rw [aS7];have:(l.map (·.2.2)).set j st=l.map (·.2.2):=by
   obtain ⟨qF,oS⟩:=aRS.1 aa;have e:(l.map (·.2.2))[j]'(by simpa using qF)=st:=by rw [aUO,oS]
   conv=>lhs;rw [← e]
   exact aTz _
  rw [this];exact h.stamps
 ·rcases aTA ha with ha | ha
  ·exact hw a ha
  ·rw [ha];exact hw (x,v0,st) (aSv aa)
 ·have:=dz.HT hn clock x v;rw [vL] at this;exact this
 ·have:=dz.AB l clock x y v;rw [vL] at this;rw [this];unfold s9;by_cases e:y=x
  ·rw [aR5 e,aR5 e];rfl
  ·rw [aR0 e,aR0 e];exact aO y
end
section
variable {n:Nat} {E cU:List (Nat×Value)} {a:Act} {w w' w0 aW:World} {Q:Exit→Act→World→Prop} {ops:Array Oper}
variable {d:Option Nat} {ty:TypeId} {pos:String} {af:Array Edge} {auy:Option (Nat×Bool)} {x y z m:Operand} {rest:List Oper} {r st:Nat} {g:ax→Int} {p:ax} {v:Int}
theorem Q1 (h:kF w r g) (av:p.ok) (hx:ev E m=some (.map (some r))) (aK:ev E y=some (ax.key p)):
  cY prog E ⟨d, .lookup 205 m y false,ty,pos,af,auy⟩ w (.int .i64 (g p)) w:=λ n a ha=>by
 simp only [execOp,ha.ev hx,ha.ev aK,aR8,azH h p av,aRZ,aR9]
theorem meC {d:Nat} (h:kF w r g) (av:p.ok) (hx:ev E m=some (.map (some r))) (aK:ev E y=some (ax.key p)) (hd:Nat.blt d n=true)
  (hK:∀ aW (st:Nat),Mod [r] w aW→sx aW r g p st→cK prog n ops Q rest ((d, .tuple #[.int .i64 (g p), .int .i64 (st:Int)])::E) aW):cK prog n ops Q (⟨some d, .mapEntry 205 m y,ty,pos,af,none⟩::rest) E w:=by
 obtain ⟨st,aW,κ,aa,aw⟩:=azG h p av;refine iy (w':=aW) (v:= .tuple #[.int .i64 (g p), .int .i64 (st:Int)]) (λ n a ha=> ?_) hd (hK _ st aa aw);simp only [execOp,ha.ev hx,ha.ev aK,aR8,κ,aRZ,aR9]
theorem Vh (h:sx w r g p st) (hx:ev E m=some (.map (some r))) (aK:ev E y=some (.int .i64 (st:Int))) (bE:ev E z=some (.int .i64 v))
  (hK:∀ aW,Mod [r] w aW→kF aW r (s9 g p v)→cK prog n ops Q rest E aW):cK prog n ops Q (⟨none, .entryStore 205 m y z,ty,pos,af,none⟩::rest) E w:=by
 obtain ⟨aW,κ,aa,aw⟩:=azI h v;refine us (w':=aW) (λ n a ha=> ?_) (hK _ aa aw);simp only [execOp,ha.ev hx,ha.ev aK,ha.ev bE,aR8,κ,aRZ,aR9]
end
end
section
def je (T:List bf) (c:ax):Int:=((T.countP λ t=>decide (t.spot=c):Nat):Int)
theorem Rn (T:List bf) (c:ax):0≤je T c∧je T c≤(T.length:Int):=⟨aTP _,Int.ofNat_le.2 List.countP_le_length⟩
theorem aAu (T:List bf) (t:bf):je (T++ [t])=s9 (je T) t.spot (je T t.spot+1):=by
 funext y
 unfold je s9;rw [aVr,aVO,List.countP_nil];by_cases e:y=t.spot
 ·subst e;simp
 ·have e':¬ t.spot=y:=λ h=>e h.symm;rw [aR0 e];simp [e']
theorem aDx {α:Type} {T:List α} {k:Nat} {d:α} (h:k<T.length):T.take (k+1)=T.take k++ [T.getD k d]:=by
 rw [List.take_add_one,aRT h,aRQ,aRT h];rfl
theorem aAv {T:List bf} {k:Nat} (h:k<T.length):je (T.take (k+1))=s9 (je (T.take k)) (T.getD k default).spot (je (T.take k) (T.getD k default).spot+1):=by
 rw [aDx (d:=default) h,aAu]
theorem countP_split {T:List bf} {k:Nat} (h:k<T.length) (t:bf) (c:ax):
  ((T.countP λ t=>decide (t.spot=c):Nat):Int)=(((T.take k).countP λ t=>decide (t.spot=c):Nat):Int)+(if (T.getD k default).spot=c then 1 else 0)+(((T.drop (k+1)).countP λ t=>decide (t.spot=c):Nat):Int)∧
  (((T.set k t).countP λ t=>decide (t.spot=c):Nat):Int)=(((T.take k).countP λ t=>decide (t.spot=c):Nat):Int)+(if t.spot=c then 1 else 0)+(((T.drop (k+1)).countP λ t=>decide (t.spot=c):Nat):Int):=by
 have e:T=T.take k++T.getD k default::T.drop (k+1):=by
  conv=>lhs;rw [← aTT k T,aTB h]
  rw [aRQ,aRT h];rfl
 constructor
 ·conv=>lhs;rw [e]
  rw [aVr,aVO];by_cases hc:(T.getD k default).spot=c<;>simp only [hc,aUG,aUw,aTD,aTf]<;>simp<;>omega
 ·rw [aVv,aR5 h,aVr,aVO];by_cases hc:t.spot=c<;>simp only [hc,aUG,aUw,aTD,aTf]<;>simp<;>omega
theorem aAt {T:List bf} {k:Nat} (h:k<T.length) (t:bf):
  je (T.set k t)=s9 (s9 (je T) (T.getD k default).spot (je T (T.getD k default).spot - 1)) t.spot (s9 (je T) (T.getD k default).spot (je T (T.getD k default).spot - 1) t.spot+1):=by
 obtain ⟨A,D,hA,bg⟩:∃ A D:ax→Int,(∀ y,je T y=A y+(if (T.getD k default).spot=y then 1 else 0)+D y)∧∀ y,je (T.set k t) y=A y+(if t.spot=y then 1 else 0)+D y :=
  ⟨_,_,λ y=>(countP_split h t y).1,λ y=>(countP_split h t y).2⟩
 funext y
 unfold s9;rw [bg y,hA y,hA t.spot,hA (T.getD k default).spot];generalize (T.getD k default).spot=a;generalize t.spot=b;by_cases bc:y=b
 ·subst bc;by_cases bl:y=a
  ·subst bl;simp only [aTD,eq_self];omega
  ·have cH:¬ a=y:=λ h=>bl h.symm;simp only [aTD,bl,cH,aTf];omega
 ·have iq:¬ b=y:=λ h=>bc h.symm;by_cases bl:y=a
  ·subst bl;simp only [aTD,bc,iq,aTf];omega
  ·have cH:¬ a=y:=λ h=>bl h.symm;simp only [bc,bl,cH,iq,aTf]
theorem aD9 {g:ax→Int} {n v:Int} {x:ax} (h:∀ y,0≤g y∧g y≤n) (κ: -1≤v) (aa:v≤n) (y:ax): -1≤s9 g x v y∧s9 g x v y≤n:=by
 unfold s9;have:=h y;split<;>omega
theorem aAs {T:List bf} {c:ax}:0<je T c↔∃ t∈T,t.spot=c:=by
 unfold je;rw [Int.natCast_pos,List.countP_pos_iff];simp
def eC (l:List dj) (id:Int):Int:=gm (λ g=>g.id == id) l
theorem auE (l:List dj) (id:Int):eC l id= -1∧(∀ g∈l,g.id≠id)∨∃ k,k<l.length∧eC l id=(k:Int)∧(l.getD k default).id=id∧∀ j,j<k→(l.getD j default).id≠id:=by
 rcases Xr (λ g=>g.id == id) l with ⟨κ,aa⟩ | ⟨k,av,κ,aa,aw⟩
 ·exact .inl ⟨κ,λ g aO=>by simpa using aa g aO⟩
 ·refine .inr ⟨k,av,κ, ?_,λ j ay=> ?_⟩
  ·rw [aRQ,aRT av];simpa using aa
  ·rw [aRQ,aRT (by omega)];simpa using aw j ay
noncomputable def qV (f:aD) (l:List dj) (T:List bf) (k:Nat):Option ax :=
 if eC l (T.getD k default).id<0 then none
 else if gZ f (T.getD k default).spot (l.getD (eC l (T.getD k default).id).toNat default).bo≠0 then none
 else if (fR f (T.getD k default).spot (l.getD (eC l (T.getD k default).id).toNat default).bo).length<2 then none
 else if 0<je T ((fR f (T.getD k default).spot (l.getD (eC l (T.getD k default).id).toNat default).bo).getD 1 default) then none
 else some ((fR f (T.getD k default).spot (l.getD (eC l (T.getD k default).id).toNat default).bo).getD 1 default)
def bf.bo (t:bf) (c:ax):bf:= {t with spot:=c}
noncomputable def jS (f:aD) (l:List dj) (T:List bf):Nat→List bf×List Int
 | 0=>(T, [])
 | k+1=>match qV f l (jS f l T k).1 k with
  | none=>jS f l T k
  | some c=>((jS f l T k).1.set k (((jS f l T k).1.getD k default).bo c),(jS f l T k).2++ [((jS f l T k).1.getD k default).id])
theorem FL {f:aD} {l:List dj} {T U:List bf} {M:List Int} {k:Nat} (h:jS f l T k=(U,M)) (hs:qV f l U k=none):jS f l T (k+1)=(U,M):=by
 show (match qV f l (jS f l T k).1 k with | none=>_ | some c=>_)=_;rw [h];simp only [hs]
theorem MX {f:aD} {l:List dj} {T U:List bf} {M:List Int} {k:Nat} {c:ax} (h:jS f l T k=(U,M)) (hs:qV f l U k=some c):jS f l T (k+1)=(U.set k ((U.getD k default).bo c),M++ [(U.getD k default).id]):=by
 show (match qV f l (jS f l T k).1 k with | none=>_ | some c=>_)=_;rw [h];simp only [hs]
theorem RV {f:aD} {l:List dj} {T:List bf}:∀ k,(jS f l T k).1.length=T.length∧(jS f l T k).2.length≤k
 | 0=>⟨rfl,aR3 _⟩
 | k+1=>by
  have bF:=RV (f:=f) (l:=l) (T:=T) k;cases hs:qV f l (jS f l T k).1 k with
  | none=>rw [FL rfl hs];exact ⟨bF.1,aWJ bF.2⟩
  | some c=>rw [MX rfl hs];exact ⟨by rw [aR1];exact bF.1,by rw [aRX,aSx];omega⟩
noncomputable def ah.l5 (W:ah) (l:List dj):ah×List Int:=({W with ao:=(jS W.field l W.ao W.ao.length).1},(jS W.field l W.ao W.ao.length).2)
end
section
section
variable {fV:Nat} {fW:ax→Int} {P:Program} {ops:Array Oper} {Q:Exit→Act→World→Prop} {aZ:Nat→Nat}
def u7 (fV:Nat) (fW:ax→Int) (P:Program) (ops:Array Oper) (w0:World) (o:Oper) (v:Value) (a:Act):Prop :=
  (Region.wanted o (yielded ops a.tmps)=true∧∀ w,pE fV fW w0 w→zg P w v ((execOp a.eval o).run P w))∨
  (Region.wanted o (yielded ops a.tmps)=false∧v=undef)
theorem u7.of_same {w0:World} {o:Oper} {v:Value} {a a':Act} (h:u7 fV fW P ops w0 o v a) (he:execOp a'.eval o=execOp a.eval o) (hw:Region.wanted o (yielded ops a'.tmps)=Region.wanted o (yielded ops a.tmps)):u7 fV fW P ops w0 o v a':=by
  unfold u7 at *;rw [he,hw];exact h
theorem u7.on {w0 aW:World} {o:Oper} {v:Value} {a:Act} (h:u7 fV fW P ops w0 o v a) (hx:pE fV fW w0 aW):u7 fV fW P ops aW o v a :=
  h.imp (λ ⟨κ,aa⟩=>⟨κ,λ w hw=>aa w (hx.trans hw)⟩) id
theorem Yields.aB6 {w0:World} {o:Oper} {v:Value} {a:Act} (h:Yields P ops o v a):u7 fV fW P ops w0 o v a :=
  h.imp (λ ⟨κ,aa⟩=>⟨κ,λ w _=>by rw [aa w];exact ⟨rfl,rfl⟩⟩) id
def aDl (fV:Nat) (fW:ax→Int) (P:Program) (ops:Array Oper) (Q:Exit→Act→World→Prop) (aZ:Nat→Nat) (i:Nat) (K:Act→World→Prop) (a:Act) (w0:World):Prop :=
  ∃ o,ops[i]? =some o∧
    ((aZ i≤1∧∃ v,u7 fV fW P ops w0 o v a∧K (a.put o.dst v) w0)∨
     (1<aZ i∧∀ w,Ext w0 w→wpOp P ops Q i (λ a' w'=>(aZ i=2→pE fV fW w0 w')∧K a' w') a w))
def J5 (fV:Nat) (fW:ax→Int) (P:Program) (ops:Array Oper) (Q:Exit→Act→World→Prop) (aZ:Nat→Nat):Nat→Array Bool→Act→World→Prop
  | 0,l,a,w0=>Region.ready .any ops l= []∧∀ w,Ext w0 w→Q .normal a w
  | f+1,l,a,w0=>(Region.ready .any ops l= []→∀ w,Ext w0 w→Q .normal a w)∧∀ i∈Region.ready .any ops l,aDl fV fW P ops Q aZ i (J5 fV fW P ops Q aZ f (l.setIfInBounds i true)) a w0
theorem GL:∀ (f:Nat) (l:Array Bool) (a:Act) (w0:World),J5 fV fW P ops Q aZ f l a w0→∀ w,Ext w0 w→wpAny P .any ops Q f l a w
  | 0,_,_,_,h,w,hw=>⟨h.1,h.2 w hw⟩
  | f+1,l,a,w0,h,w,hw=>⟨λ aG=>h.1 aG w hw,λ i ar=>by
      obtain ⟨o,b7,aa⟩:=h.2 i ar;rcases aa with ⟨_,v,I,av⟩ | ⟨_,aa⟩
      · unfold wpOp
        simp only [b7];rcases I with ⟨nC,I⟩ | ⟨nC,rfl⟩
        · rw [aR5 nC]
          refine .inl ?_;have I:=I w (pE.bz hw);unfold Oper.wp;generalize (execOp a.eval o).run P w=r at *
          cases r with
          | ok n w' =>
            cases n<;>simp only [zg] at I<;>simp only [Oper.upon]
            case value u=>obtain ⟨rfl,rfl⟩:=I;exact GL f _ _ _ av _ hw
            case skip=>obtain ⟨rfl,rfl⟩:=I;exact GL f _ _ _ av _ hw
            case enter f' args=>obtain ⟨rfl,hc⟩:=I;exact hc.mono λ e lH ⟨he,hx⟩=>by subst he;exact GL f _ _ _ av _ (hw.wa hx)
          | halt x w'=>simp only [zg] at I
        · rw [aR0 (by rw [nC];decide)]
          exact GL f _ _ _ av _ hw
      · exact aT7 (λ a' w' aw=>GL f _ _ _ aw.2 _ (Ext.bI w')) (aa w hw)⟩
theorem aeY {i:Nat} {dx:Oper} {v:Value} (ar:ops[i]? =some dx) (av:aZ i≤1) (nB:∀ (j:Nat) (o:Oper) cs b,ops[j]? =some o→o.op≠ .select cs b)
    (ia:∀ c a w,¬ Q (.panic c) a w) (aC:World→Act→Prop) (mr:∀ w0 a,aC w0 a→u7 fV fW P ops w0 dx v a)
    (z2:∀ w0 a a',aC w0 a→execOp a'.eval dx=execOp a.eval dx→Region.wanted dx (yielded ops a'.tmps)=Region.wanted dx (yielded ops a.tmps)→aC w0 a')
    (z3:∀ w0 aW a,pE fV fW w0 aW→aC w0 a→aC aW a) (R:Nat→Bool) (xB:Array Bool)
    (hR:∀ j de,ops[j]? =some de→j≠i→(∀ e∈de.after,Region.binds .any e=true→R e.on=true)→R j=true)
    (bg:(∀ w0 aW a,aC w0 a→aC aW a)∨∀ j,R j=true→3≤aZ j→xB.getD j true=true):
    ∀ (f:Nat) (l:Array Bool) (a:Act) (w0:World),(∀ j,l.getD j false=true→R j=true)→(∀ j,xB.getD j true=true→l.getD j true=true)→
      (∀ j de,ops[j]? =some de→j≠i→l.getD j true=false→(∀ e∈de.after,Region.binds .any e=true→e.on≠i)→dx.apart ops de=true)→
      i∈Region.ready .any ops l→aC w0 a→J5 fV fW P ops Q aZ f (l.setIfInBounds i true) (a.put dx.dst v) w0→J5 fV fW P ops Q aZ (f+1) l a w0:=by
  intro f;induction f with
  | zero =>
    intro l a w0 _ _ _ hr bE H;refine ⟨λ h=>(by rw [h] at hr;cases hr),λ j ay=> ?_⟩;by_cases hQ:j=i
    · subst hQ;exact ⟨dx,ar, .inl ⟨av,v,mr _ _ bE,H⟩⟩
    · have:=aUj ay hQ
      rw [H.1] at this;cases this
  | succ f bF =>
    intro l a w0 CM CK CG hr bE H;refine ⟨λ h=>(by rw [h] at hr;cases hr),λ j ay=> ?_⟩;by_cases hQ:j=i
    · subst hQ;exact ⟨dx,ar, .inl ⟨av,v,mr _ _ bE,H⟩⟩
    · obtain ⟨de,kN,κ⟩:=H.2 j (aUj ay hQ)
      obtain ⟨xr,gG,CT,dF⟩:=aVm.1 ay;obtain rfl:gG=de:=by rw [kN] at CT;exact (aRR CT).symm
      have Lp:∀ e∈gG.after,Region.binds .any e=true→e.on≠i:=λ e he Φ heq=>by
        have κ:=dF e he Φ;have aG:=(aVm.1 hr).1;rw [heq] at κ;rcases aSU i l.size with c6 | c6
        · simp [c6] at aG κ;rw [aG] at κ;cases κ
        · simp [aSR c6] at κ
      have KZ:=CG j gG kN hQ xr Lp;obtain ⟨cf,a2,a3⟩:=aV6 KZ;have LF:∀ cs b,dx.op≠ .select cs b:=λ cs b=>nB i dx cs b ar;have xx:∀ cs b,gG.op≠ .select cs b:=λ cs b=>nB j gG cs b kN;have keep:∀ aW a u,aC aW a→aC aW (a.put gG.dst u):=λ aW a u bE=>z2 _ _ _ bE (aUt dx LF a gG.dst u a3) (aUE dx a gG.dst u a3);have Cy:R j=true:=hR j gG kN hQ λ e he Φ=>CM _ (dF e he Φ);have CN:∀ k,(l.setIfInBounds j true).getD k false=true→R k=true:=λ k av=>by
        by_cases gU:j=k
        · rw [← gU];exact Cy
        · rw [aT1 false gU] at av;exact CM k av
      have CL:∀ k,xB.getD k true=true→(l.setIfInBounds j true).getD k true=true:=λ k av=>by
        by_cases gU:j=k
        · subst gU
          rcases aSU j l.size with c6 | c6
          · simp [c6]
          · simp [aSR c6]
        · rw [aT1 true gU];exact CK k av
      have CH:∀ k ok,ops[k]? =some ok→k≠i→(l.setIfInBounds j true).getD k true=false→
          (∀ e∈ok.after,Region.binds .any e=true→e.on≠i)→dx.apart ops ok=true:=λ k ok av pX CW jO=>by
        refine CG k ok av pX ?_ jO;by_cases gU:j=k
        · subst gU;exact xr
        · rw [aT1 true gU] at CW;exact CW
      have CV:=aUj hr (aUx hQ);rcases κ with ⟨xt,u,I,hK⟩ | ⟨xt,κ⟩
      · refine ⟨gG,kN, .inl ⟨xt,u,I.of_same (aUt gG xx a dx.dst v cf).symm (aUE gG a dx.dst v cf).symm, ?_⟩⟩
        refine bF _ _ _ CN CL CH CV (keep _ _ _ bE) ?_;rw [aTm _ _ hQ,← aTR a v u a2];exact hK
      · refine ⟨gG,kN, .inr ⟨xt,λ w hw=> ?_⟩⟩
        refine aT7 (λ a' w' aw=>⟨aw.2.1, ?_⟩) (ZM (aC:=aC w0) kN cf a2 xx ia (keep w0) (λ a d bE=>z2 _ _ _ bE Z Z) bE (κ w hw));have LK:aC w' a':=by
          rcases aSU (aZ j) 3 with bC | uf
          · exact z3 _ _ _ (aw.2.1 (by omega)) aw.1
          · rcases bg with bg | bg
            · exact bg _ _ _ aw.1
            · have:=CK j (bg j Cy uf);rw [xr] at this;cases this
        refine bF _ _ _ CN CL CH CV LK ?_;rw [aTm _ _ hQ];exact aw.2.2
def I5 (fV:Nat) (fW:ax→Int) (P:Program) (ops:Array Oper) (Q:Exit→Act→World→Prop) (aZ:Nat→Nat):List Nat→Act→World→Prop
  | [],a,w0=>∀ w,Ext w0 w→Q .normal a w
  | i::r,a,w0=>∃ o,ops[i]? =some o∧
      ((aZ i=0∧∃ v,u7 fV fW P ops w0 o v a∧I5 fV fW P ops Q aZ r (a.put o.dst v) w0)∨
       (aZ i=1∧∃ v,Yields P ops o v a∧I5 fV fW P ops Q aZ r (a.put o.dst v) w0)∨
       (1<aZ i∧∀ w,Ext w0 w→wpOp P ops Q i (λ a' w'=>(aZ i=2→pE fV fW w0 w')∧I5 fV fW P ops Q aZ r a' w') a w))
theorem OE (hs:Region.noSelect ops=true) (ia:∀ c a w,¬ Q (.panic c) a w):∀ (r:List Nat) (l:Array Bool) (a:Act) (w0:World),l.size=ops.size→kl ops aZ r l=true→I5 fV fW P ops Q aZ r a w0→J5 fV fW P ops Q aZ r.length l a w0
  | [],l,a,w0,_,bg,h=>⟨by simpa [kl] using bg,h⟩
  | i::r,l,a,w0,aB,bg,h=>by
    obtain ⟨o,b7,h⟩:=h;have nB:=aUv hs;rcases h with ⟨av,v,I,hK⟩ | ⟨av,v,I,hK⟩ | ⟨av,h⟩
    · simp only [kl,av,aRY] at bg
      obtain ⟨⟨⟨hf,hr⟩,Φ⟩,bg⟩:=bg;obtain ⟨R,r1,r2,uB⟩:=OO aB Φ;exact aeY b7 (by omega) nB ia (λ w0 a=>u7 fV fW P ops w0 o v a) (λ _ _ h=>h) (λ _ _ _ h he hw=>h.of_same he hw) (λ _ _ _ hx h=>h.on hx) R l r1 (.inr uB) _ _ _ _ r2 (λ _ h=>h) (aTy b7 hf) (by simpa using hr) I
        (OE hs ia r _ _ _ (by simpa using aB) bg hK)
    · simp only [kl,av,aRY] at bg
      obtain ⟨⟨hf,hr⟩,bg⟩:=bg;exact aeY b7 (by omega) nB ia (λ _ a=>Yields P ops o v a) (λ _ _ h=>Yields.aB6 h) (λ _ _ _ h he hw=>h.of_same he hw) (λ _ _ _ _ h=>h) (λ _=>true) l (λ _ _ _ _ _=>Z) (.inl λ _ _ _ h=>h) _ _ _ _ (λ _ _=>Z) (λ _ h=>h) (aTy b7 hf) (by simpa using hr) I
        (OE hs ia r _ _ _ (by simpa using aB) bg hK)
    · obtain ⟨k,gl⟩:∃ k,aZ i=k+2:=⟨aZ i - 2,by omega⟩
      simp only [kl,gl,aRY,aSQ] at bg;obtain ⟨hr,bg⟩:=bg;refine ⟨λ aG=>(by rw [hr] at aG;cases aG),λ j ay=> ?_⟩;rw [hr] at ay;obtain rfl:j=i:=by simpa using ay
      exact ⟨o,b7, .inr ⟨av,λ w hw=>aT7 (λ a' w' aw=>⟨aw.1,OE hs ia r _ _ _ (by simpa using aB) bg aw.2⟩) (h w hw)⟩⟩
theorem aCg {id:Nat} {a:Act} {w:World} (b5:List Nat) (hm:P.follows .mixedOrders=true) (bg:(Region.noSelect ops && (b5.length == ops.size) && kl ops aZ b5 (Array.replicate ops.size false))=true)
    (h:I5 fV fW P ops (hj (Q .normal)) aZ b5 a w):(Code.region id ops true).wp P Q a w:=by
  simp only [aRY,aSQ] at bg;obtain ⟨⟨hs,aB⟩,bg⟩:=bg;refine wp_mono (aVw hm (Q:=hj (Q .normal)) ?_) (λ e a w I=>by cases e<;>first | exact I | exact I.elim);have:=OE (P:=P) hs (Q:=hj (Q .normal)) (λ _ _ _ h=>h) b5 (Array.replicate ops.size false) a w (by simp) bg h;rw [aB] at this;exact GL _ _ _ _ this _ (aSm _ w).drew
end
section
variable {fV:Nat} {fW:ax→Int} {P:Program} {n:Nat} {E cU:List (Nat×Value)} {a:Act} {w w' w0 aW:World} {Q:Exit→Act→World→Prop} {ops:Array Oper} {v:Value} {aZ:Nat→Nat}
variable {d:Option Nat} {ty:TypeId} {pos:String} {af:Array Edge} {g:Option (Nat×Bool)} {x y z:Operand} {t:TypeId} {rest:List Oper} {b5:List Nat} {i:Nat}
def yf (fV:Nat) (fW:ax→Int) (P:Program) (n:Nat) (ops:Array Oper) (Q:Exit→Act→World→Prop) (aZ:Nat→Nat) (b5:List Nat) (E:List (Nat×Value)) (w0:World):Prop:=∀ a,et n E a→I5 fV fW P ops (hj (Q .normal)) aZ b5 a w0
theorem YP {id:Nat} (fV:Nat) (fW:ax→Int) (mO:List (Nat×Nat)) (b5:List Nat) (hm:P.follows .mixedOrders=true) (bg:(Region.noSelect ops && (b5.length == ops.size) && kl ops (oY mO) b5 (Array.replicate ops.size false))=true)
    (h:yf fV fW P n ops Q (oY mO) b5 E w):W P n (.region id ops true) Q E w:=λ a ha=>aCg b5 hm bg (h a ha)
theorem Vv (h:∀ w,Ext w0 w→N n Q E w):yf fV fW P n ops Q aZ [] E w0:=λ a ha w hw=>h w hw a ha
theorem Cw {d:Nat} {op:Op} (ar:ops[i]? =some ⟨some d,op,ty,pos,af,none⟩) (av:aZ i=0) (hr:∀ w,pE fV fW w0 w→cY P E ⟨some d,op,ty,pos,af,none⟩ w v w) (hd:Nat.blt d n=true)
    (h:yf fV fW P n ops Q aZ b5 ((d,v)::E) w0):yf fV fW P n ops Q aZ (i::b5) E w0:=λ a ha =>
  ⟨_,ar, .inl ⟨av,v, .inl ⟨Bq rfl,λ w hw=>by rw [hr w hw n a ha];exact ⟨rfl,rfl⟩⟩,h _ (ha.put hd v)⟩⟩
theorem sK {d:Nat} {op:Op} (ar:ops[i]? =some ⟨some d,op,ty,pos,af,none⟩) (av:aZ i=1) (hr:∀ w,cY P E ⟨some d,op,ty,pos,af,none⟩ w v w) (hd:Nat.blt d n=true)
    (h:yf fV fW P n ops Q aZ b5 ((d,v)::E) w0):yf fV fW P n ops Q aZ (i::b5) E w0:=λ a ha =>
  ⟨_,ar, .inr (.inl ⟨av,v, .inl ⟨Bq rfl,λ w=>hr w n a ha⟩,h _ (ha.put hd v)⟩)⟩
theorem VA {o:Oper} (aO:o.guard=none) (ar:ops[i]? =some o) (av:aZ i=2) (h:∀ w,Ext w0 w→Ep P n ops o E w λ cU w'=>pE fV fW w0 w'∧yf fV fW P n ops Q aZ b5 cU w'):yf fV fW P n ops Q aZ (i::b5) E w0:=λ a ha =>
  ⟨_,ar, .inr (.inr ⟨by omega,λ w hw=>IC aO ar (h w hw) (λ cU w' a' av rK=>⟨λ _=>av.1,av.2 a' rK⟩) ha⟩)⟩
theorem Vl {o:Oper} (aO:o.guard=none) (ar:ops[i]? =some o) (av:aZ i=3) (h:∀ w,Ext w0 w→Ep P n ops o E w λ cU w'=>yf fV fW P n ops Q aZ b5 cU w'):yf fV fW P n ops Q aZ (i::b5) E w0:=λ a ha =>
  ⟨_,ar, .inr (.inr ⟨by omega,λ w hw=>IC aO ar (h w hw) (λ cU w' a' av rK=>⟨λ aa=>by omega,av a' rK⟩) ha⟩)⟩
end
end
section
theorem Yu {β:Type} {cur old part:List β} {p s j:Nat} (b7:old.length=s) (ay:j+part.length≤s) (hc:p+s≤cur.length) (h:∀ m,m<s→cur[p+m]? =old[m]?):
  cur.take p++(old.take j++part++old.drop (j+part.length))++cur.drop (p+(old.take j++part++old.drop (j+part.length)).length)=cur.take (p+j)++part++cur.drop (p+j+part.length):=by
 have aB:(old.take j++part++old.drop (j+part.length)).length=s:=by simp only [aRX,aRU,aSb];omega
 rw [aB];apply aTq;intro k;by_cases κ:k<p
 ·rw [aSw,aSd (by rw [aRU];omega),aSw,aSd (by rw [aRU];omega),aSy,aSy,aR5 κ,aR5 (by omega)]
 ·by_cases aa:k<p+s
  ·rw [aSw,aSf (by rw [aRU];omega),aSd (by rw [aB,aRU];omega),aRU];obtain ⟨m,rfl⟩:∃ m,k=p+m:=⟨k - p,by omega⟩;rw [show p+m - min p cur.length=m from by omega];by_cases aw:m<j
   ·rw [aSw,aSd (by rw [aRU];omega),aSw,aSd (by rw [aRU];omega),aSy,aSy,aR5 aw,aR5 (by omega),h m (by omega)]
   ·by_cases a6:m<j+part.length
    ·rw [aSw,aSf (by rw [aRU];omega),aSd (by rw [aRU];omega),aSw,aSf (by rw [aRU];omega),aSd (by rw [aRU];omega),aRU,aRU];congr 1;omega
    ·rw [aSf (by simp only [aRX,aRU];omega),aSV,aSf (by simp only [aRX,aRU];omega),aSV];simp only [aRX,aRU];rw [show p+j+part.length+(p+m - (min (p+j) cur.length+part.length))=p+m from by omega,h m (by omega)];congr 1;omega
  ·rw [aSf (by simp only [aRX,aRU,aSb];omega),aSV,aSf (by simp only [aRX,aRU];omega),aSV];simp only [aRX,aRU,aSb];congr 1;omega
section
variable {P:Program} {n:Nat} {E cU:List (Nat×Value)} {a:Act} {w w' w0 aW:World} {Q:Exit→Act→World→Prop} {ops:Array Oper} {v:Value}
variable {d:Option Nat} {ty:TypeId} {pos:String} {af:Array Edge} {g:Option (Nat×Bool)} {x y z:Operand} {t:TypeId} {rest:List Oper}
theorem aC3 {α:Type} {R:τ α} {e by_ B i j:Nat} {A:Option Addr} {c:Nat} {l:List α} {q q':α} {p:Addr} {old part es:List Value} (h:R.aF e by_ w B (τ.ag A) A c l) (hR:R.wH) (ar:l[i]? =some q) (hold:∀ {w cs},R.has w cs q→cs=old) (hx:ev E x=some (.pointer (some p))) (hp:p=⟨e6 A,la A+i * R.size+j,none⟩) (aK:ev E y=some v) (hc:v.cells=part.toArray)
  (ay:Nat.ble (j+part.length) R.size=true) (E1:es=old.take j++part++old.drop (j+part.length)) (I:∀ w,R.has w es q') (hs:eP P t part.length)
  (av:∀ aW,Mod (τ.ag A) w aW→R.aF e by_ aW B (τ.ag A) A c (l.set i q')→cK P n ops Q rest E aW):cK P n ops Q (⟨none, .store t x y,ty,pos,af,none⟩::rest) E w:=by
 have HJ:i<l.length:=(aRS.1 ar).1;obtain ⟨b,rfl⟩:=h.block (by omega);have Lr:p=⟨b,i * R.size+j,none⟩:=by rw [hp];simp [e6,la]
 subst Lr;obtain ⟨_,ps,_,_,b7,_⟩:=id h;obtain ⟨cur,ue,_,_⟩:=b7.ac7;obtain ⟨vL,hle⟩:=τ.aF.ak0 (q':=q') h hR HJ I ue;obtain ⟨pH,Ih,ET,fL⟩:=h.has.at_ (by omega);injection ET with ET
 injection ET with cQ bw
 subst cQ bw;obtain ⟨Hc,ago,jE⟩:=fL i q ar;obtain rfl:=hold ago;have awF:Hc.length=R.size:=R.len ago;have agG:es.length=R.size:=R.len (I w);have Ld:=aTS ay;have rP:∀ m,m<R.size→cur.toList[i * R.size+m]? =Hc[m]? :=λ m hm=>by
  have hu:Hc[m]? =some Hc[m]:=aRT (by omega);have:=jE m Hc[m] hu;rw [hu];simpa [World.cell?,ue] using this
 have axr:=Yu (cur:=cur.toList) (old:=Hc) (part:=part) (p:=i * R.size) (s:=R.size) (j:=j) awF Ld (by rw [agG] at hle;exact hle) rP;have oU:part.all (·.oneCell')=true:=aSL.2 λ u hu=>R.one (I w) u (by rw [E1];simp [hu]);have iu:=YV (P:=P) (w:=w) (b:=b) (p:=i * R.size+j) (cur:=cur.toList) (e:=e) (by simpa [aP] using ue) hc hs oU (by rw [agG] at hle;omega);rw [← axr,← E1] at iu;refine us (λ n a ha=> ?_) (av _ (Mod.setRow w b _) vL);simp only [execOp,ha.ev hx,ha.ev aK,Instr.storeAt,Instr.sureAddr,aR8,aR9,aRZ,iu]
end
end
section
section
variable {P:Program} {n:Nat} {E:List (Nat×Value)} {w w':World} {Q:Exit→Act→World→Prop} {ops:Array Oper} {ty:TypeId} {pos:String} {af:Array Edge} {rest:List Oper} {x y z:Operand} {t u:TypeId} {v iL:Value} {d:Option Nat} {g:Option (Nat×Bool)}
def BV (P:Program) (w:World) (t:TypeId) (v:Value) (name:String) (f:FuncId) (iL:Value):Prop:=(Go.method (P.types.size+Made.depth) t v name).run P w= .ok (f,iL) w
theorem akS {f:FuncId} {name:String} (hf:Enters P f) {xs:Array Operand} {ts:Array TypeId} {args:List Value} {a:Act} (ha:et n E a) (hr:ev E x=some (.iface t v)) (he:hO E xs.toList=some args) (hm:BV P w t v name f iL):
  (execOp a.eval ⟨d, .call {callee:= .invoke x name,args:=xs,argTypes:=ts},ty,pos,af,g⟩).run P w= .ok (.enter f (iL::args).toArray) w:=by
 obtain ⟨fn,κ,aa,aw⟩:=hf;have hx:xs.map a.eval=args.toArray:=by rw [← ha.hO he];apply aTl;simp
 unfold BV at hm;have e0:(#[(Value.iface t v)]++args.toArray)[0]? =some (.iface t v):=by simp
 have bc:(#[(Value.iface t v)]++args.toArray).extract 1 (#[(Value.iface t v)]++args.toArray).size=args.toArray:=by simp
 have bl:#[iL]++args.toArray=(iL::args).toArray:=by simp
 have hp:Sem.run P program w= .ok P w:=rfl;simp only [execOp,resolve,hx,ha.ev hr,aR8,aR9,aRZ,invoke,e0,bc,callMethod,callFunc,hp,hm,κ,aa,aw,bl,aSK,aTf]
theorem hh {d:Nat} {f:FuncId} {name:String} (hf:Enters P f) {xs:Array Operand} {ts:Array TypeId} {args:List Value} (hr:ev E x=some (.iface t v)) (he:hO E xs.toList=some args) (hm:BV P w t v name f iL) (hd:Nat.blt d n=true)
  (h:Calls P f (iL::args).toArray w λ e w'=>∃ v,e= .returned v∧cK P n ops Q rest ((d,v)::E) w'):cK P n ops Q (⟨some d, .call {callee:= .invoke x name,args:=xs,argTypes:=ts},ty,pos,af,none⟩::rest) E w:=λ a ha=>by
 refine GH Z ?_;unfold Oper.wp;rw [akS hf ha hr he hm];refine aVJ h λ e w' fS=> ?_;obtain ⟨v,rfl,h⟩:=fS;exact h _ (ha.put hd v)
theorem ahB {d:Nat} {f:FuncId} {name:String} {xs:Array Operand} {ts:Array TypeId} {args:List Value} {j:Nat} {q b c:Bool} {de:Oper} {jM:Nat} {v0:Value} (ay:ops[j]? =some de) (nx:de.dst=some jM) (Φ:look E jM=some (.bool b)) (hc:(b == q)=c)
  (hf:Enters P f) (hx:c=true→ev E x=some (.iface t v0)) (he:c=true→hO E xs.toList=some args) (hm:BV P w t v0 name f iL) (hr:c=true→Calls P f (iL::args).toArray w λ e w'=>e= .returned v∧Ext w w') (hd:Nat.blt d n=true)
  (h:∀ w',Ext w w'→cK P n ops Q rest ((d,h' c v)::E) w'):cK P n ops Q (⟨some d, .call {callee:= .invoke x name,args:=xs,argTypes:=ts},ty,pos,af,some (j,q)⟩::rest) E w :=
 Sy (c:=c) (λ a ha=>by rw [DA (o:=⟨some d,_,ty,pos,af,some (j,q)⟩) rfl ay nx Φ ha,hc])
  (λ hc a ha=>by unfold Oper.wp;rw [akS hf ha (hx hc) (he hc) hm];exact (hr hc).mono λ e w' ⟨κ,axS⟩=>by subst κ;subst hc;exact h w' axS _ (ha.put hd v)) (λ hc a ha=>by subst hc;exact h w (Ext.bI w) _ (ha.put hd undef))
theorem Rg (hr:∀ w,(Instr.makeInterface t v).run P w= .ok (.iface t v) w) (hx:ev E x=some v):cY P E ⟨d, .makeInterface t x,ty,pos,af,g⟩ w (.iface t v) w:=λ n a ha=>by
 simp only [execOp,ha.ev hx,aR8,hr w,aRZ,aR9]
theorem alI {t':TypeId} (hr:∀ w,(Instr.typeAssert (.iface t v) t' t false).run P w= .ok v w) (hx:ev E x=some (.iface t v)):cY P E ⟨d, .typeAssert x t' t false,ty,pos,af,g⟩ w v w:=λ n a ha=>by
 simp only [execOp,ha.ev hx,aR8,hr w,aRZ,aR9]
theorem zc {e:TypeId} {p:Addr} {name:String} {f:FuncId} (h:(Go.method (P.types.size+Made.depth) t (.pointer (some p)) name).run P w=(loadVar e p >>= λ x=>pure (f,x)).run P w) (aB:ln P w e p v):BV P w t (.pointer (some p)) name f v:=by
 unfold BV;unfold ln at aB;rw [h];simp only [aR8,aB,aRZ,aR9]
end
end
section
namespace ct
section
variable {α:Type} [Inhabited α] {key:α→Int} {lm l:List α} {m N n:Nat}
theorem aEd (h:(((((m - 1) / 2:Nat):Int)== (m:Int)) || !decide (key (lm.getD m default)<key (lm.getD ((m - 1) / 2) default)))=true):qc key lm m=lm:=by
 unfold qc;rw [aR0];rintro ⟨κ,aa⟩;simp only [aSF,aSQ,aS8,aSC] at h;rcases h with h | h
 ·omega
 ·exact h aa
theorem aEe (h:(((((m - 1) / 2:Nat):Int)== (m:Int)) || !decide (key (lm.getD m default)<key (lm.getD ((m - 1) / 2) default)))=false):0<m∧qc key lm m=qc key (swp lm ((m - 1) / 2) m) ((m - 1) / 2):=by
 simp only [aSD,aT2,aTk,aSj] at h;have hm:0<m:=by
  rcases aUA m with aG | aG
  ·subst aG;exact absurd Z h.1
  ·exact aG
 refine ⟨hm, ?_⟩
 conv=>lhs;unfold qc
 rw [aR5 ⟨hm,h.2⟩]
theorem arJ (h:(decide ((N:Int)≤2 * (m:Int)+1) || decide (2 * (m:Int)+1<0))=true):j4 key N l m=l:=by
 unfold j4;rw [aR0];simp only [aSF,aSj] at h;omega
theorem arK (h:(decide ((N:Int)≤2 * (m:Int)+1) || decide (2 * (m:Int)+1<0))=false):2 * m+1<N:=by
 simp only [aSD,aSC] at h;omega
theorem azx (h:(decide (2 * (m:Int)+1+1<(N:Int)) && decide (key (l.getD (2 * m+1+1) default)<key (l.getD (2 * m+1) default)))=true):n_ key N l m=2 * m+2:=by
 simp only [aRY,aSj] at h;unfold n_;rw [aR5 ⟨by omega,h.2⟩]
theorem azv {q:Bool} (h:(decide (2 * (m:Int)+1+1<(N:Int)) && q)=true):2 * m+2<N:=by
 simp only [aRY,aSj] at h;omega
theorem azw (h:(decide (2 * (m:Int)+1+1<(N:Int)) && decide (key (l.getD (2 * m+1+1) default)<key (l.getD (2 * m+1) default)))=false):n_ key N l m=2 * m+1:=by
 unfold n_;rw [aR0];rintro ⟨κ,aa⟩;rw [aSo (show 2 * (m:Int)+1+1<(N:Int) by omega),aSo (show key (l.getD (2 * m+1+1) default)<key (l.getD (2 * m+1) default) from aa)] at h;cases h
theorem ad5 {j:Nat} (κ:2 * m+1<N) (aB:n_ key N l m=j) (h:(!decide (key (l.getD j default)<key (l.getD m default)))=true):j4 key N l m=l:=by
 unfold j4;rw [aR0];rw [aB];rintro ⟨_,aa⟩;rw [aSo aa] at h;cases h
theorem ad6 {j:Nat} (κ:2 * m+1<N) (aB:n_ key N l m=j) (h:(!decide (key (l.getD j default)<key (l.getD m default)))=false):j4 key N l m=j4 key N (swp l m j) j:=by
 conv=>lhs;unfold j4
 rw [aB,aR5 ⟨κ,by simpa using h⟩]
end
end ct
theorem aDz (m:Nat):Int.tdiv ((m:Int) - 1) 2=(((m - 1) / 2:Nat):Int):=by
 cases m with
 | zero=>rfl
 | succ m =>
  rw [show ((m+1:Nat):Int) - 1=(m:Int) by omega,aV1 (by omega)];simp
section
variable {P:Program} {n:Nat} {E:List (Nat×Value)} {w:World} {ty:TypeId} {pos:String} {af:Array Edge} {x y:Operand} {t u:TypeId} {d:Option Nat} {g:Option (Nat×Bool)}
theorem apR {k:IntKind} {i j r:Int} (hx:ev E x=some (.int k i)) (aK:ev E y=some (.int k j)) (κ:j≠0) (hr:Int.tdiv i j=r) (hw:k.wrap r=r):cY P E ⟨d, .binOp .quo t x y u,ty,pos,af,g⟩ w (.int k r) w:=o6 hx aK (binOp_quo t k i j) (by
 subst hr;have:Op.intDiv .quo k i j=pure (.int k (Int.tdiv i j)):=by simp [Op.intDiv,κ,hw]
 rw [this];rfl)
end
end
section
theorem aoF:eN prog cb.rep 263 313 32:=eN.k_ (z:=cb.zero) (k:=4) underlying263 cb.info rfl rfl (by decide) cb.iE
theorem EY {w:World} {cs:List Value} {a:cb} (h:cb.rep.has w cs a):cs=a.cells:=aTQ (show cs=a.cells∧a.ok from h)
theorem Np (A:Option Addr) (n c:Nat) (w:World):
  Calls prog 219 #[.slice A n c] w (λ e w'=>e= .returned (.int .i64 (n:Int))∧Ext w w'):=by
 refine cd (n:=5) func219 Z Z Z ?_;refine aj<|va Z<|ai<|aj<|vm Z<|J (cm underlying263 Z)<|va Z<|ai<|rt<|a8 (.tmp Z .nil)<| ?_;exact ⟨Z,(Ext.bI w)⟩
theorem SE (A:Option Addr) (n c:Nat) (l:List cb) (i j:Int) (p q:Nat) (w:World) (aB:cb.rep.aJ 32 w A c l) (hn:l.length=n) (ar:i=(p:Int)) (ay:j=(q:Int)) (hp:p<n) (I:q<n):
  Calls prog 265 #[.slice A n c, .int .i64 i, .int .i64 j] w (λ e w'=>e= .returned (.bool (decide ((l.getD p default).all<(l.getD q default).all)))∧Ext w w'):=by
 refine cd (n:=18) func265 Z Z Z ?_;refine aj<|va Z<|ai<|az<| ?_;refine rd [(4,0),(9,0)] [0,1,2,3,4,5,6,7,8,9,10,11] (by kernel_rfl) (by kernel_rfl) ?_;refine aq Z (λ _=>aH Z)<|aq Z (λ _=>aH Z)<|aq Z (λ _=>b_ i.toNat underlying263 oN Z Z ((aB.keep (Ext.bI w)).bP (bb i.toNat)) (by omega) (by omega))<|aq Z (λ _=>au PF Z)<|bA Z (λ _ x=>ak Z (τ.aJ.j7 EY ((aB.keep (γ (Ext.bI w) x)).cB (bb i.toNat)) 3 (dn (l:=l) (u:=default) (by omega)) Z ba))<|aq Z (λ _=>aH Z)<|aq Z (λ _=>aH Z)<|aq Z (λ _=>b_ j.toNat underlying263 oN Z Z ((aB.keep (Ext.bI w)).bP (bb j.toNat)) (by omega) (by omega))<|aq Z (λ _=>au PF Z)<|bA Z (λ _ x=>ak Z (τ.aJ.j7 EY ((aB.keep (γ (Ext.bI w) x)).cB (bb j.toNat)) 3 (dn (l:=l) (u:=default) (by omega)) Z ba))<|aq Z (λ _=>blt Z Z)<|aq Z (λ _=>ew Z)<|fn λ cI e_=> ?_;have:=e_.size;have bk:=γ (Ext.bI w) e_;refine aV<|rt<|a8 (.tmp Z .nil)<| ?_;subst ar ay;exact ⟨by simp only [aSJ];rfl,bk⟩
theorem SF (A:Option Addr) (n c aC:Nat) (l:List cb) (i j:Int) (p q:Nat) (w:World) (aR:cb.rep.aF 313 32 w aC (τ.ag A) A c (l)) (dM:∀ y∈l,y.ok) (hn:l.length=n) (ar:i=(p:Int)) (ay:j=(q:Int)) (hp:p<n) (I:q<n):
  Calls prog 266 #[.slice A n c, .int .i64 i, .int .i64 j] w (λ e w'=>e= .returned (.tuple #[])∧cb.rep.aF 313 32 w' aC (τ.ag A) A c (ct.swp l p q)∧Mod (τ.ag A) w w'):=by
 have Dk:=λ q I=>(aR.lt q I).2;refine cd (n:=20) func266 Z Z Z ?_;refine rd [(7,0),(11,0),(13,3),(15,3)] [0,1,2,3,4,5,6,7,8,9,10,11,12,13,14,15] (by kernel_rfl) (by kernel_rfl) ?_;refine aq Z (λ _=>aH Z)<|aq Z (λ _=>aH Z)<|aq Z (λ _=>aH Z)<|aq Z (λ _=>aH Z)<|aq Z (λ _=>aH Z)<|aq Z (λ _=>aH Z)<|aq Z (λ _=>b_ j.toNat underlying263 oN Z Z (aR.has.bP (bb j.toNat (by first | omega | (rw [aR1];omega)))) (by omega) (by first | omega | (rw [aR1];omega)))<|bA Z (λ _ x=>ak Z (τ.aJ.hq EY ((aR.later x).has.cB (bb j.toNat (by first | omega | (rw [aR1];omega)))) (dn (l:=l) (u:=default) (by first | omega | (rw [aR1];omega))) Pk oN))<|aq Z (λ _=>aH Z)<|aq Z (λ _=>aH Z)<|aq Z (λ _=>b_ i.toNat underlying263 oN Z Z (aR.has.bP (bb i.toNat (by first | omega | (rw [aR1];omega)))) (by omega) (by first | omega | (rw [aR1];omega)))<|bA Z (λ _ x=>ak Z (τ.aJ.hq EY ((aR.later x).has.cB (bb i.toNat (by first | omega | (rw [aR1];omega)))) (dn (l:=l) (u:=default) (by first | omega | (rw [aR1];omega))) Pk oN))<|aq Z (λ _=>b_ i.toNat underlying263 oN Z Z (aR.has.bP (bb i.toNat (by first | omega | (rw [aR1];omega)))) (by omega) (by first | omega | (rw [aR1];omega)))<|eo Z Z Z λ cI e_ Q hK=>MT (q':=l.getD j.toNat default) (i:=i.toNat) (es:= [.int .i64 ((l.getD j.toNat default).cell.x), .int .i64 ((l.getD j.toNat default).cell.y), .int .i64 ((l.getD j.toNat default).a_), .int .i64 ((l.getD j.toNat default).all)]) (aR.later e_) τ.dt (by first | omega | (rw [aR1];omega)) Z Z Z Z (λ _=>⟨Z,(dM _ (jd (by omega)))⟩) oN λ aml Ib JZ=>hK _ _ ?_;have:=e_.size;have bk:=(Mod.bI (τ.ag A) w).trans (Mod.bz e_);have:=Ib.size;have NC:=bk.md Ib (λ q I=> .inl I);refine aq Z (λ _=>b_ j.toNat underlying263 oN Z Z (JZ.has.bP (bb j.toNat (by first | omega | (rw [aR1];omega)))) (by omega) (by first | omega | (rw [aR1];omega)))<|eo Z Z Z λ uN bj Q hK=>MT (q':=l.getD i.toNat default) (i:=j.toNat) (es:= [.int .i64 ((l.getD i.toNat default).cell.x), .int .i64 ((l.getD i.toNat default).cell.y), .int .i64 ((l.getD i.toNat default).a_), .int .i64 ((l.getD i.toNat default).all)]) (JZ.later bj) τ.dt (by first | omega | (rw [aR1];omega)) Z Z Z Z (λ _=>⟨Z,(dM _ (jd (by omega)))⟩) oN λ wg AY El=>hK _ _ ?_;have:=bj.size;have jX:=NC.trans (Mod.bz bj);have:=AY.size;have kB:=jX.md AY (λ q I=> .inl I);refine fn λ M9 l7=> ?_;have:=l7.size;have tv:=kB.trans (Mod.bz l7);refine ne<|a8 .nil<| ?_;have El:=El.later l7;subst ar ay;simp only [aSJ] at El;exact ⟨Z,El,tv⟩
theorem aFq (b:Nat) (A:Option Addr) (n c aC:Nat) (l:List cb) (v0 v1 v2 v3 v4 v5:Value) (j:Nat) (w:World) (aM:aP w b [v0,v1,v2,v3,v4,v5, .slice A n c] 265 (0,0)) (aR:cb.rep.aF 313 32 w aC (τ.ag A) A c (l)) (dM:∀ y∈l,y.ok) (hn:l.length=n) (hd:∀ q∈τ.ag A,q=b→False) (ay:j<n):
  Calls prog 239 #[.iface 311 (.pointer (some ⟨b,6,none⟩)), .int .i64 (j:Int)] w (λ e w'=>e= .returned (.tuple #[])∧aP w' b [v0,v1,v2,v3,v4,v5, .slice A n c] 265 (0,0)∧cb.rep.aF 313 32 w' aC (τ.ag A) A c (ct.qc cb.all l j)∧Mod (τ.ag A) w w'):=by
 have Dk:=λ q I=>(aR.lt q I).2;have xR:=aM.lt;have Lk:=aR.has.2.1;have CR:=aR.has.dU;have Ll:=aR.has.1;refine cd (n:=23) func239 Z Z Z ?_;refine bS<| ?_;refine fk (λ cn cl a1=>∃ lm:List cb,∃ m:Nat,cl= [(0, .iface 311 (.pointer (some ⟨b,6,none⟩))),(1, .int .i64 (m:Int))]∧cn=(2 * m)∧Mod (τ.ag A) w a1∧aP a1 b [v0,v1,v2,v3,v4,v5, .slice A n c] 265 (0,0)∧cb.rep.aF 313 32 a1 aC (τ.ag A) A c (lm)∧(m<n)∧(lm.length=n)∧(∀ y∈lm,y.ok)∧(ct.qc cb.all lm m=ct.qc cb.all l j)∧(∀ q∈τ.ag A,q=b→False)) _ _ ⟨l,j,Z,Z,(Mod.bI (τ.ag A) w),aM,aR,by omega,by omega,dM,rfl,(λ q I Φ=>by (exact hd q I Φ))⟩ (v8 Z) ?_;rintro Mt Jx kv ⟨lm,m,rfl,rfl,cW,aM,jr,hm,awE,E8,mN,Ev⟩;have:=cW.size;have aBY:=aM.lt;have al0:=λ q I=>(jr.lt q I).2;refine bS<|aj<|vm Z<|J (mi Z Z (bH (by omega)))<|J (apR (r:=(((m - 1) / 2:Nat):Int)) Z Z (by decide) (aDz m) (bH (by omega)))<|va Z<|ai<|az<|aj<|vm Z<|vm Z<|J (beq Z Z)<|vm Z<|aT Z Z Z Z (λ hc=>aH Z) Z<|aT Z Z Z Z (λ hc=>aH Z) Z<|aT Z Z Z Z (λ hc=>aH Z) Z<|ahB Z Z Z Z Po (λ hc=>(gt hc Z)) (λ hc=>e7 (gt hc Z) (e7 (gt hc Z) Z)) (zc (e:= 263) (by kernel_rfl) (aM.one pK Z)) (λ hc=>SE _ _ _ lm (m:Int) ((((m - 1) / 2:Nat):Int)) m ((m - 1) / 2) _ jr.has (by omega) (by omega) (by omega) (by first | omega | (simp only [cy] at hc;omega)) (by first | omega | (simp only [cy] at hc;omega))) Z λ er cD=> ?_;have:=cD.size;have bK:=cW.trans (Mod.bz cD);refine aT Z Z Z Z (λ hc=>eg (gt hc Z)) Z<|J (eE Z Z Z Z)<|ai<| ?_;refine dE Z (λ kM=> ?_) (λ kM=> ?_)
 ·have hex:=ct.aEd (key:=cb.all) kM;rw [hex] at mN;refine dK<|dJ<|Nn Z<|ei<|dI<|ne<|a8 .nil<| ?_;have jr:=jr.later cD;have aM:=aM.later cD;exact ⟨Z,aM,by rw [← mN];exact jr,bK⟩
 ·obtain ⟨E4,vJ⟩:=ct.aEe (key:=cb.all) kM;refine bt<|aj<|vm Z<|vm Z<|vm Z<| ?_;have aM:=aM.later cD;have jr:=jr.later cD;refine hh Pp Z Z (zc (e:= 263) (by kernel_rfl) (aM.one pK Z)) Z ((SF _ _ _ _ lm ((((m - 1) / 2:Nat):Int)) (m:Int) ((m - 1) / 2) m _ jr E8 (by omega) (by omega) (by omega) (by omega) (by omega)).mono ?_);rintro e IM ⟨rfl,aot,C5⟩;refine ⟨_,Z, ?_⟩;have:=C5.size;have wx:=bK.md C5 (λ q I=> .inl I);have awY:∀ y∈ct.swp lm ((m - 1) / 2) m,y.ok:=λ y aK=>E8 y ((ct.Di (by omega) (by omega)).subset aK);have awx:(ct.swp lm ((m - 1) / 2) m).length=n:=by rw [ct.mo];omega
  refine ai<|rg<|vm Z<|va Z<|nl<|bY<| ?_;have aM:=aM.mod C5 (λ I=>Ev _ I rfl);exact c' _ _ ⟨ct.swp lm ((m - 1) / 2) m,(m - 1) / 2,Z,Z,wx,aM,aot,by omega,awx,awY,vJ.symm.trans mN,(λ q I Φ=>by (exact Ev q I Φ))⟩ (by omega) (.cons Z (.cons (b2 Z (by first | omega | rfl | (simp<;>omega))) .nil))
theorem aFl (b:Nat) (A:Option Addr) (n c aC:Nat) (l:List cb) (v0 v1 v2 v3 v4 v5:Value) (i N:Nat) (w:World) (aM:aP w b [v0,v1,v2,v3,v4,v5, .slice A n c] 265 (0,0)) (aR:cb.rep.aF 313 32 w aC (τ.ag A) A c (l)) (dM:∀ y∈l,y.ok) (hn:l.length=n) (hd:∀ q∈τ.ag A,q=b→False) (ar:i<n) (auX:N≤n) (Qg:n≤1000000):
  Calls prog 240 #[.iface 311 (.pointer (some ⟨b,6,none⟩)), .int .i64 (i:Int), .int .i64 (N:Int)] w (λ e w'=>(∃ v,e= .returned (.bool v))∧aP w' b [v0,v1,v2,v3,v4,v5, .slice A n c] 265 (0,0)∧cb.rep.aF 313 32 w' aC (τ.ag A) A c (ct.j4 cb.all N l i)∧Mod (τ.ag A) w w'):=by
 have Dk:=λ q I=>(aR.lt q I).2;have xR:=aM.lt;have Lk:=aR.has.2.1;have CR:=aR.has.dU;have Ll:=aR.has.1;refine cd (n:=48) func240 Z Z Z ?_;refine aj<|va Z<|ai<|aj<|vm Z<|va Z<|ai<|az<|bS<| ?_;refine fk (λ cn cl a1=>∃ lm:List cb,∃ m:Nat,cl= [(0, .iface 311 (.pointer (some ⟨b,6,none⟩))),(1, .int .i64 (i:Int)),(2, .int .i64 (N:Int)),(6, .bool false),(7, .int .i64 (m:Int))]∧cn=N - m∧Mod (τ.ag A) w a1∧aP a1 b [v0,v1,v2,v3,v4,v5, .slice A n c] 265 (0,0)∧cb.rep.aF 313 32 a1 aC (τ.ag A) A c (lm)∧(m<n)∧(lm.length=n)∧(∀ y∈lm,y.ok)∧(ct.j4 cb.all N lm m=ct.j4 cb.all N l i)∧(∀ q∈τ.ag A,q=b→False)) _ _ ⟨l,i,Z,Z,(Mod.bI (τ.ag A) w),aM,aR,by omega,by omega,dM,rfl,(λ q I Φ=>by (exact hd q I Φ))⟩ (v8 Z) ?_;rintro Mt Jx kv ⟨lm,m,rfl,rfl,cW,aM,jr,hm,awE,E8,mN,Ev⟩;have:=cW.size;have aBY:=aM.lt;have al0:=λ q I=>(jr.lt q I).2;refine bS<|aj<|vm Z<|J (Ce Z Z (bH (by omega)))<|J (bad Z Z (bH (by omega)))<|va Z<|ai<|az<|aj<|vm Z<|vm Z<|J (j3 Z Z)<|vm Z<|aT Z Z Z Z (λ hc=>aH Z) Z<|aT Z Z Z Z (λ hc=>blt (gt hc Z) Z) Z<|J (eE Z Z Z Z)<|ai<| ?_;refine dE Z (λ qC=> ?_) (λ qC=> ?_)
 ·have hex:=ct.arJ (key:=cb.all) (l:=lm) qC;rw [hex] at mN;refine dK<|dJ<|Nn Z<|ei<|dI<|aV<|aj<|vm Z<|vm Z<|J (h0 Z Z)<|va Z<|ai<|rt<|a8 (.tmp Z .nil)<| ?_
  skip
  exact ⟨⟨_,Z⟩,aM,by rw [← mN];exact jr,cW⟩
 ·have sO:=ct.arK qC;refine bt<|aj<|vm Z<|va Z<|ai<|az<|aj<|vm Z<|J (bad Z Z (bH (by omega)))<|va Z<|ai<|aj<|vm Z<|vm Z<|J (blt Z Z)<|vm Z<|aT Z Z Z Z (λ hc=>aH Z) Z<|aT Z Z Z Z (λ hc=>aH Z) Z<| ?_;refine aT Z Z Z Z (λ hc=>aH Z) Z<|ahB Z Z Z Z Po (λ hc=>(gt hc Z)) (λ hc=>e7 (gt hc Z) (e7 (gt hc Z) Z)) (zc (e:= 263) (by kernel_rfl) (aM.one pK Z)) (λ hc=>SE _ _ _ lm (((2 * (m:Int))+1)+1) ((2 * (m:Int))+1) (((2 * m)+1)+1) ((2 * m)+1) _ jr.has (by omega) (by omega) (by omega) (by first | omega | (simp only [cy] at hc;omega)) (by first | omega | (simp only [cy] at hc;omega))) Z λ uN bj=> ?_;have:=bj.size;have jX:=cW.trans (Mod.bz bj);refine J (dH Z Z Z Z)<|ai<| ?_;refine dE Z (λ qB=> ?_) (λ qB=> ?_)
  ·have i':=ct.azx (key:=cb.all) (l:=lm) (m:=m) qB;have af2:=ct.azv qB;refine rg<|vm Z<|va Z<|ai<|az<|aj<|vm Z<|vm Z<|vm Z<| ?_;have aM:=aM.later bj;have jr:=jr.later bj;refine hh Po Z Z (zc (e:= 263) (by kernel_rfl) (aM.one pK Z)) Z ((SE _ _ _ lm (((2 * (m:Int))+1)+1) (m:Int) (((2 * m)+1)+1) m _ jr.has (by omega) (by omega) (by omega) (by first | omega | (simp only [cy] at hc;omega)) (by first | omega | (simp only [cy] at hc;omega))).mono ?_);rintro e zy ⟨rfl,kx⟩;refine ⟨_,Z, ?_⟩;have:=kx.size;have iQ:=jX.trans (Mod.bz kx);refine J (eg Z)<|ai<| ?_;refine dE Z (λ pP=> ?_) (λ pP=> ?_)
   ·have hex:=ct.ad5 (key:=cb.all) sO i' pP;rw [hex] at mN;refine dK<|dJ<|Nn Z<|ei<|dI<|aV<|aj<|vm Z<|vm Z<|J (h0 Z Z)<|va Z<|ai<|rt<|a8 (.tmp Z .nil)<| ?_
    skip
    have jr:=jr.later kx;have aM:=aM.later kx;exact ⟨⟨_,Z⟩,aM,by rw [← mN];exact jr,iQ⟩
   ·have vJ:=ct.ad6 (key:=cb.all) sO i' pP;refine bt<|aj<|vm Z<|vm Z<|vm Z<| ?_;have aM:=aM.later kx;have jr:=jr.later kx;refine hh Pp Z Z (zc (e:= 263) (by kernel_rfl) (aM.one pK Z)) Z ((SF _ _ _ _ lm (m:Int) (((2 * (m:Int))+1)+1) m (((2 * m)+1)+1) _ jr E8 (by omega) (by omega) (by omega) (by omega) (by omega)).mono ?_);rintro e FR ⟨rfl,yq,Fq⟩;refine ⟨_,Z, ?_⟩;have:=Fq.size;have sj:=iQ.md Fq (λ q I=> .inl I);have awZ:∀ y∈ct.swp lm m (((2 * m)+1)+1),y.ok:=λ y aK=>E8 y ((ct.Di (by omega) (by omega)).subset aK);have awy:(ct.swp lm m (((2 * m)+1)+1)).length=n:=by rw [ct.mo];omega
    refine ai<|rg<|vm Z<|va Z<|nl<|bY<| ?_;have aM:=aM.mod Fq (λ I=>Ev _ I rfl);exact c' _ _ ⟨ct.swp lm m (((2 * m)+1)+1),2 * m+2,Z,Z,sj,aM,yq,by omega,awy,awZ,vJ.symm.trans mN,(λ q I Φ=>by (exact Ev q I Φ))⟩ (by omega) (.cons Z (.cons Z (.cons Z (.cons Z (.cons (b2 Z (by first | omega | rfl | (simp<;>omega))) .nil)))))
  ·have i':=ct.azw (key:=cb.all) (l:=lm) (m:=m) qB;refine bt<|az<|aj<|vm Z<|vm Z<|vm Z<| ?_;have aM:=aM.later bj;have jr:=jr.later bj;refine hh Po Z Z (zc (e:= 263) (by kernel_rfl) (aM.one pK Z)) Z ((SE _ _ _ lm ((2 * (m:Int))+1) (m:Int) ((2 * m)+1) m _ jr.has (by omega) (by omega) (by omega) (by first | omega | (simp only [cy] at hc;omega)) (by first | omega | (simp only [cy] at hc;omega))).mono ?_);rintro e zz ⟨rfl,jh⟩;refine ⟨_,Z, ?_⟩;have:=jh.size;have kC:=jX.trans (Mod.bz jh);refine J (eg Z)<|ai<| ?_;refine dE Z (λ AG=> ?_) (λ AG=> ?_)
   ·have hex:=ct.ad5 (key:=cb.all) sO i' AG;rw [hex] at mN;refine dK<|dJ<|Nn Z<|ei<|dI<|aV<|aj<|vm Z<|vm Z<|J (h0 Z Z)<|va Z<|ai<|rt<|a8 (.tmp Z .nil)<| ?_
    skip
    have jr:=jr.later jh;have aM:=aM.later jh;exact ⟨⟨_,Z⟩,aM,by rw [← mN];exact jr,kC⟩
   ·have vJ:=ct.ad6 (key:=cb.all) sO i' AG;refine bt<|aj<|vm Z<|vm Z<|vm Z<| ?_;have aM:=aM.later jh;have jr:=jr.later jh;refine hh Pp Z Z (zc (e:= 263) (by kernel_rfl) (aM.one pK Z)) Z ((SF _ _ _ _ lm (m:Int) ((2 * (m:Int))+1) m ((2 * m)+1) _ jr E8 (by omega) (by omega) (by omega) (by omega) (by omega)).mono ?_);rintro e M_ ⟨rfl,tK,y7⟩;refine ⟨_,Z, ?_⟩;have:=y7.size;have wy:=kC.md y7 (λ q I=> .inl I);have aw0:∀ y∈ct.swp lm m ((2 * m)+1),y.ok:=λ y aK=>E8 y ((ct.Di (by omega) (by omega)).subset aK);have awz:(ct.swp lm m ((2 * m)+1)).length=n:=by rw [ct.mo];omega
    refine ai<|rg<|vm Z<|va Z<|nl<|bY<| ?_;have aM:=aM.mod y7 (λ I=>Ev _ I rfl);exact c' _ _ ⟨ct.swp lm m ((2 * m)+1),2 * m+1,Z,Z,wy,aM,tK,by omega,awz,aw0,vJ.symm.trans mN,(λ q I Φ=>by (exact Ev q I Φ))⟩ (by omega) (.cons Z (.cons Z (.cons Z (.cons Z (.cons (b2 Z (by first | omega | rfl | (simp<;>omega))) .nil)))))
theorem aFp (b:Nat) (A:Option Addr) (c aC:Nat) (l:List cb) (v0 v1 v2 v3 v4 v5:Value) (x:cb) (w:World) (aM:aP w b [v0,v1,v2,v3,v4,v5, .slice A l.length c] 265 (0,0)) (aR:cb.rep.aF 313 32 w aC (τ.ag A) A c (l)) (dM:∀ y∈l,y.ok) (hd:∀ q∈τ.ag A,q=b→False) (hx:x.ok) (Qg:l.length≤1000000) (sL:aC≤w.heap.size):
  Calls prog 268 #[.pointer (some ⟨b,6,none⟩), .iface 313 (.agg #[.int .i64 x.cell.x, .int .i64 x.cell.y, .int .i64 x.a_, .int .i64 x.all])] w (λ e w'=>∃ bM b8,e= .returned (.tuple #[])∧aP w' b [v0,v1,v2,v3,v4,v5, .slice bM (l++ [x]).length b8] 265 (0,0)∧cb.rep.aF 313 32 w' aC (τ.ag bM) bM b8 (l++ [x])∧(∀ q∈τ.ag bM,q∈τ.ag A∨w.heap.size≤q)∧Mod (b::τ.ag A) w w'):=by
 have Dk:=λ q I=>(aR.lt q I).2;have xR:=aM.lt;have Lk:=aR.has.2.1;have CR:=aR.has.dU;have Ll:=aR.has.1;refine cd (n:=13) func268 Z Z Z ?_;refine rd [(3,0),(6,2),(7,3),(9,3)] [0,1,2,3,4,5,6,7,8,9] (by kernel_rfl) (by kernel_rfl) ?_;refine aq Z (λ _=>aH Z)<|aq Z (λ _=>aH Z)<|aq Z (λ _=>b3 Z)<|bA Z (λ _ x=>ak Z ((aM.later x).one pK Z))<|aq Z (λ _=>aH Z)<|aq Z (λ _=>alI (λ w=>by kernel_rfl) Z)<|e8 Z Z Z λ cI e_ Q hK=>cV (e:= 313) (cs:= [.int .i64 x.cell.x, .int .i64 x.cell.y, .int .i64 x.a_, .int .i64 x.all]) Z (λ _=>by kernel_rfl) Z λ aml aIw nR aMM aaU=>hK _ _ ⟨γ e_ nR, ?_⟩;have:=e_.size;have bk:=(Mod.bI (b::τ.ag A) w).trans (Mod.bz e_);have:=nR.size;have NC:=bk.trans (Mod.bz nR);have aOu:=aaU.lt;have aR:=aR.later (γ e_ nR);refine eo Z Z Z λ wg mX Q hK=>ap aoF τ.dt (aR.later mX) ((aP.gC (R:=cb.rep) (by_:=32) (q:=x) aaU ⟨Z,hx⟩ (by decide)).keep mX) Z Z (by simp only [aRW,aR2];omega) (by simp only [aRW,aR2];omega) (by have:=mX.size;omega) Z λ zy aam mI Fp yq afg aNU=>hK _ _ ?_;have:=mX.size;have kB:=NC.trans (Mod.bz mX);have:=Fp.size;have iQ:=kB.md Fp (λ q I=> .inl (aR7 _ I));have alW:=λ q I=>(yq.lt q I).2;have:=Fp.size;refine aq Z (λ _=>b3 Z)<| ?_;have aM:=aM.later (γ e_ (γ nR mX));have aM:=aM.mod Fp (λ I=>hd _ I rfl);refine eo Z Z Z λ td gg Q hK=>st (new:= [v0,v1,v2,v3,v4,v5, .slice aam ((l++ [x]).length) mI]) Z Z (aM.later gg) Z aem Z Z Z λ Dw h2 aM=>hK _ _ ?_;have:=gg.size;have kf:=iQ.trans (Mod.bz gg);have:=h2.size;have sk:=kf.md h2 (λ q I=> .inl (by rw [aRP.1 I];exact aSe));refine fn λ uL df=> ?_;have:=df.size;have jl:=sk.trans (Mod.bz df);refine ne<|a8 .nil<| ?_;have yq:=yq.later gg;have yq:=yq.mod h2 (λ q I h=>by have Φ:=aRP.1 h;exfalso;(exact aR4 (afg q I) (λ aiD=>by (exact hd q aiD Φ)) (λ aiD=>by omega)));have yq:=yq.later df;have aM:=aM.later df;exact ⟨aam,mI,Z,aM,yq,(λ q I=>(afg q I).imp id λ h=>by omega),jl⟩
theorem aFo (b:Nat) (A:Option Addr) (n c aC:Nat) (l:List cb) (v0 v1 v2 v3 v4 v5:Value) (w:World) (aM:aP w b [v0,v1,v2,v3,v4,v5, .slice A n c] 265 (0,0)) (aR:cb.rep.aF 313 32 w aC (τ.ag A) A c (l)) (dM:∀ y∈l,y.ok) (hn:l.length=n) (hd:∀ q∈τ.ag A,q=b→False) (aG:0<n):
  Calls prog 267 #[.pointer (some ⟨b,6,none⟩)] w (λ e w'=>e= .returned (.iface 313 (.agg ((l.getD (n - 1) default).cells).toArray))∧aP w' b [v0,v1,v2,v3,v4,v5, .slice A (n - 1) c] 265 (0,0)∧cb.rep.aF 313 32 w' aC (τ.ag A) A c (l.take (n - 1))∧Mod (b::τ.ag A) w w'):=by
 have Dk:=λ q I=>(aR.lt q I).2;have xR:=aM.lt;have Lk:=aR.has.2.1;have CR:=aR.has.dU;have Ll:=aR.has.1;refine cd (n:=23) func267 Z Z Z ?_;refine aj<|va Z<|ai<|aj<|vm Z<|J (b3 Z)<|J (ak Z (aM.one pK Z))<|va Z<|ai<|aj<|vm Z<|vm Z<|J (cm underlying263 Z)<|J (mi Z Z (bH (by omega)))<|J (b_ (((n:Int) - 1).toNat) underlying263 oN Z Z (aR.has.bP (bb (((n:Int) - 1).toNat))) (by omega) (by omega))<|J (ak Z (τ.aJ.hq EY (aR.has.cB (bb (((n:Int) - 1).toNat))) (dn (l:=l) (u:=default) (by omega)) Pk oN))<|al Z aeo Z Z λ cI bJ a7 dY ab=> ?_;have:=a7.size;have bk:=(Mod.bI (b::τ.ag A) w).trans (Mod.bz a7);have ed:=ab.lt;refine st (new:= [.int .i64 ((l.getD (((n:Int) - 1).toNat) default).cell.x), .int .i64 ((l.getD (((n:Int) - 1).toNat) default).cell.y), .int .i64 ((l.getD (((n:Int) - 1).toNat) default).a_), .int .i64 ((l.getD (((n:Int) - 1).toNat) default).all)]) Z Z ab Z oN Z Z Z λ er Fu ab=> ?_;have:=Fu.size;have bK:=bk.md Fu (λ q I=> .inr (by have:=aRP.1 I;omega));refine ai<|aj<|vm Z<|vm Z<|vm Z<|J (cm underlying263 Z)<|J (mi Z Z (bH (by omega)))<|J (RL (n - 1) (n - 1) underlying263 oN Z Z (by omega) (by omega) Z)<|J (b3 Z)<| ?_;have aM:=aM.later a7;have aM:=aM.mod Fu aN;refine st (new:= [v0,v1,v2,v3,v4,v5, .slice A (n - 1) c]) Z Z aM Z aem Z Z Z λ Bk C5 aM=> ?_;have:=C5.size;have m_:=bK.md C5 (λ q I=> .inl (by rw [aRP.1 I];exact aSe));refine ai<|aj<| ?_;have ab:=ab.mod C5 aN;refine J (ak Z (ab.all Pk oN))<|J (Rg (λ w=>by kernel_rfl) Z)<|va Z<|ai<|rt<|a8 (.tmp Z .nil)<| ?_;have aR:=aR.later a7;have aR:=aR.mod Fu (bD Dk);have aR:=aR.mod C5 (λ q I h=>by have Φ:=aRP.1 h;exfalso;(exact hd q I Φ));exact ⟨by rw [show ((n:Int) - 1).toNat=n - 1 by omega];rfl,aM,τ.aF.cut aR τ.dt (n - 1) (by omega),m_⟩
theorem aFn (b:Nat) (A:Option Addr) (c aC:Nat) (l:List cb) (v0 v1 v2 v3 v4 v5:Value) (x:cb) (w:World) (aM:aP w b [v0,v1,v2,v3,v4,v5, .slice A l.length c] 265 (0,0)) (aR:cb.rep.aF 313 32 w aC (τ.ag A) A c (l)) (dM:∀ y∈l,y.ok) (hd:∀ q∈τ.ag A,q=b→False) (hx:x.ok) (Qg:l.length≤1000000) (sL:aC≤w.heap.size):
  Calls prog 218 #[.iface 311 (.pointer (some ⟨b,6,none⟩)), .iface 313 (.agg #[.int .i64 x.cell.x, .int .i64 x.cell.y, .int .i64 x.a_, .int .i64 x.all])] w (λ e w'=>∃ bM b8,e= .returned (.tuple #[])∧aP w' b [v0,v1,v2,v3,v4,v5, .slice bM (ct.push cb.all l x).length b8] 265 (0,0)∧cb.rep.aF 313 32 w' aC (τ.ag bM) bM b8 (ct.push cb.all l x)∧(∀ q∈τ.ag bM,q∈τ.ag A∨w.heap.size≤q)∧Mod (b::τ.ag A) w w'):=by
 have Dk:=λ q I=>(aR.lt q I).2;have xR:=aM.lt;have Lk:=aR.has.2.1;have CR:=aR.has.dU;have Ll:=aR.has.1;refine cd (n:=12) func218 Z Z Z ?_;refine aj<|vm Z<|vm Z<|hh asG Z Z (by unfold BV;kernel_rfl) Z ((aFp b A c aC l v0 v1 v2 v3 v4 v5 x _ aM aR dM hd hx (by omega) sL).mono ?_);rintro e kv ⟨cq,c1,rfl,eO,Ob,CI,ajp⟩;refine ⟨_,Z, ?_⟩;have:=ajp.size;have cW:=(Mod.bI (b::τ.ag A) w).md ajp (λ q I=> .inl I);have oT:(l++ [x]).length=l.length+1:=by rw [aRX];rfl
 have aDM:=λ q I=>(Ob.lt q I).2;have aOt:=eO.lt;have agb:∀ q∈τ.ag cq,q=b→False:=λ q I e=>(CI q I).elim (λ h=>hd q h e) (λ h=>by omega);have QA:∀ y∈l++ [x],y.ok:=λ y aK=>(aR6.1 aK).elim (dM y) λ h=>by rw [aRP.1 h];exact hx
 refine ai<|rg<|vm Z<|vm Z<|hh Km Z Z (zc (e:= 263) (by kernel_rfl) (eO.one pK Z)) Z ((Np _ ((l++ [x]).length) _ _).mono ?_);rintro e amm ⟨rfl,nR⟩;refine ⟨_,Z, ?_⟩;have:=nR.size;have ND:=cW.trans (Mod.bz nR);refine J (mi Z Z (bH (by omega)))<| ?_;have Ob:=Ob.later nR;have eO:=eO.later nR;refine ca asP Z Z (((show Calls _ _ #[_, .int .i64 (((l++ [x]).length:Int) - 1)] _ _ from (by rw [show ((l++ [x]).length:Int) - 1=(l.length:Int) by rw [oT];omega];exact aFq b cq (l++ [x]).length c1 aC (l++ [x]) v0 v1 v2 v3 v4 v5 l.length _ eO Ob QA rfl agb (by omega)))).mono ?_);rintro e er ⟨rfl,b0,nV,X5⟩;refine ⟨_,Z, ?_⟩;have:=X5.size;have bK:=ND.md X5 (λ q I=>(CI q I).imp (aR7 _) λ h=>by omega);refine nl<|ne<|a8 .nil<| ?_;exact ⟨cq,c1,Z,by rw [show (ct.push cb.all l x).length=(l++ [x]).length by rw [ct.MF,oT]];exact b0,nV,CI,bK⟩
theorem aFm (b:Nat) (A:Option Addr) (n c aC:Nat) (l:List cb) (v0 v1 v2 v3 v4 v5:Value) (w:World) (aM:aP w b [v0,v1,v2,v3,v4,v5, .slice A n c] 265 (0,0)) (aR:cb.rep.aF 313 32 w aC (τ.ag A) A c (l)) (dM:∀ y∈l,y.ok) (hn:l.length=n) (hd:∀ q∈τ.ag A,q=b→False) (aG:0<n) (Qg:n≤1000000):
  Calls prog 220 #[.iface 311 (.pointer (some ⟨b,6,none⟩))] w (λ e w'=>e= .returned (.iface 313 (.agg (l.getD 0 default).cells.toArray))∧aP w' b [v0,v1,v2,v3,v4,v5, .slice A (ct.oh cb.all l).length c] 265 (0,0)∧cb.rep.aF 313 32 w' aC (τ.ag A) A c (ct.oh cb.all l)∧Mod (b::τ.ag A) w w'):=by
 have Dk:=λ q I=>(aR.lt q I).2;have xR:=aM.lt;have Lk:=aR.has.2.1;have CR:=aR.has.dU;have Ll:=aR.has.1;refine cd (n:=15) func220 Z Z Z ?_;refine aj<|va Z<|ai<|aj<|vm Z<|hh Km Z Z (zc (e:= 263) (by kernel_rfl) (aM.one pK Z)) Z ((Np _ n _ _).mono ?_);rintro e cI ⟨rfl,e_⟩;refine ⟨_,Z, ?_⟩;have:=e_.size;have bk:=(Mod.bI (b::τ.ag A) w).trans (Mod.bz e_);refine J (mi Z Z (bH (by omega)))<|va Z<|ai<|aj<|vm Z<|vm Z<| ?_;have aM:=aM.later e_;have aR:=aR.later e_;refine hh Pp Z Z (zc (e:= 263) (by kernel_rfl) (aM.one pK Z)) Z ((SF _ _ _ _ l 0 ((n:Int) - 1) 0 (n - 1) _ aR dM (by omega) (by omega) (by omega) (by omega) (by omega)).mono ?_);rintro e IV ⟨rfl,aoy,X3⟩;refine ⟨_,Z, ?_⟩;have:=X3.size;have mv:=bk.md X3 (λ q I=> .inl (aR7 _ I));have agY:∀ y∈ct.swp l 0 (n - 1),y.ok:=λ y aK=>dM y ((ct.Di (by omega) (by omega)).subset aK);have aKF:(ct.swp l 0 (n - 1)).length=n:=by rw [ct.mo];omega
 refine ai<|aj<|vm Z<|vm Z<| ?_;have aM:=aM.mod X3 (λ I=>hd _ I rfl);refine ca asS Z Z (((show Calls _ _ #[_, .int .i64 0, .int .i64 ((n:Int) - 1)] _ _ from (by rw [show (n:Int) - 1=((n - 1:Nat):Int) by omega];exact aFl b A n c aC (ct.swp l 0 (n - 1)) v0 v1 v2 v3 v4 v5 0 (n - 1) _ aM aoy agY (by omega) hd (by omega) (by omega) Qg))).mono ?_);rintro e Zw ⟨⟨aQI,rfl⟩,eO,ab1,Fu⟩;refine ⟨_,Z, ?_⟩;have:=Fu.size;have x5:=mv.md Fu (λ q I=> .inl (aR7 _ I));have aw1:∀ y∈ct.j4 cb.all (n - 1) (ct.swp l 0 (n - 1)) 0,y.ok:=λ y aK=>agY y ((ct.aec _ _ _ _ (aR3 _) (by omega) (by omega)).subset aK);have aKG:(ct.j4 cb.all (n - 1) (ct.swp l 0 (n - 1)) 0).length=n:=by rw [ct.aeb _ _ _ _ (aR3 _)];omega
 have aDM:=λ q I=>(ab1.lt q I).2;refine ai<|aj<|vm Z<|hh as1 Z Z (by unfold BV;kernel_rfl) Z ((aFo b A n c aC (ct.j4 cb.all (n - 1) (ct.swp l 0 (n - 1)) 0) v0 v1 v2 v3 v4 v5 _ eO ab1 aw1 (by omega) hd aG).mono ?_);rintro e zy ⟨rfl,anY,an8,AY⟩;refine ⟨_,Z, ?_⟩;have:=AY.size;have iQ:=x5.md AY (λ q I=> .inl I);refine va Z<|ai<|rt<|a8 (.tmp Z .nil)<| ?_;subst hn;exact ⟨by rw [← ct.akf (key:=cb.all) aG];rfl,by rw [ct.Ir];exact anY,an8,iQ⟩
end
section
theorem h4 {a b:Bool} (h:a=b):Ending.returned (.bool a)= .returned (.bool b):=by rw [h]
theorem lr (w:World) (o:Obj):Below w.heap.size w (w.alloc o):=(aSm _ w).alloc (aR3 _) o
end
end Go.Proofs.YtlikikpgmmkjbaaGreat
