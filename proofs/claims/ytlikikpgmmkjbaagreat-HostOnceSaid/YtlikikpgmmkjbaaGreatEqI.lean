import Derived.Test.YtlikikpgmmkjbaaGreatGox
set_option linter.unusedVariables false
set_option linter.unusedSimpArgs false
set_option maxRecDepth 100000
set_option maxHeartbeats 4000000
open Go.RowKit
namespace Go.Proofs.YtlikikpgmmkjbaaGreat
open Tryz
abbrev aSf:=@List.length_singleton
abbrev aS7:=@Bool.not_eq_false'
abbrev aTX:=@beq_eq_false_iff_ne
abbrev aVg:=@List.countP_append
abbrev aVB:=@List.countP_cons
abbrev aVG:=@Go.Proofs.Tryz.zeroValue3
abbrev aWE:=@Nat.le_succ_of_le
section
open Go.RowKit Go.Maps
namespace ax
def key (c:ax):Value:= .agg #[.int .i64 c.x, .int .i64 c.y]
theorem laid:laidOutB prog=true:=by kernel_rfl
theorem ayA (x y:Int):(Value.agg #[.int .i64 x, .int .i64 y]).formed prog 49 =true:=by kernel_rfl
theorem ayD:prog.keyType 49 =true:=by kernel_rfl
theorem ayC:∃ n,prog.types.size+1=n+2:=by
 have:1≤prog.types.size:=by decide +kernel
 exact ⟨prog.types.size - 1,by omega⟩
theorem ayz:prog.cellsOf 49 =2∧prog.cellsOf 3 =1:=by
 constructor<;>kernel_rfl
theorem ayB (c:ax) (h:c.ok):∃ l,keyOf prog 49 (key c)=some l:=by
 obtain ⟨hx,aL⟩:=h;obtain ⟨n,hn⟩:=ayC;unfold key keyOf;have hu:=underlying49;rw [hu];simp only [ayD,ayA,Bool.and_self,aTm,hn];have τ:prog.keyLits (n+2) 49 [.int .i64 c.x, .int .i64 c.y]=some [.int .i64 c.x, .int .i64 c.y]:=by
  simp [Program.keyLits,hu,underlying3,ayz,hx,aL]
 exact ⟨.string (keyBytes [.int .i64 c.x, .int .i64 c.y]),by
  have e:(Value.agg #[.int .i64 c.x, .int .i64 c.y]).cells.toList= [.int .i64 c.x, .int .i64 c.y]:=rfl;rw [e,τ];rfl⟩
theorem zq:TE prog 49 key ok where
 keyed:=Keyed.of_law (Go.deep_law_laid laid (m:=100) (by decide) (by decide +kernel) (by kernel_rfl) (by kernel_rfl))
 lit:=ayB
 inj:=by
  intro a b h;unfold key at h;injection h with h
  obtain ⟨x,y⟩:=a;obtain ⟨z,t⟩:=b;simp at h;simp [h]
end ax
end
section
open Go.RowKit Go.Maps
section
variable {w w':World} {b:Nat} {g:ax→Int} {S:List Nat} {x:ax} {st:Nat}
def Eh (w:World) (b:Nat) (l:List (ax×Int×Nat)) (ly:Nat) (g:ax→Int):Prop :=
 dB ax.key w b l ly∧(∀ e∈l,e.1.ok)∧(l.map (·.1)).Nodup∧∀ y,(dB.get l y).getD 0=g y
def kE (w:World) (b:Nat) (g:ax→Int):Prop:=∃ l ly,Eh w b l ly g
def sO (w:World) (b:Nat) (g:ax→Int) (x:ax) (st:Nat):Prop:=∃ l ly,Eh w b l ly g∧∃ (j:Nat) (v:Int),l[j]? =some (x,v,st)
theorem kE.lt (h:kE w b g):b<w.heap.size:=by obtain ⟨l,c,h,_⟩:=h;exact h.lt
theorem Eh.keep {l:List (ax×Int×Nat)} {ly:Nat} (h:Eh w b l ly g) (ar:w'.heap[b]? =w.heap[b]?):Eh w' b l ly g:=⟨h.1.keep ar,h.2⟩
theorem kE.keep (h:kE w b g) (ar:w'.heap[b]? =w.heap[b]?):kE w' b g:=by obtain ⟨l,c,h⟩:=h;exact ⟨l,c,h.keep ar⟩
theorem kE.later (h:kE w b g) (x:Ext w w'):kE w' b g:=h.keep (x.block b h.lt)
theorem kE.mod (h:kE w b g) (m:Mod S w w') (hs:b∉S):kE w' b g:=h.keep (m.block b h.lt hs)
theorem sO.map (h:sO w b g x st):kE w b g:=by obtain ⟨l,c,h,_⟩:=h;exact ⟨l,c,h⟩
theorem sO.lt (h:sO w b g x st):b<w.heap.size:=h.map.lt
theorem sO.keep (h:sO w b g x st) (ar:w'.heap[b]? =w.heap[b]?):sO w' b g x st:=by obtain ⟨l,c,h,aa⟩:=h;exact ⟨l,c,h.keep ar,aa⟩
theorem sO.later (h:sO w b g x st) (e:Ext w w'):sO w' b g x st:=h.keep (e.block b h.lt)
theorem kE.of_nil (h:pD w b []):kE w b λ _=>0:=by
 obtain ⟨es,c,τ,aa⟩:=h;have:es.toList= []:=by
  cases he:es.toList with
  | nil=>rfl
  | cons a r=>rw [he] at aa;exact aa.elim
 have e:es=#[]:=by apply aS8;simpa using this
 subst e;exact ⟨[],c,⟨by simpa using τ,by simp,by simp⟩,by simp,by simp,λ y=>rfl⟩
def pI (b:Nat) (g:ax→Int) (w w':World):Prop:=Mod [b] w w'∧(kE w b g→kE w' b g)
theorem pI.bC (h:Ext w w'):pI b g w w':=⟨Mod.bC h,λ k=>k.later h⟩
theorem pI.trans {aP cH:World} (h:pI b g w aP) (k:pI b g aP cH):pI b g w cH:=⟨h.1.trans k.1,λ q=>k.2 (h.2 q)⟩
theorem Y3 {es:Array MapEntry} {clock:Nat}:Mod [b] w (iP w b es clock):=
 ⟨rfl,rfl,rfl,by rw [akP];exact aRN _,λ k _ hn=>M0 (by simpa using hn)⟩
def tI (g:ax→Int) (x:ax) (v:Int):ax→Int:=λ y=>if y=x then v else g y
end
section
variable {w:World} {b:Nat} {l:List (ax×Int×Nat)} {clock:Nat} {g:ax→Int}
theorem aje:prog.underlying 205 =some (.map 49 3):=by kernel_rfl
theorem azG (h:kE w b g) (x:ax) (hx:x.ok):(Instr.lookup 205 (.map (some b)) (ax.key x) false).run prog w= .ok (.int .i64 (g x)) w:=by
 obtain ⟨l,c,τ,aa,aw,a1⟩:=h;rw [← a1 x];exact (dB.lookup ax.zq aje (aVG w) τ aa aw x hx).1
theorem aDl {l:List (ax×Int×Nat)} {j:Nat} {a:ax×Int×Nat} (hm:(l.map (·.2.2)).Nodup) (ay:l[j]? =some a):((l.map (dE ax.key)).toArray).findIdx? (λ y=>((y.born:Nat):Int)== ((a.2.2:Nat):Int))=some j:=by
 rw [aVZ];refine aVT (l:=l.map (dE ax.key)) (j:=j) (e0:=dE ax.key a) ?_ (by rw [aRU,ay];rfl);rw [aUl];exact hm
theorem azF (h:kE w b g) (x:ax) (hx:x.ok):∃ (st:Nat) (w':World),(Instr.mapEntry 205 (.map (some b)) (ax.key x)).run prog w= .ok (.tuple #[.int .i64 (g x), .int .i64 (st:Int)]) w'∧Mod [b] w w'∧sO w' b g x st:=by
 obtain ⟨l,clock,h,hw,hn,aK⟩:=h;obtain ⟨hy,sa⟩:=ax.zq.lit x hx;have Φ:=h.ft;have bw:=h.lt;have aG:=aje;have bs:=aVG;rcases dB.found ax.zq h hw x hx with ⟨τ,aa,aw⟩ | ⟨j,v0,n0,τ,aa⟩
 ·have HV:g x=0:=by rw [← aK x,aa];rfl
  have C6:dB.put l clock x 0=l++ [(x,0,clock)]:=by
   unfold dB.put;rw [aRL];intro ha;obtain ⟨a,ha,hd⟩:=aSX.1 ha;exact aw a ha (by simpa using hd)
  have hP:Eh (iP w b ((l++ [(x,0,clock)]).map (dE ax.key)).toArray (clock+1)) b (l++ [(x,0,clock)]) (clock+1) g:=by
   refine ⟨⟨Dr bw,λ a ha=> ?_, ?_⟩,λ a ha=> ?_, ?_,λ y=> ?_⟩
   ·rcases aRR.1 ha with ha | ha
    ·have:=h.born a ha;omega
    ·simp at ha;subst ha;simp
   ·rw [aR3,aSt];refine ⟨h.stamps,by simp,λ a ha c hc e=> ?_⟩;simp at hc;obtain ⟨y,aL,rfl⟩:=aSh.1 ha;have:=h.born y aL;omega
   ·rcases aRR.1 ha with ha | ha
    ·exact hw a ha
    ·simp at ha;subst ha;exact hx
   ·have:=dB.H8 hn clock x 0;rw [C6] at this;exact this
   ·have:=dB.A0 l clock x y 0;rw [C6] at this;rw [this];by_cases e:y=x
    ·rw [aRP e,e,HV];rfl
    ·rw [aRL e];exact aK y
  refine ⟨clock,_, ?_,Y3,⟨_,_,hP,l.length,0,by simp⟩⟩
  ·rw [HV];have:(l.map (dE ax.key)).toArray.push (⟨ax.key x, .int .i64 0,clock⟩:MapEntry)=((l++ [(x,0,clock)]).map (dE ax.key)).toArray:=by simp [dE]
   simp [Instr.mapEntry,aSL aG,aSB Φ,ax.zq.keyed.check w false sa,τ,bs,aSY _ Φ,Result.andThen,iP,Go.ChangeMaps.setBlock,goInt,dE]
 ·have HV:g x=v0:=by rw [← aK x,dB.iN hn aa];rfl
  have hP:Eh (iP w b (l.map (dE ax.key)).toArray clock) b l clock g:=⟨⟨Dr bw,h.born,h.stamps⟩,hw,hn,aK⟩;refine ⟨n0,_, ?_,Y3,⟨_,_,hP,j,v0,aa⟩⟩
  ·rw [HV];have ay:(l.map (dE ax.key)).toArray[j]? =some (dE ax.key (x,v0,n0)):=by simp [aa]
   have Xi:(l.map (dE ax.key)).toArray.modify j (λ e=> {e with key:=ax.key x})=(l.map (dE ax.key)).toArray:=by
    apply aS8;rw [aTZ,aTO _ _ _ _ (by rw [aRU,aa];rfl)];exact aWc _ _ _ (by rw [aRU,aa];rfl)
   have WW:(dE ax.key (x,v0,n0)).key=ax.key x:=rfl;have Wv:(dE ax.key (x,v0,n0)).born=n0:=rfl;simp only [Instr.mapEntry,aRS,aSL aG,aRJ,aSB Φ,ax.zq.keyed.check w false sa,τ,ay,aS5,aSK,WW,ax.zq.keyed.stays w sa,Xi,aSY _ Φ,Wv,aRT];rfl
theorem azH {st:Nat} {x:ax} (h:sO w b g x st) (v:Int):∃ w',(Instr.entryStore 205 (.map (some b)) (.int .i64 (st:Int)) (.int .i64 v)).run prog w= .ok () w'∧Mod [b] w w'∧kE w' b (tI g x v):=by
 obtain ⟨l,clock,⟨h,hw,hn,aK⟩,j,v0,aa⟩:=h;have Φ:=h.ft;have bw:=h.lt;have ew:=aDl (a:=(x,v0,st)) h.stamps aa;have pX:l.any (λ e=>decide (e.1=x))=true:=aSX.2 ⟨_,aSc aa,by simp⟩;have wh:dB.put l clock x v=l.set j (x,v,st):=by
  unfold dB.put;rw [aRP pX];refine aTf λ i=> ?_;rw [aRU];by_cases jC:j=i
  ·subst jC;rw [aa,aRY (aRC.1 aa).1];simp
  ·rw [aR4 jC];cases aq:l[i]? with
   | none=>rfl
   | some a =>
    have:a.1≠x:=by
     intro A5;have a_:(l.map (·.1))[i]? =(l.map (·.1))[j]? :=by rw [aRU,aRU,aq,aa];simp [A5]
     have:=(aVo (by simpa using (aRC.1 aq).1) hn).1 a_;exact jC this.symm
    simp [this]
 have Fe:(l.map (dE ax.key)).toArray.modify j (λ e=> {e with val:=Value.int .i64 v})=((l.set j (x,v,st)).map (dE ax.key)).toArray:=by
  apply aS8;rw [aTZ,aTO _ _ _ _ (by rw [aRU,aa];rfl),aSV];rfl
 refine ⟨iP w b ((l.set j (x,v,st)).map (dE ax.key)).toArray clock, ?_,Y3,l.set j (x,v,st),clock,⟨Dr bw,λ a ha=> ?_, ?_⟩,λ a ha=> ?_, ?_,λ y=> ?_⟩
 ·rw [← Fe];simp only [Instr.entryStore,aRS,aSB Φ,aRJ,asInt,asIntOf,goInt,aRT];rw [ew];exact aSY _ Φ
 ·rcases aTo ha with ha | ha
  ·exact h.born a ha
  ·rw [ha];exact h.born (x,v0,st) (aSc aa)
 ·rw [aSV];have:(l.map (·.2.2)).set j st=l.map (·.2.2):=by
   obtain ⟨qV,oZ⟩:=aRC.1 aa;have e:(l.map (·.2.2))[j]'(by simpa using qV)=st:=by rw [aUB,oZ]
   conv=>lhs;rw [← e]
   exact aTn _
  rw [this];exact h.stamps
 ·rcases aTo ha with ha | ha
  ·exact hw a ha
  ·rw [ha];exact hw (x,v0,st) (aSc aa)
 ·have:=dB.H8 hn clock x v;rw [wh] at this;exact this
 ·have:=dB.A0 l clock x y v;rw [wh] at this;rw [this];unfold tI;by_cases e:y=x
  ·rw [aRP e,aRP e];rfl
  ·rw [aRL e,aRL e];exact aK y
end
section
variable {n:Nat} {E cP:List (Nat×Value)} {a:Act} {w w' w0 aP:World} {Q:Exit→Act→World→Prop} {ops:Array Oper}
variable {d:Option Nat} {ty:TypeId} {pos:String} {af:Array Edge} {auy:Option (Nat×Bool)} {x y z m:Operand} {rest:List Oper} {r st:Nat} {g:ax→Int} {p:ax} {v:Int}
theorem Q_ (h:kE w r g) (ar:p.ok) (hx:ev E m=some (.map (some r))) (aL:ev E y=some (ax.key p)):
  cS prog E ⟨d, .lookup 205 m y false,ty,pos,af,auy⟩ w (.int .i64 (g p)) w:=λ n a ha=>by
 simp only [execOp,ha.ev hx,ha.ev aL,aRS,azG h p ar,aRJ,aRT]
theorem meC {d:Nat} (h:kE w r g) (ar:p.ok) (hx:ev E m=some (.map (some r))) (aL:ev E y=some (ax.key p)) (hd:Nat.blt d n=true)
  (hK:∀ aP (st:Nat),Mod [r] w aP→sO aP r g p st→cE prog n ops Q rest ((d, .tuple #[.int .i64 (g p), .int .i64 (st:Int)])::E) aP):cE prog n ops Q (⟨some d, .mapEntry 205 m y,ty,pos,af,none⟩::rest) E w:=by
 obtain ⟨st,aP,τ,aa,aw⟩:=azF h p ar;refine iA (w':=aP) (v:= .tuple #[.int .i64 (g p), .int .i64 (st:Int)]) (λ n a ha=> ?_) hd (hK _ st aa aw);simp only [execOp,ha.ev hx,ha.ev aL,aRS,τ,aRJ,aRT]
theorem Vi (h:sO w r g p st) (hx:ev E m=some (.map (some r))) (aL:ev E y=some (.int .i64 (st:Int))) (bs:ev E z=some (.int .i64 v))
  (hK:∀ aP,Mod [r] w aP→kE aP r (tI g p v)→cE prog n ops Q rest E aP):cE prog n ops Q (⟨none, .entryStore 205 m y z,ty,pos,af,none⟩::rest) E w:=by
 obtain ⟨aP,τ,aa,aw⟩:=azH h v;refine us (w':=aP) (λ n a ha=> ?_) (hK _ aa aw);simp only [execOp,ha.ev hx,ha.ev aL,ha.ev bs,aRS,τ,aRJ,aRT]
end
end
section
def jf (T:List bf) (c:ax):Int:=((T.countP λ t=>decide (t.spot=c):Nat):Int)
theorem Rw (T:List bf) (c:ax):0≤jf T c∧jf T c≤(T.length:Int):=⟨aTH _,Int.ofNat_le.2 List.countP_le_length⟩
theorem aAv (T:List bf) (t:bf):jf (T++ [t])=tI (jf T) t.spot (jf T t.spot+1):=by
 funext y
 unfold jf tI;rw [aVg,aVB,List.countP_nil];by_cases e:y=t.spot
 ·subst e;simp
 ·have e':¬ t.spot=y:=λ h=>e h.symm;rw [aRL e];simp [e']
theorem aDD {α:Type} {T:List α} {k:Nat} {d:α} (h:k<T.length):T.take (k+1)=T.take k++ [T.getD k d]:=by
 rw [List.take_add_one,aRD h,aRB,aRD h];rfl
theorem aAw {T:List bf} {k:Nat} (h:k<T.length):jf (T.take (k+1))=tI (jf (T.take k)) (T.getD k default).spot (jf (T.take k) (T.getD k default).spot+1):=by
 rw [aDD (d:=default) h,aAv]
theorem countP_split {T:List bf} {k:Nat} (h:k<T.length) (t:bf) (c:ax):
  ((T.countP λ t=>decide (t.spot=c):Nat):Int)=(((T.take k).countP λ t=>decide (t.spot=c):Nat):Int)+(if (T.getD k default).spot=c then 1 else 0)+(((T.drop (k+1)).countP λ t=>decide (t.spot=c):Nat):Int)∧
  (((T.set k t).countP λ t=>decide (t.spot=c):Nat):Int)=(((T.take k).countP λ t=>decide (t.spot=c):Nat):Int)+(if t.spot=c then 1 else 0)+(((T.drop (k+1)).countP λ t=>decide (t.spot=c):Nat):Int):=by
 have e:T=T.take k++T.getD k default::T.drop (k+1):=by
  conv=>lhs;rw [← aTL k T,aTp h]
  rw [aRB,aRD h];rfl
 constructor
 ·conv=>lhs;rw [e]
  rw [aVg,aVB];by_cases hc:(T.getD k default).spot=c<;>simp only [hc,aUu,aUk,aTm,aS0]<;>simp<;>omega
 ·rw [aVk,aRP h,aVg,aVB];by_cases hc:t.spot=c<;>simp only [hc,aUu,aUk,aTm,aS0]<;>simp<;>omega
theorem aAu {T:List bf} {k:Nat} (h:k<T.length) (t:bf):
  jf (T.set k t)=tI (tI (jf T) (T.getD k default).spot (jf T (T.getD k default).spot - 1)) t.spot (tI (jf T) (T.getD k default).spot (jf T (T.getD k default).spot - 1) t.spot+1):=by
 obtain ⟨A,D,hA,aX⟩:∃ A D:ax→Int,(∀ y,jf T y=A y+(if (T.getD k default).spot=y then 1 else 0)+D y)∧∀ y,jf (T.set k t) y=A y+(if t.spot=y then 1 else 0)+D y :=
  ⟨_,_,λ y=>(countP_split h t y).1,λ y=>(countP_split h t y).2⟩
 funext y
 unfold tI;rw [aX y,hA y,hA t.spot,hA (T.getD k default).spot];generalize (T.getD k default).spot=a;generalize t.spot=b;by_cases a_:y=b
 ·subst a_;by_cases bj:y=a
  ·subst bj;simp only [aTm,eq_self];omega
  ·have cV:¬ a=y:=λ h=>bj h.symm;simp only [aTm,bj,cV,aS0];omega
 ·have jK:¬ b=y:=λ h=>a_ h.symm;by_cases bj:y=a
  ·subst bj;simp only [aTm,a_,jK,aS0];omega
  ·have cV:¬ a=y:=λ h=>bj h.symm;simp only [a_,bj,cV,jK,aS0]
theorem aEe {g:ax→Int} {n v:Int} {x:ax} (h:∀ y,0≤g y∧g y≤n) (τ: -1≤v) (aa:v≤n) (y:ax): -1≤tI g x v y∧tI g x v y≤n:=by
 unfold tI;have:=h y;split<;>omega
theorem aAt {T:List bf} {c:ax}:0<jf T c↔∃ t∈T,t.spot=c:=by
 unfold jf;rw [Int.natCast_pos,List.countP_pos_iff];simp
def eD (l:List dm) (id:Int):Int:=fT (λ g=>g.id == id) l
theorem auE (l:List dm) (id:Int):eD l id= -1∧(∀ g∈l,g.id≠id)∨∃ k,k<l.length∧eD l id=(k:Int)∧(l.getD k default).id=id∧∀ j,j<k→(l.getD j default).id≠id:=by
 rcases LW (λ g=>g.id == id) l with ⟨τ,aa⟩ | ⟨k,ar,τ,aa,aw⟩
 ·exact .inl ⟨τ,λ g aK=>by simpa using aa g aK⟩
 ·refine .inr ⟨k,ar,τ, ?_,λ j ay=> ?_⟩
  ·rw [aRB,aRD ar];simpa using aa
  ·rw [aRB,aRD (by omega)];simpa using aw j ay
noncomputable def q_ (f:aE) (l:List dm) (T:List bf) (k:Nat):Option ax :=
 if eD l (T.getD k default).id<0 then none
 else if g_ f (T.getD k default).spot (l.getD (eD l (T.getD k default).id).toNat default).bn≠0 then none
 else if (fS f (T.getD k default).spot (l.getD (eD l (T.getD k default).id).toNat default).bn).length<2 then none
 else if 0<jf T ((fS f (T.getD k default).spot (l.getD (eD l (T.getD k default).id).toNat default).bn).getD 1 default) then none
 else some ((fS f (T.getD k default).spot (l.getD (eD l (T.getD k default).id).toNat default).bn).getD 1 default)
def bf.bn (t:bf) (c:ax):bf:= {t with spot:=c}
noncomputable def jR (f:aE) (l:List dm) (T:List bf):Nat→List bf×List Int
 | 0=>(T, [])
 | k+1=>match q_ f l (jR f l T k).1 k with
  | none=>jR f l T k
  | some c=>((jR f l T k).1.set k (((jR f l T k).1.getD k default).bn c),(jR f l T k).2++ [((jR f l T k).1.getD k default).id])
theorem F0 {f:aE} {l:List dm} {T U:List bf} {M:List Int} {k:Nat} (h:jR f l T k=(U,M)) (hs:q_ f l U k=none):jR f l T (k+1)=(U,M):=by
 show (match q_ f l (jR f l T k).1 k with | none=>_ | some c=>_)=_;rw [h];simp only [hs]
theorem M7 {f:aE} {l:List dm} {T U:List bf} {M:List Int} {k:Nat} {c:ax} (h:jR f l T k=(U,M)) (hs:q_ f l U k=some c):jR f l T (k+1)=(U.set k ((U.getD k default).bn c),M++ [(U.getD k default).id]):=by
 show (match q_ f l (jR f l T k).1 k with | none=>_ | some c=>_)=_;rw [h];simp only [hs]
theorem R4 {f:aE} {l:List dm} {T:List bf}:∀ k,(jR f l T k).1.length=T.length∧(jR f l T k).2.length≤k
 | 0=>⟨rfl,aRN _⟩
 | k+1=>by
  have bD:=R4 (f:=f) (l:=l) (T:=T) k;cases hs:q_ f l (jR f l T k).1 k with
  | none=>rw [F0 rfl hs];exact ⟨bD.1,aWE bD.2⟩
  | some c=>rw [M7 rfl hs];exact ⟨by rw [aRK];exact bD.1,by rw [aRH,aSf];omega⟩
noncomputable def ah.l6 (W:ah) (l:List dm):ah×List Int:=({W with ak:=(jR W.field l W.ak W.ak.length).1},(jR W.field l W.ak W.ak.length).2)
end
section
section
variable {fY:Nat} {fZ:ax→Int} {P:Program} {ops:Array Oper} {Q:Exit→Act→World→Prop} {aS:Nat→Nat}
def vG (fY:Nat) (fZ:ax→Int) (P:Program) (ops:Array Oper) (w0:World) (o:Oper) (v:Value) (a:Act):Prop :=
  (Region.wanted o (yielded ops a.tmps)=true∧∀ w,pI fY fZ w0 w→wF P w v ((execOp a.eval o).run P w))∨
  (Region.wanted o (yielded ops a.tmps)=false∧v=undef)
theorem vG.of_same {w0:World} {o:Oper} {v:Value} {a a':Act} (h:vG fY fZ P ops w0 o v a) (he:execOp a'.eval o=execOp a.eval o) (hw:Region.wanted o (yielded ops a'.tmps)=Region.wanted o (yielded ops a.tmps)):vG fY fZ P ops w0 o v a':=by
  unfold vG at *;rw [he,hw];exact h
theorem vG.on {w0 aP:World} {o:Oper} {v:Value} {a:Act} (h:vG fY fZ P ops w0 o v a) (hx:pI fY fZ w0 aP):vG fY fZ P ops aP o v a :=
  h.imp (λ ⟨τ,aa⟩=>⟨τ,λ w hw=>aa w (hx.trans hw)⟩) id
theorem Yields.aCc {w0:World} {o:Oper} {v:Value} {a:Act} (h:Yields P ops o v a):vG fY fZ P ops w0 o v a :=
  h.imp (λ ⟨τ,aa⟩=>⟨τ,λ w _=>by rw [aa w];exact ⟨rfl,rfl⟩⟩) id
def aDq (fY:Nat) (fZ:ax→Int) (P:Program) (ops:Array Oper) (Q:Exit→Act→World→Prop) (aS:Nat→Nat) (i:Nat) (K:Act→World→Prop) (a:Act) (w0:World):Prop :=
  ∃ o,ops[i]? =some o∧
    ((aS i≤1∧∃ v,vG fY fZ P ops w0 o v a∧K (a.put o.dst v) w0)∨
     (1<aS i∧∀ w,Ext w0 w→wpOp P ops Q i (λ a' w'=>(aS i=2→pI fY fZ w0 w')∧K a' w') a w))
def Kd (fY:Nat) (fZ:ax→Int) (P:Program) (ops:Array Oper) (Q:Exit→Act→World→Prop) (aS:Nat→Nat):Nat→Array Bool→Act→World→Prop
  | 0,l,a,w0=>Region.ready .any ops l= []∧∀ w,Ext w0 w→Q .normal a w
  | f+1,l,a,w0=>(Region.ready .any ops l= []→∀ w,Ext w0 w→Q .normal a w)∧∀ i∈Region.ready .any ops l,aDq fY fZ P ops Q aS i (Kd fY fZ P ops Q aS f (l.setIfInBounds i true)) a w0
theorem G2:∀ (f:Nat) (l:Array Bool) (a:Act) (w0:World),Kd fY fZ P ops Q aS f l a w0→∀ w,Ext w0 w→wpAny P .any ops Q f l a w
  | 0,_,_,_,h,w,hw=>⟨h.1,h.2 w hw⟩
  | f+1,l,a,w0,h,w,hw=>⟨λ aH=>h.1 aH w hw,λ i aq=>by
      obtain ⟨o,bS,aa⟩:=h.2 i aq;rcases aa with ⟨_,v,I,ar⟩ | ⟨_,aa⟩
      · unfold wpOp
        simp only [bS];rcases I with ⟨lB,I⟩ | ⟨lB,rfl⟩
        · rw [aRP lB]
          refine .inl ?_;have I:=I w (pI.bC hw);unfold Oper.wp;generalize (execOp a.eval o).run P w=r at *
          cases r with
          | ok n w' =>
            cases n<;>simp only [wF] at I<;>simp only [Oper.upon]
            case value u=>obtain ⟨rfl,rfl⟩:=I;exact G2 f _ _ _ ar _ hw
            case skip=>obtain ⟨rfl,rfl⟩:=I;exact G2 f _ _ _ ar _ hw
            case enter f' args=>obtain ⟨rfl,hc⟩:=I;exact hc.mono λ e ku ⟨he,hx⟩=>by subst he;exact G2 f _ _ _ ar _ (hw.tH hx)
          | halt x w'=>simp only [wF] at I
        · rw [aRL (by rw [lB];decide)]
          exact G2 f _ _ _ ar _ hw
      · exact aTt (λ a' w' aw=>G2 f _ _ _ aw.2 _ (Ext.bF w')) (aa w hw)⟩
theorem aeH {i:Nat} {cJ:Oper} {v:Value} (aq:ops[i]? =some cJ) (ar:aS i≤1) (kN:∀ (j:Nat) (o:Oper) cs b,ops[j]? =some o→o.op≠ .select cs b)
    (gy:∀ c a w,¬ Q (.panic c) a w) (aC:World→Act→Prop) (ln:∀ w0 a,aC w0 a→vG fY fZ P ops w0 cJ v a)
    (z2:∀ w0 a a',aC w0 a→execOp a'.eval cJ=execOp a.eval cJ→Region.wanted cJ (yielded ops a'.tmps)=Region.wanted cJ (yielded ops a.tmps)→aC w0 a')
    (z3:∀ w0 aP a,pI fY fZ w0 aP→aC w0 a→aC aP a) (R:Nat→Bool) (sg:Array Bool)
    (hR:∀ j cR,ops[j]? =some cR→j≠i→(∀ e∈cR.after,Region.binds .any e=true→R e.on=true)→R j=true)
    (aX:(∀ w0 aP a,aC w0 a→aC aP a)∨∀ j,R j=true→3≤aS j→sg.getD j true=true):
    ∀ (f:Nat) (l:Array Bool) (a:Act) (w0:World),(∀ j,l.getD j false=true→R j=true)→(∀ j,sg.getD j true=true→l.getD j true=true)→
      (∀ j cR,ops[j]? =some cR→j≠i→l.getD j true=false→(∀ e∈cR.after,Region.binds .any e=true→e.on≠i)→cJ.apart ops cR=true)→
      i∈Region.ready .any ops l→aC w0 a→Kd fY fZ P ops Q aS f (l.setIfInBounds i true) (a.put cJ.dst v) w0→Kd fY fZ P ops Q aS (f+1) l a w0:=by
  intro f;induction f with
  | zero =>
    intro l a w0 _ _ _ hr bs H;refine ⟨λ h=>(by rw [h] at hr;cases hr),λ j ay=> ?_⟩;by_cases fM:j=i
    · subst fM;exact ⟨cJ,aq, .inl ⟨ar,v,ln _ _ bs,H⟩⟩
    · have:=aTw ay fM
      rw [H.1] at this;cases this
  | succ f bD =>
    intro l a w0 xL r_ xI hr bs H;refine ⟨λ h=>(by rw [h] at hr;cases hr),λ j ay=> ?_⟩;by_cases fM:j=i
    · subst fM;exact ⟨cJ,aq, .inl ⟨ar,v,ln _ _ bs,H⟩⟩
    · obtain ⟨cR,ic,τ⟩:=H.2 j (aTw ay fM)
      obtain ⟨r7,eE,xN,de⟩:=aUq.1 ay;obtain rfl:eE=cR:=by rw [ic] at xN;exact (aRA xN).symm
      have Ff:∀ e∈eE.after,Region.binds .any e=true→e.on≠i:=λ e he Φ heq=>by
        have τ:=de e he Φ;have aH:=(aUq.1 hr).1;rw [heq] at τ;rcases aSA i l.size with cI | cI
        · simp [cI] at aH τ;rw [aH] at τ;cases τ
        · simp [aSv cI] at τ
      have E0:=xI j eE ic fM r7 Ff;obtain ⟨cd,a2,a3⟩:=aUZ E0;have Fi:∀ cs b,cJ.op≠ .select cs b:=λ cs b=>kN i cJ cs b aq;have th:∀ cs b,eE.op≠ .select cs b:=λ cs b=>kN j eE cs b ic;have keep:∀ aP a u,aC aP a→aC aP (a.put eE.dst u):=λ aP a u bs=>z2 _ _ _ bs (aTU cJ Fi a eE.dst u a3) (aT9 cJ a eE.dst u a3);have xD:R j=true:=hR j eE ic fM λ e he Φ=>xL _ (de e he Φ);have xM:∀ k,(l.setIfInBounds j true).getD k false=true→R k=true:=λ k ar=>by
        by_cases fD:j=k
        · rw [← fD];exact xD
        · rw [aTj false fD] at ar;exact xL k ar
      have xK:∀ k,sg.getD k true=true→(l.setIfInBounds j true).getD k true=true:=λ k ar=>by
        by_cases fD:j=k
        · subst fD
          rcases aSA j l.size with cI | cI
          · simp [cI]
          · simp [aSv cI]
        · rw [aTj true fD];exact r_ k ar
      have xJ:∀ k ok,ops[k]? =some ok→k≠i→(l.setIfInBounds j true).getD k true=false→
          (∀ e∈ok.after,Region.binds .any e=true→e.on≠i)→cJ.apart ops ok=true:=λ k ok ar ob xS jc=>by
        refine xI k ok ar ob ?_ jc;by_cases fD:j=k
        · subst fD;exact r7
        · rw [aTj true fD] at xS;exact xS
      have xQ:=aTw hr (aUi fM);rcases τ with ⟨r9,u,I,hK⟩ | ⟨r9,τ⟩
      · refine ⟨eE,ic, .inl ⟨r9,u,I.of_same (aTU eE th a cJ.dst v cd).symm (aT9 eE a cJ.dst v cd).symm, ?_⟩⟩
        refine bD _ _ _ xM xK xJ xQ (keep _ _ _ bs) ?_;rw [aSQ _ _ fM,← aTv a v u a2];exact hK
      · refine ⟨eE,ic, .inr ⟨r9,λ w hw=> ?_⟩⟩
        refine aTt (λ a' w' aw=>⟨aw.2.1, ?_⟩) (SK (aC:=aC w0) ic cd a2 th gy (keep w0) (λ a d bs=>z2 _ _ _ bs Z Z) bs (τ w hw));have Fl:aC w' a':=by
          rcases aSA (aS j) 3 with bw | r4
          · exact z3 _ _ _ (aw.2.1 (by omega)) aw.1
          · rcases aX with aX | aX
            · exact aX _ _ _ aw.1
            · have:=r_ j (aX j xD r4);rw [r7] at this;cases this
        refine bD _ _ _ xM xK xJ xQ Fl ?_;rw [aSQ _ _ fM];exact aw.2.2
def Jg (fY:Nat) (fZ:ax→Int) (P:Program) (ops:Array Oper) (Q:Exit→Act→World→Prop) (aS:Nat→Nat):List Nat→Act→World→Prop
  | [],a,w0=>∀ w,Ext w0 w→Q .normal a w
  | i::r,a,w0=>∃ o,ops[i]? =some o∧
      ((aS i=0∧∃ v,vG fY fZ P ops w0 o v a∧Jg fY fZ P ops Q aS r (a.put o.dst v) w0)∨
       (aS i=1∧∃ v,Yields P ops o v a∧Jg fY fZ P ops Q aS r (a.put o.dst v) w0)∨
       (1<aS i∧∀ w,Ext w0 w→wpOp P ops Q i (λ a' w'=>(aS i=2→pI fY fZ w0 w')∧Jg fY fZ P ops Q aS r a' w') a w))
theorem OR (hs:Region.noSelect ops=true) (gy:∀ c a w,¬ Q (.panic c) a w):∀ (r:List Nat) (l:Array Bool) (a:Act) (w0:World),l.size=ops.size→h' ops aS r l=true→Jg fY fZ P ops Q aS r a w0→Kd fY fZ P ops Q aS r.length l a w0
  | [],l,a,w0,_,aX,h=>⟨by simpa [h'] using aX,h⟩
  | i::r,l,a,w0,az,aX,h=>by
    obtain ⟨o,bS,h⟩:=h;have kN:=aTV hs;rcases h with ⟨ar,v,I,hK⟩ | ⟨ar,v,I,hK⟩ | ⟨ar,h⟩
    · simp only [h',ar,aRI] at aX
      obtain ⟨⟨⟨hf,hr⟩,Φ⟩,aX⟩:=aX;obtain ⟨R,r1,r2,u0⟩:=Ki az Φ;exact aeH bS (by omega) kN gy (λ w0 a=>vG fY fZ P ops w0 o v a) (λ _ _ h=>h) (λ _ _ _ h he hw=>h.of_same he hw) (λ _ _ _ hx h=>h.on hx) R l r1 (.inr u0) _ _ _ _ r2 (λ _ h=>h) (aS4 bS hf) (by simpa using hr) I
        (OR hs gy r _ _ _ (by simpa using az) aX hK)
    · simp only [h',ar,aRI] at aX
      obtain ⟨⟨hf,hr⟩,aX⟩:=aX;exact aeH bS (by omega) kN gy (λ _ a=>Yields P ops o v a) (λ _ _ h=>Yields.aCc h) (λ _ _ _ h he hw=>h.of_same he hw) (λ _ _ _ _ h=>h) (λ _=>true) l (λ _ _ _ _ _=>Z) (.inl λ _ _ _ h=>h) _ _ _ _ (λ _ _=>Z) (λ _ h=>h) (aS4 bS hf) (by simpa using hr) I
        (OR hs gy r _ _ _ (by simpa using az) aX hK)
    · obtain ⟨k,gS⟩:∃ k,aS i=k+2:=⟨aS i - 2,by omega⟩
      simp only [h',gS,aRI,aSC] at aX;obtain ⟨hr,aX⟩:=aX;refine ⟨λ aH=>(by rw [hr] at aH;cases aH),λ j ay=> ?_⟩;rw [hr] at ay;obtain rfl:j=i:=by simpa using ay
      exact ⟨o,bS, .inr ⟨ar,λ w hw=>aTt (λ a' w' aw=>⟨aw.1,OR hs gy r _ _ _ (by simpa using az) aX aw.2⟩) (h w hw)⟩⟩
theorem aCp {id:Nat} {a:Act} {w:World} (bO:List Nat) (hm:P.follows .mixedOrders=true) (aX:(Region.noSelect ops && (bO.length == ops.size) && h' ops aS bO (Array.replicate ops.size false))=true)
    (h:Jg fY fZ P ops (gF (Q .normal)) aS bO a w):(Code.region id ops true).wp P Q a w:=by
  simp only [aRI,aSC] at aX;obtain ⟨⟨hs,az⟩,aX⟩:=aX;refine aWk (aUC hm (Q:=gF (Q .normal)) ?_) (λ e a w I=>by cases e<;>first | exact I | exact I.elim);have:=OR (P:=P) hs (Q:=gF (Q .normal)) (λ _ _ _ h=>h) bO (Array.replicate ops.size false) a w (by simp) aX h;rw [az] at this;exact G2 _ _ _ _ this _ (aR8 _ w).drew
end
section
variable {fY:Nat} {fZ:ax→Int} {P:Program} {n:Nat} {E cP:List (Nat×Value)} {a:Act} {w w' w0 aP:World} {Q:Exit→Act→World→Prop} {ops:Array Oper} {v:Value} {aS:Nat→Nat}
variable {d:Option Nat} {ty:TypeId} {pos:String} {af:Array Edge} {g:Option (Nat×Bool)} {x y z:Operand} {t:TypeId} {rest:List Oper} {bO:List Nat} {i:Nat}
def yJ (fY:Nat) (fZ:ax→Int) (P:Program) (n:Nat) (ops:Array Oper) (Q:Exit→Act→World→Prop) (aS:Nat→Nat) (bO:List Nat) (E:List (Nat×Value)) (w0:World):Prop:=∀ a,er n E a→Jg fY fZ P ops (gF (Q .normal)) aS bO a w0
theorem YQ {id:Nat} (fY:Nat) (fZ:ax→Int) (lC:List (Nat×Nat)) (bO:List Nat) (hm:P.follows .mixedOrders=true) (aX:(Region.noSelect ops && (bO.length == ops.size) && h' ops (nD lC) bO (Array.replicate ops.size false))=true)
    (h:yJ fY fZ P n ops Q (nD lC) bO E w):W P n (.region id ops true) Q E w:=λ a ha=>aCp bO hm aX (h a ha)
theorem Vv (h:∀ w,Ext w0 w→N n Q E w):yJ fY fZ P n ops Q aS [] E w0:=λ a ha w hw=>h w hw a ha
theorem CP {d:Nat} {op:Op} (aq:ops[i]? =some ⟨some d,op,ty,pos,af,none⟩) (ar:aS i=0) (hr:∀ w,pI fY fZ w0 w→cS P E ⟨some d,op,ty,pos,af,none⟩ w v w) (hd:Nat.blt d n=true)
    (h:yJ fY fZ P n ops Q aS bO ((d,v)::E) w0):yJ fY fZ P n ops Q aS (i::bO) E w0:=λ a ha =>
  ⟨_,aq, .inl ⟨ar,v, .inl ⟨ym rfl,λ w hw=>by rw [hr w hw n a ha];exact ⟨rfl,rfl⟩⟩,h _ (ha.put hd v)⟩⟩
theorem s6 {d:Nat} {op:Op} (aq:ops[i]? =some ⟨some d,op,ty,pos,af,none⟩) (ar:aS i=1) (hr:∀ w,cS P E ⟨some d,op,ty,pos,af,none⟩ w v w) (hd:Nat.blt d n=true)
    (h:yJ fY fZ P n ops Q aS bO ((d,v)::E) w0):yJ fY fZ P n ops Q aS (i::bO) E w0:=λ a ha =>
  ⟨_,aq, .inr (.inl ⟨ar,v, .inl ⟨ym rfl,λ w=>hr w n a ha⟩,h _ (ha.put hd v)⟩)⟩
theorem VB {o:Oper} (aK:o.guard=none) (aq:ops[i]? =some o) (ar:aS i=2) (h:∀ w,Ext w0 w→Cp P n ops o E w λ cP w'=>pI fY fZ w0 w'∧yJ fY fZ P n ops Q aS bO cP w'):yJ fY fZ P n ops Q aS (i::bO) E w0:=λ a ha =>
  ⟨_,aq, .inr (.inr ⟨by omega,λ w hw=>F1 aK aq (h w hw) (λ cP w' a' ar pW=>⟨λ _=>ar.1,ar.2 a' pW⟩) ha⟩)⟩
theorem Vm {o:Oper} (aK:o.guard=none) (aq:ops[i]? =some o) (ar:aS i=3) (h:∀ w,Ext w0 w→Cp P n ops o E w λ cP w'=>yJ fY fZ P n ops Q aS bO cP w'):yJ fY fZ P n ops Q aS (i::bO) E w0:=λ a ha =>
  ⟨_,aq, .inr (.inr ⟨by omega,λ w hw=>F1 aK aq (h w hw) (λ cP w' a' ar pW=>⟨λ aa=>by omega,ar a' pW⟩) ha⟩)⟩
end
end
section
theorem Yy {β:Type} {cur old part:List β} {p s j:Nat} (bS:old.length=s) (ay:j+part.length≤s) (hc:p+s≤cur.length) (h:∀ m,m<s→cur[p+m]? =old[m]?):
  cur.take p++(old.take j++part++old.drop (j+part.length))++cur.drop (p+(old.take j++part++old.drop (j+part.length)).length)=cur.take (p+j)++part++cur.drop (p+j+part.length):=by
 have az:(old.take j++part++old.drop (j+part.length)).length=s:=by simp only [aRH,aRE,aRV];omega
 rw [az];apply aTf;intro k;by_cases τ:k<p
 ·rw [aR9,aRX (by rw [aRE];omega),aR9,aRX (by rw [aRE];omega),aSl,aSl,aRP τ,aRP (by omega)]
 ·by_cases aa:k<p+s
  ·rw [aR9,aR0 (by rw [aRE];omega),aRX (by rw [az,aRE];omega),aRE];obtain ⟨m,rfl⟩:∃ m,k=p+m:=⟨k - p,by omega⟩;rw [show p+m - min p cur.length=m from by omega];by_cases aw:m<j
   ·rw [aR9,aRX (by rw [aRE];omega),aR9,aRX (by rw [aRE];omega),aSl,aSl,aRP aw,aRP (by omega),h m (by omega)]
   ·by_cases a1:m<j+part.length
    ·rw [aR9,aR0 (by rw [aRE];omega),aRX (by rw [aRE];omega),aR9,aR0 (by rw [aRE];omega),aRX (by rw [aRE];omega),aRE,aRE];congr 1;omega
    ·rw [aR0 (by simp only [aRH,aRE];omega),aSJ,aR0 (by simp only [aRH,aRE];omega),aSJ];simp only [aRH,aRE];rw [show p+j+part.length+(p+m - (min (p+j) cur.length+part.length))=p+m from by omega,h m (by omega)];congr 1;omega
  ·rw [aR0 (by simp only [aRH,aRE,aRV];omega),aSJ,aR0 (by simp only [aRH,aRE];omega),aSJ];simp only [aRH,aRE,aRV];congr 1;omega
section
variable {P:Program} {n:Nat} {E cP:List (Nat×Value)} {a:Act} {w w' w0 aP:World} {Q:Exit→Act→World→Prop} {ops:Array Oper} {v:Value}
variable {d:Option Nat} {ty:TypeId} {pos:String} {af:Array Edge} {g:Option (Nat×Bool)} {x y z:Operand} {t:TypeId} {rest:List Oper}
theorem aDa {α:Type} {R:κ α} {e by_ B i j:Nat} {A:Option Addr} {c:Nat} {l:List α} {q q':α} {p:Addr} {old part es:List Value} (h:R.aD e by_ w B (κ.ae A) A c l) (hR:R.sM) (aq:l[i]? =some q) (hold:∀ {w cs},R.has w cs q→cs=old) (hx:ev E x=some (.pointer (some p))) (hp:p=⟨e7 A,ld A+i * R.size+j,none⟩) (aL:ev E y=some v) (hc:v.cells=part.toArray)
  (ay:Nat.ble (j+part.length) R.size=true) (E_:es=old.take j++part++old.drop (j+part.length)) (I:∀ w,R.has w es q') (hs:eN P t part.length)
  (ar:∀ aP,Mod (κ.ae A) w aP→R.aD e by_ aP B (κ.ae A) A c (l.set i q')→cE P n ops Q rest E aP):cE P n ops Q (⟨none, .store t x y,ty,pos,af,none⟩::rest) E w:=by
 have HW:i<l.length:=(aRC.1 aq).1;obtain ⟨b,rfl⟩:=h.block (by omega);have LC:p=⟨b,i * R.size+j,none⟩:=by rw [hp];simp [e7,ld]
 subst LC;obtain ⟨_,ps,_,_,bS,_⟩:=id h;obtain ⟨cur,uN,_,_⟩:=bS.acN;obtain ⟨wh,hle⟩:=κ.aD.akL (q':=q') h hR HW I uN;obtain ⟨rH,MF,E2,fL⟩:=h.has.at_ (by omega);injection E2 with E2
 injection E2 with cT bx
 subst cT bx;obtain ⟨Hp,af6,jA⟩:=fL i q aq;obtain rfl:=hold af6;have awI:Hp.length=R.size:=R.len af6;have agp:es.length=R.size:=R.len (I w);have Lo:=aTK ay;have r0:∀ m,m<R.size→cur.toList[i * R.size+m]? =Hp[m]? :=λ m hm=>by
  have hu:Hp[m]? =some Hp[m]:=aRD (by omega);have:=jA m Hp[m] hu;rw [hu];simpa [World.cell?,uN] using this
 have axq:=Yy (cur:=cur.toList) (old:=Hp) (part:=part) (p:=i * R.size) (s:=R.size) (j:=j) awI Lo (by rw [agp] at hle;exact hle) r0;have o0:part.all (·.oneCell')=true:=aSr.2 λ u hu=>R.one (I w) u (by rw [E_];simp [hu]);have hP:=YW (P:=P) (w:=w) (b:=b) (p:=i * R.size+j) (cur:=cur.toList) (e:=e) (by simpa [aR] using uN) hc hs o0 (by rw [agp] at hle;omega);rw [← axq,← E_] at hP;refine us (λ n a ha=> ?_) (ar _ (Mod.setRow w b _) wh);simp only [execOp,ha.ev hx,ha.ev aL,Instr.storeAt,Instr.sureAddr,aRS,aRT,aRJ,hP]
end
end
section
section
variable {P:Program} {n:Nat} {E:List (Nat×Value)} {w w':World} {Q:Exit→Act→World→Prop} {ops:Array Oper} {ty:TypeId} {pos:String} {af:Array Edge} {rest:List Oper} {x y z:Operand} {t u:TypeId} {v iO:Value} {d:Option Nat} {g:Option (Nat×Bool)}
def Ce (P:Program) (w:World) (t:TypeId) (v:Value) (name:String) (f:FuncId) (iO:Value):Prop:=(Go.method (P.types.size+Made.depth) t v name).run P w= .ok (f,iO) w
theorem akC {f:FuncId} {name:String} (hf:Enters P f) {xs:Array Operand} {ts:Array TypeId} {args:List Value} {a:Act} (ha:er n E a) (hr:ev E x=some (.iface t v)) (he:hq E xs.toList=some args) (hm:Ce P w t v name f iO):
  (execOp a.eval ⟨d, .call {callee:= .invoke x name,args:=xs,argTypes:=ts},ty,pos,af,g⟩).run P w= .ok (.enter f (iO::args).toArray) w:=by
 obtain ⟨fn,τ,aa,aw⟩:=hf;have hx:xs.map a.eval=args.toArray:=by rw [← ha.hq he];apply aS8;simp
 unfold Ce at hm;have e0:(#[(Value.iface t v)]++args.toArray)[0]? =some (.iface t v):=by simp
 have a_:(#[(Value.iface t v)]++args.toArray).extract 1 (#[(Value.iface t v)]++args.toArray).size=args.toArray:=by simp
 have bj:#[iO]++args.toArray=(iO::args).toArray:=by simp
 have hp:Sem.run P program w= .ok P w:=rfl;simp only [execOp,resolve,hx,ha.ev hr,aRS,aRT,aRJ,invoke,e0,a_,callMethod,callFunc,hp,hm,τ,aa,aw,bj,aSq,aS0]
theorem hi {d:Nat} {f:FuncId} {name:String} (hf:Enters P f) {xs:Array Operand} {ts:Array TypeId} {args:List Value} (hr:ev E x=some (.iface t v)) (he:hq E xs.toList=some args) (hm:Ce P w t v name f iO) (hd:Nat.blt d n=true)
  (h:Calls P f (iO::args).toArray w λ e w'=>∃ v,e= .returned v∧cE P n ops Q rest ((d,v)::E) w'):cE P n ops Q (⟨some d, .call {callee:= .invoke x name,args:=xs,argTypes:=ts},ty,pos,af,none⟩::rest) E w:=λ a ha=>by
 refine Ev Z ?_;unfold Oper.wp;rw [akC hf ha hr he hm];refine aVw h λ e w' fC=> ?_;obtain ⟨v,rfl,h⟩:=fC;exact h _ (ha.put hd v)
theorem ahi {d:Nat} {f:FuncId} {name:String} {xs:Array Operand} {ts:Array TypeId} {args:List Value} {j:Nat} {q b c:Bool} {cR:Oper} {jJ:Nat} {v0:Value} (ay:ops[j]? =some cR) (nx:cR.dst=some jJ) (Φ:look E jJ=some (.bool b)) (hc:(b == q)=c)
  (hf:Enters P f) (hx:c=true→ev E x=some (.iface t v0)) (he:c=true→hq E xs.toList=some args) (hm:Ce P w t v0 name f iO) (hr:c=true→Calls P f (iO::args).toArray w λ e w'=>e= .returned v∧Ext w w') (hd:Nat.blt d n=true)
  (h:∀ w',Ext w w'→cE P n ops Q rest ((d,ia c v)::E) w'):cE P n ops Q (⟨some d, .call {callee:= .invoke x name,args:=xs,argTypes:=ts},ty,pos,af,some (j,q)⟩::rest) E w :=
 SJ (c:=c) (λ a ha=>by rw [DH (o:=⟨some d,_,ty,pos,af,some (j,q)⟩) rfl ay nx Φ ha,hc])
  (λ hc a ha=>by unfold Oper.wp;rw [akC hf ha (hx hc) (he hc) hm];exact (hr hc).mono λ e w' ⟨τ,axT⟩=>by subst τ;subst hc;exact h w' axT _ (ha.put hd v)) (λ hc a ha=>by subst hc;exact h w (Ext.bF w) _ (ha.put hd undef))
theorem Ro (hr:∀ w,(Instr.makeInterface t v).run P w= .ok (.iface t v) w) (hx:ev E x=some v):cS P E ⟨d, .makeInterface t x,ty,pos,af,g⟩ w (.iface t v) w:=λ n a ha=>by
 simp only [execOp,ha.ev hx,aRS,hr w,aRJ,aRT]
theorem als {t':TypeId} (hr:∀ w,(Instr.typeAssert (.iface t v) t' t false).run P w= .ok v w) (hx:ev E x=some (.iface t v)):cS P E ⟨d, .typeAssert x t' t false,ty,pos,af,g⟩ w v w:=λ n a ha=>by
 simp only [execOp,ha.ev hx,aRS,hr w,aRJ,aRT]
theorem zC {e:TypeId} {p:Addr} {name:String} {f:FuncId} (h:(Go.method (P.types.size+Made.depth) t (.pointer (some p)) name).run P w=(loadVar e p >>= λ x=>pure (f,x)).run P w) (az:lr P w e p v):Ce P w t (.pointer (some p)) name f v:=by
 unfold Ce;unfold lr at az;rw [h];simp only [aRS,az,aRJ,aRT]
end
end
section
namespace cr
section
variable {α:Type} [Inhabited α] {key:α→Int} {lm l:List α} {m N n:Nat}
theorem aEi (h:(((((m - 1) / 2:Nat):Int)== (m:Int)) || !decide (key (lm.getD m default)<key (lm.getD ((m - 1) / 2) default)))=true):qj key lm m=lm:=by
 unfold qj;rw [aRL];rintro ⟨τ,aa⟩;simp only [aSp,aSC,aSE,aSg] at h;rcases h with h | h
 ·omega
 ·exact h aa
theorem aEj (h:(((((m - 1) / 2:Nat):Int)== (m:Int)) || !decide (key (lm.getD m default)<key (lm.getD ((m - 1) / 2) default)))=false):0<m∧qj key lm m=qj key (swp lm ((m - 1) / 2) m) ((m - 1) / 2):=by
 simp only [aSn,aTX,aS7,aR6] at h;have hm:0<m:=by
  rcases aUn m with aH | aH
  ·subst aH;exact absurd Z h.1
  ·exact aH
 refine ⟨hm, ?_⟩
 conv=>lhs;unfold qj
 rw [aRP ⟨hm,h.2⟩]
theorem ary (h:(decide ((N:Int)≤2 * (m:Int)+1) || decide (2 * (m:Int)+1<0))=true):j5 key N l m=l:=by
 unfold j5;rw [aRL];simp only [aSp,aR6] at h;omega
theorem arz (h:(decide ((N:Int)≤2 * (m:Int)+1) || decide (2 * (m:Int)+1<0))=false):2 * m+1<N:=by
 simp only [aSn,aSg] at h;omega
theorem azv (h:(decide (2 * (m:Int)+1+1<(N:Int)) && decide (key (l.getD (2 * m+1+1) default)<key (l.getD (2 * m+1) default)))=true):od key N l m=2 * m+2:=by
 simp only [aRI,aR6] at h;unfold od;rw [aRP ⟨by omega,h.2⟩]
theorem azt {q:Bool} (h:(decide (2 * (m:Int)+1+1<(N:Int)) && q)=true):2 * m+2<N:=by
 simp only [aRI,aR6] at h;omega
theorem azu (h:(decide (2 * (m:Int)+1+1<(N:Int)) && decide (key (l.getD (2 * m+1+1) default)<key (l.getD (2 * m+1) default)))=false):od key N l m=2 * m+1:=by
 unfold od;rw [aRL];rintro ⟨τ,aa⟩;rw [aSe (show 2 * (m:Int)+1+1<(N:Int) by omega),aSe (show key (l.getD (2 * m+1+1) default)<key (l.getD (2 * m+1) default) from aa)] at h;cases h
theorem adL {j:Nat} (τ:2 * m+1<N) (az:od key N l m=j) (h:(!decide (key (l.getD j default)<key (l.getD m default)))=true):j5 key N l m=l:=by
 unfold j5;rw [aRL];rw [az];rintro ⟨_,aa⟩;rw [aSe aa] at h;cases h
theorem adM {j:Nat} (τ:2 * m+1<N) (az:od key N l m=j) (h:(!decide (key (l.getD j default)<key (l.getD m default)))=false):j5 key N l m=j5 key N (swp l m j) j:=by
 conv=>lhs;unfold j5
 rw [az,aRP ⟨τ,by simpa using h⟩]
end
end cr
theorem aDF (m:Nat):Int.tdiv ((m:Int) - 1) 2=(((m - 1) / 2:Nat):Int):=by
 cases m with
 | zero=>rfl
 | succ m =>
  rw [show ((m+1:Nat):Int) - 1=(m:Int) by omega,aVN (by omega)];simp
section
variable {P:Program} {n:Nat} {E:List (Nat×Value)} {w:World} {ty:TypeId} {pos:String} {af:Array Edge} {x y:Operand} {t u:TypeId} {d:Option Nat} {g:Option (Nat×Bool)}
theorem apz {k:IntKind} {i j r:Int} (hx:ev E x=some (.int k i)) (aL:ev E y=some (.int k j)) (τ:j≠0) (hr:Int.tdiv i j=r) (hw:k.wrap r=r):cS P E ⟨d, .binOp .quo t x y u,ty,pos,af,g⟩ w (.int k r) w:=pa hx aL (binOp_quo t k i j) (by
 subst hr;have:Op.intDiv .quo k i j=pure (.int k (Int.tdiv i j)):=by simp [Op.intDiv,τ,hw]
 rw [this];rfl)
end
end
section
theorem aos:eC prog cc.rep 263 313 32:=eC.kT (z:=cc.zero) (k:=4) underlying263 cc.info rfl rfl (by decide) cc.h8
theorem E7 {w:World} {cs:List Value} {a:cc} (h:cc.rep.has w cs a):cs=a.cells:=aTI (show cs=a.cells∧a.ok from h)
theorem Nz (A:Option Addr) (n c:Nat) (w:World):
  Calls prog 219 #[.slice A n c] w (λ e w'=>e= .returned (.int .i64 (n:Int))∧Ext w w'):=by
 refine ch (n:=5) func219 Z Z Z ?_;refine aj<|va Z<|ai<|aj<|vm Z<|J (cA underlying263 Z)<|va Z<|ai<|rt<|bb (.tmp Z .nil)<| ?_;exact ⟨Z,(Ext.bF w)⟩
theorem SR (A:Option Addr) (n c:Nat) (l:List cc) (i j:Int) (p q:Nat) (w:World) (az:cc.rep.aJ 32 w A c l) (hn:l.length=n) (aq:i=(p:Int)) (ay:j=(q:Int)) (hp:p<n) (I:q<n):
  Calls prog 265 #[.slice A n c, .int .i64 i, .int .i64 j] w (λ e w'=>e= .returned (.bool (decide ((l.getD p default).all<(l.getD q default).all)))∧Ext w w'):=by
 refine ch (n:=18) func265 Z Z Z ?_;refine aj<|va Z<|ai<|aA<| ?_;refine rd [(4,0),(9,0)] [0,1,2,3,4,5,6,7,8,9,10,11] (by kernel_rfl) (by kernel_rfl) ?_;refine au Z (λ _=>aM Z)<|au Z (λ _=>aM Z)<|au Z (λ _=>b' i.toNat underlying263 oS Z Z ((az.keep (Ext.bF w)).bR (ba i.toNat)) (by omega) (by omega))<|au Z (λ _=>av PQ Z)<|bH Z (λ _ x=>ao Z (κ.aJ.j7 E7 ((az.keep (γ (Ext.bF w) x)).cu (ba i.toNat)) 3 (dv (l:=l) (u:=default) (by omega)) Z bc))<|au Z (λ _=>aM Z)<|au Z (λ _=>aM Z)<|au Z (λ _=>b' j.toNat underlying263 oS Z Z ((az.keep (Ext.bF w)).bR (ba j.toNat)) (by omega) (by omega))<|au Z (λ _=>av PQ Z)<|bH Z (λ _ x=>ao Z (κ.aJ.j7 E7 ((az.keep (γ (Ext.bF w) x)).cu (ba j.toNat)) 3 (dv (l:=l) (u:=default) (by omega)) Z bc))<|au Z (λ _=>blt Z Z)<|au Z (λ _=>fg Z)<|fn λ cv eA=> ?_;have:=eA.size;have bg:=γ (Ext.bF w) eA;refine aV<|rt<|bb (.tmp Z .nil)<| ?_;subst aq ay;exact ⟨by simp only [aSy];rfl,bg⟩
theorem SS (A:Option Addr) (n c aC:Nat) (l:List cc) (i j:Int) (p q:Nat) (w:World) (aT:cc.rep.aD 313 32 w aC (κ.ae A) A c (l)) (eh:∀ y∈l,y.ok) (hn:l.length=n) (aq:i=(p:Int)) (ay:j=(q:Int)) (hp:p<n) (I:q<n):
  Calls prog 266 #[.slice A n c, .int .i64 i, .int .i64 j] w (λ e w'=>e= .returned (.tuple #[])∧cc.rep.aD 313 32 w' aC (κ.ae A) A c (cr.swp l p q)∧Mod (κ.ae A) w w'):=by
 have Dv:=λ q I=>(aT.lt q I).2;refine ch (n:=20) func266 Z Z Z ?_;refine rd [(7,0),(11,0),(13,3),(15,3)] [0,1,2,3,4,5,6,7,8,9,10,11,12,13,14,15] (by kernel_rfl) (by kernel_rfl) ?_;refine au Z (λ _=>aM Z)<|au Z (λ _=>aM Z)<|au Z (λ _=>aM Z)<|au Z (λ _=>aM Z)<|au Z (λ _=>aM Z)<|au Z (λ _=>aM Z)<|au Z (λ _=>b' j.toNat underlying263 oS Z Z (aT.has.bR (ba j.toNat (by first | omega | (rw [aRK];omega)))) (by omega) (by first | omega | (rw [aRK];omega)))<|bH Z (λ _ x=>ao Z (κ.aJ.ho E7 ((aT.later x).has.cu (ba j.toNat (by first | omega | (rw [aRK];omega)))) (dv (l:=l) (u:=default) (by first | omega | (rw [aRK];omega))) Px oS))<|au Z (λ _=>aM Z)<|au Z (λ _=>aM Z)<|au Z (λ _=>b' i.toNat underlying263 oS Z Z (aT.has.bR (ba i.toNat (by first | omega | (rw [aRK];omega)))) (by omega) (by first | omega | (rw [aRK];omega)))<|bH Z (λ _ x=>ao Z (κ.aJ.ho E7 ((aT.later x).has.cu (ba i.toNat (by first | omega | (rw [aRK];omega)))) (dv (l:=l) (u:=default) (by first | omega | (rw [aRK];omega))) Px oS))<|au Z (λ _=>b' i.toNat underlying263 oS Z Z (aT.has.bR (ba i.toNat (by first | omega | (rw [aRK];omega)))) (by omega) (by first | omega | (rw [aRK];omega)))<|eP Z Z Z λ cv eA Q hK=>IQ (q':=l.getD j.toNat default) (i:=i.toNat) (es:= [.int .i64 ((l.getD j.toNat default).cell.x), .int .i64 ((l.getD j.toNat default).cell.y), .int .i64 ((l.getD j.toNat default).a8), .int .i64 ((l.getD j.toNat default).all)]) (aT.later eA) κ.di (by first | omega | (rw [aRK];omega)) Z Z Z Z (λ _=>⟨Z,(eh _ (ih (by omega)))⟩) oS λ al7 Is J7=>hK _ _ ?_;have:=eA.size;have bg:=(Mod.bF (κ.ae A) w).trans (Mod.bC eA);have:=Is.size;have NO:=bg.md Is (λ q I=> .inl I);refine au Z (λ _=>b' j.toNat underlying263 oS Z Z (J7.has.bR (ba j.toNat (by first | omega | (rw [aRK];omega)))) (by omega) (by first | omega | (rw [aRK];omega)))<|eP Z Z Z λ vg bl Q hK=>IQ (q':=l.getD i.toNat default) (i:=j.toNat) (es:= [.int .i64 ((l.getD i.toNat default).cell.x), .int .i64 ((l.getD i.toNat default).cell.y), .int .i64 ((l.getD i.toNat default).a8), .int .i64 ((l.getD i.toNat default).all)]) (J7.later bl) κ.di (by first | omega | (rw [aRK];omega)) Z Z Z Z (λ _=>⟨Z,(eh _ (ih (by omega)))⟩) oS λ tK Bm Ep=>hK _ _ ?_;have:=bl.size;have jY:=NO.trans (Mod.bC bl);have:=Bm.size;have jj:=jY.md Bm (λ q I=> .inl I);refine fn λ Nh l8=> ?_;have:=l8.size;have tW:=jj.trans (Mod.bC l8);refine ne<|bb .nil<| ?_;have Ep:=Ep.later l8;subst aq ay;simp only [aSy] at Ep;exact ⟨Z,Ep,tW⟩
theorem aFl (b:Nat) (A:Option Addr) (n c aC:Nat) (l:List cc) (v0 v1 v2 v3 v4 v5:Value) (j:Nat) (w:World) (aN:aR w b [v0,v1,v2,v3,v4,v5, .slice A n c] 265 (0,0)) (aT:cc.rep.aD 313 32 w aC (κ.ae A) A c (l)) (eh:∀ y∈l,y.ok) (hn:l.length=n) (hd:∀ q∈κ.ae A,q=b→False) (ay:j<n):
  Calls prog 239 #[.iface 311 (.pointer (some ⟨b,6,none⟩)), .int .i64 (j:Int)] w (λ e w'=>e= .returned (.tuple #[])∧aR w' b [v0,v1,v2,v3,v4,v5, .slice A n c] 265 (0,0)∧cc.rep.aD 313 32 w' aC (κ.ae A) A c (cr.qj cc.all l j)∧Mod (κ.ae A) w w'):=by
 have Dv:=λ q I=>(aT.lt q I).2;have yb:=aN.lt;have Lu:=aT.has.2.1;have C4:=aT.has.ez;have Lv:=aT.has.1;refine ch (n:=23) func239 Z Z Z ?_;refine bM<| ?_;refine e8 (λ cm cl aU=>∃ lm:List cc,∃ m:Nat,cl= [(0, .iface 311 (.pointer (some ⟨b,6,none⟩))),(1, .int .i64 (m:Int))]∧cm=(2 * m)∧Mod (κ.ae A) w aU∧aR aU b [v0,v1,v2,v3,v4,v5, .slice A n c] 265 (0,0)∧cc.rep.aD 313 32 aU aC (κ.ae A) A c (lm)∧(m<n)∧(lm.length=n)∧(∀ y∈lm,y.ok)∧(cr.qj cc.all lm m=cr.qj cc.all l j)∧(∀ q∈κ.ae A,q=b→False)) _ _ ⟨l,j,Z,Z,(Mod.bF (κ.ae A) w),aN,aT,by omega,by omega,eh,rfl,(λ q I Φ=>by (exact hd q I Φ))⟩ (wI Z) ?_;rintro X8 Tl lg ⟨lm,m,rfl,rfl,eB,aN,jn,hm,awH,Fh,mQ,EB⟩;have:=eB.size;have aB5:=aN.lt;have alI:=λ q I=>(jn.lt q I).2;refine bM<|aj<|vm Z<|J (mm Z Z (bE (by omega)))<|J (apz (r:=(((m - 1) / 2:Nat):Int)) Z Z (by decide) (aDF m) (bE (by omega)))<|va Z<|ai<|aA<|aj<|vm Z<|vm Z<|J (beq Z Z)<|vm Z<|bp Z Z Z Z (λ hc=>aM Z) Z<|bp Z Z Z Z (λ hc=>aM Z) Z<|bp Z Z Z Z (λ hc=>aM Z) Z<|ahi Z Z Z Z PB (λ hc=>(gt hc Z)) (λ hc=>h1 (gt hc Z) (h1 (gt hc Z) Z)) (zC (e:= 263) (by kernel_rfl) (aN.one pO Z)) (λ hc=>SR _ _ _ lm (m:Int) ((((m - 1) / 2:Nat):Int)) m ((m - 1) / 2) _ jn.has (by omega) (by omega) (by omega) (by first | omega | (simp only [cC] at hc;omega)) (by first | omega | (simp only [cC] at hc;omega))) Z λ eK cG=> ?_;have:=cG.size;have bQ:=eB.trans (Mod.bC cG);refine bp Z Z Z Z (λ hc=>dZ (gt hc Z)) Z<|J (fv Z Z Z Z)<|ai<| ?_;refine dJ Z (λ kL=> ?_) (λ kL=> ?_)
 ·have hex:=cr.aEi (key:=cc.all) kL;rw [hex] at mQ;refine dH<|dG<|Ny Z<|ef<|dF<|ne<|bb .nil<| ?_;have jn:=jn.later cG;have aN:=aN.later cG;exact ⟨Z,aN,by rw [← mQ];exact jn,bQ⟩
 ·obtain ⟨A',we⟩:=cr.aEj (key:=cc.all) kL;refine bt<|aj<|vm Z<|vm Z<|vm Z<| ?_;have aN:=aN.later cG;have jn:=jn.later cG;refine hi PC Z Z (zC (e:= 263) (by kernel_rfl) (aN.one pO Z)) Z ((SS _ _ _ _ lm ((((m - 1) / 2:Nat):Int)) (m:Int) ((m - 1) / 2) m _ jn Fh (by omega) (by omega) (by omega) (by omega) (by omega)).mono ?_);rintro e I6 ⟨rfl,aoe,Dd⟩;refine ⟨_,Z, ?_⟩;have:=Dd.size;have wT:=bQ.md Dd (λ q I=> .inl I);have aw2:∀ y∈cr.swp lm ((m - 1) / 2) m,y.ok:=λ y aL=>Fh y ((cr.Dt (by omega) (by omega)).subset aL);have awz:(cr.swp lm ((m - 1) / 2) m).length=n:=by rw [cr.mv];omega
  refine ai<|rg<|vm Z<|va Z<|nl<|b0<| ?_;have aN:=aN.mod Dd (λ I=>EB _ I rfl);exact c6 _ _ ⟨cr.swp lm ((m - 1) / 2) m,(m - 1) / 2,Z,Z,wT,aN,aoe,by omega,awz,aw2,we.symm.trans mQ,(λ q I Φ=>by (exact EB q I Φ))⟩ (by omega) (.cons Z (.cons (bZ Z (by first | omega | rfl | (simp<;>omega))) .nil))
theorem aFg (b:Nat) (A:Option Addr) (n c aC:Nat) (l:List cc) (v0 v1 v2 v3 v4 v5:Value) (i N:Nat) (w:World) (aN:aR w b [v0,v1,v2,v3,v4,v5, .slice A n c] 265 (0,0)) (aT:cc.rep.aD 313 32 w aC (κ.ae A) A c (l)) (eh:∀ y∈l,y.ok) (hn:l.length=n) (hd:∀ q∈κ.ae A,q=b→False) (aq:i<n) (auY:N≤n) (Qp:n≤1000000):
  Calls prog 240 #[.iface 311 (.pointer (some ⟨b,6,none⟩)), .int .i64 (i:Int), .int .i64 (N:Int)] w (λ e w'=>(∃ v,e= .returned (.bool v))∧aR w' b [v0,v1,v2,v3,v4,v5, .slice A n c] 265 (0,0)∧cc.rep.aD 313 32 w' aC (κ.ae A) A c (cr.j5 cc.all N l i)∧Mod (κ.ae A) w w'):=by
 have Dv:=λ q I=>(aT.lt q I).2;have yb:=aN.lt;have Lu:=aT.has.2.1;have C4:=aT.has.ez;have Lv:=aT.has.1;refine ch (n:=48) func240 Z Z Z ?_;refine aj<|va Z<|ai<|aj<|vm Z<|va Z<|ai<|aA<|bM<| ?_;refine e8 (λ cm cl aU=>∃ lm:List cc,∃ m:Nat,cl= [(0, .iface 311 (.pointer (some ⟨b,6,none⟩))),(1, .int .i64 (i:Int)),(2, .int .i64 (N:Int)),(6, .bool false),(7, .int .i64 (m:Int))]∧cm=N - m∧Mod (κ.ae A) w aU∧aR aU b [v0,v1,v2,v3,v4,v5, .slice A n c] 265 (0,0)∧cc.rep.aD 313 32 aU aC (κ.ae A) A c (lm)∧(m<n)∧(lm.length=n)∧(∀ y∈lm,y.ok)∧(cr.j5 cc.all N lm m=cr.j5 cc.all N l i)∧(∀ q∈κ.ae A,q=b→False)) _ _ ⟨l,i,Z,Z,(Mod.bF (κ.ae A) w),aN,aT,by omega,by omega,eh,rfl,(λ q I Φ=>by (exact hd q I Φ))⟩ (wI Z) ?_;rintro X8 Tl lg ⟨lm,m,rfl,rfl,eB,aN,jn,hm,awH,Fh,mQ,EB⟩;have:=eB.size;have aB5:=aN.lt;have alI:=λ q I=>(jn.lt q I).2;refine bM<|aj<|vm Z<|J (Cx Z Z (bE (by omega)))<|J (bad Z Z (bE (by omega)))<|va Z<|ai<|aA<|aj<|vm Z<|vm Z<|J (j4 Z Z)<|vm Z<|bp Z Z Z Z (λ hc=>aM Z) Z<|bp Z Z Z Z (λ hc=>blt (gt hc Z) Z) Z<|J (fv Z Z Z Z)<|ai<| ?_;refine dJ Z (λ qT=> ?_) (λ qT=> ?_)
 ·have hex:=cr.ary (key:=cc.all) (l:=lm) qT;rw [hex] at mQ;refine dH<|dG<|Ny Z<|ef<|dF<|aV<|aj<|vm Z<|vm Z<|J (iw Z Z)<|va Z<|ai<|rt<|bb (.tmp Z .nil)<| ?_
  skip
  exact ⟨⟨_,Z⟩,aN,by rw [← mQ];exact jn,eB⟩
 ·have td:=cr.arz qT;refine bt<|aj<|vm Z<|va Z<|ai<|aA<|aj<|vm Z<|J (bad Z Z (bE (by omega)))<|va Z<|ai<|aj<|vm Z<|vm Z<|J (blt Z Z)<|vm Z<|bp Z Z Z Z (λ hc=>aM Z) Z<|bp Z Z Z Z (λ hc=>aM Z) Z<| ?_;refine bp Z Z Z Z (λ hc=>aM Z) Z<|ahi Z Z Z Z PB (λ hc=>(gt hc Z)) (λ hc=>h1 (gt hc Z) (h1 (gt hc Z) Z)) (zC (e:= 263) (by kernel_rfl) (aN.one pO Z)) (λ hc=>SR _ _ _ lm (((2 * (m:Int))+1)+1) ((2 * (m:Int))+1) (((2 * m)+1)+1) ((2 * m)+1) _ jn.has (by omega) (by omega) (by omega) (by first | omega | (simp only [cC] at hc;omega)) (by first | omega | (simp only [cC] at hc;omega))) Z λ vg bl=> ?_;have:=bl.size;have jY:=eB.trans (Mod.bC bl);refine J (e3 Z Z Z Z)<|ai<| ?_;refine dJ Z (λ qQ=> ?_) (λ qQ=> ?_)
  ·have jb:=cr.azv (key:=cc.all) (l:=lm) (m:=m) qQ;have afN:=cr.azt qQ;refine rg<|vm Z<|va Z<|ai<|aA<|aj<|vm Z<|vm Z<|vm Z<| ?_;have aN:=aN.later bl;have jn:=jn.later bl;refine hi PB Z Z (zC (e:= 263) (by kernel_rfl) (aN.one pO Z)) Z ((SR _ _ _ lm (((2 * (m:Int))+1)+1) (m:Int) (((2 * m)+1)+1) m _ jn.has (by omega) (by omega) (by omega) (by first | omega | (simp only [cC] at hc;omega)) (by first | omega | (simp only [cC] at hc;omega))).mono ?_);rintro e zU ⟨rfl,kY⟩;refine ⟨_,Z, ?_⟩;have:=kY.size;have iU:=jY.trans (Mod.bC kY);refine J (dZ Z)<|ai<| ?_;refine dJ Z (λ pU=> ?_) (λ pU=> ?_)
   ·have hex:=cr.adL (key:=cc.all) td jb pU;rw [hex] at mQ;refine dH<|dG<|Ny Z<|ef<|dF<|aV<|aj<|vm Z<|vm Z<|J (iw Z Z)<|va Z<|ai<|rt<|bb (.tmp Z .nil)<| ?_
    skip
    have jn:=jn.later kY;have aN:=aN.later kY;exact ⟨⟨_,Z⟩,aN,by rw [← mQ];exact jn,iU⟩
   ·have we:=cr.adM (key:=cc.all) td jb pU;refine bt<|aj<|vm Z<|vm Z<|vm Z<| ?_;have aN:=aN.later kY;have jn:=jn.later kY;refine hi PC Z Z (zC (e:= 263) (by kernel_rfl) (aN.one pO Z)) Z ((SS _ _ _ _ lm (m:Int) (((2 * (m:Int))+1)+1) m (((2 * m)+1)+1) _ jn Fh (by omega) (by omega) (by omega) (by omega) (by omega)).mono ?_);rintro e F7 ⟨rfl,yU,FD⟩;refine ⟨_,Z, ?_⟩;have:=FD.size;have sF:=iU.md FD (λ q I=> .inl I);have aw3:∀ y∈cr.swp lm m (((2 * m)+1)+1),y.ok:=λ y aL=>Fh y ((cr.Dt (by omega) (by omega)).subset aL);have awA:(cr.swp lm m (((2 * m)+1)+1)).length=n:=by rw [cr.mv];omega
    refine ai<|rg<|vm Z<|va Z<|nl<|b0<| ?_;have aN:=aN.mod FD (λ I=>EB _ I rfl);exact c6 _ _ ⟨cr.swp lm m (((2 * m)+1)+1),2 * m+2,Z,Z,sF,aN,yU,by omega,awA,aw3,we.symm.trans mQ,(λ q I Φ=>by (exact EB q I Φ))⟩ (by omega) (.cons Z (.cons Z (.cons Z (.cons Z (.cons (bZ Z (by first | omega | rfl | (simp<;>omega))) .nil)))))
  ·have jb:=cr.azu (key:=cc.all) (l:=lm) (m:=m) qQ;refine bt<|aA<|aj<|vm Z<|vm Z<|vm Z<| ?_;have aN:=aN.later bl;have jn:=jn.later bl;refine hi PB Z Z (zC (e:= 263) (by kernel_rfl) (aN.one pO Z)) Z ((SR _ _ _ lm ((2 * (m:Int))+1) (m:Int) ((2 * m)+1) m _ jn.has (by omega) (by omega) (by omega) (by first | omega | (simp only [cC] at hc;omega)) (by first | omega | (simp only [cC] at hc;omega))).mono ?_);rintro e BH ⟨rfl,kZ⟩;refine ⟨_,Z, ?_⟩;have:=kZ.size;have ma:=jY.trans (Mod.bC kZ);refine J (dZ Z)<|ai<| ?_;refine dJ Z (λ We=> ?_) (λ We=> ?_)
   ·have hex:=cr.adL (key:=cc.all) td jb We;rw [hex] at mQ;refine dH<|dG<|Ny Z<|ef<|dF<|aV<|aj<|vm Z<|vm Z<|J (iw Z Z)<|va Z<|ai<|rt<|bb (.tmp Z .nil)<| ?_
    skip
    have jn:=jn.later kZ;have aN:=aN.later kZ;exact ⟨⟨_,Z⟩,aN,by rw [← mQ];exact jn,ma⟩
   ·have we:=cr.adM (key:=cc.all) td jb We;refine bt<|aj<|vm Z<|vm Z<|vm Z<| ?_;have aN:=aN.later kZ;have jn:=jn.later kZ;refine hi PC Z Z (zC (e:= 263) (by kernel_rfl) (aN.one pO Z)) Z ((SS _ _ _ _ lm (m:Int) ((2 * (m:Int))+1) m ((2 * m)+1) _ jn Fh (by omega) (by omega) (by omega) (by omega) (by omega)).mono ?_);rintro e Sy ⟨rfl,uk,FF⟩;refine ⟨_,Z, ?_⟩;have:=FF.size;have z1:=ma.md FF (λ q I=> .inl I);have aw4:∀ y∈cr.swp lm m ((2 * m)+1),y.ok:=λ y aL=>Fh y ((cr.Dt (by omega) (by omega)).subset aL);have awB:(cr.swp lm m ((2 * m)+1)).length=n:=by rw [cr.mv];omega
    refine ai<|rg<|vm Z<|va Z<|nl<|b0<| ?_;have aN:=aN.mod FF (λ I=>EB _ I rfl);exact c6 _ _ ⟨cr.swp lm m ((2 * m)+1),2 * m+1,Z,Z,z1,aN,uk,by omega,awB,aw4,we.symm.trans mQ,(λ q I Φ=>by (exact EB q I Φ))⟩ (by omega) (.cons Z (.cons Z (.cons Z (.cons Z (.cons (bZ Z (by first | omega | rfl | (simp<;>omega))) .nil)))))
theorem aFk (b:Nat) (A:Option Addr) (c aC:Nat) (l:List cc) (v0 v1 v2 v3 v4 v5:Value) (x:cc) (w:World) (aN:aR w b [v0,v1,v2,v3,v4,v5, .slice A l.length c] 265 (0,0)) (aT:cc.rep.aD 313 32 w aC (κ.ae A) A c (l)) (eh:∀ y∈l,y.ok) (hd:∀ q∈κ.ae A,q=b→False) (hx:x.ok) (Qp:l.length≤1000000) (s9:aC≤w.heap.size):
  Calls prog 268 #[.pointer (some ⟨b,6,none⟩), .iface 313 (.agg #[.int .i64 x.cell.x, .int .i64 x.cell.y, .int .i64 x.a8, .int .i64 x.all])] w (λ e w'=>∃ bG b4,e= .returned (.tuple #[])∧aR w' b [v0,v1,v2,v3,v4,v5, .slice bG (l++ [x]).length b4] 265 (0,0)∧cc.rep.aD 313 32 w' aC (κ.ae bG) bG b4 (l++ [x])∧(∀ q∈κ.ae bG,q∈κ.ae A∨w.heap.size≤q)∧Mod (b::κ.ae A) w w'):=by
 have Dv:=λ q I=>(aT.lt q I).2;have yb:=aN.lt;have Lu:=aT.has.2.1;have C4:=aT.has.ez;have Lv:=aT.has.1;refine ch (n:=13) func268 Z Z Z ?_;refine rd [(3,0),(6,2),(7,3),(9,3)] [0,1,2,3,4,5,6,7,8,9] (by kernel_rfl) (by kernel_rfl) ?_;refine au Z (λ _=>aM Z)<|au Z (λ _=>aM Z)<|au Z (λ _=>b3 Z)<|bH Z (λ _ x=>ao Z ((aN.later x).one pO Z))<|au Z (λ _=>aM Z)<|au Z (λ _=>als (λ w=>by kernel_rfl) Z)<|gm Z Z Z λ cv eA Q hK=>cX (e:= 313) (cs:= [.int .i64 x.cell.x, .int .i64 x.cell.y, .int .i64 x.a8, .int .i64 x.all]) Z (λ _=>by kernel_rfl) Z λ al7 aIi nU aMu aaK=>hK _ _ ⟨γ eA nU, ?_⟩;have:=eA.size;have bg:=(Mod.bF (b::κ.ae A) w).trans (Mod.bC eA);have:=nU.size;have NO:=bg.trans (Mod.bC nU);have aOb:=aaK.lt;have aT:=aT.later (γ eA nU);refine eP Z Z Z λ tK lJ Q hK=>ap aos κ.di (aT.later lJ) ((aR.gB (R:=cc.rep) (by_:=32) (q:=x) aaK ⟨Z,hx⟩ (by decide)).keep lJ) Z Z (by simp only [aRG,aRM];omega) (by simp only [aRG,aRM];omega) (by have:=lJ.size;omega) Z λ zU aac mK FC yU ae0 aND=>hK _ _ ?_;have:=lJ.size;have jj:=NO.trans (Mod.bC lJ);have:=FC.size;have iU:=jj.md FC (λ q I=> .inl (aRQ _ I));have alF:=λ q I=>(yU.lt q I).2;have:=FC.size;refine au Z (λ _=>b3 Z)<| ?_;have aN:=aN.later (γ eA (γ nU lJ));have aN:=aN.mod FC (λ I=>hd _ I rfl);refine eP Z Z Z λ ve gV Q hK=>st (new:= [v0,v1,v2,v3,v4,v5, .slice aac ((l++ [x]).length) mK]) Z Z (aN.later gV) Z ad2 Z Z Z λ BI hj aN=>hK _ _ ?_;have:=gV.size;have lM:=iU.trans (Mod.bC gV);have:=hj.size;have qu:=lM.md hj (λ q I=> .inl (by rw [aRz.1 I];exact aRZ));refine fn λ tN dc=> ?_;have:=dc.size;have iG:=qu.trans (Mod.bC dc);refine ne<|bb .nil<| ?_;have yU:=yU.later gV;have yU:=yU.mod hj (λ q I h=>by have Φ:=aRz.1 h;exfalso;(exact aRO (ae0 q I) (λ aik=>by (exact hd q aik Φ)) (λ aik=>by omega)));have yU:=yU.later dc;have aN:=aN.later dc;exact ⟨aac,mK,Z,aN,yU,(λ q I=>(ae0 q I).imp id λ h=>by omega),iG⟩
theorem aFj (b:Nat) (A:Option Addr) (n c aC:Nat) (l:List cc) (v0 v1 v2 v3 v4 v5:Value) (w:World) (aN:aR w b [v0,v1,v2,v3,v4,v5, .slice A n c] 265 (0,0)) (aT:cc.rep.aD 313 32 w aC (κ.ae A) A c (l)) (eh:∀ y∈l,y.ok) (hn:l.length=n) (hd:∀ q∈κ.ae A,q=b→False) (aH:0<n):
  Calls prog 267 #[.pointer (some ⟨b,6,none⟩)] w (λ e w'=>e= .returned (.iface 313 (.agg ((l.getD (n - 1) default).cells).toArray))∧aR w' b [v0,v1,v2,v3,v4,v5, .slice A (n - 1) c] 265 (0,0)∧cc.rep.aD 313 32 w' aC (κ.ae A) A c (l.take (n - 1))∧Mod (b::κ.ae A) w w'):=by
 have Dv:=λ q I=>(aT.lt q I).2;have yb:=aN.lt;have Lu:=aT.has.2.1;have C4:=aT.has.ez;have Lv:=aT.has.1;refine ch (n:=23) func267 Z Z Z ?_;refine aj<|va Z<|ai<|aj<|vm Z<|J (b3 Z)<|J (ao Z (aN.one pO Z))<|va Z<|ai<|aj<|vm Z<|vm Z<|J (cA underlying263 Z)<|J (mm Z Z (bE (by omega)))<|J (b' (((n:Int) - 1).toNat) underlying263 oS Z Z (aT.has.bR (ba (((n:Int) - 1).toNat))) (by omega) (by omega))<|J (ao Z (κ.aJ.ho E7 (aT.has.cu (ba (((n:Int) - 1).toNat))) (dv (l:=l) (u:=default) (by omega)) Px oS))<|al Z ad5 Z Z λ cv bJ a7 ee ab=> ?_;have:=a7.size;have bg:=(Mod.bF (b::κ.ae A) w).trans (Mod.bC a7);have ei:=ab.lt;refine st (new:= [.int .i64 ((l.getD (((n:Int) - 1).toNat) default).cell.x), .int .i64 ((l.getD (((n:Int) - 1).toNat) default).cell.y), .int .i64 ((l.getD (((n:Int) - 1).toNat) default).a8), .int .i64 ((l.getD (((n:Int) - 1).toNat) default).all)]) Z Z ab Z oS Z Z Z λ eK FH ab=> ?_;have:=FH.size;have bQ:=bg.md FH (λ q I=> .inr (by have:=aRz.1 I;omega));refine ai<|aj<|vm Z<|vm Z<|vm Z<|J (cA underlying263 Z)<|J (mm Z Z (bE (by omega)))<|J (RT (n - 1) (n - 1) underlying263 oS Z Z (by omega) (by omega) Z)<|J (b3 Z)<| ?_;have aN:=aN.later a7;have aN:=aN.mod FH aO;refine st (new:= [v0,v1,v2,v3,v4,v5, .slice A (n - 1) c]) Z Z aN Z ad2 Z Z Z λ BG Dd aN=> ?_;have:=Dd.size;have nd:=bQ.md Dd (λ q I=> .inl (by rw [aRz.1 I];exact aRZ));refine ai<|aj<| ?_;have ab:=ab.mod Dd aO;refine J (ao Z (ab.all Px oS))<|J (Ro (λ w=>by kernel_rfl) Z)<|va Z<|ai<|rt<|bb (.tmp Z .nil)<| ?_;have aT:=aT.later a7;have aT:=aT.mod FH (bL Dv);have aT:=aT.mod Dd (λ q I h=>by have Φ:=aRz.1 h;exfalso;(exact hd q I Φ));exact ⟨by rw [show ((n:Int) - 1).toNat=n - 1 by omega];rfl,aN,κ.aD.cut aT κ.di (n - 1) (by omega),nd⟩
theorem aFi (b:Nat) (A:Option Addr) (c aC:Nat) (l:List cc) (v0 v1 v2 v3 v4 v5:Value) (x:cc) (w:World) (aN:aR w b [v0,v1,v2,v3,v4,v5, .slice A l.length c] 265 (0,0)) (aT:cc.rep.aD 313 32 w aC (κ.ae A) A c (l)) (eh:∀ y∈l,y.ok) (hd:∀ q∈κ.ae A,q=b→False) (hx:x.ok) (Qp:l.length≤1000000) (s9:aC≤w.heap.size):
  Calls prog 218 #[.iface 311 (.pointer (some ⟨b,6,none⟩)), .iface 313 (.agg #[.int .i64 x.cell.x, .int .i64 x.cell.y, .int .i64 x.a8, .int .i64 x.all])] w (λ e w'=>∃ bG b4,e= .returned (.tuple #[])∧aR w' b [v0,v1,v2,v3,v4,v5, .slice bG (cr.push cc.all l x).length b4] 265 (0,0)∧cc.rep.aD 313 32 w' aC (κ.ae bG) bG b4 (cr.push cc.all l x)∧(∀ q∈κ.ae bG,q∈κ.ae A∨w.heap.size≤q)∧Mod (b::κ.ae A) w w'):=by
 have Dv:=λ q I=>(aT.lt q I).2;have yb:=aN.lt;have Lu:=aT.has.2.1;have C4:=aT.has.ez;have Lv:=aT.has.1;refine ch (n:=12) func218 Z Z Z ?_;refine aj<|vm Z<|vm Z<|hi asu Z Z (by unfold Ce;kernel_rfl) Z ((aFk b A c aC l v0 v1 v2 v3 v4 v5 x _ aN aT eh hd hx (by omega) s9).mono ?_);rintro e lg ⟨cq,c1,rfl,eM,Om,CZ,ai8⟩;refine ⟨_,Z, ?_⟩;have:=ai8.size;have eB:=(Mod.bF (b::κ.ae A) w).md ai8 (λ q I=> .inl I);have oc:(l++ [x]).length=l.length+1:=by rw [aRH];rfl
 have aDS:=λ q I=>(Om.lt q I).2;have aOa:=eM.lt;have afW:∀ q∈κ.ae cq,q=b→False:=λ q I e=>(CZ q I).elim (λ h=>hd q h e) (λ h=>by omega);have QK:∀ y∈l++ [x],y.ok:=λ y aL=>(aRR.1 aL).elim (eh y) λ h=>by rw [aRz.1 h];exact hx
 refine ai<|rg<|vm Z<|vm Z<|hi KC Z Z (zC (e:= 263) (by kernel_rfl) (eM.one pO Z)) Z ((Nz _ ((l++ [x]).length) _ _).mono ?_);rintro e al8 ⟨rfl,nU⟩;refine ⟨_,Z, ?_⟩;have:=nU.size;have NP:=eB.trans (Mod.bC nU);refine J (mm Z Z (bE (by omega)))<| ?_;have Om:=Om.later nU;have eM:=eM.later nU;refine ca asC Z Z (((show Calls _ _ #[_, .int .i64 (((l++ [x]).length:Int) - 1)] _ _ from (by rw [show ((l++ [x]).length:Int) - 1=(l.length:Int) by rw [oc];omega];exact aFl b cq (l++ [x]).length c1 aC (l++ [x]) v0 v1 v2 v3 v4 v5 l.length _ eM Om QK rfl afW (by omega)))).mono ?_);rintro e eK ⟨rfl,b2,nY,X'⟩;refine ⟨_,Z, ?_⟩;have:=X'.size;have bQ:=NP.md X' (λ q I=>(CZ q I).imp (aRQ _) λ h=>by omega);refine nl<|ne<|bb .nil<| ?_;exact ⟨cq,c1,Z,by rw [show (cr.push cc.all l x).length=(l++ [x]).length by rw [cr.MN,oc]];exact b2,nY,CZ,bQ⟩
theorem aFh (b:Nat) (A:Option Addr) (n c aC:Nat) (l:List cc) (v0 v1 v2 v3 v4 v5:Value) (w:World) (aN:aR w b [v0,v1,v2,v3,v4,v5, .slice A n c] 265 (0,0)) (aT:cc.rep.aD 313 32 w aC (κ.ae A) A c (l)) (eh:∀ y∈l,y.ok) (hn:l.length=n) (hd:∀ q∈κ.ae A,q=b→False) (aH:0<n) (Qp:n≤1000000):
  Calls prog 220 #[.iface 311 (.pointer (some ⟨b,6,none⟩))] w (λ e w'=>e= .returned (.iface 313 (.agg (l.getD 0 default).cells.toArray))∧aR w' b [v0,v1,v2,v3,v4,v5, .slice A (cr.oo cc.all l).length c] 265 (0,0)∧cc.rep.aD 313 32 w' aC (κ.ae A) A c (cr.oo cc.all l)∧Mod (b::κ.ae A) w w'):=by
 have Dv:=λ q I=>(aT.lt q I).2;have yb:=aN.lt;have Lu:=aT.has.2.1;have C4:=aT.has.ez;have Lv:=aT.has.1;refine ch (n:=15) func220 Z Z Z ?_;refine aj<|va Z<|ai<|aj<|vm Z<|hi KC Z Z (zC (e:= 263) (by kernel_rfl) (aN.one pO Z)) Z ((Nz _ n _ _).mono ?_);rintro e cv ⟨rfl,eA⟩;refine ⟨_,Z, ?_⟩;have:=eA.size;have bg:=(Mod.bF (b::κ.ae A) w).trans (Mod.bC eA);refine J (mm Z Z (bE (by omega)))<|va Z<|ai<|aj<|vm Z<|vm Z<| ?_;have aN:=aN.later eA;have aT:=aT.later eA;refine hi PC Z Z (zC (e:= 263) (by kernel_rfl) (aN.one pO Z)) Z ((SS _ _ _ _ l 0 ((n:Int) - 1) 0 (n - 1) _ aT eh (by omega) (by omega) (by omega) (by omega) (by omega)).mono ?_);rintro e I' ⟨rfl,aoj,X9⟩;refine ⟨_,Z, ?_⟩;have:=X9.size;have mz:=bg.md X9 (λ q I=> .inl (aRQ _ I));have agH:∀ y∈cr.swp l 0 (n - 1),y.ok:=λ y aL=>eh y ((cr.Dt (by omega) (by omega)).subset aL);have aKt:(cr.swp l 0 (n - 1)).length=n:=by rw [cr.mv];omega
 refine ai<|aj<|vm Z<|vm Z<| ?_;have aN:=aN.mod X9 (λ I=>hd _ I rfl);refine ca asJ Z Z (((show Calls _ _ #[_, .int .i64 0, .int .i64 ((n:Int) - 1)] _ _ from (by rw [show (n:Int) - 1=((n - 1:Nat):Int) by omega];exact aFg b A n c aC (cr.swp l 0 (n - 1)) v0 v1 v2 v3 v4 v5 0 (n - 1) _ aN aoj agH (by omega) hd (by omega) (by omega) Qp))).mono ?_);rintro e Zy ⟨⟨aQq,rfl⟩,eM,abP,FH⟩;refine ⟨_,Z, ?_⟩;have:=FH.size;have yu:=mz.md FH (λ q I=> .inl (aRQ _ I));have aw5:∀ y∈cr.j5 cc.all (n - 1) (cr.swp l 0 (n - 1)) 0,y.ok:=λ y aL=>agH y ((cr.adR _ _ _ _ (aRN _) (by omega) (by omega)).subset aL);have aKu:(cr.j5 cc.all (n - 1) (cr.swp l 0 (n - 1)) 0).length=n:=by rw [cr.adQ _ _ _ _ (aRN _)];omega
 have aDS:=λ q I=>(abP.lt q I).2;refine ai<|aj<|vm Z<|hi asQ Z Z (by unfold Ce;kernel_rfl) Z ((aFj b A n c aC (cr.j5 cc.all (n - 1) (cr.swp l 0 (n - 1)) 0) v0 v1 v2 v3 v4 v5 _ eM abP aw5 (by omega) hd aH).mono ?_);rintro e zU ⟨rfl,anI,anS,Bm⟩;refine ⟨_,Z, ?_⟩;have:=Bm.size;have iU:=yu.md Bm (λ q I=> .inl I);refine va Z<|ai<|rt<|bb (.tmp Z .nil)<| ?_;subst hn;exact ⟨by rw [← cr.ajZ (key:=cc.all) aH];rfl,by rw [cr.IF];exact anI,anS,iU⟩
end
section
theorem h4 {a b:Bool} (h:a=b):Ending.returned (.bool a)= .returned (.bool b):=by rw [h]
theorem lx (w:World) (o:Obj):Below w.heap.size w (w.alloc o):=(aR8 _ w).alloc (aRN _) o
end
end Go.Proofs.YtlikikpgmmkjbaaGreat
