import Derived.Test.YtlikikpgmmkjbaaGreatCelK
set_option linter.unusedVariables false
set_option linter.unusedSimpArgs false
set_option maxRecDepth 100000
set_option maxHeartbeats 4000000
open Go.RowKit
namespace Go.Proofs.YtlikikpgmmkjbaaGreat
open Tryz
abbrev aR9:=@List.length_singleton
abbrev aSv:=@Bool.not_eq_false'
abbrev aS0:=@beq_eq_false_iff_ne
abbrev aUy:=@List.countP_append
abbrev aUV:=@List.countP_cons
abbrev aU2:=@Go.Proofs.Tryz.zeroValue3
abbrev aVV:=@Nat.le_succ_of_le
section
open Go.RowKit Go.Maps
section
variable {w w':World} {b:Nat} {g:ax→Int} {S:List Nat} {x:ax} {st:Nat}
def DE (w:World) (b:Nat) (l:List (ax×Int×Nat)) (k6:Nat) (g:ax→Int):Prop :=
 dy ax.key w b l k6∧(∀ e∈l,e.1.ok)∧(l.map (·.1)).Nodup∧∀ y,(dy.get l y).getD 0=g y
def km (w:World) (b:Nat) (g:ax→Int):Prop:=∃ l k6,DE w b l k6 g
def rY (w:World) (b:Nat) (g:ax→Int) (x:ax) (st:Nat):Prop:=∃ l k6,DE w b l k6 g∧∃ (j:Nat) (v:Int),l[j]? =some (x,v,st)
theorem km.lt (h:km w b g):b<w.heap.size:=by obtain ⟨l,c,h,_⟩:=h;exact h.lt
theorem DE.keep {l:List (ax×Int×Nat)} {k6:Nat} (h:DE w b l k6 g) (av:w'.heap[b]? =w.heap[b]?):DE w' b l k6 g:=⟨h.1.keep av,h.2⟩
theorem km.keep (h:km w b g) (av:w'.heap[b]? =w.heap[b]?):km w' b g:=by obtain ⟨l,c,h⟩:=h;exact ⟨l,c,h.keep av⟩
theorem km.later (h:km w b g) (x:Ext w w'):km w' b g:=h.keep (x.block b h.lt)
theorem km.mod (h:km w b g) (m:Mod S w w') (hs:b∉S):km w' b g:=h.keep (m.block b h.lt hs)
theorem rY.map (h:rY w b g x st):km w b g:=by obtain ⟨l,c,h,_⟩:=h;exact ⟨l,c,h⟩
theorem rY.lt (h:rY w b g x st):b<w.heap.size:=h.map.lt
theorem rY.keep (h:rY w b g x st) (av:w'.heap[b]? =w.heap[b]?):rY w' b g x st:=by obtain ⟨l,c,h,ab⟩:=h;exact ⟨l,c,h.keep av,ab⟩
theorem rY.later (h:rY w b g x st) (e:Ext w w'):rY w' b g x st:=h.keep (e.block b h.lt)
theorem km.of_nil (h:o5 w b []):km w b λ _=>0:=by
 obtain ⟨es,c,γ,ab⟩:=h;have:es.toList= []:=by
  cases he:es.toList with
  | nil=>rfl
  | cons a r=>rw [he] at ab;exact ab.elim
 have e:es=#[]:=by apply aSh;simpa using this
 subst e;exact ⟨[],c,⟨by simpa using γ,by simp,by simp⟩,by simp,by simp,λ y=>rfl⟩
def o_ (b:Nat) (g:ax→Int) (w w':World):Prop:=Mod [b] w w'∧(km w b g→km w' b g)
theorem o_.bD (h:Ext w w'):o_ b g w w':=⟨Mod.bD h,λ k=>k.later h⟩
theorem o_.trans {aP cr:World} (h:o_ b g w aP) (k:o_ b g aP cr):o_ b g w cr:=⟨h.1.trans k.1,λ q=>k.2 (h.2 q)⟩
theorem XZ {es:Array MapEntry} {clock:Nat}:Mod [b] w (iz w b es clock):=
 ⟨rfl,rfl,rfl,by rw [ajW];exact aQW _,λ k _ hn=>Ma (by simpa using hn)⟩
def sG (g:ax→Int) (x:ax) (v:Int):ax→Int:=λ y=>if y=x then v else g y
end
section
variable {w:World} {b:Nat} {l:List (ax×Int×Nat)} {clock:Nat} {g:ax→Int}
theorem ain:prog.underlying 205 =some (.map 49 3):=by kernel_rfl
theorem ayr (h:km w b g) (x:ax) (hx:x.ok):(Instr.lookup 205 (.map (some b)) (ax.key x) false).run prog w= .ok (.int .i64 (g x)) w:=by
 obtain ⟨l,c,γ,ab,aw,aX⟩:=h;rw [← aX x];exact (dy.lookup ax.yE ain (aU2 w) γ ab aw x hx).1
theorem aBX {l:List (ax×Int×Nat)} {j:Nat} {a:ax×Int×Nat} (hm:(l.map (·.2.2)).Nodup) (ay:l[j]? =some a):((l.map (dB ax.key)).toArray).findIdx? (λ y=>((y.born:Nat):Int)== ((a.2.2:Nat):Int))=some j:=by
 rw [aVl];refine aVg (l:=l.map (dB ax.key)) (j:=j) (e0:=dB ax.key a) ?_ (by rw [aQ4,ay];rfl);rw [aTy];exact hm
theorem ayq (h:km w b g) (x:ax) (hx:x.ok):∃ (st:Nat) (w':World),(Instr.mapEntry 205 (.map (some b)) (ax.key x)).run prog w= .ok (.tuple #[.int .i64 (g x), .int .i64 (st:Int)]) w'∧Mod [b] w w'∧rY w' b g x st:=by
 obtain ⟨l,clock,h,hw,hn,aM⟩:=h;obtain ⟨ie,rp⟩:=ax.yE.lit x hx;have Φ:=h.fl;have bA:=h.lt;have aD:=ain;have bB:=aU2;rcases dy.found ax.yE h hw x hx with ⟨γ,ab,aw⟩ | ⟨j,v0,n0,γ,ab⟩
 ·have G6:g x=0:=by rw [← aM x,ab];rfl
  have Ch:dy.put l clock x 0=l++ [(x,0,clock)]:=by
   unfold dy.put;rw [aQV];intro ha;obtain ⟨a,ha,hd⟩:=aR6.1 ha;exact aw a ha (by simpa using hd)
  have hQ:DE (iz w b ((l++ [(x,0,clock)]).map (dB ax.key)).toArray (clock+1)) b (l++ [(x,0,clock)]) (clock+1) g:=by
   refine ⟨⟨CH bA,λ a ha=> ?_, ?_⟩,λ a ha=> ?_, ?_,λ y=> ?_⟩
   ·rcases aQ0.1 ha with ha | ha
    ·have:=h.born a ha;omega
    ·simp at ha;subst ha;simp
   ·rw [aRc,aRA];refine ⟨h.stamps,by simp,λ a ha c hc e=> ?_⟩;simp at hc;obtain ⟨y,aK,rfl⟩:=aRs.1 ha;have:=h.born y aK;omega
   ·rcases aQ0.1 ha with ha | ha
    ·exact hw a ha
    ·simp at ha;subst ha;exact hx
   ·have:=dy.Hg hn clock x 0;rw [Ch] at this;exact this
   ·have:=dy.Ab l clock x y 0;rw [Ch] at this;rw [this];by_cases e:y=x
    ·rw [aQZ e,e,G6];rfl
    ·rw [aQV e];exact aM y
  refine ⟨clock,_, ?_,XZ,⟨_,_,hQ,l.length,0,by simp⟩⟩
  ·rw [G6];have:(l.map (dB ax.key)).toArray.push (⟨ax.key x, .int .i64 0,clock⟩:MapEntry)=((l++ [(x,0,clock)]).map (dB ax.key)).toArray:=by simp [dB]
   simp [Instr.mapEntry,aR0 aD,aRH Φ,ax.yE.keyed.check w false rp,γ,bB,aR7 _ Φ,Result.andThen,iz,Go.ChangeMaps.setBlock,goInt,dB]
 ·have G6:g x=v0:=by rw [← aM x,dy.hG hn ab];rfl
  have hQ:DE (iz w b (l.map (dB ax.key)).toArray clock) b l clock g:=⟨⟨CH bA,h.born,h.stamps⟩,hw,hn,aM⟩;refine ⟨n0,_, ?_,XZ,⟨_,_,hQ,j,v0,ab⟩⟩
  ·rw [G6];have ay:(l.map (dB ax.key)).toArray[j]? =some (dB ax.key (x,v0,n0)):=by simp [ab]
   have V':(l.map (dB ax.key)).toArray.modify j (λ e=> {e with key:=ax.key x})=(l.map (dB ax.key)).toArray:=by
    apply aSh;rw [aS3,aST _ _ _ _ (by rw [aQ4,ab];rfl)];exact aVA _ _ _ (by rw [aQ4,ab];rfl)
   have VR:(dB ax.key (x,v0,n0)).key=ax.key x:=rfl;have Vt:(dB ax.key (x,v0,n0)).born=n0:=rfl;simp only [Instr.mapEntry,aQY,aR0 aD,aQR,aRH Φ,ax.yE.keyed.check w false rp,γ,ay,aSn,aRU,VR,ax.yE.keyed.stays w rp,V',aR7 _ Φ,Vt,aQ3];rfl
theorem ays {st:Nat} {x:ax} (h:rY w b g x st) (v:Int):∃ w',(Instr.entryStore 205 (.map (some b)) (.int .i64 (st:Int)) (.int .i64 v)).run prog w= .ok () w'∧Mod [b] w w'∧km w' b (sG g x v):=by
 obtain ⟨l,clock,⟨h,hw,hn,aM⟩,j,v0,ab⟩:=h;have Φ:=h.fl;have bA:=h.lt;have ep:=aBX (a:=(x,v0,st)) h.stamps ab;have po:l.any (λ e=>decide (e.1=x))=true:=aR6.2 ⟨_,aRo ab,by simp⟩;have rr:dy.put l clock x v=l.set j (x,v,st):=by
  unfold dy.put;rw [aQZ po];refine aSm λ i=> ?_;rw [aQ4];by_cases jh:j=i
  ·subst jh;rw [ab,aQ9 (aQM.1 ab).1];simp
  ·rw [aRf jh];cases ar:l[i]? with
   | none=>rfl
   | some a =>
    have:a.1≠x:=by
     intro Ag;have a_:(l.map (·.1))[i]? =(l.map (·.1))[j]? :=by rw [aQ4,aQ4,ar,ab];simp [Ag]
     have:=(aUI (by simpa using (aQM.1 ar).1) hn).1 a_;exact jh this.symm
    simp [this]
 have KE:(l.map (dB ax.key)).toArray.modify j (λ e=> {e with val:=Value.int .i64 v})=((l.set j (x,v,st)).map (dB ax.key)).toArray:=by
  apply aSh;rw [aS3,aST _ _ _ _ (by rw [aQ4,ab];rfl),aRY];rfl
 refine ⟨iz w b ((l.set j (x,v,st)).map (dB ax.key)).toArray clock, ?_,XZ,l.set j (x,v,st),clock,⟨CH bA,λ a ha=> ?_, ?_⟩,λ a ha=> ?_, ?_,λ y=> ?_⟩
 ·rw [← KE];simp only [Instr.entryStore,aQY,aRH Φ,aQR,asInt,asIntOf,goInt,aQ3];rw [ep];exact aR7 _ Φ
 ·rcases aSz ha with ha | ha
  ·exact h.born a ha
  ·rw [ha];exact h.born (x,v0,st) (aRo ab)
 ·rw [aRY];have:(l.map (·.2.2)).set j st=l.map (·.2.2):=by
   obtain ⟨qk,ox⟩:=aQM.1 ab;have e:(l.map (·.2.2))[j]'(by simpa using qk)=st:=by rw [aTR,ox]
   conv=>lhs;rw [← e]
   exact aSy _
  rw [this];exact h.stamps
 ·rcases aSz ha with ha | ha
  ·exact hw a ha
  ·rw [ha];exact hw (x,v0,st) (aRo ab)
 ·have:=dy.Hg hn clock x v;rw [rr] at this;exact this
 ·have:=dy.Ab l clock x y v;rw [rr] at this;rw [this];unfold sG;by_cases e:y=x
  ·rw [aQZ e,aQZ e];rfl
  ·rw [aQV e,aQV e];exact aM y
end
section
variable {n:Nat} {E cR:List (Nat×Value)} {a:Act} {w w' w0 aP:World} {Q:Exit→Act→World→Prop} {ops:Array Oper}
variable {d:Option Nat} {ty:TypeId} {pos:String} {af:Array Edge} {atl:Option (Nat×Bool)} {x y z m:Operand} {rest:List Oper} {r st:Nat} {g:ax→Int} {p:ax} {v:Int}
theorem Qg (h:km w r g) (av:p.ok) (hx:ev E m=some (.map (some r))) (aK:ev E y=some (ax.key p)):
  cN prog E ⟨d, .lookup 205 m y false,ty,pos,af,atl⟩ w (.int .i64 (g p)) w:=λ n a ha=>by
 simp only [execOp,ha.ev hx,ha.ev aK,aQY,ayr h p av,aQR,aQ3]
theorem meC {d:Nat} (h:km w r g) (av:p.ok) (hx:ev E m=some (.map (some r))) (aK:ev E y=some (ax.key p)) (hd:Nat.blt d n=true)
  (hK:∀ aP (st:Nat),Mod [r] w aP→rY aP r g p st→cE prog n ops Q rest ((d, .tuple #[.int .i64 (g p), .int .i64 (st:Int)])::E) aP):cE prog n ops Q (⟨some d, .mapEntry 205 m y,ty,pos,af,none⟩::rest) E w:=by
 obtain ⟨st,aP,γ,ab,aw⟩:=ayq h p av;refine h6 (w':=aP) (v:= .tuple #[.int .i64 (g p), .int .i64 (st:Int)]) (λ n a ha=> ?_) hd (hK _ st ab aw);simp only [execOp,ha.ev hx,ha.ev aK,aQY,γ,aQR,aQ3]
theorem Ul (h:rY w r g p st) (hx:ev E m=some (.map (some r))) (aK:ev E y=some (.int .i64 (st:Int))) (bB:ev E z=some (.int .i64 v))
  (hK:∀ aP,Mod [r] w aP→km aP r (sG g p v)→cE prog n ops Q rest E aP):cE prog n ops Q (⟨none, .entryStore 205 m y z,ty,pos,af,none⟩::rest) E w:=by
 obtain ⟨aP,γ,ab,aw⟩:=ays h v;refine us (w':=aP) (λ n a ha=> ?_) (hK _ ab aw);simp only [execOp,ha.ev hx,ha.ev aK,ha.ev bB,aQY,γ,aQR,aQ3]
end
end
section
def iN (T:List bg) (c:ax):Int:=((T.countP λ t=>decide (t.spot=c):Nat):Int)
theorem QC (T:List bg) (c:ax):0≤iN T c∧iN T c≤(T.length:Int):=⟨aSu _,Int.ofNat_le.2 List.countP_le_length⟩
theorem azc (T:List bg) (t:bg):iN (T++ [t])=sG (iN T) t.spot (iN T t.spot+1):=by
 funext y
 unfold iN sG;rw [aUy,aUV,List.countP_nil];by_cases e:y=t.spot
 ·subst e;simp
 ·have e':¬ t.spot=y:=λ h=>e h.symm;rw [aQV e];simp [e']
theorem aCn {α:Type} {T:List α} {k:Nat} {d:α} (h:k<T.length):T.take (k+1)=T.take k++ [T.getD k d]:=by
 rw [List.take_add_one,aQN h,aQK,aQN h];rfl
theorem azd {T:List bg} {k:Nat} (h:k<T.length):iN (T.take (k+1))=sG (iN (T.take k)) (T.getD k default).spot (iN (T.take k) (T.getD k default).spot+1):=by
 rw [aCn (d:=default) h,azc]
theorem countP_split {T:List bg} {k:Nat} (h:k<T.length) (t:bg) (c:ax):
  ((T.countP λ t=>decide (t.spot=c):Nat):Int)=(((T.take k).countP λ t=>decide (t.spot=c):Nat):Int)+(if (T.getD k default).spot=c then 1 else 0)+(((T.drop (k+1)).countP λ t=>decide (t.spot=c):Nat):Int)∧
  (((T.set k t).countP λ t=>decide (t.spot=c):Nat):Int)=(((T.take k).countP λ t=>decide (t.spot=c):Nat):Int)+(if t.spot=c then 1 else 0)+(((T.drop (k+1)).countP λ t=>decide (t.spot=c):Nat):Int):=by
 have e:T=T.take k++T.getD k default::T.drop (k+1):=by
  conv=>lhs;rw [← aSS k T,aSA h]
  rw [aQK,aQN h];rfl
 constructor
 ·conv=>lhs;rw [e]
  rw [aUy,aUV];by_cases hc:(T.getD k default).spot=c<;>simp only [hc,aTK,aTw,aSk,aRZ]<;>simp<;>omega
 ·rw [aUD,aQZ h,aUy,aUV];by_cases hc:t.spot=c<;>simp only [hc,aTK,aTw,aSk,aRZ]<;>simp<;>omega
theorem azb {T:List bg} {k:Nat} (h:k<T.length) (t:bg):
  iN (T.set k t)=sG (sG (iN T) (T.getD k default).spot (iN T (T.getD k default).spot - 1)) t.spot (sG (iN T) (T.getD k default).spot (iN T (T.getD k default).spot - 1) t.spot+1):=by
 obtain ⟨A,D,hA,bc⟩:∃ A D:ax→Int,(∀ y,iN T y=A y+(if (T.getD k default).spot=y then 1 else 0)+D y)∧∀ y,iN (T.set k t) y=A y+(if t.spot=y then 1 else 0)+D y :=
  ⟨_,_,λ y=>(countP_split h t y).1,λ y=>(countP_split h t y).2⟩
 funext y
 unfold sG;rw [bc y,hA y,hA t.spot,hA (T.getD k default).spot];generalize (T.getD k default).spot=a;generalize t.spot=b;by_cases a_:y=b
 ·subst a_;by_cases bh:y=a
  ·subst bh;simp only [aSk,eq_self];omega
  ·have cD:¬ a=y:=λ h=>bh h.symm;simp only [aSk,bh,cD,aRZ];omega
 ·have jr:¬ b=y:=λ h=>a_ h.symm;by_cases bh:y=a
  ·subst bh;simp only [aSk,a_,jr,aRZ];omega
  ·have cD:¬ a=y:=λ h=>bh h.symm;simp only [a_,bh,cD,jr,aRZ]
theorem aC4 {g:ax→Int} {n v:Int} {x:ax} (h:∀ y,0≤g y∧g y≤n) (γ: -1≤v) (ab:v≤n) (y:ax): -1≤sG g x v y∧sG g x v y≤n:=by
 unfold sG;have:=h y;split<;>omega
theorem aza {T:List bg} {c:ax}:0<iN T c↔∃ t∈T,t.spot=c:=by
 unfold iN;rw [Int.natCast_pos,List.countP_pos_iff];simp
def ey (l:List dj) (id:Int):Int:=gb (λ g=>g.id == id) l
theorem atr (l:List dj) (id:Int):ey l id= -1∧(∀ g∈l,g.id≠id)∨∃ k,k<l.length∧ey l id=(k:Int)∧(l.getD k default).id=id∧∀ j,j<k→(l.getD j default).id≠id:=by
 rcases Wo (λ g=>g.id == id) l with ⟨γ,ab⟩ | ⟨k,av,γ,ab,aw⟩
 ·exact .inl ⟨γ,λ g aM=>by simpa using ab g aM⟩
 ·refine .inr ⟨k,av,γ, ?_,λ j ay=> ?_⟩
  ·rw [aQK,aQN av];simpa using ab
  ·rw [aQK,aQN (by omega)];simpa using aw j ay
noncomputable def qt (f:aE) (l:List dj) (T:List bg) (k:Nat):Option ax :=
 if ey l (T.getD k default).id<0 then none
 else if gQ f (T.getD k default).spot (l.getD (ey l (T.getD k default).id).toNat default).bp≠0 then none
 else if (fL f (T.getD k default).spot (l.getD (ey l (T.getD k default).id).toNat default).bp).length<2 then none
 else if 0<iN T ((fL f (T.getD k default).spot (l.getD (ey l (T.getD k default).id).toNat default).bp).getD 1 default) then none
 else some ((fL f (T.getD k default).spot (l.getD (ey l (T.getD k default).id).toNat default).bp).getD 1 default)
def bg.bp (t:bg) (c:ax):bg:= {t with spot:=c}
noncomputable def jw (f:aE) (l:List dj) (T:List bg):Nat→List bg×List Int
 | 0=>(T, [])
 | k+1=>match qt f l (jw f l T k).1 k with
  | none=>jw f l T k
  | some c=>((jw f l T k).1.set k (((jw f l T k).1.getD k default).bp c),(jw f l T k).2++ [((jw f l T k).1.getD k default).id])
theorem E_ {f:aE} {l:List dj} {T U:List bg} {M:List Int} {k:Nat} (h:jw f l T k=(U,M)) (hs:qt f l U k=none):jw f l T (k+1)=(U,M):=by
 show (match qt f l (jw f l T k).1 k with | none=>_ | some c=>_)=_;rw [h];simp only [hs]
theorem Mf {f:aE} {l:List dj} {T U:List bg} {M:List Int} {k:Nat} {c:ax} (h:jw f l T k=(U,M)) (hs:qt f l U k=some c):jw f l T (k+1)=(U.set k ((U.getD k default).bp c),M++ [(U.getD k default).id]):=by
 show (match qt f l (jw f l T k).1 k with | none=>_ | some c=>_)=_;rw [h];simp only [hs]
theorem Q4 {f:aE} {l:List dj} {T:List bg}:∀ k,(jw f l T k).1.length=T.length∧(jw f l T k).2.length≤k
 | 0=>⟨rfl,aQW _⟩
 | k+1=>by
  have bt:=Q4 (f:=f) (l:=l) (T:=T) k;cases hs:qt f l (jw f l T k).1 k with
  | none=>rw [E_ rfl hs];exact ⟨bt.1,aVV bt.2⟩
  | some c=>rw [Mf rfl hs];exact ⟨by rw [aQS];exact bt.1,by rw [aQU,aR9];omega⟩
noncomputable def ag.lJ (W:ag) (l:List dj):ag×List Int:=({W with ak:=(jw W.field l W.ak W.ak.length).1},(jw W.field l W.ak W.ak.length).2)
end
section
section
variable {fP:Nat} {fR:ax→Int} {P:Program} {ops:Array Oper} {Q:Exit→Act→World→Prop} {aZ:Nat→Nat}
def uN (fP:Nat) (fR:ax→Int) (P:Program) (ops:Array Oper) (w0:World) (o:Oper) (v:Value) (a:Act):Prop :=
  (Region.wanted o (yielded ops a.tmps)=true∧∀ w,o_ fP fR w0 w→yV P w v ((execOp a.eval o).run P w))∨
  (Region.wanted o (yielded ops a.tmps)=false∧v=undef)
theorem uN.of_same {w0:World} {o:Oper} {v:Value} {a a':Act} (h:uN fP fR P ops w0 o v a) (he:execOp a'.eval o=execOp a.eval o) (hw:Region.wanted o (yielded ops a'.tmps)=Region.wanted o (yielded ops a.tmps)):uN fP fR P ops w0 o v a':=by
  unfold uN at *;rw [he,hw];exact h
theorem uN.on {w0 aP:World} {o:Oper} {v:Value} {a:Act} (h:uN fP fR P ops w0 o v a) (hx:o_ fP fR w0 aP):uN fP fR P ops aP o v a :=
  h.imp (λ ⟨γ,ab⟩=>⟨γ,λ w hw=>ab w (hx.trans hw)⟩) id
theorem Yields.aAM {w0:World} {o:Oper} {v:Value} {a:Act} (h:Yields P ops o v a):uN fP fR P ops w0 o v a :=
  h.imp (λ ⟨γ,ab⟩=>⟨γ,λ w _=>by rw [ab w];exact ⟨rfl,rfl⟩⟩) id
def aB4 (fP:Nat) (fR:ax→Int) (P:Program) (ops:Array Oper) (Q:Exit→Act→World→Prop) (aZ:Nat→Nat) (i:Nat) (K:Act→World→Prop) (a:Act) (w0:World):Prop :=
  ∃ o,ops[i]? =some o∧
    ((aZ i≤1∧∃ v,uN fP fR P ops w0 o v a∧K (a.put o.dst v) w0)∨
     (1<aZ i∧∀ w,Ext w0 w→wpOp P ops Q i (λ a' w'=>(aZ i=2→o_ fP fR w0 w')∧K a' w') a w))
def Jk (fP:Nat) (fR:ax→Int) (P:Program) (ops:Array Oper) (Q:Exit→Act→World→Prop) (aZ:Nat→Nat):Nat→Array Bool→Act→World→Prop
  | 0,l,a,w0=>Region.ready .any ops l= []∧∀ w,Ext w0 w→Q .normal a w
  | f+1,l,a,w0=>(Region.ready .any ops l= []→∀ w,Ext w0 w→Q .normal a w)∧∀ i∈Region.ready .any ops l,aB4 fP fR P ops Q aZ i (Jk fP fR P ops Q aZ f (l.setIfInBounds i true)) a w0
theorem Ge:∀ (f:Nat) (l:Array Bool) (a:Act) (w0:World),Jk fP fR P ops Q aZ f l a w0→∀ w,Ext w0 w→wpAny P .any ops Q f l a w
  | 0,_,_,_,h,w,hw=>⟨h.1,h.2 w hw⟩
  | f+1,l,a,w0,h,w,hw=>⟨λ aF=>h.1 aF w hw,λ i ar=>by
      obtain ⟨o,b1,ab⟩:=h.2 i ar;rcases ab with ⟨_,v,I,av⟩ | ⟨_,ab⟩
      · unfold wpOp
        simp only [b1];rcases I with ⟨mo,I⟩ | ⟨mo,rfl⟩
        · rw [aQZ mo]
          refine .inl ?_;have I:=I w (o_.bD hw);unfold Oper.wp;generalize (execOp a.eval o).run P w=r at *
          cases r with
          | ok n w' =>
            cases n<;>simp only [yV] at I<;>simp only [Oper.upon]
            case value u=>obtain ⟨rfl,rfl⟩:=I;exact Ge f _ _ _ av _ hw
            case skip=>obtain ⟨rfl,rfl⟩:=I;exact Ge f _ _ _ av _ hw
            case enter f' args=>obtain ⟨rfl,hc⟩:=I;exact hc.mono λ e lg ⟨he,hx⟩=>by subst he;exact Ge f _ _ _ av _ (hw.t_ hx)
          | halt x w'=>simp only [yV] at I
        · rw [aQV (by rw [mo];decide)]
          exact Ge f _ _ _ av _ hw
      · exact aS4 (λ a' w' aw=>Ge f _ _ _ aw.2 _ (Ext.bI w')) (ab w hw)⟩
theorem adR {i:Nat} {dv:Oper} {v:Value} (ar:ops[i]? =some dv) (av:aZ i≤1) (mZ:∀ (j:Nat) (o:Oper) cs b,ops[j]? =some o→o.op≠ .select cs b)
    (h1:∀ c a w,¬ Q (.panic c) a w) (aC:World→Act→Prop) (kE:∀ w0 a,aC w0 a→uN fP fR P ops w0 dv v a)
    (z2:∀ w0 a a',aC w0 a→execOp a'.eval dv=execOp a.eval dv→Region.wanted dv (yielded ops a'.tmps)=Region.wanted dv (yielded ops a.tmps)→aC w0 a')
    (z3:∀ w0 aP a,o_ fP fR w0 aP→aC w0 a→aC aP a) (R:Nat→Bool) (w7:Array Bool)
    (hR:∀ j c9,ops[j]? =some c9→j≠i→(∀ e∈c9.after,Region.binds .any e=true→R e.on=true)→R j=true)
    (bc:(∀ w0 aP a,aC w0 a→aC aP a)∨∀ j,R j=true→3≤aZ j→w7.getD j true=true):
    ∀ (f:Nat) (l:Array Bool) (a:Act) (w0:World),(∀ j,l.getD j false=true→R j=true)→(∀ j,w7.getD j true=true→l.getD j true=true)→
      (∀ j c9,ops[j]? =some c9→j≠i→l.getD j true=false→(∀ e∈c9.after,Region.binds .any e=true→e.on≠i)→dv.apart ops c9=true)→
      i∈Region.ready .any ops l→aC w0 a→Jk fP fR P ops Q aZ f (l.setIfInBounds i true) (a.put dv.dst v) w0→Jk fP fR P ops Q aZ (f+1) l a w0:=by
  intro f;induction f with
  | zero =>
    intro l a w0 _ _ _ hr bB H;refine ⟨λ h=>(by rw [h] at hr;cases hr),λ j ay=> ?_⟩;by_cases hH:j=i
    · subst hH;exact ⟨dv,ar, .inl ⟨av,v,kE _ _ bB,H⟩⟩
    · have:=aTi ay hH
      rw [H.1] at this;cases this
  | succ f bt =>
    intro l a w0 B7 B5 B1 hr bB H;refine ⟨λ h=>(by rw [h] at hr;cases hr),λ j ay=> ?_⟩;by_cases hH:j=i
    · subst hH;exact ⟨dv,ar, .inl ⟨av,v,kE _ _ bB,H⟩⟩
    · obtain ⟨c9,ku,γ⟩:=H.2 j (aTi ay hH)
      obtain ⟨wX,gv,Cg,dE⟩:=aUt.1 ay;obtain rfl:gv=c9:=by rw [ku] at Cg;exact (aQL Cg).symm
      have KL:∀ e∈gv.after,Region.binds .any e=true→e.on≠i:=λ e he Φ heq=>by
        have γ:=dE e he Φ;have aF:=(aUt.1 hr).1;rw [heq] at γ;rcases aRG i l.size with c8 | c8
        · simp [c8] at aF γ;rw [aF] at γ;cases γ
        · simp [aRL c8] at γ
      have Kj:=B1 j gv ku hH wX KL;obtain ⟨cj,a2,a3⟩:=aVf Kj;have KX:∀ cs b,dv.op≠ .select cs b:=λ cs b=>mZ i dv cs b ar;have w4:∀ cs b,gv.op≠ .select cs b:=λ cs b=>mZ j gv cs b ku;have keep:∀ aP a u,aC aP a→aC aP (a.put gv.dst u):=λ aP a u bB=>z2 _ _ _ bB (aTt dv KX a gv.dst u a3) (aTI dv a gv.dst u a3);have BT:R j=true:=hR j gv ku hH λ e he Φ=>B7 _ (dE e he Φ);have B8:∀ k,(l.setIfInBounds j true).getD k false=true→R k=true:=λ k av=>by
        by_cases gK:j=k
        · rw [← gK];exact BT
        · rw [aSZ false gK] at av;exact B7 k av
      have B6:∀ k,w7.getD k true=true→(l.setIfInBounds j true).getD k true=true:=λ k av=>by
        by_cases gK:j=k
        · subst gK
          rcases aRG j l.size with c8 | c8
          · simp [c8]
          · simp [aRL c8]
        · rw [aSZ true gK];exact B5 k av
      have B2:∀ k ok,ops[k]? =some ok→k≠i→(l.setIfInBounds j true).getD k true=false→
          (∀ e∈ok.after,Region.binds .any e=true→e.on≠i)→dv.apart ops ok=true:=λ k ok av pB Cj kt=>by
        refine B1 k ok av pB ?_ kt;by_cases gK:j=k
        · subst gK;exact wX
        · rw [aSZ true gK] at Cj;exact Cj
      have Ci:=aTi hr (aTx hH);rcases γ with ⟨wY,u,I,hK⟩ | ⟨wY,γ⟩
      · refine ⟨gv,ku, .inl ⟨wY,u,I.of_same (aTt gv w4 a dv.dst v cj).symm (aTI gv a dv.dst v cj).symm, ?_⟩⟩
        refine bt _ _ _ B8 B6 B2 Ci (keep _ _ _ bB) ?_;rw [aSi _ _ hH,← aSQ a v u a2];exact hK
      · refine ⟨gv,ku, .inr ⟨wY,λ w hw=> ?_⟩⟩
        refine aS4 (λ a' w' aw=>⟨aw.2.1, ?_⟩) (YN (aC:=aC w0) ku cj a2 w4 h1 (keep w0) (λ a d bB=>z2 _ _ _ bB Z Z) bB (γ w hw));have K2:aC w' a':=by
          rcases aRG (aZ j) 3 with bA | qj
          · exact z3 _ _ _ (aw.2.1 (by omega)) aw.1
          · rcases bc with bc | bc
            · exact bc _ _ _ aw.1
            · have:=B5 j (bc j BT qj);rw [wX] at this;cases this
        refine bt _ _ _ B8 B6 B2 Ci K2 ?_;rw [aSi _ _ hH];exact aw.2.2
def Ii (fP:Nat) (fR:ax→Int) (P:Program) (ops:Array Oper) (Q:Exit→Act→World→Prop) (aZ:Nat→Nat):List Nat→Act→World→Prop
  | [],a,w0=>∀ w,Ext w0 w→Q .normal a w
  | i::r,a,w0=>∃ o,ops[i]? =some o∧
      ((aZ i=0∧∃ v,uN fP fR P ops w0 o v a∧Ii fP fR P ops Q aZ r (a.put o.dst v) w0)∨
       (aZ i=1∧∃ v,Yields P ops o v a∧Ii fP fR P ops Q aZ r (a.put o.dst v) w0)∨
       (1<aZ i∧∀ w,Ext w0 w→wpOp P ops Q i (λ a' w'=>(aZ i=2→o_ fP fR w0 w')∧Ii fP fR P ops Q aZ r a' w') a w))
theorem NR (hs:Region.noSelect ops=true) (h1:∀ c a w,¬ Q (.panic c) a w):∀ (r:List Nat) (l:Array Bool) (a:Act) (w0:World),l.size=ops.size→j4 ops aZ r l=true→Ii fP fR P ops Q aZ r a w0→Jk fP fR P ops Q aZ r.length l a w0
  | [],l,a,w0,_,bc,h=>⟨by simpa [j4] using bc,h⟩
  | i::r,l,a,w0,az,bc,h=>by
    obtain ⟨o,b1,h⟩:=h;have mZ:=aTv hs;rcases h with ⟨av,v,I,hK⟩ | ⟨av,v,I,hK⟩ | ⟨av,h⟩
    · simp only [j4,av,aQT] at bc
      obtain ⟨⟨⟨hf,hr⟩,Φ⟩,bc⟩:=bc;obtain ⟨R,r1,r2,tZ⟩:=N2 az Φ;exact adR b1 (by omega) mZ h1 (λ w0 a=>uN fP fR P ops w0 o v a) (λ _ _ h=>h) (λ _ _ _ h he hw=>h.of_same he hw) (λ _ _ _ hx h=>h.on hx) R l r1 (.inr tZ) _ _ _ _ r2 (λ _ h=>h) (aSx b1 hf) (by simpa using hr) I
        (NR hs h1 r _ _ _ (by simpa using az) bc hK)
    · simp only [j4,av,aQT] at bc
      obtain ⟨⟨hf,hr⟩,bc⟩:=bc;exact adR b1 (by omega) mZ h1 (λ _ a=>Yields P ops o v a) (λ _ _ h=>Yields.aAM h) (λ _ _ _ h he hw=>h.of_same he hw) (λ _ _ _ _ h=>h) (λ _=>true) l (λ _ _ _ _ _=>Z) (.inl λ _ _ _ h=>h) _ _ _ _ (λ _ _=>Z) (λ _ h=>h) (aSx b1 hf) (by simpa using hr) I
        (NR hs h1 r _ _ _ (by simpa using az) bc hK)
    · obtain ⟨k,fZ⟩:∃ k,aZ i=k+2:=⟨aZ i - 2,by omega⟩
      simp only [j4,fZ,aQT,aRK] at bc;obtain ⟨hr,bc⟩:=bc;refine ⟨λ aF=>(by rw [hr] at aF;cases aF),λ j ay=> ?_⟩;rw [hr] at ay;obtain rfl:j=i:=by simpa using ay
      exact ⟨o,b1, .inr ⟨av,λ w hw=>aS4 (λ a' w' aw=>⟨aw.1,NR hs h1 r _ _ _ (by simpa using az) bc aw.2⟩) (h w hw)⟩⟩
theorem aAU {id:Nat} {a:Act} {w:World} (bZ:List Nat) (hm:P.follows .mixedOrders=true) (bc:(Region.noSelect ops && (bZ.length == ops.size) && j4 ops aZ bZ (Array.replicate ops.size false))=true)
    (h:Ii fP fR P ops (gW (Q .normal)) aZ bZ a w):(Code.region id ops true).wp P Q a w:=by
  simp only [aQT,aRK] at bc;obtain ⟨⟨hs,az⟩,bc⟩:=bc;refine wp_mono (aUE hm (Q:=gW (Q .normal)) ?_) (λ e a w I=>by cases e<;>first | exact I | exact I.elim);have:=NR (P:=P) hs (Q:=gW (Q .normal)) (λ _ _ _ h=>h) bZ (Array.replicate ops.size false) a w (by simp) bc h;rw [az] at this;exact Ge _ _ _ _ this _ (aRe _ w).drew
end
section
variable {fP:Nat} {fR:ax→Int} {P:Program} {n:Nat} {E cR:List (Nat×Value)} {a:Act} {w w' w0 aP:World} {Q:Exit→Act→World→Prop} {ops:Array Oper} {v:Value} {aZ:Nat→Nat}
variable {d:Option Nat} {ty:TypeId} {pos:String} {af:Array Edge} {g:Option (Nat×Bool)} {x y z:Operand} {t:TypeId} {rest:List Oper} {bZ:List Nat} {i:Nat}
def xV (fP:Nat) (fR:ax→Int) (P:Program) (n:Nat) (ops:Array Oper) (Q:Exit→Act→World→Prop) (aZ:Nat→Nat) (bZ:List Nat) (E:List (Nat×Value)) (w0:World):Prop:=∀ a,ek n E a→Ii fP fR P ops (gW (Q .normal)) aZ bZ a w0
theorem XJ {id:Nat} (fP:Nat) (fR:ax→Int) (mq:List (Nat×Nat)) (bZ:List Nat) (hm:P.follows .mixedOrders=true) (bc:(Region.noSelect ops && (bZ.length == ops.size) && j4 ops (oC mq) bZ (Array.replicate ops.size false))=true)
    (h:xV fP fR P n ops Q (oC mq) bZ E w):W P n (.region id ops true) Q E w:=λ a ha=>aAU bZ hm bc (h a ha)
theorem Uy (h:∀ w,Ext w0 w→N n Q E w):xV fP fR P n ops Q aZ [] E w0:=λ a ha w hw=>h w hw a ha
theorem BR {d:Nat} {op:Op} (ar:ops[i]? =some ⟨some d,op,ty,pos,af,none⟩) (av:aZ i=0) (hr:∀ w,o_ fP fR w0 w→cN P E ⟨some d,op,ty,pos,af,none⟩ w v w) (hd:Nat.blt d n=true)
    (h:xV fP fR P n ops Q aZ bZ ((d,v)::E) w0):xV fP fR P n ops Q aZ (i::bZ) E w0:=λ a ha =>
  ⟨_,ar, .inl ⟨av,v, .inl ⟨AU rfl,λ w hw=>by rw [hr w hw n a ha];exact ⟨rfl,rfl⟩⟩,h _ (ha.put hd v)⟩⟩
theorem sb {d:Nat} {op:Op} (ar:ops[i]? =some ⟨some d,op,ty,pos,af,none⟩) (av:aZ i=1) (hr:∀ w,cN P E ⟨some d,op,ty,pos,af,none⟩ w v w) (hd:Nat.blt d n=true)
    (h:xV fP fR P n ops Q aZ bZ ((d,v)::E) w0):xV fP fR P n ops Q aZ (i::bZ) E w0:=λ a ha =>
  ⟨_,ar, .inr (.inl ⟨av,v, .inl ⟨AU rfl,λ w=>hr w n a ha⟩,h _ (ha.put hd v)⟩)⟩
theorem UD {o:Oper} (aM:o.guard=none) (ar:ops[i]? =some o) (av:aZ i=2) (h:∀ w,Ext w0 w→DR P n ops o E w λ cR w'=>o_ fP fR w0 w'∧xV fP fR P n ops Q aZ bZ cR w'):xV fP fR P n ops Q aZ (i::bZ) E w0:=λ a ha =>
  ⟨_,ar, .inr (.inr ⟨by omega,λ w hw=>HY aM ar (h w hw) (λ cR w' a' av q_=>⟨λ _=>av.1,av.2 a' q_⟩) ha⟩)⟩
theorem Up {o:Oper} (aM:o.guard=none) (ar:ops[i]? =some o) (av:aZ i=3) (h:∀ w,Ext w0 w→DR P n ops o E w λ cR w'=>xV fP fR P n ops Q aZ bZ cR w'):xV fP fR P n ops Q aZ (i::bZ) E w0:=λ a ha =>
  ⟨_,ar, .inr (.inr ⟨by omega,λ w hw=>HY aM ar (h w hw) (λ cR w' a' av q_=>⟨λ ab=>by omega,av a' q_⟩) ha⟩)⟩
end
end
section
theorem Xp {β:Type} {cur old part:List β} {p s j:Nat} (b1:old.length=s) (ay:j+part.length≤s) (hc:p+s≤cur.length) (h:∀ m,m<s→cur[p+m]? =old[m]?):
  cur.take p++(old.take j++part++old.drop (j+part.length))++cur.drop (p+(old.take j++part++old.drop (j+part.length)).length)=cur.take (p+j)++part++cur.drop (p+j+part.length):=by
 have az:(old.take j++part++old.drop (j+part.length)).length=s:=by simp only [aQU,aQP,aQ6];omega
 rw [az];apply aSm;intro k;by_cases γ:k<p
 ·rw [aRp,aQ5 (by rw [aQP];omega),aRp,aQ5 (by rw [aQP];omega),aRq,aRq,aQZ γ,aQZ (by omega)]
 ·by_cases ab:k<p+s
  ·rw [aRp,aQ8 (by rw [aQP];omega),aQ5 (by rw [az,aQP];omega),aQP];obtain ⟨m,rfl⟩:∃ m,k=p+m:=⟨k - p,by omega⟩;rw [show p+m - min p cur.length=m from by omega];by_cases aw:m<j
   ·rw [aRp,aQ5 (by rw [aQP];omega),aRp,aQ5 (by rw [aQP];omega),aRq,aRq,aQZ aw,aQZ (by omega),h m (by omega)]
   ·by_cases aX:m<j+part.length
    ·rw [aRp,aQ8 (by rw [aQP];omega),aQ5 (by rw [aQP];omega),aRp,aQ8 (by rw [aQP];omega),aQ5 (by rw [aQP];omega),aQP,aQP];congr 1;omega
    ·rw [aQ8 (by simp only [aQU,aQP];omega),aRR,aQ8 (by simp only [aQU,aQP];omega),aRR];simp only [aQU,aQP];rw [show p+j+part.length+(p+m - (min (p+j) cur.length+part.length))=p+m from by omega,h m (by omega)];congr 1;omega
  ·rw [aQ8 (by simp only [aQU,aQP,aQ6];omega),aRR,aQ8 (by simp only [aQU,aQP];omega),aRR];simp only [aQU,aQP,aQ6];congr 1;omega
section
variable {P:Program} {n:Nat} {E cR:List (Nat×Value)} {a:Act} {w w' w0 aP:World} {Q:Exit→Act→World→Prop} {ops:Array Oper} {v:Value}
variable {d:Option Nat} {ty:TypeId} {pos:String} {af:Array Edge} {g:Option (Nat×Bool)} {x y z:Operand} {t:TypeId} {rest:List Oper}
theorem aBN {α:Type} {R:τ α} {e by_ B i j:Nat} {A:Option Addr} {c:Nat} {l:List α} {q q':α} {p:Addr} {old part es:List Value} (h:R.aG e by_ w B (τ.ae A) A c l) (hR:R.v7) (ar:l[i]? =some q) (hold:∀ {w cs},R.has w cs q→cs=old) (hx:ev E x=some (.pointer (some p))) (hp:p=⟨eM A,kb A+i * R.size+j,none⟩) (aK:ev E y=some v) (hc:v.cells=part.toArray)
  (ay:Nat.ble (j+part.length) R.size=true) (Et:es=old.take j++part++old.drop (j+part.length)) (I:∀ w,R.has w es q') (hs:eF P t part.length)
  (av:∀ aP,Mod (τ.ae A) w aP→R.aG e by_ aP B (τ.ae A) A c (l.set i q')→cE P n ops Q rest E aP):cE P n ops Q (⟨none, .store t x y,ty,pos,af,none⟩::rest) E w:=by
 have G7:i<l.length:=(aQM.1 ar).1;obtain ⟨b,rfl⟩:=h.block (by omega);have KN:p=⟨b,i * R.size+j,none⟩:=by rw [hp];simp [eM,kb]
 subst KN;obtain ⟨_,ps,_,_,b1,_⟩:=id h;obtain ⟨cur,tH,_,_⟩:=b1.ab1;obtain ⟨rr,hle⟩:=τ.aG.ajS (q':=q') h hR G7 I tH;obtain ⟨pc,HD,Ek,fq⟩:=h.has.at_ (by omega);injection Ek with Ek
 injection Ek with cK bu
 subst cK bu;obtain ⟨GA,afj,jg⟩:=fq i q ar;obtain rfl:=hold afj;have avv:GA.length=R.size:=R.len afj;have afC:es.length=R.size:=R.len (I w);have KA:=aSR ay;have rh:∀ m,m<R.size→cur.toList[i * R.size+m]? =GA[m]? :=λ m hm=>by
  have hu:GA[m]? =some GA[m]:=aQN (by omega);have:=jg m GA[m] hu;rw [hu];simpa [World.cell?,tH] using this
 have awd:=Xp (cur:=cur.toList) (old:=GA) (part:=part) (p:=i * R.size) (s:=R.size) (j:=j) avv KA (by rw [afC] at hle;exact hle) rh;have mm:part.all (·.oneCell')=true:=aRD.2 λ u hu=>R.one (I w) u (by rw [Et];simp [hu]);have hQ:=XQ (P:=P) (w:=w) (b:=b) (p:=i * R.size+j) (cur:=cur.toList) (e:=e) (by simpa [aQ] using tH) hc hs mm (by rw [afC] at hle;omega);rw [← awd,← Et] at hQ;refine us (λ n a ha=> ?_) (av _ (Mod.setRow w b _) rr);simp only [execOp,ha.ev hx,ha.ev aK,Instr.storeAt,Instr.sureAddr,aQY,aQ3,aQR,hQ]
end
end
section
section
variable {P:Program} {n:Nat} {E:List (Nat×Value)} {w w':World} {Q:Exit→Act→World→Prop} {ops:Array Oper} {ty:TypeId} {pos:String} {af:Array Edge} {rest:List Oper} {x y z:Operand} {t u:TypeId} {v iy:Value} {d:Option Nat} {g:Option (Nat×Bool)}
def Bk (P:Program) (w:World) (t:TypeId) (v:Value) (name:String) (f:FuncId) (iy:Value):Prop:=(Go.method (P.types.size+Made.depth) t v name).run P w= .ok (f,iy) w
theorem ajK {f:FuncId} {name:String} (hf:Enters P f) {xs:Array Operand} {ts:Array TypeId} {args:List Value} {a:Act} (ha:ek n E a) (hr:ev E x=some (.iface t v)) (he:g_ E xs.toList=some args) (hm:Bk P w t v name f iy):
  (execOp a.eval ⟨d, .call {callee:= .invoke x name,args:=xs,argTypes:=ts},ty,pos,af,g⟩).run P w= .ok (.enter f (iy::args).toArray) w:=by
 obtain ⟨fn,γ,ab,aw⟩:=hf;have hx:xs.map a.eval=args.toArray:=by rw [← ha.g_ he];apply aSh;simp
 unfold Bk at hm;have e0:(#[(Value.iface t v)]++args.toArray)[0]? =some (.iface t v):=by simp
 have a_:(#[(Value.iface t v)]++args.toArray).extract 1 (#[(Value.iface t v)]++args.toArray).size=args.toArray:=by simp
 have bh:#[iy]++args.toArray=(iy::args).toArray:=by simp
 have hp:Sem.run P program w= .ok P w:=rfl;simp only [execOp,resolve,hx,ha.ev hr,aQY,aQ3,aQR,invoke,e0,a_,callMethod,callFunc,hp,hm,γ,ab,aw,bh,aRr,aRZ]
theorem gU {d:Nat} {f:FuncId} {name:String} (hf:Enters P f) {xs:Array Operand} {ts:Array TypeId} {args:List Value} (hr:ev E x=some (.iface t v)) (he:g_ E xs.toList=some args) (hm:Bk P w t v name f iy) (hd:Nat.blt d n=true)
  (h:Calls P f (iy::args).toArray w λ e w'=>∃ v,e= .returned v∧cE P n ops Q rest ((d,v)::E) w'):cE P n ops Q (⟨some d, .call {callee:= .invoke x name,args:=xs,argTypes:=ts},ty,pos,af,none⟩::rest) E w:=λ a ha=>by
 refine Ga Z ?_;unfold Oper.wp;rw [ajK hf ha hr he hm];refine aUQ h λ e w' fM=> ?_;obtain ⟨v,rfl,h⟩:=fM;exact h _ (ha.put hd v)
theorem agw {d:Nat} {f:FuncId} {name:String} {xs:Array Operand} {ts:Array TypeId} {args:List Value} {j:Nat} {q b c:Bool} {c9:Oper} {jq:Nat} {v0:Value} (ay:ops[j]? =some c9) (mX:c9.dst=some jq) (Φ:look E jq=some (.bool b)) (hc:(b == q)=c)
  (hf:Enters P f) (hx:c=true→ev E x=some (.iface t v0)) (he:c=true→g_ E xs.toList=some args) (hm:Bk P w t v0 name f iy) (hr:c=true→Calls P f (iy::args).toArray w λ e w'=>e= .returned v∧Ext w w') (hd:Nat.blt d n=true)
  (h:∀ w',Ext w w'→cE P n ops Q rest ((d,h0 c v)::E) w'):cE P n ops Q (⟨some d, .call {callee:= .invoke x name,args:=xs,argTypes:=ts},ty,pos,af,some (j,q)⟩::rest) E w :=
 RI (c:=c) (λ a ha=>by rw [C3 (o:=⟨some d,_,ty,pos,af,some (j,q)⟩) rfl ay mX Φ ha,hc])
  (λ hc a ha=>by unfold Oper.wp;rw [ajK hf ha (hx hc) (he hc) hm];exact (hr hc).mono λ e w' ⟨γ,awB⟩=>by subst γ;subst hc;exact h w' awB _ (ha.put hd v)) (λ hc a ha=>by subst hc;exact h w (Ext.bI w) _ (ha.put hd undef))
theorem Qv (hr:∀ w,(Instr.makeInterface t v).run P w= .ok (.iface t v) w) (hx:ev E x=some v):cN P E ⟨d, .makeInterface t x,ty,pos,af,g⟩ w (.iface t v) w:=λ n a ha=>by
 simp only [execOp,ha.ev hx,aQY,hr w,aQR,aQ3]
theorem akz {t':TypeId} (hr:∀ w,(Instr.typeAssert (.iface t v) t' t false).run P w= .ok v w) (hx:ev E x=some (.iface t v)):cN P E ⟨d, .typeAssert x t' t false,ty,pos,af,g⟩ w v w:=λ n a ha=>by
 simp only [execOp,ha.ev hx,aQY,hr w,aQR,aQ3]
theorem yS {e:TypeId} {p:Addr} {name:String} {f:FuncId} (h:(Go.method (P.types.size+Made.depth) t (.pointer (some p)) name).run P w=(loadVar e p >>= λ x=>pure (f,x)).run P w) (az:k2 P w e p v):Bk P w t (.pointer (some p)) name f v:=by
 unfold Bk;unfold k2 at az;rw [h];simp only [aQY,az,aQR,aQ3]
end
end
section
namespace ct
section
variable {α:Type} [Inhabited α] {key:α→Int} {lm l:List α} {m N n:Nat}
theorem aC8 (h:(((((m - 1) / 2:Nat):Int)== (m:Int)) || !decide (key (lm.getD m default)<key (lm.getD ((m - 1) / 2) default)))=true):pU key lm m=lm:=by
 unfold pU;rw [aQV];rintro ⟨γ,ab⟩;simp only [aRv,aRK,aR4,aRu] at h;rcases h with h | h
 ·omega
 ·exact h ab
theorem aC9 (h:(((((m - 1) / 2:Nat):Int)== (m:Int)) || !decide (key (lm.getD m default)<key (lm.getD ((m - 1) / 2) default)))=false):0<m∧pU key lm m=pU key (swp lm ((m - 1) / 2) m) ((m - 1) / 2):=by
 simp only [aRy,aS0,aSv,aRg] at h;have hm:0<m:=by
  rcases aTB m with aF | aF
  ·subst aF;exact absurd Z h.1
  ·exact aF
 refine ⟨hm, ?_⟩
 conv=>lhs;unfold pU
 rw [aQZ ⟨hm,h.2⟩]
theorem aqm (h:(decide ((N:Int)≤2 * (m:Int)+1) || decide (2 * (m:Int)+1<0))=true):jK key N l m=l:=by
 unfold jK;rw [aQV];simp only [aRv,aRg] at h;omega
theorem aqn (h:(decide ((N:Int)≤2 * (m:Int)+1) || decide (2 * (m:Int)+1<0))=false):2 * m+1<N:=by
 simp only [aRy,aRu] at h;omega
theorem ayf (h:(decide (2 * (m:Int)+1+1<(N:Int)) && decide (key (l.getD (2 * m+1+1) default)<key (l.getD (2 * m+1) default)))=true):nO key N l m=2 * m+2:=by
 simp only [aQT,aRg] at h;unfold nO;rw [aQZ ⟨by omega,h.2⟩]
theorem ayd {q:Bool} (h:(decide (2 * (m:Int)+1+1<(N:Int)) && q)=true):2 * m+2<N:=by
 simp only [aQT,aRg] at h;omega
theorem aye (h:(decide (2 * (m:Int)+1+1<(N:Int)) && decide (key (l.getD (2 * m+1+1) default)<key (l.getD (2 * m+1) default)))=false):nO key N l m=2 * m+1:=by
 unfold nO;rw [aQV];rintro ⟨γ,ab⟩;rw [aRi (show 2 * (m:Int)+1+1<(N:Int) by omega),aRi (show key (l.getD (2 * m+1+1) default)<key (l.getD (2 * m+1) default) from ab)] at h;cases h
theorem acX {j:Nat} (γ:2 * m+1<N) (az:nO key N l m=j) (h:(!decide (key (l.getD j default)<key (l.getD m default)))=true):jK key N l m=l:=by
 unfold jK;rw [aQV];rw [az];rintro ⟨_,ab⟩;rw [aRi ab] at h;cases h
theorem acY {j:Nat} (γ:2 * m+1<N) (az:nO key N l m=j) (h:(!decide (key (l.getD j default)<key (l.getD m default)))=false):jK key N l m=jK key N (swp l m j) j:=by
 conv=>lhs;unfold jK
 rw [az,aQZ ⟨γ,by simpa using h⟩]
end
end ct
theorem aCq (m:Nat):Int.tdiv ((m:Int) - 1) 2=(((m - 1) / 2:Nat):Int):=by
 cases m with
 | zero=>rfl
 | succ m =>
  rw [show ((m+1:Nat):Int) - 1=(m:Int) by omega,aVa (by omega)];simp
section
variable {P:Program} {n:Nat} {E:List (Nat×Value)} {w:World} {ty:TypeId} {pos:String} {af:Array Edge} {x y:Operand} {t u:TypeId} {d:Option Nat} {g:Option (Nat×Bool)}
theorem aoz {k:IntKind} {i j r:Int} (hx:ev E x=some (.int k i)) (aK:ev E y=some (.int k j)) (γ:j≠0) (hr:Int.tdiv i j=r) (hw:k.wrap r=r):cN P E ⟨d, .binOp .quo t x y u,ty,pos,af,g⟩ w (.int k r) w:=nW hx aK (binOp_quo t k i j) (by
 subst hr;have:Op.intDiv .quo k i j=pure (.int k (Int.tdiv i j)):=by simp [Op.intDiv,γ,hw]
 rw [this];rfl)
end
end
section
theorem ans:fh prog b9.rep 263 313 32:=fh.lF (z:=b9.zero) (k:=4) underlying263 b9.info rfl rfl (by decide) b9.iC
theorem Ep {w:World} {cs:List Value} {a:b9} (h:b9.rep.has w cs a):cs=a.cells:=aSO (show cs=a.cells∧a.ok from h)
theorem MF (A:Option Addr) (n c:Nat) (w:World):
  Calls prog 219 #[.slice A n c] w (λ e w'=>e= .returned (.int .i64 (n:Int))∧Ext w w'):=by
 refine cd (n:=5) func219 Z Z Z ?_;refine aj<|va Z<|ai<|aj<|vm Z<|J (cu underlying263 Z)<|va Z<|ai<|rt<|bb (.tmp Z .nil)<| ?_;exact ⟨Z,(Ext.bI w)⟩
theorem RN (A:Option Addr) (n c:Nat) (l:List b9) (i j:Int) (p q:Nat) (w:World) (az:b9.rep.aI 32 w A c l) (hn:l.length=n) (ar:i=(p:Int)) (ay:j=(q:Int)) (hp:p<n) (I:q<n):
  Calls prog 265 #[.slice A n c, .int .i64 i, .int .i64 j] w (λ e w'=>e= .returned (.bool (decide ((l.getD p default).all<(l.getD q default).all)))∧Ext w w'):=by
 refine cd (n:=18) func265 Z Z Z ?_;refine aj<|va Z<|ai<|aB<| ?_;refine rd [(4,0),(9,0)] [0,1,2,3,4,5,6,7,8,9,10,11] (by kernel_rfl) (by kernel_rfl) ?_;refine aq Z (λ _=>aH Z)<|aq Z (λ _=>aH Z)<|aq Z (λ _=>b5 i.toNat underlying263 oq Z Z ((az.keep (Ext.bI w)).bL (a7 i.toNat)) (by omega) (by omega))<|aq Z (λ _=>au OS Z)<|bE Z (λ _ x=>ao Z (τ.aI.jN Ep ((az.keep (κ (Ext.bI w) x)).cA (a7 i.toNat)) 3 (df (l:=l) (u:=default) (by omega)) Z bd))<|aq Z (λ _=>aH Z)<|aq Z (λ _=>aH Z)<|aq Z (λ _=>b5 j.toNat underlying263 oq Z Z ((az.keep (Ext.bI w)).bL (a7 j.toNat)) (by omega) (by omega))<|aq Z (λ _=>au OS Z)<|bE Z (λ _ x=>ao Z (τ.aI.jN Ep ((az.keep (κ (Ext.bI w) x)).cA (a7 j.toNat)) 3 (df (l:=l) (u:=default) (by omega)) Z bd))<|aq Z (λ _=>blt Z Z)<|aq Z (λ _=>eY Z)<|fn λ cO e7=> ?_;have:=e7.size;have bk:=κ (Ext.bI w) e7;refine aV<|rt<|bb (.tmp Z .nil)<| ?_;subst ar ay;exact ⟨by simp only [aRI];rfl,bk⟩
theorem RO (A:Option Addr) (n c aC:Nat) (l:List b9) (i j:Int) (p q:Nat) (w:World) (aT:b9.rep.aG 313 32 w aC (τ.ae A) A c (l)) (ea:∀ y∈l,y.ok) (hn:l.length=n) (ar:i=(p:Int)) (ay:j=(q:Int)) (hp:p<n) (I:q<n):
  Calls prog 266 #[.slice A n c, .int .i64 i, .int .i64 j] w (λ e w'=>e= .returned (.tuple #[])∧b9.rep.aG 313 32 w' aC (τ.ae A) A c (ct.swp l p q)∧Mod (τ.ae A) w w'):=by
 have CN:=λ q I=>(aT.lt q I).2;refine cd (n:=20) func266 Z Z Z ?_;refine rd [(7,0),(11,0),(13,3),(15,3)] [0,1,2,3,4,5,6,7,8,9,10,11,12,13,14,15] (by kernel_rfl) (by kernel_rfl) ?_;refine aq Z (λ _=>aH Z)<|aq Z (λ _=>aH Z)<|aq Z (λ _=>aH Z)<|aq Z (λ _=>aH Z)<|aq Z (λ _=>aH Z)<|aq Z (λ _=>aH Z)<|aq Z (λ _=>b5 j.toNat underlying263 oq Z Z (aT.has.bL (a7 j.toNat (by first | omega | (rw [aQS];omega)))) (by omega) (by first | omega | (rw [aQS];omega)))<|bE Z (λ _ x=>ao Z (τ.aI.hE Ep ((aT.later x).has.cA (a7 j.toNat (by first | omega | (rw [aQS];omega)))) (df (l:=l) (u:=default) (by first | omega | (rw [aQS];omega))) Oz oq))<|aq Z (λ _=>aH Z)<|aq Z (λ _=>aH Z)<|aq Z (λ _=>b5 i.toNat underlying263 oq Z Z (aT.has.bL (a7 i.toNat (by first | omega | (rw [aQS];omega)))) (by omega) (by first | omega | (rw [aQS];omega)))<|bE Z (λ _ x=>ao Z (τ.aI.hE Ep ((aT.later x).has.cA (a7 i.toNat (by first | omega | (rw [aQS];omega)))) (df (l:=l) (u:=default) (by first | omega | (rw [aQS];omega))) Oz oq))<|aq Z (λ _=>b5 i.toNat underlying263 oq Z Z (aT.has.bL (a7 i.toNat (by first | omega | (rw [aQS];omega)))) (by omega) (by first | omega | (rw [aQS];omega)))<|eo Z Z Z λ cO e7 Q hK=>Md (q':=l.getD j.toNat default) (i:=i.toNat) (es:= [.int .i64 ((l.getD j.toNat default).cell.x), .int .i64 ((l.getD j.toNat default).cell.y), .int .i64 ((l.getD j.toNat default).a8), .int .i64 ((l.getD j.toNat default).all)]) (aT.later e7) τ.dC (by first | omega | (rw [aQS];omega)) Z Z Z Z (λ _=>⟨Z,(ea _ (jj (by omega)))⟩) oq λ alb Hz Je=>hK _ _ ?_;have:=e7.size;have bk:=(Mod.bI (τ.ae A) w).trans (Mod.bD e7);have:=Hz.size;have MS:=bk.md Hz (λ q I=> .inl I);refine aq Z (λ _=>b5 j.toNat underlying263 oq Z Z (Je.has.bL (a7 j.toNat (by first | omega | (rw [aQS];omega)))) (by omega) (by first | omega | (rw [aQS];omega)))<|eo Z Z Z λ vI bm Q hK=>Md (q':=l.getD i.toNat default) (i:=j.toNat) (es:= [.int .i64 ((l.getD i.toNat default).cell.x), .int .i64 ((l.getD i.toNat default).cell.y), .int .i64 ((l.getD i.toNat default).a8), .int .i64 ((l.getD i.toNat default).all)]) (Je.later bm) τ.dC (by first | omega | (rw [aQS];omega)) Z Z Z Z (λ _=>⟨Z,(ea _ (jj (by omega)))⟩) oq λ uj Ax DL=>hK _ _ ?_;have:=bm.size;have kk:=MS.trans (Mod.bD bm);have:=Ax.size;have jB:=kk.md Ax (λ q I=> .inl I);refine fn λ Mn lM=> ?_;have:=lM.size;have sS:=jB.trans (Mod.bD lM);refine ne<|bb .nil<| ?_;have DL:=DL.later lM;subst ar ay;simp only [aRI] at DL;exact ⟨Z,DL,sS⟩
theorem aEi (b:Nat) (A:Option Addr) (n c aC:Nat) (l:List b9) (v0 v1 v2 v3 v4 v5:Value) (j:Nat) (w:World) (aL:aQ w b [v0,v1,v2,v3,v4,v5, .slice A n c] 265 (0,0)) (aT:b9.rep.aG 313 32 w aC (τ.ae A) A c (l)) (ea:∀ y∈l,y.ok) (hn:l.length=n) (hd:∀ q∈τ.ae A,q=b→False) (ay:j<n):
  Calls prog 239 #[.iface 311 (.pointer (some ⟨b,6,none⟩)), .int .i64 (j:Int)] w (λ e w'=>e= .returned (.tuple #[])∧aQ w' b [v0,v1,v2,v3,v4,v5, .slice A n c] 265 (0,0)∧b9.rep.aG 313 32 w' aC (τ.ae A) A c (ct.pU b9.all l j)∧Mod (τ.ae A) w w'):=by
 have CN:=λ q I=>(aT.lt q I).2;have xl:=aL.lt;have KG:=aT.has.2.1;have Cd:=aT.has.d_;have KH:=aT.has.1;refine cd (n:=23) func239 Z Z Z ?_;refine bR<| ?_;refine fg (λ cm cl a6=>∃ lm:List b9,∃ m:Nat,cl= [(0, .iface 311 (.pointer (some ⟨b,6,none⟩))),(1, .int .i64 (m:Int))]∧cm=(2 * m)∧Mod (τ.ae A) w a6∧aQ a6 b [v0,v1,v2,v3,v4,v5, .slice A n c] 265 (0,0)∧b9.rep.aG 313 32 a6 aC (τ.ae A) A c (lm)∧(m<n)∧(lm.length=n)∧(∀ y∈lm,y.ok)∧(ct.pU b9.all lm m=ct.pU b9.all l j)∧(∀ q∈τ.ae A,q=b→False)) _ _ ⟨l,j,Z,Z,(Mod.bI (τ.ae A) w),aL,aT,by omega,by omega,ea,rfl,(λ q I Φ=>by (exact hd q I Φ))⟩ (vE Z) ?_;rintro LK IJ ke ⟨lm,m,rfl,rfl,cS,aL,iV,hm,avu,Ex,mn,DZ⟩;have:=cS.size;have aAG:=aL.lt;have akO:=λ q I=>(iV.lt q I).2;refine bR<|aj<|vm Z<|J (lV Z Z (bG (by omega)))<|J (aoz (r:=(((m - 1) / 2:Nat):Int)) Z Z (by decide) (aCq m) (bG (by omega)))<|va Z<|ai<|aB<|aj<|vm Z<|vm Z<|J (beq Z Z)<|vm Z<|aO Z Z Z Z (λ hc=>aH Z) Z<|aO Z Z Z Z (λ hc=>aH Z) Z<|aO Z Z Z Z (λ hc=>aH Z) Z<|agw Z Z Z Z OD (λ hc=>(gt hc Z)) (λ hc=>fp (gt hc Z) (fp (gt hc Z) Z)) (yS (e:= 263) (by kernel_rfl) (aL.one pg Z)) (λ hc=>RN _ _ _ lm (m:Int) ((((m - 1) / 2:Nat):Int)) m ((m - 1) / 2) _ iV.has (by omega) (by omega) (by omega) (by first | omega | (simp only [cv] at hc;omega)) (by first | omega | (simp only [cv] at hc;omega))) Z λ eA cF=> ?_;have:=cF.size;have bO:=cS.trans (Mod.bD cF);refine aO Z Z Z Z (λ hc=>eg (gt hc Z)) Z<|J (ez Z Z Z Z)<|ai<| ?_;refine dT Z (λ ks=> ?_) (λ ks=> ?_)
 ·have hex:=ct.aC8 (key:=b9.all) ks;rw [hex] at mn;refine dN<|dL<|ME Z<|ed<|dK<|ne<|bb .nil<| ?_;have iV:=iV.later cF;have aL:=aL.later cF;exact ⟨Z,aL,by rw [← mn];exact iV,bO⟩
 ·obtain ⟨Cb,tJ⟩:=ct.aC9 (key:=b9.all) ks;refine bs<|aj<|vm Z<|vm Z<|vm Z<| ?_;have aL:=aL.later cF;have iV:=iV.later cF;refine gU OE Z Z (yS (e:= 263) (by kernel_rfl) (aL.one pg Z)) Z ((RO _ _ _ _ lm ((((m - 1) / 2:Nat):Int)) (m:Int) ((m - 1) / 2) m _ iV Ex (by omega) (by omega) (by omega) (by omega) (by omega)).mono ?_);rintro e Fh ⟨rfl,anf,Ct⟩;refine ⟨_,Z, ?_⟩;have:=Ct.size;have sR:=bO.md Ct (λ q I=> .inl I);have avO:∀ y∈ct.swp lm ((m - 1) / 2) m,y.ok:=λ y aK=>Ex y ((ct.CK (by omega) (by omega)).subset aK);have avn:(ct.swp lm ((m - 1) / 2) m).length=n:=by rw [ct.l1];omega
  refine ai<|rg<|vm Z<|va Z<|nl<|bX<| ?_;have aL:=aL.mod Ct (λ I=>DZ _ I rfl);exact c' _ _ ⟨ct.swp lm ((m - 1) / 2) m,(m - 1) / 2,Z,Z,sR,aL,anf,by omega,avn,avO,tJ.symm.trans mn,(λ q I Φ=>by (exact DZ q I Φ))⟩ (by omega) (.cons Z (.cons (b2 Z (by first | omega | rfl | (simp<;>omega))) .nil))
theorem aEd (b:Nat) (A:Option Addr) (n c aC:Nat) (l:List b9) (v0 v1 v2 v3 v4 v5:Value) (i N:Nat) (w:World) (aL:aQ w b [v0,v1,v2,v3,v4,v5, .slice A n c] 265 (0,0)) (aT:b9.rep.aG 313 32 w aC (τ.ae A) A c (l)) (ea:∀ y∈l,y.ok) (hn:l.length=n) (hd:∀ q∈τ.ae A,q=b→False) (ar:i<n) (atM:N≤n) (Pu:n≤1000000):
  Calls prog 240 #[.iface 311 (.pointer (some ⟨b,6,none⟩)), .int .i64 (i:Int), .int .i64 (N:Int)] w (λ e w'=>(∃ v,e= .returned (.bool v))∧aQ w' b [v0,v1,v2,v3,v4,v5, .slice A n c] 265 (0,0)∧b9.rep.aG 313 32 w' aC (τ.ae A) A c (ct.jK b9.all N l i)∧Mod (τ.ae A) w w'):=by
 have CN:=λ q I=>(aT.lt q I).2;have xl:=aL.lt;have KG:=aT.has.2.1;have Cd:=aT.has.d_;have KH:=aT.has.1;refine cd (n:=48) func240 Z Z Z ?_;refine aj<|va Z<|ai<|aj<|vm Z<|va Z<|ai<|aB<|bR<| ?_;refine fg (λ cm cl a6=>∃ lm:List b9,∃ m:Nat,cl= [(0, .iface 311 (.pointer (some ⟨b,6,none⟩))),(1, .int .i64 (i:Int)),(2, .int .i64 (N:Int)),(6, .bool false),(7, .int .i64 (m:Int))]∧cm=N - m∧Mod (τ.ae A) w a6∧aQ a6 b [v0,v1,v2,v3,v4,v5, .slice A n c] 265 (0,0)∧b9.rep.aG 313 32 a6 aC (τ.ae A) A c (lm)∧(m<n)∧(lm.length=n)∧(∀ y∈lm,y.ok)∧(ct.jK b9.all N lm m=ct.jK b9.all N l i)∧(∀ q∈τ.ae A,q=b→False)) _ _ ⟨l,i,Z,Z,(Mod.bI (τ.ae A) w),aL,aT,by omega,by omega,ea,rfl,(λ q I Φ=>by (exact hd q I Φ))⟩ (vE Z) ?_;rintro LK IJ ke ⟨lm,m,rfl,rfl,cS,aL,iV,hm,avu,Ex,mn,DZ⟩;have:=cS.size;have aAG:=aL.lt;have akO:=λ q I=>(iV.lt q I).2;refine bR<|aj<|vm Z<|J (yc Z Z (bG (by omega)))<|J (bad Z Z (bG (by omega)))<|va Z<|ai<|aB<|aj<|vm Z<|vm Z<|J (iI Z Z)<|vm Z<|aO Z Z Z Z (λ hc=>aH Z) Z<|aO Z Z Z Z (λ hc=>blt (gt hc Z) Z) Z<|J (ez Z Z Z Z)<|ai<| ?_;refine dT Z (λ qg=> ?_) (λ qg=> ?_)
 ·have hex:=ct.aqm (key:=b9.all) (l:=lm) qg;rw [hex] at mn;refine dN<|dL<|ME Z<|ed<|dK<|aV<|aj<|vm Z<|vm Z<|J (iu Z Z)<|va Z<|ai<|rt<|bb (.tmp Z .nil)<| ?_
  skip
  exact ⟨⟨_,Z⟩,aL,by rw [← mn];exact iV,cS⟩
 ·have sf:=ct.aqn qg;refine bs<|aj<|vm Z<|va Z<|ai<|aB<|aj<|vm Z<|J (bad Z Z (bG (by omega)))<|va Z<|ai<|aj<|vm Z<|vm Z<|J (blt Z Z)<|vm Z<|aO Z Z Z Z (λ hc=>aH Z) Z<|aO Z Z Z Z (λ hc=>aH Z) Z<| ?_;refine aO Z Z Z Z (λ hc=>aH Z) Z<|agw Z Z Z Z OD (λ hc=>(gt hc Z)) (λ hc=>fp (gt hc Z) (fp (gt hc Z) Z)) (yS (e:= 263) (by kernel_rfl) (aL.one pg Z)) (λ hc=>RN _ _ _ lm (((2 * (m:Int))+1)+1) ((2 * (m:Int))+1) (((2 * m)+1)+1) ((2 * m)+1) _ iV.has (by omega) (by omega) (by omega) (by first | omega | (simp only [cv] at hc;omega)) (by first | omega | (simp only [cv] at hc;omega))) Z λ vI bm=> ?_;have:=bm.size;have kk:=cS.trans (Mod.bD bm);refine J (di Z Z Z Z)<|ai<| ?_;refine dT Z (λ qf=> ?_) (λ qf=> ?_)
  ·have iK:=ct.ayf (key:=b9.all) (l:=lm) (m:=m) qf;have aeZ:=ct.ayd qf;refine rg<|vm Z<|va Z<|ai<|aB<|aj<|vm Z<|vm Z<|vm Z<| ?_;have aL:=aL.later bm;have iV:=iV.later bm;refine gU OD Z Z (yS (e:= 263) (by kernel_rfl) (aL.one pg Z)) Z ((RN _ _ _ lm (((2 * (m:Int))+1)+1) (m:Int) (((2 * m)+1)+1) m _ iV.has (by omega) (by omega) (by omega) (by first | omega | (simp only [cv] at hc;omega)) (by first | omega | (simp only [cv] at hc;omega))).mono ?_);rintro e y8 ⟨rfl,l2⟩;refine ⟨_,Z, ?_⟩;have:=l2.size;have iB:=kk.trans (Mod.bD l2);refine J (eg Z)<|ai<| ?_;refine dT Z (λ pn=> ?_) (λ pn=> ?_)
   ·have hex:=ct.acX (key:=b9.all) sf iK pn;rw [hex] at mn;refine dN<|dL<|ME Z<|ed<|dK<|aV<|aj<|vm Z<|vm Z<|J (iu Z Z)<|va Z<|ai<|rt<|bb (.tmp Z .nil)<| ?_
    skip
    have iV:=iV.later l2;have aL:=aL.later l2;exact ⟨⟨_,Z⟩,aL,by rw [← mn];exact iV,iB⟩
   ·have tJ:=ct.acY (key:=b9.all) sf iK pn;refine bs<|aj<|vm Z<|vm Z<|vm Z<| ?_;have aL:=aL.later l2;have iV:=iV.later l2;refine gU OE Z Z (yS (e:= 263) (by kernel_rfl) (aL.one pg Z)) Z ((RO _ _ _ _ lm (m:Int) (((2 * (m:Int))+1)+1) m (((2 * m)+1)+1) _ iV Ex (by omega) (by omega) (by omega) (by omega) (by omega)).mono ?_);rintro e H9 ⟨rfl,x5,EN⟩;refine ⟨_,Z, ?_⟩;have:=EN.size;have uA:=iB.md EN (λ q I=> .inl I);have avP:∀ y∈ct.swp lm m (((2 * m)+1)+1),y.ok:=λ y aK=>Ex y ((ct.CK (by omega) (by omega)).subset aK);have avo:(ct.swp lm m (((2 * m)+1)+1)).length=n:=by rw [ct.l1];omega
    refine ai<|rg<|vm Z<|va Z<|nl<|bX<| ?_;have aL:=aL.mod EN (λ I=>DZ _ I rfl);exact c' _ _ ⟨ct.swp lm m (((2 * m)+1)+1),2 * m+2,Z,Z,uA,aL,x5,by omega,avo,avP,tJ.symm.trans mn,(λ q I Φ=>by (exact DZ q I Φ))⟩ (by omega) (.cons Z (.cons Z (.cons Z (.cons Z (.cons (b2 Z (by first | omega | rfl | (simp<;>omega))) .nil)))))
  ·have iK:=ct.aye (key:=b9.all) (l:=lm) (m:=m) qf;refine bs<|aB<|aj<|vm Z<|vm Z<|vm Z<| ?_;have aL:=aL.later bm;have iV:=iV.later bm;refine gU OD Z Z (yS (e:= 263) (by kernel_rfl) (aL.one pg Z)) Z ((RN _ _ _ lm ((2 * (m:Int))+1) (m:Int) ((2 * m)+1) m _ iV.has (by omega) (by omega) (by omega) (by first | omega | (simp only [cv] at hc;omega)) (by first | omega | (simp only [cv] at hc;omega))).mono ?_);rintro e xx ⟨rfl,iQ⟩;refine ⟨_,Z, ?_⟩;have:=iQ.size;have jC:=kk.trans (Mod.bD iQ);refine J (eg Z)<|ai<| ?_;refine dT Z (λ Vc=> ?_) (λ Vc=> ?_)
   ·have hex:=ct.acX (key:=b9.all) sf iK Vc;rw [hex] at mn;refine dN<|dL<|ME Z<|ed<|dK<|aV<|aj<|vm Z<|vm Z<|J (iu Z Z)<|va Z<|ai<|rt<|bb (.tmp Z .nil)<| ?_
    skip
    have iV:=iV.later iQ;have aL:=aL.later iQ;exact ⟨⟨_,Z⟩,aL,by rw [← mn];exact iV,jC⟩
   ·have tJ:=ct.acY (key:=b9.all) sf iK Vc;refine bs<|aj<|vm Z<|vm Z<|vm Z<| ?_;have aL:=aL.later iQ;have iV:=iV.later iQ;refine gU OE Z Z (yS (e:= 263) (by kernel_rfl) (aL.one pg Z)) Z ((RO _ _ _ _ lm (m:Int) ((2 * (m:Int))+1) m ((2 * m)+1) _ iV Ex (by omega) (by omega) (by omega) (by omega) (by omega)).mono ?_);rintro e Rw ⟨rfl,s6,EP⟩;refine ⟨_,Z, ?_⟩;have:=EP.size;have zc:=jC.md EP (λ q I=> .inl I);have avQ:∀ y∈ct.swp lm m ((2 * m)+1),y.ok:=λ y aK=>Ex y ((ct.CK (by omega) (by omega)).subset aK);have avp:(ct.swp lm m ((2 * m)+1)).length=n:=by rw [ct.l1];omega
    refine ai<|rg<|vm Z<|va Z<|nl<|bX<| ?_;have aL:=aL.mod EP (λ I=>DZ _ I rfl);exact c' _ _ ⟨ct.swp lm m ((2 * m)+1),2 * m+1,Z,Z,zc,aL,s6,by omega,avp,avQ,tJ.symm.trans mn,(λ q I Φ=>by (exact DZ q I Φ))⟩ (by omega) (.cons Z (.cons Z (.cons Z (.cons Z (.cons (b2 Z (by first | omega | rfl | (simp<;>omega))) .nil)))))
theorem aEh (b:Nat) (A:Option Addr) (c aC:Nat) (l:List b9) (v0 v1 v2 v3 v4 v5:Value) (x:b9) (w:World) (aL:aQ w b [v0,v1,v2,v3,v4,v5, .slice A l.length c] 265 (0,0)) (aT:b9.rep.aG 313 32 w aC (τ.ae A) A c (l)) (ea:∀ y∈l,y.ok) (hd:∀ q∈τ.ae A,q=b→False) (hx:x.ok) (Pu:l.length≤1000000) (tD:aC≤w.heap.size):
  Calls prog 268 #[.pointer (some ⟨b,6,none⟩), .iface 313 (.agg #[.int .i64 x.cell.x, .int .i64 x.cell.y, .int .i64 x.a8, .int .i64 x.all])] w (λ e w'=>∃ bH bV,e= .returned (.tuple #[])∧aQ w' b [v0,v1,v2,v3,v4,v5, .slice bH (l++ [x]).length bV] 265 (0,0)∧b9.rep.aG 313 32 w' aC (τ.ae bH) bH bV (l++ [x])∧(∀ q∈τ.ae bH,q∈τ.ae A∨w.heap.size≤q)∧Mod (b::τ.ae A) w w'):=by
 have CN:=λ q I=>(aT.lt q I).2;have xl:=aL.lt;have KG:=aT.has.2.1;have Cd:=aT.has.d_;have KH:=aT.has.1;refine cd (n:=13) func268 Z Z Z ?_;refine rd [(3,0),(6,2),(7,3),(9,3)] [0,1,2,3,4,5,6,7,8,9] (by kernel_rfl) (by kernel_rfl) ?_;refine aq Z (λ _=>aH Z)<|aq Z (λ _=>aH Z)<|aq Z (λ _=>bY Z)<|bE Z (λ _ x=>ao Z ((aL.later x).one pg Z))<|aq Z (λ _=>aH Z)<|aq Z (λ _=>akz (λ w=>by kernel_rfl) Z)<|fG Z Z Z λ cO e7 Q hK=>cX (e:= 313) (cs:= [.int .i64 x.cell.x, .int .i64 x.cell.y, .int .i64 x.a8, .int .i64 x.all]) Z (λ _=>by kernel_rfl) Z λ alb aHi nu aLE ZS=>hK _ _ ⟨κ e7 nu, ?_⟩;have:=e7.size;have bk:=(Mod.bI (b::τ.ae A) w).trans (Mod.bD e7);have:=nu.size;have MS:=bk.trans (Mod.bD nu);have aNj:=ZS.lt;have aT:=aT.later (κ e7 nu);refine eo Z Z Z λ uj kV Q hK=>ap ans τ.dC (aT.later kV) ((aQ.gJ (R:=b9.rep) (by_:=32) (q:=x) ZS ⟨Z,hx⟩ (by decide)).keep kV) Z Z (by simp only [aQQ,aQX];omega) (by simp only [aQQ,aQX];omega) (by have:=kV.size;omega) Z λ y8 Zi mf EM x5 aec aML=>hK _ _ ?_;have:=kV.size;have jB:=MS.trans (Mod.bD kV);have:=EM.size;have iB:=jB.md EM (λ q I=> .inl (aQ1 _ I));have akL:=λ q I=>(x5.lt q I).2;have:=EM.size;refine aq Z (λ _=>bY Z)<| ?_;have aL:=aL.later (κ e7 (κ nu kV));have aL:=aL.mod EM (λ I=>hd _ I rfl);refine eo Z Z Z λ sH fX Q hK=>st (new:= [v0,v1,v2,v3,v4,v5, .slice Zi ((l++ [x]).length) mf]) Z Z (aL.later fX) Z adi Z Z Z λ C0 hU aL=>hK _ _ ?_;have:=fX.size;have jY:=iB.trans (Mod.bD fX);have:=hU.size;have rP:=jY.md hU (λ q I=> .inl (by rw [aQJ.1 I];exact aRa));refine fn λ um c_=> ?_;have:=c_.size;have iT:=rP.trans (Mod.bD c_);refine ne<|bb .nil<| ?_;have x5:=x5.later fX;have x5:=x5.mod hU (λ q I h=>by have Φ:=aQJ.1 h;exfalso;(exact aQ2 (aec q I) (λ aht=>by (exact hd q aht Φ)) (λ aht=>by omega)));have x5:=x5.later c_;have aL:=aL.later c_;exact ⟨Zi,mf,Z,aL,x5,(λ q I=>(aec q I).imp id λ h=>by omega),iT⟩
theorem aEg (b:Nat) (A:Option Addr) (n c aC:Nat) (l:List b9) (v0 v1 v2 v3 v4 v5:Value) (w:World) (aL:aQ w b [v0,v1,v2,v3,v4,v5, .slice A n c] 265 (0,0)) (aT:b9.rep.aG 313 32 w aC (τ.ae A) A c (l)) (ea:∀ y∈l,y.ok) (hn:l.length=n) (hd:∀ q∈τ.ae A,q=b→False) (aF:0<n):
  Calls prog 267 #[.pointer (some ⟨b,6,none⟩)] w (λ e w'=>e= .returned (.iface 313 (.agg ((l.getD (n - 1) default).cells).toArray))∧aQ w' b [v0,v1,v2,v3,v4,v5, .slice A (n - 1) c] 265 (0,0)∧b9.rep.aG 313 32 w' aC (τ.ae A) A c (l.take (n - 1))∧Mod (b::τ.ae A) w w'):=by
 have CN:=λ q I=>(aT.lt q I).2;have xl:=aL.lt;have KG:=aT.has.2.1;have Cd:=aT.has.d_;have KH:=aT.has.1;refine cd (n:=23) func267 Z Z Z ?_;refine aj<|va Z<|ai<|aj<|vm Z<|J (bY Z)<|J (ao Z (aL.one pg Z))<|va Z<|ai<|aj<|vm Z<|vm Z<|J (cu underlying263 Z)<|J (lV Z Z (bG (by omega)))<|J (b5 (((n:Int) - 1).toNat) underlying263 oq Z Z (aT.has.bL (a7 (((n:Int) - 1).toNat))) (by omega) (by omega))<|J (ao Z (τ.aI.hE Ep (aT.has.cA (a7 (((n:Int) - 1).toNat))) (df (l:=l) (u:=default) (by omega)) Oz oq))<|al Z adk Z Z λ cO bJ ba eb aa=> ?_;have:=ba.size;have bk:=(Mod.bI (b::τ.ae A) w).trans (Mod.bD ba);have eh:=aa.lt;refine st (new:= [.int .i64 ((l.getD (((n:Int) - 1).toNat) default).cell.x), .int .i64 ((l.getD (((n:Int) - 1).toNat) default).cell.y), .int .i64 ((l.getD (((n:Int) - 1).toNat) default).a8), .int .i64 ((l.getD (((n:Int) - 1).toNat) default).all)]) Z Z aa Z oq Z Z Z λ eA ES aa=> ?_;have:=ES.size;have bO:=bk.md ES (λ q I=> .inr (by have:=aQJ.1 I;omega));refine ai<|aj<|vm Z<|vm Z<|vm Z<|J (cu underlying263 Z)<|J (lV Z Z (bG (by omega)))<|J (XS (n - 1) (n - 1) underlying263 oq Z Z (by omega) (by omega) Z)<|J (bY Z)<| ?_;have aL:=aL.later ba;have aL:=aL.mod ES aR;refine st (new:= [v0,v1,v2,v3,v4,v5, .slice A (n - 1) c]) Z Z aL Z adi Z Z Z λ CY Ct aL=> ?_;have:=Ct.size;have n7:=bO.md Ct (λ q I=> .inl (by rw [aQJ.1 I];exact aRa));refine ai<|aj<| ?_;have aa:=aa.mod Ct aR;refine J (ao Z (aa.all Oz oq))<|J (Qv (λ w=>by kernel_rfl) Z)<|va Z<|ai<|rt<|bb (.tmp Z .nil)<| ?_;have aT:=aT.later ba;have aT:=aT.mod ES (b0 CN);have aT:=aT.mod Ct (λ q I h=>by have Φ:=aQJ.1 h;exfalso;(exact hd q I Φ));exact ⟨by rw [show ((n:Int) - 1).toNat=n - 1 by omega];rfl,aL,τ.aG.cut aT τ.dC (n - 1) (by omega),n7⟩
theorem aEf (b:Nat) (A:Option Addr) (c aC:Nat) (l:List b9) (v0 v1 v2 v3 v4 v5:Value) (x:b9) (w:World) (aL:aQ w b [v0,v1,v2,v3,v4,v5, .slice A l.length c] 265 (0,0)) (aT:b9.rep.aG 313 32 w aC (τ.ae A) A c (l)) (ea:∀ y∈l,y.ok) (hd:∀ q∈τ.ae A,q=b→False) (hx:x.ok) (Pu:l.length≤1000000) (tD:aC≤w.heap.size):
  Calls prog 218 #[.iface 311 (.pointer (some ⟨b,6,none⟩)), .iface 313 (.agg #[.int .i64 x.cell.x, .int .i64 x.cell.y, .int .i64 x.a8, .int .i64 x.all])] w (λ e w'=>∃ bH bV,e= .returned (.tuple #[])∧aQ w' b [v0,v1,v2,v3,v4,v5, .slice bH (ct.push b9.all l x).length bV] 265 (0,0)∧b9.rep.aG 313 32 w' aC (τ.ae bH) bH bV (ct.push b9.all l x)∧(∀ q∈τ.ae bH,q∈τ.ae A∨w.heap.size≤q)∧Mod (b::τ.ae A) w w'):=by
 have CN:=λ q I=>(aT.lt q I).2;have xl:=aL.lt;have KG:=aT.has.2.1;have Cd:=aT.has.d_;have KH:=aT.has.1;refine cd (n:=12) func218 Z Z Z ?_;refine aj<|vm Z<|vm Z<|gU arj Z Z (by unfold Bk;kernel_rfl) Z ((aEh b A c aC l v0 v1 v2 v3 v4 v5 x _ aL aT ea hd hx (by omega) tD).mono ?_);rintro e ke ⟨cg,c1,rfl,eL,Ns,B3,aif⟩;refine ⟨_,Z, ?_⟩;have:=aif.size;have cS:=(Mod.bI (b::τ.ae A) w).md aif (λ q I=> .inl I);have pD:(l++ [x]).length=l.length+1:=by rw [aQU];rfl
 have aCI:=λ q I=>(Ns.lt q I).2;have aNi:=eL.lt;have ae8:∀ q∈τ.ae cg,q=b→False:=λ q I e=>(B3 q I).elim (λ h=>hd q h e) (λ h=>by omega);have PQ:∀ y∈l++ [x],y.ok:=λ y aK=>(aQ0.1 aK).elim (ea y) λ h=>by rw [aQJ.1 h];exact hx
 refine ai<|rg<|vm Z<|vm Z<|gU JH Z Z (yS (e:= 263) (by kernel_rfl) (eL.one pg Z)) Z ((MF _ ((l++ [x]).length) _ _).mono ?_);rintro e alc ⟨rfl,nu⟩;refine ⟨_,Z, ?_⟩;have:=nu.size;have MT:=cS.trans (Mod.bD nu);refine J (lV Z Z (bG (by omega)))<| ?_;have Ns:=Ns.later nu;have eL:=eL.later nu;refine ca aru Z Z (((show Calls _ _ #[_, .int .i64 (((l++ [x]).length:Int) - 1)] _ _ from (by rw [show ((l++ [x]).length:Int) - 1=(l.length:Int) by rw [pD];omega];exact aEi b cg (l++ [x]).length c1 aC (l++ [x]) v0 v1 v2 v3 v4 v5 l.length _ eL Ns PQ rfl ae8 (by omega)))).mono ?_);rintro e eA ⟨rfl,cU,nz,W0⟩;refine ⟨_,Z, ?_⟩;have:=W0.size;have bO:=MT.md W0 (λ q I=>(B3 q I).imp (aQ1 _) λ h=>by omega);refine nl<|ne<|bb .nil<| ?_;exact ⟨cg,c1,Z,by rw [show (ct.push b9.all l x).length=(l++ [x]).length by rw [ct.LY,pD]];exact cU,nz,B3,bO⟩
theorem aEe (b:Nat) (A:Option Addr) (n c aC:Nat) (l:List b9) (v0 v1 v2 v3 v4 v5:Value) (w:World) (aL:aQ w b [v0,v1,v2,v3,v4,v5, .slice A n c] 265 (0,0)) (aT:b9.rep.aG 313 32 w aC (τ.ae A) A c (l)) (ea:∀ y∈l,y.ok) (hn:l.length=n) (hd:∀ q∈τ.ae A,q=b→False) (aF:0<n) (Pu:n≤1000000):
  Calls prog 220 #[.iface 311 (.pointer (some ⟨b,6,none⟩))] w (λ e w'=>e= .returned (.iface 313 (.agg (l.getD 0 default).cells.toArray))∧aQ w' b [v0,v1,v2,v3,v4,v5, .slice A (ct.nV b9.all l).length c] 265 (0,0)∧b9.rep.aG 313 32 w' aC (τ.ae A) A c (ct.nV b9.all l)∧Mod (b::τ.ae A) w w'):=by
 have CN:=λ q I=>(aT.lt q I).2;have xl:=aL.lt;have KG:=aT.has.2.1;have Cd:=aT.has.d_;have KH:=aT.has.1;refine cd (n:=15) func220 Z Z Z ?_;refine aj<|va Z<|ai<|aj<|vm Z<|gU JH Z Z (yS (e:= 263) (by kernel_rfl) (aL.one pg Z)) Z ((MF _ n _ _).mono ?_);rintro e cO ⟨rfl,e7⟩;refine ⟨_,Z, ?_⟩;have:=e7.size;have bk:=(Mod.bI (b::τ.ae A) w).trans (Mod.bD e7);refine J (lV Z Z (bG (by omega)))<|va Z<|ai<|aj<|vm Z<|vm Z<| ?_;have aL:=aL.later e7;have aT:=aT.later e7;refine gU OE Z Z (yS (e:= 263) (by kernel_rfl) (aL.one pg Z)) Z ((RO _ _ _ _ l 0 ((n:Int) - 1) 0 (n - 1) _ aT ea (by omega) (by omega) (by omega) (by omega) (by omega)).mono ?_);rintro e H' ⟨rfl,ank,WY⟩;refine ⟨_,Z, ?_⟩;have:=WY.size;have l3:=bk.md WY (λ q I=> .inl (aQ1 _ I));have afT:∀ y∈ct.swp l 0 (n - 1),y.ok:=λ y aK=>ea y ((ct.CK (by omega) (by omega)).subset aK);have aJv:(ct.swp l 0 (n - 1)).length=n:=by rw [ct.l1];omega
 refine ai<|aj<|vm Z<|vm Z<| ?_;have aL:=aL.mod WY (λ I=>hd _ I rfl);refine ca arz Z Z (((show Calls _ _ #[_, .int .i64 0, .int .i64 ((n:Int) - 1)] _ _ from (by rw [show (n:Int) - 1=((n - 1:Nat):Int) by omega];exact aEd b A n c aC (ct.swp l 0 (n - 1)) v0 v1 v2 v3 v4 v5 0 (n - 1) _ aL ank afT (by omega) hd (by omega) (by omega) Pu))).mono ?_);rintro e Yt ⟨⟨aPA,rfl⟩,eL,aaS,ES⟩;refine ⟨_,Z, ?_⟩;have:=ES.size;have xG:=l3.md ES (λ q I=> .inl (aQ1 _ I));have avR:∀ y∈ct.jK b9.all (n - 1) (ct.swp l 0 (n - 1)) 0,y.ok:=λ y aK=>afT y ((ct.ac5 _ _ _ _ (aQW _) (by omega) (by omega)).subset aK);have aJw:(ct.jK b9.all (n - 1) (ct.swp l 0 (n - 1)) 0).length=n:=by rw [ct.ac4 _ _ _ _ (aQW _)];omega
 have aCI:=λ q I=>(aaS.lt q I).2;refine ai<|aj<|vm Z<|gU arJ Z Z (by unfold Bk;kernel_rfl) Z ((aEg b A n c aC (ct.jK b9.all (n - 1) (ct.swp l 0 (n - 1)) 0) v0 v1 v2 v3 v4 v5 _ eL aaS avR (by omega) hd aF).mono ?_);rintro e y8 ⟨rfl,amL,amV,Ax⟩;refine ⟨_,Z, ?_⟩;have:=Ax.size;have iB:=xG.md Ax (λ q I=> .inl I);refine va Z<|ai<|rt<|bb (.tmp Z .nil)<| ?_;subst hn;exact ⟨by rw [← ct.ai8 (key:=b9.all) aF];rfl,by rw [ct.HM];exact amL,amV,iB⟩
end
section
theorem hW {a b:Bool} (h:a=b):Ending.returned (.bool a)= .returned (.bool b):=by rw [h]
theorem k5 (w:World) (o:Obj):Below w.heap.size w (w.alloc o):=(aRe _ w).alloc (aQW _) o
end
end Go.Proofs.YtlikikpgmmkjbaaGreat
