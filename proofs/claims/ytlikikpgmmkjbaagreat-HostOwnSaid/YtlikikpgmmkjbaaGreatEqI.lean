import Derived.Test.YtlikikpgmmkjbaaGreatCelK
set_option linter.unusedVariables false
set_option linter.unusedSimpArgs false
set_option maxRecDepth 100000
set_option maxHeartbeats 4000000
open Go.RowKit
namespace Go.Proofs.YtlikikpgmmkjbaaGreat
open Tryz
abbrev aVG:=@List.length_singleton
abbrev aVX:=@Bool.not_eq_false'
abbrev aWz:=@beq_eq_false_iff_ne
abbrev aXY:=@List.countP_append
abbrev aYi:=@List.countP_cons
abbrev aYn:=@Go.Proofs.Tryz.zeroValue3
abbrev aZj:=@Nat.le_succ_of_le
section
open Go.RowKit Go.Maps
section
variable {w w':World} {b:Nat} {g:ay→Int} {S:List Nat} {x:ay} {st:Nat}
def EZ (w:World) (b:Nat) (l:List (ay×Int×Nat)) (lB:Nat) (g:ay→Int):Prop :=
 dO ay.key w b l lB∧(∀ e∈l,e.1.ok)∧(l.map (·.1)).Nodup∧∀ y,(dO.get l y).getD 0=g y
def kH (w:World) (b:Nat) (g:ay→Int):Prop:=∃ l lB,EZ w b l lB g
def sK (w:World) (b:Nat) (g:ay→Int) (x:ay) (st:Nat):Prop:=∃ l lB,EZ w b l lB g∧∃ (j:Nat) (v:Int),l[j]? =some (x,v,st)
theorem kH.lt (h:kH w b g):b<w.heap.size:=by obtain ⟨l,c,h,_⟩:=h;exact h.lt
theorem EZ.keep {l:List (ay×Int×Nat)} {lB:Nat} (h:EZ w b l lB g) (aw:w'.heap[b]? =w.heap[b]?):EZ w' b l lB g:=⟨h.1.keep aw,h.2⟩
theorem kH.keep (h:kH w b g) (aw:w'.heap[b]? =w.heap[b]?):kH w' b g:=by obtain ⟨l,c,h⟩:=h;exact ⟨l,c,h.keep aw⟩
theorem kH.later (h:kH w b g) (x:Ext w w'):kH w' b g:=h.keep (x.block b h.lt)
theorem kH.mod (h:kH w b g) (m:Mod S w w') (hs:b∉S):kH w' b g:=h.keep (m.block b h.lt hs)
theorem sK.map (h:sK w b g x st):kH w b g:=by obtain ⟨l,c,h,_⟩:=h;exact ⟨l,c,h⟩
theorem sK.lt (h:sK w b g x st):b<w.heap.size:=h.map.lt
theorem sK.keep (h:sK w b g x st) (aw:w'.heap[b]? =w.heap[b]?):sK w' b g x st:=by obtain ⟨l,c,h,aa⟩:=h;exact ⟨l,c,h.keep aw,aa⟩
theorem sK.later (h:sK w b g x st) (e:Ext w w'):sK w' b g x st:=h.keep (e.block b h.lt)
theorem kH.of_nil (h:pB w b []):kH w b λ _=>0:=by
 obtain ⟨es,c,γ,aa⟩:=h;have:es.toList= []:=by
  cases he:es.toList with
  | nil=>rfl
  | cons a r=>rw [he] at aa;exact aa.elim
 have e:es=#[]:=by apply aVK;simpa using this
 subst e;exact ⟨[],c,⟨by simpa using γ,by simp,by simp⟩,by simp,by simp,λ y=>rfl⟩
def eS (b:Nat) (g:ay→Int) (w w':World):Prop:=Mod [b] w w'∧(kH w b g→kH w' b g)
theorem eS.bF (h:Ext w w'):eS b g w w':=⟨Mod.bF h,λ k=>k.later h⟩
theorem eS.trans {aP cE:World} (h:eS b g w aP) (k:eS b g aP cE):eS b g w cE:=⟨h.1.trans k.1,λ q=>k.2 (h.2 q)⟩
theorem ZL {es:Array MapEntry} {clock:Nat}:Mod [b] w (iT w b es clock):=
 ⟨rfl,rfl,rfl,by rw [alH];exact aUu _,λ k _ hn=>NR (by simpa using hn)⟩
def tE (g:ay→Int) (x:ay) (v:Int):ay→Int:=λ y=>if y=x then v else g y
end
section
variable {w:World} {b:Nat} {l:List (ay×Int×Nat)} {clock:Nat} {g:ay→Int}
theorem aj5:prog.underlying 205 =some (.map 49 3):=by kernel_rfl
theorem aA3 (h:kH w b g) (x:ay) (hx:x.ok):(Instr.lookup 205 (.map (some b)) (ay.key x) false).run prog w= .ok (.int .i64 (g x)) w:=by
 obtain ⟨l,c,γ,aa,av,aV⟩:=h;rw [← aV x];exact (dO.lookup ay.zp aj5 (aYn w) γ aa av x hx).1
theorem aEx {l:List (ay×Int×Nat)} {j:Nat} {a:ay×Int×Nat} (hm:(l.map (·.2.2)).Nodup) (aA:l[j]? =some a):((l.map (dR ay.key)).toArray).findIdx? (λ y=>((y.born:Nat):Int)== ((a.2.2:Nat):Int))=some j:=by
 rw [aYG];refine aYA (l:=l.map (dR ay.key)) (j:=j) (e0:=dR ay.key a) ?_ (by rw [aUx,aA];rfl);rw [aW5];exact hm
theorem aA2 (h:kH w b g) (x:ay) (hx:x.ok):∃ (st:Nat) (w':World),(Instr.mapEntry 205 (.map (some b)) (ay.key x)).run prog w= .ok (.tuple #[.int .i64 (g x), .int .i64 (st:Int)]) w'∧Mod [b] w w'∧sK w' b g x st:=by
 obtain ⟨l,clock,h,hw,hn,aS⟩:=h;obtain ⟨fD,r8⟩:=ay.zp.lit x hx;have Φ:=h.fB;have bE:=h.lt;have aF:=aj5;have bB:=aYn;rcases dO.found ay.zp h hw x hx with ⟨γ,aa,av⟩ | ⟨j,v0,n0,γ,aa⟩
 ·have IA:g x=0:=by rw [← aS x,aa];rfl
  have DA:dO.put l clock x 0=l++ [(x,0,clock)]:=by
   unfold dO.put;rw [aUr];intro ha;obtain ⟨a,ha,hd⟩:=aVE.1 ha;exact av a ha (by simpa using hd)
  have hh:EZ (iT w b ((l++ [(x,0,clock)]).map (dR ay.key)).toArray (clock+1)) b (l++ [(x,0,clock)]) (clock+1) g:=by
   refine ⟨⟨D5 bE,λ a ha=> ?_, ?_⟩,λ a ha=> ?_, ?_,λ y=> ?_⟩
   ·rcases aUy.1 ha with ha | ha
    ·have:=h.born a ha;omega
    ·simp at ha;subst ha;simp
   ·rw [aUK,aU5];refine ⟨h.stamps,by simp,λ a ha c hc e=> ?_⟩;simp at hc;obtain ⟨y,aH,rfl⟩:=aUR.1 ha;have:=h.born y aH;omega
   ·rcases aUy.1 ha with ha | ha
    ·exact hw a ha
    ·simp at ha;subst ha;exact hx
   ·have:=dO.IM hn clock x 0;rw [DA] at this;exact this
   ·have:=dO.A9 l clock x y 0;rw [DA] at this;rw [this];by_cases e:y=x
    ·rw [aUz e,e,IA];rfl
    ·rw [aUr e];exact aS y
  refine ⟨clock,_, ?_,ZL,⟨_,_,hh,l.length,0,by simp⟩⟩
  ·rw [IA];have:(l.map (dR ay.key)).toArray.push (⟨ay.key x, .int .i64 0,clock⟩:MapEntry)=((l++ [(x,0,clock)]).map (dR ay.key)).toArray:=by simp [dR]
   simp [Instr.mapEntry,aVw aF,aVe Φ,ay.zp.keyed.check w false r8,γ,bB,aVF _ Φ,Result.andThen,iT,Go.ChangeMaps.setBlock,goInt,dR]
 ·have IA:g x=v0:=by rw [← aS x,dO.hC hn aa];rfl
  have hh:EZ (iT w b (l.map (dR ay.key)).toArray clock) b l clock g:=⟨⟨D5 bE,h.born,h.stamps⟩,hw,hn,aS⟩;refine ⟨n0,_, ?_,ZL,⟨_,_,hh,j,v0,aa⟩⟩
  ·rw [IA];have aA:(l.map (dR ay.key)).toArray[j]? =some (dR ay.key (x,v0,n0)):=by simp [aa]
   have XY:(l.map (dR ay.key)).toArray.modify j (λ e=> {e with key:=ay.key x})=(l.map (dR ay.key)).toArray:=by
    apply aVK;rw [aWC,aWn _ _ _ _ (by rw [aUx,aa];rfl)];exact aYV _ _ _ (by rw [aUx,aa];rfl)
   have XF:(dR ay.key (x,v0,n0)).key=ay.key x:=rfl;have Xg:(dR ay.key (x,v0,n0)).born=n0:=rfl;simp only [Instr.mapEntry,aUv,aVw aF,aUo,aVe Φ,ay.zp.keyed.check w false r8,γ,aA,aVL,aVq,XF,ay.zp.keyed.stays w r8,XY,aVF _ Φ,Xg,aUA];rfl
theorem aA4 {st:Nat} {x:ay} (h:sK w b g x st) (v:Int):∃ w',(Instr.entryStore 205 (.map (some b)) (.int .i64 (st:Int)) (.int .i64 v)).run prog w= .ok () w'∧Mod [b] w w'∧kH w' b (tE g x v):=by
 obtain ⟨l,clock,⟨h,hw,hn,aS⟩,j,v0,aa⟩:=h;have Φ:=h.fB;have bE:=h.lt;have eD:=aEx (a:=(x,v0,st)) h.stamps aa;have pV:l.any (λ e=>decide (e.1=x))=true:=aVE.2 ⟨_,aUW aa,by simp⟩;have wh:dO.put l clock x v=l.set j (x,v,st):=by
  unfold dO.put;rw [aUz pV];refine aVJ λ i=> ?_;rw [aUx];by_cases jK:j=i
  ·subst jK;rw [aa,aUG (aUj.1 aa).1];simp
  ·rw [aUJ jK];cases aq:l[i]? with
   | none=>rfl
   | some a =>
    have:a.1≠x:=by
     intro Bc;have a8:(l.map (·.1))[i]? =(l.map (·.1))[j]? :=by rw [aUx,aUx,aq,aa];simp [Bc]
     have:=(aX5 (by simpa using (aUj.1 aq).1) hn).1 a8;exact jK this.symm
    simp [this]
 have uL:(l.map (dR ay.key)).toArray.modify j (λ e=> {e with val:=Value.int .i64 v})=((l.set j (x,v,st)).map (dR ay.key)).toArray:=by
  apply aVK;rw [aWC,aWn _ _ _ _ (by rw [aUx,aa];rfl),aVD];rfl
 refine ⟨iT w b ((l.set j (x,v,st)).map (dR ay.key)).toArray clock, ?_,ZL,l.set j (x,v,st),clock,⟨D5 bE,λ a ha=> ?_, ?_⟩,λ a ha=> ?_, ?_,λ y=> ?_⟩
 ·rw [← uL];simp only [Instr.entryStore,aUv,aVe Φ,aUo,asInt,asIntOf,goInt,aUA];rw [eD];exact aVF _ Φ
 ·rcases aV2 ha with ha | ha
  ·exact h.born a ha
  ·rw [ha];exact h.born (x,v0,st) (aUW aa)
 ·rw [aVD];have:(l.map (·.2.2)).set j st=l.map (·.2.2):=by
   obtain ⟨qQ,o3⟩:=aUj.1 aa;have e:(l.map (·.2.2))[j]'(by simpa using qQ)=st:=by rw [aXl,o3]
   conv=>lhs;rw [← e]
   exact aV1 _
  rw [this];exact h.stamps
 ·rcases aV2 ha with ha | ha
  ·exact hw a ha
  ·rw [ha];exact hw (x,v0,st) (aUW aa)
 ·have:=dO.IM hn clock x v;rw [wh] at this;exact this
 ·have:=dO.A9 l clock x y v;rw [wh] at this;rw [this];unfold tE;by_cases e:y=x
  ·rw [aUz e,aUz e];rfl
  ·rw [aUr e,aUr e];exact aS y
end
section
variable {n:Nat} {E c0:List (Nat×Value)} {a:Act} {w w' w0 aP:World} {Q:Exit→Act→World→Prop} {ops:Array Oper}
variable {d:Option Nat} {ty:TypeId} {pos:String} {af:Array Edge} {avD:Option (Nat×Bool)} {x y z m:Operand} {rest:List Oper} {r st:Nat} {g:ay→Int} {p:ay} {v:Int}
theorem RY (h:kH w r g) (aw:p.ok) (hx:ev E m=some (.map (some r))) (aH:ev E y=some (ay.key p)):
  cT prog E ⟨d, .lookup 205 m y false,ty,pos,af,avD⟩ w (.int .i64 (g p)) w:=λ n a ha=>by
 simp only [execOp,ha.ev hx,ha.ev aH,aUv,aA3 h p aw,aUo,aUA]
theorem meC {d:Nat} (h:kH w r g) (aw:p.ok) (hx:ev E m=some (.map (some r))) (aH:ev E y=some (ay.key p)) (hd:Nat.blt d n=true)
  (hK:∀ aP (st:Nat),Mod [r] w aP→sK aP r g p st→cG prog n ops Q rest ((d, .tuple #[.int .i64 (g p), .int .i64 (st:Int)])::E) aP):cG prog n ops Q (⟨some d, .mapEntry 205 m y,ty,pos,af,none⟩::rest) E w:=by
 obtain ⟨st,aP,γ,aa,av⟩:=aA2 h p aw;refine iC (w':=aP) (v:= .tuple #[.int .i64 (g p), .int .i64 (st:Int)]) (λ n a ha=> ?_) hd (hK _ st aa av);simp only [execOp,ha.ev hx,ha.ev aH,aUv,γ,aUo,aUA]
theorem V_ (h:sK w r g p st) (hx:ev E m=some (.map (some r))) (aH:ev E y=some (.int .i64 (st:Int))) (bB:ev E z=some (.int .i64 v))
  (hK:∀ aP,Mod [r] w aP→kH aP r (tE g p v)→cG prog n ops Q rest E aP):cG prog n ops Q (⟨none, .entryStore 205 m y z,ty,pos,af,none⟩::rest) E w:=by
 obtain ⟨aP,γ,aa,av⟩:=aA4 h v;refine us (w':=aP) (λ n a ha=> ?_) (hK _ aa av);simp only [execOp,ha.ev hx,ha.ev aH,ha.ev bB,aUv,γ,aUo,aUA]
end
end
section
def jl (T:List bd) (c:ay):Int:=((T.countP λ t=>decide (t.spot=c):Nat):Int)
theorem Sl (T:List bd) (c:ay):0≤jl T c∧jl T c≤(T.length:Int):=⟨aWh _,Int.ofNat_le.2 List.countP_le_length⟩
theorem aBP (T:List bd) (t:bd):jl (T++ [t])=tE (jl T) t.spot (jl T t.spot+1):=by
 funext y
 unfold jl tE;rw [aXY,aYi,List.countP_nil];by_cases e:y=t.spot
 ·subst e;simp
 ·have e':¬ t.spot=y:=λ h=>e h.symm;rw [aUr e];simp [e']
theorem aEQ {α:Type} {T:List α} {k:Nat} {d:α} (h:k<T.length):T.take (k+1)=T.take k++ [T.getD k d]:=by
 rw [List.take_add_one,aUk h,aUi,aUk h];rfl
theorem aBQ {T:List bd} {k:Nat} (h:k<T.length):jl (T.take (k+1))=tE (jl (T.take k)) (T.getD k default).spot (jl (T.take k) (T.getD k default).spot+1):=by
 rw [aEQ (d:=default) h,aBP]
theorem countP_split {T:List bd} {k:Nat} (h:k<T.length) (t:bd) (c:ay):
  ((T.countP λ t=>decide (t.spot=c):Nat):Int)=(((T.take k).countP λ t=>decide (t.spot=c):Nat):Int)+(if (T.getD k default).spot=c then 1 else 0)+(((T.drop (k+1)).countP λ t=>decide (t.spot=c):Nat):Int)∧
  (((T.set k t).countP λ t=>decide (t.spot=c):Nat):Int)=(((T.take k).countP λ t=>decide (t.spot=c):Nat):Int)+(if t.spot=c then 1 else 0)+(((T.drop (k+1)).countP λ t=>decide (t.spot=c):Nat):Int):=by
 have e:T=T.take k++T.getD k default::T.drop (k+1):=by
  conv=>lhs;rw [← aWl k T,aV3 h]
  rw [aUi,aUk h];rfl
 constructor
 ·conv=>lhs;rw [e]
  rw [aXY,aYi];by_cases hc:(T.getD k default).spot=c<;>simp only [hc,aXe,aW3,aVZ,aVs]<;>simp<;>omega
 ·rw [aX2,aUz h,aXY,aYi];by_cases hc:t.spot=c<;>simp only [hc,aXe,aW3,aVZ,aVs]<;>simp<;>omega
theorem aBO {T:List bd} {k:Nat} (h:k<T.length) (t:bd):
  jl (T.set k t)=tE (tE (jl T) (T.getD k default).spot (jl T (T.getD k default).spot - 1)) t.spot (tE (jl T) (T.getD k default).spot (jl T (T.getD k default).spot - 1) t.spot+1):=by
 obtain ⟨A,D,hA,ba⟩:∃ A D:ay→Int,(∀ y,jl T y=A y+(if (T.getD k default).spot=y then 1 else 0)+D y)∧∀ y,jl (T.set k t) y=A y+(if t.spot=y then 1 else 0)+D y :=
  ⟨_,_,λ y=>(countP_split h t y).1,λ y=>(countP_split h t y).2⟩
 funext y
 unfold tE;rw [ba y,hA y,hA t.spot,hA (T.getD k default).spot];generalize (T.getD k default).spot=a;generalize t.spot=b;by_cases a8:y=b
 ·subst a8;by_cases bl:y=a
  ·subst bl;simp only [aVZ,eq_self];omega
  ·have cZ:¬ a=y:=λ h=>bl h.symm;simp only [aVZ,bl,cZ,aVs];omega
 ·have jP:¬ b=y:=λ h=>a8 h.symm;by_cases bl:y=a
  ·subst bl;simp only [aVZ,a8,jP,aVs];omega
  ·have cZ:¬ a=y:=λ h=>bl h.symm;simp only [a8,bl,cZ,jP,aVs]
theorem aFC {g:ay→Int} {n v:Int} {x:ay} (h:∀ y,0≤g y∧g y≤n) (γ: -1≤v) (aa:v≤n) (y:ay): -1≤tE g x v y∧tE g x v y≤n:=by
 unfold tE;have:=h y;split<;>omega
theorem aBN {T:List bd} {c:ay}:0<jl T c↔∃ t∈T,t.spot=c:=by
 unfold jl;rw [Int.natCast_pos,List.countP_pos_iff];simp
def eJ (l:List dz) (id:Int):Int:=gA (λ g=>g.id == id) l
theorem avJ (l:List dz) (id:Int):eJ l id= -1∧(∀ g∈l,g.id≠id)∨∃ k,k<l.length∧eJ l id=(k:Int)∧(l.getD k default).id=id∧∀ j,j<k→(l.getD j default).id≠id:=by
 rcases Ya (λ g=>g.id == id) l with ⟨γ,aa⟩ | ⟨k,aw,γ,aa,av⟩
 ·exact .inl ⟨γ,λ g aS=>by simpa using aa g aS⟩
 ·refine .inr ⟨k,aw,γ, ?_,λ j aA=> ?_⟩
  ·rw [aUi,aUk aw];simpa using aa
  ·rw [aUi,aUk (by omega)];simpa using av j aA
noncomputable def q5 (f:aE) (l:List dz) (T:List bd) (k:Nat):Option ay :=
 if eJ l (T.getD k default).id<0 then none
 else if hB f (T.getD k default).spot (l.getD (eJ l (T.getD k default).id).toNat default).bp≠0 then none
 else if (fY f (T.getD k default).spot (l.getD (eJ l (T.getD k default).id).toNat default).bp).length<2 then none
 else if 0<jl T ((fY f (T.getD k default).spot (l.getD (eJ l (T.getD k default).id).toNat default).bp).getD 1 default) then none
 else some ((fY f (T.getD k default).spot (l.getD (eJ l (T.getD k default).id).toNat default).bp).getD 1 default)
def bd.bp (t:bd) (c:ay):bd:= {t with spot:=c}
noncomputable def jX (f:aE) (l:List dz) (T:List bd):Nat→List bd×List Int
 | 0=>(T, [])
 | k+1=>match q5 f l (jX f l T k).1 k with
  | none=>jX f l T k
  | some c=>((jX f l T k).1.set k (((jX f l T k).1.getD k default).bp c),(jX f l T k).2++ [((jX f l T k).1.getD k default).id])
theorem GB {f:aE} {l:List dz} {T U:List bd} {M:List Int} {k:Nat} (h:jX f l T k=(U,M)) (hs:q5 f l U k=none):jX f l T (k+1)=(U,M):=by
 show (match q5 f l (jX f l T k).1 k with | none=>_ | some c=>_)=_;rw [h];simp only [hs]
theorem NZ {f:aE} {l:List dz} {T U:List bd} {M:List Int} {k:Nat} {c:ay} (h:jX f l T k=(U,M)) (hs:q5 f l U k=some c):jX f l T (k+1)=(U.set k ((U.getD k default).bp c),M++ [(U.getD k default).id]):=by
 show (match q5 f l (jX f l T k).1 k with | none=>_ | some c=>_)=_;rw [h];simp only [hs]
theorem SU {f:aE} {l:List dz} {T:List bd}:∀ k,(jX f l T k).1.length=T.length∧(jX f l T k).2.length≤k
 | 0=>⟨rfl,aUu _⟩
 | k+1=>by
  have bI:=SU (f:=f) (l:=l) (T:=T) k;cases hs:q5 f l (jX f l T k).1 k with
  | none=>rw [GB rfl hs];exact ⟨bI.1,aZj bI.2⟩
  | some c=>rw [NZ rfl hs];exact ⟨by rw [aUs];exact bI.1,by rw [aUq,aVG];omega⟩
noncomputable def aj.l7 (W:aj) (l:List dz):aj×List Int:=({W with ao:=(jX W.field l W.ao W.ao.length).1},(jX W.field l W.ao W.ao.length).2)
end
section
section
variable {gg:Nat} {gh:ay→Int} {P:Program} {ops:Array Oper} {Q:Exit→Act→World→Prop} {a6:Nat→Nat}
def vB (gg:Nat) (gh:ay→Int) (P:Program) (ops:Array Oper) (w0:World) (o:Oper) (v:Value) (a:Act):Prop :=
  (Region.wanted o (yielded ops a.tmps)=true∧∀ w,eS gg gh w0 w→zG P w v ((execOp a.eval o).run P w))∨
  (Region.wanted o (yielded ops a.tmps)=false∧v=undef)
theorem vB.of_same {w0:World} {o:Oper} {v:Value} {a a':Act} (h:vB gg gh P ops w0 o v a) (he:execOp a'.eval o=execOp a.eval o) (hw:Region.wanted o (yielded ops a'.tmps)=Region.wanted o (yielded ops a.tmps)):vB gg gh P ops w0 o v a':=by
  unfold vB at *;rw [he,hw];exact h
theorem vB.on {w0 aP:World} {o:Oper} {v:Value} {a:Act} (h:vB gg gh P ops w0 o v a) (hx:eS gg gh w0 aP):vB gg gh P ops aP o v a :=
  h.imp (λ ⟨γ,aa⟩=>⟨γ,λ w hw=>aa w (hx.trans hw)⟩) id
theorem Yields.aDq {w0:World} {o:Oper} {v:Value} {a:Act} (h:Yields P ops o v a):vB gg gh P ops w0 o v a :=
  h.imp (λ ⟨γ,aa⟩=>⟨γ,λ w _=>by rw [aa w];exact ⟨rfl,rfl⟩⟩) id
def aEE (gg:Nat) (gh:ay→Int) (P:Program) (ops:Array Oper) (Q:Exit→Act→World→Prop) (a6:Nat→Nat) (i:Nat) (K:Act→World→Prop) (a:Act) (w0:World):Prop :=
  ∃ o,ops[i]? =some o∧
    ((a6 i≤1∧∃ v,vB gg gh P ops w0 o v a∧K (a.put o.dst v) w0)∨
     (1<a6 i∧∀ w,Ext w0 w→wpOp P ops Q i (λ a' w'=>(a6 i=2→eS gg gh w0 w')∧K a' w') a w))
def KV (gg:Nat) (gh:ay→Int) (P:Program) (ops:Array Oper) (Q:Exit→Act→World→Prop) (a6:Nat→Nat):Nat→Array Bool→Act→World→Prop
  | 0,l,a,w0=>Region.ready .any ops l= []∧∀ w,Ext w0 w→Q .normal a w
  | f+1,l,a,w0=>(Region.ready .any ops l= []→∀ w,Ext w0 w→Q .normal a w)∧∀ i∈Region.ready .any ops l,aEE gg gh P ops Q a6 i (KV gg gh P ops Q a6 f (l.setIfInBounds i true)) a w0
theorem Hy:∀ (f:Nat) (l:Array Bool) (a:Act) (w0:World),KV gg gh P ops Q a6 f l a w0→∀ w,Ext w0 w→wpAny P .any ops Q f l a w
  | 0,_,_,_,h,w,hw=>⟨h.1,h.2 w hw⟩
  | f+1,l,a,w0,h,w,hw=>⟨λ aI=>h.1 aI w hw,λ i aq=>by
      obtain ⟨o,b5,aa⟩:=h.2 i aq;rcases aa with ⟨_,v,I,aw⟩ | ⟨_,aa⟩
      · unfold wpOp
        simp only [b5];rcases I with ⟨kQ,I⟩ | ⟨kQ,rfl⟩
        · rw [aUz kQ]
          refine .inl ?_;have I:=I w (eS.bF hw);unfold Oper.wp;generalize (execOp a.eval o).run P w=r at *
          cases r with
          | ok n w' =>
            cases n<;>simp only [zG] at I<;>simp only [Oper.upon]
            case value u=>obtain ⟨rfl,rfl⟩:=I;exact Hy f _ _ _ aw _ hw
            case skip=>obtain ⟨rfl,rfl⟩:=I;exact Hy f _ _ _ aw _ hw
            case enter f' args=>obtain ⟨rfl,hc⟩:=I;exact hc.mono λ e lN ⟨he,hx⟩=>by subst he;exact Hy f _ _ _ aw _ (hw.qg hx)
          | halt x w'=>simp only [zG] at I
        · rw [aUr (by rw [kQ];decide)]
          exact Hy f _ _ _ aw _ hw
      · exact aWE (λ a' w' av=>Hy f _ _ _ av.2 _ (Ext.bK w')) (aa w hw)⟩
theorem afN {i:Nat} {dL:Oper} {v:Value} (aq:ops[i]? =some dL) (aw:a6 i≤1) (nH:∀ (j:Nat) (o:Oper) cs b,ops[j]? =some o→o.op≠ .select cs b)
    (il:∀ c a w,¬ Q (.panic c) a w) (ax:World→Act→Prop) (lQ:∀ w0 a,ax w0 a→vB gg gh P ops w0 dL v a)
    (z2:∀ w0 a a',ax w0 a→execOp a'.eval dL=execOp a.eval dL→Region.wanted dL (yielded ops a'.tmps)=Region.wanted dL (yielded ops a.tmps)→ax w0 a')
    (z3:∀ w0 aP a,eS gg gh w0 aP→ax w0 a→ax aP a) (R:Nat→Bool) (xX:Array Bool)
    (hR:∀ j dm,ops[j]? =some dm→j≠i→(∀ e∈dm.after,Region.binds .any e=true→R e.on=true)→R j=true)
    (ba:(∀ w0 aP a,ax w0 a→ax aP a)∨∀ j,R j=true→3≤a6 j→xX.getD j true=true):
    ∀ (f:Nat) (l:Array Bool) (a:Act) (w0:World),(∀ j,l.getD j false=true→R j=true)→(∀ j,xX.getD j true=true→l.getD j true=true)→
      (∀ j dm,ops[j]? =some dm→j≠i→l.getD j true=false→(∀ e∈dm.after,Region.binds .any e=true→e.on≠i)→dL.apart ops dm=true)→
      i∈Region.ready .any ops l→ax w0 a→KV gg gh P ops Q a6 f (l.setIfInBounds i true) (a.put dL.dst v) w0→KV gg gh P ops Q a6 (f+1) l a w0:=by
  intro f;induction f with
  | zero =>
    intro l a w0 _ _ _ hr bB H;refine ⟨λ h=>(by rw [h] at hr;cases hr),λ j aA=> ?_⟩;by_cases hY:j=i
    · subst hY;exact ⟨dL,aq, .inl ⟨aw,v,lQ _ _ bB,H⟩⟩
    · have:=aWQ aA hY
      rw [H.1] at this;cases this
  | succ f bI =>
    intro l a w0 Dq Dn Dj hr bB H;refine ⟨λ h=>(by rw [h] at hr;cases hr),λ j aA=> ?_⟩;by_cases hY:j=i
    · subst hY;exact ⟨dL,aq, .inl ⟨aw,v,lQ _ _ bB,H⟩⟩
    · obtain ⟨dm,kP,γ⟩:=H.2 j (aWQ aA hY)
      obtain ⟨xO,gP,Dz,dB⟩:=aXu.1 aA;obtain rfl:gP=dm:=by rw [kP] at Dz;exact (aUh Dz).symm
      have Mi:∀ e∈gP.after,Region.binds .any e=true→e.on≠i:=λ e he Φ heq=>by
        have γ:=dB e he Φ;have aI:=(aXu.1 hr).1;rw [heq] at γ;rcases aVf i l.size with dk | dk
        · simp [dk] at aI γ;rw [aI] at γ;cases γ
        · simp [aVi dk] at γ
      have LW:=Dj j gP kP hY xO Mi;obtain ⟨cy,a2,a3⟩:=aYz LW;have Mv:∀ cs b,dL.op≠ .select cs b:=λ cs b=>nH i dL cs b aq;have xT:∀ cs b,gP.op≠ .select cs b:=λ cs b=>nH j gP cs b kP;have keep:∀ aP a u,ax aP a→ax aP (a.put gP.dst u):=λ aP a u bB=>z2 _ _ _ bB (aW0 dL Mv a gP.dst u a3) (aXc dL a gP.dst u a3);have Da:R j=true:=hR j gP kP hY λ e he Φ=>Dq _ (dB e he Φ);have Dr:∀ k,(l.setIfInBounds j true).getD k false=true→R k=true:=λ k aw=>by
        by_cases hg:j=k
        · rw [← hg];exact Da
        · rw [aWy false hg] at aw;exact Dq k aw
      have Dp:∀ k,xX.getD k true=true→(l.setIfInBounds j true).getD k true=true:=λ k aw=>by
        by_cases hg:j=k
        · subst hg
          rcases aVf j l.size with dk | dk
          · simp [dk]
          · simp [aVi dk]
        · rw [aWy true hg];exact Dn k aw
      have Dk:∀ k ok,ops[k]? =some ok→k≠i→(l.setIfInBounds j true).getD k true=false→
          (∀ e∈ok.after,Region.binds .any e=true→e.on≠i)→dL.apart ops ok=true:=λ k ok aw p1 DC kO=>by
        refine Dj k ok aw p1 ?_ kO;by_cases hg:j=k
        · subst hg;exact xO
        · rw [aWy true hg] at DC;exact DC
      have DB:=aWQ hr (aW4 hY);rcases γ with ⟨xP,u,I,hK⟩ | ⟨xP,γ⟩
      · refine ⟨gP,kP, .inl ⟨xP,u,I.of_same (aW0 gP xT a dL.dst v cy).symm (aXc gP a dL.dst v cy).symm, ?_⟩⟩
        refine bI _ _ _ Dr Dp Dk DB (keep _ _ _ bB) ?_;rw [aVQ _ _ hY,← aWi a v u a2];exact hK
      · refine ⟨gP,kP, .inr ⟨xP,λ w hw=> ?_⟩⟩
        refine aWE (λ a' w' av=>⟨av.2.1, ?_⟩) (aaw (ax:=ax w0) kP cy a2 xT il (keep w0) (λ a d bB=>z2 _ _ _ bB Z Z) bB (γ w hw));have Mz:ax w' a':=by
          rcases aVf (a6 j) 3 with bE | uJ
          · exact z3 _ _ _ (av.2.1 (by omega)) av.1
          · rcases ba with ba | ba
            · exact ba _ _ _ av.1
            · have:=Dn j (ba j Da uJ);rw [xO] at this;cases this
        refine bI _ _ _ Dr Dp Dk DB Mz ?_;rw [aVQ _ _ hY];exact av.2.2
def JW (gg:Nat) (gh:ay→Int) (P:Program) (ops:Array Oper) (Q:Exit→Act→World→Prop) (a6:Nat→Nat):List Nat→Act→World→Prop
  | [],a,w0=>∀ w,Ext w0 w→Q .normal a w
  | i::r,a,w0=>∃ o,ops[i]? =some o∧
      ((a6 i=0∧∃ v,vB gg gh P ops w0 o v a∧JW gg gh P ops Q a6 r (a.put o.dst v) w0)∨
       (a6 i=1∧∃ v,Yields P ops o v a∧JW gg gh P ops Q a6 r (a.put o.dst v) w0)∨
       (1<a6 i∧∀ w,Ext w0 w→wpOp P ops Q i (λ a' w'=>(a6 i=2→eS gg gh w0 w')∧JW gg gh P ops Q a6 r a' w') a w))
theorem PG (hs:Region.noSelect ops=true) (il:∀ c a w,¬ Q (.panic c) a w):∀ (r:List Nat) (l:Array Bool) (a:Act) (w0:World),l.size=ops.size→kl ops a6 r l=true→JW gg gh P ops Q a6 r a w0→KV gg gh P ops Q a6 r.length l a w0
  | [],l,a,w0,_,ba,h=>⟨by simpa [kl] using ba,h⟩
  | i::r,l,a,w0,aB,ba,h=>by
    obtain ⟨o,b5,h⟩:=h;have nH:=aW2 hs;rcases h with ⟨aw,v,I,hK⟩ | ⟨aw,v,I,hK⟩ | ⟨aw,h⟩
    · simp only [kl,aw,aUp] at ba
      obtain ⟨⟨⟨hf,hr⟩,Φ⟩,ba⟩:=ba;obtain ⟨R,r1,r2,yf⟩:=PS aB Φ;exact afN b5 (by omega) nH il (λ w0 a=>vB gg gh P ops w0 o v a) (λ _ _ h=>h) (λ _ _ _ h he hw=>h.of_same he hw) (λ _ _ _ hx h=>h.on hx) R l r1 (.inr yf) _ _ _ _ r2 (λ _ h=>h) (aV0 b5 hf) (by simpa using hr) I
        (PG hs il r _ _ _ (by simpa using aB) ba hK)
    · simp only [kl,aw,aUp] at ba
      obtain ⟨⟨hf,hr⟩,ba⟩:=ba;exact afN b5 (by omega) nH il (λ _ a=>Yields P ops o v a) (λ _ _ h=>Yields.aDq h) (λ _ _ _ h he hw=>h.of_same he hw) (λ _ _ _ _ h=>h) (λ _=>true) l (λ _ _ _ _ _=>Z) (.inl λ _ _ _ h=>h) _ _ _ _ (λ _ _=>Z) (λ _ h=>h) (aV0 b5 hf) (by simpa using hr) I
        (PG hs il r _ _ _ (by simpa using aB) ba hK)
    · obtain ⟨k,gv⟩:∃ k,a6 i=k+2:=⟨a6 i - 2,by omega⟩
      simp only [kl,gv,aUp,aVh] at ba;obtain ⟨hr,ba⟩:=ba;refine ⟨λ aI=>(by rw [hr] at aI;cases aI),λ j aA=> ?_⟩;rw [hr] at aA;obtain rfl:j=i:=by simpa using aA
      exact ⟨o,b5, .inr ⟨aw,λ w hw=>aWE (λ a' w' av=>⟨av.1,PG hs il r _ _ _ (by simpa using aB) ba av.2⟩) (h w hw)⟩⟩
theorem aDA {id:Nat} {a:Act} {w:World} (bZ:List Nat) (hm:P.follows .mixedOrders=true) (ba:(Region.noSelect ops && (bZ.length == ops.size) && kl ops a6 bZ (Array.replicate ops.size false))=true)
    (h:JW gg gh P ops (gO (Q .normal)) a6 bZ a w):(Code.region id ops true).wp P Q a w:=by
  simp only [aUp,aVh] at ba;obtain ⟨⟨hs,aB⟩,ba⟩:=ba;refine aY2 (aXm hm (Q:=gO (Q .normal)) ?_) (λ e a w I=>by cases e<;>first | exact I | exact I.elim);have:=PG (P:=P) hs (Q:=gO (Q .normal)) (λ _ _ _ h=>h) bZ (Array.replicate ops.size false) a w (by simp) ba h;rw [aB] at this;exact Hy _ _ _ _ this _ (aUN _ w).drew
end
section
variable {gg:Nat} {gh:ay→Int} {P:Program} {n:Nat} {E c0:List (Nat×Value)} {a:Act} {w w' w0 aP:World} {Q:Exit→Act→World→Prop} {ops:Array Oper} {v:Value} {a6:Nat→Nat}
variable {d:Option Nat} {ty:TypeId} {pos:String} {af:Array Edge} {g:Option (Nat×Bool)} {x y z:Operand} {t:TypeId} {rest:List Oper} {bZ:List Nat} {i:Nat}
def yH (gg:Nat) (gh:ay→Int) (P:Program) (n:Nat) (ops:Array Oper) (Q:Exit→Act→World→Prop) (a6:Nat→Nat) (bZ:List Nat) (E:List (Nat×Value)) (w0:World):Prop:=∀ a,ew n E a→JW gg gh P ops (gO (Q .normal)) a6 bZ a w0
theorem Zw {id:Nat} (gg:Nat) (gh:ay→Int) (kS:List (Nat×Nat)) (bZ:List Nat) (hm:P.follows .mixedOrders=true) (ba:(Region.noSelect ops && (bZ.length == ops.size) && kl ops (mn kS) bZ (Array.replicate ops.size false))=true)
    (h:yH gg gh P n ops Q (mn kS) bZ E w):W P n (.region id ops true) Q E w:=λ a ha=>aDA bZ hm ba (h a ha)
theorem Wm (h:∀ w,Ext w0 w→N n Q E w):yH gg gh P n ops Q a6 [] E w0:=λ a ha w hw=>h w hw a ha
theorem C_ {d:Nat} {op:Op} (aq:ops[i]? =some ⟨some d,op,ty,pos,af,none⟩) (aw:a6 i=0) (hr:∀ w,eS gg gh w0 w→cT P E ⟨some d,op,ty,pos,af,none⟩ w v w) (hd:Nat.blt d n=true)
    (h:yH gg gh P n ops Q a6 bZ ((d,v)::E) w0):yH gg gh P n ops Q a6 (i::bZ) E w0:=λ a ha =>
  ⟨_,aq, .inl ⟨aw,v, .inl ⟨yp rfl,λ w hw=>by rw [hr w hw n a ha];exact ⟨rfl,rfl⟩⟩,h _ (ha.put hd v)⟩⟩
theorem s0 {d:Nat} {op:Op} (aq:ops[i]? =some ⟨some d,op,ty,pos,af,none⟩) (aw:a6 i=1) (hr:∀ w,cT P E ⟨some d,op,ty,pos,af,none⟩ w v w) (hd:Nat.blt d n=true)
    (h:yH gg gh P n ops Q a6 bZ ((d,v)::E) w0):yH gg gh P n ops Q a6 (i::bZ) E w0:=λ a ha =>
  ⟨_,aq, .inr (.inl ⟨aw,v, .inl ⟨yp rfl,λ w=>hr w n a ha⟩,h _ (ha.put hd v)⟩)⟩
theorem Wp {o:Oper} (aS:o.guard=none) (aq:ops[i]? =some o) (aw:a6 i=2) (h:∀ w,Ext w0 w→E_ P n ops o E w λ c0 w'=>eS gg gh w0 w'∧yH gg gh P n ops Q a6 bZ c0 w'):yH gg gh P n ops Q a6 (i::bZ) E w0:=λ a ha =>
  ⟨_,aq, .inr (.inr ⟨by omega,λ w hw=>Jt aS aq (h w hw) (λ c0 w' a' aw rX=>⟨λ _=>aw.1,aw.2 a' rX⟩) ha⟩)⟩
theorem Wd {o:Oper} (aS:o.guard=none) (aq:ops[i]? =some o) (aw:a6 i=3) (h:∀ w,Ext w0 w→E_ P n ops o E w λ c0 w'=>yH gg gh P n ops Q a6 bZ c0 w'):yH gg gh P n ops Q a6 (i::bZ) E w0:=λ a ha =>
  ⟨_,aq, .inr (.inr ⟨by omega,λ w hw=>Jt aS aq (h w hw) (λ c0 w' a' aw rX=>⟨λ aa=>by omega,aw a' rX⟩) ha⟩)⟩
end
end
section
theorem Ze {β:Type} {cur old part:List β} {p s j:Nat} (b5:old.length=s) (aA:j+part.length≤s) (hc:p+s≤cur.length) (h:∀ m,m<s→cur[p+m]? =old[m]?):
  cur.take p++(old.take j++part++old.drop (j+part.length))++cur.drop (p+(old.take j++part++old.drop (j+part.length)).length)=cur.take (p+j)++part++cur.drop (p+j+part.length):=by
 have aB:(old.take j++part++old.drop (j+part.length)).length=s:=by simp only [aUq,aUm,aUE];omega
 rw [aB];apply aVJ;intro k;by_cases γ:k<p
 ·rw [aUX,aUC (by rw [aUm];omega),aUX,aUC (by rw [aUm];omega),aU2,aU2,aUz γ,aUz (by omega)]
 ·by_cases aa:k<p+s
  ·rw [aUX,aUF (by rw [aUm];omega),aUC (by rw [aB,aUm];omega),aUm];obtain ⟨m,rfl⟩:∃ m,k=p+m:=⟨k - p,by omega⟩;rw [show p+m - min p cur.length=m from by omega];by_cases av:m<j
   ·rw [aUX,aUC (by rw [aUm];omega),aUX,aUC (by rw [aUm];omega),aU2,aU2,aUz av,aUz (by omega),h m (by omega)]
   ·by_cases aV:m<j+part.length
    ·rw [aUX,aUF (by rw [aUm];omega),aUC (by rw [aUm];omega),aUX,aUF (by rw [aUm];omega),aUC (by rw [aUm];omega),aUm,aUm];congr 1;omega
    ·rw [aUF (by simp only [aUq,aUm];omega),aVo,aUF (by simp only [aUq,aUm];omega),aVo];simp only [aUq,aUm];rw [show p+j+part.length+(p+m - (min (p+j) cur.length+part.length))=p+m from by omega,h m (by omega)];congr 1;omega
  ·rw [aUF (by simp only [aUq,aUm,aUE];omega),aVo,aUF (by simp only [aUq,aUm];omega),aVo];simp only [aUq,aUm,aUE];congr 1;omega
section
variable {P:Program} {n:Nat} {E c0:List (Nat×Value)} {a:Act} {w w' w0 aP:World} {Q:Exit→Act→World→Prop} {ops:Array Oper} {v:Value}
variable {d:Option Nat} {ty:TypeId} {pos:String} {af:Array Edge} {g:Option (Nat×Bool)} {x y z:Operand} {t:TypeId} {rest:List Oper}
theorem aEk {α:Type} {R:κ α} {e by_ B i j:Nat} {A:Option Addr} {c:Nat} {l:List α} {q q':α} {p:Addr} {old part es:List Value} (h:R.aD e by_ w B (κ.ae A) A c l) (hR:R.An) (aq:l[i]? =some q) (hold:∀ {w cs},R.has w cs q→cs=old) (hx:ev E x=some (.pointer (some p))) (hp:p=⟨cu A,du A+i * R.size+j,none⟩) (aH:ev E y=some v) (hc:v.cells=part.toArray)
  (aA:Nat.ble (j+part.length) R.size=true) (FO:es=old.take j++part++old.drop (j+part.length)) (I:∀ w,R.has w es q') (hs:ez P t part.length)
  (aw:∀ aP,Mod (κ.ae A) w aP→R.aD e by_ aP B (κ.ae A) A c (l.set i q')→cG P n ops Q rest E aP):cG P n ops Q (⟨none, .store t x y,ty,pos,af,none⟩::rest) E w:=by
 have IB:i<l.length:=(aUj.1 aq).1;obtain ⟨b,rfl⟩:=h.block (by omega);have Mk:p=⟨b,i * R.size+j,none⟩:=by rw [hp];simp [cu,du]
 subst Mk;obtain ⟨_,ps,_,_,b5,_⟩:=id h;obtain ⟨cur,uH,_,_⟩:=b5.adS;obtain ⟨wh,hle⟩:=κ.aD.alD (q':=q') h hR IB I uH;obtain ⟨rH,Ny,FF,fU⟩:=h.has.at_ (by omega);injection FF with FF
 injection FF with cV bz
 subst cV bz;obtain ⟨H2,ahd,jI⟩:=fU i q aq;obtain rfl:=hold ahd;have axX:H2.length=R.size:=R.len ahd;have ahx:es.length=R.size:=R.len (I w);have L9:=aWj aA;have r4:∀ m,m<R.size→cur.toList[i * R.size+m]? =H2[m]? :=λ m hm=>by
  have hu:H2[m]? =some H2[m]:=aUk (by omega);have:=jI m H2[m] hu;rw [hu];simpa [World.cell?,uH] using this
 have ayH:=Ze (cur:=cur.toList) (old:=H2) (part:=part) (p:=i * R.size) (s:=R.size) (j:=j) axX L9 (by rw [ahx] at hle;exact hle) r4;have o4:part.all (·.oneCell')=true:=aU7.2 λ u hu=>R.one (I w) u (by rw [FO];simp [hu]);have hh:=ZF (P:=P) (w:=w) (b:=b) (p:=i * R.size+j) (cur:=cur.toList) (e:=e) (by simpa [aN] using uH) hc hs o4 (by rw [ahx] at hle;omega);rw [← ayH,← FO] at hh;refine us (λ n a ha=> ?_) (aw _ (Mod.setRow w b _) wh);simp only [execOp,ha.ev hx,ha.ev aH,Instr.storeAt,Instr.sureAddr,aUv,aUA,aUo,hh]
end
end
section
section
variable {P:Program} {n:Nat} {E:List (Nat×Value)} {w w':World} {Q:Exit→Act→World→Prop} {ops:Array Oper} {ty:TypeId} {pos:String} {af:Array Edge} {rest:List Oper} {x y z:Operand} {t u:TypeId} {v iR:Value} {d:Option Nat} {g:Option (Nat×Bool)}
def Cx (P:Program) (w:World) (t:TypeId) (v:Value) (name:String) (f:FuncId) (iR:Value):Prop:=(Go.method (P.types.size+Made.depth) t v name).run P w= .ok (f,iR) w
theorem alw {f:FuncId} {name:String} (hf:Enters P f) {xs:Array Operand} {ts:Array TypeId} {args:List Value} {a:Act} (ha:ew n E a) (hr:ev E x=some (.iface t v)) (he:hz E xs.toList=some args) (hm:Cx P w t v name f iR):
  (execOp a.eval ⟨d, .call {callee:= .invoke x name,args:=xs,argTypes:=ts},ty,pos,af,g⟩).run P w= .ok (.enter f (iR::args).toArray) w:=by
 obtain ⟨fn,γ,aa,av⟩:=hf;have hx:xs.map a.eval=args.toArray:=by rw [← ha.hz he];apply aVK;simp
 unfold Cx at hm;have e0:(#[(Value.iface t v)]++args.toArray)[0]? =some (.iface t v):=by simp
 have a8:(#[(Value.iface t v)]++args.toArray).extract 1 (#[(Value.iface t v)]++args.toArray).size=args.toArray:=by simp
 have bl:#[iR]++args.toArray=(iR::args).toArray:=by simp
 have hp:Sem.run P program w= .ok P w:=rfl;simp only [execOp,resolve,hx,ha.ev hr,aUv,aUA,aUo,invoke,e0,a8,callMethod,callFunc,hp,hm,γ,aa,av,bl,aUY,aVs]
theorem hG {d:Nat} {f:FuncId} {name:String} (hf:Enters P f) {xs:Array Operand} {ts:Array TypeId} {args:List Value} (hr:ev E x=some (.iface t v)) (he:hz E xs.toList=some args) (hm:Cx P w t v name f iR) (hd:Nat.blt d n=true)
  (h:Calls P f (iR::args).toArray w λ e w'=>∃ v,e= .returned v∧cG P n ops Q rest ((d,v)::E) w'):cG P n ops Q (⟨some d, .call {callee:= .invoke x name,args:=xs,argTypes:=ts},ty,pos,af,none⟩::rest) E w:=λ a ha=>by
 refine Ht Z ?_;unfold Oper.wp;rw [alw hf ha hr he hm];refine aXH h λ e w' fp=> ?_;obtain ⟨v,rfl,h⟩:=fp;exact h _ (ha.put hd v)
theorem aip {d:Nat} {f:FuncId} {name:String} {xs:Array Operand} {ts:Array TypeId} {args:List Value} {j:Nat} {q b c:Bool} {dm:Oper} {jc:Nat} {v0:Value} (aA:ops[j]? =some dm) (nF:dm.dst=some jc) (Φ:look E jc=some (.bool b)) (hc:(b == q)=c)
  (hf:Enters P f) (hx:c=true→ev E x=some (.iface t v0)) (he:c=true→hz E xs.toList=some args) (hm:Cx P w t v0 name f iR) (hr:c=true→Calls P f (iR::args).toArray w λ e w'=>e= .returned v∧Ext w w') (hd:Nat.blt d n=true)
  (h:∀ w',Ext w w'→cG P n ops Q rest ((d,ik c v)::E) w'):cG P n ops Q (⟨some d, .call {callee:= .invoke x name,args:=xs,argTypes:=ts},ty,pos,af,some (j,q)⟩::rest) E w :=
 Tz (c:=c) (λ a ha=>by rw [Ej (o:=⟨some d,_,ty,pos,af,some (j,q)⟩) rfl aA nF Φ ha,hc])
  (λ hc a ha=>by unfold Oper.wp;rw [alw hf ha (hx hc) (he hc) hm];exact (hr hc).mono λ e w' ⟨γ,azk⟩=>by subst γ;subst hc;exact h w' azk _ (ha.put hd v)) (λ hc a ha=>by subst hc;exact h w (Ext.bK w) _ (ha.put hd undef))
theorem Sd (hr:∀ w,(Instr.makeInterface t v).run P w= .ok (.iface t v) w) (hx:ev E x=some v):cT P E ⟨d, .makeInterface t x,ty,pos,af,g⟩ w (.iface t v) w:=λ n a ha=>by
 simp only [execOp,ha.ev hx,aUv,hr w,aUo,aUA]
theorem amh {t':TypeId} (hr:∀ w,(Instr.typeAssert (.iface t v) t' t false).run P w= .ok v w) (hx:ev E x=some (.iface t v)):cT P E ⟨d, .typeAssert x t' t false,ty,pos,af,g⟩ w v w:=λ n a ha=>by
 simp only [execOp,ha.ev hx,aUv,hr w,aUo,aUA]
theorem zE {e:TypeId} {p:Addr} {name:String} {f:FuncId} (h:(Go.method (P.types.size+Made.depth) t (.pointer (some p)) name).run P w=(loadVar e p >>= λ x=>pure (f,x)).run P w) (aB:iI P w e p v):Cx P w t (.pointer (some p)) name f v:=by
 unfold Cx;unfold iI at aB;rw [h];simp only [aUv,aB,aUo,aUA]
end
end
section
namespace cx
section
variable {α:Type} [Inhabited α] {key:α→Int} {lm l:List α} {m N n:Nat}
theorem aFG (h:(((((m - 1) / 2:Nat):Int)== (m:Int)) || !decide (key (lm.getD m default)<key (lm.getD ((m - 1) / 2) default)))=true):qh key lm m=lm:=by
 unfold qh;rw [aUr];rintro ⟨γ,aa⟩;simp only [aU9,aVh,aVn,aU1] at h;rcases h with h | h
 ·omega
 ·exact h aa
theorem aFH (h:(((((m - 1) / 2:Nat):Int)== (m:Int)) || !decide (key (lm.getD m default)<key (lm.getD ((m - 1) / 2) default)))=false):0<m∧qh key lm m=qh key (swp lm ((m - 1) / 2) m) ((m - 1) / 2):=by
 simp only [aU8,aWz,aVX,aUO] at h;have hm:0<m:=by
  rcases aW7 m with aI | aI
  ·subst aI;exact absurd Z h.1
  ·exact aI
 refine ⟨hm, ?_⟩
 conv=>lhs;unfold qh
 rw [aUz ⟨hm,h.2⟩]
theorem ast (h:(decide ((N:Int)≤2 * (m:Int)+1) || decide (2 * (m:Int)+1<0))=true):j5 key N l m=l:=by
 unfold j5;rw [aUr];simp only [aU9,aUO] at h;omega
theorem asu (h:(decide ((N:Int)≤2 * (m:Int)+1) || decide (2 * (m:Int)+1<0))=false):2 * m+1<N:=by
 simp only [aU8,aU1] at h;omega
theorem aAR (h:(decide (2 * (m:Int)+1+1<(N:Int)) && decide (key (l.getD (2 * m+1+1) default)<key (l.getD (2 * m+1) default)))=true):oo key N l m=2 * m+2:=by
 simp only [aUp,aUO] at h;unfold oo;rw [aUz ⟨by omega,h.2⟩]
theorem aAP {q:Bool} (h:(decide (2 * (m:Int)+1+1<(N:Int)) && q)=true):2 * m+2<N:=by
 simp only [aUp,aUO] at h;omega
theorem aAQ (h:(decide (2 * (m:Int)+1+1<(N:Int)) && decide (key (l.getD (2 * m+1+1) default)<key (l.getD (2 * m+1) default)))=false):oo key N l m=2 * m+1:=by
 unfold oo;rw [aUr];rintro ⟨γ,aa⟩;rw [aUL (show 2 * (m:Int)+1+1<(N:Int) by omega),aUL (show key (l.getD (2 * m+1+1) default)<key (l.getD (2 * m+1) default) from aa)] at h;cases h
theorem aeX {j:Nat} (γ:2 * m+1<N) (aB:oo key N l m=j) (h:(!decide (key (l.getD j default)<key (l.getD m default)))=true):j5 key N l m=l:=by
 unfold j5;rw [aUr];rw [aB];rintro ⟨_,aa⟩;rw [aUL aa] at h;cases h
theorem aeY {j:Nat} (γ:2 * m+1<N) (aB:oo key N l m=j) (h:(!decide (key (l.getD j default)<key (l.getD m default)))=false):j5 key N l m=j5 key N (swp l m j) j:=by
 conv=>lhs;unfold j5
 rw [aB,aUz ⟨γ,by simpa using h⟩]
end
end cx
theorem aES (m:Nat):Int.tdiv ((m:Int) - 1) 2=(((m - 1) / 2:Nat):Int):=by
 cases m with
 | zero=>rfl
 | succ m =>
  rw [show ((m+1:Nat):Int) - 1=(m:Int) by omega,aYu (by omega)];simp
section
variable {P:Program} {n:Nat} {E:List (Nat×Value)} {w:World} {ty:TypeId} {pos:String} {af:Array Edge} {x y:Operand} {t u:TypeId} {d:Option Nat} {g:Option (Nat×Bool)}
theorem aqs {k:IntKind} {i j r:Int} (hx:ev E x=some (.int k i)) (aH:ev E y=some (.int k j)) (γ:j≠0) (hr:Int.tdiv i j=r) (hw:k.wrap r=r):cT P E ⟨d, .binOp .quo t x y u,ty,pos,af,g⟩ w (.int k r) w:=oB hx aH (binOp_quo t k i j) (by
 subst hr;have:Op.intDiv .quo k i j=pure (.int k (Int.tdiv i j)):=by simp [Op.intDiv,γ,hw]
 rw [this];rfl)
end
end
section
theorem apj:fa prog cd.rep 263 313 32:=fa.lK (z:=cd.zero) (k:=4) underlying263 cd.info rfl rfl (by decide) cd.iY
theorem FL {w:World} {cs:List Value} {a:cd} (h:cd.rep.has w cs a):cs=a.cells:=aWw (show cs=a.cells∧a.ok from h)
theorem Oq (A:Option Addr) (n c:Nat) (w:World):
  Calls prog 219 #[.slice A n c] w (λ e w'=>e= .returned (.int .i64 (n:Int))∧Ext w w'):=by
 refine cl (n:=5) func219 Z Z Z ?_;refine ai<|va Z<|ag<|ai<|vm Z<|J (cj underlying263 Z)<|va Z<|ag<|rt<|bb (.tmp Z .nil)<| ?_;exact ⟨Z,(Ext.bK w)⟩
theorem TF (A:Option Addr) (n c:Nat) (l:List cd) (i j:Int) (p q:Nat) (w:World) (aB:cd.rep.aK 32 w A c l) (hn:l.length=n) (aq:i=(p:Int)) (aA:j=(q:Int)) (hp:p<n) (I:q<n):
  Calls prog 265 #[.slice A n c, .int .i64 i, .int .i64 j] w (λ e w'=>e= .returned (.bool (decide ((l.getD p default).all<(l.getD q default).all)))∧Ext w w'):=by
 refine cl (n:=18) func265 Z Z Z ?_;refine ai<|va Z<|ag<|az<| ?_;refine rd [(4,0),(9,0)] [0,1,2,3,4,5,6,7,8,9,10,11] (by kernel_rfl) (by kernel_rfl) ?_;refine ar Z (λ _=>aM Z)<|ar Z (λ _=>aM Z)<|ar Z (λ _=>bY i.toNat underlying263 oY Z Z ((aB.keep (Ext.bK w)).bu (aX i.toNat)) (by omega) (by omega))<|ar Z (λ _=>au QC Z)<|bG Z (λ _ x=>ak Z (κ.aK.j9 FL ((aB.keep (τ (Ext.bK w) x)).cr (aX i.toNat)) 3 (dH (l:=l) (u:=default) (by omega)) Z bf))<|ar Z (λ _=>aM Z)<|ar Z (λ _=>aM Z)<|ar Z (λ _=>bY j.toNat underlying263 oY Z Z ((aB.keep (Ext.bK w)).bu (aX j.toNat)) (by omega) (by omega))<|ar Z (λ _=>au QC Z)<|bG Z (λ _ x=>ak Z (κ.aK.j9 FL ((aB.keep (τ (Ext.bK w) x)).cr (aX j.toNat)) 3 (dH (l:=l) (u:=default) (by omega)) Z bf))<|ar Z (λ _=>blt Z Z)<|ar Z (λ _=>fA Z)<|fn λ cW et=> ?_;have:=et.size;have bk:=τ (Ext.bK w) et;refine aT<|rt<|bb (.tmp Z .nil)<| ?_;subst aq aA;exact ⟨by simp only [aVc];rfl,bk⟩
theorem TG (A:Option Addr) (n c ax:Nat) (l:List cd) (i j:Int) (p q:Nat) (w:World) (aW:cd.rep.aD 313 32 w ax (κ.ae A) A c (l)) (dS:∀ y∈l,y.ok) (hn:l.length=n) (aq:i=(p:Int)) (aA:j=(q:Int)) (hp:p<n) (I:q<n):
  Calls prog 266 #[.slice A n c, .int .i64 i, .int .i64 j] w (λ e w'=>e= .returned (.tuple #[])∧cd.rep.aD 313 32 w' ax (κ.ae A) A c (cx.swp l p q)∧Mod (κ.ae A) w w'):=by
 have D9:=λ q I=>(aW.lt q I).2;refine cl (n:=20) func266 Z Z Z ?_;refine rd [(7,0),(11,0),(13,3),(15,3)] [0,1,2,3,4,5,6,7,8,9,10,11,12,13,14,15] (by kernel_rfl) (by kernel_rfl) ?_;refine ar Z (λ _=>aM Z)<|ar Z (λ _=>aM Z)<|ar Z (λ _=>aM Z)<|ar Z (λ _=>aM Z)<|ar Z (λ _=>aM Z)<|ar Z (λ _=>aM Z)<|ar Z (λ _=>bY j.toNat underlying263 oY Z Z (aW.has.bu (aX j.toNat (by first | omega | (rw [aUs];omega)))) (by omega) (by first | omega | (rw [aUs];omega)))<|bG Z (λ _ x=>ak Z (κ.aK.hb FL ((aW.later x).has.cr (aX j.toNat (by first | omega | (rw [aUs];omega)))) (dH (l:=l) (u:=default) (by first | omega | (rw [aUs];omega))) Qk oY))<|ar Z (λ _=>aM Z)<|ar Z (λ _=>aM Z)<|ar Z (λ _=>bY i.toNat underlying263 oY Z Z (aW.has.bu (aX i.toNat (by first | omega | (rw [aUs];omega)))) (by omega) (by first | omega | (rw [aUs];omega)))<|bG Z (λ _ x=>ak Z (κ.aK.hb FL ((aW.later x).has.cr (aX i.toNat (by first | omega | (rw [aUs];omega)))) (dH (l:=l) (u:=default) (by first | omega | (rw [aUs];omega))) Qk oY))<|ar Z (λ _=>bY i.toNat underlying263 oY Z Z (aW.has.bu (aX i.toNat (by first | omega | (rw [aUs];omega)))) (by omega) (by first | omega | (rw [aUs];omega)))<|en Z Z Z λ cW et Q hK=>NU (q':=l.getD j.toNat default) (i:=i.toNat) (es:= [.int .i64 ((l.getD j.toNat default).cell.x), .int .i64 ((l.getD j.toNat default).cell.y), .int .i64 ((l.getD j.toNat default).a_), .int .i64 ((l.getD j.toNat default).all)]) (aW.later et) κ.dE (by first | omega | (rw [aUs];omega)) Z Z Z Z (λ _=>⟨Z,(dS _ (jT (by omega)))⟩) oY λ amV I8 KO=>hK _ _ ?_;have:=et.size;have bk:=(Mod.bK (κ.ae A) w).trans (Mod.bF et);have:=I8.size;have OH:=bk.md I8 (λ q I=> .inl I);refine ar Z (λ _=>bY j.toNat underlying263 oY Z Z (KO.has.bu (aX j.toNat (by first | omega | (rw [aUs];omega)))) (by omega) (by first | omega | (rw [aUs];omega)))<|en Z Z Z λ wK bo Q hK=>NU (q':=l.getD i.toNat default) (i:=j.toNat) (es:= [.int .i64 ((l.getD i.toNat default).cell.x), .int .i64 ((l.getD i.toNat default).cell.y), .int .i64 ((l.getD i.toNat default).a_), .int .i64 ((l.getD i.toNat default).all)]) (KO.later bo) κ.dE (by first | omega | (rw [aUs];omega)) Z Z Z Z (λ _=>⟨Z,(dS _ (jT (by omega)))⟩) oY λ wI Bt E5=>hK _ _ ?_;have:=bo.size;have kE:=OH.trans (Mod.bF bo);have:=Bt.size;have kB:=kE.md Bt (λ q I=> .inl I);refine fn λ Od l9=> ?_;have:=l9.size;have tP:=kB.trans (Mod.bF l9);refine ne<|bb .nil<| ?_;have E5:=E5.later l9;subst aq aA;simp only [aVc] at E5;exact ⟨Z,E5,tP⟩
theorem aGU (b:Nat) (A:Option Addr) (n c ax:Nat) (l:List cd) (v0 v1 v2 v3 v4 v5:Value) (j:Nat) (w:World) (aJ:aN w b [v0,v1,v2,v3,v4,v5, .slice A n c] 265 (0,0)) (aW:cd.rep.aD 313 32 w ax (κ.ae A) A c (l)) (dS:∀ y∈l,y.ok) (hn:l.length=n) (hd:∀ q∈κ.ae A,q=b→False) (aA:j<n):
  Calls prog 239 #[.iface 311 (.pointer (some ⟨b,6,none⟩)), .int .i64 (j:Int)] w (λ e w'=>e= .returned (.tuple #[])∧aN w' b [v0,v1,v2,v3,v4,v5, .slice A n c] 265 (0,0)∧cd.rep.aD 313 32 w' ax (κ.ae A) A c (cx.qh cd.all l j)∧Mod (κ.ae A) w w'):=by
 have D9:=λ q I=>(aW.lt q I).2;have yd:=aJ.lt;have Md:=aW.has.2.1;have Dx:=aW.has.dT;have Me:=aW.has.1;refine cl (n:=23) func239 Z Z Z ?_;refine bA<| ?_;refine dX (λ b4 b2 aG=>∃ lm:List cd,∃ m:Nat,b2= [(0, .iface 311 (.pointer (some ⟨b,6,none⟩))),(1, .int .i64 (m:Int))]∧b4=(2 * m)∧Mod (κ.ae A) w aG∧aN aG b [v0,v1,v2,v3,v4,v5, .slice A n c] 265 (0,0)∧cd.rep.aD 313 32 aG ax (κ.ae A) A c (lm)∧(m<n)∧(lm.length=n)∧(∀ y∈lm,y.ok)∧(cx.qh cd.all lm m=cx.qh cd.all l j)∧(∀ q∈κ.ae A,q=b→False)) _ _ ⟨l,j,Z,Z,(Mod.bK (κ.ae A) w),aJ,aW,by omega,by omega,dS,rfl,(λ q I Φ=>by (exact hd q I Φ))⟩ (q4 Z) ?_;rintro Ns Km ku ⟨lm,m,rfl,rfl,di,aJ,jw,hm,axW,FV,mW,Fg⟩;have:=di.size;have aDj:=aJ.lt;have amA:=λ q I=>(jw.lt q I).2;refine bA<|ai<|vm Z<|J (mi Z Z (bH (by omega)))<|J (aqs (r:=(((m - 1) / 2:Nat):Int)) Z Z (by decide) (aES m) (bH (by omega)))<|va Z<|ag<|az<|ai<|vm Z<|vm Z<|J (beq Z Z)<|vm Z<|br Z Z Z Z (λ hc=>aM Z) Z<|br Z Z Z Z (λ hc=>aM Z) Z<|br Z Z Z Z (λ hc=>aM Z) Z<|aip Z Z Z Z Qo (λ hc=>(gt hc Z)) (λ hc=>hM (gt hc Z) (hM (gt hc Z) Z)) (zE (e:= 263) (by kernel_rfl) (aJ.one pM Z)) (λ hc=>TF _ _ _ lm (m:Int) ((((m - 1) / 2:Nat):Int)) m ((m - 1) / 2) _ jw.has (by omega) (by omega) (by omega) (by first | omega | (simp only [cH] at hc;omega)) (by first | omega | (simp only [cH] at hc;omega))) Z λ eM cL=> ?_;have:=cL.size;have bR:=di.trans (Mod.bF cL);refine br Z Z Z Z (λ hc=>eF (gt hc Z)) Z<|J (fM Z Z Z Z)<|ag<| ?_;refine ee Z (λ kN=> ?_) (λ kN=> ?_)
 ·have hex:=cx.aFG (key:=cd.all) kN;rw [hex] at mW;refine c_<|c9<|Oo Z<|dn<|c8<|ne<|bb .nil<| ?_;have jw:=jw.later cL;have aJ:=aJ.later cL;exact ⟨Z,aJ,by rw [← mW];exact jw,bR⟩
 ·obtain ⟨FQ,s6⟩:=cx.aFH (key:=cd.all) kN;refine bt<|ai<|vm Z<|vm Z<|vm Z<| ?_;have aJ:=aJ.later cL;have jw:=jw.later cL;refine hG Qq Z Z (zE (e:= 263) (by kernel_rfl) (aJ.one pM Z)) Z ((TG _ _ _ _ lm ((((m - 1) / 2:Nat):Int)) (m:Int) ((m - 1) / 2) m _ jw FV (by omega) (by omega) (by omega) (by omega) (by omega)).mono ?_);rintro e JI ⟨rfl,ao1,DM⟩;refine ⟨_,Z, ?_⟩;have:=DM.size;have wX:=bR.md DM (λ q I=> .inl I);have ayh:∀ y∈cx.swp lm ((m - 1) / 2) m,y.ok:=λ y aH=>FV y ((cx.D7 (by omega) (by omega)).subset aH);have axP:(cx.swp lm ((m - 1) / 2) m).length=n:=by rw [cx.mv];omega
  refine ag<|rg<|vm Z<|va Z<|nl<|bX<| ?_;have aJ:=aJ.mod DM (λ I=>Fg _ I rfl);exact cO _ _ ⟨cx.swp lm ((m - 1) / 2) m,(m - 1) / 2,Z,Z,wX,aJ,ao1,by omega,axP,ayh,s6.symm.trans mW,(λ q I Φ=>by (exact Fg q I Φ))⟩ (by omega) (.cons Z (.cons (bO Z) .nil))
theorem aGP (b:Nat) (A:Option Addr) (n c ax:Nat) (l:List cd) (v0 v1 v2 v3 v4 v5:Value) (i N:Nat) (w:World) (aJ:aN w b [v0,v1,v2,v3,v4,v5, .slice A n c] 265 (0,0)) (aW:cd.rep.aD 313 32 w ax (κ.ae A) A c (l)) (dS:∀ y∈l,y.ok) (hn:l.length=n) (hd:∀ q∈κ.ae A,q=b→False) (aq:i<n) (av3:N≤n) (Rc:n≤1000000):
  Calls prog 240 #[.iface 311 (.pointer (some ⟨b,6,none⟩)), .int .i64 (i:Int), .int .i64 (N:Int)] w (λ e w'=>(∃ v,e= .returned (.bool v))∧aN w' b [v0,v1,v2,v3,v4,v5, .slice A n c] 265 (0,0)∧cd.rep.aD 313 32 w' ax (κ.ae A) A c (cx.j5 cd.all N l i)∧Mod (κ.ae A) w w'):=by
 have D9:=λ q I=>(aW.lt q I).2;have yd:=aJ.lt;have Md:=aW.has.2.1;have Dx:=aW.has.dT;have Me:=aW.has.1;refine cl (n:=48) func240 Z Z Z ?_;refine ai<|va Z<|ag<|ai<|vm Z<|va Z<|ag<|az<|bA<| ?_;refine dX (λ b4 b2 aG=>∃ lm:List cd,∃ m:Nat,b2= [(0, .iface 311 (.pointer (some ⟨b,6,none⟩))),(1, .int .i64 (i:Int)),(2, .int .i64 (N:Int)),(6, .bool false),(7, .int .i64 (m:Int))]∧b4=N - m∧Mod (κ.ae A) w aG∧aN aG b [v0,v1,v2,v3,v4,v5, .slice A n c] 265 (0,0)∧cd.rep.aD 313 32 aG ax (κ.ae A) A c (lm)∧(m<n)∧(lm.length=n)∧(∀ y∈lm,y.ok)∧(cx.j5 cd.all N lm m=cx.j5 cd.all N l i)∧(∀ q∈κ.ae A,q=b→False)) _ _ ⟨l,i,Z,Z,(Mod.bK (κ.ae A) w),aJ,aW,by omega,by omega,dS,rfl,(λ q I Φ=>by (exact hd q I Φ))⟩ (q4 Z) ?_;rintro Ns Km ku ⟨lm,m,rfl,rfl,di,aJ,jw,hm,axW,FV,mW,Fg⟩;have:=di.size;have aDj:=aJ.lt;have amA:=λ q I=>(jw.lt q I).2;refine bA<|ai<|vm Z<|J (CS Z Z (bH (by omega)))<|J (bad Z Z (bH (by omega)))<|va Z<|ag<|az<|ai<|vm Z<|vm Z<|J (j4 Z Z)<|vm Z<|br Z Z Z Z (λ hc=>aM Z) Z<|br Z Z Z Z (λ hc=>blt (gt hc Z) Z) Z<|J (fM Z Z Z Z)<|ag<| ?_;refine ee Z (λ qM=> ?_) (λ qM=> ?_)
 ·have hex:=cx.ast (key:=cd.all) (l:=lm) qM;rw [hex] at mW;refine c_<|c9<|Oo Z<|dn<|c8<|aT<|ai<|vm Z<|vm Z<|J (iK Z Z)<|va Z<|ag<|rt<|bb (.tmp Z .nil)<| ?_
  skip
  exact ⟨⟨_,Z⟩,aJ,by rw [← mW];exact jw,di⟩
 ·have s5:=cx.asu qM;refine bt<|ai<|vm Z<|va Z<|ag<|az<|ai<|vm Z<|J (bad Z Z (bH (by omega)))<|va Z<|ag<|ai<|vm Z<|vm Z<|J (blt Z Z)<|vm Z<|br Z Z Z Z (λ hc=>aM Z) Z<|br Z Z Z Z (λ hc=>aM Z) Z<| ?_;refine br Z Z Z Z (λ hc=>aM Z) Z<|aip Z Z Z Z Qo (λ hc=>(gt hc Z)) (λ hc=>hM (gt hc Z) (hM (gt hc Z) Z)) (zE (e:= 263) (by kernel_rfl) (aJ.one pM Z)) (λ hc=>TF _ _ _ lm (((2 * (m:Int))+1)+1) ((2 * (m:Int))+1) (((2 * m)+1)+1) ((2 * m)+1) _ jw.has (by omega) (by omega) (by omega) (by first | omega | (simp only [cH] at hc;omega)) (by first | omega | (simp only [cH] at hc;omega))) Z λ wK bo=> ?_;have:=bo.size;have kE:=di.trans (Mod.bF bo);refine J (e9 Z Z Z Z)<|ag<| ?_;refine ee Z (λ qL=> ?_) (λ qL=> ?_)
  ·have jg:=cx.aAR (key:=cd.all) (l:=lm) (m:=m) qL;have agU:=cx.aAP qL;refine rg<|vm Z<|va Z<|ag<|az<|ai<|vm Z<|vm Z<|vm Z<| ?_;have aJ:=aJ.later bo;have jw:=jw.later bo;refine hG Qo Z Z (zE (e:= 263) (by kernel_rfl) (aJ.one pM Z)) Z ((TF _ _ _ lm (((2 * (m:Int))+1)+1) (m:Int) (((2 * m)+1)+1) m _ jw.has (by omega) (by omega) (by omega) (by first | omega | (simp only [cH] at hc;omega)) (by first | omega | (simp only [cH] at hc;omega))).mono ?_);rintro e zZ ⟨rfl,mC⟩;refine ⟨_,Z, ?_⟩;have:=mC.size;have iX:=kE.trans (Mod.bF mC);refine J (eF Z)<|ag<| ?_;refine ee Z (λ pU=> ?_) (λ pU=> ?_)
   ·have hex:=cx.aeX (key:=cd.all) s5 jg pU;rw [hex] at mW;refine c_<|c9<|Oo Z<|dn<|c8<|aT<|ai<|vm Z<|vm Z<|J (iK Z Z)<|va Z<|ag<|rt<|bb (.tmp Z .nil)<| ?_
    skip
    have jw:=jw.later mC;have aJ:=aJ.later mC;exact ⟨⟨_,Z⟩,aJ,by rw [← mW];exact jw,iX⟩
   ·have s6:=cx.aeY (key:=cd.all) s5 jg pU;refine bt<|ai<|vm Z<|vm Z<|vm Z<| ?_;have aJ:=aJ.later mC;have jw:=jw.later mC;refine hG Qq Z Z (zE (e:= 263) (by kernel_rfl) (aJ.one pM Z)) Z ((TG _ _ _ _ lm (m:Int) (((2 * (m:Int))+1)+1) m (((2 * m)+1)+1) _ jw FV (by omega) (by omega) (by omega) (by omega) (by omega)).mono ?_);rintro e JJ ⟨rfl,yR,Gd⟩;refine ⟨_,Z, ?_⟩;have:=Gd.size;have vl:=iX.md Gd (λ q I=> .inl I);have ayi:∀ y∈cx.swp lm m (((2 * m)+1)+1),y.ok:=λ y aH=>FV y ((cx.D7 (by omega) (by omega)).subset aH);have axQ:(cx.swp lm m (((2 * m)+1)+1)).length=n:=by rw [cx.mv];omega
    refine ag<|rg<|vm Z<|va Z<|nl<|bX<| ?_;have aJ:=aJ.mod Gd (λ I=>Fg _ I rfl);exact cO _ _ ⟨cx.swp lm m (((2 * m)+1)+1),2 * m+2,Z,Z,vl,aJ,yR,by omega,axQ,ayi,s6.symm.trans mW,(λ q I Φ=>by (exact Fg q I Φ))⟩ (by omega) (.cons Z (.cons Z (.cons Z (.cons Z (.cons (bO Z) .nil)))))
  ·have jg:=cx.aAQ (key:=cd.all) (l:=lm) (m:=m) qL;refine bt<|az<|ai<|vm Z<|vm Z<|vm Z<| ?_;have aJ:=aJ.later bo;have jw:=jw.later bo;refine hG Qo Z Z (zE (e:= 263) (by kernel_rfl) (aJ.one pM Z)) Z ((TF _ _ _ lm ((2 * (m:Int))+1) (m:Int) ((2 * m)+1) m _ jw.has (by omega) (by omega) (by omega) (by first | omega | (simp only [cH] at hc;omega)) (by first | omega | (simp only [cH] at hc;omega))).mono ?_);rintro e z6 ⟨rfl,k0⟩;refine ⟨_,Z, ?_⟩;have:=k0.size;have lu:=kE.trans (Mod.bF k0);refine J (eF Z)<|ag<| ?_;refine ee Z (λ W3=> ?_) (λ W3=> ?_)
   ·have hex:=cx.aeX (key:=cd.all) s5 jg W3;rw [hex] at mW;refine c_<|c9<|Oo Z<|dn<|c8<|aT<|ai<|vm Z<|vm Z<|J (iK Z Z)<|va Z<|ag<|rt<|bb (.tmp Z .nil)<| ?_
    skip
    have jw:=jw.later k0;have aJ:=aJ.later k0;exact ⟨⟨_,Z⟩,aJ,by rw [← mW];exact jw,lu⟩
   ·have s6:=cx.aeY (key:=cd.all) s5 jg W3;refine bt<|ai<|vm Z<|vm Z<|vm Z<| ?_;have aJ:=aJ.later k0;have jw:=jw.later k0;refine hG Qq Z Z (zE (e:= 263) (by kernel_rfl) (aJ.one pM Z)) Z ((TG _ _ _ _ lm (m:Int) ((2 * (m:Int))+1) m ((2 * m)+1) _ jw FV (by omega) (by omega) (by omega) (by omega) (by omega)).mono ?_);rintro e aak ⟨rfl,uf,DR⟩;refine ⟨_,Z, ?_⟩;have:=DR.size;have Ez:=lu.md DR (λ q I=> .inl I);have ayj:∀ y∈cx.swp lm m ((2 * m)+1),y.ok:=λ y aH=>FV y ((cx.D7 (by omega) (by omega)).subset aH);have axR:(cx.swp lm m ((2 * m)+1)).length=n:=by rw [cx.mv];omega
    refine ag<|rg<|vm Z<|va Z<|nl<|bX<| ?_;have aJ:=aJ.mod DR (λ I=>Fg _ I rfl);exact cO _ _ ⟨cx.swp lm m ((2 * m)+1),2 * m+1,Z,Z,Ez,aJ,uf,by omega,axR,ayj,s6.symm.trans mW,(λ q I Φ=>by (exact Fg q I Φ))⟩ (by omega) (.cons Z (.cons Z (.cons Z (.cons Z (.cons (bO Z) .nil)))))
theorem aGT (b:Nat) (A:Option Addr) (c ax:Nat) (l:List cd) (v0 v1 v2 v3 v4 v5:Value) (x:cd) (w:World) (aJ:aN w b [v0,v1,v2,v3,v4,v5, .slice A l.length c] 265 (0,0)) (aW:cd.rep.aD 313 32 w ax (κ.ae A) A c (l)) (dS:∀ y∈l,y.ok) (hd:∀ q∈κ.ae A,q=b→False) (hx:x.ok) (Rc:l.length≤1000000) (uD:ax≤w.heap.size):
  Calls prog 268 #[.pointer (some ⟨b,6,none⟩), .iface 313 (.agg #[.int .i64 x.cell.x, .int .i64 x.cell.y, .int .i64 x.a_, .int .i64 x.all])] w (λ e w'=>∃ bL b_,e= .returned (.tuple #[])∧aN w' b [v0,v1,v2,v3,v4,v5, .slice bL (l++ [x]).length b_] 265 (0,0)∧cd.rep.aD 313 32 w' ax (κ.ae bL) bL b_ (l++ [x])∧(∀ q∈κ.ae bL,q∈κ.ae A∨w.heap.size≤q)∧Mod (b::κ.ae A) w w'):=by
 have D9:=λ q I=>(aW.lt q I).2;have yd:=aJ.lt;have Md:=aW.has.2.1;have Dx:=aW.has.dT;have Me:=aW.has.1;refine cl (n:=13) func268 Z Z Z ?_;refine rd [(3,0),(6,2),(7,3),(9,3)] [0,1,2,3,4,5,6,7,8,9] (by kernel_rfl) (by kernel_rfl) ?_;refine ar Z (λ _=>aM Z)<|ar Z (λ _=>aM Z)<|ar Z (λ _=>b6 Z)<|bG Z (λ _ x=>ak Z ((aJ.later x).one pM Z))<|ar Z (λ _=>aM Z)<|ar Z (λ _=>amh (λ w=>by kernel_rfl) Z)<|fS Z Z Z λ cW et Q hK=>c6 (e:= 313) (cs:= [.int .i64 x.cell.x, .int .i64 x.cell.y, .int .i64 x.a_, .int .i64 x.all]) Z (λ _=>by kernel_rfl) Z λ amV aJ2 k2 aOf abM=>hK _ _ ⟨τ et k2, ?_⟩;have:=et.size;have bk:=(Mod.bK (b::κ.ae A) w).trans (Mod.bF et);have:=k2.size;have OH:=bk.trans (Mod.bF k2);have aP5:=abM.lt;have aW:=aW.later (τ et k2);refine en Z Z Z λ wI ng Q hK=>ap apj κ.dE (aW.later ng) ((aN.gM (R:=cd.rep) (by_:=32) (q:=x) abM ⟨Z,hx⟩ (by decide)).keep ng) Z Z (by simp only [aUn,aUt];omega) (by simp only [aUn,aUt];omega) (by have:=ng.size;omega) Z λ zZ aa7 mQ Gc yR af7 aPv=>hK _ _ ?_;have:=ng.size;have kB:=OH.trans (Mod.bF ng);have:=Gc.size;have iX:=kB.md Gc (λ q I=> .inl (aUB _ I));have amu:=λ q I=>(yR.lt q I).2;have:=Gc.size;refine ar Z (λ _=>b6 Z)<| ?_;have aJ:=aJ.later (τ et (τ k2 ng));have aJ:=aJ.mod Gc (λ I=>hd _ I rfl);refine en Z Z Z λ u7 hl Q hK=>st (new:= [v0,v1,v2,v3,v4,v5, .slice aa7 ((l++ [x]).length) mQ]) Z Z (aJ.later hl) Z aff Z Z Z λ BS h_ aJ=>hK _ _ ?_;have:=hl.size;have lS:=iX.trans (Mod.bF hl);have:=h_.size;have qp:=lS.md h_ (λ q I=> .inl (by rw [aUg.1 I];exact aUH));refine fn λ u9 dp=> ?_;have:=dp.size;have js:=qp.trans (Mod.bF dp);refine ne<|bb .nil<| ?_;have yR:=yR.later hl;have yR:=yR.mod h_ (λ q I h=>by have Φ:=aUg.1 h;exfalso;(exact aUw (af7 q I) (λ aje=>by (exact hd q aje Φ)) (λ aje=>by omega)));have yR:=yR.later dp;have aJ:=aJ.later dp;exact ⟨aa7,mQ,Z,aJ,yR,(λ q I=>(af7 q I).imp id λ h=>by omega),js⟩
theorem aGS (b:Nat) (A:Option Addr) (n c ax:Nat) (l:List cd) (v0 v1 v2 v3 v4 v5:Value) (w:World) (aJ:aN w b [v0,v1,v2,v3,v4,v5, .slice A n c] 265 (0,0)) (aW:cd.rep.aD 313 32 w ax (κ.ae A) A c (l)) (dS:∀ y∈l,y.ok) (hn:l.length=n) (hd:∀ q∈κ.ae A,q=b→False) (aI:0<n):
  Calls prog 267 #[.pointer (some ⟨b,6,none⟩)] w (λ e w'=>e= .returned (.iface 313 (.agg ((l.getD (n - 1) default).cells).toArray))∧aN w' b [v0,v1,v2,v3,v4,v5, .slice A (n - 1) c] 265 (0,0)∧cd.rep.aD 313 32 w' ax (κ.ae A) A c (l.take (n - 1))∧Mod (b::κ.ae A) w w'):=by
 have D9:=λ q I=>(aW.lt q I).2;have yd:=aJ.lt;have Md:=aW.has.2.1;have Dx:=aW.has.dT;have Me:=aW.has.1;refine cl (n:=23) func267 Z Z Z ?_;refine ai<|va Z<|ag<|ai<|vm Z<|J (b6 Z)<|J (ak Z (aJ.one pM Z))<|va Z<|ag<|ai<|vm Z<|vm Z<|J (cj underlying263 Z)<|J (mi Z Z (bH (by omega)))<|J (bY (((n:Int) - 1).toNat) underlying263 oY Z Z (aW.has.bu (aX (((n:Int) - 1).toNat))) (by omega) (by omega))<|J (ak Z (κ.aK.hb FL (aW.has.cr (aX (((n:Int) - 1).toNat))) (dH (l:=l) (u:=default) (by omega)) Qk oY))<|al Z afi Z Z λ cW bw a7 eA ab=> ?_;have:=a7.size;have bk:=(Mod.bK (b::κ.ae A) w).trans (Mod.bF a7);have eG:=ab.lt;refine st (new:= [.int .i64 ((l.getD (((n:Int) - 1).toNat) default).cell.x), .int .i64 ((l.getD (((n:Int) - 1).toNat) default).cell.y), .int .i64 ((l.getD (((n:Int) - 1).toNat) default).a_), .int .i64 ((l.getD (((n:Int) - 1).toNat) default).all)]) Z Z ab Z oY Z Z Z λ eM DW ab=> ?_;have:=DW.size;have bR:=bk.md DW (λ q I=> .inr (by have:=aUg.1 I;omega));refine ag<|ai<|vm Z<|vm Z<|vm Z<|J (cj underlying263 Z)<|J (mi Z Z (bH (by omega)))<|J (alx (n - 1) (n - 1) underlying263 oY Z Z (by omega) (by omega) Z)<|J (b6 Z)<| ?_;have aJ:=aJ.later a7;have aJ:=aJ.mod DW aQ;refine st (new:= [v0,v1,v2,v3,v4,v5, .slice A (n - 1) c]) Z Z aJ Z aff Z Z Z λ Eg DM aJ=> ?_;have:=DM.size;have oI:=bR.md DM (λ q I=> .inl (by rw [aUg.1 I];exact aUH));refine ag<|ai<| ?_;have ab:=ab.mod DM aQ;refine J (ak Z (ab.all Qk oY))<|J (Sd (λ w=>by kernel_rfl) Z)<|va Z<|ag<|rt<|bb (.tmp Z .nil)<| ?_;have aW:=aW.later a7;have aW:=aW.mod DW (b' D9);have aW:=aW.mod DM (λ q I h=>by have Φ:=aUg.1 h;exfalso;(exact hd q I Φ));exact ⟨by rw [show ((n:Int) - 1).toNat=n - 1 by omega];rfl,aJ,κ.aD.cut aW κ.dE (n - 1) (by omega),oI⟩
theorem aGR (b:Nat) (A:Option Addr) (c ax:Nat) (l:List cd) (v0 v1 v2 v3 v4 v5:Value) (x:cd) (w:World) (aJ:aN w b [v0,v1,v2,v3,v4,v5, .slice A l.length c] 265 (0,0)) (aW:cd.rep.aD 313 32 w ax (κ.ae A) A c (l)) (dS:∀ y∈l,y.ok) (hd:∀ q∈κ.ae A,q=b→False) (hx:x.ok) (Rc:l.length≤1000000) (uD:ax≤w.heap.size):
  Calls prog 218 #[.iface 311 (.pointer (some ⟨b,6,none⟩)), .iface 313 (.agg #[.int .i64 x.cell.x, .int .i64 x.cell.y, .int .i64 x.a_, .int .i64 x.all])] w (λ e w'=>∃ bL b_,e= .returned (.tuple #[])∧aN w' b [v0,v1,v2,v3,v4,v5, .slice bL (cx.push cd.all l x).length b_] 265 (0,0)∧cd.rep.aD 313 32 w' ax (κ.ae bL) bL b_ (cx.push cd.all l x)∧(∀ q∈κ.ae bL,q∈κ.ae A∨w.heap.size≤q)∧Mod (b::κ.ae A) w w'):=by
 have D9:=λ q I=>(aW.lt q I).2;have yd:=aJ.lt;have Md:=aW.has.2.1;have Dx:=aW.has.dT;have Me:=aW.has.1;refine cl (n:=12) func218 Z Z Z ?_;refine ai<|vm Z<|vm Z<|hG atp Z Z (by unfold Cx;kernel_rfl) Z ((aGT b A c ax l v0 v1 v2 v3 v4 v5 x _ aJ aW dS hd hx (by omega) uD).mono ?_);rintro e ku ⟨cp,c1,rfl,eZ,Ph,Dl,ajZ⟩;refine ⟨_,Z, ?_⟩;have:=ajZ.size;have di:=(Mod.bK (b::κ.ae A) w).md ajZ (λ q I=> .inl I);have qR:(l++ [x]).length=l.length+1:=by rw [aUq];rfl
 have aE6:=λ q I=>(Ph.lt q I).2;have aP4:=eZ.lt;have ag3:∀ q∈κ.ae cp,q=b→False:=λ q I e=>(Dl q I).elim (λ h=>hd q h e) (λ h=>by omega);have Rw:∀ y∈l++ [x],y.ok:=λ y aH=>(aUy.1 aH).elim (dS y) λ h=>by rw [aUg.1 h];exact hx
 refine ag<|rg<|vm Z<|vm Z<|hG Lj Z Z (zE (e:= 263) (by kernel_rfl) (eZ.one pM Z)) Z ((Oq _ ((l++ [x]).length) _ _).mono ?_);rintro e aal ⟨rfl,k2⟩;refine ⟨_,Z, ?_⟩;have:=k2.size;have G3:=di.trans (Mod.bF k2);refine J (mi Z Z (bH (by omega)))<| ?_;have Ph:=Ph.later k2;have eZ:=eZ.later k2;refine ca aty Z Z (((show Calls _ _ #[_, .int .i64 (((l++ [x]).length:Int) - 1)] _ _ from (by rw [show ((l++ [x]).length:Int) - 1=(l.length:Int) by rw [qR];omega];exact aGU b cp (l++ [x]).length c1 ax (l++ [x]) v0 v1 v2 v3 v4 v5 l.length _ eZ Ph Rw rfl ag3 (by omega)))).mono ?_);rintro e eM ⟨rfl,cC,n4,YO⟩;refine ⟨_,Z, ?_⟩;have:=YO.size;have bR:=G3.md YO (λ q I=>(Dl q I).imp (aUB _) λ h=>by omega);refine nl<|ne<|bb .nil<| ?_;exact ⟨cp,c1,Z,by rw [show (cx.push cd.all l x).length=(l++ [x]).length by rw [cx.NI,qR]];exact cC,n4,Dl,bR⟩
theorem aGQ (b:Nat) (A:Option Addr) (n c ax:Nat) (l:List cd) (v0 v1 v2 v3 v4 v5:Value) (w:World) (aJ:aN w b [v0,v1,v2,v3,v4,v5, .slice A n c] 265 (0,0)) (aW:cd.rep.aD 313 32 w ax (κ.ae A) A c (l)) (dS:∀ y∈l,y.ok) (hn:l.length=n) (hd:∀ q∈κ.ae A,q=b→False) (aI:0<n) (Rc:n≤1000000):
  Calls prog 220 #[.iface 311 (.pointer (some ⟨b,6,none⟩))] w (λ e w'=>e= .returned (.iface 313 (.agg (l.getD 0 default).cells.toArray))∧aN w' b [v0,v1,v2,v3,v4,v5, .slice A (cx.oy cd.all l).length c] 265 (0,0)∧cd.rep.aD 313 32 w' ax (κ.ae A) A c (cx.oy cd.all l)∧Mod (b::κ.ae A) w w'):=by
 have D9:=λ q I=>(aW.lt q I).2;have yd:=aJ.lt;have Md:=aW.has.2.1;have Dx:=aW.has.dT;have Me:=aW.has.1;refine cl (n:=15) func220 Z Z Z ?_;refine ai<|va Z<|ag<|ai<|vm Z<|hG Lj Z Z (zE (e:= 263) (by kernel_rfl) (aJ.one pM Z)) Z ((Oq _ n _ _).mono ?_);rintro e cW ⟨rfl,et⟩;refine ⟨_,Z, ?_⟩;have:=et.size;have bk:=(Mod.bK (b::κ.ae A) w).trans (Mod.bF et);refine J (mi Z Z (bH (by omega)))<|va Z<|ag<|ai<|vm Z<|vm Z<| ?_;have aJ:=aJ.later et;have aW:=aW.later et;refine hG Qq Z Z (zE (e:= 263) (by kernel_rfl) (aJ.one pM Z)) Z ((TG _ _ _ _ l 0 ((n:Int) - 1) 0 (n - 1) _ aW dS (by omega) (by omega) (by omega) (by omega) (by omega)).mono ?_);rintro e JN ⟨rfl,ao6,YM⟩;refine ⟨_,Z, ?_⟩;have:=YM.size;have mE:=bk.md YM (λ q I=> .inl (aUB _ I));have ahN:∀ y∈cx.swp l 0 (n - 1),y.ok:=λ y aH=>dS y ((cx.D7 (by omega) (by omega)).subset aH);have aL5:(cx.swp l 0 (n - 1)).length=n:=by rw [cx.mv];omega
 refine ag<|ai<|vm Z<|vm Z<| ?_;have aJ:=aJ.mod YM (λ I=>hd _ I rfl);refine ca atF Z Z (((show Calls _ _ #[_, .int .i64 0, .int .i64 ((n:Int) - 1)] _ _ from (by rw [show (n:Int) - 1=((n - 1:Nat):Int) by omega];exact aGP b A n c ax (cx.swp l 0 (n - 1)) v0 v1 v2 v3 v4 v5 0 (n - 1) _ aJ ao6 ahN (by omega) hd (by omega) (by omega) Rc))).mono ?_);rintro e aaf ⟨⟨aSX,rfl⟩,eZ,acS,DW⟩;refine ⟨_,Z, ?_⟩;have:=DW.size;have yv:=mE.md DW (λ q I=> .inl (aUB _ I));have ayk:∀ y∈cx.j5 cd.all (n - 1) (cx.swp l 0 (n - 1)) 0,y.ok:=λ y aH=>ahN y ((cx.ae5 _ _ _ _ (aUu _) (by omega) (by omega)).subset aH);have aL6:(cx.j5 cd.all (n - 1) (cx.swp l 0 (n - 1)) 0).length=n:=by rw [cx.ae4 _ _ _ _ (aUu _)];omega
 have aE6:=λ q I=>(acS.lt q I).2;refine ag<|ai<|vm Z<|hG atM Z Z (by unfold Cx;kernel_rfl) Z ((aGS b A n c ax (cx.j5 cd.all (n - 1) (cx.swp l 0 (n - 1)) 0) v0 v1 v2 v3 v4 v5 _ eZ acS ayk (by omega) hd aI).mono ?_);rintro e zZ ⟨rfl,aow,aoH,Bt⟩;refine ⟨_,Z, ?_⟩;have:=Bt.size;have iX:=yv.md Bt (λ q I=> .inl I);refine va Z<|ag<|rt<|bb (.tmp Z .nil)<| ?_;subst hn;exact ⟨by rw [← cx.akS (key:=cd.all) aI];rfl,by rw [cx.Ji];exact aow,aoH,iX⟩
end
section
theorem ib {a b:Bool} (h:a=b):Ending.returned (.bool a)= .returned (.bool b):=by rw [h]
theorem lA (w:World) (o:Obj):Below w.heap.size w (w.alloc o):=(aUN _ w).alloc (aUu _) o
end
end Go.Proofs.YtlikikpgmmkjbaaGreat
