import Derived.Test.YtlikikpgmmkjbaaGreatCelK
set_option linter.unusedVariables false
set_option linter.unusedSimpArgs false
set_option maxRecDepth 100000
set_option maxHeartbeats 4000000
namespace Go.Proofs.YtlikikpgmmkjbaaGreat
open Tryz
section
open Go.RowKit Go.Maps
section
variable {w w':World} {b:Nat} {g:ar→Int} {S:List Nat} {x:ar} {st:Nat}
def AK (w:World) (b:Nat) (l:List (ar×Int×Nat)) (jU:Nat) (g:ar→Int):Prop :=
 c7 ar.key w b l jU∧(∀ e∈l,e.1.ok)∧(l.map (·.1)).Nodup∧∀ y,(c7.get l y).getD 0=g y
def i' (w:World) (b:Nat) (g:ar→Int):Prop:=∃ l jU,AK w b l jU g
def pT (w:World) (b:Nat) (g:ar→Int) (x:ar) (st:Nat):Prop:=∃ l jU,AK w b l jU g∧∃ (j:Nat) (v:Int),l[j]? =some (x,v,st)
theorem i'.lt (h:i' w b g):b<w.heap.size:=by obtain ⟨l,c,h,_⟩:=h;exact h.lt
theorem AK.keep {l:List (ar×Int×Nat)} {jU:Nat} (h:AK w b l jU g) (av:w'.heap[b]? =w.heap[b]?):AK w' b l jU g:=⟨h.1.keep av,h.2⟩
theorem i'.keep (h:i' w b g) (av:w'.heap[b]? =w.heap[b]?):i' w' b g:=by obtain ⟨l,c,h⟩:=h;exact ⟨l,c,h.keep av⟩
theorem i'.later (h:i' w b g) (x:Ext w w'):i' w' b g:=h.keep (x.block b h.lt)
theorem i'.mod (h:i' w b g) (m:Mod S w w') (hs:b∉S):i' w' b g:=h.keep (m.block b h.lt hs)
theorem pT.map (h:pT w b g x st):i' w b g:=by obtain ⟨l,c,h,_⟩:=h;exact ⟨l,c,h⟩
theorem pT.lt (h:pT w b g x st):b<w.heap.size:=h.map.lt
theorem pT.keep (h:pT w b g x st) (av:w'.heap[b]? =w.heap[b]?):pT w' b g x st:=by obtain ⟨l,c,h,aa⟩:=h;exact ⟨l,c,h.keep av,aa⟩
theorem pT.later (h:pT w b g x st) (e:Ext w w'):pT w' b g x st:=h.keep (e.block b h.lt)
theorem i'.of_nil (h:nA w b []):i' w b λ _=>0:=by
 obtain ⟨es,c,γ,aa⟩:=h;have:es.toList= []:=by
  cases he:es.toList with
  | nil=>rfl
  | cons a r=>rw [he] at aa;exact aa.elim
 have e:es=#[]:=by apply Array.ext';simpa using this
 subst e;exact ⟨[],c,⟨by simpa using γ,by simp,by simp⟩,by simp,by simp,λ y=>rfl⟩
def dR (b:Nat) (g:ar→Int) (w w':World):Prop:=Mod [b] w w'∧(i' w b g→i' w' b g)
theorem dR.bG (h:Ext w w'):dR b g w w':=⟨Mod.bG h,λ k=>k.later h⟩
theorem dR.trans {aM cl:World} (h:dR b g w aM) (k:dR b g aM cl):dR b g w cl:=⟨h.1.trans k.1,λ q=>k.2 (h.2 q)⟩
theorem R9 {es:Array MapEntry} {clock:Nat}:Mod [b] w (hj w b es clock):=
 ⟨rfl,rfl,rfl,by rw [acK];exact Nat.le_refl _,λ k _ hn=>HR (by simpa using hn)⟩
def qp (g:ar→Int) (x:ar) (v:Int):ar→Int:=λ y=>if y=x then v else g y
end
section
variable {w:World} {b:Nat} {l:List (ar×Int×Nat)} {clock:Nat} {g:ar→Int}
theorem abj:prog.underlying 205 =some (.map 49 3):=by kernel_rfl
theorem apQ (h:i' w b g) (x:ar) (hx:x.ok):(Instr.lookup 205 (.map (some b)) (ar.key x) false).run prog w= .ok (.int .i64 (g x)) w:=by
 obtain ⟨l,c,γ,aa,au,a1⟩:=h;rw [← a1 x];exact (c7.lookup ar.vD abj (zeroValue3 w) γ aa au x hx).1
theorem ato {l:List (ar×Int×Nat)} {j:Nat} {a:ar×Int×Nat} (hm:(l.map (·.2.2)).Nodup) (ay:l[j]? =some a):((l.map (dc ar.key)).toArray).findIdx? (λ y=>((y.born:Nat):Int)== ((a.2.2:Nat):Int))=some j:=by
 rw [Go.WideElems.findIdx_arr];refine Go.WideElems.findIdx_born (l:=l.map (dc ar.key)) (j:=j) (e0:=dc ar.key a) ?_ (by rw [List.getElem?_map,ay];rfl);rw [List.map_map];exact hm
theorem apP (h:i' w b g) (x:ar) (hx:x.ok):∃ (st:Nat) (w':World),(Instr.mapEntry 205 (.map (some b)) (ar.key x)).run prog w= .ok (.tuple #[.int .i64 (g x), .int .i64 (st:Int)]) w'∧Mod [b] w w'∧pT w' b g x st:=by
 obtain ⟨l,clock,h,hw,hn,aO⟩:=h;obtain ⟨fh,p9⟩:=ar.vD.lit x hx;have Φ:=h.eu;have bl:=h.lt;have aA:=abj;have bw:=zeroValue3;rcases c7.found ar.vD h hw x hx with ⟨γ,aa,au⟩ | ⟨j,v0,n0,γ,aa⟩
 ·have KN:g x=0:=by rw [← aO x,aa];rfl
  have ze:c7.put l clock x 0=l++ [(x,0,clock)]:=by
   unfold c7.put;rw [if_neg];intro ha;obtain ⟨a,ha,hd⟩:=List.any_eq_true.1 ha;exact au a ha (by simpa using hd)
  have fM:AK (hj w b ((l++ [(x,0,clock)]).map (dc ar.key)).toArray (clock+1)) b (l++ [(x,0,clock)]) (clock+1) g:=by
   refine ⟨⟨zI bl,λ a ha=> ?_, ?_⟩,λ a ha=> ?_, ?_,λ y=> ?_⟩
   ·rcases List.mem_append.1 ha with ha | ha
    ·have:=h.born a ha;omega
    ·simp at ha;subst ha;simp
   ·rw [List.map_append,List.nodup_append];refine ⟨h.stamps,by simp,λ a ha c hc e=> ?_⟩;simp at hc;obtain ⟨y,aG,rfl⟩:=List.mem_map.1 ha;have:=h.born y aG;omega
   ·rcases List.mem_append.1 ha with ha | ha
    ·exact hw a ha
    ·simp at ha;subst ha;exact hx
   ·have:=c7.DU hn clock x 0;rw [ze] at this;exact this
   ·have:=c7.w9 l clock x y 0;rw [ze] at this;rw [this];by_cases e:y=x
    ·rw [if_pos e,e,KN];rfl
    ·rw [if_neg e];exact aO y
  refine ⟨clock,_, ?_,R9,⟨_,_,fM,l.length,0,by simp⟩⟩
  ·rw [KN];have:(l.map (dc ar.key)).toArray.push (⟨ar.key x, .int .i64 0,clock⟩:MapEntry)=((l++ [(x,0,clock)]).map (dc ar.key)).toArray:=by simp [dc]
   simp [Instr.mapEntry,run_underlying aA,MapKept.run_getObj_map Φ,ar.vD.keyed.check w false p9,γ,bw,MapKept.run_setObj_map _ Φ,Result.andThen,hj,Go.ChangeMaps.setBlock,goInt,dc]
 ·have KN:g x=v0:=by rw [← aO x,c7.gg hn aa];rfl
  have fM:AK (hj w b (l.map (dc ar.key)).toArray clock) b l clock g:=⟨⟨zI bl,h.born,h.stamps⟩,hw,hn,aO⟩;refine ⟨n0,_, ?_,R9,⟨_,_,fM,j,v0,aa⟩⟩
  ·rw [KN];have ay:(l.map (dc ar.key)).toArray[j]? =some (dc ar.key (x,v0,n0)):=by simp [aa]
   have Qu:(l.map (dc ar.key)).toArray.modify j (λ e=> {e with key:=ar.key x})=(l.map (dc ar.key)).toArray:=by
    apply Array.ext';rw [Array.toList_modify,Go.ChangeMaps.modify_eq_set _ _ _ _ (by rw [List.getElem?_map,aa];rfl)];exact Go.WideElems.set_self _ _ _ (by rw [List.getElem?_map,aa];rfl)
   have Qh:(dc ar.key (x,v0,n0)).key=ar.key x:=rfl;have P0:(dc ar.key (x,v0,n0)).born=n0:=rfl;simp only [Instr.mapEntry,Sem.run_bind,run_underlying aA,Result.andThen_ok,MapKept.run_getObj_map Φ,ar.vD.keyed.check w false p9,γ,ay,Option.map_some,Option.getD_some,Qh,ar.vD.keyed.stays w p9,Qu,MapKept.run_setObj_map _ Φ,P0,Sem.run_pure];rfl
theorem apR {st:Nat} {x:ar} (h:pT w b g x st) (v:Int):∃ w',(Instr.entryStore 205 (.map (some b)) (.int .i64 (st:Int)) (.int .i64 v)).run prog w= .ok () w'∧Mod [b] w w'∧i' w' b (qp g x v):=by
 obtain ⟨l,clock,⟨h,hw,hn,aO⟩,j,v0,aa⟩:=h;have Φ:=h.eu;have bl:=h.lt;have dJ:=ato (a:=(x,v0,st)) h.stamps aa;have nK:l.any (λ e=>decide (e.1=x))=true:=List.any_eq_true.2 ⟨_,List.mem_of_getElem? aa,by simp⟩;have sj:c7.put l clock x v=l.set j (x,v,st):=by
  unfold c7.put;rw [if_pos nK];refine List.ext_getElem? λ i=> ?_;rw [List.getElem?_map];by_cases ke:j=i
  ·subst ke;rw [aa,List.getElem?_set_self (List.getElem?_eq_some_iff.1 aa).1];simp
  ·rw [List.getElem?_set_ne ke];cases ao:l[i]? with
   | none=>rfl
   | some a =>
    have:a.1≠x:=by
     intro xf;have aU:(l.map (·.1))[i]? =(l.map (·.1))[j]? :=by rw [List.getElem?_map,List.getElem?_map,ao,aa];simp [xf]
     have:=(List.getElem?_inj (by simpa using (List.getElem?_eq_some_iff.1 ao).1) hn).1 aU;exact ke this.symm
    simp [this]
 have tT:(l.map (dc ar.key)).toArray.modify j (λ e=> {e with val:=Value.int .i64 v})=((l.set j (x,v,st)).map (dc ar.key)).toArray:=by
  apply Array.ext';rw [Array.toList_modify,Go.ChangeMaps.modify_eq_set _ _ _ _ (by rw [List.getElem?_map,aa];rfl),List.map_set];rfl
 refine ⟨hj w b ((l.set j (x,v,st)).map (dc ar.key)).toArray clock, ?_,R9,l.set j (x,v,st),clock,⟨zI bl,λ a ha=> ?_, ?_⟩,λ a ha=> ?_, ?_,λ y=> ?_⟩
 ·rw [← tT];simp only [Instr.entryStore,Sem.run_bind,MapKept.run_getObj_map Φ,Result.andThen_ok,asInt,asIntOf,goInt,Sem.run_pure];rw [dJ];exact MapKept.run_setObj_map _ Φ
 ·rcases List.mem_or_eq_of_mem_set ha with ha | ha
  ·exact h.born a ha
  ·rw [ha];exact h.born (x,v0,st) (List.mem_of_getElem? aa)
 ·rw [List.map_set];have:(l.map (·.2.2)).set j st=l.map (·.2.2):=by
   obtain ⟨xm,p8⟩:=List.getElem?_eq_some_iff.1 aa;have e:(l.map (·.2.2))[j]'(by simpa using xm)=st:=by rw [List.getElem_map,p8]
   conv=>lhs;rw [← e]
   exact List.set_getElem_self _
  rw [this];exact h.stamps
 ·rcases List.mem_or_eq_of_mem_set ha with ha | ha
  ·exact hw a ha
  ·rw [ha];exact hw (x,v0,st) (List.mem_of_getElem? aa)
 ·have:=c7.DU hn clock x v;rw [sj] at this;exact this
 ·have:=c7.w9 l clock x y v;rw [sj] at this;rw [this];unfold qp;by_cases e:y=x
  ·rw [if_pos e,if_pos e];rfl
  ·rw [if_neg e,if_neg e];exact aO y
end
section
variable {n:Nat} {E cE:List (Nat×Value)} {a:Act} {w w' w0 aM:World} {Q:Exit→Act→World→Prop} {ops:Array Oper}
variable {d:Option Nat} {ty:TypeId} {pos:String} {bn:Array Edge} {ala:Option (Nat×Bool)} {x y z m:Operand} {rest:List Oper} {r st:Nat} {g:ar→Int} {p:ar} {v:Int}
theorem Lk (h:i' w r g) (av:p.ok) (hx:ev E m=some (.map (some r))) (aG:ev E y=some (ar.key p)):
  c8 prog E ⟨d, .lookup 205 m y false,ty,pos,bn,ala⟩ w (.int .i64 (g p)) w:=λ n a ha=>by
 simp only [execOp,ha.ev hx,ha.ev aG,Sem.run_bind,apQ h p av,Result.andThen_ok,Sem.run_pure]
theorem meC {d:Nat} (h:i' w r g) (av:p.ok) (hx:ev E m=some (.map (some r))) (aG:ev E y=some (ar.key p)) (hd:Nat.blt d n=true)
  (hK:∀ aM (st:Nat),Mod [r] w aM→pT aM r g p st→cm prog n ops Q rest ((d, .tuple #[.int .i64 (g p), .int .i64 (st:Int)])::E) aM):cm prog n ops Q (⟨some d, .mapEntry 205 m y,ty,pos,bn,none⟩::rest) E w:=by
 obtain ⟨st,aM,γ,aa,au⟩:=apP h p av;refine gR (w':=aM) (v:= .tuple #[.int .i64 (g p), .int .i64 (st:Int)]) (λ n a ha=> ?_) hd (hK _ st aa au);simp only [execOp,ha.ev hx,ha.ev aG,Sem.run_bind,γ,Result.andThen_ok,Sem.run_pure]
theorem OR (h:pT w r g p st) (hx:ev E m=some (.map (some r))) (aG:ev E y=some (.int .i64 (st:Int))) (bw:ev E z=some (.int .i64 v))
  (hK:∀ aM,Mod [r] w aM→i' aM r (qp g p v)→cm prog n ops Q rest E aM):cm prog n ops Q (⟨none, .entryStore 205 m y z,ty,pos,bn,none⟩::rest) E w:=by
 obtain ⟨aM,γ,aa,au⟩:=apR h v;refine us (w':=aM) (λ n a ha=> ?_) (hK _ aa au);simp only [execOp,ha.ev hx,ha.ev aG,ha.ev bw,Sem.run_bind,γ,Result.andThen_ok,Sem.run_pure]
end
end
section
open Go.RowKit
def hL (T:List aW) (c:ar):Int:=((T.countP λ t=>decide (t.spot=c):Nat):Int)
theorem LI (T:List aW) (c:ar):0≤hL T c∧hL T c≤(T.length:Int):=⟨Int.natCast_nonneg _,Int.ofNat_le.2 List.countP_le_length⟩
theorem aqA (T:List aW) (t:aW):hL (T++ [t])=qp (hL T) t.spot (hL T t.spot+1):=by
 funext y
 unfold hL qp;rw [List.countP_append,List.countP_cons,List.countP_nil];by_cases e:y=t.spot
 ·subst e;simp
 ·have e':¬ t.spot=y:=λ h=>e h.symm;rw [if_neg e];simp [e']
theorem atH {α:Type} {T:List α} {k:Nat} {d:α} (h:k<T.length):T.take (k+1)=T.take k++ [T.getD k d]:=by
 rw [List.take_add_one,List.getElem?_eq_getElem h,List.getD_eq_getElem?_getD,List.getElem?_eq_getElem h];rfl
theorem aqB {T:List aW} {k:Nat} (h:k<T.length):hL (T.take (k+1))=qp (hL (T.take k)) (T.getD k default).spot (hL (T.take k) (T.getD k default).spot+1):=by
 rw [atH (d:=default) h,aqA]
theorem countP_split {T:List aW} {k:Nat} (h:k<T.length) (t:aW) (c:ar):
  ((T.countP λ t=>decide (t.spot=c):Nat):Int)=(((T.take k).countP λ t=>decide (t.spot=c):Nat):Int)+(if (T.getD k default).spot=c then 1 else 0)+(((T.drop (k+1)).countP λ t=>decide (t.spot=c):Nat):Int)∧
  (((T.set k t).countP λ t=>decide (t.spot=c):Nat):Int)=(((T.take k).countP λ t=>decide (t.spot=c):Nat):Int)+(if t.spot=c then 1 else 0)+(((T.drop (k+1)).countP λ t=>decide (t.spot=c):Nat):Int):=by
 have e:T=T.take k++T.getD k default::T.drop (k+1):=by
  conv=>lhs;rw [← List.take_append_drop k T,List.drop_eq_getElem_cons h]
  rw [List.getD_eq_getElem?_getD,List.getElem?_eq_getElem h];rfl
 constructor
 ·conv=>lhs;rw [e]
  rw [List.countP_append,List.countP_cons];by_cases hc:(T.getD k default).spot=c<;>simp only [hc,decide_true,decide_false,if_true,if_false]<;>simp<;>omega
 ·rw [List.set_eq_take_append_cons_drop,if_pos h,List.countP_append,List.countP_cons];by_cases hc:t.spot=c<;>simp only [hc,decide_true,decide_false,if_true,if_false]<;>simp<;>omega
theorem aqz {T:List aW} {k:Nat} (h:k<T.length) (t:aW):
  hL (T.set k t)=qp (qp (hL T) (T.getD k default).spot (hL T (T.getD k default).spot - 1)) t.spot (qp (hL T) (T.getD k default).spot (hL T (T.getD k default).spot - 1) t.spot+1):=by
 obtain ⟨A,D,hA,aX⟩:∃ A D:ar→Int,(∀ y,hL T y=A y+(if (T.getD k default).spot=y then 1 else 0)+D y)∧∀ y,hL (T.set k t) y=A y+(if t.spot=y then 1 else 0)+D y :=
  ⟨_,_,λ y=>(countP_split h t y).1,λ y=>(countP_split h t y).2⟩
 funext y
 unfold qp;rw [aX y,hA y,hA t.spot,hA (T.getD k default).spot];generalize (T.getD k default).spot=a;generalize t.spot=b;by_cases aU:y=b
 ·subst aU;by_cases bc:y=a
  ·subst bc;simp only [if_true,eq_self];omega
  ·have cy:¬ a=y:=λ h=>bc h.symm;simp only [if_true,bc,cy,if_false];omega
 ·have jd:¬ b=y:=λ h=>aU h.symm;by_cases bc:y=a
  ·subst bc;simp only [if_true,aU,jd,if_false];omega
  ·have cy:¬ a=y:=λ h=>bc h.symm;simp only [aU,bc,cy,jd,if_false]
theorem auB {g:ar→Int} {n v:Int} {x:ar} (h:∀ y,0≤g y∧g y≤n) (γ: -1≤v) (aa:v≤n) (y:ar): -1≤qp g x v y∧qp g x v y≤n:=by
 unfold qp;have:=h y;split<;>omega
theorem aqy {T:List aW} {c:ar}:0<hL T c↔∃ t∈T,t.spot=c:=by
 unfold hL;rw [Int.natCast_pos,List.countP_pos_iff];simp
def dP (l:List cS) (id:Int):Int:=gh (λ g=>g.id == id) l
theorem alf (l:List cS) (id:Int):dP l id= -1∧(∀ g∈l,g.id≠id)∨∃ k,k<l.length∧dP l id=(k:Int)∧(l.getD k default).id=id∧∀ j,j<k→(l.getD j default).id≠id:=by
 rcases aol (λ g=>g.id == id) l with ⟨γ,aa⟩ | ⟨k,av,γ,aa,au⟩
 ·exact .inl ⟨γ,λ g aO=>by simpa using aa g aO⟩
 ·refine .inr ⟨k,av,γ, ?_,λ j ay=> ?_⟩
  ·rw [List.getD_eq_getElem?_getD,List.getElem?_eq_getElem av];simpa using aa
  ·rw [List.getD_eq_getElem?_getD,List.getElem?_eq_getElem (by omega)];simpa using au j ay
noncomputable def oC (f:aC) (l:List cS) (T:List aW) (k:Nat):Option ar :=
 if dP l (T.getD k default).id<0 then none
 else if fT f (T.getD k default).spot (l.getD (dP l (T.getD k default).id).toNat default).bd≠0 then none
 else if (eW f (T.getD k default).spot (l.getD (dP l (T.getD k default).id).toNat default).bd).length<2 then none
 else if 0<hL T ((eW f (T.getD k default).spot (l.getD (dP l (T.getD k default).id).toNat default).bd).getD 1 default) then none
 else some ((eW f (T.getD k default).spot (l.getD (dP l (T.getD k default).id).toNat default).bd).getD 1 default)
def aW.bd (t:aW) (c:ar):aW:= {t with spot:=c}
noncomputable def ir (f:aC) (l:List cS) (T:List aW):Nat→List aW×List Int
 | 0=>(T, [])
 | k+1=>match oC f l (ir f l T k).1 k with
  | none=>ir f l T k
  | some c=>((ir f l T k).1.set k (((ir f l T k).1.getD k default).bd c),(ir f l T k).2++ [((ir f l T k).1.getD k default).id])
theorem B5 {f:aC} {l:List cS} {T U:List aW} {M:List Int} {k:Nat} (h:ir f l T k=(U,M)) (hs:oC f l U k=none):ir f l T (k+1)=(U,M):=by
 show (match oC f l (ir f l T k).1 k with | none=>_ | some c=>_)=_;rw [h];simp only [hs]
theorem HV {f:aC} {l:List cS} {T U:List aW} {M:List Int} {k:Nat} {c:ar} (h:ir f l T k=(U,M)) (hs:oC f l U k=some c):ir f l T (k+1)=(U.set k ((U.getD k default).bd c),M++ [(U.getD k default).id]):=by
 show (match oC f l (ir f l T k).1 k with | none=>_ | some c=>_)=_;rw [h];simp only [hs]
theorem L8 {f:aC} {l:List cS} {T:List aW}:∀ k,(ir f l T k).1.length=T.length∧(ir f l T k).2.length≤k
 | 0=>⟨rfl,Nat.le_refl _⟩
 | k+1=>by
  have bk:=L8 (f:=f) (l:=l) (T:=T) k;cases hs:oC f l (ir f l T k).1 k with
  | none=>rw [B5 rfl hs];exact ⟨bk.1,Nat.le_succ_of_le bk.2⟩
  | some c=>rw [HV rfl hs];exact ⟨by rw [List.length_set];exact bk.1,by rw [List.length_append,List.length_singleton];omega⟩
noncomputable def ae.kn (W:ae) (l:List cS):ae×List Int:=({W with ag:=(ir W.field l W.ag W.ag.length).1},(ir W.field l W.ag W.ag.length).2)
end
section
open Go.RowKit
section
variable {e5:Nat} {e7:ar→Int} {P:Program} {ops:Array Oper} {Q:Exit→Act→World→Prop} {aR:Nat→Nat}
def rU (e5:Nat) (e7:ar→Int) (P:Program) (ops:Array Oper) (w0:World) (o:Oper) (v:Value) (a:Act):Prop :=
  (Region.wanted o (yielded ops a.tmps)=true∧∀ w,dR e5 e7 w0 w→vN P w v ((execOp a.eval o).run P w))∨
  (Region.wanted o (yielded ops a.tmps)=false∧v=undef)
theorem rU.of_same {w0:World} {o:Oper} {v:Value} {a a':Act} (h:rU e5 e7 P ops w0 o v a) (he:execOp a'.eval o=execOp a.eval o) (hw:Region.wanted o (yielded ops a'.tmps)=Region.wanted o (yielded ops a.tmps)):rU e5 e7 P ops w0 o v a':=by
  unfold rU at *;rw [he,hw];exact h
theorem rU.on {w0 aM:World} {o:Oper} {v:Value} {a:Act} (h:rU e5 e7 P ops w0 o v a) (hx:dR e5 e7 w0 aM):rU e5 e7 P ops aM o v a :=
  h.imp (λ ⟨γ,aa⟩=>⟨γ,λ w hw=>aa w (hx.trans hw)⟩) id
theorem Yields.asi {w0:World} {o:Oper} {v:Value} {a:Act} (h:Yields P ops o v a):rU e5 e7 P ops w0 o v a :=
  h.imp (λ ⟨γ,aa⟩=>⟨γ,λ w _=>by rw [aa w];exact ⟨rfl,rfl⟩⟩) id
def att (e5:Nat) (e7:ar→Int) (P:Program) (ops:Array Oper) (Q:Exit→Act→World→Prop) (aR:Nat→Nat) (i:Nat) (K:Act→World→Prop) (a:Act) (w0:World):Prop :=
  ∃ o,ops[i]? =some o∧
    ((aR i≤1∧∃ v,rU e5 e7 P ops w0 o v a∧K (a.put o.dst v) w0)∨
     (1<aR i∧∀ w,Ext w0 w→wpOp P ops Q i (λ a' w'=>(aR i=2→dR e5 e7 w0 w')∧K a' w') a w))
def FD (e5:Nat) (e7:ar→Int) (P:Program) (ops:Array Oper) (Q:Exit→Act→World→Prop) (aR:Nat→Nat):Nat→Array Bool→Act→World→Prop
  | 0,l,a,w0=>Region.ready .any ops l= []∧∀ w,Ext w0 w→Q .normal a w
  | f+1,l,a,w0=>(Region.ready .any ops l= []→∀ w,Ext w0 w→Q .normal a w)∧∀ i∈Region.ready .any ops l,att e5 e7 P ops Q aR i (FD e5 e7 P ops Q aR f (l.setIfInBounds i true)) a w0
theorem CZ:∀ (f:Nat) (l:Array Bool) (a:Act) (w0:World),FD e5 e7 P ops Q aR f l a w0→∀ w,Ext w0 w→wpAny P .any ops Q f l a w
  | 0,_,_,_,h,w,hw=>⟨h.1,h.2 w hw⟩
  | f+1,l,a,w0,h,w,hw=>⟨λ aE=>h.1 aE w hw,λ i ao=>by
      obtain ⟨o,bJ,aa⟩:=h.2 i ao;rcases aa with ⟨_,v,I,av⟩ | ⟨_,aa⟩
      · unfold wpOp
        simp only [bJ];rcases I with ⟨mS,I⟩ | ⟨mS,rfl⟩
        · rw [if_pos mS]
          refine .inl ?_;have I:=I w (dR.bG hw);unfold Oper.wp;generalize (execOp a.eval o).run P w=r at *
          cases r with
          | ok n w' =>
            cases n<;>simp only [vN] at I<;>simp only [Oper.upon]
            case value u=>obtain ⟨rfl,rfl⟩:=I;exact CZ f _ _ _ av _ hw
            case skip=>obtain ⟨rfl,rfl⟩:=I;exact CZ f _ _ _ av _ hw
            case enter f' args=>obtain ⟨rfl,hc⟩:=I;exact hc.mono λ e lK ⟨he,hx⟩=>by subst he;exact CZ f _ _ _ av _ (hw.iK hx)
          | halt x w'=>simp only [vN] at I
        · rw [if_neg (by rw [mS];decide)]
          exact CZ f _ _ _ av _ hw
      · exact wpOp_mono (λ a' w' au=>CZ f _ _ _ au.2 _ (Ext.bM w')) (aa w hw)⟩
theorem XC {i:Nat} {dX:Oper} {v:Value} (ao:ops[i]? =some dX) (av:aR i≤1) (lr:∀ (j:Nat) (o:Oper) cs b,ops[j]? =some o→o.op≠ .select cs b)
    (gK:∀ c a w,¬ Q (.panic c) a w) (aB:World→Act→Prop) (jv:∀ w0 a,aB w0 a→rU e5 e7 P ops w0 dX v a)
    (z2:∀ w0 a a',aB w0 a→execOp a'.eval dX=execOp a.eval dX→Region.wanted dX (yielded ops a'.tmps)=Region.wanted dX (yielded ops a.tmps)→aB w0 a')
    (z3:∀ w0 aM a,dR e5 e7 w0 aM→aB w0 a→aB aM a) (R:Nat→Bool) (tY:Array Bool)
    (hR:∀ j cQ,ops[j]? =some cQ→j≠i→(∀ e∈cQ.after,Region.binds .any e=true→R e.on=true)→R j=true)
    (aX:(∀ w0 aM a,aB w0 a→aB aM a)∨∀ j,R j=true→3≤aR j→tY.getD j true=true):
    ∀ (f:Nat) (l:Array Bool) (a:Act) (w0:World),(∀ j,l.getD j false=true→R j=true)→(∀ j,tY.getD j true=true→l.getD j true=true)→
      (∀ j cQ,ops[j]? =some cQ→j≠i→l.getD j true=false→(∀ e∈cQ.after,Region.binds .any e=true→e.on≠i)→dX.apart ops cQ=true)→
      i∈Region.ready .any ops l→aB w0 a→FD e5 e7 P ops Q aR f (l.setIfInBounds i true) (a.put dX.dst v) w0→FD e5 e7 P ops Q aR (f+1) l a w0:=by
  intro f;induction f with
  | zero =>
    intro l a w0 _ _ _ hr bw H;refine ⟨λ h=>(by rw [h] at hr;cases hr),λ j ay=> ?_⟩;by_cases gw:j=i
    · subst gw;exact ⟨dX,ao, .inl ⟨av,v,jv _ _ bw,H⟩⟩
    · have:=ready_mono ay gw
      rw [H.1] at this;cases this
  | succ f bk =>
    intro l a w0 y7 y5 y1 hr bw H;refine ⟨λ h=>(by rw [h] at hr;cases hr),λ j ay=> ?_⟩;by_cases gw:j=i
    · subst gw;exact ⟨dX,ao, .inl ⟨av,v,jv _ _ bw,H⟩⟩
    · obtain ⟨cQ,jj,γ⟩:=H.2 j (ready_mono ay gw)
      obtain ⟨tR,fw,zc,di⟩:=mem_ready.1 ay;obtain rfl:fw=cQ:=by rw [jj] at zc;exact (Option.some.inj zc).symm
      have GJ:∀ e∈fw.after,Region.binds .any e=true→e.on≠i:=λ e he Φ heq=>by
        have γ:=di e he Φ;have aE:=(mem_ready.1 hr).1;rw [heq] at γ;rcases Nat.lt_or_ge i l.size with cU | cU
        · simp [cU] at aE γ;rw [aE] at γ;cases γ
        · simp [Array.getElem?_eq_none cU] at γ
      have Gj:=y1 j fw jj gw tR GJ;obtain ⟨b7,a2,a3⟩:=Oper.apart_spec Gj;have GY:∀ cs b,dX.op≠ .select cs b:=λ cs b=>lr i dX cs b ao;have tV:∀ cs b,fw.op≠ .select cs b:=λ cs b=>lr j fw cs b jj;have keep:∀ aM a u,aB aM a→aB aM (a.put fw.dst u):=λ aM a u bw=>z2 _ _ _ bw (execOp_put dX GY a fw.dst u a3) (wanted_put dX a fw.dst u a3);have yU:R j=true:=hR j fw jj gw λ e he Φ=>y7 _ (di e he Φ);have y8:∀ k,(l.setIfInBounds j true).getD k false=true→R k=true:=λ k av=>by
        by_cases gx:j=k
        · rw [← gx];exact yU
        · rw [getD_set_ne false gx] at av;exact y7 k av
      have y6:∀ k,tY.getD k true=true→(l.setIfInBounds j true).getD k true=true:=λ k av=>by
        by_cases gx:j=k
        · subst gx
          rcases Nat.lt_or_ge j l.size with cU | cU
          · simp [cU]
          · simp [Array.getElem?_eq_none cU]
        · rw [getD_set_ne true gx];exact y5 k av
      have y2:∀ k ok,ops[k]? =some ok→k≠i→(l.setIfInBounds j true).getD k true=false→
          (∀ e∈ok.after,Region.binds .any e=true→e.on≠i)→dX.apart ops ok=true:=λ k ok av nO zg ji=>by
        refine y1 k ok av nO ?_ ji;by_cases gx:j=k
        · subst gx;exact tR
        · rw [getD_set_ne true gx] at zg;exact zg
      have zf:=ready_mono hr (Ne.symm gw);rcases γ with ⟨tS,u,I,hK⟩ | ⟨tS,γ⟩
      · refine ⟨fw,jj, .inl ⟨tS,u,I.of_same (execOp_put fw tV a dX.dst v b7).symm (wanted_put fw a dX.dst v b7).symm, ?_⟩⟩
        refine bk _ _ _ y8 y6 y2 zf (keep _ _ _ bw) ?_;rw [Array.setIfInBounds_comm _ _ gw,← Act.put_comm a v u a2];exact hK
      · refine ⟨fw,jj, .inr ⟨tS,λ w hw=> ?_⟩⟩
        refine wpOp_mono (λ a' w' au=>⟨au.2.1, ?_⟩) (SX (aB:=aB w0) jj b7 a2 tV gK (keep w0) (λ a d bw=>z2 _ _ _ bw Z Z) bw (γ w hw));have G4:aB w' a':=by
          rcases Nat.lt_or_ge (aR j) 3 with bl | sf
          · exact z3 _ _ _ (au.2.1 (by omega)) au.1
          · rcases aX with aX | aX
            · exact aX _ _ _ au.1
            · have:=y5 j (aX j yU sf);rw [tR] at this;cases this
        refine bk _ _ _ y8 y6 y2 zf G4 ?_;rw [Array.setIfInBounds_comm _ _ gw];exact au.2.2
def EL (e5:Nat) (e7:ar→Int) (P:Program) (ops:Array Oper) (Q:Exit→Act→World→Prop) (aR:Nat→Nat):List Nat→Act→World→Prop
  | [],a,w0=>∀ w,Ext w0 w→Q .normal a w
  | i::r,a,w0=>∃ o,ops[i]? =some o∧
      ((aR i=0∧∃ v,rU e5 e7 P ops w0 o v a∧EL e5 e7 P ops Q aR r (a.put o.dst v) w0)∨
       (aR i=1∧∃ v,Yields P ops o v a∧EL e5 e7 P ops Q aR r (a.put o.dst v) w0)∨
       (1<aR i∧∀ w,Ext w0 w→wpOp P ops Q i (λ a' w'=>(aR i=2→dR e5 e7 w0 w')∧EL e5 e7 P ops Q aR r a' w') a w))
theorem Jg (hs:Region.noSelect ops=true) (gK:∀ c a w,¬ Q (.panic c) a w):∀ (r:List Nat) (l:Array Bool) (a:Act) (w0:World),l.size=ops.size→iP ops aR r l=true→EL e5 e7 P ops Q aR r a w0→FD e5 e7 P ops Q aR r.length l a w0
  | [],l,a,w0,_,aX,h=>⟨by simpa [iP] using aX,h⟩
  | i::r,l,a,w0,az,aX,h=>by
    obtain ⟨o,bJ,h⟩:=h;have lr:=Region.noSelect_spec hs;rcases h with ⟨av,v,I,hK⟩ | ⟨av,v,I,hK⟩ | ⟨av,h⟩
    · simp only [iP,av,Bool.and_eq_true] at aX
      obtain ⟨⟨⟨hf,hr⟩,Φ⟩,aX⟩:=aX;obtain ⟨R,r1,r2,uC⟩:=Jq az Φ;exact XC bJ (by omega) lr gK (λ w0 a=>rU e5 e7 P ops w0 o v a) (λ _ _ h=>h) (λ _ _ _ h he hw=>h.of_same he hw) (λ _ _ _ hx h=>h.on hx) R l r1 (.inr uC) _ _ _ _ r2 (λ _ h=>h) (Region.free_spec bJ hf) (by simpa using hr) I
        (Jg hs gK r _ _ _ (by simpa using az) aX hK)
    · simp only [iP,av,Bool.and_eq_true] at aX
      obtain ⟨⟨hf,hr⟩,aX⟩:=aX;exact XC bJ (by omega) lr gK (λ _ a=>Yields P ops o v a) (λ _ _ h=>Yields.asi h) (λ _ _ _ h he hw=>h.of_same he hw) (λ _ _ _ _ h=>h) (λ _=>true) l (λ _ _ _ _ _=>Z) (.inl λ _ _ _ h=>h) _ _ _ _ (λ _ _=>Z) (λ _ h=>h) (Region.free_spec bJ hf) (by simpa using hr) I
        (Jg hs gK r _ _ _ (by simpa using az) aX hK)
    · obtain ⟨k,gP⟩:∃ k,aR i=k+2:=⟨aR i - 2,by omega⟩
      simp only [iP,gP,Bool.and_eq_true,beq_iff_eq] at aX;obtain ⟨hr,aX⟩:=aX;refine ⟨λ aE=>(by rw [hr] at aE;cases aE),λ j ay=> ?_⟩;rw [hr] at ay;obtain rfl:j=i:=by simpa using ay
      exact ⟨o,bJ, .inr ⟨av,λ w hw=>wpOp_mono (λ a' w' au=>⟨au.1,Jg hs gK r _ _ _ (by simpa using az) aX au.2⟩) (h w hw)⟩⟩
theorem asw {id:Nat} {a:Act} {w:World} (bN:List Nat) (hm:P.follows .mixedOrders=true) (aX:(Region.noSelect ops && (bN.length == ops.size) && iP ops aR bN (Array.replicate ops.size false))=true)
    (h:EL e5 e7 P ops (fX (Q .normal)) aR bN a w):(Code.region id ops true).wp P Q a w:=by
  simp only [Bool.and_eq_true,beq_iff_eq] at aX;obtain ⟨⟨hs,az⟩,aX⟩:=aX;refine wp_mono (wp_region_any hm (Q:=fX (Q .normal)) ?_) (λ e a w I=>by cases e<;>first | exact I | exact I.elim);have:=Jg (P:=P) hs (Q:=fX (Q .normal)) (λ _ _ _ h=>h) bN (Array.replicate ops.size false) a w (by simp) aX h;rw [az] at this;exact CZ _ _ _ _ this _ (Below.refl _ w).drew
end
section
variable {e5:Nat} {e7:ar→Int} {P:Program} {n:Nat} {E cE:List (Nat×Value)} {a:Act} {w w' w0 aM:World} {Q:Exit→Act→World→Prop} {ops:Array Oper} {v:Value} {aR:Nat→Nat}
variable {d:Option Nat} {ty:TypeId} {pos:String} {bn:Array Edge} {g:Option (Nat×Bool)} {x y z:Operand} {t:TypeId} {rest:List Oper} {bN:List Nat} {i:Nat}
def uZ (e5:Nat) (e7:ar→Int) (P:Program) (n:Nat) (ops:Array Oper) (Q:Exit→Act→World→Prop) (aR:Nat→Nat) (bN:List Nat) (E:List (Nat×Value)) (w0:World):Prop:=∀ a,dH n E a→EL e5 e7 P ops (fX (Q .normal)) aR bN a w0
theorem RT {id:Nat} (e5:Nat) (e7:ar→Int) (kY:List (Nat×Nat)) (bN:List Nat) (hm:P.follows .mixedOrders=true) (aX:(Region.noSelect ops && (bN.length == ops.size) && iP ops (mV kY) bN (Array.replicate ops.size false))=true)
    (h:uZ e5 e7 P n ops Q (mV kY) bN E w):W P n (.region id ops true) Q E w:=λ a ha=>asw bN hm aX (h a ha)
theorem O2 (h:∀ w,Ext w0 w→N n Q E w):uZ e5 e7 P n ops Q aR [] E w0:=λ a ha w hw=>h w hw a ha
theorem yR {d:Nat} {op:Op} (ao:ops[i]? =some ⟨some d,op,ty,pos,bn,none⟩) (av:aR i=0) (hr:∀ w,dR e5 e7 w0 w→c8 P E ⟨some d,op,ty,pos,bn,none⟩ w v w) (hd:Nat.blt d n=true)
    (h:uZ e5 e7 P n ops Q aR bN ((d,v)::E) w0):uZ e5 e7 P n ops Q aR (i::bN) E w0:=λ a ha =>
  ⟨_,ao, .inl ⟨av,v, .inl ⟨xZ rfl,λ w hw=>by rw [hr w hw n a ha];exact ⟨rfl,rfl⟩⟩,h _ (ha.put hd v)⟩⟩
theorem p4 {d:Nat} {op:Op} (ao:ops[i]? =some ⟨some d,op,ty,pos,bn,none⟩) (av:aR i=1) (hr:∀ w,c8 P E ⟨some d,op,ty,pos,bn,none⟩ w v w) (hd:Nat.blt d n=true)
    (h:uZ e5 e7 P n ops Q aR bN ((d,v)::E) w0):uZ e5 e7 P n ops Q aR (i::bN) E w0:=λ a ha =>
  ⟨_,ao, .inr (.inl ⟨av,v, .inl ⟨xZ rfl,λ w=>hr w n a ha⟩,h _ (ha.put hd v)⟩)⟩
theorem O5 {o:Oper} (aO:o.guard=none) (ao:ops[i]? =some o) (av:aR i=2) (h:∀ w,Ext w0 w→AS P n ops o E w λ cE w'=>dR e5 e7 w0 w'∧uZ e5 e7 P n ops Q aR bN cE w'):uZ e5 e7 P n ops Q aR (i::bN) E w0:=λ a ha =>
  ⟨_,ao, .inr (.inr ⟨by omega,λ w hw=>Er aO ao (h w hw) (λ cE w' a' av o_=>⟨λ _=>av.1,av.2 a' o_⟩) ha⟩)⟩
theorem OV {o:Oper} (aO:o.guard=none) (ao:ops[i]? =some o) (av:aR i=3) (h:∀ w,Ext w0 w→AS P n ops o E w λ cE w'=>uZ e5 e7 P n ops Q aR bN cE w'):uZ e5 e7 P n ops Q aR (i::bN) E w0:=λ a ha =>
  ⟨_,ao, .inr (.inr ⟨by omega,λ w hw=>Er aO ao (h w hw) (λ cE w' a' av o_=>⟨λ aa=>by omega,av a' o_⟩) ha⟩)⟩
end
end
section
open Go.RowKit
theorem aq9 {β:Type} {cur old part:List β} {p s j:Nat} (bJ:old.length=s) (ay:j+part.length≤s) (hc:p+s≤cur.length) (h:∀ m,m<s→cur[p+m]? =old[m]?):
  cur.take p++(old.take j++part++old.drop (j+part.length))++cur.drop (p+(old.take j++part++old.drop (j+part.length)).length)=cur.take (p+j)++part++cur.drop (p+j+part.length):=by
 have az:(old.take j++part++old.drop (j+part.length)).length=s:=by simp only [List.length_append,List.length_take,List.length_drop];omega
 rw [az];apply List.ext_getElem?;intro k;by_cases γ:k<p
 ·rw [List.append_assoc,List.getElem?_append_left (by rw [List.length_take];omega),List.append_assoc,List.getElem?_append_left (by rw [List.length_take];omega),List.getElem?_take,List.getElem?_take,if_pos γ,if_pos (by omega)]
 ·by_cases aa:k<p+s
  ·rw [List.append_assoc,List.getElem?_append_right (by rw [List.length_take];omega),List.getElem?_append_left (by rw [az,List.length_take];omega),List.length_take];obtain ⟨m,rfl⟩:∃ m,k=p+m:=⟨k - p,by omega⟩;rw [show p+m - min p cur.length=m from by omega];by_cases au:m<j
   ·rw [List.append_assoc,List.getElem?_append_left (by rw [List.length_take];omega),List.append_assoc,List.getElem?_append_left (by rw [List.length_take];omega),List.getElem?_take,List.getElem?_take,if_pos au,if_pos (by omega),h m (by omega)]
   ·by_cases a1:m<j+part.length
    ·rw [List.append_assoc,List.getElem?_append_right (by rw [List.length_take];omega),List.getElem?_append_left (by rw [List.length_take];omega),List.append_assoc,List.getElem?_append_right (by rw [List.length_take];omega),List.getElem?_append_left (by rw [List.length_take];omega),List.length_take,List.length_take];congr 1;omega
    ·rw [List.getElem?_append_right (by simp only [List.length_append,List.length_take];omega),List.getElem?_drop,List.getElem?_append_right (by simp only [List.length_append,List.length_take];omega),List.getElem?_drop];simp only [List.length_append,List.length_take];rw [show p+j+part.length+(p+m - (min (p+j) cur.length+part.length))=p+m from by omega,h m (by omega)];congr 1;omega
  ·rw [List.getElem?_append_right (by simp only [List.length_append,List.length_take,List.length_drop];omega),List.getElem?_drop,List.getElem?_append_right (by simp only [List.length_append,List.length_take];omega),List.getElem?_drop];simp only [List.length_append,List.length_take,List.length_drop];congr 1;omega
section
variable {P:Program} {n:Nat} {E cE:List (Nat×Value)} {a:Act} {w w' w0 aM:World} {Q:Exit→Act→World→Prop} {ops:Array Oper} {v:Value}
variable {d:Option Nat} {ty:TypeId} {pos:String} {bn:Array Edge} {g:Option (Nat×Bool)} {x y z:Operand} {t:TypeId} {rest:List Oper}
theorem atd {α:Type} {R:κ α} {e by_ B i j:Nat} {A:Option Addr} {c:Nat} {l:List α} {q q':α} {p:Addr} {old part es:List Value} (h:R.aF e by_ w B (κ.af A) A c l) (hR:R.sW) (ao:l[i]? =some q) (hold:∀ {w cs},R.has w cs q→cs=old) (hx:ev E x=some (.pointer (some p))) (hp:p=⟨b' A,cX A+i * R.size+j,none⟩) (aG:ev E y=some v) (hc:v.cells=part.toArray)
  (ay:Nat.ble (j+part.length) R.size=true) (Bs:es=old.take j++part++old.drop (j+part.length)) (I:∀ w,R.has w es q') (hs:ej P t part.length)
  (av:∀ aM,Mod (κ.af A) w aM→R.aF e by_ aM B (κ.af A) A c (l.set i q')→cm P n ops Q rest E aM):cm P n ops Q (⟨none, .store t x y,ty,pos,bn,none⟩::rest) E w:=by
 have DJ:i<l.length:=(List.getElem?_eq_some_iff.1 ao).1;obtain ⟨b,rfl⟩:=h.block (by omega);have GL:p=⟨b,i * R.size+j,none⟩:=by rw [hp];simp [b',cX]
 subst GL;obtain ⟨_,ps,_,_,bJ,_⟩:=id h;obtain ⟨cur,q8,_,_⟩:=bJ.V3;obtain ⟨sj,hle⟩:=κ.aF.acG (q':=q') h hR DJ I q8;obtain ⟨kz,zC,Bl,dz⟩:=h.has.at_ (by omega);injection Bl with Bl
 injection Bl with cF bo
 subst cF bo;obtain ⟨Dj,YU,h5⟩:=dz i q ao;obtain rfl:=hold YU;have am7:Dj.length=R.size:=R.len YU;have Y':es.length=R.size:=R.len (I w);have Qe:=Nat.le_of_ble_eq_true ay;have pb:∀ m,m<R.size→cur.toList[i * R.size+m]? =Dj[m]? :=λ m hm=>by
  have hu:Dj[m]? =some Dj[m]:=List.getElem?_eq_getElem (by omega);have:=h5 m Dj[m] hu;rw [hu];simpa [World.cell?,q8] using this
 have anL:=aq9 (cur:=cur.toList) (old:=Dj) (part:=part) (p:=i * R.size) (s:=R.size) (j:=j) am7 Qe (by rw [Y'] at hle;exact hle) pb;have nQ:part.all (·.oneCell')=true:=List.all_eq_true.2 λ u hu=>R.one (I w) u (by rw [Bs];simp [hu]);have fM:=R4 (P:=P) (w:=w) (b:=b) (p:=i * R.size+j) (cur:=cur.toList) (e:=e) (by simpa [aK] using q8) hc hs nQ (by rw [Y'] at hle;omega);rw [← anL,← Bs] at fM;refine us (λ n a ha=> ?_) (av _ (Mod.setRow w b _) sj);simp only [execOp,ha.ev hx,ha.ev aG,Instr.storeAt,Instr.sureAddr,Sem.run_bind,Sem.run_pure,Result.andThen_ok,fM]
end
end
section
open Go.RowKit
section
variable {P:Program} {n:Nat} {E:List (Nat×Value)} {w w':World} {Q:Exit→Act→World→Prop} {ops:Array Oper} {ty:TypeId} {pos:String} {bn:Array Edge} {rest:List Oper} {x y z:Operand} {t u:TypeId} {v hi:Value} {d:Option Nat} {g:Option (Nat×Bool)}
def yi (P:Program) (w:World) (t:TypeId) (v:Value) (name:String) (f:FuncId) (hi:Value):Prop:=(Go.method (P.types.size+Made.depth) t v name).run P w= .ok (f,hi) w
theorem acE {f:FuncId} {name:String} (hf:Enters P f) {xs:Array Operand} {ts:Array TypeId} {args:List Value} {a:Act} (ha:dH n E a) (hr:ev E x=some (.iface t v)) (he:gd E xs.toList=some args) (hm:yi P w t v name f hi):
  (execOp a.eval ⟨d, .call {callee:= .invoke x name,args:=xs,argTypes:=ts},ty,pos,bn,g⟩).run P w= .ok (.enter f (hi::args).toArray) w:=by
 obtain ⟨fn,γ,aa,au⟩:=hf;have hx:xs.map a.eval=args.toArray:=by rw [← ha.gd he];apply Array.ext';simp
 unfold yi at hm;have e0:(#[(Value.iface t v)]++args.toArray)[0]? =some (.iface t v):=by simp
 have aU:(#[(Value.iface t v)]++args.toArray).extract 1 (#[(Value.iface t v)]++args.toArray).size=args.toArray:=by simp
 have bc:#[hi]++args.toArray=(hi::args).toArray:=by simp
 have hp:Sem.run P program w= .ok P w:=rfl;simp only [execOp,resolve,hx,ha.ev hr,Sem.run_bind,Sem.run_pure,Result.andThen_ok,invoke,e0,aU,callMethod,callFunc,hp,hm,γ,aa,au,bc,Bool.false_eq_true,if_false]
theorem fW {d:Nat} {f:FuncId} {name:String} (hf:Enters P f) {xs:Array Operand} {ts:Array TypeId} {args:List Value} (hr:ev E x=some (.iface t v)) (he:gd E xs.toList=some args) (hm:yi P w t v name f hi) (hd:Nat.blt d n=true)
  (h:Calls P f (hi::args).toArray w λ e w'=>∃ v,e= .returned v∧cm P n ops Q rest ((d,v)::E) w'):cm P n ops Q (⟨some d, .call {callee:= .invoke x name,args:=xs,argTypes:=ts},ty,pos,bn,none⟩::rest) E w:=λ a ha=>by
 refine CW Z ?_;unfold Oper.wp;rw [acE hf ha hr he hm];refine Calls.mono h λ e w' ey=> ?_;obtain ⟨v,rfl,h⟩:=ey;exact h _ (ha.put hd v)
theorem ZM {d:Nat} {f:FuncId} {name:String} {xs:Array Operand} {ts:Array TypeId} {args:List Value} {j:Nat} {q b c:Bool} {cQ:Oper} {jc:Nat} {v0:Value} (ay:ops[j]? =some cQ) (nN:cQ.dst=some jc) (Φ:look E jc=some (.bool b)) (hc:(b == q)=c)
  (hf:Enters P f) (hx:c=true→ev E x=some (.iface t v0)) (he:c=true→gd E xs.toList=some args) (hm:yi P w t v0 name f hi) (hr:c=true→Calls P f (hi::args).toArray w λ e w'=>e= .returned v∧Ext w w') (hd:Nat.blt d n=true)
  (h:∀ w',Ext w w'→cm P n ops Q rest ((d,ie c v)::E) w'):cm P n ops Q (⟨some d, .call {callee:= .invoke x name,args:=xs,argTypes:=ts},ty,pos,bn,some (j,q)⟩::rest) E w :=
 SW (c:=c) (λ a ha=>by rw [Ce (o:=⟨some d,_,ty,pos,bn,some (j,q)⟩) rfl ay nN Φ ha,hc])
  (λ hc a ha=>by unfold Oper.wp;rw [acE hf ha (hx hc) (he hc) hm];exact (hr hc).mono λ e w' ⟨γ,aob⟩=>by subst γ;subst hc;exact h w' aob _ (ha.put hd v)) (λ hc a ha=>by subst hc;exact h w (Ext.bM w) _ (ha.put hd undef))
theorem LA (hr:∀ w,(Instr.makeInterface t v).run P w= .ok (.iface t v) w) (hx:ev E x=some v):c8 P E ⟨d, .makeInterface t x,ty,pos,bn,g⟩ w (.iface t v) w:=λ n a ha=>by
 simp only [execOp,ha.ev hx,Sem.run_bind,hr w,Result.andThen_ok,Sem.run_pure]
theorem adk {t':TypeId} (hr:∀ w,(Instr.typeAssert (.iface t v) t' t false).run P w= .ok v w) (hx:ev E x=some (.iface t v)):c8 P E ⟨d, .typeAssert x t' t false,ty,pos,bn,g⟩ w v w:=λ n a ha=>by
 simp only [execOp,ha.ev hx,Sem.run_bind,hr w,Result.andThen_ok,Sem.run_pure]
theorem vJ {e:TypeId} {p:Addr} {name:String} {f:FuncId} (h:(Go.method (P.types.size+Made.depth) t (.pointer (some p)) name).run P w=(loadVar e p >>= λ x=>pure (f,x)).run P w) (az:hV P w e p v):yi P w t (.pointer (some p)) name f v:=by
 unfold yi;unfold hV at az;rw [h];simp only [Sem.run_bind,az,Result.andThen_ok,Sem.run_pure]
end
end
section
open Go.RowKit
namespace b8
section
variable {α:Type} [Inhabited α] {key:α→Int} {lm l:List α} {m N n:Nat}
theorem auF (h:(((((m - 1) / 2:Nat):Int)== (m:Int)) || !decide (key (lm.getD m default)<key (lm.getD ((m - 1) / 2) default)))=true):n5 key lm m=lm:=by
 unfold n5;rw [if_neg];rintro ⟨γ,aa⟩;simp only [Bool.or_eq_true,beq_iff_eq,Bool.not_eq_true',decide_eq_false_iff_not] at h;rcases h with h | h
 ·omega
 ·exact h aa
theorem auG (h:(((((m - 1) / 2:Nat):Int)== (m:Int)) || !decide (key (lm.getD m default)<key (lm.getD ((m - 1) / 2) default)))=false):0<m∧n5 key lm m=n5 key (swp lm ((m - 1) / 2) m) ((m - 1) / 2):=by
 simp only [Bool.or_eq_false_iff,beq_eq_false_iff_ne,Bool.not_eq_false',decide_eq_true_eq] at h;have hm:0<m:=by
  rcases Nat.eq_zero_or_pos m with aE | aE
  ·subst aE;exact absurd Z h.1
  ·exact aE
 refine ⟨hm, ?_⟩
 conv=>lhs;unfold n5
 rw [if_pos ⟨hm,h.2⟩]
theorem ais (h:(decide ((N:Int)≤2 * (m:Int)+1) || decide (2 * (m:Int)+1<0))=true):iA key N l m=l:=by
 unfold iA;rw [if_neg];simp only [Bool.or_eq_true,decide_eq_true_eq] at h;omega
theorem ait (h:(decide ((N:Int)≤2 * (m:Int)+1) || decide (2 * (m:Int)+1<0))=false):2 * m+1<N:=by
 simp only [Bool.or_eq_false_iff,decide_eq_false_iff_not] at h;omega
theorem apH (h:(decide (2 * (m:Int)+1+1<(N:Int)) && decide (key (l.getD (2 * m+1+1) default)<key (l.getD (2 * m+1) default)))=true):ma key N l m=2 * m+2:=by
 simp only [Bool.and_eq_true,decide_eq_true_eq] at h;unfold ma;rw [if_pos ⟨by omega,h.2⟩]
theorem apF {q:Bool} (h:(decide (2 * (m:Int)+1+1<(N:Int)) && q)=true):2 * m+2<N:=by
 simp only [Bool.and_eq_true,decide_eq_true_eq] at h;omega
theorem apG (h:(decide (2 * (m:Int)+1+1<(N:Int)) && decide (key (l.getD (2 * m+1+1) default)<key (l.getD (2 * m+1) default)))=false):ma key N l m=2 * m+1:=by
 unfold ma;rw [if_neg];rintro ⟨γ,aa⟩;rw [decide_eq_true (show 2 * (m:Int)+1+1<(N:Int) by omega),decide_eq_true (show key (l.getD (2 * m+1+1) default)<key (l.getD (2 * m+1) default) from aa)] at h;cases h
theorem WV {j:Nat} (γ:2 * m+1<N) (az:ma key N l m=j) (h:(!decide (key (l.getD j default)<key (l.getD m default)))=true):iA key N l m=l:=by
 unfold iA;rw [if_neg];rw [az];rintro ⟨_,aa⟩;rw [decide_eq_true aa] at h;cases h
theorem WW {j:Nat} (γ:2 * m+1<N) (az:ma key N l m=j) (h:(!decide (key (l.getD j default)<key (l.getD m default)))=false):iA key N l m=iA key N (swp l m j) j:=by
 conv=>lhs;unfold iA
 rw [az,if_pos ⟨γ,by simpa using h⟩]
end
end b8
theorem atJ (m:Nat):Int.tdiv ((m:Int) - 1) 2=(((m - 1) / 2:Nat):Int):=by
 cases m with
 | zero=>rfl
 | succ m =>
  rw [show ((m+1:Nat):Int) - 1=(m:Int) by omega,Int.tdiv_eq_ediv_of_nonneg (by omega)];simp
section
variable {P:Program} {n:Nat} {E:List (Nat×Value)} {w:World} {ty:TypeId} {pos:String} {bn:Array Edge} {x y:Operand} {t u:TypeId} {d:Option Nat} {g:Option (Nat×Bool)}
theorem agX {k:IntKind} {i j r:Int} (hx:ev E x=some (.int k i)) (aG:ev E y=some (.int k j)) (γ:j≠0) (hr:Int.tdiv i j=r) (hw:k.wrap r=r):c8 P E ⟨d, .binOp .quo t x y u,ty,pos,bn,g⟩ w (.int k r) w:=sy hx aG (binOp_quo t k i j) (by
 subst hr;have:Op.intDiv .quo k i j=pure (.int k (Int.tdiv i j)):=by simp [Op.intDiv,γ,hw]
 rw [this];rfl)
end
end
section
open Go.RowKit
theorem af1:ff prog bU.rep 263 313 32:=ff.lB (z:=bU.zero) (k:=4) underlying263 bU.info rfl rfl (by decide) bU.lS
theorem Bq {w:World} {cs:List Value} {a:bU} (h:bU.rep.has w cs a):cs=a.cells:=And.left (show cs=a.cells∧a.ok from h)
theorem Ic (A:Option Addr) (n c:Nat) (w:World):
  Calls prog 219 #[.slice A n c] w (λ e w'=>e= .returned (.int .i64 (n:Int))∧Ext w w'):=by
 refine cv (n:=5) func219 Z Z Z ?_;refine aj<|va Z<|ah<|aj<|vm Z<|J (cW underlying263 Z)<|va Z<|ah<|rt<|bp (.tmp Z .nil)<| ?_;exact ⟨Z,(Ext.bM w)⟩
theorem MB (A:Option Addr) (n c:Nat) (l:List bU) (i j:Int) (p q:Nat) (w:World) (az:bU.rep.aH 32 w A c l) (hn:l.length=n) (ao:i=(p:Int)) (ay:j=(q:Int)) (hp:p<n) (I:q<n):
  Calls prog 265 #[.slice A n c, .int .i64 i, .int .i64 j] w (λ e w'=>e= .returned (.bool (decide ((l.getD p default).all<(l.getD q default).all)))∧Ext w w'):=by
 refine cv (n:=18) func265 Z Z Z ?_;refine aj<|va Z<|ah<|aD<| ?_;refine rd [(4,0),(9,0)] [0,1,2,3,4,5,6,7,8,9,10,11] (by kernel_rfl) (by kernel_rfl) ?_;refine aq Z (λ _=>aJ Z)<|aq Z (λ _=>aJ Z)<|aq Z (λ _=>bY i.toNat underlying263 mL Z Z ((az.keep (Ext.bM w)).bA (a8 i.toNat (by omega))) (by omega) (by omega))<|aq Z (λ _=>aw J8 Z)<|bD Z (λ _ x=>ak Z (κ.aH.nH Bq ((az.keep (τ (Ext.bM w) x)).cL (a8 i.toNat (by omega))) 3 (dO (l:=l) (u:=default) (by omega)) Z aZ))<|aq Z (λ _=>aJ Z)<|aq Z (λ _=>aJ Z)<|aq Z (λ _=>bY j.toNat underlying263 mL Z Z ((az.keep (Ext.bM w)).bA (a8 j.toNat (by omega))) (by omega) (by omega))<|aq Z (λ _=>aw J8 Z)<|bD Z (λ _ x=>ak Z (κ.aH.nH Bq ((az.keep (τ (Ext.bM w) x)).cL (a8 j.toNat (by omega))) 3 (dO (l:=l) (u:=default) (by omega)) Z aZ))<|aq Z (λ _=>blt Z Z)<|aq Z (λ _=>eV Z)<|fn λ dw gG=> ?_;have:=gG.size;have br:=τ (Ext.bM w) gG;refine a6<|rt<|bp (.tmp Z .nil)<| ?_;subst ao ay;exact ⟨by simp only [Int.toNat_natCast];rfl,br⟩
theorem MC (A:Option Addr) (n c aB:Nat) (l:List bU) (i j:Int) (p q:Nat) (w:World) (aN:bU.rep.aF 313 32 w aB (κ.af A) A c (l)) (cV:∀ y∈l,y.ok) (hn:l.length=n) (ao:i=(p:Int)) (ay:j=(q:Int)) (hp:p<n) (I:q<n):
  Calls prog 266 #[.slice A n c, .int .i64 i, .int .i64 j] w (λ e w'=>e= .returned (.tuple #[])∧bU.rep.aF 313 32 w' aB (κ.af A) A c (b8.swp l p q)∧Mod (κ.af A) w w'):=by
 have zQ:=λ q I=>(aN.lt q I).2;refine cv (n:=20) func266 Z Z Z ?_;refine rd [(7,0),(11,0),(13,3),(15,3)] [0,1,2,3,4,5,6,7,8,9,10,11,12,13,14,15] (by kernel_rfl) (by kernel_rfl) ?_;refine aq Z (λ _=>aJ Z)<|aq Z (λ _=>aJ Z)<|aq Z (λ _=>aJ Z)<|aq Z (λ _=>aJ Z)<|aq Z (λ _=>aJ Z)<|aq Z (λ _=>aJ Z)<|aq Z (λ _=>bY j.toNat underlying263 mL Z Z (aN.has.bA (a8 j.toNat (by first | omega | (rw [List.length_set];omega)))) (by omega) (by first | omega | (rw [List.length_set];omega)))<|bD Z (λ _ x=>ak Z (κ.aH.ic Bq ((aN.later x).has.cL (a8 j.toNat (by first | omega | (rw [List.length_set];omega)))) (dO (l:=l) (u:=default) (by first | omega | (rw [List.length_set];omega))) JT mL))<|aq Z (λ _=>aJ Z)<|aq Z (λ _=>aJ Z)<|aq Z (λ _=>bY i.toNat underlying263 mL Z Z (aN.has.bA (a8 i.toNat (by first | omega | (rw [List.length_set];omega)))) (by omega) (by first | omega | (rw [List.length_set];omega)))<|bD Z (λ _ x=>ak Z (κ.aH.ic Bq ((aN.later x).has.cL (a8 i.toNat (by first | omega | (rw [List.length_set];omega)))) (dO (l:=l) (u:=default) (by first | omega | (rw [List.length_set];omega))) JT mL))<|aq Z (λ _=>bY i.toNat underlying263 mL Z Z (aN.has.bA (a8 i.toNat (by first | omega | (rw [List.length_set];omega)))) (by omega) (by first | omega | (rw [List.length_set];omega)))<|fc Z Z Z λ dw gG Q hK=>L4 (q':=l.getD j.toNat default) (i:=i.toNat) (es:= [.int .i64 ((l.getD j.toNat default).cell.x), .int .i64 ((l.getD j.toNat default).cell.y), .int .i64 ((l.getD j.toNat default).aT), .int .i64 ((l.getD j.toNat default).all)]) (aN.later gG) κ.dV (by first | omega | (rw [List.length_set];omega)) Z Z Z Z (λ _=>⟨Z,(cV _ (lz (by omega)))⟩) mL λ avc Rc U3=>hK _ _ ?_;have:=gG.size;have br:=(Mod.bM (κ.af A) w).trans (Mod.bG gG);have:=Rc.size;have Tj:=br.md Rc (λ q I=> .inl I);have:=Rc.size;refine aq Z (λ _=>bY j.toNat underlying263 mL Z Z (U3.has.bA (a8 j.toNat (by first | omega | (rw [List.length_set];omega)))) (by omega) (by first | omega | (rw [List.length_set];omega)))<|fc Z Z Z λ uK bj Q hK=>L4 (q':=l.getD i.toNat default) (i:=j.toNat) (es:= [.int .i64 ((l.getD i.toNat default).cell.x), .int .i64 ((l.getD i.toNat default).cell.y), .int .i64 ((l.getD i.toNat default).aT), .int .i64 ((l.getD i.toNat default).all)]) (U3.later bj) κ.dV (by first | omega | (rw [List.length_set];omega)) Z Z Z Z (λ _=>⟨Z,(cV _ (lz (by omega)))⟩) mL λ B_ D0 I5=>hK _ _ ?_;have:=bj.size;have iy:=Tj.trans (Mod.bG bj);have:=D0.size;have pM:=iy.md D0 (λ q I=> .inl I);have:=D0.size;refine fn λ wa h_=> ?_;have:=h_.size;have rI:=pM.trans (Mod.bG h_);refine ne<|bp .nil<| ?_;have I5:=I5.later h_;subst ao ay;simp only [Int.toNat_natCast] at I5;exact ⟨Z,I5,rI⟩
theorem avG (b:Nat) (A:Option Addr) (n c aB:Nat) (l:List bU) (v0 v1 v2 v3 v4 v5:Value) (j:Nat) (w:World) (aV:aK w b [v0,v1,v2,v3,v4,v5, .slice A n c] 265 (0,0)) (aN:bU.rep.aF 313 32 w aB (κ.af A) A c (l)) (cV:∀ y∈l,y.ok) (hn:l.length=n) (hd:∀ q∈κ.af A,q=b→False) (ay:j<n):
  Calls prog 239 #[.iface 311 (.pointer (some ⟨b,6,none⟩)), .int .i64 (j:Int)] w (λ e w'=>e= .returned (.tuple #[])∧aK w' b [v0,v1,v2,v3,v4,v5, .slice A n c] 265 (0,0)∧bU.rep.aF 313 32 w' aB (κ.af A) A c (b8.n5 bU.all l j)∧Mod (κ.af A) w w'):=by
 have zQ:=λ q I=>(aN.lt q I).2;have uB:=aV.lt;have GF:=aN.has.2.1;have zb:=aN.has.ez;have GG:=aN.has.1;refine cv (n:=23) func239 Z Z Z ?_;refine bP<| ?_;refine fe (λ ck ch aS=>∃ lm:List bU,∃ m:Nat,ch= [(0, .iface 311 (.pointer (some ⟨b,6,none⟩))),(1, .int .i64 (m:Int))]∧ck=(2 * m)∧Mod (κ.af A) w aS∧aK aS b [v0,v1,v2,v3,v4,v5, .slice A n c] 265 (0,0)∧bU.rep.aF 313 32 aS aB (κ.af A) A c (lm)∧(m<n)∧(lm.length=n)∧(∀ y∈lm,y.ok)∧(b8.n5 bU.all lm m=b8.n5 bU.all l j)∧(∀ q∈κ.af A,q=b→False)) _ _ ⟨l,j,Z,Z,(Mod.bM (κ.af A) w),aV,aN,by omega,by omega,cV,rfl,(λ q I Φ=>by (exact hd q I Φ))⟩ (rv Z) ?_;rintro D9 CN qs ⟨lm,m,rfl,rfl,c0,aV,hQ,hm,am6,BA,kX,A0⟩;have:=c0.size;have asb:=aV.lt;have auu:=λ q I=>(hQ.lt q I).2;refine bP<|aj<|vm Z<|J (kB Z Z (bF (by omega)))<|J (agX (r:=(((m - 1) / 2:Nat):Int)) Z Z (by decide) (atJ m) (bF (by omega)))<|va Z<|ah<|aD<|aj<|vm Z<|vm Z<|J (beq Z Z)<|vm Z<|bB Z Z Z Z (λ hc=>aJ Z) Z<|bB Z Z Z Z (λ hc=>aJ Z) Z<|bB Z Z Z Z (λ hc=>aJ Z) Z<|ZM Z Z Z Z JX (λ hc=>(gt hc Z)) (λ hc=>fB (gt hc Z) (fB (gt hc Z) Z)) (vJ (e:= 263) (by kernel_rfl) (aV.one nF Z)) (λ hc=>MB _ _ _ lm (m:Int) ((((m - 1) / 2:Nat):Int)) m ((m - 1) / 2) _ hQ.has (by omega) (by omega) (by omega) (by first | omega | (simp only [cB] at hc;omega)) (by first | omega | (simp only [cB] at hc;omega))) Z λ eB dn=> ?_;have:=dn.size;have bS:=c0.trans (Mod.bG dn);refine bB Z Z Z Z (λ hc=>eo (gt hc Z)) Z<|J (gy Z Z Z Z)<|ah<| ?_;refine fk Z (λ jh=> ?_) (λ jh=> ?_)
 ·have hex:=b8.auF (key:=bU.all) jh;rw [hex] at kX;refine dG<|dF<|Ib Z<|eb<|dE<|ne<|bp .nil<| ?_;have hQ:=hQ.later dn;have aV:=aV.later dn;exact ⟨Z,aV,by rw [← kX];exact hQ,bS⟩
 ·obtain ⟨Bv,sg⟩:=b8.auG (key:=bU.all) jh;refine bx<|aj<|vm Z<|vm Z<|vm Z<| ?_;have aV:=aV.later dn;have hQ:=hQ.later dn;refine fW JZ Z Z (vJ (e:= 263) (by kernel_rfl) (aV.one nF Z)) Z ((MC _ _ _ _ lm ((((m - 1) / 2:Nat):Int)) (m:Int) ((m - 1) / 2) m _ hQ BA (by omega) (by omega) (by omega) (by omega) (by omega)).mono ?_);rintro e EC ⟨rfl,afK,xx⟩;refine ⟨_,Z, ?_⟩;have:=xx.size;have uQ:=bS.md xx (λ q I=> .inl I);have ann:∀ y∈b8.swp lm ((m - 1) / 2) m,y.ok:=λ y aG=>BA y ((b8.zN (by omega) (by omega)).subset aG);have am0:(b8.swp lm ((m - 1) / 2) m).length=n:=by rw [b8.kF];omega
  refine ah<|rg<|vm Z<|va Z<|nl<|cg<| ?_;have aV:=aV.mod xx (λ I=>A0 _ I rfl);exact du _ _ ⟨b8.swp lm ((m - 1) / 2) m,(m - 1) / 2,Z,Z,uQ,aV,afK,by omega,am0,ann,sg.symm.trans kX,(λ q I Φ=>by (exact A0 q I Φ))⟩ (by omega) (.cons Z (.cons (bX Z (by first | omega | rfl | (simp<;>omega))) .nil))
theorem avB (b:Nat) (A:Option Addr) (n c aB:Nat) (l:List bU) (v0 v1 v2 v3 v4 v5:Value) (i N:Nat) (w:World) (aV:aK w b [v0,v1,v2,v3,v4,v5, .slice A n c] 265 (0,0)) (aN:bU.rep.aF 313 32 w aB (κ.af A) A c (l)) (cV:∀ y∈l,y.ok) (hn:l.length=n) (hd:∀ q∈κ.af A,q=b→False) (ao:i<n) (alx:N≤n) (KI:n≤1000000):
  Calls prog 240 #[.iface 311 (.pointer (some ⟨b,6,none⟩)), .int .i64 (i:Int), .int .i64 (N:Int)] w (λ e w'=>(∃ v,e= .returned (.bool v))∧aK w' b [v0,v1,v2,v3,v4,v5, .slice A n c] 265 (0,0)∧bU.rep.aF 313 32 w' aB (κ.af A) A c (b8.iA bU.all N l i)∧Mod (κ.af A) w w'):=by
 have zQ:=λ q I=>(aN.lt q I).2;have uB:=aV.lt;have GF:=aN.has.2.1;have zb:=aN.has.ez;have GG:=aN.has.1;refine cv (n:=48) func240 Z Z Z ?_;refine aj<|va Z<|ah<|aj<|vm Z<|va Z<|ah<|aD<|bP<| ?_;refine fe (λ ck ch aS=>∃ lm:List bU,∃ m:Nat,ch= [(0, .iface 311 (.pointer (some ⟨b,6,none⟩))),(1, .int .i64 (i:Int)),(2, .int .i64 (N:Int)),(6, .bool false),(7, .int .i64 (m:Int))]∧ck=N - m∧Mod (κ.af A) w aS∧aK aS b [v0,v1,v2,v3,v4,v5, .slice A n c] 265 (0,0)∧bU.rep.aF 313 32 aS aB (κ.af A) A c (lm)∧(m<n)∧(lm.length=n)∧(∀ y∈lm,y.ok)∧(b8.iA bU.all N lm m=b8.iA bU.all N l i)∧(∀ q∈κ.af A,q=b→False)) _ _ ⟨l,i,Z,Z,(Mod.bM (κ.af A) w),aV,aN,by omega,by omega,cV,rfl,(λ q I Φ=>by (exact hd q I Φ))⟩ (rv Z) ?_;rintro D9 CN qs ⟨lm,m,rfl,rfl,c0,aV,hQ,hm,am6,BA,kX,A0⟩;have:=c0.size;have asb:=aV.lt;have auu:=λ q I=>(hQ.lt q I).2;refine bP<|aj<|vm Z<|J (yB Z Z (bF (by omega)))<|J (bad Z Z (bF (by omega)))<|va Z<|ah<|aD<|aj<|vm Z<|vm Z<|J (l1 Z Z)<|vm Z<|bB Z Z Z Z (λ hc=>aJ Z) Z<|bB Z Z Z Z (λ hc=>blt (gt hc Z) Z) Z<|J (gy Z Z Z Z)<|ah<| ?_;refine fk Z (λ Bi=> ?_) (λ Bi=> ?_)
 ·have hex:=b8.ais (key:=bU.all) (l:=lm) Bi;rw [hex] at kX;refine dG<|dF<|Ib Z<|eb<|dE<|a6<|aj<|vm Z<|vm Z<|J (jC Z Z)<|va Z<|ah<|rt<|bp (.tmp Z .nil)<| ?_
  skip
  exact ⟨⟨_,Z⟩,aV,by rw [← kX];exact hQ,c0⟩
 ·have tP:=b8.ait Bi;refine bx<|aj<|vm Z<|va Z<|ah<|aD<|aj<|vm Z<|J (bad Z Z (bF (by omega)))<|va Z<|ah<|aj<|vm Z<|vm Z<|J (blt Z Z)<|vm Z<|bB Z Z Z Z (λ hc=>aJ Z) Z<|bB Z Z Z Z (λ hc=>aJ Z) Z<| ?_;refine bB Z Z Z Z (λ hc=>aJ Z) Z<|ZM Z Z Z Z JX (λ hc=>(gt hc Z)) (λ hc=>fB (gt hc Z) (fB (gt hc Z) Z)) (vJ (e:= 263) (by kernel_rfl) (aV.one nF Z)) (λ hc=>MB _ _ _ lm (((2 * (m:Int))+1)+1) ((2 * (m:Int))+1) (((2 * m)+1)+1) ((2 * m)+1) _ hQ.has (by omega) (by omega) (by omega) (by first | omega | (simp only [cB] at hc;omega)) (by first | omega | (simp only [cB] at hc;omega))) Z λ uK bj=> ?_;have:=bj.size;have iy:=c0.trans (Mod.bG bj);refine J (eA Z Z Z Z)<|ah<| ?_;refine fk Z (λ kV=> ?_) (λ kV=> ?_)
  ·have hG:=b8.apH (key:=bU.all) (l:=lm) (m:=m) kV;have Gp:=b8.apF kV;refine rg<|vm Z<|va Z<|ah<|aD<|aj<|vm Z<|vm Z<|vm Z<| ?_;have aV:=aV.later bj;have hQ:=hQ.later bj;refine fW JX Z Z (vJ (e:= 263) (by kernel_rfl) (aV.one nF Z)) Z ((MB _ _ _ lm (((2 * (m:Int))+1)+1) (m:Int) (((2 * m)+1)+1) m _ hQ.has (by omega) (by omega) (by omega) (by first | omega | (simp only [cB] at hc;omega)) (by first | omega | (simp only [cB] at hc;omega))).mono ?_);rintro e Ca ⟨rfl,lN⟩;refine ⟨_,Z, ?_⟩;have:=lN.size;have pN:=iy.trans (Mod.bG lN);refine J (eo Z)<|ah<| ?_;refine fk Z (λ Bc=> ?_) (λ Bc=> ?_)
   ·have hex:=b8.WV (key:=bU.all) tP hG Bc;rw [hex] at kX;refine dG<|dF<|Ib Z<|eb<|dE<|a6<|aj<|vm Z<|vm Z<|J (jC Z Z)<|va Z<|ah<|rt<|bp (.tmp Z .nil)<| ?_
    skip
    have hQ:=hQ.later lN;have aV:=aV.later lN;exact ⟨⟨_,Z⟩,aV,by rw [← kX];exact hQ,pN⟩
   ·have sg:=b8.WW (key:=bU.all) tP hG Bc;refine bx<|aj<|vm Z<|vm Z<|vm Z<| ?_;have aV:=aV.later lN;have hQ:=hQ.later lN;refine fW JZ Z Z (vJ (e:= 263) (by kernel_rfl) (aV.one nF Z)) Z ((MC _ _ _ _ lm (m:Int) (((2 * (m:Int))+1)+1) m (((2 * m)+1)+1) _ hQ BA (by omega) (by omega) (by omega) (by omega) (by omega)).mono ?_);rintro e ED ⟨rfl,u7,BN⟩;refine ⟨_,Z, ?_⟩;have:=BN.size;have rJ:=pN.md BN (λ q I=> .inl I);have ano:∀ y∈b8.swp lm m (((2 * m)+1)+1),y.ok:=λ y aG=>BA y ((b8.zN (by omega) (by omega)).subset aG);have am1:(b8.swp lm m (((2 * m)+1)+1)).length=n:=by rw [b8.kF];omega
    refine ah<|rg<|vm Z<|va Z<|nl<|cg<| ?_;have aV:=aV.mod BN (λ I=>A0 _ I rfl);exact du _ _ ⟨b8.swp lm m (((2 * m)+1)+1),2 * m+2,Z,Z,rJ,aV,u7,by omega,am1,ano,sg.symm.trans kX,(λ q I Φ=>by (exact A0 q I Φ))⟩ (by omega) (.cons Z (.cons Z (.cons Z (.cons Z (.cons (bX Z (by first | omega | rfl | (simp<;>omega))) .nil)))))
  ·have hG:=b8.apG (key:=bU.all) (l:=lm) (m:=m) kV;refine bx<|aD<|aj<|vm Z<|vm Z<|vm Z<| ?_;have aV:=aV.later bj;have hQ:=hQ.later bj;refine fW JX Z Z (vJ (e:= 263) (by kernel_rfl) (aV.one nF Z)) Z ((MB _ _ _ lm ((2 * (m:Int))+1) (m:Int) ((2 * m)+1) m _ hQ.has (by omega) (by omega) (by omega) (by first | omega | (simp only [cB] at hc;omega)) (by first | omega | (simp only [cB] at hc;omega))).mono ?_);rintro e xV ⟨rfl,oH⟩;refine ⟨_,Z, ?_⟩;have:=oH.size;have ks:=iy.trans (Mod.bG oH);refine J (eo Z)<|ah<| ?_;refine fk Z (λ xd=> ?_) (λ xd=> ?_)
   ·have hex:=b8.WV (key:=bU.all) tP hG xd;rw [hex] at kX;refine dG<|dF<|Ib Z<|eb<|dE<|a6<|aj<|vm Z<|vm Z<|J (jC Z Z)<|va Z<|ah<|rt<|bp (.tmp Z .nil)<| ?_
    skip
    have hQ:=hQ.later oH;have aV:=aV.later oH;exact ⟨⟨_,Z⟩,aV,by rw [← kX];exact hQ,ks⟩
   ·have sg:=b8.WW (key:=bU.all) tP hG xd;refine bx<|aj<|vm Z<|vm Z<|vm Z<| ?_;have aV:=aV.later oH;have hQ:=hQ.later oH;refine fW JZ Z Z (vJ (e:= 263) (by kernel_rfl) (aV.one nF Z)) Z ((MC _ _ _ _ lm (m:Int) ((2 * (m:Int))+1) m ((2 * m)+1) _ hQ BA (by omega) (by omega) (by omega) (by omega) (by omega)).mono ?_);rintro e SE ⟨rfl,qQ,rk⟩;refine ⟨_,Z, ?_⟩;have:=rk.size;have Aj:=ks.md rk (λ q I=> .inl I);have anp:∀ y∈b8.swp lm m ((2 * m)+1),y.ok:=λ y aG=>BA y ((b8.zN (by omega) (by omega)).subset aG);have am2:(b8.swp lm m ((2 * m)+1)).length=n:=by rw [b8.kF];omega
    refine ah<|rg<|vm Z<|va Z<|nl<|cg<| ?_;have aV:=aV.mod rk (λ I=>A0 _ I rfl);exact du _ _ ⟨b8.swp lm m ((2 * m)+1),2 * m+1,Z,Z,Aj,aV,qQ,by omega,am2,anp,sg.symm.trans kX,(λ q I Φ=>by (exact A0 q I Φ))⟩ (by omega) (.cons Z (.cons Z (.cons Z (.cons Z (.cons (bX Z (by first | omega | rfl | (simp<;>omega))) .nil)))))
theorem avF (b:Nat) (A:Option Addr) (c aB:Nat) (l:List bU) (v0 v1 v2 v3 v4 v5:Value) (x:bU) (w:World) (aV:aK w b [v0,v1,v2,v3,v4,v5, .slice A l.length c] 265 (0,0)) (aN:bU.rep.aF 313 32 w aB (κ.af A) A c (l)) (cV:∀ y∈l,y.ok) (hd:∀ q∈κ.af A,q=b→False) (hx:x.ok) (KI:l.length≤1000000) (tJ:aB≤w.heap.size):
  Calls prog 268 #[.pointer (some ⟨b,6,none⟩), .iface 313 (.agg #[.int .i64 x.cell.x, .int .i64 x.cell.y, .int .i64 x.aT, .int .i64 x.all])] w (λ e w'=>∃ bH bW,e= .returned (.tuple #[])∧aK w' b [v0,v1,v2,v3,v4,v5, .slice bH (l++ [x]).length bW] 265 (0,0)∧bU.rep.aF 313 32 w' aB (κ.af bH) bH bW (l++ [x])∧(∀ q∈κ.af bH,q∈κ.af A∨w.heap.size≤q)∧Mod (b::κ.af A) w w'):=by
 have zQ:=λ q I=>(aN.lt q I).2;have uB:=aV.lt;have GF:=aN.has.2.1;have zb:=aN.has.ez;have GG:=aN.has.1;refine cv (n:=13) func268 Z Z Z ?_;refine rd [(3,0),(6,2),(7,3),(9,3)] [0,1,2,3,4,5,6,7,8,9] (by kernel_rfl) (by kernel_rfl) ?_;refine aq Z (λ _=>aJ Z)<|aq Z (λ _=>aJ Z)<|aq Z (λ _=>cn Z)<|bD Z (λ _ x=>ak Z ((aV.later x).one nF Z))<|aq Z (λ _=>aJ Z)<|aq Z (λ _=>adk (λ w=>by kernel_rfl) Z)<|gu Z Z Z λ dw gG Q hK=>cH (e:= 313) (cs:= [.int .i64 x.cell.x, .int .i64 x.cell.y, .int .i64 x.aT, .int .i64 x.all]) Z (λ _=>by kernel_rfl) Z λ avc ayc rG aBW Uf=>hK _ _ ⟨τ gG rG, ?_⟩;have:=gG.size;have br:=(Mod.bM (b::κ.af A) w).trans (Mod.bG gG);have:=rG.size;have Tj:=br.trans (Mod.bG rG);have aDE:=Uf.lt;have aN:=aN.later (τ gG rG);refine fc Z Z Z λ B_ lM Q hK=>ap af1 κ.dV (aN.later lM) ((aK.gv (R:=bU.rep) (by_:=32) (q:=x) Uf ⟨Z,hx⟩ (by decide)).keep lM) Z Z (by simp only [List.length_cons,List.length_nil];omega) (by simp only [List.length_cons,List.length_nil];omega) (by have:=lM.size;omega) Z λ Ca TH kT zq u7 XT aC6=>hK _ _ ?_;have:=lM.size;have pM:=Tj.trans (Mod.bG lM);have:=zq.size;have pN:=pM.md zq (λ q I=> .inl (List.mem_cons_of_mem _ I));have aum:=λ q I=>(u7.lt q I).2;have:=zq.size;refine aq Z (λ _=>cn Z)<| ?_;have aV:=aV.later (τ gG (τ rG lM));have aV:=aV.mod zq (λ I=>hd _ I rfl);refine fc Z Z Z λ zW jt Q hK=>st (new:= [v0,v1,v2,v3,v4,v5, .slice TH ((l++ [x]).length) kT]) Z Z (aV.later jt) Z W9 Z Z Z λ oE sr aV=>hK _ _ ?_;have:=jt.size;have nr:=pN.trans (Mod.bG jt);have:=sr.size;have x4:=nr.md sr (λ q I=> .inl (by rw [List.mem_singleton.1 I];exact List.mem_cons_self));have:=sr.size;refine fn λ zX gM=> ?_;have:=gM.size;have nu:=x4.trans (Mod.bG gM);refine ne<|bp .nil<| ?_;have u7:=u7.later jt;have u7:=u7.mod sr (λ q I h=>by have Φ:=List.mem_singleton.1 h;exfalso;(exact Or.elim (XT q I) (λ aaz=>by (exact hd q aaz Φ)) (λ aaz=>by omega)));have u7:=u7.later gM;have aV:=aV.later gM;exact ⟨TH,kT,Z,aV,u7,(λ q I=>(XT q I).imp id λ h=>by omega),nu⟩
theorem avE (b:Nat) (A:Option Addr) (n c aB:Nat) (l:List bU) (v0 v1 v2 v3 v4 v5:Value) (w:World) (aV:aK w b [v0,v1,v2,v3,v4,v5, .slice A n c] 265 (0,0)) (aN:bU.rep.aF 313 32 w aB (κ.af A) A c (l)) (cV:∀ y∈l,y.ok) (hn:l.length=n) (hd:∀ q∈κ.af A,q=b→False) (aE:0<n):
  Calls prog 267 #[.pointer (some ⟨b,6,none⟩)] w (λ e w'=>e= .returned (.iface 313 (.agg ((l.getD (n - 1) default).cells).toArray))∧aK w' b [v0,v1,v2,v3,v4,v5, .slice A (n - 1) c] 265 (0,0)∧bU.rep.aF 313 32 w' aB (κ.af A) A c (l.take (n - 1))∧Mod (b::κ.af A) w w'):=by
 have zQ:=λ q I=>(aN.lt q I).2;have uB:=aV.lt;have GF:=aN.has.2.1;have zb:=aN.has.ez;have GG:=aN.has.1;refine cv (n:=23) func267 Z Z Z ?_;refine aj<|va Z<|ah<|aj<|vm Z<|J (cn Z)<|J (ak Z (aV.one nF Z))<|va Z<|ah<|aj<|vm Z<|vm Z<|J (cW underlying263 Z)<|J (kB Z Z (bF (by omega)))<|J (bY (((n:Int) - 1).toNat) underlying263 mL Z Z (aN.has.bA (a8 (((n:Int) - 1).toNat) (by omega))) (by omega) (by omega))<|J (ak Z (κ.aH.ic Bq (aN.has.cL (a8 (((n:Int) - 1).toNat) (by omega))) (dO (l:=l) (u:=default) (by omega)) JT mL))<|al Z Xa Z Z λ dw bC bg eY ab=> ?_;have:=bg.size;have br:=(Mod.bM (b::κ.af A) w).trans (Mod.bG bg);have eZ:=ab.lt;refine st (new:= [.int .i64 ((l.getD (((n:Int) - 1).toNat) default).cell.x), .int .i64 ((l.getD (((n:Int) - 1).toNat) default).cell.y), .int .i64 ((l.getD (((n:Int) - 1).toNat) default).aT), .int .i64 ((l.getD (((n:Int) - 1).toNat) default).all)]) Z Z ab Z mL Z Z Z λ eB xz ab=> ?_;have:=xz.size;have bS:=br.md xz (λ q I=> .inr (by have:=List.mem_singleton.1 I;omega));have:=xz.size;refine ah<|aj<|vm Z<|vm Z<|vm Z<|J (cW underlying263 Z)<|J (kB Z Z (bF (by omega)))<|J (LZ (n - 1) (n - 1) underlying263 mL Z Z (by omega) (by omega) Z)<|J (cn Z)<| ?_;have aV:=aV.later bg;have aV:=aV.mod xz (bb (by omega));refine st (new:= [v0,v1,v2,v3,v4,v5, .slice A (n - 1) c]) Z Z aV Z W9 Z Z Z λ B' xx aV=> ?_;have:=xx.size;have n9:=bS.md xx (λ q I=> .inl (by rw [List.mem_singleton.1 I];exact List.mem_cons_self));have:=xx.size;refine ah<|aj<| ?_;have ab:=ab.mod xx (bb (by omega));refine J (ak Z (ab.all JT mL))<|J (LA (λ w=>by kernel_rfl) Z)<|va Z<|ah<|rt<|bp (.tmp Z .nil)<| ?_;have aN:=aN.later bg;have aN:=aN.mod xz (cj zQ (by omega));have aN:=aN.mod xx (λ q I h=>by have Φ:=List.mem_singleton.1 h;exfalso;(exact hd q I Φ));exact ⟨by rw [show ((n:Int) - 1).toNat=n - 1 by omega];rfl,aV,κ.aF.cut aN κ.dV (n - 1) (by omega),n9⟩
theorem avD (b:Nat) (A:Option Addr) (c aB:Nat) (l:List bU) (v0 v1 v2 v3 v4 v5:Value) (x:bU) (w:World) (aV:aK w b [v0,v1,v2,v3,v4,v5, .slice A l.length c] 265 (0,0)) (aN:bU.rep.aF 313 32 w aB (κ.af A) A c (l)) (cV:∀ y∈l,y.ok) (hd:∀ q∈κ.af A,q=b→False) (hx:x.ok) (KI:l.length≤1000000) (tJ:aB≤w.heap.size):
  Calls prog 218 #[.iface 311 (.pointer (some ⟨b,6,none⟩)), .iface 313 (.agg #[.int .i64 x.cell.x, .int .i64 x.cell.y, .int .i64 x.aT, .int .i64 x.all])] w (λ e w'=>∃ bH bW,e= .returned (.tuple #[])∧aK w' b [v0,v1,v2,v3,v4,v5, .slice bH (b8.push bU.all l x).length bW] 265 (0,0)∧bU.rep.aF 313 32 w' aB (κ.af bH) bH bW (b8.push bU.all l x)∧(∀ q∈κ.af bH,q∈κ.af A∨w.heap.size≤q)∧Mod (b::κ.af A) w w'):=by
 have zQ:=λ q I=>(aN.lt q I).2;have uB:=aV.lt;have GF:=aN.has.2.1;have zb:=aN.has.ez;have GG:=aN.has.1;refine cv (n:=12) func218 Z Z Z ?_;refine aj<|vm Z<|vm Z<|fW ajh Z Z (by unfold yi;kernel_rfl) Z ((avF b A c aB l v0 v1 v2 v3 v4 v5 x _ aV aN cV hd hx (by omega) tJ).mono ?_);rintro e qs ⟨cb,c1,rfl,hq,IX,y3,abf⟩;refine ⟨_,Z, ?_⟩;have:=abf.size;have c0:=(Mod.bM (b::κ.af A) w).md abf (λ q I=> .inl I);have ot:(l++ [x]).length=l.length+1:=by rw [List.length_append];rfl
 have at7:=λ q I=>(IX.lt q I).2;have aDD:=hq.lt;have YG:∀ q∈κ.af cb,q=b→False:=λ q I e=>(y3 q I).elim (λ h=>hd q h e) (λ h=>by omega);have K2:∀ y∈l++ [x],y.ok:=λ y aG=>(List.mem_append.1 aG).elim (cV y) λ h=>by rw [List.mem_singleton.1 h];exact hx
 refine ah<|rg<|vm Z<|vm Z<|fW FV Z Z (vJ (e:= 263) (by kernel_rfl) (hq.one nF Z)) Z ((Ic _ ((l++ [x]).length) _ _).mono ?_);rintro e avd ⟨rfl,rG⟩;refine ⟨_,Z, ?_⟩;have:=rG.size;have Tk:=c0.trans (Mod.bG rG);refine J (kB Z Z (bF (by omega)))<| ?_;have IX:=IX.later rG;have hq:=hq.later rG;refine ca ajp Z Z (((show Calls _ _ #[_, .int .i64 (((l++ [x]).length:Int) - 1)] _ _ from (by rw [show ((l++ [x]).length:Int) - 1=(l.length:Int) by rw [ot];omega];exact avG b cb (l++ [x]).length c1 aB (l++ [x]) v0 v1 v2 v3 v4 v5 l.length _ hq IX K2 rfl YG (by omega)))).mono ?_);rintro e eB ⟨rfl,d_,lT,abh⟩;refine ⟨_,Z, ?_⟩;have:=abh.size;have bS:=Tk.md abh (λ q I=>(y3 q I).imp (List.mem_cons_of_mem _) λ h=>by omega);refine nl<|ne<|bp .nil<| ?_;exact ⟨cb,c1,Z,by rw [show (b8.push bU.all l x).length=(l++ [x]).length by rw [b8.HL,ot]];exact d_,lT,y3,bS⟩
theorem avC (b:Nat) (A:Option Addr) (n c aB:Nat) (l:List bU) (v0 v1 v2 v3 v4 v5:Value) (w:World) (aV:aK w b [v0,v1,v2,v3,v4,v5, .slice A n c] 265 (0,0)) (aN:bU.rep.aF 313 32 w aB (κ.af A) A c (l)) (cV:∀ y∈l,y.ok) (hn:l.length=n) (hd:∀ q∈κ.af A,q=b→False) (aE:0<n) (KI:n≤1000000):
  Calls prog 220 #[.iface 311 (.pointer (some ⟨b,6,none⟩))] w (λ e w'=>e= .returned (.iface 313 (.agg (l.getD 0 default).cells.toArray))∧aK w' b [v0,v1,v2,v3,v4,v5, .slice A (b8.mo bU.all l).length c] 265 (0,0)∧bU.rep.aF 313 32 w' aB (κ.af A) A c (b8.mo bU.all l)∧Mod (b::κ.af A) w w'):=by
 have zQ:=λ q I=>(aN.lt q I).2;have uB:=aV.lt;have GF:=aN.has.2.1;have zb:=aN.has.ez;have GG:=aN.has.1;refine cv (n:=15) func220 Z Z Z ?_;refine aj<|va Z<|ah<|aj<|vm Z<|fW FV Z Z (vJ (e:= 263) (by kernel_rfl) (aV.one nF Z)) Z ((Ic _ n _ _).mono ?_);rintro e dw ⟨rfl,gG⟩;refine ⟨_,Z, ?_⟩;have:=gG.size;have br:=(Mod.bM (b::κ.af A) w).trans (Mod.bG gG);refine J (kB Z Z (bF (by omega)))<|va Z<|ah<|aj<|vm Z<|vm Z<| ?_;have aV:=aV.later gG;have aN:=aN.later gG;refine fW JZ Z Z (vJ (e:= 263) (by kernel_rfl) (aV.one nF Z)) Z ((MC _ _ _ _ l 0 ((n:Int) - 1) 0 (n - 1) _ aN cV (by omega) (by omega) (by omega) (by omega) (by omega)).mono ?_);rintro e adS ⟨rfl,afN,Re⟩;refine ⟨_,Z, ?_⟩;have:=Re.size;have Cx:=br.md Re (λ q I=> .inl (List.mem_cons_of_mem _ I));have Zm:∀ y∈b8.swp l 0 (n - 1),y.ok:=λ y aG=>cV y ((b8.zN (by omega) (by omega)).subset aG);have az7:(b8.swp l 0 (n - 1)).length=n:=by rw [b8.kF];omega
 refine ah<|aj<|vm Z<|vm Z<| ?_;have aV:=aV.mod Re (λ I=>hd _ I rfl);refine ca ajz Z Z (((show Calls _ _ #[_, .int .i64 0, .int .i64 ((n:Int) - 1)] _ _ from (by rw [show (n:Int) - 1=((n - 1:Nat):Int) by omega];exact avB b A n c aB (b8.swp l 0 (n - 1)) v0 v1 v2 v3 v4 v5 0 (n - 1) _ aV afN Zm (by omega) hd (by omega) (by omega) KI))).mono ?_);rintro e auR ⟨⟨aFD,rfl⟩,hq,U7,xz⟩;refine ⟨_,Z, ?_⟩;have:=xz.size;have S3:=Cx.md xz (λ q I=> .inl (List.mem_cons_of_mem _ I));have anq:∀ y∈b8.iA bU.all (n - 1) (b8.swp l 0 (n - 1)) 0,y.ok:=λ y aG=>Zm y ((b8.WY _ _ _ _ (Nat.le_refl _) (by omega) (by omega)).subset aG);have az8:(b8.iA bU.all (n - 1) (b8.swp l 0 (n - 1)) 0).length=n:=by rw [b8.WX _ _ _ _ (Nat.le_refl _)];omega
 have at7:=λ q I=>(U7.lt q I).2;refine ah<|aj<|vm Z<|fW ajI Z Z (by unfold yi;kernel_rfl) Z ((avE b A n c aB (b8.iA bU.all (n - 1) (b8.swp l 0 (n - 1)) 0) v0 v1 v2 v3 v4 v5 _ hq U7 anq (by omega) hd aE).mono ?_);rintro e Ca ⟨rfl,afl,afu,D0⟩;refine ⟨_,Z, ?_⟩;have:=D0.size;have pN:=S3.md D0 (λ q I=> .inl I);refine va Z<|ah<|rt<|bp (.tmp Z .nil)<| ?_;subst hn;exact ⟨by rw [← b8.abV (key:=bU.all) aE];rfl,by rw [b8.Ef];exact afl,afu,pN⟩
end
section
open Go.RowKit
theorem gD {a b:Bool} (h:a=b):Ending.returned (.bool a)= .returned (.bool b):=by rw [h]
theorem jR (w:World) (o:Obj):Below w.heap.size w (w.alloc o):=(Below.refl _ w).alloc (Nat.le_refl _) o
end
end Go.Proofs.YtlikikpgmmkjbaaGreat
