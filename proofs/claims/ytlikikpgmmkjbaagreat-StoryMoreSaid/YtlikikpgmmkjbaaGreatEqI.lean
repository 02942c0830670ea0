import Derived.Test.YtlikikpgmmkjbaaGreatGra
import Derived.Test.YtlikikpgmmkjbaaGreatGol
import Derived.Test.YtlikikpgmmkjbaaGreatCelK
import Derived.Test.YtlikikpgmmkjbaaGreatGolR
import Derived.Test.YtlikikpgmmkjbaaGreatBas
import Derived.Handy
set_option linter.unusedVariables false
set_option linter.unusedSimpArgs false
set_option maxRecDepth 100000
set_option maxHeartbeats 4000000
namespace Go.Proofs.YtlikikpgmmkjbaaGreat
section
open Go.RowKit Go.Maps
section
variable {w w':World} {b:Nat} {g:Cel→Int} {S:List Nat} {x:Cel} {st:Nat}
def MpL (w:World) (b:Nat) (l:List (Cel×Int×Nat)) (clk:Nat) (g:Cel→Int):Prop :=
 MapIs Cel.key w b l clk∧(∀ e∈l,e.1.ok)∧(l.map (·.1)).Nodup∧∀ y,(MapIs.get l y).getD 0=g y
def MapC (w:World) (b:Nat) (g:Cel→Int):Prop:=∃ l clk,MpL w b l clk g
def EntC (w:World) (b:Nat) (g:Cel→Int) (x:Cel) (st:Nat):Prop:=∃ l clk,MpL w b l clk g∧∃ (j:Nat) (v:Int),l[j]? =some (x,v,st)
theorem MapC.lt (h:MapC w b g):b<w.heap.size:=by obtain ⟨l,c,h,_⟩:=h;exact h.lt
theorem MpL.keep {l:List (Cel×Int×Nat)} {clk:Nat} (h:MpL w b l clk g) (hk:w'.heap[b]? =w.heap[b]?):MpL w' b l clk g:=⟨h.1.keep hk,h.2⟩
theorem MapC.keep (h:MapC w b g) (hk:w'.heap[b]? =w.heap[b]?):MapC w' b g:=by obtain ⟨l,c,h⟩:=h;exact ⟨l,c,h.keep hk⟩
theorem MapC.later (h:MapC w b g) (x:Ext w w'):MapC w' b g:=h.keep (x.block b h.lt)
theorem MapC.mod (h:MapC w b g) (m:Mod S w w') (hs:b∉S):MapC w' b g:=h.keep (m.block b h.lt hs)
theorem EntC.map (h:EntC w b g x st):MapC w b g:=by obtain ⟨l,c,h,_⟩:=h;exact ⟨l,c,h⟩
theorem EntC.lt (h:EntC w b g x st):b<w.heap.size:=h.map.lt
theorem EntC.keep (h:EntC w b g x st) (hk:w'.heap[b]? =w.heap[b]?):EntC w' b g x st:=by obtain ⟨l,c,h,h2⟩:=h;exact ⟨l,c,h.keep hk,h2⟩
theorem EntC.later (h:EntC w b g x st) (e:Ext w w'):EntC w' b g x st:=h.keep (e.block b h.lt)
theorem MapC.of_nil (h:MapI w b []):MapC w b λ _=>0:=by
 obtain ⟨es,c,h1,h2⟩:=h
 have:es.toList= []:=by
  cases he:es.toList with
  | nil=>rfl
  | cons a r=>rw [he] at h2;exact h2.elim
 have e:es=#[]:=by apply Array.ext';simpa using this
 subst e
 exact ⟨[],c,⟨by simpa using h1,by simp,by simp⟩,by simp,by simp,λ y=>rfl⟩
def RM (b:Nat) (g:Cel→Int) (w w':World):Prop:=Mod [b] w w'∧(MapC w b g→MapC w' b g)
theorem RM.of_ext (h:Ext w w'):RM b g w w':=⟨Mod.of_ext h,λ k=>k.later h⟩
theorem RM.trans {w1 w2:World} (h:RM b g w w1) (k:RM b g w1 w2):RM b g w w2:=⟨h.1.trans k.1,λ q=>k.2 (h.2 q)⟩
theorem setMap_mod {es:Array MapEntry} {clock:Nat}:Mod [b] w (setMap w b es clock):=
 ⟨rfl,rfl,rfl,by rw [setMap_size];exact Nat.le_refl _,λ k _ hn=>setMap_other (by simpa using hn)⟩
def upC (g:Cel→Int) (x:Cel) (v:Int):Cel→Int:=λ y=>if y=x then v else g y
end
section
variable {w:World} {b:Nat} {l:List (Cel×Int×Nat)} {clock:Nat} {g:Cel→Int}
theorem mapC_und:Tryz.prog.underlying 205 =some (.map 49 3):=by kernel_rfl
theorem mapC_lookup (h:MapC w b g) (x:Cel) (hx:x.ok):(Instr.lookup 205 (.map (some b)) (Cel.key x) false).run Tryz.prog w= .ok (.int .i64 (g x)) w:=by
 obtain ⟨l,c,h1,h2,h3,h4⟩:=h
 rw [← h4 x]
 exact (MapIs.lookup Cel.key_ok mapC_und (Tryz.zeroValue3 w) h1 h2 h3 x hx).1
theorem stamp_at {l:List (Cel×Int×Nat)} {j:Nat} {a:Cel×Int×Nat} (hm:(l.map (·.2.2)).Nodup) (hj:l[j]? =some a):((l.map (entOf Cel.key)).toArray).findIdx? (λ y=>((y.born:Nat):Int)== ((a.2.2:Nat):Int))=some j:=by
 rw [Go.WideElems.findIdx_arr]
 refine Go.WideElems.findIdx_born (l:=l.map (entOf Cel.key)) (j:=j) (e0:=entOf Cel.key a) ?_ (by rw [List.getElem?_map,hj];rfl)
 rw [List.map_map];exact hm
theorem mapC_entry (h:MapC w b g) (x:Cel) (hx:x.ok):∃ (st:Nat) (w':World),(Instr.mapEntry 205 (.map (some b)) (Cel.key x)).run Tryz.prog w= .ok (.tuple #[.int .i64 (g x), .int .i64 (st:Int)]) w'∧Mod [b] w w'∧EntC w' b g x st:=by
 obtain ⟨l,clock,h,hw,hn,hg⟩:=h
 obtain ⟨lx,hlx⟩:=Cel.key_ok.lit x hx
 have hb:=h.blk
 have hlt:=h.lt
 have ht:=mapC_und
 have hz:=Tryz.zeroValue3
 rcases MapIs.found Cel.key_ok h hw x hx with ⟨h1,h2,h3⟩ | ⟨j,v0,n0,h1,h2⟩
 ·have hgx:g x=0:=by rw [← hg x,h2];rfl
  have hput:MapIs.put l clock x 0=l++ [(x,0,clock)]:=by
   unfold MapIs.put
   rw [if_neg]
   intro ha
   obtain ⟨a,ha,hd⟩:=List.any_eq_true.1 ha
   exact h3 a ha (by simpa using hd)
  have hst:MpL (setMap w b ((l++ [(x,0,clock)]).map (entOf Cel.key)).toArray (clock+1)) b (l++ [(x,0,clock)]) (clock+1) g:=by
   refine ⟨⟨setMap_heap hlt,λ a ha=> ?_, ?_⟩,λ a ha=> ?_, ?_,λ y=> ?_⟩
   ·rcases List.mem_append.1 ha with ha | ha
    ·have:=h.born a ha;omega
    ·simp at ha;subst ha;simp
   ·rw [List.map_append,List.nodup_append]
    refine ⟨h.stamps,by simp,λ a ha c hc e=> ?_⟩
    simp at hc
    obtain ⟨y,hy,rfl⟩:=List.mem_map.1 ha
    have:=h.born y hy
    omega
   ·rcases List.mem_append.1 ha with ha | ha
    ·exact hw a ha
    ·simp at ha;subst ha;exact hx
   ·have:=MapIs.keys_put hn clock x 0
    rw [hput] at this;exact this
   ·have:=MapIs.get_put l clock x y 0
    rw [hput] at this
    rw [this]
    by_cases e:y=x
    ·rw [if_pos e,e,hgx];rfl
    ·rw [if_neg e];exact hg y
  refine ⟨clock,_, ?_,setMap_mod,⟨_,_,hst,l.length,0,by simp⟩⟩
  ·rw [hgx]
   have:(l.map (entOf Cel.key)).toArray.push (⟨Cel.key x, .int .i64 0,clock⟩:MapEntry)=((l++ [(x,0,clock)]).map (entOf Cel.key)).toArray:=by simp [entOf]
   simp [Instr.mapEntry,run_underlying ht,MapKept.run_getObj_map hb,Cel.key_ok.keyed.check w false hlx,h1,hz,MapKept.run_setObj_map _ hb,Result.andThen,setMap,Go.ChangeMaps.setBlock,goInt,entOf]
 ·have hgx:g x=v0:=by rw [← hg x,MapIs.get_of hn h2];rfl
  have hst:MpL (setMap w b (l.map (entOf Cel.key)).toArray clock) b l clock g:=⟨⟨setMap_heap hlt,h.born,h.stamps⟩,hw,hn,hg⟩
  refine ⟨n0,_, ?_,setMap_mod,⟨_,_,hst,j,v0,h2⟩⟩
  ·rw [hgx]
   have hj:(l.map (entOf Cel.key)).toArray[j]? =some (entOf Cel.key (x,v0,n0)):=by simp [h2]
   have hsame:(l.map (entOf Cel.key)).toArray.modify j (λ e=> {e with key:=Cel.key x})=(l.map (entOf Cel.key)).toArray:=by
    apply Array.ext'
    rw [Array.toList_modify,Go.ChangeMaps.modify_eq_set _ _ _ _ (by rw [List.getElem?_map,h2];rfl)]
    exact Go.WideElems.set_self _ _ _ (by rw [List.getElem?_map,h2];rfl)
   have hke:(entOf Cel.key (x,v0,n0)).key=Cel.key x:=rfl
   have hbo:(entOf Cel.key (x,v0,n0)).born=n0:=rfl
   simp only [Instr.mapEntry,Sem.run_bind,run_underlying ht,Result.andThen_ok,MapKept.run_getObj_map hb,Cel.key_ok.keyed.check w false hlx,h1,hj,Option.map_some,Option.getD_some,hke,Cel.key_ok.keyed.stays w hlx,hsame,MapKept.run_setObj_map _ hb,hbo,Sem.run_pure]
   rfl
theorem mapC_store {st:Nat} {x:Cel} (h:EntC w b g x st) (v:Int):∃ w',(Instr.entryStore 205 (.map (some b)) (.int .i64 (st:Int)) (.int .i64 v)).run Tryz.prog w= .ok () w'∧Mod [b] w w'∧MapC w' b (upC g x v):=by
 obtain ⟨l,clock,⟨h,hw,hn,hg⟩,j,v0,h2⟩:=h
 have hb:=h.blk
 have hlt:=h.lt
 have hidx:=stamp_at (a:=(x,v0,st)) h.stamps h2
 have hany:l.any (λ e=>decide (e.1=x))=true:=List.any_eq_true.2 ⟨_,List.mem_of_getElem? h2,by simp⟩
 have hset:MapIs.put l clock x v=l.set j (x,v,st):=by
  unfold MapIs.put
  rw [if_pos hany]
  refine List.ext_getElem? λ i=> ?_
  rw [List.getElem?_map]
  by_cases hij:j=i
  ·subst hij
   rw [h2,List.getElem?_set_self (List.getElem?_eq_some_iff.1 h2).1]
   simp
  ·rw [List.getElem?_set_ne hij]
   cases hi:l[i]? with
   | none=>rfl
   | some a =>
    have:a.1≠x:=by
     intro hax
     have e1:(l.map (·.1))[i]? =(l.map (·.1))[j]? :=by rw [List.getElem?_map,List.getElem?_map,hi,h2];simp [hax]
     have:=(List.getElem?_inj (by simpa using (List.getElem?_eq_some_iff.1 hi).1) hn).1 e1
     exact hij this.symm
    simp [this]
 have hmod:(l.map (entOf Cel.key)).toArray.modify j (λ e=> {e with val:=Value.int .i64 v})=((l.set j (x,v,st)).map (entOf Cel.key)).toArray:=by
  apply Array.ext'
  rw [Array.toList_modify,Go.ChangeMaps.modify_eq_set _ _ _ _ (by rw [List.getElem?_map,h2];rfl),List.map_set]
  rfl
 refine ⟨setMap w b ((l.set j (x,v,st)).map (entOf Cel.key)).toArray clock, ?_,setMap_mod,l.set j (x,v,st),clock,⟨setMap_heap hlt,λ a ha=> ?_, ?_⟩,λ a ha=> ?_, ?_,λ y=> ?_⟩
 ·rw [← hmod]
  simp only [Instr.entryStore,Sem.run_bind,MapKept.run_getObj_map hb,Result.andThen_ok,asInt,asIntOf,goInt,Sem.run_pure]
  rw [hidx]
  exact MapKept.run_setObj_map _ hb
 ·rcases List.mem_or_eq_of_mem_set ha with ha | ha
  ·exact h.born a ha
  ·rw [ha];exact h.born (x,v0,st) (List.mem_of_getElem? h2)
 ·rw [List.map_set]
  have:(l.map (·.2.2)).set j st=l.map (·.2.2):=by
   obtain ⟨hl1,hl2⟩:=List.getElem?_eq_some_iff.1 h2
   have e:(l.map (·.2.2))[j]'(by simpa using hl1)=st:=by rw [List.getElem_map,hl2]
   conv=>lhs;rw [← e]
   exact List.set_getElem_self _
  rw [this];exact h.stamps
 ·rcases List.mem_or_eq_of_mem_set ha with ha | ha
  ·exact hw a ha
  ·rw [ha];exact hw (x,v0,st) (List.mem_of_getElem? h2)
 ·have:=MapIs.keys_put hn clock x v
  rw [hset] at this;exact this
 ·have:=MapIs.get_put l clock x y v
  rw [hset] at this
  rw [this]
  unfold upC
  by_cases e:y=x
  ·rw [if_pos e,if_pos e];rfl
  ·rw [if_neg e,if_neg e];exact hg y
end
section
variable {n:Nat} {E E':List (Nat×Value)} {a:Act} {w w' w0 w1:World} {Q:Exit→Act→World→Prop} {ops:Array Oper}
variable {d:Option Nat} {ty:TypeId} {pos:String} {af:Array Edge} {gd:Option (Nat×Bool)} {x y z m:Operand} {rest:List Oper} {r st:Nat} {g:Cel→Int} {p:Cel} {v:Int}
theorem lkC (h:MapC w r g) (hk:p.ok) (hx:ev E m=some (.map (some r))) (hy:ev E y=some (Cel.key p)):
  Runs Tryz.prog E ⟨d, .lookup 205 m y false,ty,pos,af,gd⟩ w (.int .i64 (g p)) w:=λ n a ha=>by
 simp only [execOp,ha.ev hx,ha.ev hy,Sem.run_bind,mapC_lookup h p hk,Result.andThen_ok,Sem.run_pure]
theorem meC {d:Nat} (h:MapC w r g) (hk:p.ok) (hx:ev E m=some (.map (some r))) (hy:ev E y=some (Cel.key p)) (hd:Nat.blt d n=true)
  (hK:∀ w1 (st:Nat),Mod [r] w w1→EntC w1 r g p st→WL Tryz.prog n ops Q rest ((d, .tuple #[.int .i64 (g p), .int .i64 (st:Int)])::E) w1):WL Tryz.prog n ops Q (⟨some d, .mapEntry 205 m y,ty,pos,af,none⟩::rest) E w:=by
 obtain ⟨st,w1,h1,h2,h3⟩:=mapC_entry h p hk
 refine vl (w':=w1) (v:= .tuple #[.int .i64 (g p), .int .i64 (st:Int)]) (λ n a ha=> ?_) hd (hK _ st h2 h3)
 simp only [execOp,ha.ev hx,ha.ev hy,Sem.run_bind,h1,Result.andThen_ok,Sem.run_pure]
theorem esC (h:EntC w r g p st) (hx:ev E m=some (.map (some r))) (hy:ev E y=some (.int .i64 (st:Int))) (hz:ev E z=some (.int .i64 v))
  (hK:∀ w1,Mod [r] w w1→MapC w1 r (upC g p v)→WL Tryz.prog n ops Q rest E w1):WL Tryz.prog n ops Q (⟨none, .entryStore 205 m y z,ty,pos,af,none⟩::rest) E w:=by
 obtain ⟨w1,h1,h2,h3⟩:=mapC_store h v
 refine us (w':=w1) (λ n a ha=> ?_) (hK _ h2 h3)
 simp only [execOp,ha.ev hx,ha.ev hy,ha.ev hz,Sem.run_bind,h1,Result.andThen_ok,Sem.run_pure]
end
end
section
open Go.RowKit
def occ (T:List Trp) (c:Cel):Int:=((T.countP λ t=>decide (t.spot=c):Nat):Int)
theorem occ_le (T:List Trp) (c:Cel):0≤occ T c∧occ T c≤(T.length:Int):=⟨Int.natCast_nonneg _,Int.ofNat_le.2 List.countP_le_length⟩
theorem occ_snoc (T:List Trp) (t:Trp):occ (T++ [t])=upC (occ T) t.spot (occ T t.spot+1):=by
 funext y
 unfold occ upC
 rw [List.countP_append,List.countP_cons,List.countP_nil]
 by_cases e:y=t.spot
 ·subst e;simp
 ·have e':¬ t.spot=y:=λ h=>e h.symm
  rw [if_neg e];simp [e']
theorem take_snoc_d {α:Type} {T:List α} {k:Nat} {d:α} (h:k<T.length):T.take (k+1)=T.take k++ [T.getD k d]:=by
 rw [List.take_add_one,List.getElem?_eq_getElem h,List.getD_eq_getElem?_getD,List.getElem?_eq_getElem h];rfl
theorem occ_succ {T:List Trp} {k:Nat} (h:k<T.length):occ (T.take (k+1))=upC (occ (T.take k)) (T.getD k default).spot (occ (T.take k) (T.getD k default).spot+1):=by
 rw [take_snoc_d (d:=default) h,occ_snoc]
theorem countP_split {T:List Trp} {k:Nat} (h:k<T.length) (t:Trp) (c:Cel):
  ((T.countP λ t=>decide (t.spot=c):Nat):Int)=(((T.take k).countP λ t=>decide (t.spot=c):Nat):Int)+(if (T.getD k default).spot=c then 1 else 0)+(((T.drop (k+1)).countP λ t=>decide (t.spot=c):Nat):Int)∧
  (((T.set k t).countP λ t=>decide (t.spot=c):Nat):Int)=(((T.take k).countP λ t=>decide (t.spot=c):Nat):Int)+(if t.spot=c then 1 else 0)+(((T.drop (k+1)).countP λ t=>decide (t.spot=c):Nat):Int):=by
 have e:T=T.take k++T.getD k default::T.drop (k+1):=by
  conv=>lhs;rw [← List.take_append_drop k T,List.drop_eq_getElem_cons h]
  rw [List.getD_eq_getElem?_getD,List.getElem?_eq_getElem h];rfl
 constructor
 ·conv=>lhs;rw [e]
  rw [List.countP_append,List.countP_cons]
  by_cases hc:(T.getD k default).spot=c<;>simp only [hc,decide_true,decide_false,if_true,if_false]<;>simp<;>omega
 ·rw [List.set_eq_take_append_cons_drop,if_pos h,List.countP_append,List.countP_cons]
  by_cases hc:t.spot=c<;>simp only [hc,decide_true,decide_false,if_true,if_false]<;>simp<;>omega
theorem occ_set {T:List Trp} {k:Nat} (h:k<T.length) (t:Trp):
  occ (T.set k t)=upC (upC (occ T) (T.getD k default).spot (occ T (T.getD k default).spot - 1)) t.spot (upC (occ T) (T.getD k default).spot (occ T (T.getD k default).spot - 1) t.spot+1):=by
 obtain ⟨A,D,hA,hB⟩:∃ A D:Cel→Int,(∀ y,occ T y=A y+(if (T.getD k default).spot=y then 1 else 0)+D y)∧∀ y,occ (T.set k t) y=A y+(if t.spot=y then 1 else 0)+D y :=
  ⟨_,_,λ y=>(countP_split h t y).1,λ y=>(countP_split h t y).2⟩
 funext y
 unfold upC
 rw [hB y,hA y,hA t.spot,hA (T.getD k default).spot]
 generalize (T.getD k default).spot=a
 generalize t.spot=b
 by_cases e1:y=b
 ·subst e1
  by_cases e2:y=a
  ·subst e2;simp only [if_true,eq_self];omega
  ·have e3:¬ a=y:=λ h=>e2 h.symm
   simp only [if_true,e2,e3,if_false];omega
 ·have e4:¬ b=y:=λ h=>e1 h.symm
  by_cases e2:y=a
  ·subst e2;simp only [if_true,e1,e4,if_false];omega
  ·have e3:¬ a=y:=λ h=>e2 h.symm
   simp only [e1,e2,e3,e4,if_false]
theorem upC_le {g:Cel→Int} {n v:Int} {x:Cel} (h:∀ y,0≤g y∧g y≤n) (h1: -1≤v) (h2:v≤n) (y:Cel): -1≤upC g x v y∧upC g x v y≤n:=by
 unfold upC
 have:=h y
 split<;>omega
theorem occ_pos {T:List Trp} {c:Cel}:0<occ T c↔∃ t∈T,t.spot=c:=by
 unfold occ
 rw [Int.natCast_pos,List.countP_pos_iff]
 simp
def goK (l:List Gox) (id:Int):Int:=idxI (λ g=>g.id == id) l
theorem goK_cases (l:List Gox) (id:Int):goK l id= -1∧(∀ g∈l,g.id≠id)∨∃ k,k<l.length∧goK l id=(k:Int)∧(l.getD k default).id=id∧∀ j,j<k→(l.getD j default).id≠id:=by
 rcases idxI_cases (λ g=>g.id == id) l with ⟨h1,h2⟩ | ⟨k,hk,h1,h2,h3⟩
 ·exact .inl ⟨h1,λ g hg=>by simpa using h2 g hg⟩
 ·refine .inr ⟨k,hk,h1, ?_,λ j hj=> ?_⟩
  ·rw [List.getD_eq_getElem?_getD,List.getElem?_eq_getElem hk];simpa using h2
  ·rw [List.getD_eq_getElem?_getD,List.getElem?_eq_getElem (by omega)];simpa using h3 j hj
noncomputable def step1 (f:Fld) (l:List Gox) (T:List Trp) (k:Nat):Option Cel :=
 if goK l (T.getD k default).id<0 then none
 else if findE f (T.getD k default).spot (l.getD (goK l (T.getD k default).id).toNat default).to_≠0 then none
 else if (findP f (T.getD k default).spot (l.getD (goK l (T.getD k default).id).toNat default).to_).length<2 then none
 else if 0<occ T ((findP f (T.getD k default).spot (l.getD (goK l (T.getD k default).id).toNat default).to_).getD 1 default) then none
 else some ((findP f (T.getD k default).spot (l.getD (goK l (T.getD k default).id).toNat default).to_).getD 1 default)
def Trp.to_ (t:Trp) (c:Cel):Trp:= {t with spot:=c}
noncomputable def stS (f:Fld) (l:List Gox) (T:List Trp):Nat→List Trp×List Int
 | 0=>(T, [])
 | k+1=>match step1 f l (stS f l T k).1 k with
  | none=>stS f l T k
  | some c=>((stS f l T k).1.set k (((stS f l T k).1.getD k default).to_ c),(stS f l T k).2++ [((stS f l T k).1.getD k default).id])
theorem stS_none {f:Fld} {l:List Gox} {T U:List Trp} {M:List Int} {k:Nat} (h:stS f l T k=(U,M)) (hs:step1 f l U k=none):stS f l T (k+1)=(U,M):=by
 show (match step1 f l (stS f l T k).1 k with | none=>_ | some c=>_)=_
 rw [h];simp only [hs]
theorem stS_some {f:Fld} {l:List Gox} {T U:List Trp} {M:List Int} {k:Nat} {c:Cel} (h:stS f l T k=(U,M)) (hs:step1 f l U k=some c):stS f l T (k+1)=(U.set k ((U.getD k default).to_ c),M++ [(U.getD k default).id]):=by
 show (match step1 f l (stS f l T k).1 k with | none=>_ | some c=>_)=_
 rw [h];simp only [hs]
theorem stS_len {f:Fld} {l:List Gox} {T:List Trp}:∀ k,(stS f l T k).1.length=T.length∧(stS f l T k).2.length≤k
 | 0=>⟨rfl,Nat.le_refl _⟩
 | k+1=>by
  have ih:=stS_len (f:=f) (l:=l) (T:=T) k
  cases hs:step1 f l (stS f l T k).1 k with
  | none=>rw [stS_none rfl hs];exact ⟨ih.1,Nat.le_succ_of_le ih.2⟩
  | some c=>rw [stS_some rfl hs];exact ⟨by rw [List.length_set];exact ih.1,by rw [List.length_append,List.length_singleton];omega⟩
noncomputable def Wd.stepped (W:Wd) (l:List Gox):Wd×List Int:=({W with troops:=(stS W.field l W.troops W.troops.length).1},(stS W.field l W.troops W.troops.length).2)
end
section
open Go.RowKit
section
variable {bM:Nat} {gM:Cel→Int} {P:Program} {ops:Array Oper} {Q:Exit→Act→World→Prop} {kd:Nat→Nat}
def QInM (bM:Nat) (gM:Cel→Int) (P:Program) (ops:Array Oper) (w0:World) (o:Oper) (v:Value) (a:Act):Prop :=
  (Region.wanted o (yielded ops a.tmps)=true∧∀ w,RM bM gM w0 w→qUpon P w v ((execOp a.eval o).run P w))∨
  (Region.wanted o (yielded ops a.tmps)=false∧v=undef)
theorem QInM.of_same {w0:World} {o:Oper} {v:Value} {a a':Act} (h:QInM bM gM P ops w0 o v a) (he:execOp a'.eval o=execOp a.eval o) (hw:Region.wanted o (yielded ops a'.tmps)=Region.wanted o (yielded ops a.tmps)):QInM bM gM P ops w0 o v a':=by
  unfold QInM at *;rw [he,hw];exact h
theorem QInM.on {w0 w1:World} {o:Oper} {v:Value} {a:Act} (h:QInM bM gM P ops w0 o v a) (hx:RM bM gM w0 w1):QInM bM gM P ops w1 o v a :=
  h.imp (λ ⟨h1,h2⟩=>⟨h1,λ w hw=>h2 w (hx.trans hw)⟩) id
theorem Yields.qinM {w0:World} {o:Oper} {v:Value} {a:Act} (h:Yields P ops o v a):QInM bM gM P ops w0 o v a :=
  h.imp (λ ⟨h1,h2⟩=>⟨h1,λ w _=>by rw [h2 w];exact ⟨rfl,rfl⟩⟩) id
def stepFM (bM:Nat) (gM:Cel→Int) (P:Program) (ops:Array Oper) (Q:Exit→Act→World→Prop) (kd:Nat→Nat) (i:Nat) (K:Act→World→Prop) (a:Act) (w0:World):Prop :=
  ∃ o,ops[i]? =some o∧
    ((kd i≤1∧∃ v,QInM bM gM P ops w0 o v a∧K (a.put o.dst v) w0)∨
     (1<kd i∧∀ w,Ext w0 w→wpOp P ops Q i (λ a' w'=>(kd i=2→RM bM gM w0 w')∧K a' w') a w))
def anyFM (bM:Nat) (gM:Cel→Int) (P:Program) (ops:Array Oper) (Q:Exit→Act→World→Prop) (kd:Nat→Nat):Nat→Array Bool→Act→World→Prop
  | 0,l,a,w0=>Region.ready .any ops l= []∧∀ w,Ext w0 w→Q .normal a w
  | f+1,l,a,w0=>(Region.ready .any ops l= []→∀ w,Ext w0 w→Q .normal a w)∧∀ i∈Region.ready .any ops l,stepFM bM gM P ops Q kd i (anyFM bM gM P ops Q kd f (l.setIfInBounds i true)) a w0
theorem any_of_FM:∀ (f:Nat) (l:Array Bool) (a:Act) (w0:World),anyFM bM gM P ops Q kd f l a w0→∀ w,Ext w0 w→wpAny P .any ops Q f l a w
  | 0,_,_,_,h,w,hw=>⟨h.1,h.2 w hw⟩
  | f+1,l,a,w0,h,w,hw=>⟨λ h0=>h.1 h0 w hw,λ i hi=>by
      obtain ⟨o,ho,h2⟩:=h.2 i hi
      rcases h2 with ⟨_,v,hq,hk⟩ | ⟨_,h2⟩
      · unfold wpOp
        simp only [ho]
        rcases hq with ⟨hw1,hq⟩ | ⟨hw1,rfl⟩
        · rw [if_pos hw1]
          refine .inl ?_
          have hq:=hq w (RM.of_ext hw)
          unfold Oper.wp
          generalize (execOp a.eval o).run P w=r at *
          cases r with
          | ok n w' =>
            cases n<;>simp only [qUpon] at hq<;>simp only [Oper.upon]
            case value u=>obtain ⟨rfl,rfl⟩:=hq;exact any_of_FM f _ _ _ hk _ hw
            case skip=>obtain ⟨rfl,rfl⟩:=hq;exact any_of_FM f _ _ _ hk _ hw
            case enter f' args=>obtain ⟨rfl,hc⟩:=hq;exact hc.mono λ e w'' ⟨he,hx⟩=>by subst he;exact any_of_FM f _ _ _ hk _ (hw.tr hx)
          | halt x w'=>simp only [qUpon] at hq
        · rw [if_neg (by rw [hw1];decide)]
          exact any_of_FM f _ _ _ hk _ hw
      · exact wpOp_mono (λ a' w' h3=>any_of_FM f _ _ _ h3.2 _ (Ext.rf w')) (h2 w hw)⟩
theorem firstFM {i:Nat} {oi:Oper} {v:Value} (hi:ops[i]? =some oi) (hk:kd i≤1) (hsel:∀ (j:Nat) (o:Oper) cs b,ops[j]? =some o→o.op≠ .select cs b)
    (hQ:∀ c a w,¬ Q (.panic c) a w) (Z:World→Act→Prop) (z1:∀ w0 a,Z w0 a→QInM bM gM P ops w0 oi v a)
    (z2:∀ w0 a a',Z w0 a→execOp a'.eval oi=execOp a.eval oi→Region.wanted oi (yielded ops a'.tmps)=Region.wanted oi (yielded ops a.tmps)→Z w0 a')
    (z3:∀ w0 w1 a,RM bM gM w0 w1→Z w0 a→Z w1 a) (R:Nat→Bool) (l0:Array Bool)
    (hR:∀ j oj,ops[j]? =some oj→j≠i→(∀ e∈oj.after,Region.binds .any e=true→R e.on=true)→R j=true)
    (hB:(∀ w0 w1 a,Z w0 a→Z w1 a)∨∀ j,R j=true→3≤kd j→l0.getD j true=true):
    ∀ (f:Nat) (l:Array Bool) (a:Act) (w0:World),(∀ j,l.getD j false=true→R j=true)→(∀ j,l0.getD j true=true→l.getD j true=true)→
      (∀ j oj,ops[j]? =some oj→j≠i→l.getD j true=false→(∀ e∈oj.after,Region.binds .any e=true→e.on≠i)→oi.apart ops oj=true)→
      i∈Region.ready .any ops l→Z w0 a→anyFM bM gM P ops Q kd f (l.setIfInBounds i true) (a.put oi.dst v) w0→anyFM bM gM P ops Q kd (f+1) l a w0:=by
  intro f
  induction f with
  | zero =>
    intro l a w0 _ _ _ hr hz H
    refine ⟨λ h=>(by rw [h] at hr;cases hr),λ j hj=> ?_⟩
    by_cases hji:j=i
    · subst hji;exact ⟨oi,hi, .inl ⟨hk,v,z1 _ _ hz,H⟩⟩
    · have:=ready_mono hj hji
      rw [H.1] at this
      cases this
  | succ f ih =>
    intro l a w0 hlR hl0 hfree hr hz H
    refine ⟨λ h=>(by rw [h] at hr;cases hr),λ j hj=> ?_⟩
    by_cases hji:j=i
    · subst hji;exact ⟨oi,hi, .inl ⟨hk,v,z1 _ _ hz,H⟩⟩
    · obtain ⟨oj,hoj,h1⟩:=H.2 j (ready_mono hj hji)
      obtain ⟨hjun,oj',hoj',hall⟩:=mem_ready.1 hj
      obtain rfl:oj'=oj:=by rw [hoj] at hoj';exact (Option.some.inj hoj').symm
      have hnot:∀ e∈oj'.after,Region.binds .any e=true→e.on≠i:=λ e he hb heq=>by
        have h1:=hall e he hb
        have h0:=(mem_ready.1 hr).1
        rw [heq] at h1
        rcases Nat.lt_or_ge i l.size with h' | h'
        · simp [h'] at h0 h1;rw [h0] at h1;cases h1
        · simp [Array.getElem?_eq_none h'] at h1
      have hap:=hfree j oj' hoj hji hjun hnot
      obtain ⟨a1,a2,a3⟩:=Oper.apart_spec hap
      have hsi:∀ cs b,oi.op≠ .select cs b:=λ cs b=>hsel i oi cs b hi
      have hsj:∀ cs b,oj'.op≠ .select cs b:=λ cs b=>hsel j oj' cs b hoj
      have keep:∀ w1 a u,Z w1 a→Z w1 (a.put oj'.dst u):=λ w1 a u hz=>z2 _ _ _ hz (execOp_put oi hsi a oj'.dst u a3) (wanted_put oi a oj'.dst u a3)
      have hRj:R j=true:=hR j oj' hoj hji λ e he hb=>hlR _ (hall e he hb)
      have hlR':∀ k,(l.setIfInBounds j true).getD k false=true→R k=true:=λ k hk=>by
        by_cases hjk:j=k
        · rw [← hjk];exact hRj
        · rw [getD_set_ne false hjk] at hk;exact hlR k hk
      have hl0':∀ k,l0.getD k true=true→(l.setIfInBounds j true).getD k true=true:=λ k hk=>by
        by_cases hjk:j=k
        · subst hjk
          rcases Nat.lt_or_ge j l.size with h' | h'
          · simp [h']
          · simp [Array.getElem?_eq_none h']
        · rw [getD_set_ne true hjk];exact hl0 k hk
      have hfree':∀ k ok,ops[k]? =some ok→k≠i→(l.setIfInBounds j true).getD k true=false→
          (∀ e∈ok.after,Region.binds .any e=true→e.on≠i)→oi.apart ops ok=true:=λ k ok hk hki hun hno=>by
        refine hfree k ok hk hki ?_ hno
        by_cases hjk:j=k
        · subst hjk;exact hjun
        · rw [getD_set_ne true hjk] at hun;exact hun
      have hri:=ready_mono hr (Ne.symm hji)
      rcases h1 with ⟨hkj,u,hq,hK⟩ | ⟨hkj,h1⟩
      · refine ⟨oj',hoj, .inl ⟨hkj,u,hq.of_same (execOp_put oj' hsj a oi.dst v a1).symm (wanted_put oj' a oi.dst v a1).symm, ?_⟩⟩
        refine ih _ _ _ hlR' hl0' hfree' hri (keep _ _ _ hz) ?_
        rw [Array.setIfInBounds_comm _ _ hji,← Act.put_comm a v u a2]
        exact hK
      · refine ⟨oj',hoj, .inr ⟨hkj,λ w hw=> ?_⟩⟩
        refine wpOp_mono (λ a' w' h3=>⟨h3.2.1, ?_⟩) (wpOp_putZ (Z:=Z w0) hoj a1 a2 hsj hQ (keep w0) (λ a d hz=>z2 _ _ _ hz rfl rfl) hz (h1 w hw))
        have hzw:Z w' a':=by
          rcases Nat.lt_or_ge (kd j) 3 with hlt | hge
          · exact z3 _ _ _ (h3.2.1 (by omega)) h3.1
          · rcases hB with hB | hB
            · exact hB _ _ _ h3.1
            · have:=hl0 j (hB j hRj hge);rw [hjun] at this;cases this
        refine ih _ _ _ hlR' hl0' hfree' hri hzw ?_
        rw [Array.setIfInBounds_comm _ _ hji]
        exact h3.2.2
def wpFlowM (bM:Nat) (gM:Cel→Int) (P:Program) (ops:Array Oper) (Q:Exit→Act→World→Prop) (kd:Nat→Nat):List Nat→Act→World→Prop
  | [],a,w0=>∀ w,Ext w0 w→Q .normal a w
  | i::r,a,w0=>∃ o,ops[i]? =some o∧
      ((kd i=0∧∃ v,QInM bM gM P ops w0 o v a∧wpFlowM bM gM P ops Q kd r (a.put o.dst v) w0)∨
       (kd i=1∧∃ v,Yields P ops o v a∧wpFlowM bM gM P ops Q kd r (a.put o.dst v) w0)∨
       (1<kd i∧∀ w,Ext w0 w→wpOp P ops Q i (λ a' w'=>(kd i=2→RM bM gM w0 w')∧wpFlowM bM gM P ops Q kd r a' w') a w))
theorem any_of_flowM (hs:Region.noSelect ops=true) (hQ:∀ c a w,¬ Q (.panic c) a w):∀ (r:List Nat) (l:Array Bool) (a:Act) (w0:World),l.size=ops.size→flowB ops kd r l=true→wpFlowM bM gM P ops Q kd r a w0→anyFM bM gM P ops Q kd r.length l a w0
  | [],l,a,w0,_,hB,h=>⟨by simpa [flowB] using hB,h⟩
  | i::r,l,a,w0,hl,hB,h=>by
    obtain ⟨o,ho,h⟩:=h
    have hsel:=Region.noSelect_spec hs
    rcases h with ⟨hk,v,hq,hK⟩ | ⟨hk,v,hq,hK⟩ | ⟨hk,h⟩
    · simp only [flowB,hk,Bool.and_eq_true] at hB
      obtain ⟨⟨⟨hf,hr⟩,hb⟩,hB⟩:=hB
      obtain ⟨R,r1,r2,r3⟩:=barOk_spec hl hb
      exact firstFM ho (by omega) hsel hQ (λ w0 a=>QInM bM gM P ops w0 o v a) (λ _ _ h=>h) (λ _ _ _ h he hw=>h.of_same he hw) (λ _ _ _ hx h=>h.on hx) R l r1 (.inr r3) _ _ _ _ r2 (λ _ h=>h) (Region.free_spec ho hf) (by simpa using hr) hq
        (any_of_flowM hs hQ r _ _ _ (by simpa using hl) hB hK)
    · simp only [flowB,hk,Bool.and_eq_true] at hB
      obtain ⟨⟨hf,hr⟩,hB⟩:=hB
      exact firstFM ho (by omega) hsel hQ (λ _ a=>Yields P ops o v a) (λ _ _ h=>Yields.qinM h) (λ _ _ _ h he hw=>h.of_same he hw) (λ _ _ _ _ h=>h) (λ _=>true) l (λ _ _ _ _ _=>rfl) (.inl λ _ _ _ h=>h) _ _ _ _ (λ _ _=>rfl) (λ _ h=>h) (Region.free_spec ho hf) (by simpa using hr) hq
        (any_of_flowM hs hQ r _ _ _ (by simpa using hl) hB hK)
    · obtain ⟨k,hk2⟩:∃ k,kd i=k+2:=⟨kd i - 2,by omega⟩
      simp only [flowB,hk2,Bool.and_eq_true,beq_iff_eq] at hB
      obtain ⟨hr,hB⟩:=hB
      refine ⟨λ h0=>(by rw [hr] at h0;cases h0),λ j hj=> ?_⟩
      rw [hr] at hj
      obtain rfl:j=i:=by simpa using hj
      exact ⟨o,ho, .inr ⟨hk,λ w hw=>wpOp_mono (λ a' w' h3=>⟨h3.1,any_of_flowM hs hQ r _ _ _ (by simpa using hl) hB h3.2⟩) (h w hw)⟩⟩
theorem region_flowM {id:Nat} {a:Act} {w:World} (τ:List Nat) (hm:P.follows .mixedOrders=true) (hB:(Region.noSelect ops && (τ.length == ops.size) && flowB ops kd τ (Array.replicate ops.size false))=true)
    (h:wpFlowM bM gM P ops (nrm (Q .normal)) kd τ a w):(Code.region id ops true).wp P Q a w:=by
  simp only [Bool.and_eq_true,beq_iff_eq] at hB
  obtain ⟨⟨hs,hl⟩,hB⟩:=hB
  refine wp_mono (wp_region_any hm (Q:=nrm (Q .normal)) ?_) (λ e a w hq=>by cases e<;>first | exact hq | exact hq.elim)
  have:=any_of_flowM (P:=P) hs (Q:=nrm (Q .normal)) (λ _ _ _ h=>h) τ (Array.replicate ops.size false) a w (by simp) hB h
  rw [hl] at this
  exact any_of_FM _ _ _ _ this _ (Below.refl _ w).drew
end
section
variable {bM:Nat} {gM:Cel→Int} {P:Program} {n:Nat} {E E':List (Nat×Value)} {a:Act} {w w' w0 w1:World} {Q:Exit→Act→World→Prop} {ops:Array Oper} {v:Value} {kd:Nat→Nat}
variable {d:Option Nat} {ty:TypeId} {pos:String} {af:Array Edge} {g:Option (Nat×Bool)} {x y z:Operand} {t:TypeId} {rest:List Oper} {τ:List Nat} {i:Nat}
def FLM (bM:Nat) (gM:Cel→Int) (P:Program) (n:Nat) (ops:Array Oper) (Q:Exit→Act→World→Prop) (kd:Nat→Nat) (τ:List Nat) (E:List (Nat×Value)) (w0:World):Prop:=∀ a,Agr n E a→wpFlowM bM gM P ops (nrm (Q .normal)) kd τ a w0
theorem rdM {id:Nat} (bM:Nat) (gM:Cel→Int) (ks:List (Nat×Nat)) (τ:List Nat) (hm:P.follows .mixedOrders=true) (hB:(Region.noSelect ops && (τ.length == ops.size) && flowB ops (kds ks) τ (Array.replicate ops.size false))=true)
    (h:FLM bM gM P n ops Q (kds ks) τ E w):W P n (.region id ops true) Q E w:=λ a ha=>region_flowM τ hm hB (h a ha)
theorem fnM (h:∀ w,Ext w0 w→N n Q E w):FLM bM gM P n ops Q kd [] E w0:=λ a ha w hw=>h w hw a ha
theorem fqM {d:Nat} {op:Op} (hi:ops[i]? =some ⟨some d,op,ty,pos,af,none⟩) (hk:kd i=0) (hr:∀ w,RM bM gM w0 w→Runs P E ⟨some d,op,ty,pos,af,none⟩ w v w) (hd:Nat.blt d n=true)
    (h:FLM bM gM P n ops Q kd τ ((d,v)::E) w0):FLM bM gM P n ops Q kd (i::τ) E w0:=λ a ha =>
  ⟨_,hi, .inl ⟨hk,v, .inl ⟨wanted_none rfl,λ w hw=>by rw [hr w hw n a ha];exact ⟨rfl,rfl⟩⟩,h _ (ha.put hd v)⟩⟩
theorem fwM {d:Nat} {op:Op} (hi:ops[i]? =some ⟨some d,op,ty,pos,af,none⟩) (hk:kd i=1) (hr:∀ w,Runs P E ⟨some d,op,ty,pos,af,none⟩ w v w) (hd:Nat.blt d n=true)
    (h:FLM bM gM P n ops Q kd τ ((d,v)::E) w0):FLM bM gM P n ops Q kd (i::τ) E w0:=λ a ha =>
  ⟨_,hi, .inr (.inl ⟨hk,v, .inl ⟨wanted_none rfl,λ w=>hr w n a ha⟩,h _ (ha.put hd v)⟩)⟩
theorem fxM {o:Oper} (hg:o.guard=none) (hi:ops[i]? =some o) (hk:kd i=2) (h:∀ w,Ext w0 w→Stp P n ops o E w λ E' w'=>RM bM gM w0 w'∧FLM bM gM P n ops Q kd τ E' w'):FLM bM gM P n ops Q kd (i::τ) E w0:=λ a ha =>
  ⟨_,hi, .inr (.inr ⟨by omega,λ w hw=>stp_op hg hi (h w hw) (λ E' w' a' hk ha'=>⟨λ _=>hk.1,hk.2 a' ha'⟩) ha⟩)⟩
theorem fbM {o:Oper} (hg:o.guard=none) (hi:ops[i]? =some o) (hk:kd i=3) (h:∀ w,Ext w0 w→Stp P n ops o E w λ E' w'=>FLM bM gM P n ops Q kd τ E' w'):FLM bM gM P n ops Q kd (i::τ) E w0:=λ a ha =>
  ⟨_,hi, .inr (.inr ⟨by omega,λ w hw=>stp_op hg hi (h w hw) (λ E' w' a' hk ha'=>⟨λ h2=>by omega,hk a' ha'⟩) ha⟩)⟩
end
end
section
open Go.RowKit
theorem part_set {β:Type} {cur old part:List β} {p s j:Nat} (ho:old.length=s) (hj:j+part.length≤s) (hc:p+s≤cur.length) (h:∀ m,m<s→cur[p+m]? =old[m]?):
  cur.take p++(old.take j++part++old.drop (j+part.length))++cur.drop (p+(old.take j++part++old.drop (j+part.length)).length)=cur.take (p+j)++part++cur.drop (p+j+part.length):=by
 have hl:(old.take j++part++old.drop (j+part.length)).length=s:=by simp only [List.length_append,List.length_take,List.length_drop];omega
 rw [hl]
 apply List.ext_getElem?
 intro k
 by_cases h1:k<p
 ·rw [List.append_assoc,List.getElem?_append_left (by rw [List.length_take];omega),List.append_assoc,List.getElem?_append_left (by rw [List.length_take];omega),List.getElem?_take,List.getElem?_take,if_pos h1,if_pos (by omega)]
 ·by_cases h2:k<p+s
  ·rw [List.append_assoc,List.getElem?_append_right (by rw [List.length_take];omega),List.getElem?_append_left (by rw [hl,List.length_take];omega),List.length_take]
   obtain ⟨m,rfl⟩:∃ m,k=p+m:=⟨k - p,by omega⟩
   rw [show p+m - min p cur.length=m from by omega]
   by_cases h3:m<j
   ·rw [List.append_assoc,List.getElem?_append_left (by rw [List.length_take];omega),List.append_assoc,List.getElem?_append_left (by rw [List.length_take];omega),List.getElem?_take,List.getElem?_take,if_pos h3,if_pos (by omega),h m (by omega)]
   ·by_cases h4:m<j+part.length
    ·rw [List.append_assoc,List.getElem?_append_right (by rw [List.length_take];omega),List.getElem?_append_left (by rw [List.length_take];omega),List.append_assoc,List.getElem?_append_right (by rw [List.length_take];omega),List.getElem?_append_left (by rw [List.length_take];omega),List.length_take,List.length_take]
     congr 1;omega
    ·rw [List.getElem?_append_right (by simp only [List.length_append,List.length_take];omega),List.getElem?_drop,List.getElem?_append_right (by simp only [List.length_append,List.length_take];omega),List.getElem?_drop]
     simp only [List.length_append,List.length_take]
     rw [show p+j+part.length+(p+m - (min (p+j) cur.length+part.length))=p+m from by omega,h m (by omega)]
     congr 1;omega
  ·rw [List.getElem?_append_right (by simp only [List.length_append,List.length_take,List.length_drop];omega),List.getElem?_drop,List.getElem?_append_right (by simp only [List.length_append,List.length_take];omega),List.getElem?_drop]
   simp only [List.length_append,List.length_take,List.length_drop]
   congr 1;omega
section
variable {P:Program} {n:Nat} {E E':List (Nat×Value)} {a:Act} {w w' w0 w1:World} {Q:Exit→Act→World→Prop} {ops:Array Oper} {v:Value}
variable {d:Option Nat} {ty:TypeId} {pos:String} {af:Array Edge} {g:Option (Nat×Bool)} {x y z:Operand} {t:TypeId} {rest:List Oper}
theorem soP {α:Type} {R:Rep α} {e by_ B i j:Nat} {A:Option Addr} {c:Nat} {l:List α} {q q':α} {p:Addr} {old part es:List Value} (h:R.SOwn e by_ w B (Rep.blkOf A) A c l) (hR:R.Bare) (hi:l[i]? =some q) (hold:∀ {w cs},R.has w cs q→cs=old) (hx:ev E x=some (.pointer (some p))) (hp:p=⟨bA A,oA A+i * R.size+j,none⟩) (hy:ev E y=some v) (hc:v.cells=part.toArray)
  (hj:Nat.ble (j+part.length) R.size=true) (hes:es=old.take j++part++old.drop (j+part.length)) (hq:∀ w,R.has w es q') (hs:Sz P t part.length)
  (hk:∀ w1,Mod (Rep.blkOf A) w w1→R.SOwn e by_ w1 B (Rep.blkOf A) A c (l.set i q')→WL P n ops Q rest E w1):WL P n ops Q (⟨none, .store t x y,ty,pos,af,none⟩::rest) E w:=by
 have hil:i<l.length:=(List.getElem?_eq_some_iff.1 hi).1
 obtain ⟨b,rfl⟩:=h.block (by omega)
 have hp':p=⟨b,i * R.size+j,none⟩:=by rw [hp];simp [bA,oA]
 subst hp'
 obtain ⟨_,ps,_,_,ho,_⟩:=id h
 obtain ⟨cur,hcur,_,_⟩:=ho.cells_at
 obtain ⟨hset,hle⟩:=Rep.SOwn.setE (q':=q') h hR hil hq hcur
 obtain ⟨b',o',hb',hat⟩:=h.has.at_ (by omega)
 injection hb' with hb'
 injection hb' with hb1 hb2
 subst hb1 hb2
 obtain ⟨es0,he0,hcell⟩:=hat i q hi
 obtain rfl:=hold he0
 have hlo:es0.length=R.size:=R.len he0
 have hle':es.length=R.size:=R.len (hq w)
 have hj':=Nat.le_of_ble_eq_true hj
 have hcm:∀ m,m<R.size→cur.toList[i * R.size+m]? =es0[m]? :=λ m hm=>by
  have hu:es0[m]? =some es0[m]:=List.getElem?_eq_getElem (by omega)
  have:=hcell m es0[m] hu
  rw [hu]
  simpa [World.cell?,hcur] using this
 have hrow:=part_set (cur:=cur.toList) (old:=es0) (part:=part) (p:=i * R.size) (s:=R.size) (j:=j) hlo hj' (by rw [hle'] at hle;exact hle) hcm
 have hone:part.all (·.oneCell')=true:=List.all_eq_true.2 λ u hu=>R.one (hq w) u (by rw [hes];simp [hu])
 have hst:=run_storeVar (P:=P) (w:=w) (b:=b) (p:=i * R.size+j) (cur:=cur.toList) (e:=e) (by simpa [Blk] using hcur) hc hs hone (by rw [hle'] at hle;omega)
 rw [← hrow,← hes] at hst
 refine us (λ n a ha=> ?_) (hk _ (Mod.setRow w b _) hset)
 simp only [execOp,ha.ev hx,ha.ev hy,Instr.storeAt,Instr.sureAddr,Sem.run_bind,Sem.run_pure,Result.andThen_ok,hst]
end
end
section
open Go.RowKit
section
variable {P:Program} {n:Nat} {E:List (Nat×Value)} {w w':World} {Q:Exit→Act→World→Prop} {ops:Array Oper} {ty:TypeId} {pos:String} {af:Array Edge} {rest:List Oper} {x y z:Operand} {t u:TypeId} {v rv:Value} {d:Option Nat} {g:Option (Nat×Bool)}
def Meth (P:Program) (w:World) (t:TypeId) (v:Value) (name:String) (f:FuncId) (rv:Value):Prop:=(Go.method (P.types.size+Made.depth) t v name).run P w= .ok (f,rv) w
theorem run_inv {f:FuncId} {name:String} (hf:Enters P f) {xs:Array Operand} {ts:Array TypeId} {args:List Value} {a:Act} (ha:Agr n E a) (hr:ev E x=some (.iface t v)) (he:evs E xs.toList=some args) (hm:Meth P w t v name f rv):
  (execOp a.eval ⟨d, .call {callee:= .invoke x name,args:=xs,argTypes:=ts},ty,pos,af,g⟩).run P w= .ok (.enter f (rv::args).toArray) w:=by
 obtain ⟨fn,h1,h2,h3⟩:=hf
 have hx:xs.map a.eval=args.toArray:=by rw [← ha.evs he];apply Array.ext';simp
 unfold Meth at hm
 have e0:(#[(Value.iface t v)]++args.toArray)[0]? =some (.iface t v):=by simp
 have e1:(#[(Value.iface t v)]++args.toArray).extract 1 (#[(Value.iface t v)]++args.toArray).size=args.toArray:=by simp
 have e2:#[rv]++args.toArray=(rv::args).toArray:=by simp
 have hp:Sem.run P program w= .ok P w:=rfl
 simp only [execOp,resolve,hx,ha.ev hr,Sem.run_bind,Sem.run_pure,Result.andThen_ok,invoke,e0,e1,callMethod,callFunc,hp,hm,h1,h2,h3,e2,Bool.false_eq_true,if_false]
theorem iv {d:Nat} {f:FuncId} {name:String} (hf:Enters P f) {xs:Array Operand} {ts:Array TypeId} {args:List Value} (hr:ev E x=some (.iface t v)) (he:evs E xs.toList=some args) (hm:Meth P w t v name f rv) (hd:Nat.blt d n=true)
  (h:Calls P f (rv::args).toArray w λ e w'=>∃ v,e= .returned v∧WL P n ops Q rest ((d,v)::E) w'):WL P n ops Q (⟨some d, .call {callee:= .invoke x name,args:=xs,argTypes:=ts},ty,pos,af,none⟩::rest) E w:=λ a ha=>by
 refine WL_one rfl ?_
 unfold Oper.wp
 rw [run_inv hf ha hr he hm]
 refine Calls.mono h λ e w' hh=> ?_
 obtain ⟨v,rfl,h⟩:=hh
 exact h _ (ha.put hd v)
theorem ivC {d:Nat} {f:FuncId} {name:String} {xs:Array Operand} {ts:Array TypeId} {args:List Value} {j:Nat} {q b c:Bool} {oj:Oper} {dj:Nat} {v0:Value} (hj:ops[j]? =some oj) (hdj:oj.dst=some dj) (hb:look E dj=some (.bool b)) (hc:(b == q)=c)
  (hf:Enters P f) (hx:c=true→ev E x=some (.iface t v0)) (he:c=true→evs E xs.toList=some args) (hm:Meth P w t v0 name f rv) (hr:c=true→Calls P f (rv::args).toArray w λ e w'=>e= .returned v∧Ext w w') (hd:Nat.blt d n=true)
  (h:∀ w',Ext w w'→WL P n ops Q rest ((d,gv c v)::E) w'):WL P n ops Q (⟨some d, .call {callee:= .invoke x name,args:=xs,argTypes:=ts},ty,pos,af,some (j,q)⟩::rest) E w :=
 wl_if (c:=c) (λ a ha=>by rw [wanted_some (o:=⟨some d,_,ty,pos,af,some (j,q)⟩) rfl hj hdj hb ha,hc])
  (λ hc a ha=>by unfold Oper.wp;rw [run_inv hf ha (hx hc) (he hc) hm];exact (hr hc).mono λ e w' ⟨h1,hxx⟩=>by subst h1;subst hc;exact h w' hxx _ (ha.put hd v)) (λ hc a ha=>by subst hc;exact h w (Ext.rf w) _ (ha.put hd undef))
theorem mkI (hr:∀ w,(Instr.makeInterface t v).run P w= .ok (.iface t v) w) (hx:ev E x=some v):Runs P E ⟨d, .makeInterface t x,ty,pos,af,g⟩ w (.iface t v) w:=λ n a ha=>by
 simp only [execOp,ha.ev hx,Sem.run_bind,hr w,Result.andThen_ok,Sem.run_pure]
theorem tyA {t':TypeId} (hr:∀ w,(Instr.typeAssert (.iface t v) t' t false).run P w= .ok v w) (hx:ev E x=some (.iface t v)):Runs P E ⟨d, .typeAssert x t' t false,ty,pos,af,g⟩ w v w:=λ n a ha=>by
 simp only [execOp,ha.ev hx,Sem.run_bind,hr w,Result.andThen_ok,Sem.run_pure]
theorem meth_val {e:TypeId} {p:Addr} {name:String} {f:FuncId} (h:(Go.method (P.types.size+Made.depth) t (.pointer (some p)) name).run P w=(loadVar e p >>= λ x=>pure (f,x)).run P w) (hl:Lds P w e p v):Meth P w t (.pointer (some p)) name f v:=by
 unfold Meth
 unfold Lds at hl
 rw [h]
 simp only [Sem.run_bind,hl,Result.andThen_ok,Sem.run_pure]
end
end
section
open Go.RowKit
namespace Hp
section
variable {α:Type} [Inhabited α] {key:α→Int} {lm l:List α} {m N n:Nat}
theorem up_exit (h:(((((m - 1) / 2:Nat):Int)== (m:Int)) || !decide (key (lm.getD m default)<key (lm.getD ((m - 1) / 2) default)))=true):upF key lm m=lm:=by
 unfold upF
 rw [if_neg]
 rintro ⟨h1,h2⟩
 simp only [Bool.or_eq_true,beq_iff_eq,Bool.not_eq_true',decide_eq_false_iff_not] at h
 rcases h with h | h
 ·omega
 ·exact h h2
theorem up_more (h:(((((m - 1) / 2:Nat):Int)== (m:Int)) || !decide (key (lm.getD m default)<key (lm.getD ((m - 1) / 2) default)))=false):0<m∧upF key lm m=upF key (swp lm ((m - 1) / 2) m) ((m - 1) / 2):=by
 simp only [Bool.or_eq_false_iff,beq_eq_false_iff_ne,Bool.not_eq_false',decide_eq_true_eq] at h
 have hm:0<m:=by
  rcases Nat.eq_zero_or_pos m with h0 | h0
  ·subst h0;exact absurd rfl h.1
  ·exact h0
 refine ⟨hm, ?_⟩
 conv=>lhs;unfold upF
 rw [if_pos ⟨hm,h.2⟩]
theorem dn_exit (h:(decide ((N:Int)≤2 * (m:Int)+1) || decide (2 * (m:Int)+1<0))=true):downF key N l m=l:=by
 unfold downF
 rw [if_neg]
 simp only [Bool.or_eq_true,decide_eq_true_eq] at h
 omega
theorem dn_go (h:(decide ((N:Int)≤2 * (m:Int)+1) || decide (2 * (m:Int)+1<0))=false):2 * m+1<N:=by
 simp only [Bool.or_eq_false_iff,decide_eq_false_iff_not] at h
 omega
theorem low_two (h:(decide (2 * (m:Int)+1+1<(N:Int)) && decide (key (l.getD (2 * m+1+1) default)<key (l.getD (2 * m+1) default)))=true):lowC key N l m=2 * m+2:=by
 simp only [Bool.and_eq_true,decide_eq_true_eq] at h
 unfold lowC
 rw [if_pos ⟨by omega,h.2⟩]
theorem low_lt {q:Bool} (h:(decide (2 * (m:Int)+1+1<(N:Int)) && q)=true):2 * m+2<N:=by
 simp only [Bool.and_eq_true,decide_eq_true_eq] at h
 omega
theorem low_one (h:(decide (2 * (m:Int)+1+1<(N:Int)) && decide (key (l.getD (2 * m+1+1) default)<key (l.getD (2 * m+1) default)))=false):lowC key N l m=2 * m+1:=by
 unfold lowC
 rw [if_neg]
 rintro ⟨h1,h2⟩
 rw [decide_eq_true (show 2 * (m:Int)+1+1<(N:Int) by omega),decide_eq_true (show key (l.getD (2 * m+1+1) default)<key (l.getD (2 * m+1) default) from h2)] at h
 cases h
theorem dn_exit2 {j:Nat} (h1:2 * m+1<N) (hl:lowC key N l m=j) (h:(!decide (key (l.getD j default)<key (l.getD m default)))=true):downF key N l m=l:=by
 unfold downF
 rw [if_neg]
 rw [hl]
 rintro ⟨_,h2⟩
 rw [decide_eq_true h2] at h;cases h
theorem dn_more {j:Nat} (h1:2 * m+1<N) (hl:lowC key N l m=j) (h:(!decide (key (l.getD j default)<key (l.getD m default)))=false):downF key N l m=downF key N (swp l m j) j:=by
 conv=>lhs;unfold downF
 rw [hl,if_pos ⟨h1,by simpa using h⟩]
end
end Hp
theorem tdiv_half (m:Nat):Int.tdiv ((m:Int) - 1) 2=(((m - 1) / 2:Nat):Int):=by
 cases m with
 | zero=>rfl
 | succ m =>
  rw [show ((m+1:Nat):Int) - 1=(m:Int) by omega,Int.tdiv_eq_ediv_of_nonneg (by omega)]
  simp
section
variable {P:Program} {n:Nat} {E:List (Nat×Value)} {w:World} {ty:TypeId} {pos:String} {af:Array Edge} {x y:Operand} {t u:TypeId} {d:Option Nat} {g:Option (Nat×Bool)}
theorem bquH {k:IntKind} {i j r:Int} (hx:ev E x=some (.int k i)) (hy:ev E y=some (.int k j)) (h1:j≠0) (hr:Int.tdiv i j=r) (hw:k.wrap r=r):Runs P E ⟨d, .binOp .quo t x y u,ty,pos,af,g⟩ w (.int k r) w:=run_bin hx hy (binOp_quo t k i j) (by
 subst hr
 have:Op.intDiv .quo k i j=pure (.int k (Int.tdiv i j)):=by simp [Op.intDiv,h1,hw]
 rw [this];rfl)
end
end
section
open Go.RowKit
theorem Pq_el_path_open:ElT Tryz.prog Nod.rep 263 313 32:=ElT.mk_ (z:=Nod.zero) (k:=4) Tryz.underlying263 Nod.info rfl rfl (by decide) Nod.zero_raw
theorem hcNo {w:World} {cs:List Value} {a:Nod} (h:Nod.rep.has w cs a):cs=a.cells:=And.left (show cs=a.cells∧a.ok from h)
theorem xP_len (A:Option Addr) (n c:Nat) (w:World):
  Calls Tryz.prog 219 #[.slice A n c] w (λ e w'=>e= .returned (.int .i64 (n:Int))∧Ext w w'):=by
 refine calls_W (n:=5) Tryz.func219 rfl rfl rfl ?_
 refine sg<|va rfl<|nK<|sg<|vm rfl<|vL (ln Tryz.underlying263 rfl)<|va rfl<|nK<|rt<|tR (.tmp rfl .nil)<| ?_
 exact ⟨rfl,(Ext.rf w)⟩
theorem xP_less (A:Option Addr) (n c:Nat) (l:List Nod) (i j:Int) (p q:Nat) (w:World) (hl:Nod.rep.SHas 32 w A c l) (hn:l.length=n) (hi:i=(p:Int)) (hj:j=(q:Int)) (hp:p<n) (hq:q<n):
  Calls Tryz.prog 265 #[.slice A n c, .int .i64 i, .int .i64 j] w (λ e w'=>e= .returned (.bool (decide ((l.getD p default).all<(l.getD q default).all)))∧Ext w w'):=by
 refine calls_W (n:=18) Tryz.func265 rfl rfl rfl ?_
 refine sg<|va rfl<|nK<|sq<| ?_
 refine rd [(4,0),(9,0)] [0,1,2,3,4,5,6,7,8,9,10,11] (by kernel_rfl) (by kernel_rfl) ?_
 refine fw1 rfl (λ _=>mv rfl)<|fw1 rfl (λ _=>mv rfl)<|fw1 rfl (λ _=>iA i.toNat Tryz.underlying263 eF8 rfl rfl ((hl.keep (Ext.rf w)).adr (zl i.toNat (by omega))) (by omega) (by omega))<|fw1 rfl (λ _=>fa eF9 rfl)<|fq1 rfl (λ _ x=>ld rfl (Rep.SHas.fld hcNo ((hl.keep (eT (Ext.rf w) x)).adh (zl i.toNat (by omega))) 3 (get_d (l:=l) (u:=default) (by omega)) rfl eF1))<|fw1 rfl (λ _=>mv rfl)<|fw1 rfl (λ _=>mv rfl)<|fw1 rfl (λ _=>iA j.toNat Tryz.underlying263 eF8 rfl rfl ((hl.keep (Ext.rf w)).adr (zl j.toNat (by omega))) (by omega) (by omega))<|fw1 rfl (λ _=>fa eF9 rfl)<|fq1 rfl (λ _ x=>ld rfl (Rep.SHas.fld hcNo ((hl.keep (eT (Ext.rf w) x)).adh (zl j.toNat (by omega))) 3 (get_d (l:=l) (u:=default) (by omega)) rfl eF1))<|fw1 rfl (λ _=>blt rfl rfl)<|fw1 rfl (λ _=>as_ rfl)<|fn λ w_1 x_2=> ?_
 have:=x_2.size
 have z_1:=eT (Ext.rf w) x_2
 refine nT<|rt<|tR (.tmp rfl .nil)<| ?_
 subst hi hj;exact ⟨by simp only [Int.toNat_natCast];rfl,z_1⟩
theorem xP_swap (A:Option Addr) (n c Z:Nat) (l:List Nod) (i j:Int) (p q:Nat) (w:World) (HO:Nod.rep.SOwn 313 32 w Z (Rep.blkOf A) A c (l)) (hok:∀ y∈l,y.ok) (hn:l.length=n) (hi:i=(p:Int)) (hj:j=(q:Int)) (hp:p<n) (hq:q<n):
  Calls Tryz.prog 266 #[.slice A n c, .int .i64 i, .int .i64 j] w (λ e w'=>e= .returned (.tuple #[])∧Nod.rep.SOwn 313 32 w' Z (Rep.blkOf A) A c (Hp.swp l p q)∧Mod (Rep.blkOf A) w w'):=by
 have uO:=λ q hq=>(HO.lt q hq).2
 refine calls_W (n:=20) Tryz.func266 rfl rfl rfl ?_
 refine rd [(7,0),(11,0),(13,3),(15,3)] [0,1,2,3,4,5,6,7,8,9,10,11,12,13,14,15] (by kernel_rfl) (by kernel_rfl) ?_
 refine fw1 rfl (λ _=>mv rfl)<|fw1 rfl (λ _=>mv rfl)<|fw1 rfl (λ _=>mv rfl)<|fw1 rfl (λ _=>mv rfl)<|fw1 rfl (λ _=>mv rfl)<|fw1 rfl (λ _=>mv rfl)<|fw1 rfl (λ _=>iA j.toNat Tryz.underlying263 eF8 rfl rfl (HO.has.adr (zl j.toNat (by first | omega | (rw [List.length_set];omega)))) (by omega) (by first | omega | (rw [List.length_set];omega)))<|fq1 rfl (λ _ x=>ld rfl (Rep.SHas.elt hcNo ((HO.later x).has.adh (zl j.toNat (by first | omega | (rw [List.length_set];omega)))) (get_d (l:=l) (u:=default) (by first | omega | (rw [List.length_set];omega))) eF10 eF8))<|fw1 rfl (λ _=>mv rfl)<|fw1 rfl (λ _=>mv rfl)<|fw1 rfl (λ _=>iA i.toNat Tryz.underlying263 eF8 rfl rfl (HO.has.adr (zl i.toNat (by first | omega | (rw [List.length_set];omega)))) (by omega) (by first | omega | (rw [List.length_set];omega)))<|fq1 rfl (λ _ x=>ld rfl (Rep.SHas.elt hcNo ((HO.later x).has.adh (zl i.toNat (by first | omega | (rw [List.length_set];omega)))) (get_d (l:=l) (u:=default) (by first | omega | (rw [List.length_set];omega))) eF10 eF8))<|fw1 rfl (λ _=>iA i.toNat Tryz.underlying263 eF8 rfl rfl (HO.has.adr (zl i.toNat (by first | omega | (rw [List.length_set];omega)))) (by omega) (by first | omega | (rw [List.length_set];omega)))<|fb rfl rfl rfl λ w_1 x_2 Q hK=>soE (q':=l.getD j.toNat default) (i:=i.toNat) (es:= [.int .i64 ((l.getD j.toNat default).cell.x), .int .i64 ((l.getD j.toNat default).cell.y), .int .i64 ((l.getD j.toNat default).far), .int .i64 ((l.getD j.toNat default).all)]) (HO.later x_2) Rep.flat_bare (by first | omega | (rw [List.length_set];omega)) rfl rfl rfl rfl (λ _=>⟨rfl,(hok _ (mem_dd (by omega)))⟩) eF8 λ w_3 m_4 O_5=>hK _ _ ?_
 have:=x_2.size
 have z_1:=(Mod.rf (Rep.blkOf A) w).trans (Mod.of_ext x_2)
 have:=m_4.size
 have z_3:=z_1.md m_4 (λ q hq=> .inl hq)
 have:=m_4.size
 refine fw1 rfl (λ _=>iA j.toNat Tryz.underlying263 eF8 rfl rfl (O_5.has.adr (zl j.toNat (by first | omega | (rw [List.length_set];omega)))) (by omega) (by first | omega | (rw [List.length_set];omega)))<|fb rfl rfl rfl λ w_9 x_10 Q hK=>soE (q':=l.getD i.toNat default) (i:=j.toNat) (es:= [.int .i64 ((l.getD i.toNat default).cell.x), .int .i64 ((l.getD i.toNat default).cell.y), .int .i64 ((l.getD i.toNat default).far), .int .i64 ((l.getD i.toNat default).all)]) (O_5.later x_10) Rep.flat_bare (by first | omega | (rw [List.length_set];omega)) rfl rfl rfl rfl (λ _=>⟨rfl,(hok _ (mem_dd (by omega)))⟩) eF8 λ w_11 m_12 O_13=>hK _ _ ?_
 have:=x_10.size
 have z_9:=z_3.trans (Mod.of_ext x_10)
 have:=m_12.size
 have z_11:=z_9.md m_12 (λ q hq=> .inl hq)
 have:=m_12.size
 refine fn λ w_17 x_18=> ?_
 have:=x_18.size
 have z_17:=z_11.trans (Mod.of_ext x_18)
 refine ne<|tR .nil<| ?_
 have O_13:=O_13.later x_18
 subst hi hj;simp only [Int.toNat_natCast] at O_13;exact ⟨rfl,O_13,z_17⟩
theorem xP_up (b:Nat) (A:Option Addr) (n c Z:Nat) (l:List Nod) (v0 v1 v2 v3 v4 v5:Value) (j:Nat) (w:World) (HB:Blk w b [v0,v1,v2,v3,v4,v5, .slice A n c] 265 (0,0)) (HO:Nod.rep.SOwn 313 32 w Z (Rep.blkOf A) A c (l)) (hok:∀ y∈l,y.ok) (hn:l.length=n) (hd:∀ q∈Rep.blkOf A,q=b→False) (hj:j<n):
  Calls Tryz.prog 239 #[.iface 311 (.pointer (some ⟨b,6,none⟩)), .int .i64 (j:Int)] w (λ e w'=>e= .returned (.tuple #[])∧Blk w' b [v0,v1,v2,v3,v4,v5, .slice A n c] 265 (0,0)∧Nod.rep.SOwn 313 32 w' Z (Rep.blkOf A) A c (Hp.upF Nod.all l j)∧Mod (Rep.blkOf A) w w'):=by
 have uO:=λ q hq=>(HO.lt q hq).2
 have qB:=HB.lt
 have hn63:=HO.has.2.1
 have hn64:=HO.has.len_le
 have hn65:=HO.has.1
 refine calls_W (n:=23) Tryz.func239 rfl rfl rfl ?_
 refine bk<| ?_
 refine lp (λ mI EI wI=>∃ lm:List Nod,∃ m:Nat,EI= [(0, .iface 311 (.pointer (some ⟨b,6,none⟩))),(1, .int .i64 (m:Int))]∧mI=(2 * m)∧Mod (Rep.blkOf A) w wI∧Blk wI b [v0,v1,v2,v3,v4,v5, .slice A n c] 265 (0,0)∧Nod.rep.SOwn 313 32 wI Z (Rep.blkOf A) A c (lm)∧(m<n)∧(lm.length=n)∧(∀ y∈lm,y.ok)∧(Hp.upF Nod.all lm m=Hp.upF Nod.all l j)∧(∀ q∈Rep.blkOf A,q=b→False)) _ _ ⟨l,j,rfl,rfl,(Mod.rf (Rep.blkOf A) w),HB,HO,by omega,by omega,hok,rfl,(λ q hq hb=>by (exact hd q hq hb))⟩ (sba rfl) ?_
 rintro m_3 E_4 w_2 ⟨lm,m,rfl,rfl,z_2,HB,HOm,hm,hlm,hokm,hup,d_1⟩
 have:=z_2.size
 have q_6:=HB.lt
 have u_7:=λ q hq=>(HOm.lt q hq).2
 refine bk<|sg<|vm rfl<|vL (bsu rfl rfl (inI (by omega)))<|vL (bquH (r:=(((m - 1) / 2:Nat):Int)) rfl rfl (by decide) (tdiv_half m) (inI (by omega)))<|va rfl<|nK<|sq<|sg<|vm rfl<|vm rfl<|vL (beq rfl rfl)<|vm rfl<|vQ rfl rfl rfl rfl (λ hc=>mv rfl) rfl<|vQ rfl rfl rfl rfl (λ hc=>mv rfl) rfl<|vQ rfl rfl rfl rfl (λ hc=>mv rfl) rfl<|ivC rfl rfl rfl rfl eF12 (λ hc=>(gt hc rfl)) (λ hc=>ec (gt hc rfl) (ec (gt hc rfl) rfl)) (meth_val (e:= 263) (by kernel_rfl) (HB.one eF11 rfl)) (λ hc=>xP_less _ _ _ lm (m:Int) ((((m - 1) / 2:Nat):Int)) m ((m - 1) / 2) _ HOm.has (by omega) (by omega) (by omega) (by first | omega | (simp only [bS] at hc;omega)) (by first | omega | (simp only [bS] at hc;omega))) rfl λ w_8 x_9=> ?_
 have:=x_9.size
 have z_8:=z_2.trans (Mod.of_ext x_9)
 refine vQ rfl rfl rfl rfl (λ hc=>nt (gt hc rfl)) rfl<|vL (pO rfl rfl rfl rfl)<|nK<| ?_
 refine cb rfl (λ h_11=> ?_) (λ h_11=> ?_)
 ·have hex:=Hp.up_exit (key:=Nod.all) h_11
  rw [hex] at hup
  refine xt<|xT<|xN rfl<|xK<|xB<|ne<|tR .nil<| ?_
  have HOm:=HOm.later x_9
  have HB:=HB.later x_9
  exact ⟨rfl,HB,by rw [← hup];exact HOm,z_8⟩
 ·obtain ⟨hm0,hnx⟩:=Hp.up_more (key:=Nod.all) h_11
  refine sK<|sg<|vm rfl<|vm rfl<|vm rfl<| ?_
  have HB:=HB.later x_9
  have HOm:=HOm.later x_9
  refine iv eF13 rfl rfl (meth_val (e:= 263) (by kernel_rfl) (HB.one eF11 rfl)) rfl ((xP_swap _ _ _ _ lm ((((m - 1) / 2:Nat):Int)) (m:Int) ((m - 1) / 2) m _ HOm hokm (by omega) (by omega) (by omega) (by omega) (by omega)).mono ?_)
  rintro e w_14 ⟨rfl,O_12,m_13⟩
  refine ⟨_,rfl, ?_⟩
  have:=m_13.size
  have z_14:=z_8.md m_13 (λ q hq=> .inl hq)
  have hokO_12:∀ y∈Hp.swp lm ((m - 1) / 2) m,y.ok:=λ y hy=>hokm y ((Hp.swp_perm (by omega) (by omega)).subset hy)
  have hlenO_12:(Hp.swp lm ((m - 1) / 2) m).length=n:=by rw [Hp.swp_len];omega
  refine nK<|rg<|vm rfl<|va rfl<|nl<|nB<| ?_
  have HB:=HB.mod m_13 (λ hq=>d_1 _ hq rfl)
  exact nI _ _ ⟨Hp.swp lm ((m - 1) / 2) m,(m - 1) / 2,rfl,rfl,z_14,HB,O_12,by omega,hlenO_12,hokO_12,hnx.symm.trans hup,(λ q hq hb=>by (exact d_1 q hq hb))⟩ (by omega) (.cons rfl (.cons (loI rfl (by first | omega | rfl | (simp<;>omega))) .nil))
theorem xP_down (b:Nat) (A:Option Addr) (n c Z:Nat) (l:List Nod) (v0 v1 v2 v3 v4 v5:Value) (i N:Nat) (w:World) (HB:Blk w b [v0,v1,v2,v3,v4,v5, .slice A n c] 265 (0,0)) (HO:Nod.rep.SOwn 313 32 w Z (Rep.blkOf A) A c (l)) (hok:∀ y∈l,y.ok) (hn:l.length=n) (hd:∀ q∈Rep.blkOf A,q=b→False) (hi:i<n) (hN:N≤n) (hbig:n≤1000000):
  Calls Tryz.prog 240 #[.iface 311 (.pointer (some ⟨b,6,none⟩)), .int .i64 (i:Int), .int .i64 (N:Int)] w (λ e w'=>(∃ v,e= .returned (.bool v))∧Blk w' b [v0,v1,v2,v3,v4,v5, .slice A n c] 265 (0,0)∧Nod.rep.SOwn 313 32 w' Z (Rep.blkOf A) A c (Hp.downF Nod.all N l i)∧Mod (Rep.blkOf A) w w'):=by
 have uO:=λ q hq=>(HO.lt q hq).2
 have qB:=HB.lt
 have hn63:=HO.has.2.1
 have hn64:=HO.has.len_le
 have hn65:=HO.has.1
 refine calls_W (n:=48) Tryz.func240 rfl rfl rfl ?_
 refine sg<|va rfl<|nK<|sg<|vm rfl<|va rfl<|nK<|sq<|bk<| ?_
 refine lp (λ mI EI wI=>∃ lm:List Nod,∃ m:Nat,EI= [(0, .iface 311 (.pointer (some ⟨b,6,none⟩))),(1, .int .i64 (i:Int)),(2, .int .i64 (N:Int)),(6, .bool false),(7, .int .i64 (m:Int))]∧mI=N - m∧Mod (Rep.blkOf A) w wI∧Blk wI b [v0,v1,v2,v3,v4,v5, .slice A n c] 265 (0,0)∧Nod.rep.SOwn 313 32 wI Z (Rep.blkOf A) A c (lm)∧(m<n)∧(lm.length=n)∧(∀ y∈lm,y.ok)∧(Hp.downF Nod.all N lm m=Hp.downF Nod.all N l i)∧(∀ q∈Rep.blkOf A,q=b→False)) _ _ ⟨l,i,rfl,rfl,(Mod.rf (Rep.blkOf A) w),HB,HO,by omega,by omega,hok,rfl,(λ q hq hb=>by (exact hd q hq hb))⟩ (sba rfl) ?_
 rintro m_3 E_4 w_2 ⟨lm,m,rfl,rfl,z_2,HB,HOm,hm,hlm,hokm,hup,d_1⟩
 have:=z_2.size
 have q_6:=HB.lt
 have u_7:=λ q hq=>(HOm.lt q hq).2
 refine bk<|sg<|vm rfl<|vL (bmu rfl rfl (inI (by omega)))<|vL (bad rfl rfl (inI (by omega)))<|va rfl<|nK<|sq<|sg<|vm rfl<|vm rfl<|vL (bge rfl rfl)<|vm rfl<|vQ rfl rfl rfl rfl (λ hc=>mv rfl) rfl<|vQ rfl rfl rfl rfl (λ hc=>blt (gt hc rfl) rfl) rfl<|vL (pO rfl rfl rfl rfl)<|nK<| ?_
 refine cb rfl (λ h_8=> ?_) (λ h_8=> ?_)
 ·have hex:=Hp.dn_exit (key:=Nod.all) (l:=lm) h_8
  rw [hex] at hup
  refine xt<|xT<|xN rfl<|xK<|xB<|nT<|sg<|vm rfl<|vm rfl<|vL (bgt rfl rfl)<|va rfl<|nK<|rt<|tR (.tmp rfl .nil)<| ?_
  skip
  exact ⟨⟨_,rfl⟩,HB,by rw [← hup];exact HOm,z_2⟩
 ·have hc1:=Hp.dn_go h_8
  refine sK<|sg<|vm rfl<|va rfl<|nK<|sq<|sg<|vm rfl<|vL (bad rfl rfl (inI (by omega)))<|va rfl<|nK<|sg<|vm rfl<|vm rfl<|vL (blt rfl rfl)<|vm rfl<|vQ rfl rfl rfl rfl (λ hc=>mv rfl) rfl<|vQ rfl rfl rfl rfl (λ hc=>mv rfl) rfl<| ?_
  refine vQ rfl rfl rfl rfl (λ hc=>mv rfl) rfl<|ivC rfl rfl rfl rfl eF12 (λ hc=>(gt hc rfl)) (λ hc=>ec (gt hc rfl) (ec (gt hc rfl) rfl)) (meth_val (e:= 263) (by kernel_rfl) (HB.one eF11 rfl)) (λ hc=>xP_less _ _ _ lm (((2 * (m:Int))+1)+1) ((2 * (m:Int))+1) (((2 * m)+1)+1) ((2 * m)+1) _ HOm.has (by omega) (by omega) (by omega) (by first | omega | (simp only [bS] at hc;omega)) (by first | omega | (simp only [bS] at hc;omega))) rfl λ w_9 x_10=> ?_
  have:=x_10.size
  have z_9:=z_2.trans (Mod.of_ext x_10)
  refine vL (pA rfl rfl rfl rfl)<|nK<| ?_
  refine cb rfl (λ h_12=> ?_) (λ h_12=> ?_)
  ·have hlow:=Hp.low_two (key:=Nod.all) (l:=lm) (m:=m) h_12
   have hc2:=Hp.low_lt h_12
   refine rg<|vm rfl<|va rfl<|nK<|sq<|sg<|vm rfl<|vm rfl<|vm rfl<| ?_
   have HB:=HB.later x_10
   have HOm:=HOm.later x_10
   refine iv eF12 rfl rfl (meth_val (e:= 263) (by kernel_rfl) (HB.one eF11 rfl)) rfl ((xP_less _ _ _ lm (((2 * (m:Int))+1)+1) (m:Int) (((2 * m)+1)+1) m _ HOm.has (by omega) (by omega) (by omega) (by first | omega | (simp only [bS] at hc;omega)) (by first | omega | (simp only [bS] at hc;omega))).mono ?_)
   rintro e w_13 ⟨rfl,x_14⟩
   refine ⟨_,rfl, ?_⟩
   have:=x_14.size
   have z_13:=z_9.trans (Mod.of_ext x_14)
   refine vL (nt rfl)<|nK<| ?_
   refine cb rfl (λ h_16=> ?_) (λ h_16=> ?_)
   ·have hex:=Hp.dn_exit2 (key:=Nod.all) hc1 hlow h_16
    rw [hex] at hup
    refine xt<|xT<|xN rfl<|xK<|xB<|nT<|sg<|vm rfl<|vm rfl<|vL (bgt rfl rfl)<|va rfl<|nK<|rt<|tR (.tmp rfl .nil)<| ?_
    skip
    have HOm:=HOm.later x_14
    have HB:=HB.later x_14
    exact ⟨⟨_,rfl⟩,HB,by rw [← hup];exact HOm,z_13⟩
   ·have hnx:=Hp.dn_more (key:=Nod.all) hc1 hlow h_16
    refine sK<|sg<|vm rfl<|vm rfl<|vm rfl<| ?_
    have HB:=HB.later x_14
    have HOm:=HOm.later x_14
    refine iv eF13 rfl rfl (meth_val (e:= 263) (by kernel_rfl) (HB.one eF11 rfl)) rfl ((xP_swap _ _ _ _ lm (m:Int) (((2 * (m:Int))+1)+1) m (((2 * m)+1)+1) _ HOm hokm (by omega) (by omega) (by omega) (by omega) (by omega)).mono ?_)
    rintro e w_19 ⟨rfl,O_17,m_18⟩
    refine ⟨_,rfl, ?_⟩
    have:=m_18.size
    have z_19:=z_13.md m_18 (λ q hq=> .inl hq)
    have hokO_17:∀ y∈Hp.swp lm m (((2 * m)+1)+1),y.ok:=λ y hy=>hokm y ((Hp.swp_perm (by omega) (by omega)).subset hy)
    have hlenO_17:(Hp.swp lm m (((2 * m)+1)+1)).length=n:=by rw [Hp.swp_len];omega
    refine nK<|rg<|vm rfl<|va rfl<|nl<|nB<| ?_
    have HB:=HB.mod m_18 (λ hq=>d_1 _ hq rfl)
    exact nI _ _ ⟨Hp.swp lm m (((2 * m)+1)+1),2 * m+2,rfl,rfl,z_19,HB,O_17,by omega,hlenO_17,hokO_17,hnx.symm.trans hup,(λ q hq hb=>by (exact d_1 q hq hb))⟩ (by omega) (.cons rfl (.cons rfl (.cons rfl (.cons rfl (.cons (loI rfl (by first | omega | rfl | (simp<;>omega))) .nil)))))
  ·have hlow:=Hp.low_one (key:=Nod.all) (l:=lm) (m:=m) h_12
   refine sK<|sq<|sg<|vm rfl<|vm rfl<|vm rfl<| ?_
   have HB:=HB.later x_10
   have HOm:=HOm.later x_10
   refine iv eF12 rfl rfl (meth_val (e:= 263) (by kernel_rfl) (HB.one eF11 rfl)) rfl ((xP_less _ _ _ lm ((2 * (m:Int))+1) (m:Int) ((2 * m)+1) m _ HOm.has (by omega) (by omega) (by omega) (by first | omega | (simp only [bS] at hc;omega)) (by first | omega | (simp only [bS] at hc;omega))).mono ?_)
   rintro e w_21 ⟨rfl,x_22⟩
   refine ⟨_,rfl, ?_⟩
   have:=x_22.size
   have z_21:=z_9.trans (Mod.of_ext x_22)
   refine vL (nt rfl)<|nK<| ?_
   refine cb rfl (λ h_24=> ?_) (λ h_24=> ?_)
   ·have hex:=Hp.dn_exit2 (key:=Nod.all) hc1 hlow h_24
    rw [hex] at hup
    refine xt<|xT<|xN rfl<|xK<|xB<|nT<|sg<|vm rfl<|vm rfl<|vL (bgt rfl rfl)<|va rfl<|nK<|rt<|tR (.tmp rfl .nil)<| ?_
    skip
    have HOm:=HOm.later x_22
    have HB:=HB.later x_22
    exact ⟨⟨_,rfl⟩,HB,by rw [← hup];exact HOm,z_21⟩
   ·have hnx:=Hp.dn_more (key:=Nod.all) hc1 hlow h_24
    refine sK<|sg<|vm rfl<|vm rfl<|vm rfl<| ?_
    have HB:=HB.later x_22
    have HOm:=HOm.later x_22
    refine iv eF13 rfl rfl (meth_val (e:= 263) (by kernel_rfl) (HB.one eF11 rfl)) rfl ((xP_swap _ _ _ _ lm (m:Int) ((2 * (m:Int))+1) m ((2 * m)+1) _ HOm hokm (by omega) (by omega) (by omega) (by omega) (by omega)).mono ?_)
    rintro e w_27 ⟨rfl,O_25,m_26⟩
    refine ⟨_,rfl, ?_⟩
    have:=m_26.size
    have z_27:=z_21.md m_26 (λ q hq=> .inl hq)
    have hokO_25:∀ y∈Hp.swp lm m ((2 * m)+1),y.ok:=λ y hy=>hokm y ((Hp.swp_perm (by omega) (by omega)).subset hy)
    have hlenO_25:(Hp.swp lm m ((2 * m)+1)).length=n:=by rw [Hp.swp_len];omega
    refine nK<|rg<|vm rfl<|va rfl<|nl<|nB<| ?_
    have HB:=HB.mod m_26 (λ hq=>d_1 _ hq rfl)
    exact nI _ _ ⟨Hp.swp lm m ((2 * m)+1),2 * m+1,rfl,rfl,z_27,HB,O_25,by omega,hlenO_25,hokO_25,hnx.symm.trans hup,(λ q hq hb=>by (exact d_1 q hq hb))⟩ (by omega) (.cons rfl (.cons rfl (.cons rfl (.cons rfl (.cons (loI rfl (by first | omega | rfl | (simp<;>omega))) .nil)))))
theorem xP_qpush (b:Nat) (A:Option Addr) (c Z:Nat) (l:List Nod) (v0 v1 v2 v3 v4 v5:Value) (x:Nod) (w:World) (HB:Blk w b [v0,v1,v2,v3,v4,v5, .slice A l.length c] 265 (0,0)) (HO:Nod.rep.SOwn 313 32 w Z (Rep.blkOf A) A c (l)) (hok:∀ y∈l,y.ok) (hd:∀ q∈Rep.blkOf A,q=b→False) (hx:x.ok) (hbig:l.length≤1000000) (hZ:Z≤w.heap.size):
  Calls Tryz.prog 268 #[.pointer (some ⟨b,6,none⟩), .iface 313 (.agg #[.int .i64 x.cell.x, .int .i64 x.cell.y, .int .i64 x.far, .int .i64 x.all])] w (λ e w'=>∃ A' c',e= .returned (.tuple #[])∧Blk w' b [v0,v1,v2,v3,v4,v5, .slice A' (l++ [x]).length c'] 265 (0,0)∧Nod.rep.SOwn 313 32 w' Z (Rep.blkOf A') A' c' (l++ [x])∧(∀ q∈Rep.blkOf A',q∈Rep.blkOf A∨w.heap.size≤q)∧Mod (b::Rep.blkOf A) w w'):=by
 have uO:=λ q hq=>(HO.lt q hq).2
 have qB:=HB.lt
 have hn63:=HO.has.2.1
 have hn64:=HO.has.len_le
 have hn65:=HO.has.1
 refine calls_W (n:=13) Tryz.func268 rfl rfl rfl ?_
 refine rd [(3,0),(6,2),(7,3),(9,3)] [0,1,2,3,4,5,6,7,8,9] (by kernel_rfl) (by kernel_rfl) ?_
 refine fw1 rfl (λ _=>mv rfl)<|fw1 rfl (λ _=>mv rfl)<|fw1 rfl (λ _=>nc rfl)<|fq1 rfl (λ _ x=>ld rfl ((HB.later x).one eF11 rfl))<|fw1 rfl (λ _=>mv rfl)<|fw1 rfl (λ _=>tyA (λ w=>by kernel_rfl) rfl)<|fx rfl rfl rfl λ w_1 x_2 Q hK=>bs (e:= 313) (cs:= [.int .i64 x.cell.x, .int .i64 x.cell.y, .int .i64 x.far, .int .i64 x.all]) rfl (λ _=>by kernel_rfl) rfl λ w_3 b_4 x_5 l_6 B_7=>hK _ _ ⟨eT x_2 x_5, ?_⟩
 have:=x_2.size
 have z_1:=(Mod.rf (b::Rep.blkOf A) w).trans (Mod.of_ext x_2)
 have:=x_5.size
 have z_3:=z_1.trans (Mod.of_ext x_5)
 have q_10:=B_7.lt
 have HO:=HO.later (eT x_2 x_5)
 refine fb rfl rfl rfl λ w_11 x_12 Q hK=>ap Pq_el_path_open Rep.flat_bare (HO.later x_12) ((Blk.has1 (R:=Nod.rep) (by_:=32) (q:=x) B_7 ⟨rfl,hx⟩ (by decide)).keep x_12) rfl rfl (by simp only [List.length_cons,List.length_nil];omega) (by simp only [List.length_cons,List.length_nil];omega) (by have:=x_12.size;omega) rfl λ w_13 A_14 c_15 m_16 O_17 g_18 n_19=>hK _ _ ?_
 have:=x_12.size
 have z_11:=z_3.trans (Mod.of_ext x_12)
 have:=m_16.size
 have z_13:=z_11.md m_16 (λ q hq=> .inl (List.mem_cons_of_mem _ hq))
 have u_22:=λ q hq=>(O_17.lt q hq).2
 have:=m_16.size
 refine fw1 rfl (λ _=>nc rfl)<| ?_
 have HB:=HB.later (eT x_2 (eT x_5 x_12))
 have HB:=HB.mod m_16 (λ hq=>hd _ hq rfl)
 refine fb rfl rfl rfl λ w_24 x_25 Q hK=>st (new:= [v0,v1,v2,v3,v4,v5, .slice A_14 ((l++ [x]).length) c_15]) rfl rfl (HB.later x_25) rfl eF14 rfl rfl rfl λ w_26 m_27 HB=>hK _ _ ?_
 have:=x_25.size
 have z_24:=z_13.trans (Mod.of_ext x_25)
 have:=m_27.size
 have z_26:=z_24.md m_27 (λ q hq=> .inl (by rw [List.mem_singleton.1 hq];exact List.mem_cons_self))
 have:=m_27.size
 refine fn λ w_31 x_32=> ?_
 have:=x_32.size
 have z_31:=z_26.trans (Mod.of_ext x_32)
 refine ne<|tR .nil<| ?_
 have O_17:=O_17.later x_25
 have O_17:=O_17.mod m_27 (λ q hq h=>by have hb:=List.mem_singleton.1 h;exfalso;(exact Or.elim (g_18 q hq) (λ k_34=>by (exact hd q k_34 hb)) (λ k_34=>by omega)))
 have O_17:=O_17.later x_32
 have HB:=HB.later x_32
 exact ⟨A_14,c_15,rfl,HB,O_17,(λ q hq=>(g_18 q hq).imp id λ h=>by omega),z_31⟩
theorem xP_qpop (b:Nat) (A:Option Addr) (n c Z:Nat) (l:List Nod) (v0 v1 v2 v3 v4 v5:Value) (w:World) (HB:Blk w b [v0,v1,v2,v3,v4,v5, .slice A n c] 265 (0,0)) (HO:Nod.rep.SOwn 313 32 w Z (Rep.blkOf A) A c (l)) (hok:∀ y∈l,y.ok) (hn:l.length=n) (hd:∀ q∈Rep.blkOf A,q=b→False) (h0:0<n):
  Calls Tryz.prog 267 #[.pointer (some ⟨b,6,none⟩)] w (λ e w'=>e= .returned (.iface 313 (.agg ((l.getD (n - 1) default).cells).toArray))∧Blk w' b [v0,v1,v2,v3,v4,v5, .slice A (n - 1) c] 265 (0,0)∧Nod.rep.SOwn 313 32 w' Z (Rep.blkOf A) A c (l.take (n - 1))∧Mod (b::Rep.blkOf A) w w'):=by
 have uO:=λ q hq=>(HO.lt q hq).2
 have qB:=HB.lt
 have hn63:=HO.has.2.1
 have hn64:=HO.has.len_le
 have hn65:=HO.has.1
 refine calls_W (n:=23) Tryz.func267 rfl rfl rfl ?_
 refine sg<|va rfl<|nK<|sg<|vm rfl<|vL (nc rfl)<|vL (ld rfl (HB.one eF11 rfl))<|va rfl<|nK<|sg<|vm rfl<|vm rfl<|vL (ln Tryz.underlying263 rfl)<|vL (bsu rfl rfl (inI (by omega)))<|vL (iA (((n:Int) - 1).toNat) Tryz.underlying263 eF8 rfl rfl (HO.has.adr (zl (((n:Int) - 1).toNat) (by omega))) (by omega) (by omega))<|vL (ld rfl (Rep.SHas.elt hcNo (HO.has.adh (zl (((n:Int) - 1).toNat) (by omega))) (get_d (l:=l) (u:=default) (by omega)) eF10 eF8))<|al rfl eF15 rfl rfl λ w_1 b_2 x_3 l_4 B_5=> ?_
 have:=x_3.size
 have z_1:=(Mod.rf (b::Rep.blkOf A) w).trans (Mod.of_ext x_3)
 have q_7:=B_5.lt
 refine st (new:= [.int .i64 ((l.getD (((n:Int) - 1).toNat) default).cell.x), .int .i64 ((l.getD (((n:Int) - 1).toNat) default).cell.y), .int .i64 ((l.getD (((n:Int) - 1).toNat) default).far), .int .i64 ((l.getD (((n:Int) - 1).toNat) default).all)]) rfl rfl B_5 rfl eF8 rfl rfl rfl λ w_8 m_9 B_5=> ?_
 have:=m_9.size
 have z_8:=z_1.md m_9 (λ q hq=> .inr (by have:=List.mem_singleton.1 hq;omega))
 have:=m_9.size
 refine nK<|sg<|vm rfl<|vm rfl<|vm rfl<|vL (ln Tryz.underlying263 rfl)<|vL (bsu rfl rfl (inI (by omega)))<|vL (sP (n - 1) (n - 1) Tryz.underlying263 eF8 rfl rfl (by omega) (by omega) rfl)<|vL (nc rfl)<| ?_
 have HB:=HB.later x_3
 have HB:=HB.mod m_9 (nm1 (by omega))
 refine st (new:= [v0,v1,v2,v3,v4,v5, .slice A (n - 1) c]) rfl rfl HB rfl eF14 rfl rfl rfl λ w_12 m_13 HB=> ?_
 have:=m_13.size
 have z_12:=z_8.md m_13 (λ q hq=> .inl (by rw [List.mem_singleton.1 hq];exact List.mem_cons_self))
 have:=m_13.size
 refine nK<|sg<| ?_
 have B_5:=B_5.mod m_13 (nm1 (by omega))
 refine vL (ld rfl (B_5.all eF10 eF8))<|vL (mkI (λ w=>by kernel_rfl) rfl)<|va rfl<|nK<|rt<|tR (.tmp rfl .nil)<| ?_
 have HO:=HO.later x_3
 have HO:=HO.mod m_9 (fk1 uO (by omega))
 have HO:=HO.mod m_13 (λ q hq h=>by have hb:=List.mem_singleton.1 h;exfalso;(exact hd q hq hb))
 exact ⟨by rw [show ((n:Int) - 1).toNat=n - 1 by omega];rfl,HB,Rep.SOwn.cut HO Rep.flat_bare (n - 1) (by omega),z_12⟩
theorem xP_push (b:Nat) (A:Option Addr) (c Z:Nat) (l:List Nod) (v0 v1 v2 v3 v4 v5:Value) (x:Nod) (w:World) (HB:Blk w b [v0,v1,v2,v3,v4,v5, .slice A l.length c] 265 (0,0)) (HO:Nod.rep.SOwn 313 32 w Z (Rep.blkOf A) A c (l)) (hok:∀ y∈l,y.ok) (hd:∀ q∈Rep.blkOf A,q=b→False) (hx:x.ok) (hbig:l.length≤1000000) (hZ:Z≤w.heap.size):
  Calls Tryz.prog 218 #[.iface 311 (.pointer (some ⟨b,6,none⟩)), .iface 313 (.agg #[.int .i64 x.cell.x, .int .i64 x.cell.y, .int .i64 x.far, .int .i64 x.all])] w (λ e w'=>∃ A' c',e= .returned (.tuple #[])∧Blk w' b [v0,v1,v2,v3,v4,v5, .slice A' (Hp.push Nod.all l x).length c'] 265 (0,0)∧Nod.rep.SOwn 313 32 w' Z (Rep.blkOf A') A' c' (Hp.push Nod.all l x)∧(∀ q∈Rep.blkOf A',q∈Rep.blkOf A∨w.heap.size≤q)∧Mod (b::Rep.blkOf A) w w'):=by
 have uO:=λ q hq=>(HO.lt q hq).2
 have qB:=HB.lt
 have hn63:=HO.has.2.1
 have hn64:=HO.has.len_le
 have hn65:=HO.has.1
 refine calls_W (n:=12) Tryz.func218 rfl rfl rfl ?_
 refine sg<|vm rfl<|vm rfl<|iv eF16 rfl rfl (by unfold Meth;kernel_rfl) rfl ((xP_qpush b A c Z l v0 v1 v2 v3 v4 v5 x _ HB HO hok hd hx (by omega) hZ).mono ?_)
 rintro e w_2 ⟨A1,c1,rfl,HB1,HO1,hg1,m_1⟩
 refine ⟨_,rfl, ?_⟩
 have:=m_1.size
 have z_2:=(Mod.rf (b::Rep.blkOf A) w).md m_1 (λ q hq=> .inl hq)
 have hll:(l++ [x]).length=l.length+1:=by rw [List.length_append];rfl
 have uO1:=λ q hq=>(HO1.lt q hq).2
 have qB1:=HB1.lt
 have hd1:∀ q∈Rep.blkOf A1,q=b→False:=λ q hq e=>(hg1 q hq).elim (λ h=>hd q h e) (λ h=>by omega)
 have hok1:∀ y∈l++ [x],y.ok:=λ y hy=>(List.mem_append.1 hy).elim (hok y) λ h=>by rw [List.mem_singleton.1 h];exact hx
 refine nK<|rg<|vm rfl<|vm rfl<|iv eF17 rfl rfl (meth_val (e:= 263) (by kernel_rfl) (HB1.one eF11 rfl)) rfl ((xP_len _ ((l++ [x]).length) _ _).mono ?_)
 rintro e w_4 ⟨rfl,x_5⟩
 refine ⟨_,rfl, ?_⟩
 have:=x_5.size
 have z_4:=z_2.trans (Mod.of_ext x_5)
 refine vL (bsu rfl rfl (inI (by omega)))<| ?_
 have HO1:=HO1.later x_5
 have HB1:=HB1.later x_5
 refine ca eF18 rfl rfl (((show Calls _ _ #[_, .int .i64 (((l++ [x]).length:Int) - 1)] _ _ from (by rw [show ((l++ [x]).length:Int) - 1=(l.length:Int) by rw [hll];omega];exact xP_up b A1 (l++ [x]).length c1 Z (l++ [x]) v0 v1 v2 v3 v4 v5 l.length _ HB1 HO1 hok1 rfl hd1 (by omega)))).mono ?_)
 rintro e w_8 ⟨rfl,HB2,HO2,m_7⟩
 refine ⟨_,rfl, ?_⟩
 have:=m_7.size
 have z_8:=z_4.md m_7 (λ q hq=>(hg1 q hq).imp (List.mem_cons_of_mem _) λ h=>by omega)
 refine nl<|ne<|tR .nil<| ?_
 exact ⟨A1,c1,rfl,by rw [show (Hp.push Nod.all l x).length=(l++ [x]).length by rw [Hp.push_len,hll]];exact HB2,HO2,hg1,z_8⟩
theorem xP_pop (b:Nat) (A:Option Addr) (n c Z:Nat) (l:List Nod) (v0 v1 v2 v3 v4 v5:Value) (w:World) (HB:Blk w b [v0,v1,v2,v3,v4,v5, .slice A n c] 265 (0,0)) (HO:Nod.rep.SOwn 313 32 w Z (Rep.blkOf A) A c (l)) (hok:∀ y∈l,y.ok) (hn:l.length=n) (hd:∀ q∈Rep.blkOf A,q=b→False) (h0:0<n) (hbig:n≤1000000):
  Calls Tryz.prog 220 #[.iface 311 (.pointer (some ⟨b,6,none⟩))] w (λ e w'=>e= .returned (.iface 313 (.agg (l.getD 0 default).cells.toArray))∧Blk w' b [v0,v1,v2,v3,v4,v5, .slice A (Hp.popL Nod.all l).length c] 265 (0,0)∧Nod.rep.SOwn 313 32 w' Z (Rep.blkOf A) A c (Hp.popL Nod.all l)∧Mod (b::Rep.blkOf A) w w'):=by
 have uO:=λ q hq=>(HO.lt q hq).2
 have qB:=HB.lt
 have hn63:=HO.has.2.1
 have hn64:=HO.has.len_le
 have hn65:=HO.has.1
 refine calls_W (n:=15) Tryz.func220 rfl rfl rfl ?_
 refine sg<|va rfl<|nK<|sg<|vm rfl<|iv eF17 rfl rfl (meth_val (e:= 263) (by kernel_rfl) (HB.one eF11 rfl)) rfl ((xP_len _ n _ _).mono ?_)
 rintro e w_1 ⟨rfl,x_2⟩
 refine ⟨_,rfl, ?_⟩
 have:=x_2.size
 have z_1:=(Mod.rf (b::Rep.blkOf A) w).trans (Mod.of_ext x_2)
 refine vL (bsu rfl rfl (inI (by omega)))<|va rfl<|nK<|sg<|vm rfl<|vm rfl<| ?_
 have HB:=HB.later x_2
 have HO:=HO.later x_2
 refine iv eF13 rfl rfl (meth_val (e:= 263) (by kernel_rfl) (HB.one eF11 rfl)) rfl ((xP_swap _ _ _ _ l 0 ((n:Int) - 1) 0 (n - 1) _ HO hok (by omega) (by omega) (by omega) (by omega) (by omega)).mono ?_)
 rintro e w_6 ⟨rfl,O_4,m_5⟩
 refine ⟨_,rfl, ?_⟩
 have:=m_5.size
 have z_6:=z_1.md m_5 (λ q hq=> .inl (List.mem_cons_of_mem _ hq))
 have hokO_4:∀ y∈Hp.swp l 0 (n - 1),y.ok:=λ y hy=>hok y ((Hp.swp_perm (by omega) (by omega)).subset hy)
 have hlenO_4:(Hp.swp l 0 (n - 1)).length=n:=by rw [Hp.swp_len];omega
 refine nK<|sg<|vm rfl<|vm rfl<| ?_
 have HB:=HB.mod m_5 (λ hq=>hd _ hq rfl)
 refine ca eF19 rfl rfl (((show Calls _ _ #[_, .int .i64 0, .int .i64 ((n:Int) - 1)] _ _ from (by rw [show (n:Int) - 1=((n - 1:Nat):Int) by omega];exact xP_down b A n c Z (Hp.swp l 0 (n - 1)) v0 v1 v2 v3 v4 v5 0 (n - 1) _ HB O_4 hokO_4 (by omega) hd (by omega) (by omega) hbig))).mono ?_)
 rintro e w_10 ⟨⟨vb_,rfl⟩,HB1,O_8,m_9⟩
 refine ⟨_,rfl, ?_⟩
 have:=m_9.size
 have z_10:=z_6.md m_9 (λ q hq=> .inl (List.mem_cons_of_mem _ hq))
 have hokO_8:∀ y∈Hp.downF Nod.all (n - 1) (Hp.swp l 0 (n - 1)) 0,y.ok:=λ y hy=>hokO_4 y ((Hp.downF_perm _ _ _ _ (Nat.le_refl _) (by omega) (by omega)).subset hy)
 have hlenO_8:(Hp.downF Nod.all (n - 1) (Hp.swp l 0 (n - 1)) 0).length=n:=by rw [Hp.downF_len _ _ _ _ (Nat.le_refl _)];omega
 have uO1:=λ q hq=>(O_8.lt q hq).2
 refine nK<|sg<|vm rfl<|iv eF20 rfl rfl (by unfold Meth;kernel_rfl) rfl ((xP_qpop b A n c Z (Hp.downF Nod.all (n - 1) (Hp.swp l 0 (n - 1)) 0) v0 v1 v2 v3 v4 v5 _ HB1 O_8 hokO_8 (by omega) hd h0).mono ?_)
 rintro e w_13 ⟨rfl,HB9,HO9,m_12⟩
 refine ⟨_,rfl, ?_⟩
 have:=m_12.size
 have z_13:=z_10.md m_12 (λ q hq=> .inl hq)
 refine va rfl<|nK<|rt<|tR (.tmp rfl .nil)<| ?_
 subst hn;exact ⟨by rw [← Hp.popD_last (key:=Nod.all) h0];rfl,by rw [Hp.popL_len];exact HB9,HO9,z_13⟩
end
section
open Go.RowKit
theorem ret_bool {a b:Bool} (h:a=b):Ending.returned (.bool a)= .returned (.bool b):=by rw [h]
theorem below_alloc0 (w:World) (o:Obj):Below w.heap.size w (w.alloc o):=(Below.refl _ w).alloc (Nat.le_refl _) o
end
end Go.Proofs.YtlikikpgmmkjbaaGreat
