import Derived.Test.YtlikikpgmmkjbaaGreatGra
import Derived.Test.YtlikikpgmmkjbaaGreatOrw
import Derived.Test.YtlikikpgmmkjbaaGreatBlw
import Derived.Test.YtlikikpgmmkjbaaGreatStl
set_option linter.unusedVariables false
set_option linter.unusedSimpArgs false
set_option maxRecDepth 100000
set_option maxHeartbeats 4000000
namespace Go.Proofs.YtlikikpgmmkjbaaGreat
section
open Go.ChangeShapes Go.WideShapes Go.Deep Go.RowKit
variable {H:Type} {enc:TypeId×Value→H} {P:Program} {w:World} {base:Nat} {held:Bool}
theorem weights_all {e:TypeId} {l:List (DataW H)} {d:DataW H} (h:d∈l):∀ n∈d.weights P e,n∈DataW.weightsAll P e l:=by
  induction l with
  | nil=>cases h
  | cons x r ih =>
    intro n hn
    simp only [DataW.weightsAll,List.mem_append]
    rcases List.mem_cons.1 h with rfl | h
    · exact .inl hn
    · exact .inr (ih h n hn)
theorem Goal.fields {a b:Sh} (iha:∀ t,a.fit P t=true→Goal P w a t) (ihb:∀ t,b.fit P t=true→Goal P w b t) {off:Nat} {f:TypeId×Nat} {r:List (TypeId×Nat)} (h1:f.2=off) (h2:P.cellsOf f.1=a.size) (h3:a.fit P (.inl f.1)=true) (h4:b.fit P (.inr (off+a.size,r))=true):
    Goal P w (.cons a b) (.inr (off,f::r)):=by
  intro H enc base held n cs xs hx hl hw
  obtain ⟨x,ys,rfl,ht,hr⟩:=hx.cons
  have ha:=iha _ h3 H enc base held n _ x ht (fun m hm=>hw m (by simp only [List.map_cons,DataW.weightsEach,List.mem_append];exact .inl hm))
  have hsz:(Sh.cons a b).size=a.size+b.size:=rfl
  have hb:=ihb _ h4 H enc base held n cs ys hr (by omega) (fun m hm=>hw m (by simp only [List.map_cons,DataW.weightsEach,List.mem_append];exact .inr hm))
  rw [h1,h2] at ha
  refine ⟨_,_, ?_,ha.1, ?_,ha.2,hb⟩
  · rw [← List.drop_drop,List.take_append_drop]
  · rw [List.length_drop];omega
theorem weights_same {e:TypeId}:∀ (l:List (DataW H)) (ts:List TypeId),ts.length=l.length→(∀ t∈ts,t=e)→DataW.weightsEach P ts l=DataW.weightsAll P e l
  | [], [],_,_=>rfl
  | d::l,t::ts,h,ht=>by
    rw [DataW.weightsEach,DataW.weightsAll,ht t (by simp),weights_same l ts (by simpa using h) (fun u hu=>ht u (by simp [hu]))]
  | [],_::_,h,_=>by simp at h
  | _::_, [],h,_=>by simp at h
theorem trod_parts {t:TypeId} {fs:List (TypeId×Nat)} {fuel:Nat} {cs:List Value} {x:DataW H×List MemPlace} (hp:partsOf P t=some fs) (h:DataW.trod enc P w base (fun _=>true) held fuel t cs=some x):
    cs.length=P.cellsOf t∧∃ (xs:List (DataW H×List MemPlace)) (n:Nat),FieldsAt enc P w base held n cs fs xs∧x.1.weights P t=DataW.weightsEach P (fs.map (·.1)) (xs.map (·.1)):=by
  unfold partsOf at hp
  split at hp
  · rename_i gs hu
    obtain rfl:=Option.some.inj hp
    obtain ⟨xs,n,_,rfl,hl,hlen,hf⟩:=DataW.trod_struct hu h
    refine ⟨hl,xs,n,⟨by rw [hlen];simp,fun i f hg=> ?_⟩, ?_⟩
    · rw [List.getElem?_map] at hg
      match hgs:gs.toList[i]?,hg with
      | some g,hg =>
        obtain rfl:=Option.some.inj hg
        exact hf i g (by rw [← Array.getElem?_toList];exact hgs)
    · simp only [DataW.weights,hu,List.map_map]
      rfl
  · rename_i m e hu
    obtain rfl:=Option.some.inj hp
    obtain ⟨xs,n,_,rfl,hl,hlen,hf⟩:=DataW.trod_array hu h
    refine ⟨hl,xs,n,⟨by rw [hlen];simp,fun i f hg=> ?_⟩, ?_⟩
    · rw [List.getElem?_map] at hg
      have hi:i<m:=by
        rcases Nat.lt_or_ge i m with h | h
        · exact h
        · rw [List.getElem?_eq_none (by simpa using h)] at hg;cases hg
      rw [List.getElem?_range hi] at hg
      obtain rfl:=Option.some.inj hg
      exact hf i hi
    · simp only [DataW.weights,hu]
      rw [weights_same (e:=e)]
      · simp [hlen]
      · intro u hu;simp at hu;exact hu.2.symm
  · cases hp
theorem goal_of_fit (P:Program) (w:World):∀ (sh:Sh) (t:TypeId ⊕ (Nat×List (TypeId×Nat))),sh.fit P t=true→Goal P w sh t
  | .int k, .inl t,h=>by
    intro H enc base held fuel cs x ht _
    unfold Sh.fit at h
    split at h
    · rename_i k' hu
      obtain rfl:k'=k:=of_decide_eq_true h
      cases fuel with
      | zero=>simp [DataW.trod] at ht
      | succ n =>
        unfold DataW.trod at ht
        rw [hu] at ht
        split at ht<;>simp_all
        exact ⟨rfl,_,rfl,ht.1.2⟩
    · cases h
  | .bool, .inl t,h=>by
    intro H enc base held fuel cs x ht _
    unfold Sh.fit at h
    split at h
    · rename_i hu
      cases fuel with
      | zero=>simp [DataW.trod] at ht
      | succ n =>
        unfold DataW.trod at ht
        rw [hu] at ht
        split at ht<;>simp_all
        exact ⟨rfl,_,rfl⟩
    · cases h
  | .str, .inl t,h=>by
    intro H enc base held fuel cs x ht hw
    unfold Sh.fit at h
    split at h
    · rename_i hu
      cases fuel with
      | zero=>simp [DataW.trod] at ht
      | succ n =>
        unfold DataW.trod at ht
        rw [hu] at ht
        split at ht<;>simp_all
        obtain ⟨h1,rfl⟩:=ht
        refine ⟨rfl,_,rfl,h1, ?_⟩
        simpa [DataW.weights,reachBytes] using hw
    · cases h
  | .slice e by_, .inl t,h=>by
    intro H enc base held fuel cs x ht hw
    unfold Sh.fit at h
    split at h
    · rename_i u hu
      simp only [Bool.and_eq_true,beq_iff_eq] at h
      obtain ⟨⟨h1,h2⟩,h3⟩:=h
      rcases open_slice hu ht with ⟨rfl,_⟩ | ⟨a,len,cap,m,n,D,Pl,rfl,_,hl,hm,hmm,rfl,hi⟩
      · exact ⟨rfl, .inl rfl⟩
      · simp only [if_true] at hmm
        subst hmm
        refine ⟨rfl, .inr ⟨a,len,m,rfl,hl,hm, ?_,fun i him=> ?_⟩⟩
        · have:=hw ((((List.range len).map D).length+((List.range (m - len)).map fun j=>D (len+j)).length) * P.bytesOf u) (by simp [DataW.weights,hu])
          rw [h2] at this
          simp only [List.length_map,List.length_range,reachBytes] at this
          rw [show len+(m - len)=m from by omega] at this
          exact this
        · obtain ⟨cs',hc,ht'⟩:=hi i him
          have hg:=goal_of_fit P w e (.inl u) h3 H enc base held n cs' _ ht' (fun k hk=>hw k (by
            simp only [DataW.weights,hu,List.mem_cons,List.mem_append]
            right
            by_cases hil:i<len
            · exact .inl (weights_all (List.mem_map.2 ⟨i,List.mem_range.2 hil,rfl⟩) k hk)
            · exact .inr (weights_all (List.mem_map.2 ⟨i - len,List.mem_range.2 (by omega),by rw [show len+(i - len)=i from by omega]⟩) k hk)))
          obtain ⟨_,hcl,hat⟩:=World.cells?_some hc
          refine ⟨cs',hg.1,fun j v hv=> ?_,hg.2⟩
          have hj:j<P.cellsOf u:=by have:=(List.getElem?_eq_some_iff.1 hv).1;omega
          rw [h1] at hat hj
          rw [← Go.Deep.add_add,hat j hj,hv]
    · cases h
  | .nil, .inl t,h=>by
    intro H enc base held fuel cs x ht hw
    unfold Sh.fit at h
    simp only [Bool.and_eq_true,beq_iff_eq] at h
    obtain ⟨h0,h1⟩:=h
    have hp:∃ fs,partsOf P t=some fs:=by
      unfold partsOf
      split at h1
      · exact ⟨_,rfl⟩
      · exact ⟨_,rfl⟩
      · cases h1
    obtain ⟨fs,hp⟩:=hp
    have hl:=(trod_parts hp ht).1
    rw [h0] at hl
    exact ⟨hl,List.eq_nil_of_length_eq_zero hl⟩
  | .cons a b, .inl t,h=>by
    intro H enc base held fuel cs x ht hw
    unfold Sh.fit at h
    simp only [Bool.and_eq_true,beq_iff_eq] at h
    obtain ⟨h0,h⟩:=h
    split at h
    · rename_i u o r hp
      obtain ⟨hl,xs,n,hx,he⟩:=trod_parts hp ht
      rw [h0] at hl
      refine ⟨hl, ?_⟩
      simp only [Bool.and_eq_true,beq_iff_eq] at h
      obtain ⟨⟨⟨h1,h2⟩,h3⟩,h4⟩:=h
      have h4:b.fit P (.inr (0+a.size,r))=true:=by rw [Nat.zero_add];exact h4
      exact Goal.fields (w:=w) (f:=(u,o)) (fun t ht=>goal_of_fit P w a t ht) (fun t ht=>goal_of_fit P w b t ht) h1 h2 h3 h4 H enc base held n cs xs hx (by rw [hl];show _=0+(a.size+b.size);omega) (fun m hm=>hw m (by rw [he];exact hm))
    · cases h
  | .nil, .inr (off,fs),h=>by
    intro H enc base held n cs xs hx hl hw
    exact List.eq_nil_of_length_eq_zero (by rw [List.length_drop,hl];simp [Sh.size])
  | .cons a b, .inr (off,fs),h=>by
    unfold Sh.fit at h
    split at h
    · rename_i u o r
      simp only [Bool.and_eq_true,beq_iff_eq] at h
      obtain ⟨⟨⟨h1,h2⟩,h3⟩,h4⟩:=h
      exact Goal.fields (f:=(u,o)) (fun t ht=>goal_of_fit P w a t ht) (fun t ht=>goal_of_fit P w b t ht) h1 h2 h3 h4
    · cases h
  | .int _, .inr _,h=>by simp [Sh.fit] at h
  | .bool, .inr _,h=>by simp [Sh.fit] at h
  | .str, .inr _,h=>by simp [Sh.fit] at h
  | .slice _ _, .inr _,h=>by simp [Sh.fit] at h
theorem ok_of_arg {ts:List TypeId} {ds:List (DataW H)} (sh:Sh) {j:Nat} {t:TypeId} {v:Value} {d:DataW H} {p:List MemPlace} (hfit:sh.fit P (.inl t)=true)
    (hsz:(DataW.weightsEach P ts ds).all (· ≤reachBytes)=true) (ht:ts[j]? =some t) (hd:ds[j]? =some d) (h:DataW.Trod enc P w base (fun _=>true) held t v d p):
    v.cells.toList.length=sh.size∧sh.Ok w v.cells.toList:=by
  obtain ⟨fuel,hf⟩:=h
  exact goal_of_fit P w sh (.inl t) hfit H enc base held fuel _ (d,p) hf (fun n hn=>by
    have:=List.all_eq_true.1 hsz _ (DataW.weights_mem_each ht hd n hn)
    simpa using this)
end
section
open Go.RowKit
open Go.Proofs.YtlikikpgmmkjbaaGreat.Bv
theorem eF207:Enters Tryz.prog 28 :=en Tryz.func28 (by kernel_rfl) (by kernel_rfl)
theorem eF208:Sz Tryz.prog 29 1:=fun _=>by kernel_rfl
theorem eF209:Enters Tryz.prog 59 :=en Tryz.func59 (by kernel_rfl) (by kernel_rfl)
theorem eF210:Enters Tryz.prog 21 :=en Tryz.func21 (by kernel_rfl) (by kernel_rfl)
theorem eF211:Enters Tryz.prog 23 :=en Tryz.func23 (by kernel_rfl) (by kernel_rfl)
theorem eF212:Enters Tryz.prog 24 :=en Tryz.func24 (by kernel_rfl) (by kernel_rfl)
theorem eF213:Enters Tryz.prog 22 :=en Tryz.func22 (by kernel_rfl) (by kernel_rfl)
theorem raw0V:∀ (j:Nat) u,(Value.slice none 0 0).cells[j]? =some u→svRep.raw j u:=by
 intro j u hu
 have hu:(#[(.slice none 0 0:Value)]:Array Value)[j]? =some u:=hu
 match j,hu with
 | 0,hu=>exact ⟨_,_,_,(Option.some.inj hu).symm⟩
 | j+1,hu=>simp at hu
theorem Odr.plain:Odr.rep.Plain:=Rep.flat_plain
theorem info_ords:(Tryz.prog.info? 44).map (λ i=>(i.zero,i.size,i.bytes))=some (some (.slice none 0 0),1,24):=by kernel_rfl
theorem RootR.ok {W:Wd} {L:List (List Odr)} {n e:Int} {r:BitVec 64} (h:RootR W L n e r) (h0:e=0):StOk W L∧0≤n∧n≤(L.length:Int)∧r=Tree.rootL (Tree.lists ((L.take n.toNat).map wrT)):=by
 rcases h with h | h
 ·exact h.2
 ·exact absurd h0 h.1
theorem ShowR.ok {W:Wd} {L:List (List Odr)} {n e:Int} {s:ByteArray} {t:List (BitVec 64)} (h:ShowR W L n e s t) (h0:e=0):StOk W L∧0≤n∧n<(L.length:Int)∧s=(L.map wrT).getD n.toNat ByteArray.empty∧t=Tree.trailF (L.map wrT).length (Tree.lists (L.map wrT)) n.toNat:=by
 rcases h with h | h
 ·exact h.2
 ·exact absurd h0 h.1
theorem sTn {P:Program} {E:List (Nat×Value)} {w:World} {d:Option Nat} {ty:TypeId} {pos:String} {af:Array Edge} {g:Option (Nat×Bool)} {x y:Operand} {t:TypeId} {A:Option Addr} {len cap e s:Nat} {k:IntKind} (lo m:Nat) {i:Int} (ht:P.underlying t=some (.slice e)) (hs:Sz P e s) (hx:ev E x=some (.slice A len cap)) (hy:ev E y=some (.int k i)) (hi:i=(lo:Int)) (h1:lo≤len) (hm:m=len - lo):
  Runs P E ⟨d, .slice t x (some y) none none,ty,pos,af,g⟩ w (.slice (sA A cap lo s) m (cap - lo)) w:=by
 subst hm;exact sT lo ht hs hx hy hi h1
theorem ords_open {w:World} {A:Option Addr} {n c:Nat} (h:(.slice (.slice Odr.sh 48) 24:Sh).Ok w [.slice A n c]):∃ T L,n=(T:List SV).length∧svRep.SHas 24 w A c T∧Tells w T L:=by
 obtain ⟨A',c',L,e,hL⟩:=Rep.opens_slice (R:=Odr.rep.slice 51 48) (by_:=24) (λ w cs h=>by
  obtain ⟨A,c,l,e,hl⟩:=Rep.opens_slice (R:=Odr.rep) (by_:=48) Odr.opens rfl (by decide) h
  exact ⟨l,A,c,e,hl⟩) rfl (by decide) h
 simp only [List.cons.injEq,Value.slice.injEq,and_true] at e
 obtain ⟨rfl,rfl,rfl⟩:=e
 obtain ⟨s1,s2,s3,s4,ess,s5,s6⟩:=hL
 have key:∀ (ess:List (List Value)) (L:List (List Odr)),All2 (λ es a=>(Odr.rep.slice 51 48).has w es a) ess L→∃ T:List SV,T.length=L.length∧All2 (λ es a=>svRep.has w es a) ess T∧∀ (i:Nat) (v:SV),T[i]? =some v→∃ l:List Odr,L[i]? =some l∧v.n=l.length∧Odr.rep.SHas 48 w v.a v.c l:=by
  intro ess
  induction ess with
  | nil =>
   intro L h
   cases L with
   | nil=>exact ⟨[],rfl,trivial,λ i v h=>by simp at h⟩
   | cons=>exact h.elim
  | cons es ess ih =>
   intro L h
   cases L with
   | nil=>exact h.elim
   | cons l L =>
    obtain ⟨⟨A,c,he,hl⟩,h2⟩:=h
    obtain ⟨T,t1,t2,t3⟩:=ih L h2
    refine ⟨⟨A,l.length,c⟩::T,by simp [t1],⟨⟨he,trivial⟩,t2⟩,λ i v hi=> ?_⟩
    cases i with
    | zero =>
     obtain rfl:=Option.some.inj (show some (⟨A,l.length,c⟩:SV)=some v from hi)
     exact ⟨l,rfl,rfl,hl⟩
    | succ i=>exact t3 i v hi
 obtain ⟨T,t1,t2,t3⟩:=key ess L s5
 exact ⟨T,L,t1.symm,⟨by rw [t1];exact s1,s2,by rw [t1];exact s3,s4,ess,t2,by rw [t1];exact s6⟩,t1,t3⟩
end
section
open Go.RowKit
open Go.Proofs.YtlikikpgmmkjbaaGreat.Bv
theorem Tells.drop_ {w:World} {T:List SV} {L:List (List Odr)} (h:Tells w T L) (k:Nat):Tells w ((T.drop k).take (T.length - k)) (L.drop k):=by
 rw [List.take_of_length_le (by rw [List.length_drop];exact Nat.le_refl _)]
 refine ⟨by rw [List.length_drop,List.length_drop,h.1],λ i v hi=> ?_⟩
 rw [List.getElem?_drop] at hi
 obtain ⟨l,h2,h3,h4⟩:=h.2 _ v hi
 exact ⟨l,by rw [List.getElem?_drop];exact h2,h3,h4⟩
theorem run_good:∀ (L:List (List Odr)) (W:Wd),W.chk=0→runE W L=0→(runW W L).chk=0∧(runW W L).now=W.now+L.length
 | [],W,h,_=>⟨h,by show W.now=_;simp⟩
 | l::r,W,h,h0=>by
  have h1:turnE W l=0:=by
   unfold runE at h0
   split at h0
   ·rename_i h1;exact absurd h0 h1
   ·rename_i h1;simpa using h1
  have h2:runE (turnW W l) r=0:=by
   unfold runE at h0
   rw [if_neg (by simpa using h1)] at h0
   exact h0
  obtain ⟨r1,r2,_⟩:=turn_right h1
  obtain ⟨g1,g2⟩:=run_good r (turnW W l) r1 h2
  refine ⟨g1, ?_⟩
  show (runW (turnW W l) r).now=_
  rw [g2,r2,List.length_cons];omega
theorem on_ok {W V:Wd} {L:List (List Odr)} {n m e:Int} (h:StOk W L) (h0:0≤n) (h1:n≤(L.length:Int)) (h2:m≤(L.length:Int)) (h3:n≤m) (hr:ARes (runW W (L.take n.toNat)) (L.drop n.toNat) (m - n) e V):
  e=0∧V=runW W (L.take m.toNat)∧(runW W (L.take n.toNat)).now=W.now+n:=by
 obtain ⟨g1,g2⟩:=run_good (L.take n.toNat) W h.2.1 (h.take n.toNat).2.2
 have h5:runE (runW W (L.take n.toNat)) (L.drop n.toNat)=0:=by
  have h4:=h.2.2
  rw [← List.take_append_drop n.toNat L,runE_app,if_neg (by simpa using (h.take n.toNat).2.2)] at h4
  exact h4
 obtain ⟨f1,f2⟩:=hr.out ⟨by have:=h.1;rw [List.length_drop];omega,g1,h5⟩ (by omega) (by rw [List.length_drop];omega)
 refine ⟨f1, ?_,by rw [g2,List.length_take];omega⟩
 rw [f2,← runW_app]
 congr 1
 have e1:m.toNat=n.toNat+(m - n).toNat:=by omega
 rw [e1,List.take_add]
end
section
open Go.RowKit
theorem story_open {w:World} {c0:Array Value} (h:(.cons Wd.sh (.cons (.slice (.slice Odr.sh 48) 24) .nil):Sh).Ok w c0.toList):∃ (a:Wd.At) (W:Wd) (A:Option Addr) (c:Nat) (T:List SV) (L:List (List Odr)),c0=#[.int .i64 W.field.wide, .int .i64 W.field.high, .slice a.P W.field.places.length a.p, .slice a.B W.bases.length a.b, .slice a.S W.stocks.length a.s, .slice a.M W.mines.length a.m, .slice a.T W.troops.length a.t, .int .i64 W.next, .int .i64 W.now, .slice A T.length c]∧Wd.Has w a W∧svRep.SHas 24 w A c T∧Tells w T L:=by
 obtain ⟨cs,ds,e,_,_,h1,⟨es,fs,rfl,_,_,h2,rfl⟩⟩:=h
 obtain ⟨a,W,rfl,hW⟩:=Wd.opens w cs h1
 obtain ⟨A,c,L',rfl,_⟩:=Rep.opens_slice (R:=Odr.rep.slice 51 48) (by_:=24) (λ w cs h=>by
  obtain ⟨A,c,l,e,hl⟩:=Rep.opens_slice (R:=Odr.rep) (by_:=48) Odr.opens rfl (by decide) h
  exact ⟨l,A,c,e,hl⟩) rfl (by decide) h2
 obtain ⟨T,L,hn,hT,hL⟩:=ords_open h2
 refine ⟨a,W,A,c,T,L, ?_,hW,hT,hL⟩
 apply Array.ext'
 rw [e,hn]
 rfl
end
end Go.Proofs.YtlikikpgmmkjbaaGreat
