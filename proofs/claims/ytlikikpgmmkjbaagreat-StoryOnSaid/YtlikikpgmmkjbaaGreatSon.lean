import Derived.Test.YtlikikpgmmkjbaaGreatGra
import Derived.Test.YtlikikpgmmkjbaaGreatOrw
import Derived.Test.YtlikikpgmmkjbaaGreatBlw
import Derived.Test.YtlikikpgmmkjbaaGreatStl
set_option linter.unusedVariables false
set_option linter.unusedSimpArgs false
set_option maxRecDepth 100000
set_option maxHeartbeats 4000000
namespace Go.Proofs.YtlikikpgmmkjbaaGreat
section
open Go.ChangeShapes Go.WideShapes Go.Deep Go.RowKit
variable {H:Type} {enc:TypeId×Value→H} {P:Program} {w:World} {base:Nat} {held:Bool}
theorem weights_all {e:TypeId} {l:List (DataW H)} {d:DataW H} (h:d∈l):∀ n∈d.weights P e,n∈DataW.weightsAll P e l:=by
  induction l with
  | nil=>cases h
  | cons x r ih =>
    intro n hn
    simp only [DataW.weightsAll,List.mem_append]
    rcases List.mem_cons.1 h with rfl | h
    · exact .inl hn
    · exact .inr (ih h n hn)
theorem Goal.fields {a b:Sh} (iha:∀ t,a.fit P t=true→Goal P w a t) (ihb:∀ t,b.fit P t=true→Goal P w b t) {off:Nat} {f:TypeId×Nat} {r:List (TypeId×Nat)} (h1:f.2=off) (h2:P.cellsOf f.1=a.size) (h3:a.fit P (.inl f.1)=true) (h4:b.fit P (.inr (off+a.size,r))=true):
    Goal P w (.cons a b) (.inr (off,f::r)):=by
  intro H enc base held n cs xs hx hl hw
  obtain ⟨x,ys,rfl,ht,hr⟩:=hx.cons
  have ha:=iha _ h3 H enc base held n _ x ht (fun m hm=>hw m (by simp only [List.map_cons,DataW.weightsEach,List.mem_append];exact .inl hm))
  have hsz:(Sh.cons a b).size=a.size+b.size:=rfl
  have hb:=ihb _ h4 H enc base held n cs ys hr (by omega) (fun m hm=>hw m (by simp only [List.map_cons,DataW.weightsEach,List.mem_append];exact .inr hm))
  rw [h1,h2] at ha
  refine ⟨_,_, ?_,ha.1, ?_,ha.2,hb⟩
  · rw [← List.drop_drop,List.take_append_drop]
  · rw [List.length_drop];omega
theorem weights_same {e:TypeId}:∀ (l:List (DataW H)) (ts:List TypeId),ts.length=l.length→(∀ t∈ts,t=e)→DataW.weightsEach P ts l=DataW.weightsAll P e l
  | [], [],_,_=>rfl
  | d::l,t::ts,h,ht=>by
    rw [DataW.weightsEach,DataW.weightsAll,ht t (by simp),weights_same l ts (by simpa using h) (fun u hu=>ht u (by simp [hu]))]
  | [],_::_,h,_=>by simp at h
  | _::_, [],h,_=>by simp at h
theorem trod_parts {t:TypeId} {fs:List (TypeId×Nat)} {fuel:Nat} {cs:List Value} {x:DataW H×List MemPlace} (hp:partsOf P t=some fs) (h:DataW.trod enc P w base (fun _=>true) held fuel t cs=some x):
    cs.length=P.cellsOf t∧∃ (xs:List (DataW H×List MemPlace)) (n:Nat),FieldsAt enc P w base held n cs fs xs∧x.1.weights P t=DataW.weightsEach P (fs.map (·.1)) (xs.map (·.1)):=by
  unfold partsOf at hp
  split at hp
  · rename_i gs hu
    obtain rfl:=Option.some.inj hp
    obtain ⟨xs,n,_,rfl,hl,hlen,hf⟩:=DataW.trod_struct hu h
    refine ⟨hl,xs,n,⟨by rw [hlen];simp,fun i f hg=> ?_⟩, ?_⟩
    · rw [List.getElem?_map] at hg
      match hgs:gs.toList[i]?,hg with
      | some g,hg =>
        obtain rfl:=Option.some.inj hg
        exact hf i g (by rw [← Array.getElem?_toList];exact hgs)
    · simp only [DataW.weights,hu,List.map_map]
      rfl
  · rename_i m e hu
    obtain rfl:=Option.some.inj hp
    obtain ⟨xs,n,_,rfl,hl,hlen,hf⟩:=DataW.trod_array hu h
    refine ⟨hl,xs,n,⟨by rw [hlen];simp,fun i f hg=> ?_⟩, ?_⟩
    · rw [List.getElem?_map] at hg
      have hi:i<m:=by
        rcases Nat.lt_or_ge i m with h | h
        · exact h
        · rw [List.getElem?_eq_none (by simpa using h)] at hg;cases hg
      rw [List.getElem?_range hi] at hg
      obtain rfl:=Option.some.inj hg
      exact hf i hi
    · simp only [DataW.weights,hu]
      rw [weights_same (e:=e)]
      · simp [hlen]
      · intro u hu;simp at hu;exact hu.2.symm
  · cases hp
theorem goal_of_fit (P:Program) (w:World):∀ (sh:Sh) (t:TypeId ⊕ (Nat×List (TypeId×Nat))),sh.fit P t=true→Goal P w sh t
  | .int k, .inl t,h=>by
    intro H enc base held fuel cs x ht _
    unfold Sh.fit at h
    split at h
    · rename_i k' hu
      obtain rfl:k'=k:=of_decide_eq_true h
      cases fuel with
      | zero=>simp [DataW.trod] at ht
      | succ n =>
        unfold DataW.trod at ht
        rw [hu] at ht
        split at ht<;>simp_all
        exact ⟨rfl,_,rfl,ht.1.2⟩
    · cases h
  | .bool, .inl t,h=>by
    intro H enc base held fuel cs x ht _
    unfold Sh.fit at h
    split at h
    · rename_i hu
      cases fuel with
      | zero=>simp [DataW.trod] at ht
      | succ n =>
        unfold DataW.trod at ht
        rw [hu] at ht
        split at ht<;>simp_all
        exact ⟨rfl,_,rfl⟩
    · cases h
  | .str, .inl t,h=>by
    intro H enc base held fuel cs x ht hw
    unfold Sh.fit at h
    split at h
    · rename_i hu
      cases fuel with
      | zero=>simp [DataW.trod] at ht
      | succ n =>
        unfold DataW.trod at ht
        rw [hu] at ht
        split at ht<;>simp_all
        obtain ⟨h1,rfl⟩:=ht
        refine ⟨rfl,_,rfl,h1, ?_⟩
        simpa [DataW.weights,reachBytes] using hw
    · cases h
  | .slice e by_, .inl t,h=>by
    intro H enc base held fuel cs x ht hw
    unfold Sh.fit at h
    split at h
    · rename_i u hu
      simp only [Bool.and_eq_true,beq_iff_eq] at h
      obtain ⟨⟨h1,h2⟩,h3⟩:=h
      rcases open_slice hu ht with ⟨rfl,_⟩ | ⟨a,len,cap,m,n,D,Pl,rfl,_,hl,hm,hmm,rfl,hi⟩
      · exact ⟨rfl, .inl rfl⟩
      · simp only [if_true] at hmm
        subst hmm
        refine ⟨rfl, .inr ⟨a,len,m,rfl,hl,hm, ?_,fun i him=> ?_⟩⟩
        · have:=hw ((((List.range len).map D).length+((List.range (m - len)).map fun j=>D (len+j)).length) * P.bytesOf u) (by simp [DataW.weights,hu])
          rw [h2] at this
          simp only [List.length_map,List.length_range,reachBytes] at this
          rw [show len+(m - len)=m from by omega] at this
          exact this
        · obtain ⟨cs',hc,ht'⟩:=hi i him
          have hg:=goal_of_fit P w e (.inl u) h3 H enc base held n cs' _ ht' (fun k hk=>hw k (by
            simp only [DataW.weights,hu,List.mem_cons,List.mem_append]
            right
            by_cases hil:i<len
            · exact .inl (weights_all (List.mem_map.2 ⟨i,List.mem_range.2 hil,rfl⟩) k hk)
            · exact .inr (weights_all (List.mem_map.2 ⟨i - len,List.mem_range.2 (by omega),by rw [show len+(i - len)=i from by omega]⟩) k hk)))
          obtain ⟨_,hcl,hat⟩:=World.cells?_some hc
          refine ⟨cs',hg.1,fun j v hv=> ?_,hg.2⟩
          have hj:j<P.cellsOf u:=by have:=(List.getElem?_eq_some_iff.1 hv).1;omega
          rw [h1] at hat hj
          rw [← Go.Deep.add_add,hat j hj,hv]
    · cases h
  | .nil, .inl t,h=>by
    intro H enc base held fuel cs x ht hw
    unfold Sh.fit at h
    simp only [Bool.and_eq_true,beq_iff_eq] at h
    obtain ⟨h0,h1⟩:=h
    have hp:∃ fs,partsOf P t=some fs:=by
      unfold partsOf
      split at h1
      · exact ⟨_,rfl⟩
      · exact ⟨_,rfl⟩
      · cases h1
    obtain ⟨fs,hp⟩:=hp
    have hl:=(trod_parts hp ht).1
    rw [h0] at hl
    exact ⟨hl,List.eq_nil_of_length_eq_zero hl⟩
  | .cons a b, .inl t,h=>by
    intro H enc base held fuel cs x ht hw
    unfold Sh.fit at h
    simp only [Bool.and_eq_true,beq_iff_eq] at h
    obtain ⟨h0,h⟩:=h
    split at h
    · rename_i u o r hp
      obtain ⟨hl,xs,n,hx,he⟩:=trod_parts hp ht
      rw [h0] at hl
      refine ⟨hl, ?_⟩
      simp only [Bool.and_eq_true,beq_iff_eq] at h
      obtain ⟨⟨⟨h1,h2⟩,h3⟩,h4⟩:=h
      have h4:b.fit P (.inr (0+a.size,r))=true:=by rw [Nat.zero_add];exact h4
      exact Goal.fields (w:=w) (f:=(u,o)) (fun t ht=>goal_of_fit P w a t ht) (fun t ht=>goal_of_fit P w b t ht) h1 h2 h3 h4 H enc base held n cs xs hx (by rw [hl];show _=0+(a.size+b.size);omega) (fun m hm=>hw m (by rw [he];exact hm))
    · cases h
  | .nil, .inr (off,fs),h=>by
    intro H enc base held n cs xs hx hl hw
    exact List.eq_nil_of_length_eq_zero (by rw [List.length_drop,hl];simp [Sh.size])
  | .cons a b, .inr (off,fs),h=>by
    unfold Sh.fit at h
    split at h
    · rename_i u o r
      simp only [Bool.and_eq_true,beq_iff_eq] at h
      obtain ⟨⟨⟨h1,h2⟩,h3⟩,h4⟩:=h
      exact Goal.fields (f:=(u,o)) (fun t ht=>goal_of_fit P w a t ht) (fun t ht=>goal_of_fit P w b t ht) h1 h2 h3 h4
    · cases h
  | .int _, .inr _,h=>by simp [Sh.fit] at h
  | .bool, .inr _,h=>by simp [Sh.fit] at h
  | .str, .inr _,h=>by simp [Sh.fit] at h
  | .slice _ _, .inr _,h=>by simp [Sh.fit] at h
theorem ok_of_arg {ts:List TypeId} {ds:List (DataW H)} (sh:Sh) {j:Nat} {t:TypeId} {v:Value} {d:DataW H} {p:List MemPlace} (hfit:sh.fit P (.inl t)=true)
    (hsz:(DataW.weightsEach P ts ds).all (· ≤reachBytes)=true) (ht:ts[j]? =some t) (hd:ds[j]? =some d) (h:DataW.Trod enc P w base (fun _=>true) held t v d p):
    v.cells.toList.length=sh.size∧sh.Ok w v.cells.toList:=by
  obtain ⟨fuel,hf⟩:=h
  exact goal_of_fit P w sh (.inl t) hfit H enc base held fuel _ (d,p) hf (fun n hn=>by
    have:=List.all_eq_true.1 hsz _ (DataW.weights_mem_each ht hd n hn)
    simpa using this)
end
section
open Go.RowKit
open Go.Proofs.YtlikikpgmmkjbaaGreat.Bv
theorem sTn {P:Program} {E:List (Nat×Value)} {w:World} {d:Option Nat} {ty:TypeId} {pos:String} {af:Array Edge} {g:Option (Nat×Bool)} {x y:Operand} {t:TypeId} {A:Option Addr} {len cap e s:Nat} {k:IntKind} (lo m:Nat) {i:Int} (ht:P.underlying t=some (.slice e)) (hs:Sz P e s) (hx:ev E x=some (.slice A len cap)) (hy:ev E y=some (.int k i)) (hi:i=(lo:Int)) (h1:lo≤len) (hm:m=len - lo):
  Runs P E ⟨d, .slice t x (some y) none none,ty,pos,af,g⟩ w (.slice (sA A cap lo s) m (cap - lo)) w:=by
 subst hm;exact sT lo ht hs hx hy hi h1
theorem ords_open {w:World} {A:Option Addr} {n c:Nat} (h:(.slice (.slice Odr.sh 48) 24:Sh).Ok w [.slice A n c]):∃ T L,n=(T:List SV).length∧svRep.SHas 24 w A c T∧Tells w T L:=by
 obtain ⟨A',c',L,e,hL⟩:=Rep.opens_slice (R:=Odr.rep.slice 51 48) (by_:=24) (λ w cs h=>by
  obtain ⟨A,c,l,e,hl⟩:=Rep.opens_slice (R:=Odr.rep) (by_:=48) Odr.opens rfl (by decide) h
  exact ⟨l,A,c,e,hl⟩) rfl (by decide) h
 simp only [List.cons.injEq,Value.slice.injEq,and_true] at e
 obtain ⟨rfl,rfl,rfl⟩:=e
 obtain ⟨s1,s2,s3,s4,ess,s5,s6⟩:=hL
 have key:∀ (ess:List (List Value)) (L:List (List Odr)),All2 (λ es a=>(Odr.rep.slice 51 48).has w es a) ess L→∃ T:List SV,T.length=L.length∧All2 (λ es a=>svRep.has w es a) ess T∧∀ (i:Nat) (v:SV),T[i]? =some v→∃ l:List Odr,L[i]? =some l∧v.n=l.length∧Odr.rep.SHas 48 w v.a v.c l:=by
  intro ess
  induction ess with
  | nil =>
   intro L h
   cases L with
   | nil=>exact ⟨[],rfl,trivial,λ i v h=>by simp at h⟩
   | cons=>exact h.elim
  | cons es ess ih =>
   intro L h
   cases L with
   | nil=>exact h.elim
   | cons l L =>
    obtain ⟨⟨A,c,he,hl⟩,h2⟩:=h
    obtain ⟨T,t1,t2,t3⟩:=ih L h2
    refine ⟨⟨A,l.length,c⟩::T,by simp [t1],⟨⟨he,trivial⟩,t2⟩,λ i v hi=> ?_⟩
    cases i with
    | zero =>
     obtain rfl:=Option.some.inj (show some (⟨A,l.length,c⟩:SV)=some v from hi)
     exact ⟨l,rfl,rfl,hl⟩
    | succ i=>exact t3 i v hi
 obtain ⟨T,t1,t2,t3⟩:=key ess L s5
 exact ⟨T,L,t1.symm,⟨by rw [t1];exact s1,s2,by rw [t1];exact s3,s4,ess,t2,by rw [t1];exact s6⟩,t1,t3⟩
end
section
open Go.RowKit
open Go.Proofs.YtlikikpgmmkjbaaGreat.Bv
theorem Tells.drop_ {w:World} {T:List SV} {L:List (List Odr)} (h:Tells w T L) (k:Nat):Tells w ((T.drop k).take (T.length - k)) (L.drop k):=by
 rw [List.take_of_length_le (by rw [List.length_drop];exact Nat.le_refl _)]
 refine ⟨by rw [List.length_drop,List.length_drop,h.1],λ i v hi=> ?_⟩
 rw [List.getElem?_drop] at hi
 obtain ⟨l,h2,h3,h4⟩:=h.2 _ v hi
 exact ⟨l,by rw [List.getElem?_drop];exact h2,h3,h4⟩
theorem run_good:∀ (L:List (List Odr)) (W:Wd),W.chk=0→runE W L=0→(runW W L).chk=0∧(runW W L).now=W.now+L.length
 | [],W,h,_=>⟨h,by show W.now=_;simp⟩
 | l::r,W,h,h0=>by
  have h1:turnE W l=0:=by
   unfold runE at h0
   split at h0
   ·rename_i h1;exact absurd h0 h1
   ·rename_i h1;simpa using h1
  have h2:runE (turnW W l) r=0:=by
   unfold runE at h0
   rw [if_neg (by simpa using h1)] at h0
   exact h0
  obtain ⟨r1,r2,_⟩:=turn_right h1
  obtain ⟨g1,g2⟩:=run_good r (turnW W l) r1 h2
  refine ⟨g1, ?_⟩
  show (runW (turnW W l) r).now=_
  rw [g2,r2,List.length_cons];omega
theorem on_ok {W V:Wd} {L:List (List Odr)} {n m e:Int} (h:StOk W L) (h0:0≤n) (h1:n≤(L.length:Int)) (h2:m≤(L.length:Int)) (h3:n≤m) (hr:ARes (runW W (L.take n.toNat)) (L.drop n.toNat) (m - n) e V):
  e=0∧V=runW W (L.take m.toNat)∧(runW W (L.take n.toNat)).now=W.now+n:=by
 obtain ⟨g1,g2⟩:=run_good (L.take n.toNat) W h.2.1 (h.take n.toNat).2.2
 have h5:runE (runW W (L.take n.toNat)) (L.drop n.toNat)=0:=by
  have h4:=h.2.2
  rw [← List.take_append_drop n.toNat L,runE_app,if_neg (by simpa using (h.take n.toNat).2.2)] at h4
  exact h4
 obtain ⟨f1,f2⟩:=hr.out ⟨by have:=h.1;rw [List.length_drop];omega,g1,h5⟩ (by omega) (by rw [List.length_drop];omega)
 refine ⟨f1, ?_,by rw [g2,List.length_take];omega⟩
 rw [f2,← runW_app]
 congr 1
 have e1:m.toNat=n.toNat+(m - n).toNat:=by omega
 rw [e1,List.take_add]
end
section
open Go.RowKit
theorem story_open {w:World} {c0:Array Value} (h:(.cons Wd.sh (.cons (.slice (.slice Odr.sh 48) 24) .nil):Sh).Ok w c0.toList):∃ (a:Wd.At) (W:Wd) (A:Option Addr) (c:Nat) (T:List SV) (L:List (List Odr)),c0=#[.int .i64 W.field.wide, .int .i64 W.field.high, .slice a.P W.field.places.length a.p, .slice a.B W.bases.length a.b, .slice a.S W.stocks.length a.s, .slice a.M W.mines.length a.m, .slice a.T W.troops.length a.t, .int .i64 W.next, .int .i64 W.now, .slice A T.length c]∧Wd.Has w a W∧svRep.SHas 24 w A c T∧Tells w T L:=by
 obtain ⟨cs,ds,e,_,_,h1,⟨es,fs,rfl,_,_,h2,rfl⟩⟩:=h
 obtain ⟨a,W,rfl,hW⟩:=Wd.opens w cs h1
 obtain ⟨A,c,L',rfl,_⟩:=Rep.opens_slice (R:=Odr.rep.slice 51 48) (by_:=24) (λ w cs h=>by
  obtain ⟨A,c,l,e,hl⟩:=Rep.opens_slice (R:=Odr.rep) (by_:=48) Odr.opens rfl (by decide) h
  exact ⟨l,A,c,e,hl⟩) rfl (by decide) h2
 obtain ⟨T,L,hn,hT,hL⟩:=ords_open h2
 refine ⟨a,W,A,c,T,L, ?_,hW,hT,hL⟩
 apply Array.ext'
 rw [e,hn]
 rfl
end
section
open Go.RowKit
open Go.Proofs.YtlikikpgmmkjbaaGreat.Bv
theorem storyOn_w (a:Wd.At) (W:Wd) (A:Option Addr) (c:Nat) (T:List SV) (L:List (List Odr)) (n m:Int) (w:World) (hW:Wd.Has w a W) (hT:svRep.SHas 24 w A c T) (hL:Tells w T L):
  Calls Tryz.prog 3 #[.agg #[.int .i64 W.field.wide, .int .i64 W.field.high, .slice a.P W.field.places.length a.p, .slice a.B W.bases.length a.b, .slice a.S W.stocks.length a.s, .slice a.M W.mines.length a.m, .slice a.T W.troops.length a.t, .int .i64 W.next, .int .i64 W.now, .slice A T.length c], .int .i64 n, .int .i64 m] w (λ e w'=>e= .returned (.bool true)∧Ext w w'):=by
 have hlT:=hT.len_le
 refine calls_W (n:=71) Tryz.func3 rfl rfl rfl ?_
 refine sg<|bx rfl rfl rfl rfl λ w_1 b_2 x_3 l_4 B_5=> ?_
 have:=x_3.size
 have z_1:=eT (Ext.rf w) x_3
 have q_7:=B_5.lt
 refine va rfl<|nK<|sg<|vL (ld rfl (B_5.all eF181 eF182))<|vm rfl<|ca eF200 rfl rfl ((at_any a W _ _ T L n _ (hW.keep z_1) (hT.keep z_1) (hL.keep z_1)).mono ?_)
 rintro e w_11 ⟨E8,a8,V8,rfl,hr8,HO8,x_12⟩
 refine ⟨_,rfl, ?_⟩
 have:=x_12.size
 have z_11:=eT z_1 x_12
 have u_9:=λ q hq=>(HO8.lt q hq).2
 have lo_10:=λ q hq=>(HO8.lt q hq).1
 refine vm rfl<|vL (ex rfl rfl)<|vL (ex rfl rfl)<|al rfl eF80 rfl rfl λ w_14 b_15 x_16 l_17 B_18=> ?_
 have:=x_16.size
 have z_14:=eT z_11 x_16
 have q_20:=B_18.lt
 refine st rfl rfl B_18 rfl eF62 rfl rfl rfl λ w_21 m_22 B_18=> ?_
 have:=m_22.size
 have z_21:=Ext.mod z_14 m_22 (ge1 (by omega))
 have:=m_22.size
 refine va rfl<|nK<|sg<| ?_
 have B_5:=B_5.later (eT x_12 x_16)
 have B_5:=B_5.mod m_22 (nm1 (by omega))
 refine vL (ld rfl (B_5.all eF181 eF182))<|vm rfl<|ca eF200 rfl rfl ((at_any a W _ _ T L m _ (hW.keep z_21) (hT.keep z_21) (hL.keep z_21)).mono ?_)
 rintro e w_28 ⟨E25,a25,V25,rfl,hr25,HO25,x_29⟩
 refine ⟨_,rfl, ?_⟩
 have:=x_29.size
 have z_28:=eT z_21 x_29
 have u_26:=λ q hq=>(HO25.lt q hq).2
 have lo_27:=λ q hq=>(HO25.lt q hq).1
 refine vm rfl<|vL (ex rfl rfl)<|vL (ex rfl rfl)<|al rfl eF80 rfl rfl λ w_31 b_32 x_33 l_34 B_35=> ?_
 have:=x_33.size
 have z_31:=eT z_28 x_33
 have q_37:=B_35.lt
 refine st rfl rfl B_35 rfl eF62 rfl rfl rfl λ w_38 m_39 B_35=> ?_
 have:=m_39.size
 have z_38:=Ext.mod z_31 m_39 (ge1 (by omega))
 have:=m_39.size
 refine va rfl<|nK<|sq<|sg<|ca eF205 rfl rfl ((storyLives_any _).mono ?_)
 rintro e w_42 ⟨rfl,x_43⟩
 refine ⟨_,rfl, ?_⟩
 have:=x_43.size
 have z_42:=eT z_38 x_43
 refine vL (nt rfl)<|vm rfl<|ug rfl rfl rfl<|vm rfl<|ug rfl rfl rfl<|vL (bne rfl rfl)<|vL (pkF rfl rfl)<|vm rfl<|vQ rfl rfl rfl rfl (λ hc=>mv rfl) rfl<|vQ rfl rfl rfl rfl (λ hc=>bne (gt hc rfl) rfl) rfl<|vL (pO rfl rfl rfl rfl)<|vm rfl<|vQ rfl rfl rfl rfl (λ hc=>mv rfl) rfl<|vQ rfl rfl rfl rfl (λ hc=>mv rfl) rfl<|vQ rfl rfl rfl rfl (λ hc=>blt (gt hc rfl) (gt hc rfl)) rfl<|vL (pO rfl rfl rfl rfl)<|nK<| ?_
 refine cb rfl (λ h_45=> ?_) (λ h_45=> ?_)
 ·simp only [bS] at h_45
  refine sg<|ca eF205 rfl rfl ((storyLives_any _).mono ?_)
  rintro e w_46 ⟨rfl,x_47⟩
  refine ⟨_,rfl, ?_⟩
  have:=x_47.size
  have z_46:=eT z_42 x_47
  refine va rfl<|nK<|rt<|tT<|tR (.tmp rfl .nil)<| ?_
  exact ⟨rfl,z_46⟩
 ·simp only [bS] at h_45
  have hE1:E8=0:=by omega
  have hE2:E25=0:=by omega
  obtain ⟨o1,o2,o3,o4⟩:=hr8.ok hE1
  obtain ⟨p1,p2,p3,p4⟩:=hr25.ok hE2
  have hmn:n≤m:=by omega
  have hlL:=hL.1
  have hgn:=(Good.of_chk o1.2.1).now
  have h200:=o1.1
  refine sK<|sq<| ?_
  refine rF [(0,0),(2,0),(9,2),(13,2),(14,3)] [0,1,2,3,4,5,6,7,8] 9 [10,11,12,13,14,15] 13 [9,10,11,12,14,15] (by kernel_rfl) (by kernel_rfl) ?_
  have B_18:=B_18.later (eT x_29 x_33)
  have B_18:=B_18.mod m_39 (nm1 (by omega))
  have B_18:=B_18.later x_43
  refine fq1 rfl (λ _ x=>ld rfl ((B_18.later x).all eF61 eF62))<|fw1 rfl (λ _=>fa eF178 rfl)<| ?_
  have B_5:=B_5.later (eT x_29 x_33)
  have B_5:=B_5.mod m_39 (nm1 (by omega))
  have B_5:=B_5.later x_43
  refine fq1 rfl (λ _ x=>ld rfl ((B_5.later x).one eF179 rfl))<|fw1 rfl (λ _=>mv rfl)<|fw1 rfl (λ _=>sTn n.toNat ((T.drop n.toNat).take (T.length - n.toNat)).length Tryz.underlying29 eF174 rfl rfl (by omega) (by omega) (by rw [List.length_take,List.length_drop];omega))<|fw (v:= .agg #[.int .i64 V8.field.wide, .int .i64 V8.field.high, .slice a8.P V8.field.places.length a8.p, .slice a8.B V8.bases.length a8.b, .slice a8.S V8.stocks.length a8.s, .slice a8.M V8.mines.length a8.m, .slice a8.T V8.troops.length a8.t, .int .i64 V8.next, .int .i64 V8.now, .slice (sA A c n.toNat 1) (((T.drop n.toNat).take (T.length - n.toNat)).length) (c - n.toNat)]) rfl rfl (λ _=>bd rfl (by kernel_rfl)) rfl<|fw1 rfl (λ _=>mv rfl)<|fw1 rfl (λ _=>mv rfl)<|fw1 rfl (λ _=>bsu rfl rfl (inI (by omega)))<|fn λ w_49 x_50=> ?_
  have:=x_50.size
  have z_49:=eT z_42 x_50
  refine fk ?_ ?_
  ·have HO8:=HO8.later x_16
   have HO8:=HO8.mod m_22 (fk1 u_9 (by omega))
   have HO8:=HO8.later (eT x_29 x_33)
   have HO8:=HO8.mod m_39 (fk1 u_9 (by omega))
   have HO8:=HO8.later (eT x_43 x_50)
   refine fx rfl rfl rfl λ w_52 x_53 Q hK=>ca eF200 rfl rfl ((at_any a8 V8 _ _ ((T.drop n.toNat).take (T.length - n.toNat)) (L.drop n.toNat) (m - n) _ (HO8.later x_53).has ((hT.keep (eT z_49 x_53)).sub n.toNat T.length (by omega) (Nat.le_refl _)) ((hL.drop_ n.toNat).keep (eT z_49 x_53))).mono ?_)
   rintro e w_57 ⟨E54,a54,V54,rfl,hr54,HO54,x_58⟩
   refine ⟨_,rfl,hK _ _ ⟨eT x_53 x_58, ?_⟩⟩
   have:=x_53.size
   have z_52:=eT z_49 x_53
   have:=x_58.size
   have z_57:=eT z_52 x_58
   have u_55:=λ q hq=>(HO54.lt q hq).2
   have lo_56:=λ q hq=>(HO54.lt q hq).1
   refine fw1 rfl (λ _=>mv rfl)<|fw1 rfl (λ _=>ex rfl rfl)<|fw1 rfl (λ _=>ex rfl rfl)<|fx rfl rfl rfl λ w_61 x_62 Q hK=>al rfl eF80 rfl rfl λ w_63 b_64 x_65 l_66 B_67=>hK _ _ ⟨eT x_62 x_65, ?_⟩
   have:=x_62.size
   have z_61:=eT z_57 x_62
   have:=x_65.size
   have z_63:=eT z_61 x_65
   have q_70:=B_67.lt
   refine fb rfl rfl rfl λ w_71 x_72 Q hK=>st rfl rfl (B_67.later x_72) rfl eF62 rfl rfl rfl λ w_73 m_74 B_67=>hK _ _ ?_
   have:=x_72.size
   have z_71:=eT z_63 x_72
   have:=m_74.size
   have z_73:=Ext.mod z_71 m_74 (ge1 (by omega))
   have:=m_74.size
   refine fw1 rfl (λ _=>as_ rfl)<|fn λ w_78 x_79=> ?_
   have:=x_79.size
   have z_78:=eT z_73 x_79
   refine nT<|sg<|vm rfl<|vL (beq rfl rfl)<|vm rfl<| ?_
   have B_35:=B_35.later (eT x_43 (eT x_50 (eT x_53 (eT x_58 (eT x_62 (eT x_65 x_72))))))
   have B_35:=B_35.mod m_74 (nm1 (by omega))
   have B_35:=B_35.later x_79
   refine vQ rfl rfl rfl rfl (λ hc=>ld rfl (B_35.all eF61 eF62)) rfl<| ?_
   have B_67:=B_67.later x_79
   refine vQ rfl rfl rfl rfl (λ hc=>ld rfl (B_67.all eF61 eF62)) rfl<| ?_
   have HO25:=HO25.later x_33
   have HO25:=HO25.mod m_39 (fk1 u_26 (by omega))
   have HO25:=HO25.later (eT x_43 (eT x_50 (eT x_53 (eT x_58 (eT x_62 (eT x_65 x_72))))))
   have HO25:=HO25.mod m_74 (fk1 u_26 (by omega))
   have HO25:=HO25.later x_79
   have HO54:=HO54.later (eT x_62 (eT x_65 x_72))
   have HO54:=HO54.mod m_74 (fk1 u_55 (by omega))
   have HO54:=HO54.later x_79
   refine vC rfl rfl rfl rfl eF206 (λ hc=>ec (gt hc rfl) (ec (gt hc rfl) rfl)) (λ hc=>sameWorld_any _ a25 V25 a54 V54 HO25.has HO54.has) rfl λ w_81 x_82=> ?_
   have:=x_82.size
   have z_81:=eT z_78 x_82
   refine vL (pA rfl rfl rfl rfl)<|vm rfl<|vQ rfl rfl rfl rfl (λ hc=>fa eF134 rfl) rfl<| ?_
   have B_18:=B_18.later (eT x_50 (eT x_53 (eT x_58 (eT x_62 (eT x_65 x_72)))))
   have B_18:=B_18.mod m_74 (nm1 (by omega))
   have B_18:=B_18.later (eT x_79 x_82)
   refine vQ rfl rfl rfl rfl (λ hc=>ld (gt hc rfl) (B_18.one eF1 rfl)) rfl<|vQ rfl rfl rfl rfl (λ hc=>fa eF177 rfl) rfl<|vQ rfl rfl rfl rfl (λ hc=>fa eF134 (gt hc rfl)) rfl<| ?_
   have B_5:=B_5.later (eT x_50 (eT x_53 (eT x_58 (eT x_62 (eT x_65 x_72)))))
   have B_5:=B_5.mod m_74 (nm1 (by omega))
   have B_5:=B_5.later (eT x_79 x_82)
   refine vQ rfl rfl rfl rfl (λ hc=>ld (gt hc rfl) (B_5.one eF1 rfl)) rfl<|vQ rfl rfl rfl rfl (λ hc=>mv rfl) rfl<|vQ rfl rfl rfl rfl (λ hc=>bad (gt hc rfl) (gt hc rfl) (inI (by (try simp only [bS] at hc);omega))) rfl<|vQ rfl rfl rfl rfl (λ hc=>beq (gt hc rfl) (gt hc rfl)) rfl<|vL (pA rfl rfl rfl rfl)<|va rfl<|nK<|rt<|tR (.tmp rfl .nil)<| ?_
   obtain ⟨f1,f2,f3⟩:=on_ok o1 o2 o3 p3 hmn (o4 ▸ hr54)
   have f4:V25=V54:=by rw [p4,f2]
   have f5:V8.now=W.now+n:=by rw [o4];exact f3
   exact ⟨ret_true (by simp [f1,f4,f5]),z_81⟩
  ·refine fx rfl rfl rfl λ w_84 x_85 Q hK=>al rfl eF80 rfl rfl λ w_86 b_87 x_88 l_89 B_90=>hK _ _ ⟨eT x_85 x_88, ?_⟩
   have:=x_85.size
   have z_84:=eT z_49 x_85
   have:=x_88.size
   have z_86:=eT z_84 x_88
   have q_93:=B_90.lt
   have HO8:=HO8.later x_16
   have HO8:=HO8.mod m_22 (fk1 u_9 (by omega))
   have HO8:=HO8.later (eT x_29 x_33)
   have HO8:=HO8.mod m_39 (fk1 u_9 (by omega))
   have HO8:=HO8.later (eT x_43 (eT x_50 (eT x_85 x_88)))
   refine fx rfl rfl rfl λ w_94 x_95 Q hK=>ca eF200 rfl rfl ((at_any a8 V8 _ _ ((T.drop n.toNat).take (T.length - n.toNat)) (L.drop n.toNat) (m - n) _ (HO8.later x_95).has ((hT.keep (eT z_86 x_95)).sub n.toNat T.length (by omega) (Nat.le_refl _)) ((hL.drop_ n.toNat).keep (eT z_86 x_95))).mono ?_)
   rintro e w_99 ⟨E96,a96,V96,rfl,hr96,HO96,x_100⟩
   refine ⟨_,rfl,hK _ _ ⟨eT x_95 x_100, ?_⟩⟩
   have:=x_95.size
   have z_94:=eT z_86 x_95
   have:=x_100.size
   have z_99:=eT z_94 x_100
   have u_97:=λ q hq=>(HO96.lt q hq).2
   have lo_98:=λ q hq=>(HO96.lt q hq).1
   refine fw1 rfl (λ _=>mv rfl)<|fw1 rfl (λ _=>ex rfl rfl)<|fw1 rfl (λ _=>ex rfl rfl)<| ?_
   have B_90:=B_90.later (eT x_95 x_100)
   refine fb rfl rfl rfl λ w_103 x_104 Q hK=>st rfl rfl (B_90.later x_104) rfl eF62 rfl rfl rfl λ w_105 m_106 B_90=>hK _ _ ?_
   have:=x_104.size
   have z_103:=eT z_99 x_104
   have:=m_106.size
   have z_105:=Ext.mod z_103 m_106 (ge1 (by omega))
   have:=m_106.size
   refine fw1 rfl (λ _=>as_ rfl)<|fn λ w_110 x_111=> ?_
   have:=x_111.size
   have z_110:=eT z_105 x_111
   refine nT<|sg<|vm rfl<|vL (beq rfl rfl)<|vm rfl<| ?_
   have B_35:=B_35.later (eT x_43 (eT x_50 (eT x_85 (eT x_88 (eT x_95 (eT x_100 x_104))))))
   have B_35:=B_35.mod m_106 (nm1 (by omega))
   have B_35:=B_35.later x_111
   refine vQ rfl rfl rfl rfl (λ hc=>ld rfl (B_35.all eF61 eF62)) rfl<| ?_
   have B_90:=B_90.later x_111
   refine vQ rfl rfl rfl rfl (λ hc=>ld rfl (B_90.all eF61 eF62)) rfl<| ?_
   have HO25:=HO25.later x_33
   have HO25:=HO25.mod m_39 (fk1 u_26 (by omega))
   have HO25:=HO25.later (eT x_43 (eT x_50 (eT x_85 (eT x_88 (eT x_95 (eT x_100 x_104))))))
   have HO25:=HO25.mod m_106 (fk1 u_26 (by omega))
   have HO25:=HO25.later x_111
   have HO96:=HO96.later x_104
   have HO96:=HO96.mod m_106 (fk2 lo_98 (by omega))
   have HO96:=HO96.later x_111
   refine vC rfl rfl rfl rfl eF206 (λ hc=>ec (gt hc rfl) (ec (gt hc rfl) rfl)) (λ hc=>sameWorld_any _ a25 V25 a96 V96 HO25.has HO96.has) rfl λ w_113 x_114=> ?_
   have:=x_114.size
   have z_113:=eT z_110 x_114
   refine vL (pA rfl rfl rfl rfl)<|vm rfl<|vQ rfl rfl rfl rfl (λ hc=>fa eF134 rfl) rfl<| ?_
   have B_18:=B_18.later (eT x_50 (eT x_85 (eT x_88 (eT x_95 (eT x_100 x_104)))))
   have B_18:=B_18.mod m_106 (nm1 (by omega))
   have B_18:=B_18.later (eT x_111 x_114)
   refine vQ rfl rfl rfl rfl (λ hc=>ld (gt hc rfl) (B_18.one eF1 rfl)) rfl<|vQ rfl rfl rfl rfl (λ hc=>fa eF177 rfl) rfl<|vQ rfl rfl rfl rfl (λ hc=>fa eF134 (gt hc rfl)) rfl<| ?_
   have B_5:=B_5.later (eT x_50 (eT x_85 (eT x_88 (eT x_95 (eT x_100 x_104)))))
   have B_5:=B_5.mod m_106 (nm1 (by omega))
   have B_5:=B_5.later (eT x_111 x_114)
   refine vQ rfl rfl rfl rfl (λ hc=>ld (gt hc rfl) (B_5.one eF1 rfl)) rfl<|vQ rfl rfl rfl rfl (λ hc=>mv rfl) rfl<|vQ rfl rfl rfl rfl (λ hc=>bad (gt hc rfl) (gt hc rfl) (inI (by (try simp only [bS] at hc);omega))) rfl<|vQ rfl rfl rfl rfl (λ hc=>beq (gt hc rfl) (gt hc rfl)) rfl<|vL (pA rfl rfl rfl rfl)<|va rfl<|nK<|rt<|tR (.tmp rfl .nil)<| ?_
   obtain ⟨f1,f2,f3⟩:=on_ok o1 o2 o3 p3 hmn (o4 ▸ hr96)
   have f4:V25=V96:=by rw [p4,f2]
   have f5:V8.now=W.now+n:=by rw [o4];exact f3
   exact ⟨ret_true (by simp [f1,f4,f5]),z_113⟩
theorem storyOn_any (c0:Array Value) (a1:Int) (a2:Int) (w:World) (h0:(.cons (.cons (.cons (.int .i64) (.cons (.int .i64) (.cons (.slice (.int .i64) 8) .nil))) (.cons (.slice (.cons (.int .i64) (.cons (.int .i64) .nil)) 16) (.cons (.slice (.int .i64) 8) (.cons (.slice (.int .i64) 8) (.cons (.slice (.cons (.int .i64) (.cons (.int .i64) (.cons (.int .i64) (.cons (.cons (.int .i64) (.cons (.int .i64) .nil)) (.cons (.int .i64) (.cons (.int .i64) .nil)))))) 56) (.cons (.int .i64) (.cons (.int .i64) .nil))))))) (.cons (.slice (.slice (.cons (.int .i64) (.cons (.int .i64) (.cons (.int .i64) (.cons (.cons (.int .i64) (.cons (.int .i64) .nil)) (.cons (.int .i64) .nil))))) 48) 24) .nil):Sh).Ok w c0.toList) (w1:(Lit.int .i64 a1).wf=true) (w2:(Lit.int .i64 a2).wf=true):
  Calls Tryz.prog 3 #[.agg c0, .int .i64 a1, .int .i64 a2] w λ e w'=>e= .returned (.bool true)∧Below w.heap.size w w':=by
 obtain ⟨a,W,A,c,T,L,rfl,hW,hT,hL⟩:=story_open h0
 exact storyOn_w a W A c T L a1 a2 w hW hT hL
end
end Go.Proofs.YtlikikpgmmkjbaaGreat
