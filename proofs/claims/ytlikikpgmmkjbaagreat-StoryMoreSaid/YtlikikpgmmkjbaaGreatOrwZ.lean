import Derived.Test.YtlikikpgmmkjbaaGreatGra
import Derived.Test.YtlikikpgmmkjbaaGreatPpt
import Derived.Test.YtlikikpgmmkjbaaGreatBas
import Derived.Test.YtlikikpgmmkjbaaGreatProg
import Derived.Test.YtlikikpgmmkjbaaGreatGolR
import Derived.Test.YtlikikpgmmkjbaaGreatCelK
import Derived.Test.YtlikikpgmmkjbaaGreatBlw
import Derived.Test.YtlikikpgmmkjbaaGreatGooD
set_option linter.unusedVariables false
set_option linter.unusedSimpArgs false
set_option maxRecDepth 100000
set_option maxHeartbeats 4000000
namespace Go.Proofs.YtlikikpgmmkjbaaGreat
section
open Go.RowKit
theorem step1_dat {f:Fld} {l:List Gox} {T:List Trp} {k:Nat} {c:Cel} (h:step1 f l T k=some c):
  0≤goK l (T.getD k default).id∧findE f (T.getD k default).spot (l.getD (goK l (T.getD k default).id).toNat default).to_=0∧2≤(findP f (T.getD k default).spot (l.getD (goK l (T.getD k default).id).toNat default).to_).length∧
  c=(findP f (T.getD k default).spot (l.getD (goK l (T.getD k default).id).toNat default).to_).getD 1 default∧occ T c≤0:=by
 unfold step1 at h
 split at h
 ·exact nomatch h
 ·split at h
  ·exact nomatch h
  ·split at h
   ·exact nomatch h
   ·split at h
    ·exact nomatch h
    ·rename_i h1 h2 h3 h4
     injection h with h
     subst h
     exact ⟨by omega,by simpa using h2,by omega,rfl,by omega⟩
theorem wayB_head {f:Fld} {a:Cel} {fr:Cel→Int} (h:Frs f a fr) {c:Cel} (hc:0≤fr c):∃ r,wayB f fr a c=c::r∧(r= []↔c=a):=by
 by_cases e:c=a
 ·subst e;exact ⟨[],wayB_self h,by simp⟩
 ·obtain ⟨p1,p2,p3,p4⟩:=h.prev hc e
  refine ⟨_,wayB_step h hc e,⟨λ hr=> ?_,λ h=>absurd h e⟩⟩
  by_cases e2:prevF f fr c=a
  ·rw [e2,wayB_self h] at hr;exact nomatch hr
  ·rw [wayB_step h p3 e2] at hr;exact nomatch hr
theorem way_first {f:Fld} {a b x:Cel} (he:findE f a b=0) (hn:2≤(findP f a b).length) (hx:(findP f a b).getD 1 default=x):
  findE f a x=0∧findE f x b=0∧findK f a x+findK f x b=findK f a b∧a∈sidesC x∧f.ground x=true∧x≠a∧findP f a x= [a,x]:=by
 obtain ⟨h1,h2,h3,h4⟩:=way_part he (n:=1) (by omega) hx
 obtain ⟨hf,ha,hb,h0,hk,hp⟩:=find_dat he
 obtain ⟨_,_,gx,hx0,_,hpx⟩:=find_dat h1
 have F:=frF_frs hf ha h0
 have Fx:=frF_frs hf ha hx0
 have hl:(findP f a x).length=2:=by rw [h3,List.length_take];omega
 rw [hpx,List.length_reverse] at hl
 have hxa:x≠a:=by
  intro e
  obtain ⟨r,e1,e2⟩:=wayB_head Fx hx0
  rw [e1,e2.2 e] at hl
  simp at hl
 have hst:=wayB_step Fx hx0 hxa
 obtain ⟨p1,p2,p3,p4⟩:=Fx.prev hx0 hxa
 obtain ⟨r,e1,e2⟩:=wayB_head Fx p3
 rw [hst,e1] at hl
 have hr:r= []:=List.eq_nil_of_length_eq_zero (by simpa using hl)
 have hpa:=e2.1 hr
 refine ⟨h1,h2,h4,by rw [← hpa];exact p1,gx,hxa, ?_⟩
 rw [hpx,hst,e1,hr,hpa];rfl
theorem set_pw {T:List Trp} {k:Nat} {c:Cel} (hP:T.Pairwise Apart) (hk:k<T.length) (hc:occ T c≤0):(T.set k ((T.getD k default).to_ c)).Pairwise Apart:=by
 have hno:∀ t∈T,t.spot≠c:=λ t ht e=>by have:=occ_pos.2 ⟨t,ht,e⟩;omega
 have hek:T.getD k default=T[k]:=by rw [List.getD_eq_getElem?_getD,List.getElem?_eq_getElem hk];rfl
 rw [List.pairwise_iff_getElem] at hP ⊢
 intro i j hi hj hij
 rw [List.length_set] at hi hj
 have h:=hP i j hi hj hij
 rw [List.getElem_set,List.getElem_set]
 split<;>split
 ·omega
 ·rename_i e1 e2
  subst e1
  exact ⟨by have e9:=congrArg Trp.id hek;have h9:=h.1;show (T.getD k default).id<_;omega,λ e=>hno _ (List.getElem_mem hj) e.symm⟩
 ·rename_i e1 e2
  subst e2
  exact ⟨by have e9:=congrArg Trp.id hek;have h9:=h.1;show _<(T.getD k default).id;omega,hno _ (List.getElem_mem hi)⟩
 ·exact h
theorem stS_all {f:Fld} {l:List Gox} {T:List Trp} {Q:Trp→Prop} (hQ:∀ t c,Q t→f.ground c=true→Q (t.to_ c)) (hP:T.Pairwise Apart) (hT:∀ t∈T,Q t):∀ k,k≤T.length→(stS f l T k).1.Pairwise Apart∧∀ t∈(stS f l T k).1,Q t
 | 0,_=>⟨hP,hT⟩
 | k+1,hk=>by
  obtain ⟨ih1,ih2⟩:=stS_all (l:=l) hQ hP hT k (by omega)
  have hl:=(stS_len (f:=f) (l:=l) (T:=T) k).1
  cases hs:step1 f l (stS f l T k).1 k with
  | none=>rw [stS_none rfl hs];exact ⟨ih1,ih2⟩
  | some c =>
   rw [stS_some rfl hs]
   obtain ⟨d1,d2,d3,d4,d5⟩:=step1_dat hs
   obtain ⟨_,_,_,_,g,_⟩:=way_first d2 d3 d4.symm
   refine ⟨set_pw ih1 (by omega) d5,λ t ht=> ?_⟩
   rcases List.mem_or_eq_of_mem_set ht with ht | rfl
   ·exact ih2 t ht
   ·exact hQ _ _ (ih2 _ (mem_dd (by omega))) g
noncomputable def mvC (f:Fld) (l:List Gox) (T:List Trp) (i:Nat):Option Cel:=step1 f l (stS f l T i).1 i
theorem trp_set_self {T:List Trp} {k:Nat} {t:Trp} (h:k<T.length):(T.set k t).getD k default=t:=by rw [List.getD_eq_getElem?_getD,List.getElem?_set_self h];rfl
theorem trp_set_ne {T:List Trp} {k i:Nat} {t:Trp} (h:k≠i):(T.set k t).getD i default=T.getD i default:=by rw [List.getD_eq_getElem?_getD,List.getElem?_set_ne h,List.getD_eq_getElem?_getD]
theorem stS_at {f:Fld} {l:List Gox} {T:List Trp}:∀ k,k≤T.length→∀ i,i<T.length→(stS f l T k).1.getD i default=if i<k then (match mvC f l T i with | some c=>(T.getD i default).to_ c | none=>T.getD i default) else T.getD i default
 | 0,_,i,hi=>by rw [if_neg (by omega)];rfl
 | k+1,hk,i,hi=>by
  have ih:=stS_at (f:=f) (l:=l) (T:=T) k (by omega)
  have hl:=(stS_len (f:=f) (l:=l) (T:=T) k).1
  have hkk:=ih k (by omega)
  rw [if_neg (by omega)] at hkk
  cases hs:mvC f l T k with
  | none =>
   rw [stS_none rfl hs,ih i hi]
   by_cases e:i=k
   ·subst e;rw [if_neg (by omega),if_pos (by omega),hs]
   ·by_cases e2:i<k
    ·rw [if_pos e2,if_pos (by omega)]
    ·rw [if_neg e2,if_neg (by omega)]
  | some c =>
   rw [stS_some rfl hs]
   by_cases e:i=k
   ·subst e;rw [trp_set_self (by omega),if_pos (by omega),hs,hkk]
   ·rw [trp_set_ne (λ h=>e h.symm),ih i hi]
    by_cases e2:i<k
    ·rw [if_pos e2,if_pos (by omega)]
    ·rw [if_neg e2,if_neg (by omega)]
theorem stS_M {f:Fld} {l:List Gox} {T:List Trp}:∀ k,k≤T.length→(stS f l T k).2=((List.range k).filter λ i=>(mvC f l T i).isSome).map λ i=>(T.getD i default).id
 | 0,_=>rfl
 | k+1,hk=>by
  have ih:=stS_M (f:=f) (l:=l) (T:=T) k (by omega)
  have hkk:=stS_at (f:=f) (l:=l) (T:=T) k (by omega) k (by omega)
  rw [if_neg (by omega)] at hkk
  rw [List.range_succ,List.filter_append,List.map_append,List.filter_cons]
  cases hs:mvC f l T k with
  | none=>rw [stS_none rfl hs,ih];simp
  | some c=>rw [stS_some rfl hs,ih,hkk];simp
theorem march_same {W:Wd} {l:List Gox} (h:marchE W l=0):W.chk=0∧marchW W l=(W.stepped l).1∧marchM W l=(W.stepped l).2:=by
 have hc:W.chk=0:=by
  apply Classical.byContradiction
  intro hn
  rw [(march_bad (l:=l) hn).1] at h
  exact hn h
 by_cases hl:(l.length:Int)≤200
 ·have:=march_ok (l:=l) hc hl;exact ⟨hc,this.2⟩
 ·rw [(march_many (l:=l) hc (by omega)).1] at h;exact nomatch h
theorem march_right {W:Wd} {l:List Gox} (h:marchE W l=0):
  Good (marchW W l)∧(marchW W l).troops.length=W.troops.length∧sortedI (marchM W l)=true∧marchW W l= {W with troops:=(marchW W l).troops}∧
  ∀ k,k<W.troops.length→((marchM W l).any (λ y=>(W.troops.getD k default).id == y)=false∧(marchW W l).troops.getD k default=W.troops.getD k default)∨
   ∃ c:Cel,(marchM W l).any (λ y=>(W.troops.getD k default).id == y)=true∧(marchW W l).troops.getD k default=(W.troops.getD k default).to_ c∧0≤goK l (W.troops.getD k default).id∧
    findE W.field (W.troops.getD k default).spot (l.getD (goK l (W.troops.getD k default).id).toNat default).to_=0∧findE W.field c (l.getD (goK l (W.troops.getD k default).id).toNat default).to_=0∧findE W.field (W.troops.getD k default).spot c=0∧
    findK W.field (W.troops.getD k default).spot (l.getD (goK l (W.troops.getD k default).id).toNat default).to_=findK W.field c (l.getD (goK l (W.troops.getD k default).id).toNat default).to_+findK W.field (W.troops.getD k default).spot c∧
    (W.troops.getD k default).spot∈sidesC c:=by
 obtain ⟨hc,eW,eM⟩:=march_same h
 have hG:=Good.of_chk hc
 rw [eW,eM]
 have hall:=stS_all (f:=W.field) (l:=l) (T:=W.troops) (Q:=λ t=>0<t.id∧t.id<W.next∧TroopOk W.field W.bases.length t)
  (λ t c hq hg=>⟨hq.1,hq.2.1,⟨hq.2.2.kind,hq.2.2.owner,hg,hq.2.2.life,hq.2.2.load⟩⟩) hG.pw (λ t ht=>hG.each ht) W.troops.length (Nat.le_refl _)
 have hlen:=stepped_len W l
 have hM:=stS_M (f:=W.field) (l:=l) (T:=W.troops) W.troops.length (Nat.le_refl _)
 have hpw:=hG.pw
 refine ⟨Good.of_pw hG rfl rfl rfl rfl rfl hG.now (by rw [hlen];exact hG.nt) hall.1 hall.2,hlen, ?_,rfl,λ k hk=> ?_⟩
 ·show sortedI (stS W.field l W.troops W.troops.length).2=true
  rw [hM]
  refine sorted_of ?_
  rw [List.pairwise_map]
  have hr:((List.range W.troops.length).filter λ i=>(mvC W.field l W.troops i).isSome).Pairwise (· < ·):=List.Pairwise.filter _ List.pairwise_lt_range
  refine List.Pairwise.imp_of_mem (fun {i j} hi hj hij=> ?_) hr
  have hi:=List.mem_range.1 (List.mem_filter.1 hi).1
  have hj:=List.mem_range.1 (List.mem_filter.1 hj).1
  rw [getD_dd hi,getD_dd hj]
  exact ((List.pairwise_iff_getElem.1 hpw) i j hi hj hij).1
 ·have hat:=stS_at (f:=W.field) (l:=l) (T:=W.troops) W.troops.length (Nat.le_refl _) k hk
  rw [if_pos hk] at hat
  have hkk:=stS_at (f:=W.field) (l:=l) (T:=W.troops) k (by omega) k hk
  rw [if_neg (by omega)] at hkk
  have hany:((W.stepped l).2).any (λ y=>(W.troops.getD k default).id == y)=(mvC W.field l W.troops k).isSome:=by
   show (stS W.field l W.troops W.troops.length).2.any _=_
   rw [hM,Bool.eq_iff_iff,List.any_eq_true]
   constructor
   ·rintro ⟨y,hy,e⟩
    obtain ⟨i,hi,rfl⟩:=List.mem_map.1 hy
    obtain ⟨hi1,hi2⟩:=List.mem_filter.1 hi
    have hi1:=List.mem_range.1 hi1
    have e:(W.troops.getD k default).id=(W.troops.getD i default).id:=by simpa using e
    have:i=k:=by
     rw [getD_dd hk,getD_dd hi1] at e
     rcases Nat.lt_trichotomy i k with q | q | q
     ·have:=((List.pairwise_iff_getElem.1 hpw) i k hi1 hk q).1;omega
     ·exact q
     ·have:=((List.pairwise_iff_getElem.1 hpw) k i hk hi1 q).1;omega
    rw [← this];exact hi2
   ·intro hs
    exact ⟨_,List.mem_map.2 ⟨k,List.mem_filter.2 ⟨List.mem_range.2 hk,hs⟩,rfl⟩,by simp⟩
  cases hs:mvC W.field l W.troops k with
  | none =>
   rw [hs] at hat hany
   exact .inl ⟨hany,hat⟩
  | some c =>
   rw [hs] at hat hany
   obtain ⟨d1,d2,d3,d4,d5⟩:=step1_dat hs
   rw [hkk] at d1 d2 d3 d4
   obtain ⟨f1,f2,f3,f4,f5,f6,f7⟩:=way_first d2 d3 d4.symm
   exact .inr ⟨c,hany,hat,d1,d2,f2,f1,by omega,f4⟩
end
section
open Go.RowKit
structure Odr where
 by_:Int
 kind:Int
 who:Int
 spot:Cel
 what:Int
 deriving DecidableEq,Inhabited
namespace Odr
def cells (a:Odr):List Value:= [.int .i64 (a.by_), .int .i64 (a.kind), .int .i64 (a.who), .int .i64 (a.spot.x), .int .i64 (a.spot.y), .int .i64 (a.what)]
def ok (a:Odr):Prop:=(Lit.int .i64 a.by_).wf=true∧(Lit.int .i64 a.kind).wf=true∧(Lit.int .i64 a.who).wf=true∧(Lit.int .i64 a.spot.x).wf=true∧(Lit.int .i64 a.spot.y).wf=true∧(Lit.int .i64 a.what).wf=true
def raw (j:Nat) (u:Value):Prop:=match j with
 | 0=>∃ n:Int,u= .int .i64 n
 | 1=>∃ n:Int,u= .int .i64 n
 | 2=>∃ n:Int,u= .int .i64 n
 | 3=>∃ n:Int,u= .int .i64 n
 | 4=>∃ n:Int,u= .int .i64 n
 | 5=>∃ n:Int,u= .int .i64 n
 | _=>True
theorem cells_raw (a:Odr):∀ (j:Nat) u,a.cells[j]? =some u→raw j u:=by
 intro j u hu
 match j,hu with
 | 0,hu=>exact ⟨_,(Option.some.inj hu).symm⟩
 | 1,hu=>exact ⟨_,(Option.some.inj hu).symm⟩
 | 2,hu=>exact ⟨_,(Option.some.inj hu).symm⟩
 | 3,hu=>exact ⟨_,(Option.some.inj hu).symm⟩
 | 4,hu=>exact ⟨_,(Option.some.inj hu).symm⟩
 | 5,hu=>exact ⟨_,(Option.some.inj hu).symm⟩
 | j+6,hu=>exact trivial
theorem cells_one (a:Odr):∀ u∈a.cells,u.oneCell'=true:=by
 intro u hu
 unfold cells at hu
 simp only [List.mem_cons,List.not_mem_nil,or_false] at hu
 rcases hu with rfl | rfl | rfl | rfl | rfl | rfl<;>rfl
def rep:Rep Odr:=Rep.flat 6 cells ok raw (λ _=>rfl) cells_one cells_raw
def zero:Value:= .agg #[.int .i64 0, .int .i64 0, .int .i64 0, .int .i64 0, .int .i64 0, .int .i64 0]
theorem zero_raw:∀ (j:Nat) u,zero.cells[j]? =some u→rep.raw j u:=by
 intro j u hu
 have hu:(#[(.int .i64 0:Value),(.int .i64 0:Value),(.int .i64 0:Value),(.int .i64 0:Value),(.int .i64 0:Value),(.int .i64 0:Value)]:Array Value)[j]? =some u:=hu
 match j,hu with
 | 0,hu=>exact ⟨_,(Option.some.inj hu).symm⟩
 | 1,hu=>exact ⟨_,(Option.some.inj hu).symm⟩
 | 2,hu=>exact ⟨_,(Option.some.inj hu).symm⟩
 | 3,hu=>exact ⟨_,(Option.some.inj hu).symm⟩
 | 4,hu=>exact ⟨_,(Option.some.inj hu).symm⟩
 | 5,hu=>exact ⟨_,(Option.some.inj hu).symm⟩
 | j+6,hu=>cases hu
theorem info:(Tryz.prog.info? 51).map (λ i=>(i.zero,i.size,i.bytes))=some (some zero,6,48):=by kernel_rfl
theorem all_ok {by_:Nat} {w:World} {A:Option Addr} {c:Nat} {l:List Odr} (h:rep.SHas by_ w A c l):∀ a∈l,a.ok:=Rep.SHas.all_ (R:=rep) (Q:=ok) (fun {w cs a} (h:rep.has w cs a)=>(show cs=a.cells∧a.ok from h).2) h
def sh:Sh:=(.cons (.int .i64) (.cons (.int .i64) (.cons (.int .i64) (.cons (.cons (.int .i64) (.cons (.int .i64) .nil)) (.cons (.int .i64) .nil)))))
theorem opens (w:World) (cs:List Value) (h:sh.Ok w cs):∃ a,rep.has w cs a:=by
 obtain ⟨_,_,rfl,_,_,⟨x0,rfl,k0⟩,⟨_,_,rfl,_,_,⟨x1,rfl,k1⟩,⟨_,_,rfl,_,_,⟨x2,rfl,k2⟩,⟨_,_,rfl,_,_,⟨_,_,rfl,_,_,⟨x3,rfl,k3⟩,⟨_,_,rfl,_,_,⟨x4,rfl,k4⟩,rfl⟩⟩,⟨_,_,rfl,_,_,⟨x5,rfl,k5⟩,rfl⟩⟩⟩⟩⟩:=h
 exact ⟨⟨x0,x1,x2,⟨x3,x4⟩,x5⟩,rfl,k0,k1,k2,k3,k4,k5⟩
end Odr
end
section
open Go.RowKit
theorem Ords_eqs_api_Order:EqS Tryz.prog Odr.cells 51 :=by
 intro a b w
 obtain ⟨a0,a1,a2,⟨a3,a4⟩,a5⟩:=a
 obtain ⟨b0,b1,b2,⟨b3,b4⟩,b5⟩:=b
 simp only [Odr.cells,Odr.mk.injEq,Cel.mk.injEq]
 constructor
 ·go_simp
  repeat' split
  all_goals simp_all
 ·go_simp
  repeat' split
  all_goals simp_all
theorem Ords_eqg_api_Order:(Tryz.prog).eqGuardType (Tryz.prog).depth 51 =false:=by kernel_rfl
theorem hcO {w:World} {cs:List Value} {a:Odr} (h:Odr.rep.has w cs a):cs=a.cells:=And.left (show cs=a.cells∧a.ok from h)
def Odr.bare (o:Odr):Odr:=⟨o.by_,o.kind,if o.kind=5 then 0 else o.who,if o.kind≠2∧o.kind≠3 then ⟨0,0⟩ else o.spot,if o.kind≠1∧o.kind≠5 then 0 else o.what⟩
def Odr.outR (o:Odr):Bool:= !inB o.by_ 0 7 || !inB o.kind 1 5 || !inB o.who 0 1000000 || !inB o.spot.x (-1000) 1000 || !inB o.spot.y (-1000) 1000 || !inB o.what 0 1000000
def Odr.chk (o:Odr):Int:=if o.outR=true then 1 else if (!decide (o.bare=o))=true then 4 else 0
theorem Odr.chk_arg {o:Odr} (h:o.outR=true):o.chk=1:=by unfold Odr.chk;rw [if_pos h]
theorem Odr.chk_form {o:Odr} (h:o.outR=false) (h2:(!decide (o.bare=o))=true):o.chk=4:=by unfold Odr.chk;rw [if_neg (by rw [h];decide),if_pos h2]
theorem Odr.chk_good {o:Odr} (h:o.outR=false) (h2:(!decide (o.bare=o))=false):o.chk=0:=by unfold Odr.chk;rw [if_neg (by rw [h];decide),if_neg (by rw [h2];decide)]
def ordsE (l:List Odr):Int:=if 100<l.length then 2 else match l.find? (λ o=>o.chk != 0) with | some o=>o.chk | none=>0
theorem ordsE_large {l:List Odr} (h:100<l.length):ordsE l=2:=by unfold ordsE;rw [if_pos h]
theorem ordsE_ok {l:List Odr} (h:l.length≤100) (hg:∀ i,i<l.length→(l.getD i default).chk=0):ordsE l=0:=by
 unfold ordsE;rw [if_neg (by omega)]
 have:l.find? (λ o=>o.chk != 0)=none:=List.find?_eq_none.2 λ x hx=>by
  obtain ⟨i,hi,rfl⟩:=List.mem_iff_getElem.1 hx
  have:=hg i hi
  rw [getD_dd hi] at this;simp [this]
 rw [this]
theorem ordsE_at {l:List Odr} {k:Nat} (h:l.length≤100) (hk:k<l.length) (hg:∀ i,i<k→(l.getD i default).chk=0) (hb:¬ (l.getD k default).chk=0):ordsE l=(l.getD k default).chk:=by
 unfold ordsE;rw [if_neg (by omega)]
 have:l.find? (λ o=>o.chk != 0)=some (l.getD k default):=by
  rw [List.find?_eq_some_iff_getElem]
  refine ⟨by simpa using hb,k,hk,(getD_dd hk).symm,λ j hj=> ?_⟩
  have:=hg j hj
  rw [getD_dd (by omega)] at this;simp [this]
 rw [this]
theorem owithin_any (n lo hi:Int) (w:World):
  Calls Tryz.prog 145 #[.int .i64 n, .int .i64 lo, .int .i64 hi] w (λ e w'=>e= .returned (.bool (inB n lo hi))∧Ext w w'):=by
 refine calls_W (n:=15) Tryz.func145 rfl rfl rfl ?_
 refine sg<|va rfl<|nK<|sg<|vm rfl<|vm rfl<|vL (bge rfl rfl)<|vm rfl<|vQ rfl rfl rfl rfl (λ hc=>mv rfl) rfl<|vQ rfl rfl rfl rfl (λ hc=>mv rfl) rfl<|vQ rfl rfl rfl rfl (λ hc=>ble (gt hc rfl) (gt hc rfl)) rfl<|vL (pA rfl rfl rfl rfl)<|va rfl<|nK<|rt<|tR (.tmp rfl .nil)<| ?_
 exact ⟨rfl,(Ext.rf w)⟩
theorem obare_any (o:Odr) (w:World):
  Calls Tryz.prog 146 #[.agg #[.int .i64 o.by_, .int .i64 o.kind, .int .i64 o.who, .int .i64 o.spot.x, .int .i64 o.spot.y, .int .i64 o.what]] w (λ e w'=>e= .returned (.agg (Odr.bare o).cells.toArray)∧Ext w w'):=by
 refine calls_W (n:=27) Tryz.func146 rfl rfl rfl ?_
 refine sg<|bx rfl rfl rfl rfl λ w_1 b_2 x_3 l_4 B_5=> ?_
 have:=x_3.size
 have z_1:=eT (Ext.rf w) x_3
 have q_7:=B_5.lt
 refine al rfl eF135 rfl rfl λ w_8 b_9 x_10 l_11 B_12=> ?_
 have:=x_10.size
 have z_8:=eT z_1 x_10
 have q_14:=B_12.lt
 refine nK<|sq<|sg<|vL (fa eF136 rfl)<| ?_
 have B_5:=B_5.later x_10
 refine vL (ld rfl (B_5.one eF1 rfl))<|vL (beq rfl rfl)<|nK<| ?_
 refine ceq rfl (λ h_15=> ?_) (λ h_15=> ?_)
 ·refine rg<|vL (fa eF137 rfl)<|st (new:= [.int .i64 o.by_, .int .i64 o.kind, .int .i64 0, .int .i64 o.spot.x, .int .i64 o.spot.y, .int .i64 o.what]) rfl rfl B_5 rfl eF7 rfl rfl rfl λ w_16 m_17 B_5=> ?_
  have:=m_17.size
  have z_16:=Ext.mod z_8 m_17 (ge1 (by omega))
  have:=m_17.size
  refine nK<|sq<|sg<|vL (fa eF136 rfl)<|vL (ld rfl (B_5.one eF1 rfl))<|vL (bne rfl rfl)<|vm rfl<|vQ rfl rfl rfl rfl (λ hc=>fa eF136 rfl) rfl<|vQ rfl rfl rfl rfl (λ hc=>ld (gt hc rfl) (B_5.one eF1 rfl)) rfl<|vQ rfl rfl rfl rfl (λ hc=>bne (gt hc rfl) rfl) rfl<|vL (pA rfl rfl rfl rfl)<|nK<| ?_
  refine cb rfl (λ h_20=> ?_) (λ h_20=> ?_)
  ·simp only [bS] at h_20
   refine rg<|vL (v:= .agg #[.int .i64 0, .int .i64 0]) (bd rfl (by kernel_rfl))<|vL (fa eF138 rfl)<|st (new:= [.int .i64 o.by_, .int .i64 o.kind, .int .i64 0, .int .i64 0, .int .i64 0, .int .i64 o.what]) rfl rfl B_5 rfl eF4 rfl rfl rfl λ w_21 m_22 B_5=> ?_
   have:=m_22.size
   have z_21:=Ext.mod z_16 m_22 (ge1 (by omega))
   have:=m_22.size
   refine nK<|sq<|sg<|vL (fa eF136 rfl)<|vL (ld rfl (B_5.one eF1 rfl))<|vL (bne rfl rfl)<|vm rfl<|vQ rfl rfl rfl rfl (λ hc=>fa eF136 rfl) rfl<|vQ rfl rfl rfl rfl (λ hc=>ld (gt hc rfl) (B_5.one eF1 rfl)) rfl<|vQ rfl rfl rfl rfl (λ hc=>bne (gt hc rfl) rfl) rfl<|vL (pA rfl rfl rfl rfl)<|nK<| ?_
   refine cb rfl (λ h_25=> ?_) (λ h_25=> ?_)
   ·simp only [bS] at h_25
    refine rg<|vL (fa eF139 rfl)<|st (new:= [.int .i64 o.by_, .int .i64 o.kind, .int .i64 0, .int .i64 0, .int .i64 0, .int .i64 0]) rfl rfl B_5 rfl eF7 rfl rfl rfl λ w_26 m_27 B_5=> ?_
    have:=m_27.size
    have z_26:=Ext.mod z_21 m_27 (ge1 (by omega))
    have:=m_27.size
    refine nK<|sg<|vL (ld rfl (B_5.all eF140 eF141))<| ?_
    have B_12:=B_12.mod m_17 (nm1 (by omega))
    have B_12:=B_12.mod m_22 (nm1 (by omega))
    have B_12:=B_12.mod m_27 (nm1 (by omega))
    refine st (new:= [.int .i64 o.by_, .int .i64 o.kind, .int .i64 0, .int .i64 0, .int .i64 0, .int .i64 0]) rfl rfl B_12 rfl eF141 rfl rfl rfl λ w_30 m_31 B_12=> ?_
    have:=m_31.size
    have z_30:=Ext.mod z_26 m_31 (ge1 (by omega))
    have:=m_31.size
    refine nK<|rt<|tR (.cell rfl (B_12.all eF140 eF141) .nil)<| ?_
    exact ⟨by rw [show Odr.bare o=(⟨o.by_,o.kind,0,⟨0,0⟩,0⟩:Odr) from by unfold Odr.bare;congr 1<;>(first | rfl | (split<;>first | rfl | omega))];rfl,z_30⟩
   ·simp only [bS] at h_25
    refine sK<|sg<|vL (ld rfl (B_5.all eF140 eF141))<| ?_
    have B_12:=B_12.mod m_17 (nm1 (by omega))
    have B_12:=B_12.mod m_22 (nm1 (by omega))
    refine st (new:= [.int .i64 o.by_, .int .i64 o.kind, .int .i64 0, .int .i64 0, .int .i64 0, .int .i64 o.what]) rfl rfl B_12 rfl eF141 rfl rfl rfl λ w_34 m_35 B_12=> ?_
    have:=m_35.size
    have z_34:=Ext.mod z_21 m_35 (ge1 (by omega))
    have:=m_35.size
    refine nK<|rt<|tR (.cell rfl (B_12.all eF140 eF141) .nil)<| ?_
    exact ⟨by rw [show Odr.bare o=(⟨o.by_,o.kind,0,⟨0,0⟩,o.what⟩:Odr) from by unfold Odr.bare;congr 1<;>(first | rfl | (split<;>first | rfl | omega))];rfl,z_34⟩
  ·simp only [bS] at h_20
   refine sK<|sq<|sg<|vL (fa eF136 rfl)<|vL (ld rfl (B_5.one eF1 rfl))<|vL (bne rfl rfl)<|vm rfl<|vQ rfl rfl rfl rfl (λ hc=>fa eF136 rfl) rfl<|vQ rfl rfl rfl rfl (λ hc=>ld (gt hc rfl) (B_5.one eF1 rfl)) rfl<|vQ rfl rfl rfl rfl (λ hc=>bne (gt hc rfl) rfl) rfl<|vL (pA rfl rfl rfl rfl)<|nK<| ?_
   refine cb rfl (λ h_38=> ?_) (λ h_38=> ?_)
   ·simp only [bS] at h_38
    refine rg<|vL (fa eF139 rfl)<|st (new:= [.int .i64 o.by_, .int .i64 o.kind, .int .i64 0, .int .i64 o.spot.x, .int .i64 o.spot.y, .int .i64 0]) rfl rfl B_5 rfl eF7 rfl rfl rfl λ w_39 m_40 B_5=> ?_
    have:=m_40.size
    have z_39:=Ext.mod z_16 m_40 (ge1 (by omega))
    have:=m_40.size
    refine nK<|sg<|vL (ld rfl (B_5.all eF140 eF141))<| ?_
    have B_12:=B_12.mod m_17 (nm1 (by omega))
    have B_12:=B_12.mod m_40 (nm1 (by omega))
    refine st (new:= [.int .i64 o.by_, .int .i64 o.kind, .int .i64 0, .int .i64 o.spot.x, .int .i64 o.spot.y, .int .i64 0]) rfl rfl B_12 rfl eF141 rfl rfl rfl λ w_43 m_44 B_12=> ?_
    have:=m_44.size
    have z_43:=Ext.mod z_39 m_44 (ge1 (by omega))
    have:=m_44.size
    refine nK<|rt<|tR (.cell rfl (B_12.all eF140 eF141) .nil)<| ?_
    exact ⟨by rw [show Odr.bare o=(⟨o.by_,o.kind,0,⟨o.spot.x,o.spot.y⟩,0⟩:Odr) from by unfold Odr.bare;congr 1<;>(first | rfl | (split<;>first | rfl | omega))];rfl,z_43⟩
   ·simp only [bS] at h_38
    refine sK<|sg<|vL (ld rfl (B_5.all eF140 eF141))<| ?_
    have B_12:=B_12.mod m_17 (nm1 (by omega))
    refine st (new:= [.int .i64 o.by_, .int .i64 o.kind, .int .i64 0, .int .i64 o.spot.x, .int .i64 o.spot.y, .int .i64 o.what]) rfl rfl B_12 rfl eF141 rfl rfl rfl λ w_47 m_48 B_12=> ?_
    have:=m_48.size
    have z_47:=Ext.mod z_16 m_48 (ge1 (by omega))
    have:=m_48.size
    refine nK<|rt<|tR (.cell rfl (B_12.all eF140 eF141) .nil)<| ?_
    exact ⟨by rw [show Odr.bare o=(⟨o.by_,o.kind,0,⟨o.spot.x,o.spot.y⟩,o.what⟩:Odr) from by unfold Odr.bare;congr 1<;>(first | rfl | (split<;>first | rfl | omega))];rfl,z_47⟩
 ·refine sK<|sq<|sg<|vL (fa eF136 rfl)<|vL (ld rfl (B_5.one eF1 rfl))<|vL (bne rfl rfl)<|vm rfl<|vQ rfl rfl rfl rfl (λ hc=>fa eF136 rfl) rfl<|vQ rfl rfl rfl rfl (λ hc=>ld (gt hc rfl) (B_5.one eF1 rfl)) rfl<|vQ rfl rfl rfl rfl (λ hc=>bne (gt hc rfl) rfl) rfl<|vL (pA rfl rfl rfl rfl)<|nK<| ?_
  refine cb rfl (λ h_51=> ?_) (λ h_51=> ?_)
  ·simp only [bS] at h_51
   refine rg<|vL (v:= .agg #[.int .i64 0, .int .i64 0]) (bd rfl (by kernel_rfl))<|vL (fa eF138 rfl)<|st (new:= [.int .i64 o.by_, .int .i64 o.kind, .int .i64 o.who, .int .i64 0, .int .i64 0, .int .i64 o.what]) rfl rfl B_5 rfl eF4 rfl rfl rfl λ w_52 m_53 B_5=> ?_
   have:=m_53.size
   have z_52:=Ext.mod z_8 m_53 (ge1 (by omega))
   have:=m_53.size
   refine nK<|sq<|sg<|vL (fa eF136 rfl)<|vL (ld rfl (B_5.one eF1 rfl))<|vL (bne rfl rfl)<|vm rfl<|vQ rfl rfl rfl rfl (λ hc=>fa eF136 rfl) rfl<|vQ rfl rfl rfl rfl (λ hc=>ld (gt hc rfl) (B_5.one eF1 rfl)) rfl<|vQ rfl rfl rfl rfl (λ hc=>bne (gt hc rfl) rfl) rfl<|vL (pA rfl rfl rfl rfl)<|nK<| ?_
   refine cb rfl (λ h_56=> ?_) (λ h_56=> ?_)
   ·simp only [bS] at h_56
    refine rg<|vL (fa eF139 rfl)<|st (new:= [.int .i64 o.by_, .int .i64 o.kind, .int .i64 o.who, .int .i64 0, .int .i64 0, .int .i64 0]) rfl rfl B_5 rfl eF7 rfl rfl rfl λ w_57 m_58 B_5=> ?_
    have:=m_58.size
    have z_57:=Ext.mod z_52 m_58 (ge1 (by omega))
    have:=m_58.size
    refine nK<|sg<|vL (ld rfl (B_5.all eF140 eF141))<| ?_
    have B_12:=B_12.mod m_53 (nm1 (by omega))
    have B_12:=B_12.mod m_58 (nm1 (by omega))
    refine st (new:= [.int .i64 o.by_, .int .i64 o.kind, .int .i64 o.who, .int .i64 0, .int .i64 0, .int .i64 0]) rfl rfl B_12 rfl eF141 rfl rfl rfl λ w_61 m_62 B_12=> ?_
    have:=m_62.size
    have z_61:=Ext.mod z_57 m_62 (ge1 (by omega))
    have:=m_62.size
    refine nK<|rt<|tR (.cell rfl (B_12.all eF140 eF141) .nil)<| ?_
    exact ⟨by rw [show Odr.bare o=(⟨o.by_,o.kind,o.who,⟨0,0⟩,0⟩:Odr) from by unfold Odr.bare;congr 1<;>(first | rfl | (split<;>first | rfl | omega))];rfl,z_61⟩
   ·simp only [bS] at h_56
    refine sK<|sg<|vL (ld rfl (B_5.all eF140 eF141))<| ?_
    have B_12:=B_12.mod m_53 (nm1 (by omega))
    refine st (new:= [.int .i64 o.by_, .int .i64 o.kind, .int .i64 o.who, .int .i64 0, .int .i64 0, .int .i64 o.what]) rfl rfl B_12 rfl eF141 rfl rfl rfl λ w_65 m_66 B_12=> ?_
    have:=m_66.size
    have z_65:=Ext.mod z_52 m_66 (ge1 (by omega))
    have:=m_66.size
    refine nK<|rt<|tR (.cell rfl (B_12.all eF140 eF141) .nil)<| ?_
    exact ⟨by rw [show Odr.bare o=(⟨o.by_,o.kind,o.who,⟨0,0⟩,o.what⟩:Odr) from by unfold Odr.bare;congr 1<;>(first | rfl | (split<;>first | rfl | omega))];rfl,z_65⟩
  ·simp only [bS] at h_51
   refine sK<|sq<|sg<|vL (fa eF136 rfl)<|vL (ld rfl (B_5.one eF1 rfl))<|vL (bne rfl rfl)<|vm rfl<|vQ rfl rfl rfl rfl (λ hc=>fa eF136 rfl) rfl<|vQ rfl rfl rfl rfl (λ hc=>ld (gt hc rfl) (B_5.one eF1 rfl)) rfl<|vQ rfl rfl rfl rfl (λ hc=>bne (gt hc rfl) rfl) rfl<|vL (pA rfl rfl rfl rfl)<|nK<| ?_
   refine cb rfl (λ h_69=> ?_) (λ h_69=> ?_)
   ·simp only [bS] at h_69
    refine rg<|vL (fa eF139 rfl)<|st (new:= [.int .i64 o.by_, .int .i64 o.kind, .int .i64 o.who, .int .i64 o.spot.x, .int .i64 o.spot.y, .int .i64 0]) rfl rfl B_5 rfl eF7 rfl rfl rfl λ w_70 m_71 B_5=> ?_
    have:=m_71.size
    have z_70:=Ext.mod z_8 m_71 (ge1 (by omega))
    have:=m_71.size
    refine nK<|sg<|vL (ld rfl (B_5.all eF140 eF141))<| ?_
    have B_12:=B_12.mod m_71 (nm1 (by omega))
    refine st (new:= [.int .i64 o.by_, .int .i64 o.kind, .int .i64 o.who, .int .i64 o.spot.x, .int .i64 o.spot.y, .int .i64 0]) rfl rfl B_12 rfl eF141 rfl rfl rfl λ w_74 m_75 B_12=> ?_
    have:=m_75.size
    have z_74:=Ext.mod z_70 m_75 (ge1 (by omega))
    have:=m_75.size
    refine nK<|rt<|tR (.cell rfl (B_12.all eF140 eF141) .nil)<| ?_
    exact ⟨by rw [show Odr.bare o=(⟨o.by_,o.kind,o.who,⟨o.spot.x,o.spot.y⟩,0⟩:Odr) from by unfold Odr.bare;congr 1<;>(first | rfl | (split<;>first | rfl | omega))];rfl,z_74⟩
   ·simp only [bS] at h_69
    refine sK<|sg<|vL (ld rfl (B_5.all eF140 eF141))<|st (new:= [.int .i64 o.by_, .int .i64 o.kind, .int .i64 o.who, .int .i64 o.spot.x, .int .i64 o.spot.y, .int .i64 o.what]) rfl rfl B_12 rfl eF141 rfl rfl rfl λ w_78 m_79 B_12=> ?_
    have:=m_79.size
    have z_78:=Ext.mod z_8 m_79 (ge1 (by omega))
    have:=m_79.size
    refine nK<|rt<|tR (.cell rfl (B_12.all eF140 eF141) .nil)<| ?_
    exact ⟨by rw [show Odr.bare o=(⟨o.by_,o.kind,o.who,⟨o.spot.x,o.spot.y⟩,o.what⟩:Odr) from by unfold Odr.bare;congr 1<;>(first | rfl | (split<;>first | rfl | omega))];rfl,z_78⟩
theorem ocheck_any (o:Odr) (w:World):
  Calls Tryz.prog 104 #[.agg #[.int .i64 o.by_, .int .i64 o.kind, .int .i64 o.who, .int .i64 o.spot.x, .int .i64 o.spot.y, .int .i64 o.what]] w (λ e w'=>e= .returned (.int .i64 o.chk)∧Ext w w'):=by
 refine calls_W (n:=43) Tryz.func104 rfl rfl rfl ?_
 refine sg<|bx rfl rfl rfl rfl λ w_1 b_2 x_3 l_4 B_5=> ?_
 have:=x_3.size
 have z_1:=eT (Ext.rf w) x_3
 have q_7:=B_5.lt
 refine va rfl<|nK<|sq<|sg<|vL (fa eF142 rfl)<|vL (ld rfl (B_5.one eF1 rfl))<|ca eF143 rfl rfl ((owithin_any o.by_ 0 7 _).mono ?_)
 rintro e w_8 ⟨rfl,x_9⟩
 refine ⟨_,rfl, ?_⟩
 have:=x_9.size
 have z_8:=eT z_1 x_9
 refine vL (nt rfl)<|vm rfl<|vQ rfl rfl rfl rfl (λ hc=>fa eF136 rfl) rfl<| ?_
 have B_5:=B_5.later x_9
 refine vQ rfl rfl rfl rfl (λ hc=>ld (gt hc rfl) (B_5.one eF1 rfl)) rfl<|vC rfl rfl rfl rfl eF143 (λ hc=>ec (gt hc rfl) (ec rfl (ec rfl rfl))) (λ hc=>owithin_any o.kind 1 5 _) rfl λ w_11 x_12=> ?_
 have:=x_12.size
 have z_11:=eT z_8 x_12
 refine vQ rfl rfl rfl rfl (λ hc=>nt (gt hc rfl)) rfl<|vL (pO rfl rfl rfl rfl)<|vm rfl<|vQ rfl rfl rfl rfl (λ hc=>fa eF137 rfl) rfl<| ?_
 have B_5:=B_5.later x_12
 refine vQ rfl rfl rfl rfl (λ hc=>ld (gt hc rfl) (B_5.one eF1 rfl)) rfl<|vC rfl rfl rfl rfl eF143 (λ hc=>ec (gt hc rfl) (ec rfl (ec rfl rfl))) (λ hc=>owithin_any o.who 0 1000000 _) rfl λ w_14 x_15=> ?_
 have:=x_15.size
 have z_14:=eT z_11 x_15
 refine vQ rfl rfl rfl rfl (λ hc=>nt (gt hc rfl)) rfl<|vL (pO rfl rfl rfl rfl)<|vm rfl<|vQ rfl rfl rfl rfl (λ hc=>fa eF138 rfl) rfl<|vQ rfl rfl rfl rfl (λ hc=>fa eF0 (gt hc rfl)) rfl<| ?_
 have B_5:=B_5.later x_15
 refine vQ rfl rfl rfl rfl (λ hc=>ld (gt hc rfl) (B_5.one eF1 rfl)) rfl<|vC rfl rfl rfl rfl eF143 (λ hc=>ec (gt hc rfl) (ec rfl (ec rfl rfl))) (λ hc=>owithin_any o.spot.x (-1000) 1000 _) rfl λ w_17 x_18=> ?_
 have:=x_18.size
 have z_17:=eT z_14 x_18
 refine vQ rfl rfl rfl rfl (λ hc=>nt (gt hc rfl)) rfl<|vL (pO rfl rfl rfl rfl)<|vm rfl<|vQ rfl rfl rfl rfl (λ hc=>fa eF138 rfl) rfl<|vQ rfl rfl rfl rfl (λ hc=>fa eF2 (gt hc rfl)) rfl<| ?_
 have B_5:=B_5.later x_18
 refine vQ rfl rfl rfl rfl (λ hc=>ld (gt hc rfl) (B_5.one eF1 rfl)) rfl<|vC rfl rfl rfl rfl eF143 (λ hc=>ec (gt hc rfl) (ec rfl (ec rfl rfl))) (λ hc=>owithin_any o.spot.y (-1000) 1000 _) rfl λ w_20 x_21=> ?_
 have:=x_21.size
 have z_20:=eT z_17 x_21
 refine vQ rfl rfl rfl rfl (λ hc=>nt (gt hc rfl)) rfl<|vL (pO rfl rfl rfl rfl)<|vm rfl<|vQ rfl rfl rfl rfl (λ hc=>fa eF139 rfl) rfl<| ?_
 have B_5:=B_5.later x_21
 refine vQ rfl rfl rfl rfl (λ hc=>ld (gt hc rfl) (B_5.one eF1 rfl)) rfl<|vC rfl rfl rfl rfl eF143 (λ hc=>ec (gt hc rfl) (ec rfl (ec rfl rfl))) (λ hc=>owithin_any o.what 0 1000000 _) rfl λ w_23 x_24=> ?_
 have:=x_24.size
 have z_23:=eT z_20 x_24
 refine vQ rfl rfl rfl rfl (λ hc=>nt (gt hc rfl)) rfl<|vL (pO rfl rfl rfl rfl)<|nK<| ?_
 refine cb rfl (λ h_26=> ?_) (λ h_26=> ?_)
 ·refine sg<|va rfl<|nK<|rt<|tT<|tR (.tmp rfl .nil)<| ?_
  exact ⟨by rw [Odr.chk_arg h_26];rfl,z_23⟩
 ·refine sK<|sq<|sq<| ?_
  refine rd [(0,0),(1,0),(2,0)] [0,1,2,3] (by kernel_rfl) (by kernel_rfl) ?_
  have B_5:=B_5.later x_24
  refine fq1 rfl (λ _ x=>ld rfl ((B_5.later x).all eF140 eF141))<|fc rfl rfl eF144 rfl (λ _ x=>obare_any o _) rfl<|fq1 rfl (λ _ x=>ld rfl ((B_5.later x).all eF140 eF141))<|fw1 rfl (λ _=>bnS Ords_eqs_api_Order Ords_eqg_api_Order (p:=Odr.bare o) (q:=o) rfl rfl)<|fn λ w_27 x_28=> ?_
  have:=x_28.size
  have z_27:=eT z_23 x_28
  refine nT<| ?_
  refine cb rfl (λ h_30=> ?_) (λ h_30=> ?_)
  ·refine sg<|va rfl<|nK<|rt<|tT<|tR (.tmp rfl .nil)<| ?_
   exact ⟨by rw [Odr.chk_form h_26 h_30];rfl,z_27⟩
  ·refine sK<|sg<|va rfl<|nK<|rt<|tR (.tmp rfl .nil)<| ?_
   exact ⟨by rw [Odr.chk_good h_26 h_30];rfl,z_27⟩
theorem oall_any (A:Option Addr) (c:Nat) (l:List Odr) (w:World) (hl:Odr.rep.SHas 48 w A c l):
  Calls Tryz.prog 87 #[.slice A l.length c] w (λ e w'=>e= .returned (.int .i64 (ordsE l))∧Ext w w'):=by
 have hll:=hl.len_le
 refine calls_W (n:=21) Tryz.func87 rfl rfl rfl ?_
 refine sg<|va rfl<|nK<|sq<|sg<|vm rfl<|vL (ln Tryz.underlying44 rfl)<|vL (bgt rfl rfl)<|nK<| ?_
 refine clt rfl (λ h_1=> ?_) (λ h_1=> ?_)
 ·refine sg<|va rfl<|nK<|rt<|tT<|tR (.tmp rfl .nil)<| ?_
  exact ⟨by rw [ordsE_large (by omega)];rfl,(Ext.rf w)⟩
 ·refine sK<|sq<|sg<|vm rfl<|vL (ln Tryz.underlying44 rfl)<|vm rfl<|nK<|bk<| ?_
  refine lp (λ mI EI wI=>∃ k:Nat,EI= [(9, .slice A l.length c),(10, .int .i64 (l.length:Int)),(11, .int .i64 (k:Int))]∧mI=l.length - k∧Ext w wI∧(k≤l.length)∧(∀ i,i<k→(l.getD i default).chk=0)) _ _ ⟨0,rfl,rfl,(Ext.rf w),by omega,λ i hi=>by omega⟩ (.cons rfl (.cons rfl (.cons (loI rfl (by first | omega | rfl | (simp<;>omega))) .nil))) ?_
  rintro m_3 E_4 w_2 ⟨k,rfl,rfl,z_2,hk,hg⟩
  have:=z_2.size
  refine sg<|vL (blt rfl rfl)<|nK<|sq<| ?_
  refine clt rfl (λ h_6=> ?_) (λ h_6=> ?_)
  ·refine sK<|sq<|bk<|sg<|vL (iA k Tryz.underlying44 eF141 rfl rfl ((hl.keep z_2).adr (zl k (by omega))) rfl (by omega))<|vL (ld rfl (Rep.SHas.elt hcO ((hl.keep z_2).adh (zl k (by omega))) (get_d (l:=l) (u:=default) (by omega)) eF140 eF141))<|al rfl eF135 rfl rfl λ w_7 b_8 x_9 l_10 B_11=> ?_
   have:=x_9.size
   have z_7:=eT z_2 x_9
   have q_13:=B_11.lt
   refine st (new:= [.int .i64 ((l.getD k default).by_), .int .i64 ((l.getD k default).kind), .int .i64 ((l.getD k default).who), .int .i64 ((l.getD k default).spot.x), .int .i64 ((l.getD k default).spot.y), .int .i64 ((l.getD k default).what)]) rfl rfl B_11 rfl eF141 rfl rfl rfl λ w_14 m_15 B_11=> ?_
   have:=m_15.size
   have z_14:=Ext.mod z_7 m_15 (ge1 (by omega))
   have:=m_15.size
   refine nK<|sg<|vL (ld rfl (B_11.all eF140 eF141))<|ca eF145 rfl rfl ((ocheck_any (l.getD k default) _).mono ?_)
   rintro e w_18 ⟨rfl,x_19⟩
   refine ⟨_,rfl, ?_⟩
   have:=x_19.size
   have z_18:=eT z_14 x_19
   refine va rfl<|nK<|sg<|vm rfl<|vL (bne rfl rfl)<|nK<| ?_
   refine cne rfl (λ h_21=> ?_) (λ h_21=> ?_)
   ·refine sg<|vm rfl<|va rfl<|nK<|rt<|tB<|tT<|tK<|tB<|tT<|tR (.tmp rfl .nil)<| ?_
    exact ⟨by rw [ordsE_at (by omega) (show k<l.length by omega) hg (by simpa using h_21)];rfl,z_18⟩
   ·refine sk<|nB<|nT<|rg<|vL (bad rfl rfl (inI (by omega)))<|vm rfl<|nl<| ?_
    exact nI _ _ ⟨k+1,rfl,rfl,z_18,by omega,lt_succ_all hg (by simpa using h_21)⟩ (by omega) (.cons rfl (.cons rfl (.cons (loI rfl (by first | omega | rfl | (simp<;>omega))) .nil)))
  ·refine xt<|xT<|xK<|xB<|nT<|sg<|va rfl<|nK<|rt<|tR (.tmp rfl .nil)<| ?_
   exact ⟨by rw [ordsE_ok (by omega) (λ i hi=>hg i (by omega))];rfl,z_2⟩
end
section
open Go.RowKit
theorem Spl_el_S_api_Blow:ElT Tryz.prog Blw.rep 123 223 16:=ElT.mk_ (z:=Blw.zero) (k:=2) Tryz.underlying123 Blw.info rfl rfl (by decide) Blw.zero_raw
theorem Spl_el_S_api_Go:ElT Tryz.prog Gox.rep 124 225 24:=ElT.mk_ (z:=Gox.zero) (k:=3) Tryz.underlying124 Gox.info rfl rfl (by decide) Gox.zero_raw
theorem Spl_el_S_api_Deed:ElT Tryz.prog Ded.rep 125 178 40:=ElT.mk_ (z:=Ded.zero) (k:=5) Tryz.underlying125 Ded.info rfl rfl (by decide) Ded.zero_raw
def spB (o:Odr):List Blw:=if o.kind=1 then [⟨o.who,o.what⟩] else []
def spG (o:Odr):List Gox:=if o.kind=2 then [⟨o.who,⟨o.spot.x,o.spot.y⟩⟩] else []
def spD (o:Odr):List Ded:=if o.kind=3 then [⟨1,o.who,⟨o.spot.x,o.spot.y⟩,0⟩] else if o.kind=4 then [⟨2,o.who,⟨0,0⟩,0⟩] else if o.kind=5 then [⟨3,o.by_,⟨0,0⟩,o.what⟩] else []
theorem add_any (o:Odr) (w0:World) (bq:Nat) (A B C:Option Addr) (a b c:Nat) (qb:List Blw) (qg:List Gox) (qd:List Ded) (w:World) (hx0:Ext w0 w) (hok:o.ok) (hS:Blk w bq [.slice A qb.length a, .slice B qg.length b, .slice C qd.length c] 169 (0,0)) (hA:Blw.rep.SOwn 223 16 w w0.heap.size (Rep.blkOf A) A a qb) (hB:Gox.rep.SOwn 225 24 w w0.heap.size (Rep.blkOf B) B b qg) (hC:Ded.rep.SOwn 178 40 w w0.heap.size (Rep.blkOf C) C c qd) (dA:∀ q∈Rep.blkOf A,q=bq→False) (dB:∀ q∈Rep.blkOf B,q=bq→False) (dC:∀ q∈Rep.blkOf C,q=bq→False) (dBA:∀ q∈Rep.blkOf B,q∈Rep.blkOf A→False) (dCA:∀ q∈Rep.blkOf C,q∈Rep.blkOf A→False) (dCB:∀ q∈Rep.blkOf C,q∈Rep.blkOf B→False) (n1:qb.length≤100) (n2:qg.length≤100) (n3:qd.length≤100):
  Calls Tryz.prog 94 #[.pointer (some ⟨bq,0,none⟩), .agg #[.int .i64 o.by_, .int .i64 o.kind, .int .i64 o.who, .int .i64 o.spot.x, .int .i64 o.spot.y, .int .i64 o.what]] w (λ e w'=>∃ A' a' B' b' C' c',e= .returned (.tuple #[])∧Blk w' bq [.slice A' (qb++spB o).length a', .slice B' (qg++spG o).length b', .slice C' (qd++spD o).length c'] 169 (0,0)∧Blw.rep.SOwn 223 16 w' w0.heap.size (Rep.blkOf A') A' a' (qb++spB o)∧Gox.rep.SOwn 225 24 w' w0.heap.size (Rep.blkOf B') B' b' (qg++spG o)∧Ded.rep.SOwn 178 40 w' w0.heap.size (Rep.blkOf C') C' c' (qd++spD o)∧(∀ q∈Rep.blkOf A',q=bq→False)∧(∀ q∈Rep.blkOf B',q=bq→False)∧(∀ q∈Rep.blkOf C',q=bq→False)∧(∀ q∈Rep.blkOf B',q∈Rep.blkOf A'→False)∧(∀ q∈Rep.blkOf C',q∈Rep.blkOf A'→False)∧(∀ q∈Rep.blkOf C',q∈Rep.blkOf B'→False)∧(∀ q∈Rep.blkOf A',q∈Rep.blkOf A∨w.heap.size≤q)∧(∀ q∈Rep.blkOf B',q∈Rep.blkOf B∨w.heap.size≤q)∧(∀ q∈Rep.blkOf C',q∈Rep.blkOf C∨w.heap.size≤q)∧Mod (bq::(Rep.blkOf A++(Rep.blkOf B++Rep.blkOf C))) w w'):=by
 have hx0s:=hx0.size
 have qs:=hS.lt
 have uA:=λ q hq=>(hA.lt q hq).2
 have uB:=λ q hq=>(hB.lt q hq).2
 have uC:=λ q hq=>(hC.lt q hq).2
 have lA:∀ q∈Rep.blkOf A,w0.heap.size≤q:=λ q hq=>(hA.lt q hq).1
 have lB:∀ q∈Rep.blkOf B,w0.heap.size≤q:=λ q hq=>(hB.lt q hq).1
 have lC:∀ q∈Rep.blkOf C,w0.heap.size≤q:=λ q hq=>(hC.lt q hq).1
 refine calls_W (n:=84) Tryz.func94 rfl rfl rfl ?_
 refine sg<|bx rfl rfl rfl rfl λ w_1 b_2 x_3 l_4 B_5=> ?_
 have:=x_3.size
 have z_1:=(Mod.rf (bq::(Rep.blkOf A++(Rep.blkOf B++Rep.blkOf C))) w).trans (Mod.of_ext x_3)
 have q_7:=B_5.lt
 refine nK<|sg<|vL (fa eF136 rfl)<|vL (ld rfl (B_5.one eF1 rfl))<|nK<|bk<|sg<|vL (beq rfl rfl)<|va rfl<|nK<| ?_
 refine ceq rfl (λ h_8=> ?_) (λ h_8=> ?_)
 ·refine rd [(4,0),(6,0),(8,0),(10,2),(11,3),(14,3)] [0,1,2,3,4,5,6,7,8,9,10,11,12,13,14] (by kernel_rfl) (by kernel_rfl) ?_
  refine fw1 rfl (λ _=>mv rfl)<|fw1 rfl (λ _=>mv rfl)<|fw1 rfl (λ _=>nc rfl)<|fw1 rfl (λ _=>fa eF146 rfl)<| ?_
  have hS:=hS.later x_3
  refine fq1 rfl (λ _ x=>ld rfl ((hS.later x).one eF147 rfl))<|fw1 rfl (λ _=>fa eF137 rfl)<|fq1 rfl (λ _ x=>ld rfl ((B_5.later x).one eF1 rfl))<|fw1 rfl (λ _=>fa eF139 rfl)<|fq1 rfl (λ _ x=>ld rfl ((B_5.later x).one eF1 rfl))<|fw (v:= .agg #[.int .i64 o.who, .int .i64 o.what]) rfl rfl (λ _=>bd rfl (by kernel_rfl)) rfl<|fx rfl rfl rfl λ w_9 x_10 Q hK=>bs (e:= 223) (cs:= [.int .i64 o.who, .int .i64 o.what]) rfl (λ _=>by kernel_rfl) rfl λ w_11 b_12 x_13 l_14 B_15=>hK _ _ ⟨eT x_10 x_13, ?_⟩
  have:=x_10.size
  have z_9:=z_1.trans (Mod.of_ext x_10)
  have:=x_13.size
  have z_11:=z_9.trans (Mod.of_ext x_13)
  have q_18:=B_15.lt
  have hA:=hA.later (eT x_3 (eT x_10 x_13))
  refine fb rfl rfl rfl λ w_19 x_20 Q hK=>ap Spl_el_S_api_Blow Rep.flat_bare (hA.later x_20) ((Blk.has1 (R:=Blw.rep) (by_:=16) (q:=(⟨o.who,o.what⟩:Blw)) B_15 ⟨rfl,(by obtain ⟨o0,o1,o2,o3,o4,o5⟩:=hok;exact ⟨o2,o5⟩)⟩ (by decide)).keep x_20) rfl rfl (by simp only [List.length_cons,List.length_nil];omega) (by simp only [List.length_cons,List.length_nil];omega) (by have:=x_20.size;omega) rfl λ w_21 A_22 c_23 m_24 O_25 g_26 n_27=>hK _ _ ?_
  have:=x_20.size
  have z_19:=z_11.trans (Mod.of_ext x_20)
  have:=m_24.size
  have z_21:=z_19.md m_24 (λ q hq=> .inl (List.mem_cons_of_mem _ (List.mem_append.2 (.inl hq))))
  have u_30:=λ q hq=>(O_25.lt q hq).2
  have:=m_24.size
  refine fw1 rfl (λ _=>nc rfl)<|fw1 rfl (λ _=>fa eF146 rfl)<| ?_
  have hS:=hS.later (eT x_10 (eT x_13 x_20))
  have hS:=hS.mod m_24 (λ hq=>dA _ hq rfl)
  refine fb rfl rfl rfl λ w_32 x_33 Q hK=>st (new:= [.slice A_22 ((qb++ [(⟨o.who,o.what⟩:Blw)]).length) c_23, .slice B qg.length b, .slice C qd.length c]) rfl rfl (hS.later x_33) rfl eF148 rfl rfl rfl λ w_34 m_35 hS=>hK _ _ ?_
  have:=x_33.size
  have z_32:=z_21.trans (Mod.of_ext x_33)
  have:=m_35.size
  have z_34:=z_32.md m_35 (λ q hq=> .inl (by rw [List.mem_singleton.1 hq];exact List.mem_cons_self))
  have:=m_35.size
  refine fn λ w_39 x_40=> ?_
  have:=x_40.size
  have z_39:=z_34.trans (Mod.of_ext x_40)
  refine nB<|ne<|tR .nil<| ?_
  have hS:=hS.later x_40
  have O_25:=O_25.later x_33
  have O_25:=O_25.mod m_35 (λ q hq h=>by have hb:=List.mem_singleton.1 h;exfalso;(exact Or.elim (g_26 q hq) (λ k_42=>by (exact dA q k_42 hb)) (λ k_42=>by omega)))
  have O_25:=O_25.later x_40
  have hB:=hB.later (eT x_3 (eT x_10 (eT x_13 x_20)))
  have hB:=hB.mod m_24 (λ q hq h=>by exfalso;(exact dBA q hq h))
  have hB:=hB.later x_33
  have hB:=hB.mod m_35 (λ q hq h=>by have hb:=List.mem_singleton.1 h;exfalso;(exact dB q hq hb))
  have hB:=hB.later x_40
  have hC:=hC.later (eT x_3 (eT x_10 (eT x_13 x_20)))
  have hC:=hC.mod m_24 (λ q hq h=>by exfalso;(exact dCA q hq h))
  have hC:=hC.later x_33
  have hC:=hC.mod m_35 (λ q hq h=>by have hb:=List.mem_singleton.1 h;exfalso;(exact dC q hq hb))
  have hC:=hC.later x_40
  have e1:spB o= [(⟨o.who,o.what⟩:Blw)]:=by unfold spB;simp [*]
  have e2:spG o= []:=by unfold spG;simp [*]
  have e3:spD o= []:=by unfold spD;simp [*]
  rw [e1,e2,e3]
  simp only [List.append_nil]
  exact ⟨A_22,c_23,B,b,C,c,rfl,hS,O_25,hB,hC,(λ q hq hb=>by (exact Or.elim (g_26 q hq) (λ k_43=>by (exact dA q k_43 hb)) (λ k_43=>by omega))),(λ q hq hb=>by (exact dB q hq hb)),(λ q hq hb=>by (exact dC q hq hb)),(λ q hq hb=>by (exact Or.elim (g_26 q hb) (λ k_44=>by (exact dBA q hq k_44)) (λ k_44=>by (have:=uB q hq;omega)))),(λ q hq hb=>by (exact Or.elim (g_26 q hb) (λ k_45=>by (exact dCA q hq k_45)) (λ k_45=>by (have:=uC q hq;omega)))),(λ q hq hb=>by (exact dCB q hq hb)),(λ q hq=>(g_26 q hq).imp id λ h=>by omega),(λ q hq=> .inl hq),(λ q hq=> .inl hq),z_39⟩
 ·refine sg<|vL (beq rfl rfl)<|va rfl<|nK<| ?_
  refine ceq rfl (λ h_46=> ?_) (λ h_46=> ?_)
  ·refine rd [(4,0),(6,0),(8,0),(10,2),(11,3),(14,3)] [0,1,2,3,4,5,6,7,8,9,10,11,12,13,14] (by kernel_rfl) (by kernel_rfl) ?_
   refine fw1 rfl (λ _=>mv rfl)<|fw1 rfl (λ _=>mv rfl)<|fw1 rfl (λ _=>nc rfl)<|fw1 rfl (λ _=>fa eF149 rfl)<| ?_
   have hS:=hS.later x_3
   refine fq1 rfl (λ _ x=>ld rfl ((hS.later x).one eF150 rfl))<|fw1 rfl (λ _=>fa eF137 rfl)<|fq1 rfl (λ _ x=>ld rfl ((B_5.later x).one eF1 rfl))<|fw1 rfl (λ _=>fa eF138 rfl)<|fq1 rfl (λ _ x=>ld rfl ((B_5.later x).par [.int .i64 o.spot.x, .int .i64 o.spot.y] eF3 eF4 rfl))<|fw (v:= .agg #[.int .i64 o.who, .int .i64 o.spot.x, .int .i64 o.spot.y]) rfl rfl (λ _=>bd rfl (by kernel_rfl)) rfl<|fx rfl rfl rfl λ w_47 x_48 Q hK=>bs (e:= 225) (cs:= [.int .i64 o.who, .int .i64 o.spot.x, .int .i64 o.spot.y]) rfl (λ _=>by kernel_rfl) rfl λ w_49 b_50 x_51 l_52 B_53=>hK _ _ ⟨eT x_48 x_51, ?_⟩
   have:=x_48.size
   have z_47:=z_1.trans (Mod.of_ext x_48)
   have:=x_51.size
   have z_49:=z_47.trans (Mod.of_ext x_51)
   have q_56:=B_53.lt
   have hB:=hB.later (eT x_3 (eT x_48 x_51))
   refine fb rfl rfl rfl λ w_57 x_58 Q hK=>ap Spl_el_S_api_Go Rep.flat_bare (hB.later x_58) ((Blk.has1 (R:=Gox.rep) (by_:=24) (q:=(⟨o.who,⟨o.spot.x,o.spot.y⟩⟩:Gox)) B_53 ⟨rfl,(by obtain ⟨o0,o1,o2,o3,o4,o5⟩:=hok;exact ⟨o2,o3,o4⟩)⟩ (by decide)).keep x_58) rfl rfl (by simp only [List.length_cons,List.length_nil];omega) (by simp only [List.length_cons,List.length_nil];omega) (by have:=x_58.size;omega) rfl λ w_59 A_60 c_61 m_62 O_63 g_64 n_65=>hK _ _ ?_
   have:=x_58.size
   have z_57:=z_49.trans (Mod.of_ext x_58)
   have:=m_62.size
   have z_59:=z_57.md m_62 (λ q hq=> .inl (List.mem_cons_of_mem _ (List.mem_append.2 (.inr (List.mem_append.2 (.inl hq))))))
   have u_68:=λ q hq=>(O_63.lt q hq).2
   have:=m_62.size
   refine fw1 rfl (λ _=>nc rfl)<|fw1 rfl (λ _=>fa eF149 rfl)<| ?_
   have hS:=hS.later (eT x_48 (eT x_51 x_58))
   have hS:=hS.mod m_62 (λ hq=>dB _ hq rfl)
   refine fb rfl rfl rfl λ w_70 x_71 Q hK=>st (new:= [.slice A qb.length a, .slice A_60 ((qg++ [(⟨o.who,⟨o.spot.x,o.spot.y⟩⟩:Gox)]).length) c_61, .slice C qd.length c]) rfl rfl (hS.later x_71) rfl eF151 rfl rfl rfl λ w_72 m_73 hS=>hK _ _ ?_
   have:=x_71.size
   have z_70:=z_59.trans (Mod.of_ext x_71)
   have:=m_73.size
   have z_72:=z_70.md m_73 (λ q hq=> .inl (by rw [List.mem_singleton.1 hq];exact List.mem_cons_self))
   have:=m_73.size
   refine fn λ w_77 x_78=> ?_
   have:=x_78.size
   have z_77:=z_72.trans (Mod.of_ext x_78)
   refine nB<|ne<|tR .nil<| ?_
   have hS:=hS.later x_78
   have hA:=hA.later (eT x_3 (eT x_48 (eT x_51 x_58)))
   have hA:=hA.mod m_62 (λ q hq h=>by exfalso;(exact dBA q h hq))
   have hA:=hA.later x_71
   have hA:=hA.mod m_73 (λ q hq h=>by have hb:=List.mem_singleton.1 h;exfalso;(exact dA q hq hb))
   have hA:=hA.later x_78
   have O_63:=O_63.later x_71
   have O_63:=O_63.mod m_73 (λ q hq h=>by have hb:=List.mem_singleton.1 h;exfalso;(exact Or.elim (g_64 q hq) (λ k_80=>by (exact dB q k_80 hb)) (λ k_80=>by omega)))
   have O_63:=O_63.later x_78
   have hC:=hC.later (eT x_3 (eT x_48 (eT x_51 x_58)))
   have hC:=hC.mod m_62 (λ q hq h=>by exfalso;(exact dCB q hq h))
   have hC:=hC.later x_71
   have hC:=hC.mod m_73 (λ q hq h=>by have hb:=List.mem_singleton.1 h;exfalso;(exact dC q hq hb))
   have hC:=hC.later x_78
   have e1:spB o= []:=by unfold spB;simp [*]
   have e2:spG o= [(⟨o.who,⟨o.spot.x,o.spot.y⟩⟩:Gox)]:=by unfold spG;simp [*]
   have e3:spD o= []:=by unfold spD;simp [*]
   rw [e1,e2,e3]
   simp only [List.append_nil]
   exact ⟨A,a,A_60,c_61,C,c,rfl,hS,hA,O_63,hC,(λ q hq hb=>by (exact dA q hq hb)),(λ q hq hb=>by (exact Or.elim (g_64 q hq) (λ k_81=>by (exact dB q k_81 hb)) (λ k_81=>by omega))),(λ q hq hb=>by (exact dC q hq hb)),(λ q hq hb=>by (exact Or.elim (g_64 q hq) (λ k_82=>by (exact dBA q k_82 hb)) (λ k_82=>by (have:=uA q hb;omega)))),(λ q hq hb=>by (exact dCA q hq hb)),(λ q hq hb=>by (exact Or.elim (g_64 q hb) (λ k_83=>by (exact dCB q hq k_83)) (λ k_83=>by (have:=uC q hq;omega)))),(λ q hq=> .inl hq),(λ q hq=>(g_64 q hq).imp id λ h=>by omega),(λ q hq=> .inl hq),z_77⟩
  ·refine sg<|vL (beq rfl rfl)<|va rfl<|nK<| ?_
   refine ceq rfl (λ h_84=> ?_) (λ h_84=> ?_)
   ·refine rd [(4,0),(6,0),(8,0),(10,2),(11,3),(14,3)] [0,1,2,3,4,5,6,7,8,9,10,11,12,13,14] (by kernel_rfl) (by kernel_rfl) ?_
    refine fw1 rfl (λ _=>mv rfl)<|fw1 rfl (λ _=>mv rfl)<|fw1 rfl (λ _=>nc rfl)<|fw1 rfl (λ _=>fa eF152 rfl)<| ?_
    have hS:=hS.later x_3
    refine fq1 rfl (λ _ x=>ld rfl ((hS.later x).one eF153 rfl))<|fw1 rfl (λ _=>fa eF137 rfl)<|fq1 rfl (λ _ x=>ld rfl ((B_5.later x).one eF1 rfl))<|fw1 rfl (λ _=>fa eF138 rfl)<|fq1 rfl (λ _ x=>ld rfl ((B_5.later x).par [.int .i64 o.spot.x, .int .i64 o.spot.y] eF3 eF4 rfl))<|fw (v:= .agg #[.int .i64 1, .int .i64 o.who, .int .i64 o.spot.x, .int .i64 o.spot.y, .int .i64 0]) rfl rfl (λ _=>bd rfl (by kernel_rfl)) rfl<|fx rfl rfl rfl λ w_85 x_86 Q hK=>bs (e:= 178) (cs:= [.int .i64 1, .int .i64 o.who, .int .i64 o.spot.x, .int .i64 o.spot.y, .int .i64 0]) rfl (λ _=>by kernel_rfl) rfl λ w_87 b_88 x_89 l_90 B_91=>hK _ _ ⟨eT x_86 x_89, ?_⟩
    have:=x_86.size
    have z_85:=z_1.trans (Mod.of_ext x_86)
    have:=x_89.size
    have z_87:=z_85.trans (Mod.of_ext x_89)
    have q_94:=B_91.lt
    have hC:=hC.later (eT x_3 (eT x_86 x_89))
    refine fb rfl rfl rfl λ w_95 x_96 Q hK=>ap Spl_el_S_api_Deed Rep.flat_bare (hC.later x_96) ((Blk.has1 (R:=Ded.rep) (by_:=40) (q:=(⟨1,o.who,⟨o.spot.x,o.spot.y⟩,0⟩:Ded)) B_91 ⟨rfl,(by obtain ⟨o0,o1,o2,o3,o4,o5⟩:=hok;exact ⟨okI_iff.2 (by (try dsimp only);omega),o2,o3,o4,okI_iff.2 (by (try dsimp only);omega)⟩)⟩ (by decide)).keep x_96) rfl rfl (by simp only [List.length_cons,List.length_nil];omega) (by simp only [List.length_cons,List.length_nil];omega) (by have:=x_96.size;omega) rfl λ w_97 A_98 c_99 m_100 O_101 g_102 n_103=>hK _ _ ?_
    have:=x_96.size
    have z_95:=z_87.trans (Mod.of_ext x_96)
    have:=m_100.size
    have z_97:=z_95.md m_100 (λ q hq=> .inl (List.mem_cons_of_mem _ (List.mem_append.2 (.inr (List.mem_append.2 (.inr hq))))))
    have u_106:=λ q hq=>(O_101.lt q hq).2
    have:=m_100.size
    refine fw1 rfl (λ _=>nc rfl)<|fw1 rfl (λ _=>fa eF152 rfl)<| ?_
    have hS:=hS.later (eT x_86 (eT x_89 x_96))
    have hS:=hS.mod m_100 (λ hq=>dC _ hq rfl)
    refine fb rfl rfl rfl λ w_108 x_109 Q hK=>st (new:= [.slice A qb.length a, .slice B qg.length b, .slice A_98 ((qd++ [(⟨1,o.who,⟨o.spot.x,o.spot.y⟩,0⟩:Ded)]).length) c_99]) rfl rfl (hS.later x_109) rfl eF154 rfl rfl rfl λ w_110 m_111 hS=>hK _ _ ?_
    have:=x_109.size
    have z_108:=z_97.trans (Mod.of_ext x_109)
    have:=m_111.size
    have z_110:=z_108.md m_111 (λ q hq=> .inl (by rw [List.mem_singleton.1 hq];exact List.mem_cons_self))
    have:=m_111.size
    refine fn λ w_115 x_116=> ?_
    have:=x_116.size
    have z_115:=z_110.trans (Mod.of_ext x_116)
    refine nB<|ne<|tR .nil<| ?_
    have hS:=hS.later x_116
    have hA:=hA.later (eT x_3 (eT x_86 (eT x_89 x_96)))
    have hA:=hA.mod m_100 (λ q hq h=>by exfalso;(exact dCA q h hq))
    have hA:=hA.later x_109
    have hA:=hA.mod m_111 (λ q hq h=>by have hb:=List.mem_singleton.1 h;exfalso;(exact dA q hq hb))
    have hA:=hA.later x_116
    have hB:=hB.later (eT x_3 (eT x_86 (eT x_89 x_96)))
    have hB:=hB.mod m_100 (λ q hq h=>by exfalso;(exact dCB q h hq))
    have hB:=hB.later x_109
    have hB:=hB.mod m_111 (λ q hq h=>by have hb:=List.mem_singleton.1 h;exfalso;(exact dB q hq hb))
    have hB:=hB.later x_116
    have O_101:=O_101.later x_109
    have O_101:=O_101.mod m_111 (λ q hq h=>by have hb:=List.mem_singleton.1 h;exfalso;(exact Or.elim (g_102 q hq) (λ k_118=>by (exact dC q k_118 hb)) (λ k_118=>by omega)))
    have O_101:=O_101.later x_116
    have e1:spB o= []:=by unfold spB;simp [*]
    have e2:spG o= []:=by unfold spG;simp [*]
    have e3:spD o= [(⟨1,o.who,⟨o.spot.x,o.spot.y⟩,0⟩:Ded)]:=by unfold spD;simp [*]
    rw [e1,e2,e3]
    simp only [List.append_nil]
    exact ⟨A,a,B,b,A_98,c_99,rfl,hS,hA,hB,O_101,(λ q hq hb=>by (exact dA q hq hb)),(λ q hq hb=>by (exact dB q hq hb)),(λ q hq hb=>by (exact Or.elim (g_102 q hq) (λ k_119=>by (exact dC q k_119 hb)) (λ k_119=>by omega))),(λ q hq hb=>by (exact dBA q hq hb)),(λ q hq hb=>by (exact Or.elim (g_102 q hq) (λ k_120=>by (exact dCA q k_120 hb)) (λ k_120=>by (have:=uA q hb;omega)))),(λ q hq hb=>by (exact Or.elim (g_102 q hq) (λ k_121=>by (exact dCB q k_121 hb)) (λ k_121=>by (have:=uB q hb;omega)))),(λ q hq=> .inl hq),(λ q hq=> .inl hq),(λ q hq=>(g_102 q hq).imp id λ h=>by omega),z_115⟩
   ·refine sg<|vL (beq rfl rfl)<|va rfl<|nK<| ?_
    refine ceq rfl (λ h_122=> ?_) (λ h_122=> ?_)
    ·refine rd [(4,0),(6,0),(8,2),(9,3),(12,3)] [0,1,2,3,4,5,6,7,8,9,10,11,12] (by kernel_rfl) (by kernel_rfl) ?_
     refine fw1 rfl (λ _=>mv rfl)<|fw1 rfl (λ _=>mv rfl)<|fw1 rfl (λ _=>nc rfl)<|fw1 rfl (λ _=>fa eF152 rfl)<| ?_
     have hS:=hS.later x_3
     refine fq1 rfl (λ _ x=>ld rfl ((hS.later x).one eF153 rfl))<|fw1 rfl (λ _=>fa eF137 rfl)<|fq1 rfl (λ _ x=>ld rfl ((B_5.later x).one eF1 rfl))<|fw (v:= .agg #[.int .i64 2, .int .i64 o.who, .int .i64 0, .int .i64 0, .int .i64 0]) rfl rfl (λ _=>bd rfl (by kernel_rfl)) rfl<|fx rfl rfl rfl λ w_123 x_124 Q hK=>bs (e:= 178) (cs:= [.int .i64 2, .int .i64 o.who, .int .i64 0, .int .i64 0, .int .i64 0]) rfl (λ _=>by kernel_rfl) rfl λ w_125 b_126 x_127 l_128 B_129=>hK _ _ ⟨eT x_124 x_127, ?_⟩
     have:=x_124.size
     have z_123:=z_1.trans (Mod.of_ext x_124)
     have:=x_127.size
     have z_125:=z_123.trans (Mod.of_ext x_127)
     have q_132:=B_129.lt
     have hC:=hC.later (eT x_3 (eT x_124 x_127))
     refine fb rfl rfl rfl λ w_133 x_134 Q hK=>ap Spl_el_S_api_Deed Rep.flat_bare (hC.later x_134) ((Blk.has1 (R:=Ded.rep) (by_:=40) (q:=(⟨2,o.who,⟨0,0⟩,0⟩:Ded)) B_129 ⟨rfl,(by obtain ⟨o0,o1,o2,o3,o4,o5⟩:=hok;exact ⟨okI_iff.2 (by (try dsimp only);omega),o2,okI_iff.2 (by (try dsimp only);omega),okI_iff.2 (by (try dsimp only);omega),okI_iff.2 (by (try dsimp only);omega)⟩)⟩ (by decide)).keep x_134) rfl rfl (by simp only [List.length_cons,List.length_nil];omega) (by simp only [List.length_cons,List.length_nil];omega) (by have:=x_134.size;omega) rfl λ w_135 A_136 c_137 m_138 O_139 g_140 n_141=>hK _ _ ?_
     have:=x_134.size
     have z_133:=z_125.trans (Mod.of_ext x_134)
     have:=m_138.size
     have z_135:=z_133.md m_138 (λ q hq=> .inl (List.mem_cons_of_mem _ (List.mem_append.2 (.inr (List.mem_append.2 (.inr hq))))))
     have u_144:=λ q hq=>(O_139.lt q hq).2
     have:=m_138.size
     refine fw1 rfl (λ _=>nc rfl)<|fw1 rfl (λ _=>fa eF152 rfl)<| ?_
     have hS:=hS.later (eT x_124 (eT x_127 x_134))
     have hS:=hS.mod m_138 (λ hq=>dC _ hq rfl)
     refine fb rfl rfl rfl λ w_146 x_147 Q hK=>st (new:= [.slice A qb.length a, .slice B qg.length b, .slice A_136 ((qd++ [(⟨2,o.who,⟨0,0⟩,0⟩:Ded)]).length) c_137]) rfl rfl (hS.later x_147) rfl eF154 rfl rfl rfl λ w_148 m_149 hS=>hK _ _ ?_
     have:=x_147.size
     have z_146:=z_135.trans (Mod.of_ext x_147)
     have:=m_149.size
     have z_148:=z_146.md m_149 (λ q hq=> .inl (by rw [List.mem_singleton.1 hq];exact List.mem_cons_self))
     have:=m_149.size
     refine fn λ w_153 x_154=> ?_
     have:=x_154.size
     have z_153:=z_148.trans (Mod.of_ext x_154)
     refine nB<|ne<|tR .nil<| ?_
     have hS:=hS.later x_154
     have hA:=hA.later (eT x_3 (eT x_124 (eT x_127 x_134)))
     have hA:=hA.mod m_138 (λ q hq h=>by exfalso;(exact dCA q h hq))
     have hA:=hA.later x_147
     have hA:=hA.mod m_149 (λ q hq h=>by have hb:=List.mem_singleton.1 h;exfalso;(exact dA q hq hb))
     have hA:=hA.later x_154
     have hB:=hB.later (eT x_3 (eT x_124 (eT x_127 x_134)))
     have hB:=hB.mod m_138 (λ q hq h=>by exfalso;(exact dCB q h hq))
     have hB:=hB.later x_147
     have hB:=hB.mod m_149 (λ q hq h=>by have hb:=List.mem_singleton.1 h;exfalso;(exact dB q hq hb))
     have hB:=hB.later x_154
     have O_139:=O_139.later x_147
     have O_139:=O_139.mod m_149 (λ q hq h=>by have hb:=List.mem_singleton.1 h;exfalso;(exact Or.elim (g_140 q hq) (λ k_156=>by (exact dC q k_156 hb)) (λ k_156=>by omega)))
     have O_139:=O_139.later x_154
     have e1:spB o= []:=by unfold spB;simp [*]
     have e2:spG o= []:=by unfold spG;simp [*]
     have e3:spD o= [(⟨2,o.who,⟨0,0⟩,0⟩:Ded)]:=by unfold spD;simp [*]
     rw [e1,e2,e3]
     simp only [List.append_nil]
     exact ⟨A,a,B,b,A_136,c_137,rfl,hS,hA,hB,O_139,(λ q hq hb=>by (exact dA q hq hb)),(λ q hq hb=>by (exact dB q hq hb)),(λ q hq hb=>by (exact Or.elim (g_140 q hq) (λ k_157=>by (exact dC q k_157 hb)) (λ k_157=>by omega))),(λ q hq hb=>by (exact dBA q hq hb)),(λ q hq hb=>by (exact Or.elim (g_140 q hq) (λ k_158=>by (exact dCA q k_158 hb)) (λ k_158=>by (have:=uA q hb;omega)))),(λ q hq hb=>by (exact Or.elim (g_140 q hq) (λ k_159=>by (exact dCB q k_159 hb)) (λ k_159=>by (have:=uB q hb;omega)))),(λ q hq=> .inl hq),(λ q hq=> .inl hq),(λ q hq=>(g_140 q hq).imp id λ h=>by omega),z_153⟩
    ·refine sg<|vL (beq rfl rfl)<|va rfl<|nK<| ?_
     refine ceq rfl (λ h_160=> ?_) (λ h_160=> ?_)
     ·refine rd [(4,0),(6,0),(8,0),(10,2),(11,3),(14,3)] [0,1,2,3,4,5,6,7,8,9,10,11,12,13,14] (by kernel_rfl) (by kernel_rfl) ?_
      refine fw1 rfl (λ _=>mv rfl)<|fw1 rfl (λ _=>mv rfl)<|fw1 rfl (λ _=>nc rfl)<|fw1 rfl (λ _=>fa eF152 rfl)<| ?_
      have hS:=hS.later x_3
      refine fq1 rfl (λ _ x=>ld rfl ((hS.later x).one eF153 rfl))<|fw1 rfl (λ _=>fa eF142 rfl)<|fq1 rfl (λ _ x=>ld rfl ((B_5.later x).one eF1 rfl))<|fw1 rfl (λ _=>fa eF139 rfl)<|fq1 rfl (λ _ x=>ld rfl ((B_5.later x).one eF1 rfl))<|fw (v:= .agg #[.int .i64 3, .int .i64 o.by_, .int .i64 0, .int .i64 0, .int .i64 o.what]) rfl rfl (λ _=>bd rfl (by kernel_rfl)) rfl<|fx rfl rfl rfl λ w_161 x_162 Q hK=>bs (e:= 178) (cs:= [.int .i64 3, .int .i64 o.by_, .int .i64 0, .int .i64 0, .int .i64 o.what]) rfl (λ _=>by kernel_rfl) rfl λ w_163 b_164 x_165 l_166 B_167=>hK _ _ ⟨eT x_162 x_165, ?_⟩
      have:=x_162.size
      have z_161:=z_1.trans (Mod.of_ext x_162)
      have:=x_165.size
      have z_163:=z_161.trans (Mod.of_ext x_165)
      have q_170:=B_167.lt
      have hC:=hC.later (eT x_3 (eT x_162 x_165))
      refine fb rfl rfl rfl λ w_171 x_172 Q hK=>ap Spl_el_S_api_Deed Rep.flat_bare (hC.later x_172) ((Blk.has1 (R:=Ded.rep) (by_:=40) (q:=(⟨3,o.by_,⟨0,0⟩,o.what⟩:Ded)) B_167 ⟨rfl,(by obtain ⟨o0,o1,o2,o3,o4,o5⟩:=hok;exact ⟨okI_iff.2 (by (try dsimp only);omega),o0,okI_iff.2 (by (try dsimp only);omega),okI_iff.2 (by (try dsimp only);omega),o5⟩)⟩ (by decide)).keep x_172) rfl rfl (by simp only [List.length_cons,List.length_nil];omega) (by simp only [List.length_cons,List.length_nil];omega) (by have:=x_172.size;omega) rfl λ w_173 A_174 c_175 m_176 O_177 g_178 n_179=>hK _ _ ?_
      have:=x_172.size
      have z_171:=z_163.trans (Mod.of_ext x_172)
      have:=m_176.size
      have z_173:=z_171.md m_176 (λ q hq=> .inl (List.mem_cons_of_mem _ (List.mem_append.2 (.inr (List.mem_append.2 (.inr hq))))))
      have u_182:=λ q hq=>(O_177.lt q hq).2
      have:=m_176.size
      refine fw1 rfl (λ _=>nc rfl)<|fw1 rfl (λ _=>fa eF152 rfl)<| ?_
      have hS:=hS.later (eT x_162 (eT x_165 x_172))
      have hS:=hS.mod m_176 (λ hq=>dC _ hq rfl)
      refine fb rfl rfl rfl λ w_184 x_185 Q hK=>st (new:= [.slice A qb.length a, .slice B qg.length b, .slice A_174 ((qd++ [(⟨3,o.by_,⟨0,0⟩,o.what⟩:Ded)]).length) c_175]) rfl rfl (hS.later x_185) rfl eF154 rfl rfl rfl λ w_186 m_187 hS=>hK _ _ ?_
      have:=x_185.size
      have z_184:=z_173.trans (Mod.of_ext x_185)
      have:=m_187.size
      have z_186:=z_184.md m_187 (λ q hq=> .inl (by rw [List.mem_singleton.1 hq];exact List.mem_cons_self))
      have:=m_187.size
      refine fn λ w_191 x_192=> ?_
      have:=x_192.size
      have z_191:=z_186.trans (Mod.of_ext x_192)
      refine nB<|ne<|tR .nil<| ?_
      have hS:=hS.later x_192
      have hA:=hA.later (eT x_3 (eT x_162 (eT x_165 x_172)))
      have hA:=hA.mod m_176 (λ q hq h=>by exfalso;(exact dCA q h hq))
      have hA:=hA.later x_185
      have hA:=hA.mod m_187 (λ q hq h=>by have hb:=List.mem_singleton.1 h;exfalso;(exact dA q hq hb))
      have hA:=hA.later x_192
      have hB:=hB.later (eT x_3 (eT x_162 (eT x_165 x_172)))
      have hB:=hB.mod m_176 (λ q hq h=>by exfalso;(exact dCB q h hq))
      have hB:=hB.later x_185
      have hB:=hB.mod m_187 (λ q hq h=>by have hb:=List.mem_singleton.1 h;exfalso;(exact dB q hq hb))
      have hB:=hB.later x_192
      have O_177:=O_177.later x_185
      have O_177:=O_177.mod m_187 (λ q hq h=>by have hb:=List.mem_singleton.1 h;exfalso;(exact Or.elim (g_178 q hq) (λ k_194=>by (exact dC q k_194 hb)) (λ k_194=>by omega)))
      have O_177:=O_177.later x_192
      have e1:spB o= []:=by unfold spB;simp [*]
      have e2:spG o= []:=by unfold spG;simp [*]
      have e3:spD o= [(⟨3,o.by_,⟨0,0⟩,o.what⟩:Ded)]:=by unfold spD;simp [*]
      rw [e1,e2,e3]
      simp only [List.append_nil]
      exact ⟨A,a,B,b,A_174,c_175,rfl,hS,hA,hB,O_177,(λ q hq hb=>by (exact dA q hq hb)),(λ q hq hb=>by (exact dB q hq hb)),(λ q hq hb=>by (exact Or.elim (g_178 q hq) (λ k_195=>by (exact dC q k_195 hb)) (λ k_195=>by omega))),(λ q hq hb=>by (exact dBA q hq hb)),(λ q hq hb=>by (exact Or.elim (g_178 q hq) (λ k_196=>by (exact dCA q k_196 hb)) (λ k_196=>by (have:=uA q hb;omega)))),(λ q hq hb=>by (exact Or.elim (g_178 q hq) (λ k_197=>by (exact dCB q k_197 hb)) (λ k_197=>by (have:=uB q hb;omega)))),(λ q hq=> .inl hq),(λ q hq=> .inl hq),(λ q hq=>(g_178 q hq).imp id λ h=>by omega),z_191⟩
     ·refine sk<|nB<|ne<|tR .nil<| ?_
      have hS:=hS.later x_3
      have hA:=hA.later x_3
      have hB:=hB.later x_3
      have hC:=hC.later x_3
      have e1:spB o= []:=by unfold spB;simp [*]
      have e2:spG o= []:=by unfold spG;simp [*]
      have e3:spD o= []:=by unfold spD;simp [*]
      rw [e1,e2,e3]
      simp only [List.append_nil]
      exact ⟨A,a,B,b,C,c,rfl,hS,hA,hB,hC,(λ q hq hb=>by (exact dA q hq hb)),(λ q hq hb=>by (exact dB q hq hb)),(λ q hq hb=>by (exact dC q hq hb)),(λ q hq hb=>by (exact dBA q hq hb)),(λ q hq hb=>by (exact dCA q hq hb)),(λ q hq hb=>by (exact dCB q hq hb)),(λ q hq=> .inl hq),(λ q hq=> .inl hq),(λ q hq=> .inl hq),z_1⟩
end
section
open Go.RowKit
theorem ordsE_zero {l:List Odr} (h:ordsE l=0):l.length≤100∧∀ o∈l,o.chk=0:=by
 unfold ordsE at h
 split at h
 ·cases h
 ·refine ⟨by omega,λ o ho=> ?_⟩
  split at h
  ·rename_i x hx
   have:=List.find?_some hx
   rw [h] at this;exact nomatch this
  ·rename_i hx
   have:=List.find?_eq_none.1 hx o ho
   simpa using this
end
end Go.Proofs.YtlikikpgmmkjbaaGreat
