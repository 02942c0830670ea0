import Derived.Lib.Hide
import Derived.WalkSpells
import Derived.WalkLawsBesides
import Derived.BigQuiet
import Derived.Deep.RegionHeld3
import Derived.Laws.CopyOwn
import Derived.Lib.Strings
import Derived.Deep.AppendLies
import Derived.Shelf.SlicesE.Clone
import Derived.Deep.Fields
import Derived.WideKeyEntry
import Derived.Handy
set_option linter.unusedVariables false
set_option linter.unusedSimpArgs false
set_option maxRecDepth 100000
set_option maxHeartbeats 4000000
open Go.RowKit
namespace Go.Proofs.YthlpmldmhakhaaaGreatDoor
theorem Z.{u} {α:Sort u} {a:α}:a=a:=Eq.refl a
abbrev aM1:=@List.length_cons
abbrev aM2:=@List.getElem?_eq_some_iff
abbrev aM3:=@List.getElem?_eq_getElem
abbrev aM4:=@if_neg
abbrev aM6:=@List.length_append
abbrev aM9:=@List.length_take
abbrev aNa:=@Bool.and_eq_true
abbrev aNb:=@Go.Result.andThen_ok
abbrev aNd:=@if_pos
abbrev aNe:=@List.mem_cons_of_mem
abbrev aNf:=@Option.some.inj
abbrev aNg:=@List.mem_cons
abbrev aNh:=@Go.Sem.run_bind
abbrev aNi:=@List.mem_append
abbrev aNj:=@List.length_set
abbrev aNk:=@Nat.le_refl
abbrev aNl:=@Go.Sem.run_pure
abbrev aNm:=@Nat.le_trans
abbrev aNn:=@List.mem_map
abbrev aNr:=@List.take_of_length_le
abbrev aNt:=@List.getElem?_map
abbrev aNv:=@List.eq_nil_of_length_eq_zero
abbrev aNw:=@List.getElem?_append_left
abbrev aNx:=@List.map_append
abbrev aNy:=@Array.getElem?_eq_some_iff
abbrev aNA:=@List.append_nil
abbrev aNB:=@List.append_assoc
abbrev aNC:=@List.getElem?_append_right
abbrev aND:=@List.mem_range
abbrev aNE:=@List.length_drop
abbrev aNF:=@List.map_cons
abbrev aNG:=@Bool.or_eq_true
abbrev aNH:=@Go.RowKit.Below.refl
abbrev aNI:=@List.length_map
abbrev aNJ:=@List.all_eq_true
abbrev aNK:=@List.getElem?_take
abbrev aNL:=@List.getElem?_set_self
abbrev aNM:=@Nat.mul_le_mul_right
abbrev aNN:=@List.mem_of_getElem?
abbrev aNP:=@List.nodup_append
abbrev aNQ:=@Nat.zero_le
abbrev aNR:=@Bool.false_eq_true
abbrev aNT:=@Array.getElem?_eq_none
abbrev aNU:=@Go.MapKept.run_getObj_map
abbrev aNV:=@beq_iff_eq
abbrev aNW:=@List.flatten_cons
abbrev aNY:=@of_decide_eq_true
abbrev aNZ:=@List.mem_iff_getElem
abbrev aN1:=@Array.getElem?_toList
abbrev aN2:=@Option.getD_some
abbrev aN4:=@List.getElem?_set_ne
abbrev aN5:=@Nat.zero_add
abbrev aN6:=@List.getElem?_drop
abbrev aN8:=@Array.setIfInBounds_comm
abbrev aOa:=@Bool.not_eq_true'
abbrev aOc:=@Go.run_underlying
abbrev aOd:=@Nat.lt_or_ge
abbrev aOe:=@List.mem_flatten
abbrev aOf:=@List.map_nil
abbrev aOg:=@List.getElem_mem
abbrev aOh:=@List.any_eq_true
abbrev aOi:=@Go.MapKept.run_setObj_map
abbrev aOj:=@Array.length_toList
abbrev aOl:=@List.find?_eq_none
abbrev aOm:=@if_false
abbrev aOo:=@Go.Region.free_spec
abbrev aOq:=@List.size_toArray
abbrev aOr:=@Array.ext'
abbrev aOt:=@Array.getElem?_setIfInBounds_ne
abbrev aOA:=@List.nil_append
abbrev aOB:=@if_true
abbrev aOC:=@Nat.add_mul
abbrev aOD:=@Go.getD_set_ne
abbrev aOG:=@List.mem_or_eq_of_mem_set
abbrev aOH:=@Option.map_some
abbrev aOI:=@List.ext_getElem?
abbrev aOK:=@Go.wpOp_mono
abbrev aOL:=@Go.Act.put_comm
abbrev aOM:=@Go.ready_mono
abbrev aOS:=@Nat.mul_comm
abbrev aOU:=@Nat.eq_zero_or_pos
abbrev aOW:=@List.map_set
abbrev aOX:=@List.find?_cons_of_neg
abbrev aOY:=@Go.Calls.mono
abbrev aOZ:=@List.set_getElem_self
abbrev aO2:=@Go.ChangeMaps.modify_eq_set
abbrev aO6:=@Go.execOp_put
abbrev aO7:=@Go.Region.noSelect_spec
abbrev aO9:=@Array.toList_modify
abbrev aPb:=@List.nodup_cons
abbrev aPe:=@Go.wp_region_any
abbrev aPg:=@List.findIdx?_eq_some_iff_getElem
abbrev aPh:=@Go.wanted_put
abbrev aPp:=@Ne.symm
abbrev aPt:=@Go.mem_ready
abbrev aPw:=@List.flatten_append
abbrev aPz:=@List.map_map
abbrev aPB:=@Nat.blt_eq
abbrev aPF:=@Array.empty_append
abbrev aPH:=@List.findIdx?_eq_none_iff
abbrev aPM:=@Array.size_append
abbrev aPQ:=@Nat.mod_eq_of_lt
abbrev aPU:=@List.find?_cons_of_pos
abbrev aPW:=@Go.World.block_lt_of_cell?
abbrev aPX:=@Nat.mul_add_mod
abbrev aPZ:=@List.mem_append_right
abbrev aP1:=@List.getElem?_eq_none
abbrev aP3:=@Go.RowKit.Below.mono
abbrev aP4:=@Array.getElem?_modify
abbrev aP7:=@Array.getElem?_setIfInBounds_self_of_lt
abbrev aP8:=@Go.Oper.apart_spec
abbrev aP9:=@List.nodup_nil
abbrev aQa:=@List.mem_append_left
abbrev aQf:=@Array.getElem?_range
abbrev aQi:=@List.take_succ_cons
abbrev aQj:=@List.map_congr_left
abbrev aQk:=@List.getElem?_range
abbrev aQl:=@Go.heap_alloc_new
abbrev aQq:=@Nat.mod_lt
abbrev aQt:=@Array.getElem?_map
abbrev aQv:=@Option.some.injEq
abbrev aQx:=@List.getElem?_inj
abbrev aQG:=@Go.heap_setCell_other
abbrev aQH:=@List.take_append
abbrev aQI:=@List.map_toArray
abbrev aQJ:=@List.getElem_map
abbrev aQL:=@Go.wp_mono
abbrev aQ1:=@Go.WideElems.findIdx_born
abbrev aQ6:=@Go.WideElems.findIdx_arr
abbrev aQ9:=@List.flatten_eq_nil_iff
abbrev aRe:=@Nat.div_lt_iff_lt_mul
abbrev aRf:=@List.take_append_drop
abbrev aRh:=@List.set_append_right
abbrev aRk:=@Go.WideElems.set_self
abbrev aRt:=@Go.RowKit.Below.trans
abbrev aRu:=@Array.toList_append
abbrev aRD:=@List.length_range
abbrev aRF:=@List.any_eq_false
abbrev aRG:=@Bool.eq_false_iff
end Go.Proofs.YthlpmldmhakhaaaGreatDoor
namespace Go.Proofs.YthlpmldmhakhaaaGreatDoor.qX
def U {n:Nat} (b:BitVec n):Int:=(b.toNat:Int)

end Go.Proofs.YthlpmldmhakhaaaGreatDoor.qX
namespace Go.Proofs.YthlpmldmhakhaaaGreatDoor
def aDX (k:IntKind) (w:World) (a:Option Addr) (len cap:Nat) (zs:List Int):Prop :=
  (a=none∧len=0∧cap=0∧zs= [])∨
  ∃ x,a=some x∧len≤cap∧cap≤maxLen∧zs.length=cap∧(∀ i,i<zs.length→w.cell? (x.add i)=some (.int k (zs.getD i 0)))∧∀ n∈zs,(Lit.int k n).wf=true
theorem ayO {a:Bool} (h:a=true):Ending.returned (.bool a)= .returned (.bool true):=by rw [h]
theorem Il (b off j:Nat):(⟨b,off,none⟩:Addr).add j=⟨b,off+j,none⟩:=by
  unfold Addr.add;split<;>simp_all
theorem cell_later {w w':World} (af:Below w.heap.size w w') {a:Addr} {v:Value} (h:w.cell? a=some v):w'.cell? a=some v:=by
  rw [af.cell (aPW w a h)];exact h
def aO (w:World) (g:Nat) (cur:List Value) (e:TypeId) (ao:Nat×Nat):Prop:=w.heap[g]? =some (.cells cur.toArray e ao)
theorem aO.lt {w:World} {g:Nat} {cur:List Value} {e:TypeId} {ao:Nat×Nat} (h:aO w g cur e ao):g<w.heap.size:=(aNy.1 h).1
theorem aO.cell {w:World} {g:Nat} {cur:List Value} {e:TypeId} {ao:Nat×Nat} (h:aO w g cur e ao) (j:Nat):w.cell? ⟨g,j,none⟩=cur[j]? :=by
  rw [cell_of_row w g j _ e ao h];simp
theorem aO.free {w:World} {g:Nat} {cur:List Value} {e:TypeId} {ao:Nat×Nat} (h:aO w g cur e ao) (j:Nat) (aw:j<ao.1∨ao.2≤j):w.frozen? ⟨g,j,none⟩=false:=by
  unfold aO at h;obtain ⟨lo,ak⟩:=ao;simp only [World.frozen?,h];simp only at aw;simp;omega
theorem aO.set {w:World} {g:Nat} {cur:List Value} {e:TypeId} {ao:Nat×Nat} (h:aO w g cur e ao) (j:Nat) (v:Value):aO (w.setCell ⟨g,j,none⟩ v) g (cur.set j v) e ao:=by
  unfold aO at *
  simp only [World.setCell,aP4,h];simp
theorem aO.later {w w':World} {g:Nat} {cur:List Value} {e:TypeId} {ao:Nat×Nat} (h:aO w g cur e ao) (af:Below w.heap.size w w'):aO w' g cur e ao:=by
  have ay:=h.lt;unfold aO at *
  rw [af.block g ay];exact h
theorem aO.drew {w:World} {g:Nat} {cur:List Value} {e:TypeId} {ao:Nat×Nat} (h:aO w g cur e ao):aO w.drew g cur e ao:=h
theorem aO.drewN {w:World} {g:Nat} {cur:List Value} {e:TypeId} {ao:Nat×Nat} (h:aO w g cur e ao) (n:Nat):aO (w.drewN n) g cur e ao:=h
theorem aO.new (w:World) (cur:List Value) (e:TypeId) (ao:Nat×Nat):aO (w.alloc (.cells cur.toArray e ao)) w.heap.size cur e ao:=aQl w _
theorem aO.setRow {w:World} {g:Nat} {cur:List Value} {e:TypeId} {ao:Nat×Nat} (h:aO w g cur e ao) (new:List Value):aO (w.setRow g new.toArray) g new e ao:=setRow_heap w g _ _ e ao h
theorem aO.other {w:World} {g g':Nat} {cur:List Value} {e:TypeId} {ao:Nat×Nat} (h:aO w g cur e ao) (aU:g≠g') (j:Nat) (v:Value):aO (w.setCell ⟨g',j,none⟩ v) g cur e ao:=by
  unfold aO at *
  rw [aQG _ _ _ _ aU];exact h
theorem below_drewN {B:Nat} {a w:World} (h:Below B a w) (n:Nat):Below B a (w.drewN n):=⟨h.os,h.tape,h.output,h.size,h.block⟩
def Rd (w:World) (size:Nat) (A:Option Addr) (n:Nat) (xs:List Value):Prop :=
  xs.length=n * size∧(0<n→∃ b o,A=some ⟨b,o,none⟩∧∀ j u,xs[j]? =some u→w.cell? ⟨b,o+j,none⟩=some u)
theorem Rd.zero (w:World) (size:Nat) (A:Option Addr):Rd w size A 0 []:=⟨by simp,fun h=>absurd h (by decide)⟩
theorem Rd.later {w w':World} {size n:Nat} {A:Option Addr} {xs:List Value} (h:Rd w size A n xs) (af:Below w.heap.size w w'):Rd w' size A n xs :=
  ⟨h.1,fun aC=>by
    obtain ⟨b,o,e,hc⟩:=h.2 aC;exact ⟨b,o,e,fun j u hu=>cell_later af (hc j u hu)⟩⟩
theorem Rd.drewN {w:World} {size n:Nat} {A:Option Addr} {xs:List Value} (h:Rd w size A n xs) (k:Nat):Rd (w.drewN k) size A n xs:=h
def Own (w:World) (base:Nat) (e:TypeId) (size:Nat) (G:Nat→Value→Prop) (v:Value) (n:Nat) (xs:List Value):Prop :=
  xs.length=n * size∧
  ((v= .slice none 0 0∧n=0)∨
   ∃ g cap cur,v= .slice (some ⟨g,0,none⟩) n cap∧base≤g∧w.heap[g]? =some (.cells cur e (0,0))∧n≤cap∧cap≤maxLen∧cur.size=cap * size∧cur.toList.take (n * size)=xs∧∀ j u,cur[j]? =some u→G (j % size) u)
section
variable {w w':World} {base e size:Nat} {G:Nat→Value→Prop} {v:Value} {n:Nat} {xs:List Value}
theorem Own.row (h:Own w base e size G v n xs):w.ownsRow base e size v n xs:=by
  obtain ⟨κ,τ⟩:=h;refine ⟨κ, ?_⟩;rcases τ with τ | ⟨g,cap,cur,a,b,c,d,e,f,i,_⟩
  · exact .inl τ
  · exact .inr ⟨g,cap,cur,a,b,c,d,e,f,i⟩
theorem Own.nil (w:World) (base e size:Nat) (G:Nat→Value→Prop):Own w base e size G (.slice none 0 0) 0 []:=⟨by simp, .inl ⟨rfl,rfl⟩⟩
theorem Own.of_block {B:Nat} (h:Own w base e size G v n xs) (af:∀ g,v.ownBlock=some g→w'.heap[g]? =w.heap[g]?):Own w' base e size G v n xs:=by
  obtain ⟨κ,τ⟩:=h;refine ⟨κ, ?_⟩;rcases τ with τ | ⟨g,cap,cur,rfl,b,c,d⟩
  · exact .inl τ
  · exact .inr ⟨g,cap,cur,rfl,b,(af g rfl).trans c,d⟩
theorem Own.later (h:Own w base e size G v n xs) (af:Below w.heap.size w w'):Own w' base e size G v n xs :=
  h.of_block (B:=0) fun g aU=>af.block g (h.row.lt g aU).2
theorem Own.drewN (h:Own w base e size G v n xs) (k:Nat):Own (w.drewN k) base e size G v n xs:=h
theorem Own.drew (h:Own w base e size G v n xs):Own w.drew base e size G v n xs:=h
theorem Own.mono (h:Own w base e size G v n xs) {Yu:Nat} (af:Yu≤base):Own w Yu e size G v n xs:=by
  obtain ⟨κ,τ⟩:=h;refine ⟨κ, ?_⟩;rcases τ with τ | ⟨g,cap,cur,a,b,r⟩
  · exact .inl τ
  · exact .inr ⟨g,cap,cur,a,aNm af b,r⟩
theorem Own.rd (h:Own w base e size G v n xs) {A:Option Addr} {c:Nat} (hv:v= .slice A n c):Rd w size A n xs:=by
  obtain ⟨κ,τ⟩:=h;refine ⟨κ,fun aC=> ?_⟩;rcases τ with ⟨_,τ⟩ | ⟨g,cap,cur,rfl,b,c,d,e,f,i,_⟩
  · omega
  · injection hv with hv _ _
    refine ⟨g,0,hv.symm,fun j u hu=> ?_⟩;rw [aN5,cell_of_row w g j cur _ (0,0) c,← aN1];rw [← i,aNK] at hu;split at hu
    · exact hu
    · cases hu
theorem Own.shape (h:Own w base e size G v n xs):∃ A c,v= .slice A n c∧n≤c∧c≤maxLen∧Rd w size A n xs∧(∀ a,A=some a→base≤a.block∧a.block<w.heap.size)∧(A=none→v= .slice none 0 0):=by
  have cp:=h;obtain ⟨κ,τ⟩:=h;rcases τ with ⟨rfl,rfl⟩ | ⟨g,cap,cur,rfl,b,c,d,e,f,i,_⟩
  · exact ⟨none,0,rfl,aNk _,aNQ _,cp.rd rfl,(fun a ha=>by cases ha),fun _=>rfl⟩
  · refine ⟨_,cap,rfl,d,e,cp.rd rfl,fun a ha=> ?_,fun h=>by cases h⟩
    injection ha with ha
    subst ha;exact ⟨b,(aNy.1 c).1⟩
theorem aC7 {z:Array Value} (bo:z.size=size) (hs:0<size) (ar:∀ j u,z[j]? =some u→G j u) (k:Nat):∀ j u,(Builtin.zeroCells z k)[j]? =some u→G (j % size) u:=by
  intro j u hu;unfold Builtin.zeroCells at hu;subst bo;have aw:=(aNy.1 hu).1;simp at aw;have bB:j % z.size<z.size:=aQq _ hs;rw [aQt,aQf,aNd aw] at hu;simp only [aOH,aQv] at hu;refine ar _ u ?_;rw [← hu];simp [bB]
theorem Own.stored {g c:Nat} (h:Own w base e size G (.slice (some ⟨g,0,none⟩) n c) n xs) (j:Nat) (u:Value) (hu:G (j % size) u):
    Own (w.setCell ⟨g,j,none⟩ u) base e size G (.slice (some ⟨g,0,none⟩) n c) n (xs.set j u):=by
  obtain ⟨κ,τ⟩:=h;refine ⟨by rw [aNj];exact κ, ?_⟩;rcases τ with ⟨τ,_⟩ | ⟨g',cap,cur,hv,b,dP,d,hm,hs,aD,ar⟩
  · cases τ
  · injection hv with hv _ hc
    injection hv with hv
    injection hv with hv
    subst hv;subst hc;refine .inr ⟨g,c,cur.setIfInBounds j u,Z,b, ?_,d,hm,by simp [hs], ?_, ?_⟩
    · simp only [World.setCell,aP4,dP]
      simp
    · rw [← aD]
      simp only [Array.toList_setIfInBounds];rw [List.take_set]
    · intro i v hv
      by_cases kY:j=i
      · subst kY
        have bB:j<cur.size:=by
          have:=(aNy.1 hv).1;simpa using this
        rw [aP7 bB] at hv;obtain rfl:=aNf hv;exact hu
      · rw [aOt kY] at hv
        exact ar i v hv
theorem Own.cell {g c:Nat} (h:Own w base e size G (.slice (some ⟨g,0,none⟩) n c) n xs) (j:Nat) (aw:j<n * size):w.cell? ⟨g,j,none⟩=xs[j]? :=h.row.cellAt j aw
theorem Own.free {g c:Nat} (h:Own w base e size G (.slice (some ⟨g,0,none⟩) n c) n xs) (j:Nat):w.frozen? ⟨g,j,none⟩=false:=h.row.frozenAt j
theorem Own.lit (w:World) (cs:Array Value) (n:Nat) (af:base≤w.heap.size) (hm:n≤maxLen) (hs:cs.size=n * size) (ar:∀ j u,cs[j]? =some u→G (j % size) u):
    Own (w.alloc (.cells cs e)) base e size G (.slice (some ⟨w.heap.size,0,none⟩) n n) n cs.toList :=
  ⟨by simpa using hs, .inr ⟨w.heap.size,n,cs,rfl,af,aQl w _,aNk _,hm,hs,aNr (by simp [hs]),ar⟩⟩
theorem Own.empty (w:World) (af:base≤w.heap.size):Own (w.alloc (.cells #[] e)) base e size G (.slice (some ⟨w.heap.size,0,none⟩) 0 0) 0 [] :=
  Own.lit w #[] 0 af (aNQ _) (by simp) (fun j u h=>by simp at h)
end
section
variable {P:Program} (w:World)
theorem agc (base:Nat) (t ty e:TypeId) (i:TypeInfo) (z:Value) (size bytes:Nat) (aD:P.underlying t=some (.slice e)) (ak:P.info? e=some i) (bo:i.zero=some z)
    (wA:i.size=size) (oI:i.bytes=bytes) (rB:z.cells.size=size) (hh:0<size) (G:Nat→Value→Prop) (wD:∀ j u,z.cells[j]? =some u→G j u)
    (v:Value) (n:Nat) (xs:List Value) (jv:Own w base e size G v n xs)
    (A:Option Addr) (m c:Nat) (news:List Value) (hr:Rd w size A m news) (κ:∀ u∈news,u.oneCell'=true) (JH:∀ j u,news[j]? =some u→G (j % size) u)
    (qb:n+m≤maxLen) (qe:(n+m) * bytes≤140737488355328) (oG:base≤w.heap.size):
    ∃ v' w',(Builtin.append_ #[t,t] ty #[v, .slice A m c]).run P w= .ok v' w'∧Own w' base e size G v' (n+m) (xs++news)∧w.grownBy w' v.ownBlock∧
      (v'= .slice none 0 0↔v= .slice none 0 0∧m=0)∧(v'.ownBlock=v.ownBlock∨v'.ownBlock=some w.heap.size):=by
  subst wA;subst oI;have aHa:n+m≤9223372036854775807:=by simp only [maxLen] at qb;omega
  have ay:news.length=m * i.size:=hr.1;have GC:xs.length=n * i.size:=jv.1;have hlen:(xs++news).length=(n+m) * i.size:=by rw [aM6,GC,ay,aOC]
  have abw:(∀ j u,xs[j]? =some u→G (j % i.size) u)→∀ j u,(xs++news)[j]? =some u→G (j % i.size) u:=by
    intro hx j u hu;by_cases aw:j<xs.length
    · rw [aNw aw] at hu;exact hx j u hu
    · rw [aNC (by omega)] at hu
      have:=JH _ u hu;rw [GC] at this aw;have e:j % i.size=(j - n * i.size) % i.size:=by
        conv=>lhs;rw [show j=n * i.size+(j - n * i.size) from by omega]
        rw [aOS n,aPX]
      rw [e];exact this
  -- what the growing arm leaves, whatever was there before
  have grown:(∀ j u,xs[j]? =some u→G (j % i.size) u)→∀ (old:Nat),old<n+m→∀ (row:Option Nat),
      Own (w.drew.alloc (.cells (xs.toArray++news.toArray++Builtin.zeroCells z.cells (grownCap w (n+m) old e - (n+m))) e)) base e i.size G
        (.slice (some ⟨w.heap.size,0,none⟩) (n+m) (grownCap w (n+m) old e)) (n+m) (xs++news)∧
      w.grownBy (w.drew.alloc (.cells (xs.toArray++news.toArray++Builtin.zeroCells z.cells (grownCap w (n+m) old e - (n+m))) e)) row:=by
    intro Oj old bk row;have Ak:=grownCap_ge w (n+m) old e;have qf:grownCap w (n+m) old e≤maxLen:=grownCap_le_maxLen w (n+m) old e qb;refine ⟨⟨hlen, .inr ⟨w.heap.size,_,_,Z,oG,aQl w.drew _,Ak,qf, ?_, ?_, ?_⟩⟩,⟨Z,Z,Z,by simp,fun k aj _=>heap_alloc_old w.drew _ aj⟩⟩
    · simp only [aPM,aOq,size_zeroCells,rB,GC,ay,← aOC]
      congr 1;omega
    · simp only [aRu,aNB]
      rw [← aNB,← hlen];exact List.take_left
    · intro j u hu
      rw [← aN1] at hu;simp only [aRu] at hu;by_cases aw:j<(xs++news).length
      · rw [aNw aw] at hu;exact abw Oj j u hu
      · rw [aNC (by simpa using aw)] at hu
        rw [aN1] at hu;have:=aC7 rB hh wD _ _ u hu;have nP:(xs.toArray.toList++news.toArray.toList).length=(n+m) * i.size:=hlen;rw [nP] at this;rw [hlen] at aw;have e:j % i.size=(j - (n+m) * i.size) % i.size:=by
          conv=>lhs;rw [show j=(n+m) * i.size+(j - (n+m) * i.size) from by omega]
          rw [aOS (n+m),aPX]
        rw [e];exact this
  have TX:A=none∨∃ a,A=some a:=by cases A with | none=>exact .inl rfl | some a=>exact .inr ⟨a,rfl⟩
  rcases TX with rfl | ⟨ad,rfl⟩
  · have hm:m=0:=by
      rcases aOU m with aC | aC
      · exact aC
      · obtain ⟨b,o,h,_⟩:=hr.2 aC
        cases h
    subst hm;have hn:news= []:=aNv (by simpa using ay);subst hn;refine ⟨v,w, ?_,by simpa using jv,World.grownBy.refl w _,by simp, .inl rfl⟩;rcases jv.2 with ⟨rfl,rfl⟩ | ⟨g,cap,cur,rfl,_,_,BX,_⟩
    · simp [Builtin.append_,aOc aD,sizeOf,typeInfo,ak,Builtin.lenOf,Builtin.firstCells]
    · simp [Builtin.append_,aOc aD,sizeOf,typeInfo,ak,Builtin.lenOf,Builtin.firstCells,BX,storeCells]
  have JJ:∀ j u,news[j]? =some u→w.cell? (ad.add j)=some u:=by
    intro j u hu;rcases aOU m with aC | aC
    · subst aC
      have hn:news= []:=aNv (by simpa using ay);subst hn;simp at hu
    · obtain ⟨b,o,h,hc⟩:=hr.2 aC
      injection h with h
      subst h;rw [Il];exact hc j u hu
  rcases jv.2 with ⟨rfl,rfl⟩ | ⟨g,cap,cur,rfl,Tn,aU,BX,qf,yC,TZ,ar⟩
  · have hx:xs= []:=aNv (by simpa using GC)
    subst hx;by_cases hm:m=0
    · subst hm
      have hn:news= []:=aNv (by simpa using ay);subst hn;refine ⟨.slice none 0 0,w, ?_,Own.nil w base e i.size G,⟨Z,Z,Z,aNk _,fun _ _ _=>Z⟩,by simp,Or.inl rfl⟩;simp [Builtin.append_,aOc aD,sizeOf,typeInfo,ak,Builtin.lenOf,Builtin.firstCells,loadCells,loadCellsFrom]
    · have hr:=run_append_nil (P:=P) w t ty e i z aD ak bo ad m c news ay JJ (by omega) (by omega) (by have af:=qe;simp only [aN5] at af;omega)
      have BT:=grown (fun j u hu=>by simp at hu) 0 (by omega) (Value.ownBlock (.slice none 0 0));simp only [aN5,aOA,aPF] at BT ⊢;exact ⟨_,_,hr,BT.1,BT.2,by simp [hm],Or.inr rfl⟩
  · have Oj:∀ j u,xs[j]? =some u→G (j % i.size) u:=by
      intro j u hu;rw [← TZ,aNK] at hu;split at hu
      · exact ar j u (by rw [← aN1];exact hu)
      · cases hu
    by_cases TU:n+m≤cap
    · have TB:n * i.size+news.length≤cur.size:=by rw [ay,yC,← aOC];exact aNM _ TU
      have hr:=run_append_room (P:=P) w t ty e i aD ak g n cap cur aU ad m c news ay JJ κ TU TB;refine ⟨_,_,hr,⟨hlen, .inr ⟨g,cap,_,Z,Tn,setRow_heap w g cur _ e _ aU,TU,qf, ?_, ?_, ?_⟩⟩,⟨Z,Z,Z,by simp,fun k _ aj=>setRow_other w g k _ (fun e=>aj (by simp [Value.ownBlock,e]))⟩,by simp,Or.inl rfl⟩
      · simp only [aOq,aM6,aM9,aNE,aOj]
        omega
      · rw [TZ,← hlen]
        exact List.take_left
      · intro j u hu
        rw [TZ] at hu;have hu:((xs++news)++cur.toList.drop (n * i.size+news.length))[j]? =some u:=by simpa using hu
        by_cases aw:j<(xs++news).length
        · rw [aNw aw] at hu;exact abw Oj j u hu
        · rw [aNC (by omega),aN6] at hu
          rw [hlen] at hu aw;rw [ay,← aOC,show (n+m) * i.size+(j - (n+m) * i.size)=j from by omega] at hu;exact ar j u (by rw [← aN1];exact hu)
    · have holds:∀ j u,xs[j]? =some u→w.cell? ((⟨g,0,none⟩:Addr).add j)=some u:=jv.row.cells (g:=g) rfl
      have hr:=run_append_grow (P:=P) w t ty e i z aD ak bo ⟨g,0,none⟩ n cap xs GC holds ad m c news ay JJ (by omega) (by omega) (growslice_fits (by omega) qe);have BT:=grown Oj cap (by omega) (Value.ownBlock (.slice (some ⟨g,0,none⟩) n cap));exact ⟨_,_,hr,BT.1,BT.2,by simp,Or.inr rfl⟩

theorem aBx {o:Oper} {a:Act} {K:Act→World→Prop} {Q:Exit→Act→World→Prop} (s x:Operand) (t:TypeId)
    (bk:o.op= .call {callee:= .builtin .append,args:=#[s,x],argTypes:=#[t,t]})
    (base:Nat) (e:TypeId) (i:TypeInfo) (z:Value) (size bytes:Nat) (aD:P.underlying t=some (.slice e)) (ak:P.info? e=some i) (bo:i.zero=some z)
    (wA:i.size=size) (oI:i.bytes=bytes) (rB:z.cells.size=size) (hh:0<size) (G:Nat→Value→Prop) (wD:∀ j u,z.cells[j]? =some u→G j u)
    (v:Value) (n:Nat) (xs:List Value) (hs:a.eval s=v) (jv:Own w base e size G v n xs)
    (A:Option Addr) (m c:Nat) (news:List Value) (hx:a.eval x= .slice A m c) (hr:Rd w size A m news) (κ:∀ u∈news,u.oneCell'=true) (JH:∀ j u,news[j]? =some u→G (j % size) u)
    (qb:n+m≤maxLen) (qe:(n+m) * bytes≤140737488355328) (oG:base≤w.heap.size)
    (h:∀ v' w',Own w' base e size G v' (n+m) (xs++news)→w.grownBy w' v.ownBlock→(v'= .slice none 0 0↔v= .slice none 0 0∧m=0)→(v'.ownBlock=v.ownBlock∨v'.ownBlock=some w.heap.size)→K (a.put o.dst v') w'):o.wp P a w K Q:=by
  obtain ⟨v',w',kF,τ,aq,bb,bV⟩:=agc (P:=P) w base t o.type e i z size bytes aD ak bo wA oI rB hh G wD v n xs jv A m c news hr κ JH qb qe oG;unfold Oper.wp execOp;simp only [bk,resolve,invoke,builtin,aNh,aNl,aNb,aQI,aNF,aOf,hs,hx,kF];exact h v' w' τ aq bb bV
theorem Wi {ops:Array Oper} {rest:List Oper} {o:Oper} {a:Act} {Q:Exit→Act→World→Prop} (TG:o.guard=none) (s x:Operand) (t:TypeId)
    (bk:o.op= .call {callee:= .builtin .append,args:=#[s,x],argTypes:=#[t,t]})
    (base:Nat) (e:TypeId) (i:TypeInfo) (z:Value) (size bytes:Nat) (aD:P.underlying t=some (.slice e)) (ak:P.info? e=some i) (bo:i.zero=some z)
    (wA:i.size=size) (oI:i.bytes=bytes) (rB:z.cells.size=size) (hh:0<size) (G:Nat→Value→Prop) (wD:∀ j u,z.cells[j]? =some u→G j u)
    (v:Value) (n:Nat) (xs:List Value) (hs:a.eval s=v) (jv:Own w base e size G v n xs)
    (A:Option Addr) (m c:Nat) (news:List Value) (hx:a.eval x= .slice A m c) (hr:Rd w size A m news) (κ:∀ u∈news,u.oneCell'=true) (JH:∀ j u,news[j]? =some u→G (j % size) u)
    (qb:n+m≤maxLen) (qe:(n+m) * bytes≤140737488355328) (oG:base≤w.heap.size)
    (h:∀ v' w',Own w' base e size G v' (n+m) (xs++news)→w.grownBy w' v.ownBlock→(v'= .slice none 0 0↔v= .slice none 0 0∧m=0)→(v'.ownBlock=v.ownBlock∨v'.ownBlock=some w.heap.size)→wpList P ops Q rest (a.put o.dst v') w'):wpList P ops Q (o::rest) a w :=
  wpList_plain TG fun _ hK=>aBx w s x t bk base e i z size bytes aD ak bo wA oI rB hh G wD v n xs hs jv A m c news hx hr κ JH qb qe oG fun v' w' τ aq bb bV=>hK _ _ (h v' w' τ aq bb bV)
end
open Go.ChangeShapes Go.WideShapes Go.Deep Go.RowKit
inductive hB where
  | int (k:IntKind)
  | bool
  | str
  | slice (e:hB) (bytes:Nat)
  | nil
  | cons (a b:hB)
def hB.size:hB→Nat
  | .int _ | .bool | .str | .slice _ _=>1
  | .nil=>0
  | .cons a b=>a.size+b.size
def partsOf (P:Program) (t:TypeId):Option (List (TypeId×Nat)):=
  match P.underlying t with
  | some (.struct fs)=>some (fs.toList.map fun f=>(f.type,f.offset))
  | some (.array n e)=>some ((List.range n).map fun i=>(e,i * P.cellsOf e))
  | _=>none
def hB.fit (P:Program):hB→TypeId ⊕ (Nat×List (TypeId×Nat))→Bool
  | .int k, .inl t=>match P.underlying t with | some (.int k')=>decide (k'=k) | _=>false
  | .bool, .inl t=>match P.underlying t with | some .bool=>true | _=>false
  | .str, .inl t=>match P.underlying t with | some .string=>true | _=>false
  | .slice e by_, .inl t=>match P.underlying t with | some (.slice u)=>P.cellsOf u == e.size && P.bytesOf u == by_ && e.fit P (.inl u) | _=>false
  | .nil, .inl t=>P.cellsOf t == 0 && (match P.underlying t with | some (.struct _)=>true | some (.array ..)=>true | _=>false)
  | .cons a b, .inl t=>P.cellsOf t == a.size+b.size && (match partsOf P t with
      | some ((u,o)::r)=>o == 0 && P.cellsOf u == a.size && a.fit P (.inl u) && b.fit P (.inr (a.size,r))
      | _=>false)
  | .nil, .inr (_,fs)=>fs.isEmpty
  | .cons a b, .inr (off,fs)=>match fs with
    | (u,o)::r=>o == off && P.cellsOf u == a.size && a.fit P (.inl u) && b.fit P (.inr (off+a.size,r))
    | []=>false
  | _, .inr _=>false
def hB.l' (w:World):hB→List Value→Prop
  | .int k,cs=>∃ n,cs= [.int k n]∧(Lit.int k n).wf=true
  | .bool,cs=>∃ b,cs= [.bool b]
  | .str,cs=>∃ s:ByteArray,cs= [.string s]∧s.size≤maxLen∧s.size≤140737488351232
  | .slice e by_,cs=>cs= [.slice none 0 0]∨∃ (a:Addr) (len cap:Nat),cs= [.slice (some a) len cap]∧len≤cap∧cap≤maxLen∧cap * by_≤140737488351232∧
      ∀ i,i<cap→∃ es:List Value,es.length=e.size∧(∀ j v,es[j]? =some v→w.cell? (a.add (i * e.size+j))=some v)∧e.l' w es
  | .nil,cs=>cs= []
  | .cons a b,cs=>∃ xs ys,cs=xs++ys∧xs.length=a.size∧ys.length=b.size∧a.l' w xs∧b.l' w ys
variable {H:Type} {enc:TypeId×Value→H} {P:Program} {w:World} {base:Nat} {held:Bool}
theorem ahI {e:TypeId} {l:List (DataW H)} {d:DataW H} (h:d∈l):∀ n∈d.weights P e,n∈DataW.weightsAll P e l:=by
  induction l with
  | nil=>cases h
  | cons x r bu =>
    intro n hn;simp only [DataW.weightsAll,aNi];rcases aNg.1 h with rfl | h
    · exact .inl hn
    · exact .inr (bu h n hn)
def HM (enc:TypeId×Value→H) (P:Program) (w:World) (base:Nat) (held:Bool) (n:Nat) (cs:List Value) (fs:List (TypeId×Nat)) (xs:List (DataW H×List MemPlace)):Prop :=
  xs.length=fs.length∧∀ (i:Nat) (f:TypeId×Nat),fs[i]? =some f→DataW.trod enc P w base (fun _=>true) held n f.1 ((cs.drop f.2).take (P.cellsOf f.1))=xs[i]?
theorem HM.cons {n:Nat} {cs:List Value} {f:TypeId×Nat} {r:List (TypeId×Nat)} {xs:List (DataW H×List MemPlace)} (h:HM enc P w base held n cs (f::r) xs):
    ∃ x ys,xs=x::ys∧DataW.trod enc P w base (fun _=>true) held n f.1 ((cs.drop f.2).take (P.cellsOf f.1))=some x∧HM enc P w base held n cs r ys:=by
  obtain ⟨ay,hf⟩:=h
  match xs,ay with
  | x::ys,ay =>
    refine ⟨x,ys,Z,hf 0 f Z,by simpa using ay,fun i g aU=> ?_⟩;exact hf (i+1) g aU
def Goal (P:Program) (w:World) (sh:hB):TypeId ⊕ (Nat×List (TypeId×Nat))→Prop
  | .inl t=>∀ (H:Type) (enc:TypeId×Value→H) (base:Nat) (held:Bool) (fuel:Nat) (cs:List Value) (x:DataW H×List MemPlace),DataW.trod enc P w base (fun _=>true) held fuel t cs=some x→(∀ n∈x.1.weights P t,n≤reachBytes)→cs.length=sh.size∧sh.l' w cs
  | .inr (off,fs)=>∀ (H:Type) (enc:TypeId×Value→H) (base:Nat) (held:Bool) (n:Nat) (cs:List Value) (xs:List (DataW H×List MemPlace)),HM enc P w base held n cs fs xs→cs.length=off+sh.size→(∀ n∈DataW.weightsEach P (fs.map (·.1)) (xs.map (·.1)),n≤reachBytes)→sh.l' w (cs.drop off)
theorem Goal.fields {a b:hB} (atH:∀ t,a.fit P t=true→Goal P w a t) (atI:∀ t,b.fit P t=true→Goal P w b t) {off:Nat} {f:TypeId×Nat} {r:List (TypeId×Nat)} (κ:f.2=off) (τ:P.cellsOf f.1=a.size) (aq:a.fit P (.inl f.1)=true) (bb:b.fit P (.inr (off+a.size,r))=true):
    Goal P w (.cons a b) (.inr (off,f::r)):=by
  intro H enc base held n cs xs hx ay hw;obtain ⟨x,ys,rfl,aD,hr⟩:=hx.cons;have ha:=atH _ aq H enc base held n _ x aD (fun m hm=>hw m (by simp only [aNF,DataW.weightsEach,aNi];exact .inl hm));have hh:(hB.cons a b).size=a.size+b.size:=rfl;have af:=atI _ bb H enc base held n cs ys hr (by omega) (fun m hm=>hw m (by simp only [aNF,DataW.weightsEach,aNi];exact .inr hm));rw [κ,τ] at ha;refine ⟨_,_, ?_,ha.1, ?_,ha.2,af⟩
  · rw [← List.drop_drop,aRf]
  · rw [aNE];omega
theorem ahJ {e:TypeId}:∀ (l:List (DataW H)) (ts:List TypeId),ts.length=l.length→(∀ t∈ts,t=e)→DataW.weightsEach P ts l=DataW.weightsAll P e l
  | [], [],_,_=>rfl
  | d::l,t::ts,h,aD=>by
    rw [DataW.weightsEach,DataW.weightsAll,aD t (by simp),ahJ l ts (by simpa using h) (fun u hu=>aD u (by simp [hu]))]
  | [],_::_,h,_=>by simp at h
  | _::_, [],h,_=>by simp at h
theorem agS {t:TypeId} {fs:List (TypeId×Nat)} {fuel:Nat} {cs:List Value} {x:DataW H×List MemPlace} (hp:partsOf P t=some fs) (h:DataW.trod enc P w base (fun _=>true) held fuel t cs=some x):
    cs.length=P.cellsOf t∧∃ (xs:List (DataW H×List MemPlace)) (n:Nat),HM enc P w base held n cs fs xs∧x.1.weights P t=DataW.weightsEach P (fs.map (·.1)) (xs.map (·.1)):=by
  unfold partsOf at hp;split at hp
  · rename_i gs hu
    obtain rfl:=aNf hp;obtain ⟨xs,n,_,rfl,ay,hlen,hf⟩:=DataW.trod_struct hu h;refine ⟨ay,xs,n,⟨by rw [hlen];simp,fun i f aU=> ?_⟩, ?_⟩
    · rw [aNt] at aU
      match arX:gs.toList[i]?,aU with
      | some g,aU =>
        obtain rfl:=aNf aU;exact hf i g (by rw [← aN1];exact arX)
    · simp only [DataW.weights,hu,aPz]
      rfl
  · rename_i m e hu
    obtain rfl:=aNf hp;obtain ⟨xs,n,_,rfl,ay,hlen,hf⟩:=DataW.trod_array hu h;refine ⟨ay,xs,n,⟨by rw [hlen];simp,fun i f aU=> ?_⟩, ?_⟩
    · rw [aNt] at aU
      have ak:i<m:=by
        rcases aOd i m with h | h
        · exact h
        · rw [aP1 (by simpa using h)] at aU;cases aU
      rw [aQk ak] at aU;obtain rfl:=aNf aU;exact hf i ak
    · simp only [DataW.weights,hu]
      rw [ahJ (e:=e)]
      · simp [hlen]
      · intro u hu;simp at hu;exact hu.2.symm
  · cases hp
theorem F3 (P:Program) (w:World):∀ (sh:hB) (t:TypeId ⊕ (Nat×List (TypeId×Nat))),sh.fit P t=true→Goal P w sh t
  | .int k, .inl t,h=>by
    intro H enc base held fuel cs x aD _;unfold hB.fit at h;split at h
    · rename_i k' hu
      obtain rfl:k'=k:=aNY h;cases fuel with
      | zero=>simp [DataW.trod] at aD
      | succ n =>
        unfold DataW.trod at aD;rw [hu] at aD;split at aD<;>simp_all;exact ⟨Z,_,Z,aD.1.2⟩
    · cases h
  | .bool, .inl t,h=>by
    intro H enc base held fuel cs x aD _;unfold hB.fit at h;split at h
    · rename_i hu
      cases fuel with
      | zero=>simp [DataW.trod] at aD
      | succ n =>
        unfold DataW.trod at aD;rw [hu] at aD;split at aD<;>simp_all;exact ⟨Z,_,Z⟩
    · cases h
  | .str, .inl t,h=>by
    intro H enc base held fuel cs x aD hw;unfold hB.fit at h;split at h
    · rename_i hu
      cases fuel with
      | zero=>simp [DataW.trod] at aD
      | succ n =>
        unfold DataW.trod at aD;rw [hu] at aD;split at aD<;>simp_all;obtain ⟨κ,rfl⟩:=aD;refine ⟨Z,_,Z,κ, ?_⟩;simpa [DataW.weights,reachBytes] using hw
    · cases h
  | .slice e by_, .inl t,h=>by
    intro H enc base held fuel cs x aD hw;unfold hB.fit at h;split at h
    · rename_i u hu
      simp only [aNa,aNV] at h;obtain ⟨⟨κ,τ⟩,aq⟩:=h;rcases open_slice hu aD with ⟨rfl,_⟩ | ⟨a,len,cap,m,n,D,aD9,rfl,_,ay,hm,Gr,rfl,ak⟩
      · exact ⟨rfl, .inl rfl⟩
      · simp only [aOB] at Gr
        subst Gr;refine ⟨Z, .inr ⟨a,len,m,Z,ay,hm, ?_,fun i ar0=> ?_⟩⟩
        · have:=hw ((((List.range len).map D).length+((List.range (m - len)).map fun j=>D (len+j)).length) * P.bytesOf u) (by simp [DataW.weights,hu])
          rw [τ] at this;simp only [aNI,aRD,reachBytes] at this;rw [show len+(m - len)=m from by omega] at this;exact this
        · obtain ⟨Y0,hc,as8⟩:=ak i ar0
          have aU:=F3 P w e (.inl u) aq H enc base held n Y0 _ as8 (fun k aj=>hw k (by
            simp only [DataW.weights,hu,aNg,aNi];right;by_cases JA:i<len
            · exact .inl (ahI (aNn.2 ⟨i,aND.2 JA,rfl⟩) k aj)
            · exact .inr (ahI (aNn.2 ⟨i - len,aND.2 (by omega),by rw [show len+(i - len)=i from by omega]⟩) k aj)))
          obtain ⟨_,yB,gu⟩:=World.cells?_some hc;refine ⟨Y0,aU.1,fun j v hv=> ?_,aU.2⟩;have aw:j<P.cellsOf u:=by have:=(aM2.1 hv).1;omega
          rw [κ] at gu aw;rw [← Go.Deep.add_add,gu j aw,hv]
    · cases h
  | .nil, .inl t,h=>by
    intro H enc base held fuel cs x aD hw;unfold hB.fit at h;simp only [aNa,aNV] at h;obtain ⟨aC,κ⟩:=h;have hp:∃ fs,partsOf P t=some fs:=by
      unfold partsOf;split at κ
      · exact ⟨_,rfl⟩
      · exact ⟨_,rfl⟩
      · cases κ
    obtain ⟨fs,hp⟩:=hp;have ay:=(agS hp aD).1;rw [aC] at ay;exact ⟨ay,aNv ay⟩
  | .cons a b, .inl t,h=>by
    intro H enc base held fuel cs x aD hw;unfold hB.fit at h;simp only [aNa,aNV] at h;obtain ⟨aC,h⟩:=h;split at h
    · rename_i u o r hp
      obtain ⟨ay,xs,n,hx,he⟩:=agS hp aD;rw [aC] at ay;refine ⟨ay, ?_⟩;simp only [aNa,aNV] at h;obtain ⟨⟨⟨κ,τ⟩,aq⟩,bb⟩:=h;have bb:b.fit P (.inr (0+a.size,r))=true:=by rw [aN5];exact bb
      exact Goal.fields (w:=w) (f:=(u,o)) (fun t aD=>F3 P w a t aD) (fun t aD=>F3 P w b t aD) κ τ aq bb H enc base held n cs xs hx (by rw [ay];show _=0+(a.size+b.size);omega) (fun m hm=>hw m (by rw [he];exact hm))
    · cases h
  | .nil, .inr (off,fs),h=>by
    intro H enc base held n cs xs hx ay hw;exact aNv (by rw [aNE,ay];simp [hB.size])
  | .cons a b, .inr (off,fs),h=>by
    unfold hB.fit at h;split at h
    · rename_i u o r
      simp only [aNa,aNV] at h;obtain ⟨⟨⟨κ,τ⟩,aq⟩,bb⟩:=h;exact Goal.fields (f:=(u,o)) (fun t aD=>F3 P w a t aD) (fun t aD=>F3 P w b t aD) κ τ aq bb
    · cases h
  | .int _, .inr _,h=>by simp [hB.fit] at h
  | .bool, .inr _,h=>by simp [hB.fit] at h
  | .str, .inr _,h=>by simp [hB.fit] at h
  | .slice _ _, .inr _,h=>by simp [hB.fit] at h
theorem aJX {ts:List TypeId} {ds:List (DataW H)} (sh:hB) {j:Nat} {t:TypeId} {v:Value} {d:DataW H} {p:List MemPlace} (TB:sh.fit P (.inl t)=true)
    (hh:(DataW.weightsEach P ts ds).all (· ≤reachBytes)=true) (aD:ts[j]? =some t) (hd:ds[j]? =some d) (h:DataW.Trod enc P w base (fun _=>true) held t v d p):
    v.cells.toList.length=sh.size∧sh.l' w v.cells.toList:=by
  obtain ⟨fuel,hf⟩:=h;exact F3 P w sh (.inl t) TB H enc base held fuel _ (d,p) hf (fun n hn=>by
    have:=aNJ.1 hh _ (DataW.weights_mem_each aD hd n hn);simpa using this)
def dt {β α:Type} (P:β→α→Prop):List β→List α→Prop
  | [], []=>True
  | b::b_,a::m=>P b a∧dt P b_ m
  | _,_=>False
section
variable {β α:Type} {P Q:β→α→Prop}
theorem dt.length:∀ {l:List β} {m:List α},dt P l m→l.length=m.length
  | [], [],_=>rfl
  | _::_,_::_,h=>by rw [aM1,aM1,dt.length h.2]
  | [],_::_,h=>h.elim
  | _::_, [],h=>h.elim
theorem dt.imp {l:List β} (ak:∀ b a,b∈l→P b a→Q b a):∀ {m:List α},dt P l m→dt Q l m:=by
  induction l with
  | nil=>intro m h;cases m with | nil=>trivial | cons=>exact h
  | cons b r bu =>
    intro m h;cases m with
    | nil=>exact h
    | cons a s=>exact ⟨ak b a (by simp) h.1,bu (fun b a af=>ak b a (by simp [af])) h.2⟩
theorem dt.app:∀ {l:List β} {m:List α} {Ot:List β} {m':List α},dt P l m→dt P Ot m'→dt P (l++Ot) (m++m')
  | [], [],_,_,_,h=>h
  | _::_,_::_,_,_,h,cp=>⟨h.1,dt.app h.2 cp⟩
  | [],_::_,_,_,h,_=>h.elim
  | _::_, [],_,_,h,_=>h.elim
theorem dt.at_:∀ {l:List β} {m:List α} {i:Nat} {a:α},dt P l m→m[i]? =some a→∃ b,l[i]? =some b∧P b a
  | [], [],_,_,_,h=>by simp at h
  | b::_,_::_,0,_,h,e=>⟨b,rfl,by simp at e;subst e;exact h.1⟩
  | _::_,_::_,i+1,_,h,e=>by
    obtain ⟨b,κ,τ⟩:=dt.at_ (i:=i) h.2 (by simpa using e);exact ⟨b,by simpa using κ,τ⟩
  | [],_::_,_,_,h,_=>h.elim
  | _::_, [],_,_,h,_=>h.elim
theorem dt.Vj:∀ {l:List β} {m:List α} {i:Nat} {b:β} {a:α},dt P l m→P b a→dt P (l.set i b) (m.set i a)
  | [], [],_,_,_,_,_=>trivial
  | _::_,_::_,0,_,_,h,e=>⟨e,h.2⟩
  | _::_,_::_,_+1,_,_,h,e=>⟨h.1,dt.Vj h.2 e⟩
  | [],_::_,_,_,_,h,_=>h.elim
  | _::_, [],_,_,_,h,_=>h.elim
theorem dt.G_:∀ {l:List β} {m:List α} (k:Nat),dt P l m→dt P (l.take k) (m.take k)
  | [], [],_,_=>by simp [dt]
  | _::_,_::_,0,_=>trivial
  | _::_,_::_,k+1,h=>⟨h.1,dt.G_ k h.2⟩
  | [],_::_,_,h=>h.elim
  | _::_, [],_,h=>h.elim
theorem dt.left:∀ {l:List β} {m:List α},dt P l m→∀ b∈l,∃ a,P b a
  | [],_,_,b,af=>by simp at af
  | c::_, [],h,_,_=>h.elim
  | c::_,a::_,h,b,af=>by
    rcases aNg.1 af with rfl | af
    · exact ⟨a,h.1⟩
    · exact dt.left h.2 b af
end
theorem Dr {k:Nat}:∀ {l:List (List Value)},(∀ x∈l,x.length=k)→l.flatten.length=l.length * k
  | [],_=>by simp
  | x::r,h=>by rw [aNW,aM6,h x (by simp),Dr (l:=r) (fun y aH=>h y (by simp [aH])),aM1,aOC];omega
theorem I1 {k:Nat}:∀ {l:List (List Value)} {i j:Nat} {es:List Value},(∀ x∈l,x.length=k)→l[i]? =some es→j<k→l.flatten[i * k+j]? =es[j]?
  | [],_,_,_,_,h,_=>by simp at h
  | x::r,0,j,es,h,e,aw=>by
    have e:x=es:=by simpa using e
    subst e;rw [aNW,Nat.zero_mul,aN5,aNw (by rw [h x (by simp)];exact aw)]
  | x::r,i+1,j,es,h,e,aw=>by
    have hx:=h x (by simp);rw [aNW,aNC (by rw [hx,aOC];omega),hx,show (i+1) * k+j - k=i * k+j from by rw [aOC];omega];exact I1 (fun y aH=>h y (by simp [aH])) (by simpa using e) aw
theorem aay {k:Nat}:∀ {l:List (List Value)} {i j:Nat} {es:List Value} (u:Value),(∀ x∈l,x.length=k)→l[i]? =some es→j<k→l.flatten.set (i * k+j) u=(l.set i (es.set j u)).flatten
  | [],_,_,_,_,_,h,_=>by simp at h
  | x::r,0,j,es,u,h,e,aw=>by
    have e:x=es:=by simpa using e
    subst e;rw [aNW,Nat.zero_mul,aN5,List.set_append_left _ _ (by rw [h x (by simp)];exact aw)];rfl
  | x::r,i+1,j,es,u,h,e,aw=>by
    have hx:=h x (by simp);rw [aNW,aRh _ _ (by rw [hx,aOC];omega),hx,show (i+1) * k+j - k=i * k+j from by rw [aOC];omega,aay u (fun y aH=>h y (by simp [aH])) (by simpa using e) aw];rfl
theorem aaA {k:Nat}:∀ {l:List (List Value)} (i:Nat),(∀ x∈l,x.length=k)→l.flatten.take (i * k)=(l.take i).flatten
  | [],_,_=>by simp
  | x::r,0,_=>by simp
  | x::r,i+1,h=>by
    have hx:=h x (by simp);rw [aNW,aQi,aNW,aQH,hx,aNr (by rw [hx,aOC];omega),show (i+1) * k - k=i * k from by rw [aOC];omega,aaA i (fun y aH=>h y (by simp [aH]))]
structure Φ (α:Type) where
  size:Nat
  has:World→List Value→α→Prop
  own:World→Nat→List Nat→List Value→α→Prop
  raw:Nat→Value→Prop
  len:∀ {w cs a},has w cs a→cs.length=size
  one:∀ {w cs a},has w cs a→∀ u∈cs,u.oneCell'=true
  ur:∀ {w cs a},has w cs a→∀ (j:Nat) u,cs[j]? =some u→raw j u
  keep:∀ {w w' cs a},has w cs a→Below w.heap.size w w'→has w' cs a
  rQ:∀ {w B f cs a},own w B f cs a→has w cs a
  rR:∀ {w w' B f cs a},own w B f cs a→(∀ g∈f,w'.heap[g]? =w.heap[g]?)→own w' B f cs a
  sU:∀ {w B f cs a},own w B f cs a→∀ g∈f,B≤g∧g<w.heap.size
  AD:∀ {w B pT f cs a},own w B f cs a→pT≤B→own w pT f cs a
namespace Φ
variable {α β:Type} {w w':World} {B pT:Nat} {f:List Nat} {cs:List Value} {a:α}
theorem UR (R:Φ α) (h:R.own w B f cs a):cs.length=R.size:=R.len (R.rQ h)
def Nv (size:Nat) (cells:α→List Value) (ok:α→Prop) (raw:Nat→Value→Prop) (ay:∀ a,(cells a).length=size) (κ:∀ a,∀ u∈cells a,u.oneCell'=true) (hr:∀ a,ok a→∀ (j:Nat) u,(cells a)[j]? =some u→raw j u):Φ α where
  size:=size
  has:=fun _ cs a=>cs=cells a∧ok a
  own:=fun _ _ f cs a=>f= []∧cs=cells a∧ok a
  raw:=raw
  len:=by rintro w cs a ⟨rfl,_⟩;exact ay a
  one:=by rintro w cs a ⟨rfl,_⟩;exact κ a
  ur:=by rintro w cs a ⟨rfl,h⟩;exact hr a h
  keep:=fun h _=>h
  rQ:=fun h=>h.2
  rR:=fun h _=>h
  sU:=by rintro w B f cs a ⟨rfl,_⟩ g aU;simp at aU
  AD:=fun h _=>h
def flat (size:Nat) (cells:α→List Value) (ok:α→Prop) (raw:Nat→Value→Prop) (ay:∀ a,(cells a).length=size) (κ:∀ a,∀ u∈cells a,u.oneCell'=true) (hr:∀ a (j:Nat) u,(cells a)[j]? =some u→raw j u):Φ α where
  size:=size
  has:=fun _ cs a=>cs=cells a∧ok a
  own:=fun _ _ f cs a=>f= []∧cs=cells a∧ok a
  raw:=raw
  len:=by rintro w cs a ⟨rfl,_⟩;exact ay a
  one:=by rintro w cs a ⟨rfl,_⟩;exact κ a
  ur:=by rintro w cs a ⟨rfl,_⟩;exact hr a
  keep:=fun h _=>h
  rQ:=fun h=>h.2
  rR:=fun h _=>h
  sU:=by rintro w B f cs a ⟨rfl,_⟩ g aU;simp at aU
  AD:=fun h _=>h
def pair (R:Φ α) (S:Φ β):Φ (α×β) where
  size:=R.size+S.size
  has:=fun w cs p=>∃ xs ys,cs=xs++ys∧R.has w xs p.1∧S.has w ys p.2
  own:=fun w B f cs p=>∃ xs ys f1 f2,cs=xs++ys∧f=f1++f2∧R.own w B f1 xs p.1∧S.own w B f2 ys p.2
  raw:=fun j u=>if j<R.size then R.raw j u else S.raw (j - R.size) u
  len:=by rintro w cs p ⟨xs,ys,rfl,κ,τ⟩;rw [aM6,R.len κ,S.len τ]
  one:=by
    rintro w cs p ⟨xs,ys,rfl,κ,τ⟩ u hu;rcases aNi.1 hu with hu | hu
    · exact R.one κ u hu
    · exact S.one τ u hu
  ur:=by
    rintro w cs p ⟨xs,ys,rfl,κ,τ⟩ j u hu;by_cases aw:j<R.size
    · rw [aNd aw];rw [aNw (by rw [R.len κ];exact aw)] at hu;exact R.ur κ j u hu
    · rw [aM4 aw];rw [aNC (by rw [R.len κ];omega),R.len κ] at hu;exact S.ur τ _ u hu
  keep:=by rintro w w' cs p ⟨xs,ys,rfl,κ,τ⟩ af;exact ⟨xs,ys,Z,R.keep κ af,S.keep τ af⟩
  rQ:=by rintro w B f cs p ⟨xs,ys,f1,f2,rfl,rfl,κ,τ⟩;exact ⟨xs,ys,Z,R.rQ κ,S.rQ τ⟩
  rR:=by
    rintro w w' B f cs p ⟨xs,ys,f1,f2,rfl,rfl,κ,τ⟩ aj;exact ⟨xs,ys,f1,f2,Z,Z,R.rR κ (fun g aU=>aj g (by simp [aU])),S.rR τ (fun g aU=>aj g (by simp [aU]))⟩
  sU:=by
    rintro w B f cs p ⟨xs,ys,f1,f2,rfl,rfl,κ,τ⟩ g aU;rcases aNi.1 aU with aU | aU
    · exact R.sU κ g aU
    · exact S.sU τ g aU
  AD:=by
    rintro w B pT f cs p ⟨xs,ys,f1,f2,rfl,rfl,κ,τ⟩ af;exact ⟨xs,ys,f1,f2,Z,Z,R.AD κ af,S.AD τ af⟩
def via (R:Φ α) (g:β→α):Φ β where
  size:=R.size
  has:=fun w cs b=>R.has w cs (g b)
  own:=fun w B f cs b=>R.own w B f cs (g b)
  raw:=R.raw
  len:=fun h=>R.len h
  one:=fun h=>R.one h
  ur:=fun h=>R.ur h
  keep:=fun h af=>R.keep h af
  rQ:=fun h=>R.rQ h
  rR:=fun h aj=>R.rR h aj
  sU:=fun h=>R.sU h
  AD:=fun h af=>R.AD h af
def ab:Option Addr→List Nat
  | none=> []
  | some a=> [a.block]
theorem av6 {A:Option Addr} {g:Nat}:g∈ab A↔∃ a,A=some a∧a.block=g:=by
  cases A with
  | none=>simp [ab]
  | some a=>simp [ab,eq_comm]
def aQ (R:Φ α) (by_:Nat) (w:World) (A:Option Addr) (c:Nat) (l:List α):Prop :=
  l.length≤c∧c≤9223372036854775807∧l.length * by_≤140737488355328∧(A=none→c=0)∧
  ∃ ess,dt (fun es a=>R.has w es a) ess l∧Rd w R.size A l.length ess.flatten
def aM (R:Φ α) (E:TypeId) (by_:Nat) (w:World) (B:Nat) (f:List Nat) (A:Option Addr) (c:Nat) (l:List α):Prop :=
  l.length * by_≤140737488355328∧
  ∃ ps:List (List Nat×List Value),f=ab A++(ps.map (·.1)).flatten∧f.Nodup∧Own w B E R.size R.raw (.slice A l.length c) l.length (ps.map (·.2)).flatten∧
    dt (fun x a=>R.own w B x.1 x.2 a) ps l
theorem aQ.keep {R:Φ α} {by_:Nat} {A:Option Addr} {c:Nat} {l:List α} (h:R.aQ by_ w A c l) (af:Below w.heap.size w w'):R.aQ by_ w' A c l:=by
  obtain ⟨κ,τ,aq,bb,ess,bV,cy⟩:=h;exact ⟨κ,τ,aq,bb,ess,bV.imp (fun es a _ h=>R.keep h af),cy.later af⟩
theorem aQ.drewN {R:Φ α} {by_:Nat} {A:Option Addr} {c:Nat} {l:List α} (h:R.aQ by_ w A c l) (k:Nat):R.aQ by_ (w.drewN k) A c l:=h.keep (below_drewN (aNH _ w) k)
theorem dt.UD {β ah3 α:Type} (g:β→ah3) {P:ah3→α→Prop}:∀ {l:List β} {m:List α},dt (fun b a=>P (g b) a) l m→dt P (l.map g) m
  | [], [],_=>trivial
  | _::_,_::_,h=>⟨h.1,dt.UD g h.2⟩
  | [],_::_,h=>h.elim
  | _::_, [],h=>h.elim
theorem aM.has {R:Φ α} {E:TypeId} {by_:Nat} {A:Option Addr} {c:Nat} {l:List α} (h:R.aM E by_ w B f A c l):R.aQ by_ w A c l:=by
  obtain ⟨κ,ps,rfl,aq,bb,bV⟩:=h;obtain ⟨bS,cn,e,hle,hmx,ack,_,mj⟩:=bb.shape;injection e with aR _ a1
  subst aR;subst a1;refine ⟨hle,by unfold maxLen at hmx;omega,κ,fun hn=>by have:=mj hn;injection this,_,dt.UD (fun x:List Nat×List Value=>x.2) (bV.imp fun x a _ h=>R.rQ h),ack⟩
theorem aM.keep {R:Φ α} {E:TypeId} {by_:Nat} {A:Option Addr} {c:Nat} {l:List α} (h:R.aM E by_ w B f A c l) (aj:∀ g∈f,w'.heap[g]? =w.heap[g]?):R.aM E by_ w' B f A c l:=by
  obtain ⟨κ,ps,rfl,aq,bb,bV⟩:=h;refine ⟨κ,ps,Z,aq,bb.of_block (B:=0) fun g aU=>aj g ?_,bV.imp fun x a hx h=>R.rR h fun g aU=>aj g ?_⟩
  · cases A with
    | none=>cases aU
    | some a=>injection aU with aU;simp [ab,aU]
  · exact aNi.2 (.inr (aOe.2 ⟨x.1,aNn.2 ⟨x,hx,rfl⟩,aU⟩))
theorem aM.lt {R:Φ α} {E:TypeId} {by_:Nat} {A:Option Addr} {c:Nat} {l:List α} (h:R.aM E by_ w B f A c l):∀ g∈f,B≤g∧g<w.heap.size:=by
  obtain ⟨κ,ps,rfl,aq,bb,bV⟩:=h;intro g aU;rcases aNi.1 aU with aU | aU
  · obtain ⟨a,rfl,rfl⟩:=av6.1 aU
    exact bb.row.lt _ Z
  · obtain ⟨y,aH,aU⟩:=aOe.1 aU
    obtain ⟨x,hx,rfl⟩:=aNn.1 aH;obtain ⟨a,ha⟩:=bV.left x hx;exact R.sU ha g aU
theorem aM.later {R:Φ α} {E:TypeId} {by_:Nat} {A:Option Addr} {c:Nat} {l:List α} (h:R.aM E by_ w B f A c l) (af:Below w.heap.size w w'):R.aM E by_ w' B f A c l:=h.keep fun g aU=>af.block g (h.lt g aU).2
theorem aM.nodup {R:Φ α} {E:TypeId} {by_:Nat} {A:Option Addr} {c:Nat} {l:List α} (h:R.aM E by_ w B f A c l):f.Nodup:=by
  obtain ⟨_,ps,rfl,aq,_⟩:=h;exact aq
theorem aM.down {R:Φ α} {E:TypeId} {by_:Nat} {A:Option Addr} {c:Nat} {l:List α} (h:R.aM E by_ w B f A c l) (af:pT≤B):R.aM E by_ w pT f A c l:=by
  obtain ⟨κ,ps,rfl,aq,bb,bV⟩:=h;exact ⟨κ,ps,Z,aq,bb.mono af,bV.imp fun x a _ h=>R.AD h af⟩
def slice (R:Φ α) (E:TypeId) (by_:Nat):Φ (List α) where
  size:=1
  has:=fun w cs l=>∃ A c,cs= [.slice A l.length c]∧R.aQ by_ w A c l
  own:=fun w B f cs l=>∃ A c,cs= [.slice A l.length c]∧R.aM E by_ w B f A c l
  raw:=fun _ u=>∃ A n c,u= .slice A n c
  len:=by rintro w cs l ⟨A,c,rfl,_⟩;rfl
  one:=by rintro w cs l ⟨A,c,rfl,_⟩ u hu;simp at hu;subst hu;rfl
  ur:=by
    rintro w cs l ⟨A,c,rfl,_⟩ j u hu;cases j with
    | zero=>simp at hu;exact ⟨_,_,_,hu.symm⟩
    | succ j=>simp at hu
  keep:=by rintro w w' cs l ⟨A,c,rfl,h⟩ af;exact ⟨A,c,Z,h.keep af⟩
  rQ:=by rintro w B f cs l ⟨A,c,rfl,h⟩;exact ⟨A,c,Z,h.has⟩
  rR:=by rintro w w' B f cs l ⟨A,c,rfl,h⟩ aj;exact ⟨A,c,Z,h.keep aj⟩
  sU:=by rintro w B f cs l ⟨A,c,rfl,h⟩;exact h.lt
  AD:=by rintro w B pT f cs l ⟨A,c,rfl,h⟩ af;exact ⟨A,c,Z,h.down af⟩
section
variable {R:Φ α} {E:TypeId} {by_:Nat} {A:Option Addr} {c:Nat} {l:List α}
theorem lens {ess:List (List Value)} (h:dt (fun es a=>R.has w es a) ess l):∀ x∈ess,x.length=R.size:=fun x hx=>by
  obtain ⟨a,ha⟩:=h.left x hx;exact R.len ha
theorem aQ.at_ (h:R.aQ by_ w A c l) (aC:0<l.length):∃ b o,A=some ⟨b,o,none⟩∧∀ (i:Nat) a,l[i]? =some a→∃ es,R.has w es a∧∀ (j:Nat) u,es[j]? =some u→w.cell? ⟨b,o+(i * R.size+j),none⟩=some u:=by
  obtain ⟨_,_,_,_,ess,bV,cy,ed⟩:=h;obtain ⟨b,o,e,hc⟩:=ed aC;refine ⟨b,o,e,fun i a ha=> ?_⟩;obtain ⟨es,fx,pk⟩:=bV.at_ ha;refine ⟨es,pk,fun j u hu=>hc _ u ?_⟩;have aw:=(aM2.1 hu).1;rw [R.len pk] at aw;rw [I1 (lens bV) fx aw];exact hu
theorem aQ.Im {Q:α→Prop} (I:∀ {w cs a},R.has w cs a→Q a) (h:R.aQ by_ w A c l):∀ a∈l,Q a:=by
  obtain ⟨_,_,_,_,ess,bV,_⟩:=h;intro a ha;obtain ⟨i,ak,rfl⟩:=aNZ.1 ha;obtain ⟨es,_,he⟩:=bV.at_ (aM3 ak);exact I he
theorem aQ.kr {A:Option Addr} {c:Nat} {l:List α} {by_:Nat} {R:Φ α} (h:R.aQ by_ w A c l):l.length≤9223372036854775807:=aNm h.1 h.2.1
theorem aQ.G_ {A:Option Addr} {c:Nat} {l:List α} {by_:Nat} {R:Φ α} (h:R.aQ by_ w A c l) (k:Nat):R.aQ by_ w A c (l.take k):=by
  obtain ⟨κ,τ,aq,bb,ess,bV,cy⟩:=h;have ay:(l.take k).length≤l.length:=by rw [aM9];omega
  have hm:=aNM by_ ay;have ed:=bV.G_ k;refine ⟨by omega,τ,by omega,bb,ess.take k,ed,by rw [Dr (lens ed),ed.length],fun aC=> ?_⟩;obtain ⟨b,o,e,hc⟩:=cy.2 (by omega);refine ⟨b,o,e,fun j u hu=>hc j u ?_⟩;rw [← aaA k (lens bV),aNK] at hu;split at hu
  · exact hu
  · cases hu
theorem aQ.nil (w:World):R.aQ by_ w none 0 []:=⟨aNk _,by simp,by simp,fun _=>rfl, [],trivial,Rd.zero w R.size none⟩
theorem aM.nil (w:World):R.aM E by_ w B [] none 0 []:=⟨by simp, [],rfl,aP9,Own.nil w B E R.size R.raw,trivial⟩
end
def zE (R:Φ α) (E:TypeId) (by_:Nat) (w:World) (B:Nat) (ao:List Nat) (g c:Nat) (l:List α) (i:Nat) (es:List Value):Prop :=
  l.length * by_≤140737488355328∧ 
  ∃ ps:List (List Nat×List Value),ao=g::(ps.map (·.1)).flatten∧ao.Nodup∧Own w B E R.size R.raw (.slice (some ⟨g,0,none⟩) l.length c) l.length (ps.map (·.2)).flatten∧
    ps[i]? =some ([],es)∧es.length=R.size∧ps.length=l.length∧∀ k a,k≠i→l[k]? =some a→∃ x,ps[k]? =some x∧R.own w B x.1 x.2 a
section
variable {R:Φ α} {E:TypeId} {by_:Nat} {A:Option Addr} {c:Nat} {l:List α} {g i:Nat} {es:List Value} {ao:List Nat}
theorem OX {ps:List (List Nat×List Value)} (h:dt (fun x a=>R.own w B x.1 x.2 a) ps l):∀ x∈ps.map (·.2),x.length=R.size:=fun x hx=>by
  obtain ⟨y,aH,rfl⟩:=aNn.1 hx;obtain ⟨a,ha⟩:=h.left y aH;exact R.UR ha
theorem aM.block (h:R.aM E by_ w B f A c l) (aC:0<l.length):∃ g,A=some ⟨g,0,none⟩:=by
  obtain ⟨_,ps,_,_,bb,_⟩:=h;obtain ⟨_,bV⟩:=bb;rcases bV with ⟨_,bV⟩ | ⟨g,cap,cur,hv,_⟩
  · omega
  · injection hv with hv;exact ⟨g,hv⟩
theorem zE.lens (h:R.zE E by_ w B ao g c l i es):∃ ps:List (List Nat×List Value),ao=g::(ps.map (·.1)).flatten∧ao.Nodup∧Own w B E R.size R.raw (.slice (some ⟨g,0,none⟩) l.length c) l.length (ps.map (·.2)).flatten∧
    ps[i]? =some ([],es)∧es.length=R.size∧ps.length=l.length∧(∀ k a,k≠i→l[k]? =some a→∃ x,ps[k]? =some x∧R.own w B x.1 x.2 a)∧∀ x∈ps.map (·.2),x.length=R.size:=by
  obtain ⟨_,ps,τ,aq,bb,bV,cy,ed,fx⟩:=h;refine ⟨ps,τ,aq,bb,bV,cy,ed,fx,fun x hx=> ?_⟩;obtain ⟨k,aj,rfl⟩:=aNZ.1 hx;rw [aNI] at aj;rw [aQJ];by_cases lh:k=i
  · subst lh
    rw [aM3 aj] at bV;rw [aNf bV];exact cy
  · obtain ⟨y,aH,bk⟩:=fx k (l[k]'(by omega)) lh (aM3 _)
    rw [aM3 aj] at aH;rw [aNf aH];exact R.UR bk
theorem zE.keep (h:R.zE E by_ w B ao g c l i es) (aj:∀ x∈ao,w'.heap[x]? =w.heap[x]?):R.zE E by_ w' B ao g c l i es:=by
  obtain ⟨κ,ps,τ,aq,bb,bV,cy,ed,fx⟩:=h;refine ⟨κ,ps,τ,aq,bb.of_block (B:=0) (fun x hx=>aj x ?_),bV,cy,ed,fun k a lh ha=> ?_⟩
  · injection hx with hx;rw [τ,← hx];simp
  · obtain ⟨x,hx,bk⟩:=fx k a lh ha
    refine ⟨x,hx,R.rR bk fun y aH=>aj y ?_⟩;rw [τ];exact aNe _ (aOe.2 ⟨x.1,aNn.2 ⟨x,aNN hx,Z⟩,aH⟩)
theorem zE.cell (h:R.zE E by_ w B ao g c l i es) (ak:i<l.length) {j:Nat} {u:Value} (hu:es[j]? =some u):w.cell? ⟨g,i * R.size+j,none⟩=some u:=by
  obtain ⟨ps,τ,aq,bb,bV,cy,ed,fx,ay⟩:=h.lens;have aw:j<R.size:=by rw [← cy];exact (aM2.1 hu).1
  have:=bb.cell (i * R.size+j) (by
    have:(i+1) * R.size≤l.length * R.size:=aNM _ ak;rw [aOC] at this;omega)
  rw [this,I1 ay (by rw [aNt,bV];rfl) aw];exact hu
theorem zE.lt (h:R.zE E by_ w B ao g c l i es):∀ x∈ao,B≤x∧x<w.heap.size:=by
  obtain ⟨κ,ps,τ,aq,bb,bV,cy,ed,fx⟩:=h;intro x hx;rw [τ] at hx;rcases aNg.1 hx with rfl | hx
  · exact bb.row.lt _ rfl
  · obtain ⟨y,aH,aU⟩:=aOe.1 hx
    obtain ⟨z,bo,rfl⟩:=aNn.1 aH;obtain ⟨k,aj,rfl⟩:=aNZ.1 bo;by_cases lh:k=i
    · subst lh
      rw [aM3 aj] at bV;rw [aNf bV] at aU;simp at aU
    · obtain ⟨y,aH,bk⟩:=fx k (l[k]'(by omega)) lh (aM3 _)
      rw [aM3 aj] at aH;rw [aNf aH] at aU;exact R.sU bk x aU
theorem aM.free (h:R.aM E by_ w B f (some ⟨g,0,none⟩) c l) (j:Nat):w.frozen? ⟨g,j,none⟩=false:=by
  obtain ⟨_,ps,rfl,_,bb,_⟩:=h;exact bb.free j
end

section
variable {P:Program} {R:Φ α} {by_:Nat}
theorem O1 (A:Option Addr) (n c:Nat):(Value.slice A n c).ownBlock.toList=ab A:=by cases A<;>rfl
theorem ayT (ty:TypeId) (base:Nat) (t e:TypeId) (i:TypeInfo) (z:Value) (aD:P.underlying t=some (.slice e)) (ak:P.info? e=some i) (bo:i.zero=some z)
    (wA:i.size=R.size) (oI:i.bytes=by_) (rB:z.cells.size=R.size) (hh:0<R.size) (wD:∀ (j:Nat) u,z.cells[j]? =some u→R.raw j u)
    (f:List Nat) (A:Option Addr) (c:Nat) (l:List α) (h:R.aM e by_ w base f A c l)
    (cz:Option Addr) (m bM:Nat) (k:List α) (ka:List (List Nat×List Value)) (I:dt (fun x a=>R.own w base x.1 x.2 a) ka k) (hm:k.length=m) (hr:Rd w R.size cz m (ka.map (·.2)).flatten)
    (ib:(f++(ka.map (·.1)).flatten).Nodup) (qb:l.length+m≤9223372036854775807) (qe:(l.length+m) * by_≤140737488355328) (oG:base≤w.heap.size):
    ∃ bS cn f' w',(Builtin.append_ #[t,t] ty #[.slice A l.length c, .slice cz m bM]).run P w= .ok (.slice bS (l.length+m) cn) w'∧R.aM e by_ w' base f' bS cn (l++k)∧w.grownBy w' (Value.slice A l.length c).ownBlock∧(bS=A∨∃ a,bS=some a∧a.block=w.heap.size)∧(∀ x∈f',x∈f∨x∈(ka.map (·.1)).flatten∨x=w.heap.size)∧(bS=none↔A=none∧m=0)∧base≤w'.heap.size:=by
  obtain ⟨κ,ps,rfl,aq,bb,bV⟩:=h;have JJ:∀ (j:Nat) u,(ka.map (·.2)).flatten[j]? =some u→R.raw (j % R.size) u:=by
    intro j u hu;have ay:=OX I;have bB:=(aM2.1 hu).1;rw [Dr ay,aNI] at bB;have aw:j % R.size<R.size:=aQq _ hh;have hd:j / R.size<ka.length:=by rw [aRe hh];exact bB
    have aG7:ka[j / R.size]? =some (ka[j / R.size]'hd):=aM3 hd;have asg:k[j / R.size]? =some (k[j / R.size]'(by rw [← I.length];exact hd)):=aM3 _;obtain ⟨x,hx,bk⟩:=I.at_ asg;have:=I1 (j:=j % R.size) ay (i:=j / R.size) (es:=x.2) (by rw [aNt,hx];rfl) aw;rw [show j / R.size * R.size+j % R.size=j from by rw [aOS];exact Nat.div_add_mod j R.size,hu] at this;exact R.ur (R.rQ bk) _ u this.symm
  have tV:∀ u∈(ka.map (·.2)).flatten,u.oneCell'=true:=by
    intro u hu;obtain ⟨y,aH,hu⟩:=aOe.1 hu;obtain ⟨x,hx,rfl⟩:=aNn.1 aH;obtain ⟨a,ha⟩:=I.left x hx;exact R.one (R.rQ ha) u hu
  obtain ⟨v',w',kF,jv,qh,wx,gu⟩:=agc (P:=P) w base t ty e i z R.size by_ aD ak bo wA oI rB hh R.raw wD _ _ _ bb cz m bM _ hr tV JJ (by unfold maxLen;omega) qe oG;obtain ⟨bS,cn,rfl,hle,hmx,ack,DD,mj⟩:=jv.shape;have ast:∀ x,(Value.slice A l.length c).ownBlock=some x→x∈ab A:=fun x hx=>by rw [← O1 A l.length c,hx];simp
  have hA:∀ x∈ab bS,x∈ab A∨x=w.heap.size:=by
    intro x hx;rw [← O1 bS (l.length+m) cn] at hx;rcases gu with gu | gu
    · rw [gu,O1] at hx;exact .inl hx
    · rw [gu] at hx;simp at hx;exact .inr hx
  have asX:∀ x∈ps,∀ y∈x.1,y<w.heap.size∧y∉ab A:=by
    intro x hx y aH;obtain ⟨a,ha⟩:=bV.left x hx;refine ⟨(R.sU ha y aH).2,fun af=> ?_⟩;rw [aNP] at aq;exact aq.2.2 y af y (aOe.2 ⟨x.1,aNn.2 ⟨x,hx,Z⟩,aH⟩) Z
  have asZ:∀ x∈ka,∀ y∈x.1,y<w.heap.size∧y∉ab A:=by
    intro x hx y aH;obtain ⟨a,ha⟩:=I.left x hx;refine ⟨(R.sU ha y aH).2,fun af=> ?_⟩;rw [aNP] at ib;exact ib.2.2 y (aQa _ af) y (aOe.2 ⟨x.1,aNn.2 ⟨x,hx,Z⟩,aH⟩) Z
  have arv:∀ y,y<w.heap.size→y∉ab A→w'.heap[y]? =w.heap[y]? :=fun y aH hn=>qh.block y aH fun e=>hn (ast y e.symm);have TJ:∀ x∈ps++ka,∀ y∈x.1,y<w.heap.size∧y∉ab A:=fun x hx=>by
    rcases aNi.1 hx with hx | hx
    · exact asX x hx
    · exact asZ x hx
  refine ⟨bS,cn,ab bS++((ps++ka).map (·.1)).flatten,w',kF,⟨by rw [aM6,hm];exact qe,ps++ka,rfl, ?_, ?_, ?_⟩,qh, ?_, ?_, ?_,aNm oG qh.size⟩
  · rw [aNB,← aPw,← aNx,aNP] at ib
    rw [aNP];refine ⟨by cases bS<;>simp [ab],ib.2.1,fun x hx y aH e=> ?_⟩;subst e;obtain ⟨z,bo,aH⟩:=aOe.1 aH;obtain ⟨v,hv,rfl⟩:=aNn.1 bo;have cy:=TJ v hv x aH;rcases hA x hx with ed | ed
    · exact cy.2 ed
    · omega
  · rw [aNx,aPw,aM6,hm];exact jv
  · exact (bV.app I).imp fun x a hx bk=>R.rR bk fun y aH=>arv y (TJ x hx y aH).1 (TJ x hx y aH).2
  · rcases gu with gu | gu
    · cases bS with
      | none =>
        cases A with
        | none=>exact .inl rfl
        | some a=>cases gu
      | some a' =>
        cases A with
        | none=>cases gu
        | some a =>
          obtain ⟨_,cy⟩:=bb;obtain ⟨_,ed⟩:=jv;rcases cy with ⟨cy,_⟩ | ⟨g,cap,cur,cy,_⟩
          · cases cy
          rcases ed with ⟨ed,_⟩ | ⟨g',aFD,Bu,ed,_⟩
          · cases ed
          injection cy with cy
          injection ed with ed
          rw [cy,ed] at gu ⊢;injection gu with gu
          have gu:g'=g:=gu
          left;rw [gu]
    · cases bS with
      | none=>cases gu
      | some a'=>injection gu with gu;exact .inr ⟨a',Z,gu⟩
  · intro x hx
    rcases aNi.1 hx with hx | hx
    · rcases hA x hx with h | h
      · exact .inl (aQa _ h)
      · exact .inr (.inr h)
    · rw [aNx,aPw] at hx
      rcases aNi.1 hx with hx | hx
      · exact .inl (aPZ _ hx)
      · exact .inr (.inl hx)
  · have Du:A=none→Value.slice A l.length c= .slice none 0 0:=fun e=>by
      obtain ⟨_,_,iY,_,_,_,_,asx⟩:=bb.shape;injection iY with aR _ a1
      subst aR;subst a1;exact asx e
    constructor
    · intro e
      obtain ⟨cy,ed⟩:=wx.1 (mj e);injection cy with cy
      exact ⟨cy,ed⟩
    · rintro ⟨e,aC⟩
      have:=wx.2 ⟨Du e,aC⟩;injection this
theorem aBy {o:Oper} {a:Act} {K:Act→World→Prop} {Q:Exit→Act→World→Prop} (s x:Operand) (base:Nat) (t e:TypeId) (i:TypeInfo) (z:Value) (aD:P.underlying t=some (.slice e)) (ak:P.info? e=some i) (bo:i.zero=some z)
    (wA:i.size=R.size) (oI:i.bytes=by_) (rB:z.cells.size=R.size) (hh:0<R.size) (wD:∀ (j:Nat) u,z.cells[j]? =some u→R.raw j u)
    (f:List Nat) (A:Option Addr) (c:Nat) (l:List α) (h:R.aM e by_ w base f A c l)
    (cz:Option Addr) (m bM:Nat) (k:List α) (ka:List (List Nat×List Value)) (I:dt (fun x a=>R.own w base x.1 x.2 a) ka k) (hm:k.length=m) (hr:Rd w R.size cz m (ka.map (·.2)).flatten)
    (ib:(f++(ka.map (·.1)).flatten).Nodup) (qb:l.length+m≤9223372036854775807) (qe:(l.length+m) * by_≤140737488355328) (oG:base≤w.heap.size)
    (bk:o.op= .call {callee:= .builtin .append,args:=#[s,x],argTypes:=#[t,t]}) (hs:a.eval s= .slice A l.length c) (hx:a.eval x= .slice cz m bM)
    (hK:∀ bS cn f' w',R.aM e by_ w' base f' bS cn (l++k)∧w.grownBy w' (Value.slice A l.length c).ownBlock∧(bS=A∨∃ a,bS=some a∧a.block=w.heap.size)∧(∀ x∈f',x∈f∨x∈(ka.map (·.1)).flatten∨x=w.heap.size)∧(bS=none↔A=none∧m=0)∧base≤w'.heap.size→K (a.put o.dst (.slice bS (l.length+m) cn)) w'):o.wp P a w K Q:=by
  obtain ⟨bS,cn,f',w',kF,τ⟩:=ayT (P:=P) (w:=w) o.type base t e i z aD ak bo wA oI rB hh wD f A c l h cz m bM k ka I hm hr ib qb qe oG;unfold Oper.wp execOp;simp only [bk,resolve,invoke,builtin,aNh,aNl,aNb,aQI,aNF,aOf,hs,hx,kF];exact hK bS cn f' w' τ
theorem aBu {ops:Array Oper} {rest:List Oper} {o:Oper} {a:Act} {Q:Exit→Act→World→Prop} (TG:o.guard=none) (s x:Operand) (base:Nat) (t e:TypeId) (i:TypeInfo) (z:Value) (aD:P.underlying t=some (.slice e)) (ak:P.info? e=some i) (bo:i.zero=some z)
    (wA:i.size=R.size) (oI:i.bytes=by_) (rB:z.cells.size=R.size) (hh:0<R.size) (wD:∀ (j:Nat) u,z.cells[j]? =some u→R.raw j u)
    (f:List Nat) (A:Option Addr) (c:Nat) (l:List α) (h:R.aM e by_ w base f A c l)
    (cz:Option Addr) (m bM:Nat) (k:List α) (ka:List (List Nat×List Value)) (I:dt (fun x a=>R.own w base x.1 x.2 a) ka k) (hm:k.length=m) (hr:Rd w R.size cz m (ka.map (·.2)).flatten)
    (ib:(f++(ka.map (·.1)).flatten).Nodup) (qb:l.length+m≤9223372036854775807) (qe:(l.length+m) * by_≤140737488355328) (oG:base≤w.heap.size)
    (bk:o.op= .call {callee:= .builtin .append,args:=#[s,x],argTypes:=#[t,t]}) (hs:a.eval s= .slice A l.length c) (hx:a.eval x= .slice cz m bM)
    (hK:∀ bS cn f' w',R.aM e by_ w' base f' bS cn (l++k)∧w.grownBy w' (Value.slice A l.length c).ownBlock∧(bS=A∨∃ a,bS=some a∧a.block=w.heap.size)∧(∀ x∈f',x∈f∨x∈(ka.map (·.1)).flatten∨x=w.heap.size)∧(bS=none↔A=none∧m=0)∧base≤w'.heap.size→wpList P ops Q rest (a.put o.dst (.slice bS (l.length+m) cn)) w'):wpList P ops Q (o::rest) a w :=
  wpList_plain TG fun _ aqP=>aBy s x base t e i z aD ak bo wA oI rB hh wD f A c l h cz m bM k ka I hm hr ib qb qe oG bk hs hx fun bS cn f' w' τ=>aqP _ _ (hK bS cn f' w' τ)
def Plain (R:Φ α):Prop:=∀ {w B cs a},R.has w cs a→R.own w B [] cs a
theorem rm {size:Nat} {cells:α→List Value} {ok:α→Prop} {raw:Nat→Value→Prop} {ay κ hr}:(flat size cells ok raw ay κ hr).Plain:=fun h=>⟨rfl,h⟩
theorem aaw {size:Nat} {cells:α→List Value} {ok:α→Prop} {raw:Nat→Value→Prop} {ay κ hr}:(Nv size cells ok raw ay κ hr).Plain:=fun h=>⟨rfl,h⟩
theorem dt.plain {ess:List (List Value)} {l:List α} (hp:R.Plain) (h:dt (fun es a=>R.has w es a) ess l):dt (fun x a=>R.own w B x.1 x.2 a) (ess.map fun es=>(([]:List Nat),es)) l :=
  dt.UD (P:=fun (x:List Nat×List Value) a=>R.own w B x.1 x.2 a) (fun es=>(([]:List Nat),es)) (h.imp fun _ _ _ h=>hp h)
theorem afA (ess:List (List Value)):((ess.map fun es=>(([]:List Nat),es)).map (·.1)).flatten= []∧(ess.map fun es=>(([]:List Nat),es)).map (·.2)=ess:=by
  constructor
  · induction ess with
    | nil=>rfl
    | cons x r bu=>simp
  · rw [aPz]
    exact List.map_id' ess
theorem aM.GV {E:TypeId} {A:Option Addr} {c:Nat} {l:List α} (hp:R.Plain) {ess:List (List Value)} (h:dt (fun es a=>R.has w es a) ess l) (af:l.length * by_≤140737488355328) (bk:Own w B E R.size R.raw (.slice A l.length c) l.length ess.flatten):R.aM E by_ w B (ab A) A c l:=by
  obtain ⟨aR,a1⟩:=afA ess;exact ⟨af,_,by rw [aR,aNA],by cases A<;>simp [ab],by rw [a1];exact bk,dt.plain hp h⟩
theorem aM.aqa {E:TypeId} {A:Option Addr} {c:Nat} {l:List α} (hp:∀ {w B f cs a},R.own w B f cs a→f= []) (h:R.aM E by_ w B f A c l):f=ab A:=by
  obtain ⟨_,ps,rfl,_,_,bV⟩:=h;have:(ps.map (·.1)).flatten= []:=by
    rw [aQ9];intro x hx;obtain ⟨y,aH,rfl⟩:=aNn.1 hx;obtain ⟨a,ha⟩:=bV.left y aH;exact hp ha
  rw [this,aNA]
end
end Φ

theorem Nw {α:Type} {R:Φ α} {w:World} {ess:List (List Value)} {l:List α} (h:dt (fun es a=>R.has w es a) ess l) (aC:0<R.size) {j:Nat} {u:Value} (hu:ess.flatten[j]? =some u):R.raw (j % R.size) u:=by
  have ay:=Φ.lens h;have bB:=(aM2.1 hu).1;rw [Dr ay] at bB;have aw:j % R.size<R.size:=aQq _ aC;have hd:j / R.size<ess.length:=by rw [aRe aC];exact bB
  have as6:j / R.size * R.size+j % R.size=j:=by rw [aOS];exact Nat.div_add_mod j R.size
  have cy:=I1 (j:=j % R.size) ay (i:=j / R.size) (es:=ess[j / R.size]'hd) (aM3 hd) aw;rw [as6,hu] at cy;obtain ⟨a,ha⟩:=h.left _ (aOg hd);exact R.ur ha _ u cy.symm
namespace Φ
variable {α:Type} {w w':World} {B:Nat} {f:List Nat} {R:Φ α} {E:TypeId} {A:Option Addr} {by_ g c:Nat} {l:List α}
def vp (R:Φ α):Prop:=R.Plain∧∀ {w B f cs a},R.own w B f cs a→f= []
theorem c6 {size:Nat} {cells:α→List Value} {ok:α→Prop} {raw:Nat→Value→Prop} {ay κ hr}:(flat size cells ok raw ay κ hr).vp:=⟨rm,fun h=>h.1⟩
theorem ap0 {size:Nat} {cells:α→List Value} {ok:α→Prop} {raw:Nat→Value→Prop} {ay κ hr}:(Nv size cells ok raw ay κ hr).vp:=⟨aaw,fun h=>h.1⟩
theorem aM.azs (h:R.aM E by_ w B f (some ⟨g,0,none⟩) c l) (hp:R.vp) {i j:Nat} {a a':α} {u:Value} (ak:l[i]? =some a) (aw:j<R.size) (hu:∀ cs,R.has w cs a→R.has (w.setCell ⟨g,i * R.size+j,none⟩ u) (cs.set j u) a'):
    R.aM E by_ (w.setCell ⟨g,i * R.size+j,none⟩ u) B f (some ⟨g,0,none⟩) c (l.set i a'):=by
  obtain ⟨af,ps,rfl,hn,bk,ep⟩:=h;obtain ⟨x,hx,JT⟩:=ep.at_ ak;have ay:=OX ep;have B3:x.1= []:=hp.2 JT;have GC:x.2.length=R.size:=R.UR JT;have ab6:=hu x.2 (R.rQ JT);have yE:R.raw j u:=R.ur ab6 j u (by rw [aNL (by omega)]);have pk:=bk.stored (i * R.size+j) u (by rw [aOS,aPX,aPQ aw];exact yE);rw [aay u ay (i:=i) (es:=x.2) (by rw [aNt,hx];rfl) aw] at pk;have bB:=(aM2.1 hx).1;have aR:(ps.set i (x.1,x.2.set j u)).map (·.1)=ps.map (·.1):=by
    rw [aOW];have:(ps.map (·.1))[i]? =some x.1:=by rw [aNt,hx];rfl
    obtain ⟨τ,aq⟩:=aM2.1 this
    conv=>lhs;rw [← aq]
    exact aOZ _
  have a1:(ps.set i (x.1,x.2.set j u)).map (·.2)=(ps.map (·.2)).set i (x.2.set j u):=by rw [aOW]
  have Tw:∀ y∈ps,∀ q∈y.1,q≠g:=fun y aH q I e=>by
    obtain ⟨b,DA⟩:=ep.left y aH;rw [hp.2 DA] at I;simp at I
  have Tj:dt (fun x a=>R.own (w.setCell ⟨g,i * R.size+j,none⟩ u) B x.1 x.2 a) ps l:=ep.imp fun y a aH Ok=>R.rR Ok fun q I=>aQG _ _ _ _ (Tw y aH q I);refine ⟨by rw [aNj];exact af,ps.set i (x.1,x.2.set j u),by rw [aR],hn,by rw [aNj,a1];exact pk, ?_⟩;exact Tj.Vj (P:=fun (x:List Nat×List Value) a=>R.own (w.setCell ⟨g,i * R.size+j,none⟩ u) B x.1 x.2 a) (by rw [B3];exact hp.1 ab6)
theorem aM.other (h:R.aM E by_ w B f A c l) {p:Addr} (hp:p.block∉f) (u:Value):R.aM E by_ (w.setCell p u) B f A c l :=
  h.keep fun g aU=>aQG _ _ _ _ fun e=>hp (e ▸ aU)
theorem aM.drewN (h:R.aM E by_ w B f A c l) (k:Nat):R.aM E by_ (w.drewN k) B f A c l:=h.keep fun _ _=>rfl
theorem aM.drew (h:R.aM E by_ w B f A c l):R.aM E by_ w.drew B f A c l:=h.keep fun _ _=>rfl
end Φ
def cM (n lo ak:Int):Bool:=decide (lo≤n) && decide (n≤ak)
theorem jw {n lo ak:Int} (h:cM n lo ak=true):lo≤n∧n≤ak:=by simpa [cM] using h
theorem atJ {n lo ak:Int} (h:cM n lo ak=false):n<lo∨ak<n:=by
  simp [cM] at h;omega
theorem ml {n lo ak:Int} (κ:lo≤n) (τ:n≤ak):cM n lo ak=true:=by simp [cM,κ,τ]
theorem oL {n lo ak:Int} (h:n<lo∨ak<n):cM n lo ak=false:=by
  cases af:cM n lo ak with
  | false=>rfl
  | true=>have:=jw af;omega
def hi {α:Type} (p:α→Bool) (l:List α):Int:=match l.findIdx? p with | some k=>(k:Int) | none=> -1
theorem JV {α:Type} {p:α→Bool} {l:List α} {k:Nat} (aj:k<l.length) (κ:p l[k]=true) (τ:∀ j (aw:j<k),p (l[j]'(by omega))=false):hi p l=(k:Int):=by
  unfold hi;have:l.findIdx? p=some k:=by
    rw [aPg];exact ⟨aj,κ,fun j aw=>by rw [τ j aw];simp⟩
  rw [this]
theorem GD {α:Type} {p:α→Bool} {l:List α} (τ:∀ j (aw:j<l.length),p l[j]=false):hi p l= -1:=by
  unfold hi;have:l.findIdx? p=none:=by
    rw [aPH];intro x hx;obtain ⟨j,aw,rfl⟩:=aNZ.1 hx;exact τ j aw
  rw [this]
theorem T' {α:Type} (p:α→Bool) (l:List α):decide (0≤hi p l)=l.any p:=by
  by_cases h:∀ j (aw:j<l.length),p l[j]=false
  · rw [GD h]
    have:l.any p=false:=by
      rw [aRF];intro x hx;obtain ⟨j,aw,rfl⟩:=aNZ.1 hx;rw [h j aw];simp
    rw [this];rfl
  · have:l.any p=true:=by
      rw [aOh];simp only [Classical.not_forall] at h;obtain ⟨j,aw,h⟩:=h;exact ⟨l[j],aOg aw,by simpa using h⟩
    rw [this];unfold hi;cases hf:l.findIdx? p with
    | none =>
      rw [aPH] at hf;rw [aOh] at this;obtain ⟨x,hx,hp⟩:=this;rw [hf x hx] at hp;cases hp
    | some k=>simp
theorem atA {α:Type} (p:α→Bool) (l:List α):hi p l= -1∧(∀ x∈l,p x=false)∨∃ (k:Nat) (h:k<l.length),hi p l=(k:Int)∧p l[k]=true∧∀ j (aw:j<k),p (l[j]'(by omega))=false:=by
  unfold hi;cases hf:l.findIdx? p with
  | none=>exact .inl ⟨rfl,fun x hx=>aPH.1 hf x hx⟩
  | some k =>
    obtain ⟨κ,τ,aq⟩:=aPg.1 hf;exact .inr ⟨k,κ,Z,τ,fun j aw=>by have:=aq j aw;simpa using this⟩
open Go.RowKit Go.Maps

def ij (w:World) (b:Nat) (es:Array MapEntry) (clock:Nat):World:=Go.ChangeMaps.setBlock w b (.map es clock)
theorem Cn {w:World} {b:Nat} {es:Array MapEntry} {clock:Nat} (h:b<w.heap.size):(ij w b es clock).heap[b]? =some (.map es clock):=by
  simp [ij,Go.ChangeMaps.setBlock,h]
theorem KH {w:World} {b g:Nat} {es:Array MapEntry} {clock:Nat} (h:g≠b):(ij w b es clock).heap[g]? =w.heap[g]? :=by
  simp [ij,Go.ChangeMaps.setBlock,aOt (aPp h)]
theorem agr {w:World} {b:Nat} {es:Array MapEntry} {clock:Nat}:(ij w b es clock).heap.size=w.heap.size:=by
  simp [ij,Go.ChangeMaps.setBlock]
theorem azq {B:Nat} {a w:World} {b:Nat} {es:Array MapEntry} {clock:Nat} (h:Below B a w) (af:B≤b):Below B a (ij w b es clock):=
  h.trans ⟨rfl,rfl,rfl,by simp [agr],fun k aj=>KH (by omega)⟩
def dz {eM:Type} (key:eM→Value) (e:eM×Int×Nat):MapEntry:=⟨key e.1, .int .i64 e.2.1,e.2.2⟩
structure dx {eM:Type} (key:eM→Value) (w:World) (b:Nat) (l:List (eM×Int×Nat)) (clock:Nat):Prop where
  en:w.heap[b]? =some (.map (l.map (dz key)).toArray clock)
  born:∀ e∈l,e.2.2<clock
  stamps:(l.map (·.2.2)).Nodup
structure QN {eM:Type} (P:Program) (k:TypeId) (key:eM→Value) (wf:eM→Prop):Prop where
  keyed:Keyed P k
  lit:∀ x,wf x→∃ l,keyOf P k (key x)=some l
  inj:∀ x y,key x=key y→x=y
namespace dx
section
variable {eM:Type} {key:eM→Value} {w:World} {b:Nat} {l:List (eM×Int×Nat)} {clock:Nat}
theorem lt (h:dx key w b l clock):b<w.heap.size:=(aNy.1 h.en).1
theorem keep {w':World} (h:dx key w b l clock) (aj:w'.heap[b]? =w.heap[b]?):dx key w' b l clock:=⟨aj.trans h.en,h.born,h.stamps⟩
theorem later {w':World} (h:dx key w b l clock) (af:Below w.heap.size w w'):dx key w' b l clock:=h.keep (af.block b h.lt)
theorem made (w:World):dx key (w.alloc (.map #[] 0)) w.heap.size [] 0:=⟨aQl w _,(by simp),(by simp)⟩
theorem aud {P:Program} {k:TypeId} {wf:eM→Prop} (K:QN P k key wf) (hw:∀ e∈l,wf e.1):∀ y∈l.map (dz key),∃ z,keyOf P k y.key=some z:=by
  intro y aH;obtain ⟨a,ha,rfl⟩:=aNn.1 aH;exact K.lit a.1 (hw a ha)
end
variable {eM:Type} [DecidableEq eM] {key:eM→Value} {w:World} {b:Nat} {l:List (eM×Int×Nat)} {clock:Nat}
def get (l:List (eM×Int×Nat)) (x:eM):Option Int:=(l.find? fun e=>decide (e.1=x)).map (·.2.1)
def put (l:List (eM×Int×Nat)) (clock:Nat) (x:eM) (v:Int):List (eM×Int×Nat):=
  if l.any (fun e=>decide (e.1=x)) then l.map (fun e=>if e.1=x then (e.1,v,e.2.2) else e) else l++ [(x,v,clock)]
def tick (l:List (eM×Int×Nat)) (clock:Nat) (x:eM):Nat:=if l.any (fun e=>decide (e.1=x)) then clock else clock+1
theorem F2 (l:List (eM×Int×Nat)) (c:Nat) (x y:eM) (v:Int):get (put l c x v) y=if y=x then some v else get l y:=by
  unfold get put;by_cases h:l.any (fun e=>decide (e.1=x))=true
  · rw [aNd h]
    induction l with
    | nil=>simp at h
    | cons e r bu =>
      rw [aNF];by_cases hex:e.1=x
      · rw [aNd hex]
        by_cases aH:y=x
        · subst aH
          rw [aPU (by simp [hex])];simp
        · rw [aM4 aH,aOX (by simp [hex,aPp aH]),aOX (by simp [hex,aPp aH])]
          by_cases hr:r.any (fun e=>decide (e.1=x))=true
          · have:=bu hr
            rw [aM4 aH] at this;exact this
          · have e0:r.map (fun e=>if e.1=x then (e.1,v,e.2.2) else e)=r:=by
              conv=>rhs;rw [← List.map_id r]
              refine aQj fun a ha=> ?_;rw [aM4];rfl;intro he;exact hr (aOh.2 ⟨a,ha,by simp [he]⟩)
            rw [e0]
      · rw [aM4 hex]
        have hr:r.any (fun e=>decide (e.1=x))=true:=by simpa [hex] using h
        by_cases Jx:e.1=y
        · have ats:¬ y=x:=fun h=>hex (Jx.trans h)
          rw [aPU (by simp [Jx]),aPU (by simp [Jx]),aM4 ats]
        · rw [aOX (by simp [Jx]),aOX (by simp [Jx])]
          exact bu hr
  · rw [aM4 h,List.find?_append]
    by_cases aH:y=x
    · subst aH
      have:l.find? (fun e=>decide (e.1=y))=none:=by
        rw [aOl];intro e he hd;exact h (aOh.2 ⟨e,he,hd⟩)
      rw [this];simp
    · rw [aM4 aH]
      cases l.find? (fun e=>decide (e.1=y))<;>simp [aPp aH]
theorem UE {l:List (eM×Int×Nat)} {c:Nat} {x:eM} {v:Int} {wf:eM→Prop} (ay:∀ e∈l,wf e.1) (hx:wf x):∀ e∈put l c x v,wf e.1:=by
  intro e he;unfold put at he;split at he
  · obtain ⟨a,ha,rfl⟩:=aNn.1 he
    split
    · exact ay a ha
    · exact ay a ha
  · rcases aNi.1 he with he | he
    · exact ay e he
    · simp at he;subst he;exact hx
theorem jq {l:List (eM×Int×Nat)} (hn:(l.map (·.1)).Nodup) {j n:Nat} {x:eM} {v:Int} (aw:l[j]? =some (x,v,n)):get l x=some v:=by
  unfold get;induction l generalizing j with
  | nil=>simp at aw
  | cons e r bu =>
    rw [aNF,aPb] at hn;cases j with
    | zero=>simp at aw;subst aw;simp
    | succ j =>
      have aw:r[j]? =some (x,v,n):=by simpa using aw
      have:e.1≠x:=fun he=>hn.1 (aNn.2 ⟨(x,v,n),aNN aw,he.symm⟩);rw [aOX (by simpa using this)];exact bu hn.2 aw
theorem GH {l:List (eM×Int×Nat)} (hn:(l.map (·.1)).Nodup) (c:Nat) (x:eM) (v:Int):((put l c x v).map (·.1)).Nodup:=by
  unfold put;split
  · rw [aPz]
    have:((fun e:eM×Int×Nat=>e.1) ∘ fun e=>if e.1=x then (e.1,v,e.2.2) else e)=fun e=>e.1:=by
      funext e;simp only [Function.comp];split<;>rfl
    rw [this];exact hn
  · rename_i h
    rw [aNx,aNP];refine ⟨hn,by simp,fun a ha c hc e=> ?_⟩;simp at hc;obtain ⟨y,aH,rfl⟩:=aNn.1 ha;exact h (aOh.2 ⟨y,aH,by simp [e,hc]⟩)
variable {P:Program} {k e t:TypeId} {wf:eM→Prop} (K:QN P k key wf)
include K
theorem found (h:dx key w b l clock) (hw:∀ e∈l,wf e.1) (x:eM) (hx:wf x):
    ((Instr.findKey k (key x) (l.map (dz key))).run P w= .ok none w∧get l x=none∧∀ a∈l,a.1≠x)∨
    ∃ (j:Nat) (v:Int) (n:Nat),(Instr.findKey k (key x) (l.map (dz key))).run P w= .ok (some (j, .int .i64 v)) w∧l[j]? =some (x,v,n):=by
  obtain ⟨wI,rz⟩:=K.lit x hx;rcases K.keyed.find w rz (l.map (dz key)) (aud K hw) with ⟨κ,τ⟩ | ⟨j,e0,κ,τ,aq⟩
  · have ju:∀ a∈l,a.1≠x:=fun a ha Aj=>τ (dz key a) (aNn.2 ⟨a,ha,rfl⟩) (by simp [dz,Aj])
    refine .inl ⟨κ, ?_,ju⟩;unfold get;rw [aOl.2 fun a ha=>by simpa using ju a ha];rfl
  · rw [aNt] at τ
    cases aw:l[j]? with
    | none=>rw [aw] at τ;cases τ
    | some a =>
      rw [aw] at τ;obtain rfl:=aNf τ;obtain rfl:a.1=x:=K.inj _ _ aq;exact .inr ⟨j,a.2.1,a.2.2,κ,aw⟩
theorem lookup (aD:P.underlying t=some (.map k e)) (bo:(zeroValue e).run P w= .ok (.int .i64 0) w) (h:dx key w b l clock) (hw:∀ e∈l,wf e.1) (hn:(l.map (·.1)).Nodup) (x:eM) (hx:wf x):
    (Instr.lookup t (.map (some b)) (key x) false).run P w= .ok (.int .i64 ((get l x).getD 0)) w∧
    (Instr.lookup t (.map (some b)) (key x) true).run P w= .ok (.tuple #[.int .i64 ((get l x).getD 0), .bool (get l x).isSome]) w:=by
  obtain ⟨wI,rz⟩:=K.lit x hx;rcases found K h hw x hx with ⟨κ,τ,_⟩ | ⟨j,v,n,κ,τ⟩
  · rw [τ]
    constructor<;>simp [Instr.lookup,aOc aD,aNU h.en,K.keyed.check w _ rz,κ,bo,Result.andThen]
  · rw [jq hn τ]
    constructor<;>simp [Instr.lookup,aOc aD,aNU h.en,K.keyed.check w _ rz,κ,Result.andThen]
theorem entry (aD:P.underlying t=some (.map k e)) (bo:∀ u:World,(zeroValue e).run P u= .ok (.int .i64 0) u) (h:dx key w b l clock) (hw:∀ e∈l,wf e.1) (hn:(l.map (·.1)).Nodup) (x:eM) (hx:wf x):
    ∃ (st:Nat) (dQ:List (eM×Int×Nat)) (bd:Nat),(∀ n,(Instr.mapEntry t (.map (some b)) (key x)).run P (w.drewN n)= .ok (.tuple #[.int .i64 ((get l x).getD 0), .int .i64 (st:Int)]) ((ij w b (dQ.map (dz key)).toArray bd).drewN n))∧
      dx key (ij w b (dQ.map (dz key)).toArray bd) b dQ bd∧(∀ e∈dQ,wf e.1)∧(dQ.map (·.1)).Nodup∧get dQ x=some ((get l x).getD 0)∧
      ∀ v n,(Instr.entryStore t (.map (some b)) (.int .i64 (st:Int)) (.int .i64 v)).run P ((ij w b (dQ.map (dz key)).toArray bd).drewN n)= .ok () ((ij w b ((put l clock x v).map (dz key)).toArray (tick l clock x)).drewN n)∧
        dx key (ij w b ((put l clock x v).map (dz key)).toArray (tick l clock x)) b (put l clock x v) (tick l clock x):=by
  obtain ⟨wI,rz⟩:=K.lit x hx;have af:=h.en;have bB:=h.lt;have DE:∀ n,(w.drewN n).heap[b]? =some (.map (l.map (dz key)).toArray clock):=fun n=>af;have idxOf:∀ (m:List (eM×Int×Nat)) (j:Nat) (a:eM×Int×Nat),(m.map (·.2.2)).Nodup→m[j]? =some a→((m.map (dz key)).toArray).findIdx? (fun y=>((y.born:Nat):Int)== ((a.2.2:Nat):Int))=some j:=by
    intro m j a hm aw;rw [aQ6];refine aQ1 (l:=m.map (dz key)) (j:=j) (e0:=dz key a) ?_ (by rw [aNt,aw];rfl);rw [aPz];exact hm
  rcases found K h hw x hx with ⟨κ,τ,aq⟩ | ⟨j,v0,n0,κ,τ⟩
  · have oE:l.any (fun e=>decide (e.1=x))=false:=by
      rw [aRG];intro ha;obtain ⟨a,ha,hd⟩:=aOh.1 ha;exact aq a ha (by simpa using hd)
    have B1:∀ v,put l clock x v=l++ [(x,v,clock)]:=fun v=>by unfold put;rw [aM4 (by rw [oE];decide)]
    have T1:tick l clock x=clock+1:=by unfold tick;rw [aM4 (by rw [oE];decide)]
    have ja:∀ v,dx key (ij w b ((l++ [(x,v,clock)]).map (dz key)).toArray (clock+1)) b (l++ [(x,v,clock)]) (clock+1):=fun v=>by
      refine ⟨Cn bB,fun a ha=> ?_, ?_⟩
      · rcases aNi.1 ha with ha | ha
        · have:=h.born a ha;omega
        · simp at ha;subst ha;simp
      · rw [aNx,aNP]
        refine ⟨h.stamps,by simp,fun a ha c hc e=> ?_⟩;simp at hc;obtain ⟨y,aH,rfl⟩:=aNn.1 ha;have:=h.born y aH;omega
    have SG:∀ n,(Instr.findKey k (key x) (l.map (dz key))).run P (w.drewN n)= .ok none (w.drewN n):=fun n=>by
      rcases found (w:=w.drewN n) K ⟨DE n,h.born,h.stamps⟩ hw x hx with ⟨κ,_,_⟩ | ⟨j,v,m,_,aw⟩
      · exact κ
      · exact absurd rfl (aq _ (aNN aw))
    refine ⟨clock,l++ [(x,0,clock)],clock+1,fun n=> ?_,ja 0,fun a ha=> ?_, ?_, ?_,fun v n=> ?_⟩
    · rw [τ]
      have:(l.map (dz key)).toArray.push (⟨key x, .int .i64 0,clock⟩:MapEntry)=((l++ [(x,0,clock)]).map (dz key)).toArray:=by simp [dz]
      simp [Instr.mapEntry,aOc aD,aNU (DE n),K.keyed.check (w.drewN n) false rz,SG n,bo,aOi _ (DE n),Result.andThen,ij,Go.ChangeMaps.setBlock,goInt,dz];rfl
    · rcases aNi.1 ha with ha | ha
      · exact hw a ha
      · simp at ha;subst ha;exact hx
    · have:=GH hn clock x 0
      rw [B1] at this;exact this
    · have:=F2 l clock x x 0
      rw [B1,aNd rfl] at this;rw [this,τ];rfl
    · rw [B1,T1]
      refine ⟨?_,ja v⟩;have eb:=idxOf (l++ [(x,0,clock)]) l.length (x,0,clock) (ja 0).stamps (by simp);have JF:((l++ [(x,0,clock)]).map (dz key)).toArray.modify l.length (fun e=> {e with val:=Value.int .i64 v})=((l++ [(x,v,clock)]).map (dz key)).toArray:=by
        apply aOr;rw [aO9];have hlen:l.length=(l.map (dz key)).length:=by simp
        rw [hlen];simp only [aNx,aNF,aOf];rw [Go.WideElems.modify_last];rfl
      have dO:((ij w b ((l++ [(x,0,clock)]).map (dz key)).toArray (clock+1)).drewN n).heap[b]? =some (.map ((l++ [(x,0,clock)]).map (dz key)).toArray (clock+1)):=Cn bB;have kF:(Instr.entryStore t (.map (some b)) (goInt clock) (.int .i64 v)).run P ((ij w b ((l++ [(x,0,clock)]).map (dz key)).toArray (clock+1)).drewN n)= .ok () (ij ((ij w b ((l++ [(x,0,clock)]).map (dz key)).toArray (clock+1)).drewN n) b ((l++ [(x,v,clock)]).map (dz key)).toArray (clock+1)):=by
        rw [← JF];simp only [Instr.entryStore,aNh,aNU dO,aNb,asInt,asIntOf,goInt,aNl];rw [eb];exact aOi _ dO
      refine kF.trans ?_;simp [ij,Go.ChangeMaps.setBlock,World.drewN]
  · have oE:l.any (fun e=>decide (e.1=x))=true:=aOh.2 ⟨_,aNN τ,by simp⟩
    have B1:∀ v,put l clock x v=l.map (fun e=>if e.1=x then (e.1,v,e.2.2) else e):=fun v=>by unfold put;rw [aNd oE]
    have T1:tick l clock x=clock:=by unfold tick;rw [aNd oE]
    have abR:=jq hn τ;have tY:∀ v,l.map (fun e=>if e.1=x then (e.1,v,e.2.2) else e)=l.set j (x,v,n0):=by
      intro v;refine aOI fun i=> ?_;rw [aNt];by_cases kY:j=i
      · subst kY
        rw [τ,aNL (aM2.1 τ).1];simp
      · rw [aN4 kY]
        cases ak:l[i]? with
        | none=>rfl
        | some a =>
          have:a.1≠x:=by
            intro Aj;have Jz:=(aM2.1 ak);have N6:=(aM2.1 τ);have aR:(l.map (·.1))[i]? =(l.map (·.1))[j]? :=by rw [aNt,aNt,ak,τ];simp [Aj]
            obtain ⟨ry,_⟩:=Jz;obtain ⟨nP,_⟩:=N6;have:=(aQx (by simpa using ry) hn).1 aR;exact kY this.symm
          simp [this]
    have SG:∀ n,(Instr.findKey k (key x) (l.map (dz key))).run P (w.drewN n)= .ok (some (j, .int .i64 v0)) (w.drewN n):=fun n=>by
      rcases found (w:=w.drewN n) K ⟨DE n,h.born,h.stamps⟩ hw x hx with ⟨_,_,aq⟩ | ⟨atZ,v,m,aqJ,aw⟩
      · exact absurd rfl (aq (x,v0,n0) (aNN τ))
      · have aR:(l.map (·.1))[atZ]? =(l.map (·.1))[j]? :=by rw [aNt,aNt,aw,τ];rfl
        have:=(aQx (by simpa using (aM2.1 aw).1) hn).1 aR;subst this;rw [τ] at aw;injection aw with aw
        injection aw with _ aw
        injection aw with ar8 _
        rw [aqJ,ar8]
    have ja:∀ v,dx key (ij w b ((l.set j (x,v,n0)).map (dz key)).toArray clock) b (l.set j (x,v,n0)) clock:=fun v=>by
      refine ⟨Cn bB,fun a ha=> ?_, ?_⟩
      · rcases aOG ha with ha | ha
        · exact h.born a ha
        · rw [ha];exact h.born (x,v0,n0) (aNN τ)
      · rw [aOW]
        have:(l.map (·.2.2)).set j n0=l.map (·.2.2):=by
          have asp:=(aM2.1 τ);obtain ⟨ry,nP⟩:=asp;have e:(l.map (·.2.2))[j]'(by simpa using ry)=n0:=by rw [aQJ,nP]
          conv=>lhs;rw [← e]
          exact aOZ _
        rw [this];exact h.stamps
    refine ⟨n0,l,clock,fun n=> ?_,⟨Cn bB,h.born,h.stamps⟩,hw,hn,by rw [abR];rfl,fun v n=> ?_⟩
    · rw [abR]
      have aw:(l.map (dz key)).toArray[j]? =some (dz key (x,v0,n0)):=by simp [τ]
      have TW:(l.map (dz key)).toArray.modify j (fun e=> {e with key:=key x})=(l.map (dz key)).toArray:=by
        apply aOr;rw [aO9,aO2 _ _ _ _ (by rw [aNt,τ];rfl)];exact aRk _ _ _ (by rw [aNt,τ];rfl)
      have TI:(dz key (x,v0,n0)).key=key x:=rfl;have Tp:(dz key (x,v0,n0)).born=n0:=rfl;simp only [Instr.mapEntry,aNh,aOc aD,aNb,aNU (DE n),K.keyed.check (w.drewN n) false rz,SG n,aw,aOH,aN2,TI,K.keyed.stays (w.drewN n) rz,TW,aOi _ (DE n),Tp,aNl];rfl
    · rw [B1,T1,tY]
      refine ⟨?_,ja v⟩;have eb:=idxOf l j (x,v0,n0) h.stamps τ;have JF:(l.map (dz key)).toArray.modify j (fun e=> {e with val:=Value.int .i64 v})=((l.set j (x,v,n0)).map (dz key)).toArray:=by
        apply aOr;rw [aO9,aO2 _ _ _ _ (by rw [aNt,τ];rfl),aOW];rfl
      have dO:((ij w b (l.map (dz key)).toArray clock).drewN n).heap[b]? =some (.map (l.map (dz key)).toArray clock):=Cn bB;have kF:(Instr.entryStore t (.map (some b)) (goInt n0) (.int .i64 v)).run P ((ij w b (l.map (dz key)).toArray clock).drewN n)= .ok () (ij ((ij w b (l.map (dz key)).toArray clock).drewN n) b ((l.set j (x,v,n0)).map (dz key)).toArray clock):=by
        rw [← JF];simp only [Instr.entryStore,aNh,aNU dO,aNb,asInt,asIntOf,goInt,aNl];rw [eb];exact aOi _ dO
      refine kF.trans ?_;simp [ij,Go.ChangeMaps.setBlock,World.drewN]
end dx

theorem agd {P:Program} {w:World} {o:Oper} {a:Act} (f:FuncId) (fn:Func) (hf:P.funcs[f]? =some fn) (hn:(fn.name == "runtime.NumGoroutine")=false) (af:fn.body.isNone=false)
    (xs:Array Operand) (ts:Array TypeId) (tW:o.op=Op.call {callee:=Callee.value (Operand.func f),args:=xs,argTypes:=ts}) (args:Array Value) (NU:xs.map a.eval=args):
    (execOp a.eval o).run P w= .ok (.enter f args) w:=by
  unfold execOp;have he:a.eval (.func f)= .func (.func f) #[] #[]:=rfl;have hp:Sem.run P program w= .ok P w:=rfl;simp only [tW,resolve,invoke,Deferred.ofValue,he,callFunc,aNh,aNl,aNb,NU,hp,hf,hn,af,aPF,Array.append_empty,aNR,aOm]
theorem Pl {P:Program} {ops:Array Oper} {o:Oper} {a:Act} {w:World} {K:Act→World→Prop} {Q:Exit→Act→World→Prop} {E:Prop}
    (aU:o.guard=none) (f:FuncId) (fn:Func) (hf:P.funcs[f]? =some fn) (hn:(fn.name == "runtime.NumGoroutine")=false) (af:fn.body.isNone=false)
    (xs:Array Operand) (ts:Array TypeId) (tW:o.op=Op.call {callee:=Callee.value (Operand.func f),args:=xs,argTypes:=ts}) (args:Array Value) (NU:xs.map a.eval=args)
    (hc:Calls P f args w fun e w'=>∃ v,e= .returned v∧K (a.put o.dst v) w'):
    if Region.wanted o (yielded ops a.tmps)=true then Oper.wp P o a w K Q else E:=by
  have hw:Region.wanted o (yielded ops a.tmps)=true:=by simp [Region.wanted,aU]
  rw [aNd hw];unfold Oper.wp;rw [agd f fn hf hn af xs ts tW args NU,Oper.upon_enter];refine hc.mono fun e ku dP=> ?_;obtain ⟨v,rfl,h⟩:=dP;exact h
theorem mO {wr aN w':World} (h:Below wr.heap.size wr aN) (τ:Below aN.heap.size aN w'):Below wr.heap.size wr w':=h.trans (τ.mono h.size)
theorem YA {wr aN w':World} (h:Below wr.heap.size wr aN) (τ:Below aN.drew.heap.size aN.drew w'):Below wr.heap.size wr w':=h.drew.trans (τ.mono h.size)
theorem PS {P:Program} {id:Nat} {Q:Exit→Act→World→Prop} {a:Act} {w:World} {l:List Oper} (hm:P.follows .mixedOrders=true) (aS:Region.lexB .any l.toArray=true)
    (h:wpQuiet P l.toArray (fun w'=>Below w.heap.size w w') (fun a'=>∀ w',Below w.heap.size w w'→Q .normal a' w') l a):(Code.region id l.toArray true).wp P Q a w :=
  wp_region_quiet (C:=fun w'=>Below w.heap.size w w') hm aS (below_drewN (aNH _ w) 1) (by simpa using h)
theorem ayp {P:Program} {o:Oper} {a:Act} {C:World→Prop} {w:World} {v:Value} (h:(execOp a.eval o).run P w= .ok (.value v) w):o.quietAt P a C w v:=by
  unfold Oper.quietAt;rw [h];exact ⟨Z,Z⟩
theorem ayo {P:Program} {o:Oper} {a:Act} {C:World→Prop} {w:World} {v:Value} {f:FuncId} {args:Array Value} (h:(execOp a.eval o).run P w= .ok (.enter f args) w) (hc:Calls P f args w fun e ku=>e= .returned v∧C ku):o.quietAt P a C w v:=by
  unfold Oper.quietAt;rw [h];exact ⟨Z,hc⟩
theorem O_ {P:Program} {o:Oper} {a:Act} {C:World→Prop} {w:World} {v:Value} {r:Result Next} (h:(execOp a.eval o).run P w=r) (hr:r= .ok (.value v) w):o.quietAt P a C w v:=ayp (h.trans hr)
theorem O9 {P:Program} {o:Oper} {a:Act} {C:World→Prop} {w:World} {v:Value} {f:FuncId} {args:Array Value} {r:Result Next} (h:(execOp a.eval o).run P w=r) (hr:r= .ok (.enter f args) w) (hc:Calls P f args w fun e ku=>e= .returned v∧C ku):o.quietAt P a C w v:=ayo (h.trans hr) hc
abbrev Ext (w w':World):Prop:=Below w.heap.size w w'
theorem Ext.bN (w:World):Ext w w:=aNH _ w
theorem Ext.n4 {a b c:World} (h:Ext a b) (k:Ext b c):Ext a c:=aRt h (aP3 k h.size)
section
variable {P:Program} {ops:Array Oper} {Q:Exit→Act→World→Prop} {aL:Nat→Nat}
def uo (P:Program) (w:World) (v:Value):Result Next→Prop
  | .ok (.value u) w'=>w'=w∧u=v
  | .ok .skip w'=>w'=w∧v=undef
  | .ok (.enter f args) w'=>w'=w∧Calls P f args w (fun e ku=>e= .returned v∧Ext w ku)
  | _=>False
def si (P:Program) (ops:Array Oper) (w0:World) (o:Oper) (v:Value) (a:Act):Prop :=
  (Region.wanted o (yielded ops a.tmps)=true∧∀ w,Ext w0 w→uo P w v ((execOp a.eval o).run P w))∨
  (Region.wanted o (yielded ops a.tmps)=false∧v=undef)
theorem si.of_same {w0:World} {o:Oper} {v:Value} {a a':Act} (h:si P ops w0 o v a) (he:execOp a'.eval o=execOp a.eval o) (hw:Region.wanted o (yielded ops a'.tmps)=Region.wanted o (yielded ops a.tmps)):si P ops w0 o v a':=by
  unfold si at *;rw [he,hw];exact h
theorem si.on {w0 aN:World} {o:Oper} {v:Value} {a:Act} (h:si P ops w0 o v a) (hx:Ext w0 aN):si P ops aN o v a :=
  h.imp (fun ⟨κ,τ⟩=>⟨κ,fun w hw=>τ w (hx.n4 hw)⟩) id
theorem Yields.afV {w0:World} {o:Oper} {v:Value} {a:Act} (h:Yields P ops o v a):si P ops w0 o v a :=
  h.imp (fun ⟨κ,τ⟩=>⟨κ,fun w _=>by rw [τ w];exact ⟨rfl,rfl⟩⟩) id
def agK (P:Program) (ops:Array Oper) (Q:Exit→Act→World→Prop) (aL:Nat→Nat) (i:Nat) (K:Act→World→Prop) (a:Act) (w0:World):Prop :=
  ∃ o,ops[i]? =some o∧
    ((aL i≤1∧∃ v,si P ops w0 o v a∧K (a.put o.dst v) w0)∨
     (1<aL i∧∀ w,Ext w0 w→wpOp P ops Q i (fun a' w'=>(aL i=2→Ext w0 w')∧K a' w') a w))
def vK (P:Program) (ops:Array Oper) (Q:Exit→Act→World→Prop) (aL:Nat→Nat):Nat→Array Bool→Act→World→Prop
  | 0,l,a,w0=>Region.ready .any ops l= []∧∀ w,Ext w0 w→Q .normal a w
  | f+1,l,a,w0=>(Region.ready .any ops l= []→∀ w,Ext w0 w→Q .normal a w)∧∀ i∈Region.ready .any ops l,agK P ops Q aL i (vK P ops Q aL f (l.setIfInBounds i true)) a w0
theorem x':∀ (f:Nat) (l:Array Bool) (a:Act) (w0:World),vK P ops Q aL f l a w0→∀ w,Ext w0 w→wpAny P .any ops Q f l a w
  | 0,_,_,_,h,w,hw=>⟨h.1,h.2 w hw⟩
  | f+1,l,a,w0,h,w,hw=>⟨fun aC=>h.1 aC w hw,fun i ak=>by
      obtain ⟨o,bk,τ⟩:=h.2 i ak;rcases τ with ⟨_,v,I,aj⟩ | ⟨_,τ⟩
      · unfold wpOp
        simp only [bk];rcases I with ⟨jb,I⟩ | ⟨jb,rfl⟩
        · rw [aNd jb]
          refine .inl ?_;have I:=I w hw;unfold Oper.wp;generalize (execOp a.eval o).run P w=r at *
          cases r with
          | ok n w' =>
            cases n<;>simp only [uo] at I<;>simp only [Oper.upon]
            case value u=>obtain ⟨rfl,rfl⟩:=I;exact x' f _ _ _ aj _ hw
            case skip=>obtain ⟨rfl,rfl⟩:=I;exact x' f _ _ _ aj _ hw
            case enter f' args=>obtain ⟨rfl,hc⟩:=I;exact hc.mono fun e ku ⟨he,hx⟩=>by subst he;exact x' f _ _ _ aj _ (hw.n4 hx)
          | halt x w'=>simp only [uo] at I
        · rw [aM4 (by rw [jb];decide)]
          exact x' f _ _ _ aj _ hw
      · exact aOK (fun a' w' aq=>x' f _ _ _ aq.2 _ (Ext.bN w')) (τ w hw)⟩
theorem PR {aA:Act→Prop} {j:Nat} {dst:Option Tmp} {cK:Oper} {v:Value} (aw:ops[j]? =some cK) (κ:∀ d,dst=some d→d∉cK.looksAt ops) (τ:∀ d,dst=some d→cK.dst≠some d)
    (rA:∀ cs b,cK.op≠ .select cs b) (eJ:∀ c a w,¬ Q (.panic c) a w) (keep:∀ a u,aA a→aA (a.put cK.dst u)) (at5:∀ a d,aA a→aA {a with defers:=d::a.defers})
    {K:Act→World→Prop} {a:Act} {w:World} (aH:aA a) (h:wpOp P ops Q j K (a.put dst v) w):wpOp P ops Q j (fun a' w'=>aA a'∧K (a'.put dst v) w') a w:=by
  unfold wpOp at *
  simp only [aw] at *
  rw [aPh cK a dst v κ] at h;by_cases hw:Region.wanted cK (yielded ops a.tmps)=true
  · rw [aNd hw] at h ⊢
    rcases h with h | ⟨abp,aso⟩
    case inr=>exact .inr ⟨by unfold Oper.asks at *;rw [aO6 cK rA a dst v κ] at abp;exact abp,aso⟩
    refine .inl ?_;unfold Oper.wp at *
    rw [aO6 cK rA a dst v κ] at h;generalize (execOp a.eval cK).run P w=r at *
    cases r with
    | ok n w' =>
      cases n<;>simp only [Oper.upon] at h ⊢
      case value u=>exact ⟨keep a u aH,by rw [← aOL a v u τ];exact h⟩
      case skip=>exact ⟨keep a _ aH,by rw [← aOL a v undef τ];exact h⟩
      case defer d =>
        refine ⟨keep _ _ (at5 a d aH), ?_⟩;rw [← aOL _ v undef τ,← Act.put_defers];exact h
      case enter f args =>
        refine aOY h fun e ku he=> ?_;cases e with
        | returned u=>exact ⟨keep a u aH,by rw [← aOL a v u τ];exact he⟩
        | panicked c=>exact (eJ _ _ _ he).elim
        | outgrown=>exact he
      case row row args=>exact Rows.mono h fun u ku he=>⟨keep a u aH,by rw [← aOL a v u τ];exact he⟩
    | halt x w' =>
      cases x<;>simp only [Oper.upon] at h ⊢
      case panic u=>exact (eJ _ _ _ h).elim
  · rw [aM4 hw] at h ⊢
    exact ⟨keep a _ aH,by rw [← aOL a v undef τ];exact h⟩
theorem Nu {i:Nat} {c8:Oper} {v:Value} (ak:ops[i]? =some c8) (aj:aL i≤1) (j9:∀ (j:Nat) (o:Oper) cs b,ops[j]? =some o→o.op≠ .select cs b)
    (eJ:∀ c a w,¬ Q (.panic c) a w) (aA:World→Act→Prop) (ky:∀ w0 a,aA w0 a→si P ops w0 c8 v a)
    (z2:∀ w0 a a',aA w0 a→execOp a'.eval c8=execOp a.eval c8→Region.wanted c8 (yielded ops a'.tmps)=Region.wanted c8 (yielded ops a.tmps)→aA w0 a')
    (z3:∀ w0 aN a,Ext w0 aN→aA w0 a→aA aN a) (R:Nat→Bool) (qp:Array Bool)
    (hR:∀ j cK,ops[j]? =some cK→j≠i→(∀ e∈cK.after,Region.binds .any e=true→R e.on=true)→R j=true)
    (aS:(∀ w0 aN a,aA w0 a→aA aN a)∨∀ j,R j=true→3≤aL j→qp.getD j true=true):
    ∀ (f:Nat) (l:Array Bool) (a:Act) (w0:World),(∀ j,l.getD j false=true→R j=true)→(∀ j,qp.getD j true=true→l.getD j true=true)→
      (∀ j cK,ops[j]? =some cK→j≠i→l.getD j true=false→(∀ e∈cK.after,Region.binds .any e=true→e.on≠i)→c8.apart ops cK=true)→
      i∈Region.ready .any ops l→aA w0 a→vK P ops Q aL f (l.setIfInBounds i true) (a.put c8.dst v) w0→vK P ops Q aL (f+1) l a w0:=by
  intro f;induction f with
  | zero =>
    intro l a w0 _ _ _ hr bo H;refine ⟨fun h=>(by rw [h] at hr;cases hr),fun j aw=> ?_⟩;by_cases fi:j=i
    · subst fi;exact ⟨c8,ak, .inl ⟨aj,v,ky _ _ bo,H⟩⟩
    · have:=aOM aw fi
      rw [H.1] at this;cases this
  | succ f bu =>
    intro l a w0 wq wm wj hr bo H;refine ⟨fun h=>(by rw [h] at hr;cases hr),fun j aw=> ?_⟩;by_cases fi:j=i
    · subst fi;exact ⟨c8,ak, .inl ⟨aj,v,ky _ _ bo,H⟩⟩
    · obtain ⟨cK,hI,κ⟩:=H.2 j (aOM aw fi)
      obtain ⟨qj,ef,wy,ep⟩:=aPt.1 aw;obtain rfl:ef=cK:=by rw [hI] at wy;exact (aNf wy).symm
      have DN:∀ e∈ef.after,Region.binds .any e=true→e.on≠i:=fun e he af heq=>by
        have κ:=ep e he af;have aC:=(aPt.1 hr).1;rw [heq] at κ;rcases aOd i l.size with cp | cp
        · simp [cp] at aC κ;rw [aC] at κ;cases κ
        · simp [aNT cp] at κ
      have Ah:=wj j ef hI fi qj DN;obtain ⟨di,a2,a3⟩:=aP8 Ah;have DQ:∀ cs b,c8.op≠ .select cs b:=fun cs b=>j9 i c8 cs b ak;have rA:∀ cs b,ef.op≠ .select cs b:=fun cs b=>j9 j ef cs b hI;have keep:∀ aN a u,aA aN a→aA aN (a.put ef.dst u):=fun aN a u bo=>z2 _ _ _ bo (aO6 c8 DQ a ef.dst u a3) (aPh c8 a ef.dst u a3);have vZ:R j=true:=hR j ef hI fi fun e he af=>wq _ (ep e he af);have wu:∀ k,(l.setIfInBounds j true).getD k false=true→R k=true:=fun k aj=>by
        by_cases fL:j=k
        · rw [← fL];exact vZ
        · rw [aOD false fL] at aj;exact wq k aj
      have wo:∀ k,qp.getD k true=true→(l.setIfInBounds j true).getD k true=true:=fun k aj=>by
        by_cases fL:j=k
        · subst fL
          rcases aOd j l.size with cp | cp
          · simp [cp]
          · simp [aNT cp]
        · rw [aOD true fL];exact wm k aj
      have wk:∀ k ok,ops[k]? =some ok→k≠i→(l.setIfInBounds j true).getD k true=false→
          (∀ e∈ok.after,Region.binds .any e=true→e.on≠i)→c8.apart ops ok=true:=fun k ok aj lh wB ju=>by
        refine wj k ok aj lh ?_ ju;by_cases fL:j=k
        · subst fL;exact qj
        · rw [aOD true fL] at wB;exact wB
      have wz:=aOM hr (aPp fi);rcases κ with ⟨qk,u,I,hK⟩ | ⟨qk,κ⟩
      · refine ⟨ef,hI, .inl ⟨qk,u,I.of_same (aO6 ef rA a c8.dst v di).symm (aPh ef a c8.dst v di).symm, ?_⟩⟩
        refine bu _ _ _ wu wo wk wz (keep _ _ _ bo) ?_;rw [aN8 _ _ fi,← aOL a v u a2];exact hK
      · refine ⟨ef,hI, .inr ⟨qk,fun w hw=> ?_⟩⟩
        refine aOK (fun a' w' aq=>⟨aq.2.1, ?_⟩) (PR (aA:=aA w0) hI di a2 rA eJ (keep w0) (fun a d bo=>z2 _ _ _ bo Z Z) bo (κ w hw));have DV:aA w' a':=by
          rcases aOd (aL j) 3 with bB | Ak
          · exact z3 _ _ _ (aq.2.1 (by omega)) aq.1
          · rcases aS with aS | aS
            · exact aS _ _ _ aq.1
            · have:=wm j (aS j vZ Ak);rw [qj] at this;cases this
        refine bu _ _ _ wu wo wk wz DV ?_;rw [aN8 _ _ fi];exact aq.2.2
def xv (P:Program) (ops:Array Oper) (Q:Exit→Act→World→Prop) (aL:Nat→Nat):List Nat→Act→World→Prop
  | [],a,w0=>∀ w,Ext w0 w→Q .normal a w
  | i::r,a,w0=>∃ o,ops[i]? =some o∧
      ((aL i=0∧∃ v,si P ops w0 o v a∧xv P ops Q aL r (a.put o.dst v) w0)∨
       (aL i=1∧∃ v,Yields P ops o v a∧xv P ops Q aL r (a.put o.dst v) w0)∨
       (1<aL i∧∀ w,Ext w0 w→wpOp P ops Q i (fun a' w'=>(aL i=2→Ext w0 w')∧xv P ops Q aL r a' w') a w))
def Vg (ops:Array Oper) (i:Nat):Array Bool :=
  ops.foldl (init:=#[]) fun acc o=>acc.push (acc.size != i && o.after.all fun e=> !Region.binds .any e || acc.getD e.on false)
def My (ops:Array Oper) (aL:Nat→Nat) (l:Array Bool) (i:Nat):Bool :=
  (List.range ops.size).all (fun j=>l.getD j true || Nat.blt (aL j) 3) ||
  (let R:=Vg ops i
   (List.range ops.size).all fun j=>(j == i || R.getD j false || !((ops[j]?).map (·.after.all fun e=> !Region.binds .any e || R.getD e.on false)).getD false) && (!l.getD j false || R.getD j false) && (!R.getD j false || Nat.blt (aL j) 3 || l.getD j true))
def hQ (ops:Array Oper) (aL:Nat→Nat):List Nat→Array Bool→Bool
  | [],l=>(Region.ready .any ops l).isEmpty
  | i::r,l=>(match aL i with
      | 0=>Region.free .any ops l i && (Region.ready .any ops l).contains i && My ops aL l i
      | 1=>Region.free .any ops l i && (Region.ready .any ops l).contains i
      | _=>Region.ready .any ops l == [i]) && hQ ops aL r (l.setIfInBounds i true)
theorem Iu {l:Array Bool} {i:Nat} (ay:l.size=ops.size) (h:My ops aL l i=true):∃ R:Nat→Bool,
    (∀ j cK,ops[j]? =some cK→j≠i→(∀ e∈cK.after,Region.binds .any e=true→R e.on=true)→R j=true)∧
    (∀ j,l.getD j false=true→R j=true)∧(∀ j,R j=true→3≤aL j→l.getD j true=true):=by
  unfold My at h;have out:∀ j,¬ j<ops.size→l.getD j true=true:=fun j aw=>by simp [aNT (by omega:l.size≤j)]
  rw [aNG] at h;rcases h with h | h
  · refine ⟨fun _=>true,fun _ _ _ _ _=>rfl,fun _ _=>rfl,fun j _ aq=> ?_⟩
    by_cases aw:j<ops.size
    · have:=aNJ.1 h j (aND.2 aw)
      rw [aNG] at this;rcases this with h | h
      · exact h
      · rw [aPB] at h;omega
    · exact out j aw
  · refine ⟨fun j=>(Vg ops i).getD j false,fun j cK hI fi hd=> ?_,fun j aw=> ?_,fun j aw aq=> ?_⟩
    · have bB:=(aNy.1 hI).1
      have:=aNJ.1 h j (aND.2 bB);simp only [hI,aOH,aN2,aNa,aNG,aNV,fi,false_or,aOa] at this;rcases this.1.1 with h | h
      · exact h
      · have ep:cK.after.all (fun e=> !Region.binds .any e || (Vg ops i).getD e.on false)=true:=by
          rw [Array.all_eq_true_iff_forall_mem];intro e he;cases af:Region.binds .any e
          · rfl
          · have:=hd e he af;simp only at this;simp [this]
        rw [ep] at h;cases h
    · have bB:j<ops.size:=by
        rcases aOd j l.size with cp | cp
        · omega
        · simp [aNT cp] at aw
      have:=aNJ.1 h j (aND.2 bB);simp only [aNa,aNG,aOa] at this;rcases this.1.2 with h | h
      · rw [h] at aw;cases aw
      · exact h
    · by_cases bB:j<ops.size
      · have:=aNJ.1 h j (aND.2 bB)
        simp only [aNa,aNG,aOa] at this;rcases this.2 with (h | h) | h
        · simp only at aw;rw [h] at aw;cases aw
        · (rw [aPB] at h;omega)
        · exact h
      · exact out j bB
theorem C9 (hs:Region.noSelect ops=true) (eJ:∀ c a w,¬ Q (.panic c) a w):∀ (r:List Nat) (l:Array Bool) (a:Act) (w0:World),l.size=ops.size→hQ ops aL r l=true→xv P ops Q aL r a w0→vK P ops Q aL r.length l a w0
  | [],l,a,w0,_,aS,h=>⟨by simpa [hQ] using aS,h⟩
  | i::r,l,a,w0,ay,aS,h=>by
    obtain ⟨o,bk,h⟩:=h;have j9:=aO7 hs;rcases h with ⟨aj,v,I,hK⟩ | ⟨aj,v,I,hK⟩ | ⟨aj,h⟩
    · simp only [hQ,aj,aNa] at aS
      obtain ⟨⟨⟨hf,hr⟩,af⟩,aS⟩:=aS;obtain ⟨R,r1,r2,sW⟩:=Iu ay af;exact Nu bk (by omega) j9 eJ (fun w0 a=>si P ops w0 o v a) (fun _ _ h=>h) (fun _ _ _ h he hw=>h.of_same he hw) (fun _ _ _ hx h=>h.on hx) R l r1 (.inr sW) _ _ _ _ r2 (fun _ h=>h) (aOo bk hf) (by simpa using hr) I
        (C9 hs eJ r _ _ _ (by simpa using ay) aS hK)
    · simp only [hQ,aj,aNa] at aS
      obtain ⟨⟨hf,hr⟩,aS⟩:=aS;exact Nu bk (by omega) j9 eJ (fun _ a=>Yields P ops o v a) (fun _ _ h=>Yields.afV h) (fun _ _ _ h he hw=>h.of_same he hw) (fun _ _ _ _ h=>h) (fun _=>true) l (fun _ _ _ _ _=>Z) (.inl fun _ _ _ h=>h) _ _ _ _ (fun _ _=>Z) (fun _ h=>h) (aOo bk hf) (by simpa using hr) I
        (C9 hs eJ r _ _ _ (by simpa using ay) aS hK)
    · obtain ⟨k,lN⟩:∃ k,aL i=k+2:=⟨aL i - 2,by omega⟩
      simp only [hQ,lN,aNa,aNV] at aS;obtain ⟨hr,aS⟩:=aS;refine ⟨fun aC=>(by rw [hr] at aC;cases aC),fun j aw=> ?_⟩;rw [hr] at aw;obtain rfl:j=i:=by simpa using aw
      exact ⟨o,bk, .inr ⟨aj,fun w hw=>aOK (fun a' w' aq=>⟨aq.1,C9 hs eJ r _ _ _ (by simpa using ay) aS aq.2⟩) (h w hw)⟩⟩
def eY (K:Act→World→Prop):Exit→Act→World→Prop
  | .normal,a,w=>K a w
  | _,_,_=>False
theorem ayE {id:Nat} {a:Act} {w:World} (ba:List Nat) (hm:P.follows .mixedOrders=true) (aS:(Region.noSelect ops && (ba.length == ops.size) && hQ ops aL ba (Array.replicate ops.size false))=true)
    (h:xv P ops (eY (Q .normal)) aL ba a w):(Code.region id ops true).wp P Q a w:=by
  simp only [aNa,aNV] at aS;obtain ⟨⟨hs,ay⟩,aS⟩:=aS;refine aQL (aPe hm (Q:=eY (Q .normal)) ?_) (fun e a w I=>by cases e<;>first | exact I | exact I.elim);have:=C9 (P:=P) hs (Q:=eY (Q .normal)) (fun _ _ _ h=>h) ba (Array.replicate ops.size false) a w (by simp) aS h;rw [ay] at this;exact x' _ _ _ _ this _ (aNH _ w).drew
end
end Go.Proofs.YthlpmldmhakhaaaGreatDoor
