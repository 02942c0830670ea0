import Derived.Lib.Hide
import Derived.WalkSpells
import Derived.WalkLawsBesides
import Derived.BigQuiet
import Derived.Deep.RegionHeld3
import Derived.Laws.CopyOwn
import Derived.Lib.Strings
import Derived.Deep.AppendLies
import Derived.Shelf.SlicesE.Clone
import Derived.Deep.Fields
import Derived.WideKeyEntry
import Derived.Handy
set_option linter.unusedVariables false
set_option linter.unusedSimpArgs false
set_option maxRecDepth 100000
set_option maxHeartbeats 4000000
open Go.RowKit
namespace Go.Proofs.YthlpmldmhakhaaaGreatDoor
theorem Z.{u} {α:Sort u} {a:α}:a=a:=Eq.refl a
abbrev aMw:=@List.length_cons
abbrev aMx:=@List.getElem?_eq_some_iff
abbrev aMy:=@List.getElem?_eq_getElem
abbrev aMA:=@if_neg
abbrev aMB:=@List.length_append
abbrev aME:=@List.length_take
abbrev aMF:=@Bool.and_eq_true
abbrev aMG:=@Go.Result.andThen_ok
abbrev aMI:=@if_pos
abbrev aMJ:=@Option.some.inj
abbrev aMK:=@List.mem_cons_of_mem
abbrev aML:=@Go.Sem.run_bind
abbrev aMM:=@List.length_set
abbrev aMN:=@List.mem_cons
abbrev aMO:=@Nat.le_refl
abbrev aMP:=@Go.Sem.run_pure
abbrev aMQ:=@List.mem_append
abbrev aMR:=@Nat.le_trans
abbrev aMT:=@List.mem_map
abbrev aMU:=@List.take_of_length_le
abbrev aMX:=@List.getElem?_map
abbrev aMZ:=@List.getElem?_append_left
abbrev aM0:=@List.map_append
abbrev aM1:=@Array.getElem?_eq_some_iff
abbrev aM3:=@List.eq_nil_of_length_eq_zero
abbrev aM4:=@List.append_nil
abbrev aM6:=@List.append_assoc
abbrev aM7:=@List.getElem?_append_right
abbrev aM8:=@List.mem_range
abbrev aM9:=@List.length_drop
abbrev aNa:=@Bool.or_eq_true
abbrev aNb:=@Go.RowKit.Below.refl
abbrev aNc:=@List.map_cons
abbrev aNd:=@List.all_eq_true
abbrev aNe:=@List.getElem?_take
abbrev aNf:=@List.length_map
abbrev aNg:=@List.getElem?_set_self
abbrev aNh:=@Nat.mul_le_mul_right
abbrev aNi:=@List.mem_of_getElem?
abbrev aNk:=@List.nodup_append
abbrev aNl:=@Nat.zero_le
abbrev aNm:=@Bool.false_eq_true
abbrev aNo:=@Array.getElem?_eq_none
abbrev aNp:=@Go.MapKept.run_getObj_map
abbrev aNq:=@beq_iff_eq
abbrev aNr:=@List.flatten_cons
abbrev aNt:=@of_decide_eq_true
abbrev aNu:=@List.mem_iff_getElem
abbrev aNw:=@Array.getElem?_toList
abbrev aNx:=@Option.getD_some
abbrev aNy:=@List.getElem?_set_ne
abbrev aNz:=@List.getElem?_drop
abbrev aNC:=@Array.setIfInBounds_comm
abbrev aND:=@Nat.zero_add
abbrev aNF:=@Bool.not_eq_true'
abbrev aNH:=@Go.run_underlying
abbrev aNI:=@Nat.lt_or_ge
abbrev aNJ:=@List.mem_flatten
abbrev aNK:=@List.getElem_mem
abbrev aNL:=@List.any_eq_true
abbrev aNM:=@Go.MapKept.run_setObj_map
abbrev aNN:=@Array.length_toList
abbrev aNP:=@List.map_nil
abbrev aNQ:=@List.find?_eq_none
abbrev aNR:=@if_false
abbrev aNT:=@Go.Region.free_spec
abbrev aNV:=@List.size_toArray
abbrev aNW:=@Array.ext'
abbrev aNY:=@Array.getElem?_setIfInBounds_ne
abbrev aN4:=@List.nil_append
abbrev aN5:=@if_true
abbrev aN6:=@Nat.add_mul
abbrev aN8:=@Go.getD_set_ne
abbrev aOb:=@List.mem_or_eq_of_mem_set
abbrev aOc:=@Option.map_some
abbrev aOd:=@List.ext_getElem?
abbrev aOf:=@Go.wpOp_mono
abbrev aOg:=@Go.Act.put_comm
abbrev aOh:=@Go.ready_mono
abbrev aOm:=@Nat.mul_comm
abbrev aOo:=@Nat.eq_zero_or_pos
abbrev aOq:=@List.map_set
abbrev aOr:=@List.find?_cons_of_neg
abbrev aOs:=@Go.Calls.mono
abbrev aOt:=@List.set_getElem_self
abbrev aOw:=@Go.ChangeMaps.modify_eq_set
abbrev aOA:=@Go.execOp_put
abbrev aOB:=@Go.Region.noSelect_spec
abbrev aOD:=@Array.toList_modify
abbrev aOF:=@List.nodup_cons
abbrev aOI:=@Go.wp_region_any
abbrev aOK:=@List.findIdx?_eq_some_iff_getElem
abbrev aOL:=@Go.wanted_put
abbrev aOV:=@Ne.symm
abbrev aOZ:=@Go.mem_ready
abbrev aO2:=@List.flatten_append
abbrev aO4:=@List.map_map
abbrev aO6:=@Nat.blt_eq
abbrev aPa:=@Array.empty_append
abbrev aPc:=@List.findIdx?_eq_none_iff
abbrev aPh:=@Array.size_append
abbrev aPo:=@List.find?_cons_of_pos
abbrev aPq:=@Go.World.block_lt_of_cell?
abbrev aPr:=@Nat.mul_add_mod
abbrev aPt:=@List.mem_append_right
abbrev aPv:=@List.getElem?_eq_none
abbrev aPx:=@Go.RowKit.Below.mono
abbrev aPy:=@Array.getElem?_modify
abbrev aPB:=@Array.getElem?_setIfInBounds_self_of_lt
abbrev aPC:=@Go.Oper.apart_spec
abbrev aPD:=@List.nodup_nil
abbrev aPE:=@List.mem_append_left
abbrev aPJ:=@Array.getElem?_range
abbrev aPM:=@List.take_succ_cons
abbrev aPN:=@List.map_congr_left
abbrev aPO:=@List.getElem?_range
abbrev aPP:=@Go.heap_alloc_new
abbrev aPV:=@Array.getElem?_map
abbrev aPX:=@Option.some.injEq
abbrev aPZ:=@List.getElem?_inj
abbrev aP8:=@Go.heap_setCell_other
abbrev aP9:=@Nat.mod_eq_of_lt
abbrev aQa:=@List.take_append
abbrev aQb:=@List.map_toArray
abbrev aQc:=@List.getElem_map
abbrev aQf:=@Go.wp_mono
abbrev aQo:=@Nat.mod_lt
abbrev aQw:=@Go.WideElems.findIdx_born
abbrev aQB:=@Go.WideElems.findIdx_arr
abbrev aQE:=@List.flatten_eq_nil_iff
abbrev aQJ:=@Nat.div_lt_iff_lt_mul
abbrev aQK:=@List.take_append_drop
abbrev aQM:=@List.set_append_right
abbrev aQP:=@Go.WideElems.set_self
abbrev aQY:=@Go.RowKit.Below.trans
abbrev aQZ:=@Array.toList_append
abbrev aQ8:=@List.length_range
abbrev aRa:=@List.any_eq_false
abbrev aRb:=@Bool.eq_false_iff
end Go.Proofs.YthlpmldmhakhaaaGreatDoor
namespace Go.Proofs.YthlpmldmhakhaaaGreatDoor.qM
def U {n:Nat} (b:BitVec n):Int:=(b.toNat:Int)

end Go.Proofs.YthlpmldmhakhaaaGreatDoor.qM
namespace Go.Proofs.YthlpmldmhakhaaaGreatDoor
def aDm (k:IntKind) (w:World) (a:Option Addr) (len cap:Nat) (zs:List Int):Prop :=
  (a=none∧len=0∧cap=0∧zs= [])∨
  ∃ x,a=some x∧len≤cap∧cap≤maxLen∧zs.length=cap∧(∀ i,i<zs.length→w.cell? (x.add i)=some (.int k (zs.getD i 0)))∧∀ n∈zs,(Lit.int k n).wf=true
theorem ayc {a:Bool} (h:a=true):Ending.returned (.bool a)= .returned (.bool true):=by rw [h]
theorem H5 (b off j:Nat):(⟨b,off,none⟩:Addr).add j=⟨b,off+j,none⟩:=by
  unfold Addr.add;split<;>simp_all
theorem cell_later {w w':World} (af:Below w.heap.size w w') {a:Addr} {v:Value} (h:w.cell? a=some v):w'.cell? a=some v:=by
  rw [af.cell (aPq w a h)];exact h
def aO (w:World) (g:Nat) (cur:List Value) (e:TypeId) (ao:Nat×Nat):Prop:=w.heap[g]? =some (.cells cur.toArray e ao)
theorem aO.lt {w:World} {g:Nat} {cur:List Value} {e:TypeId} {ao:Nat×Nat} (h:aO w g cur e ao):g<w.heap.size:=(aM1.1 h).1
theorem aO.cell {w:World} {g:Nat} {cur:List Value} {e:TypeId} {ao:Nat×Nat} (h:aO w g cur e ao) (j:Nat):w.cell? ⟨g,j,none⟩=cur[j]? :=by
  rw [cell_of_row w g j _ e ao h];simp
theorem aO.free {w:World} {g:Nat} {cur:List Value} {e:TypeId} {ao:Nat×Nat} (h:aO w g cur e ao) (j:Nat) (aw:j<ao.1∨ao.2≤j):w.frozen? ⟨g,j,none⟩=false:=by
  unfold aO at h;obtain ⟨lo,ak⟩:=ao;simp only [World.frozen?,h];simp only at aw;simp;omega
theorem aO.set {w:World} {g:Nat} {cur:List Value} {e:TypeId} {ao:Nat×Nat} (h:aO w g cur e ao) (j:Nat) (v:Value):aO (w.setCell ⟨g,j,none⟩ v) g (cur.set j v) e ao:=by
  unfold aO at *
  simp only [World.setCell,aPy,h];simp
theorem aO.later {w w':World} {g:Nat} {cur:List Value} {e:TypeId} {ao:Nat×Nat} (h:aO w g cur e ao) (af:Below w.heap.size w w'):aO w' g cur e ao:=by
  have ay:=h.lt;unfold aO at *
  rw [af.block g ay];exact h
theorem aO.drew {w:World} {g:Nat} {cur:List Value} {e:TypeId} {ao:Nat×Nat} (h:aO w g cur e ao):aO w.drew g cur e ao:=h
theorem aO.drewN {w:World} {g:Nat} {cur:List Value} {e:TypeId} {ao:Nat×Nat} (h:aO w g cur e ao) (n:Nat):aO (w.drewN n) g cur e ao:=h
theorem aO.new (w:World) (cur:List Value) (e:TypeId) (ao:Nat×Nat):aO (w.alloc (.cells cur.toArray e ao)) w.heap.size cur e ao:=aPP w _
theorem aO.setRow {w:World} {g:Nat} {cur:List Value} {e:TypeId} {ao:Nat×Nat} (h:aO w g cur e ao) (new:List Value):aO (w.setRow g new.toArray) g new e ao:=setRow_heap w g _ _ e ao h
theorem aO.other {w:World} {g g':Nat} {cur:List Value} {e:TypeId} {ao:Nat×Nat} (h:aO w g cur e ao) (aT:g≠g') (j:Nat) (v:Value):aO (w.setCell ⟨g',j,none⟩ v) g cur e ao:=by
  unfold aO at *
  rw [aP8 _ _ _ _ aT];exact h
theorem below_drewN {B:Nat} {a w:World} (h:Below B a w) (n:Nat):Below B a (w.drewN n):=⟨h.os,h.tape,h.output,h.size,h.block⟩
def Rd (w:World) (size:Nat) (A:Option Addr) (n:Nat) (xs:List Value):Prop :=
  xs.length=n * size∧(0<n→∃ b o,A=some ⟨b,o,none⟩∧∀ j u,xs[j]? =some u→w.cell? ⟨b,o+j,none⟩=some u)
theorem Rd.zero (w:World) (size:Nat) (A:Option Addr):Rd w size A 0 []:=⟨by simp,fun h=>absurd h (by decide)⟩
theorem Rd.later {w w':World} {size n:Nat} {A:Option Addr} {xs:List Value} (h:Rd w size A n xs) (af:Below w.heap.size w w'):Rd w' size A n xs :=
  ⟨h.1,fun aB=>by
    obtain ⟨b,o,e,hc⟩:=h.2 aB;exact ⟨b,o,e,fun j u hu=>cell_later af (hc j u hu)⟩⟩
theorem Rd.drewN {w:World} {size n:Nat} {A:Option Addr} {xs:List Value} (h:Rd w size A n xs) (k:Nat):Rd (w.drewN k) size A n xs:=h
def Own (w:World) (base:Nat) (e:TypeId) (size:Nat) (G:Nat→Value→Prop) (v:Value) (n:Nat) (xs:List Value):Prop :=
  xs.length=n * size∧
  ((v= .slice none 0 0∧n=0)∨
   ∃ g cap cur,v= .slice (some ⟨g,0,none⟩) n cap∧base≤g∧w.heap[g]? =some (.cells cur e (0,0))∧n≤cap∧cap≤maxLen∧cur.size=cap * size∧cur.toList.take (n * size)=xs∧∀ j u,cur[j]? =some u→G (j % size) u)
section
variable {w w':World} {base e size:Nat} {G:Nat→Value→Prop} {v:Value} {n:Nat} {xs:List Value}
theorem Own.row (h:Own w base e size G v n xs):w.ownsRow base e size v n xs:=by
  obtain ⟨κ,τ⟩:=h;refine ⟨κ, ?_⟩;rcases τ with τ | ⟨g,cap,cur,a,b,c,d,e,f,i,_⟩
  · exact .inl τ
  · exact .inr ⟨g,cap,cur,a,b,c,d,e,f,i⟩
theorem Own.nil (w:World) (base e size:Nat) (G:Nat→Value→Prop):Own w base e size G (.slice none 0 0) 0 []:=⟨by simp, .inl ⟨rfl,rfl⟩⟩
theorem Own.of_block {B:Nat} (h:Own w base e size G v n xs) (af:∀ g,v.ownBlock=some g→w'.heap[g]? =w.heap[g]?):Own w' base e size G v n xs:=by
  obtain ⟨κ,τ⟩:=h;refine ⟨κ, ?_⟩;rcases τ with τ | ⟨g,cap,cur,rfl,b,c,d⟩
  · exact .inl τ
  · exact .inr ⟨g,cap,cur,rfl,b,(af g rfl).trans c,d⟩
theorem Own.later (h:Own w base e size G v n xs) (af:Below w.heap.size w w'):Own w' base e size G v n xs :=
  h.of_block (B:=0) fun g aT=>af.block g (h.row.lt g aT).2
theorem Own.drewN (h:Own w base e size G v n xs) (k:Nat):Own (w.drewN k) base e size G v n xs:=h
theorem Own.drew (h:Own w base e size G v n xs):Own w.drew base e size G v n xs:=h
theorem Own.mono (h:Own w base e size G v n xs) {X1:Nat} (af:X1≤base):Own w X1 e size G v n xs:=by
  obtain ⟨κ,τ⟩:=h;refine ⟨κ, ?_⟩;rcases τ with τ | ⟨g,cap,cur,a,b,r⟩
  · exact .inl τ
  · exact .inr ⟨g,cap,cur,a,aMR af b,r⟩
theorem Own.rd (h:Own w base e size G v n xs) {A:Option Addr} {c:Nat} (hv:v= .slice A n c):Rd w size A n xs:=by
  obtain ⟨κ,τ⟩:=h;refine ⟨κ,fun aB=> ?_⟩;rcases τ with ⟨_,τ⟩ | ⟨g,cap,cur,rfl,b,c,d,e,f,i,_⟩
  · omega
  · injection hv with hv _ _
    refine ⟨g,0,hv.symm,fun j u hu=> ?_⟩;rw [aND,cell_of_row w g j cur _ (0,0) c,← aNw];rw [← i,aNe] at hu;split at hu
    · exact hu
    · cases hu
theorem Own.shape (h:Own w base e size G v n xs):∃ A c,v= .slice A n c∧n≤c∧c≤maxLen∧Rd w size A n xs∧(∀ a,A=some a→base≤a.block∧a.block<w.heap.size)∧(A=none→v= .slice none 0 0):=by
  have cp:=h;obtain ⟨κ,τ⟩:=h;rcases τ with ⟨rfl,rfl⟩ | ⟨g,cap,cur,rfl,b,c,d,e,f,i,_⟩
  · exact ⟨none,0,rfl,aMO _,aNl _,cp.rd rfl,(fun a ha=>by cases ha),fun _=>rfl⟩
  · refine ⟨_,cap,rfl,d,e,cp.rd rfl,fun a ha=> ?_,fun h=>by cases h⟩
    injection ha with ha
    subst ha;exact ⟨b,(aM1.1 c).1⟩
theorem aCv {z:Array Value} (bo:z.size=size) (hs:0<size) (av:∀ j u,z[j]? =some u→G j u) (k:Nat):∀ j u,(Builtin.zeroCells z k)[j]? =some u→G (j % size) u:=by
  intro j u hu;unfold Builtin.zeroCells at hu;subst bo;have aw:=(aM1.1 hu).1;simp at aw;have bB:j % z.size<z.size:=aQo _ hs;rw [aPV,aPJ,aMI aw] at hu;simp only [aOc,aPX] at hu;refine av _ u ?_;rw [← hu];simp [bB]
theorem Own.stored {g c:Nat} (h:Own w base e size G (.slice (some ⟨g,0,none⟩) n c) n xs) (j:Nat) (u:Value) (hu:G (j % size) u):
    Own (w.setCell ⟨g,j,none⟩ u) base e size G (.slice (some ⟨g,0,none⟩) n c) n (xs.set j u):=by
  obtain ⟨κ,τ⟩:=h;refine ⟨by rw [aMM];exact κ, ?_⟩;rcases τ with ⟨τ,_⟩ | ⟨g',cap,cur,hv,b,dN,d,hm,hs,aC,av⟩
  · cases τ
  · injection hv with hv _ hc
    injection hv with hv
    injection hv with hv
    subst hv;subst hc;refine .inr ⟨g,c,cur.setIfInBounds j u,Z,b, ?_,d,hm,by simp [hs], ?_, ?_⟩
    · simp only [World.setCell,aPy,dN]
      simp
    · rw [← aC]
      simp only [Array.toList_setIfInBounds];rw [List.take_set]
    · intro i v hv
      by_cases kU:j=i
      · subst kU
        have bB:j<cur.size:=by
          have:=(aM1.1 hv).1;simpa using this
        rw [aPB bB] at hv;obtain rfl:=aMJ hv;exact hu
      · rw [aNY kU] at hv
        exact av i v hv
theorem Own.cell {g c:Nat} (h:Own w base e size G (.slice (some ⟨g,0,none⟩) n c) n xs) (j:Nat) (aw:j<n * size):w.cell? ⟨g,j,none⟩=xs[j]? :=h.row.cellAt j aw
theorem Own.free {g c:Nat} (h:Own w base e size G (.slice (some ⟨g,0,none⟩) n c) n xs) (j:Nat):w.frozen? ⟨g,j,none⟩=false:=h.row.frozenAt j
theorem Own.lit (w:World) (cs:Array Value) (n:Nat) (af:base≤w.heap.size) (hm:n≤maxLen) (hs:cs.size=n * size) (av:∀ j u,cs[j]? =some u→G (j % size) u):
    Own (w.alloc (.cells cs e)) base e size G (.slice (some ⟨w.heap.size,0,none⟩) n n) n cs.toList :=
  ⟨by simpa using hs, .inr ⟨w.heap.size,n,cs,rfl,af,aPP w _,aMO _,hm,hs,aMU (by simp [hs]),av⟩⟩
theorem Own.empty (w:World) (af:base≤w.heap.size):Own (w.alloc (.cells #[] e)) base e size G (.slice (some ⟨w.heap.size,0,none⟩) 0 0) 0 [] :=
  Own.lit w #[] 0 af (aNl _) (by simp) (fun j u h=>by simp at h)
end
section
variable {P:Program} (w:World)
theorem afD (base:Nat) (t ty e:TypeId) (i:TypeInfo) (z:Value) (size bytes:Nat) (aC:P.underlying t=some (.slice e)) (ak:P.info? e=some i) (bo:i.zero=some z)
    (v_:i.size=size) (oy:i.bytes=bytes) (rj:z.cells.size=size) (hE:0<size) (G:Nat→Value→Prop) (we:∀ j u,z.cells[j]? =some u→G j u)
    (v:Value) (n:Nat) (xs:List Value) (js:Own w base e size G v n xs)
    (A:Option Addr) (m c:Nat) (news:List Value) (hr:Rd w size A m news) (κ:∀ u∈news,u.oneCell'=true) (Js:∀ j u,news[j]? =some u→G (j % size) u)
    (p5:n+m≤maxLen) (p8:(n+m) * bytes≤140737488355328) (ow:base≤w.heap.size):
    ∃ v' w',(Builtin.append_ #[t,t] ty #[v, .slice A m c]).run P w= .ok v' w'∧Own w' base e size G v' (n+m) (xs++news)∧w.grownBy w' v.ownBlock∧
      (v'= .slice none 0 0↔v= .slice none 0 0∧m=0)∧(v'.ownBlock=v.ownBlock∨v'.ownBlock=some w.heap.size):=by
  subst v_;subst oy;have aGD:n+m≤9223372036854775807:=by simp only [maxLen] at p5;omega
  have ay:news.length=m * i.size:=hr.1;have Gl:xs.length=n * i.size:=js.1;have hlen:(xs++news).length=(n+m) * i.size:=by rw [aMB,Gl,ay,aN6]
  have aaZ:(∀ j u,xs[j]? =some u→G (j % i.size) u)→∀ j u,(xs++news)[j]? =some u→G (j % i.size) u:=by
    intro hx j u hu;by_cases aw:j<xs.length
    · rw [aMZ aw] at hu;exact hx j u hu
    · rw [aM7 (by omega)] at hu
      have:=Js _ u hu;rw [Gl] at this aw;have e:j % i.size=(j - n * i.size) % i.size:=by
        conv=>lhs;rw [show j=n * i.size+(j - n * i.size) from by omega]
        rw [aOm n,aPr]
      rw [e];exact this
  -- what the growing arm leaves, whatever was there before
  have grown:(∀ j u,xs[j]? =some u→G (j % i.size) u)→∀ (old:Nat),old<n+m→∀ (row:Option Nat),
      Own (w.drew.alloc (.cells (xs.toArray++news.toArray++Builtin.zeroCells z.cells (grownCap w (n+m) old e - (n+m))) e)) base e i.size G
        (.slice (some ⟨w.heap.size,0,none⟩) (n+m) (grownCap w (n+m) old e)) (n+m) (xs++news)∧
      w.grownBy (w.drew.alloc (.cells (xs.toArray++news.toArray++Builtin.zeroCells z.cells (grownCap w (n+m) old e - (n+m))) e)) row:=by
    intro N1 old bl row;have zY:=grownCap_ge w (n+m) old e;have p9:grownCap w (n+m) old e≤maxLen:=grownCap_le_maxLen w (n+m) old e p5;refine ⟨⟨hlen, .inr ⟨w.heap.size,_,_,Z,ow,aPP w.drew _,zY,p9, ?_, ?_, ?_⟩⟩,⟨Z,Z,Z,by simp,fun k aj _=>heap_alloc_old w.drew _ aj⟩⟩
    · simp only [aPh,aNV,size_zeroCells,rj,Gl,ay,← aN6]
      congr 1;omega
    · simp only [aQZ,aM6]
      rw [← aM6,← hlen];exact List.take_left
    · intro j u hu
      rw [← aNw] at hu;simp only [aQZ] at hu;by_cases aw:j<(xs++news).length
      · rw [aMZ aw] at hu;exact aaZ N1 j u hu
      · rw [aM7 (by simpa using aw)] at hu
        rw [aNw] at hu;have:=aCv rj hE we _ _ u hu;have nH:(xs.toArray.toList++news.toArray.toList).length=(n+m) * i.size:=hlen;rw [nH] at this;rw [hlen] at aw;have e:j % i.size=(j - (n+m) * i.size) % i.size:=by
          conv=>lhs;rw [show j=(n+m) * i.size+(j - (n+m) * i.size) from by omega]
          rw [aOm (n+m),aPr]
        rw [e];exact this
  have Tz:A=none∨∃ a,A=some a:=by cases A with | none=>exact .inl rfl | some a=>exact .inr ⟨a,rfl⟩
  rcases Tz with rfl | ⟨ad,rfl⟩
  · have hm:m=0:=by
      rcases aOo m with aB | aB
      · exact aB
      · obtain ⟨b,o,h,_⟩:=hr.2 aB
        cases h
    subst hm;have hn:news= []:=aM3 (by simpa using ay);subst hn;refine ⟨v,w, ?_,by simpa using js,World.grownBy.refl w _,by simp, .inl rfl⟩;rcases js.2 with ⟨rfl,rfl⟩ | ⟨g,cap,cur,rfl,_,_,BC,_⟩
    · simp [Builtin.append_,aNH aC,sizeOf,typeInfo,ak,Builtin.lenOf,Builtin.firstCells]
    · simp [Builtin.append_,aNH aC,sizeOf,typeInfo,ak,Builtin.lenOf,Builtin.firstCells,BC,storeCells]
  have Ju:∀ j u,news[j]? =some u→w.cell? (ad.add j)=some u:=by
    intro j u hu;rcases aOo m with aB | aB
    · subst aB
      have hn:news= []:=aM3 (by simpa using ay);subst hn;simp at hu
    · obtain ⟨b,o,h,hc⟩:=hr.2 aB
      injection h with h
      subst h;rw [H5];exact hc j u hu
  rcases js.2 with ⟨rfl,rfl⟩ | ⟨g,cap,cur,rfl,S0,aT,BC,p9,yl,TB,av⟩
  · have hx:xs= []:=aM3 (by simpa using Gl)
    subst hx;by_cases hm:m=0
    · subst hm
      have hn:news= []:=aM3 (by simpa using ay);subst hn;refine ⟨.slice none 0 0,w, ?_,Own.nil w base e i.size G,⟨Z,Z,Z,aMO _,fun _ _ _=>Z⟩,by simp,Or.inl rfl⟩;simp [Builtin.append_,aNH aC,sizeOf,typeInfo,ak,Builtin.lenOf,Builtin.firstCells,loadCells,loadCellsFrom]
    · have hr:=run_append_nil (P:=P) w t ty e i z aC ak bo ad m c news ay Ju (by omega) (by omega) (by have af:=p8;simp only [aND] at af;omega)
      have By:=grown (fun j u hu=>by simp at hu) 0 (by omega) (Value.ownBlock (.slice none 0 0));simp only [aND,aN4,aPa] at By ⊢;exact ⟨_,_,hr,By.1,By.2,by simp [hm],Or.inr rfl⟩
  · have N1:∀ j u,xs[j]? =some u→G (j % i.size) u:=by
      intro j u hu;rw [← TB,aNe] at hu;split at hu
      · exact av j u (by rw [← aNw];exact hu)
      · cases hu
    by_cases Tw:n+m≤cap
    · have Td:n * i.size+news.length≤cur.size:=by rw [ay,yl,← aN6];exact aNh _ Tw
      have hr:=run_append_room (P:=P) w t ty e i aC ak g n cap cur aT ad m c news ay Ju κ Tw Td;refine ⟨_,_,hr,⟨hlen, .inr ⟨g,cap,_,Z,S0,setRow_heap w g cur _ e _ aT,Tw,p9, ?_, ?_, ?_⟩⟩,⟨Z,Z,Z,by simp,fun k _ aj=>setRow_other w g k _ (fun e=>aj (by simp [Value.ownBlock,e]))⟩,by simp,Or.inl rfl⟩
      · simp only [aNV,aMB,aME,aM9,aNN]
        omega
      · rw [TB,← hlen]
        exact List.take_left
      · intro j u hu
        rw [TB] at hu;have hu:((xs++news)++cur.toList.drop (n * i.size+news.length))[j]? =some u:=by simpa using hu
        by_cases aw:j<(xs++news).length
        · rw [aMZ aw] at hu;exact aaZ N1 j u hu
        · rw [aM7 (by omega),aNz] at hu
          rw [hlen] at hu aw;rw [ay,← aN6,show (n+m) * i.size+(j - (n+m) * i.size)=j from by omega] at hu;exact av j u (by rw [← aNw];exact hu)
    · have holds:∀ j u,xs[j]? =some u→w.cell? ((⟨g,0,none⟩:Addr).add j)=some u:=js.row.cells (g:=g) rfl
      have hr:=run_append_grow (P:=P) w t ty e i z aC ak bo ⟨g,0,none⟩ n cap xs Gl holds ad m c news ay Ju (by omega) (by omega) (growslice_fits (by omega) p8);have By:=grown N1 cap (by omega) (Value.ownBlock (.slice (some ⟨g,0,none⟩) n cap));exact ⟨_,_,hr,By.1,By.2,by simp,Or.inr rfl⟩

theorem aAV {o:Oper} {a:Act} {K:Act→World→Prop} {Q:Exit→Act→World→Prop} (s x:Operand) (t:TypeId)
    (bl:o.op= .call {callee:= .builtin .append,args:=#[s,x],argTypes:=#[t,t]})
    (base:Nat) (e:TypeId) (i:TypeInfo) (z:Value) (size bytes:Nat) (aC:P.underlying t=some (.slice e)) (ak:P.info? e=some i) (bo:i.zero=some z)
    (v_:i.size=size) (oy:i.bytes=bytes) (rj:z.cells.size=size) (hE:0<size) (G:Nat→Value→Prop) (we:∀ j u,z.cells[j]? =some u→G j u)
    (v:Value) (n:Nat) (xs:List Value) (hs:a.eval s=v) (js:Own w base e size G v n xs)
    (A:Option Addr) (m c:Nat) (news:List Value) (hx:a.eval x= .slice A m c) (hr:Rd w size A m news) (κ:∀ u∈news,u.oneCell'=true) (Js:∀ j u,news[j]? =some u→G (j % size) u)
    (p5:n+m≤maxLen) (p8:(n+m) * bytes≤140737488355328) (ow:base≤w.heap.size)
    (h:∀ v' w',Own w' base e size G v' (n+m) (xs++news)→w.grownBy w' v.ownBlock→(v'= .slice none 0 0↔v= .slice none 0 0∧m=0)→(v'.ownBlock=v.ownBlock∨v'.ownBlock=some w.heap.size)→K (a.put o.dst v') w'):o.wp P a w K Q:=by
  obtain ⟨v',w',kC,τ,aq,bb,bT⟩:=afD (P:=P) w base t o.type e i z size bytes aC ak bo v_ oy rj hE G we v n xs js A m c news hr κ Js p5 p8 ow;unfold Oper.wp execOp;simp only [bl,resolve,invoke,builtin,aML,aMP,aMG,aQb,aNc,aNP,hs,hx,kC];exact h v' w' τ aq bb bT
theorem VO {ops:Array Oper} {rest:List Oper} {o:Oper} {a:Act} {Q:Exit→Act→World→Prop} (Ti:o.guard=none) (s x:Operand) (t:TypeId)
    (bl:o.op= .call {callee:= .builtin .append,args:=#[s,x],argTypes:=#[t,t]})
    (base:Nat) (e:TypeId) (i:TypeInfo) (z:Value) (size bytes:Nat) (aC:P.underlying t=some (.slice e)) (ak:P.info? e=some i) (bo:i.zero=some z)
    (v_:i.size=size) (oy:i.bytes=bytes) (rj:z.cells.size=size) (hE:0<size) (G:Nat→Value→Prop) (we:∀ j u,z.cells[j]? =some u→G j u)
    (v:Value) (n:Nat) (xs:List Value) (hs:a.eval s=v) (js:Own w base e size G v n xs)
    (A:Option Addr) (m c:Nat) (news:List Value) (hx:a.eval x= .slice A m c) (hr:Rd w size A m news) (κ:∀ u∈news,u.oneCell'=true) (Js:∀ j u,news[j]? =some u→G (j % size) u)
    (p5:n+m≤maxLen) (p8:(n+m) * bytes≤140737488355328) (ow:base≤w.heap.size)
    (h:∀ v' w',Own w' base e size G v' (n+m) (xs++news)→w.grownBy w' v.ownBlock→(v'= .slice none 0 0↔v= .slice none 0 0∧m=0)→(v'.ownBlock=v.ownBlock∨v'.ownBlock=some w.heap.size)→wpList P ops Q rest (a.put o.dst v') w'):wpList P ops Q (o::rest) a w :=
  wpList_plain Ti fun _ hK=>aAV w s x t bl base e i z size bytes aC ak bo v_ oy rj hE G we v n xs hs js A m c news hx hr κ Js p5 p8 ow fun v' w' τ aq bb bT=>hK _ _ (h v' w' τ aq bb bT)
end
open Go.ChangeShapes Go.WideShapes Go.Deep Go.RowKit
inductive hq where
  | int (k:IntKind)
  | bool
  | str
  | slice (e:hq) (bytes:Nat)
  | nil
  | cons (a b:hq)
def hq.size:hq→Nat
  | .int _ | .bool | .str | .slice _ _=>1
  | .nil=>0
  | .cons a b=>a.size+b.size
def partsOf (P:Program) (t:TypeId):Option (List (TypeId×Nat)):=
  match P.underlying t with
  | some (.struct fs)=>some (fs.toList.map fun f=>(f.type,f.offset))
  | some (.array n e)=>some ((List.range n).map fun i=>(e,i * P.cellsOf e))
  | _=>none
def hq.fit (P:Program):hq→TypeId ⊕ (Nat×List (TypeId×Nat))→Bool
  | .int k, .inl t=>match P.underlying t with | some (.int k')=>decide (k'=k) | _=>false
  | .bool, .inl t=>match P.underlying t with | some .bool=>true | _=>false
  | .str, .inl t=>match P.underlying t with | some .string=>true | _=>false
  | .slice e by_, .inl t=>match P.underlying t with | some (.slice u)=>P.cellsOf u == e.size && P.bytesOf u == by_ && e.fit P (.inl u) | _=>false
  | .nil, .inl t=>P.cellsOf t == 0 && (match P.underlying t with | some (.struct _)=>true | some (.array ..)=>true | _=>false)
  | .cons a b, .inl t=>P.cellsOf t == a.size+b.size && (match partsOf P t with
      | some ((u,o)::r)=>o == 0 && P.cellsOf u == a.size && a.fit P (.inl u) && b.fit P (.inr (a.size,r))
      | _=>false)
  | .nil, .inr (_,fs)=>fs.isEmpty
  | .cons a b, .inr (off,fs)=>match fs with
    | (u,o)::r=>o == off && P.cellsOf u == a.size && a.fit P (.inl u) && b.fit P (.inr (off+a.size,r))
    | []=>false
  | _, .inr _=>false
def hq.l4 (w:World):hq→List Value→Prop
  | .int k,cs=>∃ n,cs= [.int k n]∧(Lit.int k n).wf=true
  | .bool,cs=>∃ b,cs= [.bool b]
  | .str,cs=>∃ s:ByteArray,cs= [.string s]∧s.size≤maxLen∧s.size≤140737488351232
  | .slice e by_,cs=>cs= [.slice none 0 0]∨∃ (a:Addr) (len cap:Nat),cs= [.slice (some a) len cap]∧len≤cap∧cap≤maxLen∧cap * by_≤140737488351232∧
      ∀ i,i<cap→∃ es:List Value,es.length=e.size∧(∀ j v,es[j]? =some v→w.cell? (a.add (i * e.size+j))=some v)∧e.l4 w es
  | .nil,cs=>cs= []
  | .cons a b,cs=>∃ xs ys,cs=xs++ys∧xs.length=a.size∧ys.length=b.size∧a.l4 w xs∧b.l4 w ys
variable {H:Type} {enc:TypeId×Value→H} {P:Program} {w:World} {base:Nat} {held:Bool}
theorem ag6 {e:TypeId} {l:List (DataW H)} {d:DataW H} (h:d∈l):∀ n∈d.weights P e,n∈DataW.weightsAll P e l:=by
  induction l with
  | nil=>cases h
  | cons x r bu =>
    intro n hn;simp only [DataW.weightsAll,aMQ];rcases aMN.1 h with rfl | h
    · exact .inl hn
    · exact .inr (bu h n hn)
def Hu (enc:TypeId×Value→H) (P:Program) (w:World) (base:Nat) (held:Bool) (n:Nat) (cs:List Value) (fs:List (TypeId×Nat)) (xs:List (DataW H×List MemPlace)):Prop :=
  xs.length=fs.length∧∀ (i:Nat) (f:TypeId×Nat),fs[i]? =some f→DataW.trod enc P w base (fun _=>true) held n f.1 ((cs.drop f.2).take (P.cellsOf f.1))=xs[i]?
theorem Hu.cons {n:Nat} {cs:List Value} {f:TypeId×Nat} {r:List (TypeId×Nat)} {xs:List (DataW H×List MemPlace)} (h:Hu enc P w base held n cs (f::r) xs):
    ∃ x ys,xs=x::ys∧DataW.trod enc P w base (fun _=>true) held n f.1 ((cs.drop f.2).take (P.cellsOf f.1))=some x∧Hu enc P w base held n cs r ys:=by
  obtain ⟨ay,hf⟩:=h
  match xs,ay with
  | x::ys,ay =>
    refine ⟨x,ys,Z,hf 0 f Z,by simpa using ay,fun i g aT=> ?_⟩;exact hf (i+1) g aT
def Goal (P:Program) (w:World) (sh:hq):TypeId ⊕ (Nat×List (TypeId×Nat))→Prop
  | .inl t=>∀ (H:Type) (enc:TypeId×Value→H) (base:Nat) (held:Bool) (fuel:Nat) (cs:List Value) (x:DataW H×List MemPlace),DataW.trod enc P w base (fun _=>true) held fuel t cs=some x→(∀ n∈x.1.weights P t,n≤reachBytes)→cs.length=sh.size∧sh.l4 w cs
  | .inr (off,fs)=>∀ (H:Type) (enc:TypeId×Value→H) (base:Nat) (held:Bool) (n:Nat) (cs:List Value) (xs:List (DataW H×List MemPlace)),Hu enc P w base held n cs fs xs→cs.length=off+sh.size→(∀ n∈DataW.weightsEach P (fs.map (·.1)) (xs.map (·.1)),n≤reachBytes)→sh.l4 w (cs.drop off)
theorem Goal.fields {a b:hq} (as6:∀ t,a.fit P t=true→Goal P w a t) (as7:∀ t,b.fit P t=true→Goal P w b t) {off:Nat} {f:TypeId×Nat} {r:List (TypeId×Nat)} (κ:f.2=off) (τ:P.cellsOf f.1=a.size) (aq:a.fit P (.inl f.1)=true) (bb:b.fit P (.inr (off+a.size,r))=true):
    Goal P w (.cons a b) (.inr (off,f::r)):=by
  intro H enc base held n cs xs hx ay hw;obtain ⟨x,ys,rfl,aC,hr⟩:=hx.cons;have ha:=as6 _ aq H enc base held n _ x aC (fun m hm=>hw m (by simp only [aNc,DataW.weightsEach,aMQ];exact .inl hm));have hE:(hq.cons a b).size=a.size+b.size:=rfl;have af:=as7 _ bb H enc base held n cs ys hr (by omega) (fun m hm=>hw m (by simp only [aNc,DataW.weightsEach,aMQ];exact .inr hm));rw [κ,τ] at ha;refine ⟨_,_, ?_,ha.1, ?_,ha.2,af⟩
  · rw [← List.drop_drop,aQK]
  · rw [aM9];omega
theorem ag7 {e:TypeId}:∀ (l:List (DataW H)) (ts:List TypeId),ts.length=l.length→(∀ t∈ts,t=e)→DataW.weightsEach P ts l=DataW.weightsAll P e l
  | [], [],_,_=>rfl
  | d::l,t::ts,h,aC=>by
    rw [DataW.weightsEach,DataW.weightsAll,aC t (by simp),ag7 l ts (by simpa using h) (fun u hu=>aC u (by simp [hu]))]
  | [],_::_,h,_=>by simp at h
  | _::_, [],h,_=>by simp at h
theorem agh {t:TypeId} {fs:List (TypeId×Nat)} {fuel:Nat} {cs:List Value} {x:DataW H×List MemPlace} (hp:partsOf P t=some fs) (h:DataW.trod enc P w base (fun _=>true) held fuel t cs=some x):
    cs.length=P.cellsOf t∧∃ (xs:List (DataW H×List MemPlace)) (n:Nat),Hu enc P w base held n cs fs xs∧x.1.weights P t=DataW.weightsEach P (fs.map (·.1)) (xs.map (·.1)):=by
  unfold partsOf at hp;split at hp
  · rename_i gs hu
    obtain rfl:=aMJ hp;obtain ⟨xs,n,_,rfl,ay,hlen,hf⟩:=DataW.trod_struct hu h;refine ⟨ay,xs,n,⟨by rw [hlen];simp,fun i f aT=> ?_⟩, ?_⟩
    · rw [aMX] at aT
      match arl:gs.toList[i]?,aT with
      | some g,aT =>
        obtain rfl:=aMJ aT;exact hf i g (by rw [← aNw];exact arl)
    · simp only [DataW.weights,hu,aO4]
      rfl
  · rename_i m e hu
    obtain rfl:=aMJ hp;obtain ⟨xs,n,_,rfl,ay,hlen,hf⟩:=DataW.trod_array hu h;refine ⟨ay,xs,n,⟨by rw [hlen];simp,fun i f aT=> ?_⟩, ?_⟩
    · rw [aMX] at aT
      have ak:i<m:=by
        rcases aNI i m with h | h
        · exact h
        · rw [aPv (by simpa using h)] at aT;cases aT
      rw [aPO ak] at aT;obtain rfl:=aMJ aT;exact hf i ak
    · simp only [DataW.weights,hu]
      rw [ag7 (e:=e)]
      · simp [hlen]
      · intro u hu;simp at hu;exact hu.2.symm
  · cases hp
theorem FL (P:Program) (w:World):∀ (sh:hq) (t:TypeId ⊕ (Nat×List (TypeId×Nat))),sh.fit P t=true→Goal P w sh t
  | .int k, .inl t,h=>by
    intro H enc base held fuel cs x aC _;unfold hq.fit at h;split at h
    · rename_i k' hu
      obtain rfl:k'=k:=aNt h;cases fuel with
      | zero=>simp [DataW.trod] at aC
      | succ n =>
        unfold DataW.trod at aC;rw [hu] at aC;split at aC<;>simp_all;exact ⟨Z,_,Z,aC.1.2⟩
    · cases h
  | .bool, .inl t,h=>by
    intro H enc base held fuel cs x aC _;unfold hq.fit at h;split at h
    · rename_i hu
      cases fuel with
      | zero=>simp [DataW.trod] at aC
      | succ n =>
        unfold DataW.trod at aC;rw [hu] at aC;split at aC<;>simp_all;exact ⟨Z,_,Z⟩
    · cases h
  | .str, .inl t,h=>by
    intro H enc base held fuel cs x aC hw;unfold hq.fit at h;split at h
    · rename_i hu
      cases fuel with
      | zero=>simp [DataW.trod] at aC
      | succ n =>
        unfold DataW.trod at aC;rw [hu] at aC;split at aC<;>simp_all;obtain ⟨κ,rfl⟩:=aC;refine ⟨Z,_,Z,κ, ?_⟩;simpa [DataW.weights,reachBytes] using hw
    · cases h
  | .slice e by_, .inl t,h=>by
    intro H enc base held fuel cs x aC hw;unfold hq.fit at h;split at h
    · rename_i u hu
      simp only [aMF,aNq] at h;obtain ⟨⟨κ,τ⟩,aq⟩:=h;rcases open_slice hu aC with ⟨rfl,_⟩ | ⟨a,len,cap,m,n,D,aDz,rfl,_,ay,hm,Ga,rfl,ak⟩
      · exact ⟨rfl, .inl rfl⟩
      · simp only [aN5] at Ga
        subst Ga;refine ⟨Z, .inr ⟨a,len,m,Z,ay,hm, ?_,fun i arp=> ?_⟩⟩
        · have:=hw ((((List.range len).map D).length+((List.range (m - len)).map fun j=>D (len+j)).length) * P.bytesOf u) (by simp [DataW.weights,hu])
          rw [τ] at this;simp only [aNf,aQ8,reachBytes] at this;rw [show len+(m - len)=m from by omega] at this;exact this
        · obtain ⟨Yv,hc,asx⟩:=ak i arp
          have aT:=FL P w e (.inl u) aq H enc base held n Yv _ asx (fun k aj=>hw k (by
            simp only [DataW.weights,hu,aMN,aMQ];right;by_cases Jl:i<len
            · exact .inl (ag6 (aMT.2 ⟨i,aM8.2 Jl,rfl⟩) k aj)
            · exact .inr (ag6 (aMT.2 ⟨i - len,aM8.2 (by omega),by rw [show len+(i - len)=i from by omega]⟩) k aj)))
          obtain ⟨_,yk,gg⟩:=World.cells?_some hc;refine ⟨Yv,aT.1,fun j v hv=> ?_,aT.2⟩;have aw:j<P.cellsOf u:=by have:=(aMx.1 hv).1;omega
          rw [κ] at gg aw;rw [← Go.Deep.add_add,gg j aw,hv]
    · cases h
  | .nil, .inl t,h=>by
    intro H enc base held fuel cs x aC hw;unfold hq.fit at h;simp only [aMF,aNq] at h;obtain ⟨aB,κ⟩:=h;have hp:∃ fs,partsOf P t=some fs:=by
      unfold partsOf;split at κ
      · exact ⟨_,rfl⟩
      · exact ⟨_,rfl⟩
      · cases κ
    obtain ⟨fs,hp⟩:=hp;have ay:=(agh hp aC).1;rw [aB] at ay;exact ⟨ay,aM3 ay⟩
  | .cons a b, .inl t,h=>by
    intro H enc base held fuel cs x aC hw;unfold hq.fit at h;simp only [aMF,aNq] at h;obtain ⟨aB,h⟩:=h;split at h
    · rename_i u o r hp
      obtain ⟨ay,xs,n,hx,he⟩:=agh hp aC;rw [aB] at ay;refine ⟨ay, ?_⟩;simp only [aMF,aNq] at h;obtain ⟨⟨⟨κ,τ⟩,aq⟩,bb⟩:=h;have bb:b.fit P (.inr (0+a.size,r))=true:=by rw [aND];exact bb
      exact Goal.fields (w:=w) (f:=(u,o)) (fun t aC=>FL P w a t aC) (fun t aC=>FL P w b t aC) κ τ aq bb H enc base held n cs xs hx (by rw [ay];show _=0+(a.size+b.size);omega) (fun m hm=>hw m (by rw [he];exact hm))
    · cases h
  | .nil, .inr (off,fs),h=>by
    intro H enc base held n cs xs hx ay hw;exact aM3 (by rw [aM9,ay];simp [hq.size])
  | .cons a b, .inr (off,fs),h=>by
    unfold hq.fit at h;split at h
    · rename_i u o r
      simp only [aMF,aNq] at h;obtain ⟨⟨⟨κ,τ⟩,aq⟩,bb⟩:=h;exact Goal.fields (f:=(u,o)) (fun t aC=>FL P w a t aC) (fun t aC=>FL P w b t aC) κ τ aq bb
    · cases h
  | .int _, .inr _,h=>by simp [hq.fit] at h
  | .bool, .inr _,h=>by simp [hq.fit] at h
  | .str, .inr _,h=>by simp [hq.fit] at h
  | .slice _ _, .inr _,h=>by simp [hq.fit] at h
theorem aJq {ts:List TypeId} {ds:List (DataW H)} (sh:hq) {j:Nat} {t:TypeId} {v:Value} {d:DataW H} {p:List MemPlace} (Td:sh.fit P (.inl t)=true)
    (hE:(DataW.weightsEach P ts ds).all (· ≤reachBytes)=true) (aC:ts[j]? =some t) (hd:ds[j]? =some d) (h:DataW.Trod enc P w base (fun _=>true) held t v d p):
    v.cells.toList.length=sh.size∧sh.l4 w v.cells.toList:=by
  obtain ⟨fuel,hf⟩:=h;exact FL P w sh (.inl t) Td H enc base held fuel _ (d,p) hf (fun n hn=>by
    have:=aNd.1 hE _ (DataW.weights_mem_each aC hd n hn);simpa using this)
def dp {β α:Type} (P:β→α→Prop):List β→List α→Prop
  | [], []=>True
  | b::b9,a::m=>P b a∧dp P b9 m
  | _,_=>False
section
variable {β α:Type} {P Q:β→α→Prop}
theorem dp.length:∀ {l:List β} {m:List α},dp P l m→l.length=m.length
  | [], [],_=>rfl
  | _::_,_::_,h=>by rw [aMw,aMw,dp.length h.2]
  | [],_::_,h=>h.elim
  | _::_, [],h=>h.elim
theorem dp.imp {l:List β} (ak:∀ b a,b∈l→P b a→Q b a):∀ {m:List α},dp P l m→dp Q l m:=by
  induction l with
  | nil=>intro m h;cases m with | nil=>trivial | cons=>exact h
  | cons b r bu =>
    intro m h;cases m with
    | nil=>exact h
    | cons a s=>exact ⟨ak b a (by simp) h.1,bu (fun b a af=>ak b a (by simp [af])) h.2⟩
theorem dp.app:∀ {l:List β} {m:List α} {N8:List β} {m':List α},dp P l m→dp P N8 m'→dp P (l++N8) (m++m')
  | [], [],_,_,_,h=>h
  | _::_,_::_,_,_,h,cp=>⟨h.1,dp.app h.2 cp⟩
  | [],_::_,_,_,h,_=>h.elim
  | _::_, [],_,_,h,_=>h.elim
theorem dp.at_:∀ {l:List β} {m:List α} {i:Nat} {a:α},dp P l m→m[i]? =some a→∃ b,l[i]? =some b∧P b a
  | [], [],_,_,_,h=>by simp at h
  | b::_,_::_,0,_,h,e=>⟨b,rfl,by simp at e;subst e;exact h.1⟩
  | _::_,_::_,i+1,_,h,e=>by
    obtain ⟨b,κ,τ⟩:=dp.at_ (i:=i) h.2 (by simpa using e);exact ⟨b,by simpa using κ,τ⟩
  | [],_::_,_,_,h,_=>h.elim
  | _::_, [],_,_,h,_=>h.elim
theorem dp.UR:∀ {l:List β} {m:List α} {i:Nat} {b:β} {a:α},dp P l m→P b a→dp P (l.set i b) (m.set i a)
  | [], [],_,_,_,_,_=>trivial
  | _::_,_::_,0,_,_,h,e=>⟨e,h.2⟩
  | _::_,_::_,_+1,_,_,h,e=>⟨h.1,dp.UR h.2 e⟩
  | [],_::_,_,_,_,h,_=>h.elim
  | _::_, [],_,_,_,h,_=>h.elim
theorem dp.GR:∀ {l:List β} {m:List α} (k:Nat),dp P l m→dp P (l.take k) (m.take k)
  | [], [],_,_=>by simp [dp]
  | _::_,_::_,0,_=>trivial
  | _::_,_::_,k+1,h=>⟨h.1,dp.GR k h.2⟩
  | [],_::_,_,h=>h.elim
  | _::_, [],_,h=>h.elim
theorem dp.left:∀ {l:List β} {m:List α},dp P l m→∀ b∈l,∃ a,P b a
  | [],_,_,b,af=>by simp at af
  | c::_, [],h,_,_=>h.elim
  | c::_,a::_,h,b,af=>by
    rcases aMN.1 af with rfl | af
    · exact ⟨a,h.1⟩
    · exact dp.left h.2 b af
end
theorem C_ {k:Nat}:∀ {l:List (List Value)},(∀ x∈l,x.length=k)→l.flatten.length=l.length * k
  | [],_=>by simp
  | x::r,h=>by rw [aNr,aMB,h x (by simp),C_ (l:=r) (fun y aH=>h y (by simp [aH])),aMw,aN6];omega
theorem IH {k:Nat}:∀ {l:List (List Value)} {i j:Nat} {es:List Value},(∀ x∈l,x.length=k)→l[i]? =some es→j<k→l.flatten[i * k+j]? =es[j]?
  | [],_,_,_,_,h,_=>by simp at h
  | x::r,0,j,es,h,e,aw=>by
    have e:x=es:=by simpa using e
    subst e;rw [aNr,Nat.zero_mul,aND,aMZ (by rw [h x (by simp)];exact aw)]
  | x::r,i+1,j,es,h,e,aw=>by
    have hx:=h x (by simp);rw [aNr,aM7 (by rw [hx,aN6];omega),hx,show (i+1) * k+j - k=i * k+j from by rw [aN6];omega];exact IH (fun y aH=>h y (by simp [aH])) (by simpa using e) aw
theorem Z5 {k:Nat}:∀ {l:List (List Value)} {i j:Nat} {es:List Value} (u:Value),(∀ x∈l,x.length=k)→l[i]? =some es→j<k→l.flatten.set (i * k+j) u=(l.set i (es.set j u)).flatten
  | [],_,_,_,_,_,h,_=>by simp at h
  | x::r,0,j,es,u,h,e,aw=>by
    have e:x=es:=by simpa using e
    subst e;rw [aNr,Nat.zero_mul,aND,List.set_append_left _ _ (by rw [h x (by simp)];exact aw)];rfl
  | x::r,i+1,j,es,u,h,e,aw=>by
    have hx:=h x (by simp);rw [aNr,aQM _ _ (by rw [hx,aN6];omega),hx,show (i+1) * k+j - k=i * k+j from by rw [aN6];omega,Z5 u (fun y aH=>h y (by simp [aH])) (by simpa using e) aw];rfl
theorem Z7 {k:Nat}:∀ {l:List (List Value)} (i:Nat),(∀ x∈l,x.length=k)→l.flatten.take (i * k)=(l.take i).flatten
  | [],_,_=>by simp
  | x::r,0,_=>by simp
  | x::r,i+1,h=>by
    have hx:=h x (by simp);rw [aNr,aPM,aNr,aQa,hx,aMU (by rw [hx,aN6];omega),show (i+1) * k - k=i * k from by rw [aN6];omega,Z7 i (fun y aH=>h y (by simp [aH]))]
structure Φ (α:Type) where
  size:Nat
  has:World→List Value→α→Prop
  own:World→Nat→List Nat→List Value→α→Prop
  raw:Nat→Value→Prop
  len:∀ {w cs a},has w cs a→cs.length=size
  one:∀ {w cs a},has w cs a→∀ u∈cs,u.oneCell'=true
  t_:∀ {w cs a},has w cs a→∀ (j:Nat) u,cs[j]? =some u→raw j u
  keep:∀ {w w' cs a},has w cs a→Below w.heap.size w w'→has w' cs a
  rF:∀ {w B f cs a},own w B f cs a→has w cs a
  rG:∀ {w w' B f cs a},own w B f cs a→(∀ g∈f,w'.heap[g]? =w.heap[g]?)→own w' B f cs a
  sG:∀ {w B f cs a},own w B f cs a→∀ g∈f,B≤g∧g<w.heap.size
  Aj:∀ {w B pL f cs a},own w B f cs a→pL≤B→own w pL f cs a
namespace Φ
variable {α β:Type} {w w':World} {B pL:Nat} {f:List Nat} {cs:List Value} {a:α}
theorem Uo (R:Φ α) (h:R.own w B f cs a):cs.length=R.size:=R.len (R.rF h)
def M_ (size:Nat) (cells:α→List Value) (ok:α→Prop) (raw:Nat→Value→Prop) (ay:∀ a,(cells a).length=size) (κ:∀ a,∀ u∈cells a,u.oneCell'=true) (hr:∀ a,ok a→∀ (j:Nat) u,(cells a)[j]? =some u→raw j u):Φ α where
  size:=size
  has:=fun _ cs a=>cs=cells a∧ok a
  own:=fun _ _ f cs a=>f= []∧cs=cells a∧ok a
  raw:=raw
  len:=by rintro w cs a ⟨rfl,_⟩;exact ay a
  one:=by rintro w cs a ⟨rfl,_⟩;exact κ a
  t_:=by rintro w cs a ⟨rfl,h⟩;exact hr a h
  keep:=fun h _=>h
  rF:=fun h=>h.2
  rG:=fun h _=>h
  sG:=by rintro w B f cs a ⟨rfl,_⟩ g aT;simp at aT
  Aj:=fun h _=>h
def flat (size:Nat) (cells:α→List Value) (ok:α→Prop) (raw:Nat→Value→Prop) (ay:∀ a,(cells a).length=size) (κ:∀ a,∀ u∈cells a,u.oneCell'=true) (hr:∀ a (j:Nat) u,(cells a)[j]? =some u→raw j u):Φ α where
  size:=size
  has:=fun _ cs a=>cs=cells a∧ok a
  own:=fun _ _ f cs a=>f= []∧cs=cells a∧ok a
  raw:=raw
  len:=by rintro w cs a ⟨rfl,_⟩;exact ay a
  one:=by rintro w cs a ⟨rfl,_⟩;exact κ a
  t_:=by rintro w cs a ⟨rfl,_⟩;exact hr a
  keep:=fun h _=>h
  rF:=fun h=>h.2
  rG:=fun h _=>h
  sG:=by rintro w B f cs a ⟨rfl,_⟩ g aT;simp at aT
  Aj:=fun h _=>h
def pair (R:Φ α) (S:Φ β):Φ (α×β) where
  size:=R.size+S.size
  has:=fun w cs p=>∃ xs ys,cs=xs++ys∧R.has w xs p.1∧S.has w ys p.2
  own:=fun w B f cs p=>∃ xs ys f1 f2,cs=xs++ys∧f=f1++f2∧R.own w B f1 xs p.1∧S.own w B f2 ys p.2
  raw:=fun j u=>if j<R.size then R.raw j u else S.raw (j - R.size) u
  len:=by rintro w cs p ⟨xs,ys,rfl,κ,τ⟩;rw [aMB,R.len κ,S.len τ]
  one:=by
    rintro w cs p ⟨xs,ys,rfl,κ,τ⟩ u hu;rcases aMQ.1 hu with hu | hu
    · exact R.one κ u hu
    · exact S.one τ u hu
  t_:=by
    rintro w cs p ⟨xs,ys,rfl,κ,τ⟩ j u hu;by_cases aw:j<R.size
    · rw [aMI aw];rw [aMZ (by rw [R.len κ];exact aw)] at hu;exact R.t_ κ j u hu
    · rw [aMA aw];rw [aM7 (by rw [R.len κ];omega),R.len κ] at hu;exact S.t_ τ _ u hu
  keep:=by rintro w w' cs p ⟨xs,ys,rfl,κ,τ⟩ af;exact ⟨xs,ys,Z,R.keep κ af,S.keep τ af⟩
  rF:=by rintro w B f cs p ⟨xs,ys,f1,f2,rfl,rfl,κ,τ⟩;exact ⟨xs,ys,Z,R.rF κ,S.rF τ⟩
  rG:=by
    rintro w w' B f cs p ⟨xs,ys,f1,f2,rfl,rfl,κ,τ⟩ aj;exact ⟨xs,ys,f1,f2,Z,Z,R.rG κ (fun g aT=>aj g (by simp [aT])),S.rG τ (fun g aT=>aj g (by simp [aT]))⟩
  sG:=by
    rintro w B f cs p ⟨xs,ys,f1,f2,rfl,rfl,κ,τ⟩ g aT;rcases aMQ.1 aT with aT | aT
    · exact R.sG κ g aT
    · exact S.sG τ g aT
  Aj:=by
    rintro w B pL f cs p ⟨xs,ys,f1,f2,rfl,rfl,κ,τ⟩ af;exact ⟨xs,ys,f1,f2,Z,Z,R.Aj κ af,S.Aj τ af⟩
def via (R:Φ α) (g:β→α):Φ β where
  size:=R.size
  has:=fun w cs b=>R.has w cs (g b)
  own:=fun w B f cs b=>R.own w B f cs (g b)
  raw:=R.raw
  len:=fun h=>R.len h
  one:=fun h=>R.one h
  t_:=fun h=>R.t_ h
  keep:=fun h af=>R.keep h af
  rF:=fun h=>R.rF h
  rG:=fun h aj=>R.rG h aj
  sG:=fun h=>R.sG h
  Aj:=fun h af=>R.Aj h af
def ab:Option Addr→List Nat
  | none=> []
  | some a=> [a.block]
theorem avt {A:Option Addr} {g:Nat}:g∈ab A↔∃ a,A=some a∧a.block=g:=by
  cases A with
  | none=>simp [ab]
  | some a=>simp [ab,eq_comm]
def aQ (R:Φ α) (by_:Nat) (w:World) (A:Option Addr) (c:Nat) (l:List α):Prop :=
  l.length≤c∧c≤9223372036854775807∧l.length * by_≤140737488355328∧(A=none→c=0)∧
  ∃ ess,dp (fun es a=>R.has w es a) ess l∧Rd w R.size A l.length ess.flatten
def aL (R:Φ α) (E:TypeId) (by_:Nat) (w:World) (B:Nat) (f:List Nat) (A:Option Addr) (c:Nat) (l:List α):Prop :=
  l.length * by_≤140737488355328∧
  ∃ ps:List (List Nat×List Value),f=ab A++(ps.map (·.1)).flatten∧f.Nodup∧Own w B E R.size R.raw (.slice A l.length c) l.length (ps.map (·.2)).flatten∧
    dp (fun x a=>R.own w B x.1 x.2 a) ps l
theorem aQ.keep {R:Φ α} {by_:Nat} {A:Option Addr} {c:Nat} {l:List α} (h:R.aQ by_ w A c l) (af:Below w.heap.size w w'):R.aQ by_ w' A c l:=by
  obtain ⟨κ,τ,aq,bb,ess,bT,cy⟩:=h;exact ⟨κ,τ,aq,bb,ess,bT.imp (fun es a _ h=>R.keep h af),cy.later af⟩
theorem aQ.drewN {R:Φ α} {by_:Nat} {A:Option Addr} {c:Nat} {l:List α} (h:R.aQ by_ w A c l) (k:Nat):R.aQ by_ (w.drewN k) A c l:=h.keep (below_drewN (aNb _ w) k)
theorem dp.Ub {β ahr α:Type} (g:β→ahr) {P:ahr→α→Prop}:∀ {l:List β} {m:List α},dp (fun b a=>P (g b) a) l m→dp P (l.map g) m
  | [], [],_=>trivial
  | _::_,_::_,h=>⟨h.1,dp.Ub g h.2⟩
  | [],_::_,h=>h.elim
  | _::_, [],h=>h.elim
theorem aL.has {R:Φ α} {E:TypeId} {by_:Nat} {A:Option Addr} {c:Nat} {l:List α} (h:R.aL E by_ w B f A c l):R.aQ by_ w A c l:=by
  obtain ⟨κ,ps,rfl,aq,bb,bT⟩:=h;obtain ⟨bR,cn,e,hle,hmx,abN,_,l'⟩:=bb.shape;injection e with aR _ a6
  subst aR;subst a6;refine ⟨hle,by unfold maxLen at hmx;omega,κ,fun hn=>by have:=l' hn;injection this,_,dp.Ub (fun x:List Nat×List Value=>x.2) (bT.imp fun x a _ h=>R.rF h),abN⟩
theorem aL.keep {R:Φ α} {E:TypeId} {by_:Nat} {A:Option Addr} {c:Nat} {l:List α} (h:R.aL E by_ w B f A c l) (aj:∀ g∈f,w'.heap[g]? =w.heap[g]?):R.aL E by_ w' B f A c l:=by
  obtain ⟨κ,ps,rfl,aq,bb,bT⟩:=h;refine ⟨κ,ps,Z,aq,bb.of_block (B:=0) fun g aT=>aj g ?_,bT.imp fun x a hx h=>R.rG h fun g aT=>aj g ?_⟩
  · cases A with
    | none=>cases aT
    | some a=>injection aT with aT;simp [ab,aT]
  · exact aMQ.2 (.inr (aNJ.2 ⟨x.1,aMT.2 ⟨x,hx,rfl⟩,aT⟩))
theorem aL.lt {R:Φ α} {E:TypeId} {by_:Nat} {A:Option Addr} {c:Nat} {l:List α} (h:R.aL E by_ w B f A c l):∀ g∈f,B≤g∧g<w.heap.size:=by
  obtain ⟨κ,ps,rfl,aq,bb,bT⟩:=h;intro g aT;rcases aMQ.1 aT with aT | aT
  · obtain ⟨a,rfl,rfl⟩:=avt.1 aT
    exact bb.row.lt _ Z
  · obtain ⟨y,aH,aT⟩:=aNJ.1 aT
    obtain ⟨x,hx,rfl⟩:=aMT.1 aH;obtain ⟨a,ha⟩:=bT.left x hx;exact R.sG ha g aT
theorem aL.later {R:Φ α} {E:TypeId} {by_:Nat} {A:Option Addr} {c:Nat} {l:List α} (h:R.aL E by_ w B f A c l) (af:Below w.heap.size w w'):R.aL E by_ w' B f A c l:=h.keep fun g aT=>af.block g (h.lt g aT).2
theorem aL.nodup {R:Φ α} {E:TypeId} {by_:Nat} {A:Option Addr} {c:Nat} {l:List α} (h:R.aL E by_ w B f A c l):f.Nodup:=by
  obtain ⟨_,ps,rfl,aq,_⟩:=h;exact aq
theorem aL.down {R:Φ α} {E:TypeId} {by_:Nat} {A:Option Addr} {c:Nat} {l:List α} (h:R.aL E by_ w B f A c l) (af:pL≤B):R.aL E by_ w pL f A c l:=by
  obtain ⟨κ,ps,rfl,aq,bb,bT⟩:=h;exact ⟨κ,ps,Z,aq,bb.mono af,bT.imp fun x a _ h=>R.Aj h af⟩
def slice (R:Φ α) (E:TypeId) (by_:Nat):Φ (List α) where
  size:=1
  has:=fun w cs l=>∃ A c,cs= [.slice A l.length c]∧R.aQ by_ w A c l
  own:=fun w B f cs l=>∃ A c,cs= [.slice A l.length c]∧R.aL E by_ w B f A c l
  raw:=fun _ u=>∃ A n c,u= .slice A n c
  len:=by rintro w cs l ⟨A,c,rfl,_⟩;rfl
  one:=by rintro w cs l ⟨A,c,rfl,_⟩ u hu;simp at hu;subst hu;rfl
  t_:=by
    rintro w cs l ⟨A,c,rfl,_⟩ j u hu;cases j with
    | zero=>simp at hu;exact ⟨_,_,_,hu.symm⟩
    | succ j=>simp at hu
  keep:=by rintro w w' cs l ⟨A,c,rfl,h⟩ af;exact ⟨A,c,Z,h.keep af⟩
  rF:=by rintro w B f cs l ⟨A,c,rfl,h⟩;exact ⟨A,c,Z,h.has⟩
  rG:=by rintro w w' B f cs l ⟨A,c,rfl,h⟩ aj;exact ⟨A,c,Z,h.keep aj⟩
  sG:=by rintro w B f cs l ⟨A,c,rfl,h⟩;exact h.lt
  Aj:=by rintro w B pL f cs l ⟨A,c,rfl,h⟩ af;exact ⟨A,c,Z,h.down af⟩
section
variable {R:Φ α} {E:TypeId} {by_:Nat} {A:Option Addr} {c:Nat} {l:List α}
theorem lens {ess:List (List Value)} (h:dp (fun es a=>R.has w es a) ess l):∀ x∈ess,x.length=R.size:=fun x hx=>by
  obtain ⟨a,ha⟩:=h.left x hx;exact R.len ha
theorem aQ.at_ (h:R.aQ by_ w A c l) (aB:0<l.length):∃ b o,A=some ⟨b,o,none⟩∧∀ (i:Nat) a,l[i]? =some a→∃ es,R.has w es a∧∀ (j:Nat) u,es[j]? =some u→w.cell? ⟨b,o+(i * R.size+j),none⟩=some u:=by
  obtain ⟨_,_,_,_,ess,bT,cy,ec⟩:=h;obtain ⟨b,o,e,hc⟩:=ec aB;refine ⟨b,o,e,fun i a ha=> ?_⟩;obtain ⟨es,ft,o'⟩:=bT.at_ ha;refine ⟨es,o',fun j u hu=>hc _ u ?_⟩;have aw:=(aMx.1 hu).1;rw [R.len o'] at aw;rw [IH (lens bT) ft aw];exact hu
theorem aQ.H6 {Q:α→Prop} (I:∀ {w cs a},R.has w cs a→Q a) (h:R.aQ by_ w A c l):∀ a∈l,Q a:=by
  obtain ⟨_,_,_,_,ess,bT,_⟩:=h;intro a ha;obtain ⟨i,ak,rfl⟩:=aNu.1 ha;obtain ⟨es,_,he⟩:=bT.at_ (aMy ak);exact I he
theorem aQ.km {A:Option Addr} {c:Nat} {l:List α} {by_:Nat} {R:Φ α} (h:R.aQ by_ w A c l):l.length≤9223372036854775807:=aMR h.1 h.2.1
theorem aQ.GR {A:Option Addr} {c:Nat} {l:List α} {by_:Nat} {R:Φ α} (h:R.aQ by_ w A c l) (k:Nat):R.aQ by_ w A c (l.take k):=by
  obtain ⟨κ,τ,aq,bb,ess,bT,cy⟩:=h;have ay:(l.take k).length≤l.length:=by rw [aME];omega
  have hm:=aNh by_ ay;have ec:=bT.GR k;refine ⟨by omega,τ,by omega,bb,ess.take k,ec,by rw [C_ (lens ec),ec.length],fun aB=> ?_⟩;obtain ⟨b,o,e,hc⟩:=cy.2 (by omega);refine ⟨b,o,e,fun j u hu=>hc j u ?_⟩;rw [← Z7 k (lens bT),aNe] at hu;split at hu
  · exact hu
  · cases hu
theorem aQ.nil (w:World):R.aQ by_ w none 0 []:=⟨aMO _,by simp,by simp,fun _=>rfl, [],trivial,Rd.zero w R.size none⟩
theorem aL.nil (w:World):R.aL E by_ w B [] none 0 []:=⟨by simp, [],rfl,aPD,Own.nil w B E R.size R.raw,trivial⟩
end
def zo (R:Φ α) (E:TypeId) (by_:Nat) (w:World) (B:Nat) (ao:List Nat) (g c:Nat) (l:List α) (i:Nat) (es:List Value):Prop :=
  l.length * by_≤140737488355328∧ 
  ∃ ps:List (List Nat×List Value),ao=g::(ps.map (·.1)).flatten∧ao.Nodup∧Own w B E R.size R.raw (.slice (some ⟨g,0,none⟩) l.length c) l.length (ps.map (·.2)).flatten∧
    ps[i]? =some ([],es)∧es.length=R.size∧ps.length=l.length∧∀ k a,k≠i→l[k]? =some a→∃ x,ps[k]? =some x∧R.own w B x.1 x.2 a
section
variable {R:Φ α} {E:TypeId} {by_:Nat} {A:Option Addr} {c:Nat} {l:List α} {g i:Nat} {es:List Value} {ao:List Nat}
theorem OD {ps:List (List Nat×List Value)} (h:dp (fun x a=>R.own w B x.1 x.2 a) ps l):∀ x∈ps.map (·.2),x.length=R.size:=fun x hx=>by
  obtain ⟨y,aH,rfl⟩:=aMT.1 hx;obtain ⟨a,ha⟩:=h.left y aH;exact R.Uo ha
theorem aL.block (h:R.aL E by_ w B f A c l) (aB:0<l.length):∃ g,A=some ⟨g,0,none⟩:=by
  obtain ⟨_,ps,_,_,bb,_⟩:=h;obtain ⟨_,bT⟩:=bb;rcases bT with ⟨_,bT⟩ | ⟨g,cap,cur,hv,_⟩
  · omega
  · injection hv with hv;exact ⟨g,hv⟩
theorem zo.lens (h:R.zo E by_ w B ao g c l i es):∃ ps:List (List Nat×List Value),ao=g::(ps.map (·.1)).flatten∧ao.Nodup∧Own w B E R.size R.raw (.slice (some ⟨g,0,none⟩) l.length c) l.length (ps.map (·.2)).flatten∧
    ps[i]? =some ([],es)∧es.length=R.size∧ps.length=l.length∧(∀ k a,k≠i→l[k]? =some a→∃ x,ps[k]? =some x∧R.own w B x.1 x.2 a)∧∀ x∈ps.map (·.2),x.length=R.size:=by
  obtain ⟨_,ps,τ,aq,bb,bT,cy,ec,ft⟩:=h;refine ⟨ps,τ,aq,bb,bT,cy,ec,ft,fun x hx=> ?_⟩;obtain ⟨k,aj,rfl⟩:=aNu.1 hx;rw [aNf] at aj;rw [aQc];by_cases k9:k=i
  · subst k9
    rw [aMy aj] at bT;rw [aMJ bT];exact cy
  · obtain ⟨y,aH,bl⟩:=ft k (l[k]'(by omega)) k9 (aMy _)
    rw [aMy aj] at aH;rw [aMJ aH];exact R.Uo bl
theorem zo.keep (h:R.zo E by_ w B ao g c l i es) (aj:∀ x∈ao,w'.heap[x]? =w.heap[x]?):R.zo E by_ w' B ao g c l i es:=by
  obtain ⟨κ,ps,τ,aq,bb,bT,cy,ec,ft⟩:=h;refine ⟨κ,ps,τ,aq,bb.of_block (B:=0) (fun x hx=>aj x ?_),bT,cy,ec,fun k a k9 ha=> ?_⟩
  · injection hx with hx;rw [τ,← hx];simp
  · obtain ⟨x,hx,bl⟩:=ft k a k9 ha
    refine ⟨x,hx,R.rG bl fun y aH=>aj y ?_⟩;rw [τ];exact aMK _ (aNJ.2 ⟨x.1,aMT.2 ⟨x,aNi hx,Z⟩,aH⟩)
theorem zo.cell (h:R.zo E by_ w B ao g c l i es) (ak:i<l.length) {j:Nat} {u:Value} (hu:es[j]? =some u):w.cell? ⟨g,i * R.size+j,none⟩=some u:=by
  obtain ⟨ps,τ,aq,bb,bT,cy,ec,ft,ay⟩:=h.lens;have aw:j<R.size:=by rw [← cy];exact (aMx.1 hu).1
  have:=bb.cell (i * R.size+j) (by
    have:(i+1) * R.size≤l.length * R.size:=aNh _ ak;rw [aN6] at this;omega)
  rw [this,IH ay (by rw [aMX,bT];rfl) aw];exact hu
theorem zo.lt (h:R.zo E by_ w B ao g c l i es):∀ x∈ao,B≤x∧x<w.heap.size:=by
  obtain ⟨κ,ps,τ,aq,bb,bT,cy,ec,ft⟩:=h;intro x hx;rw [τ] at hx;rcases aMN.1 hx with rfl | hx
  · exact bb.row.lt _ rfl
  · obtain ⟨y,aH,aT⟩:=aNJ.1 hx
    obtain ⟨z,bo,rfl⟩:=aMT.1 aH;obtain ⟨k,aj,rfl⟩:=aNu.1 bo;by_cases k9:k=i
    · subst k9
      rw [aMy aj] at bT;rw [aMJ bT] at aT;simp at aT
    · obtain ⟨y,aH,bl⟩:=ft k (l[k]'(by omega)) k9 (aMy _)
      rw [aMy aj] at aH;rw [aMJ aH] at aT;exact R.sG bl x aT
theorem aL.free (h:R.aL E by_ w B f (some ⟨g,0,none⟩) c l) (j:Nat):w.frozen? ⟨g,j,none⟩=false:=by
  obtain ⟨_,ps,rfl,_,bb,_⟩:=h;exact bb.free j
end

section
variable {P:Program} {R:Φ α} {by_:Nat}
theorem OH (A:Option Addr) (n c:Nat):(Value.slice A n c).ownBlock.toList=ab A:=by cases A<;>rfl
theorem ayh (ty:TypeId) (base:Nat) (t e:TypeId) (i:TypeInfo) (z:Value) (aC:P.underlying t=some (.slice e)) (ak:P.info? e=some i) (bo:i.zero=some z)
    (v_:i.size=R.size) (oy:i.bytes=by_) (rj:z.cells.size=R.size) (hE:0<R.size) (we:∀ (j:Nat) u,z.cells[j]? =some u→R.raw j u)
    (f:List Nat) (A:Option Addr) (c:Nat) (l:List α) (h:R.aL e by_ w base f A c l)
    (cz:Option Addr) (m bP:Nat) (k:List α) (j9:List (List Nat×List Value)) (I:dp (fun x a=>R.own w base x.1 x.2 a) j9 k) (hm:k.length=m) (hr:Rd w R.size cz m (j9.map (·.2)).flatten)
    (hY:(f++(j9.map (·.1)).flatten).Nodup) (p5:l.length+m≤9223372036854775807) (p8:(l.length+m) * by_≤140737488355328) (ow:base≤w.heap.size):
    ∃ bR cn f' w',(Builtin.append_ #[t,t] ty #[.slice A l.length c, .slice cz m bP]).run P w= .ok (.slice bR (l.length+m) cn) w'∧R.aL e by_ w' base f' bR cn (l++k)∧w.grownBy w' (Value.slice A l.length c).ownBlock∧(bR=A∨∃ a,bR=some a∧a.block=w.heap.size)∧(∀ x∈f',x∈f∨x∈(j9.map (·.1)).flatten∨x=w.heap.size)∧(bR=none↔A=none∧m=0)∧base≤w'.heap.size:=by
  obtain ⟨κ,ps,rfl,aq,bb,bT⟩:=h;have Ju:∀ (j:Nat) u,(j9.map (·.2)).flatten[j]? =some u→R.raw (j % R.size) u:=by
    intro j u hu;have ay:=OD I;have bB:=(aMx.1 hu).1;rw [C_ ay,aNf] at bB;have aw:j % R.size<R.size:=aQo _ hE;have hd:j / R.size<j9.length:=by rw [aQJ hE];exact bB
    have aGz:j9[j / R.size]? =some (j9[j / R.size]'hd):=aMy hd;have arF:k[j / R.size]? =some (k[j / R.size]'(by rw [← I.length];exact hd)):=aMy _;obtain ⟨x,hx,bl⟩:=I.at_ arF;have:=IH (j:=j % R.size) ay (i:=j / R.size) (es:=x.2) (by rw [aMX,hx];rfl) aw;rw [show j / R.size * R.size+j % R.size=j from by rw [aOm];exact Nat.div_add_mod j R.size,hu] at this;exact R.t_ (R.rF bl) _ u this.symm
  have tI:∀ u∈(j9.map (·.2)).flatten,u.oneCell'=true:=by
    intro u hu;obtain ⟨y,aH,hu⟩:=aNJ.1 hu;obtain ⟨x,hx,rfl⟩:=aMT.1 aH;obtain ⟨a,ha⟩:=I.left x hx;exact R.one (R.rF ha) u hu
  obtain ⟨v',w',kC,js,p',vX,gg⟩:=afD (P:=P) w base t ty e i z R.size by_ aC ak bo v_ oy rj hE R.raw we _ _ _ bb cz m bP _ hr tI Ju (by unfold maxLen;omega) p8 ow;obtain ⟨bR,cn,rfl,hle,hmx,abN,Dk,l'⟩:=js.shape;have arR:∀ x,(Value.slice A l.length c).ownBlock=some x→x∈ab A:=fun x hx=>by rw [← OH A l.length c,hx];simp
  have hA:∀ x∈ab bR,x∈ab A∨x=w.heap.size:=by
    intro x hx;rw [← OH bR (l.length+m) cn] at hx;rcases gg with gg | gg
    · rw [gg,OH] at hx;exact .inl hx
    · rw [gg] at hx;simp at hx;exact .inr hx
  have asn:∀ x∈ps,∀ y∈x.1,y<w.heap.size∧y∉ab A:=by
    intro x hx y aH;obtain ⟨a,ha⟩:=bT.left x hx;refine ⟨(R.sG ha y aH).2,fun af=> ?_⟩;rw [aNk] at aq;exact aq.2.2 y af y (aNJ.2 ⟨x.1,aMT.2 ⟨x,hx,Z⟩,aH⟩) Z
  have asp:∀ x∈j9,∀ y∈x.1,y<w.heap.size∧y∉ab A:=by
    intro x hx y aH;obtain ⟨a,ha⟩:=I.left x hx;refine ⟨(R.sG ha y aH).2,fun af=> ?_⟩;rw [aNk] at hY;exact hY.2.2 y (aPE _ af) y (aNJ.2 ⟨x.1,aMT.2 ⟨x,hx,Z⟩,aH⟩) Z
  have aqR:∀ y,y<w.heap.size→y∉ab A→w'.heap[y]? =w.heap[y]? :=fun y aH hn=>p'.block y aH fun e=>hn (arR y e.symm);have Tl:∀ x∈ps++j9,∀ y∈x.1,y<w.heap.size∧y∉ab A:=fun x hx=>by
    rcases aMQ.1 hx with hx | hx
    · exact asn x hx
    · exact asp x hx
  refine ⟨bR,cn,ab bR++((ps++j9).map (·.1)).flatten,w',kC,⟨by rw [aMB,hm];exact p8,ps++j9,rfl, ?_, ?_, ?_⟩,p', ?_, ?_, ?_,aMR ow p'.size⟩
  · rw [aM6,← aO2,← aM0,aNk] at hY
    rw [aNk];refine ⟨by cases bR<;>simp [ab],hY.2.1,fun x hx y aH e=> ?_⟩;subst e;obtain ⟨z,bo,aH⟩:=aNJ.1 aH;obtain ⟨v,hv,rfl⟩:=aMT.1 bo;have cy:=Tl v hv x aH;rcases hA x hx with ec | ec
    · exact cy.2 ec
    · omega
  · rw [aM0,aO2,aMB,hm];exact js
  · exact (bT.app I).imp fun x a hx bl=>R.rG bl fun y aH=>aqR y (Tl x hx y aH).1 (Tl x hx y aH).2
  · rcases gg with gg | gg
    · cases bR with
      | none =>
        cases A with
        | none=>exact .inl rfl
        | some a=>cases gg
      | some a' =>
        cases A with
        | none=>cases gg
        | some a =>
          obtain ⟨_,cy⟩:=bb;obtain ⟨_,ec⟩:=js;rcases cy with ⟨cy,_⟩ | ⟨g,cap,cur,cy,_⟩
          · cases cy
          rcases ec with ⟨ec,_⟩ | ⟨g',aE3,A_,ec,_⟩
          · cases ec
          injection cy with cy
          injection ec with ec
          rw [cy,ec] at gg ⊢;injection gg with gg
          have gg:g'=g:=gg
          left;rw [gg]
    · cases bR with
      | none=>cases gg
      | some a'=>injection gg with gg;exact .inr ⟨a',Z,gg⟩
  · intro x hx
    rcases aMQ.1 hx with hx | hx
    · rcases hA x hx with h | h
      · exact .inl (aPE _ h)
      · exact .inr (.inr h)
    · rw [aM0,aO2] at hx
      rcases aMQ.1 hx with hx | hx
      · exact .inl (aPt _ hx)
      · exact .inr (.inl hx)
  · have Db:A=none→Value.slice A l.length c= .slice none 0 0:=fun e=>by
      obtain ⟨_,_,iV,_,_,_,_,arV⟩:=bb.shape;injection iV with aR _ a6
      subst aR;subst a6;exact arV e
    constructor
    · intro e
      obtain ⟨cy,ec⟩:=vX.1 (l' e);injection cy with cy
      exact ⟨cy,ec⟩
    · rintro ⟨e,aB⟩
      have:=vX.2 ⟨Db e,aB⟩;injection this
theorem aAW {o:Oper} {a:Act} {K:Act→World→Prop} {Q:Exit→Act→World→Prop} (s x:Operand) (base:Nat) (t e:TypeId) (i:TypeInfo) (z:Value) (aC:P.underlying t=some (.slice e)) (ak:P.info? e=some i) (bo:i.zero=some z)
    (v_:i.size=R.size) (oy:i.bytes=by_) (rj:z.cells.size=R.size) (hE:0<R.size) (we:∀ (j:Nat) u,z.cells[j]? =some u→R.raw j u)
    (f:List Nat) (A:Option Addr) (c:Nat) (l:List α) (h:R.aL e by_ w base f A c l)
    (cz:Option Addr) (m bP:Nat) (k:List α) (j9:List (List Nat×List Value)) (I:dp (fun x a=>R.own w base x.1 x.2 a) j9 k) (hm:k.length=m) (hr:Rd w R.size cz m (j9.map (·.2)).flatten)
    (hY:(f++(j9.map (·.1)).flatten).Nodup) (p5:l.length+m≤9223372036854775807) (p8:(l.length+m) * by_≤140737488355328) (ow:base≤w.heap.size)
    (bl:o.op= .call {callee:= .builtin .append,args:=#[s,x],argTypes:=#[t,t]}) (hs:a.eval s= .slice A l.length c) (hx:a.eval x= .slice cz m bP)
    (hK:∀ bR cn f' w',R.aL e by_ w' base f' bR cn (l++k)∧w.grownBy w' (Value.slice A l.length c).ownBlock∧(bR=A∨∃ a,bR=some a∧a.block=w.heap.size)∧(∀ x∈f',x∈f∨x∈(j9.map (·.1)).flatten∨x=w.heap.size)∧(bR=none↔A=none∧m=0)∧base≤w'.heap.size→K (a.put o.dst (.slice bR (l.length+m) cn)) w'):o.wp P a w K Q:=by
  obtain ⟨bR,cn,f',w',kC,τ⟩:=ayh (P:=P) (w:=w) o.type base t e i z aC ak bo v_ oy rj hE we f A c l h cz m bP k j9 I hm hr hY p5 p8 ow;unfold Oper.wp execOp;simp only [bl,resolve,invoke,builtin,aML,aMP,aMG,aQb,aNc,aNP,hs,hx,kC];exact hK bR cn f' w' τ
theorem aAS {ops:Array Oper} {rest:List Oper} {o:Oper} {a:Act} {Q:Exit→Act→World→Prop} (Ti:o.guard=none) (s x:Operand) (base:Nat) (t e:TypeId) (i:TypeInfo) (z:Value) (aC:P.underlying t=some (.slice e)) (ak:P.info? e=some i) (bo:i.zero=some z)
    (v_:i.size=R.size) (oy:i.bytes=by_) (rj:z.cells.size=R.size) (hE:0<R.size) (we:∀ (j:Nat) u,z.cells[j]? =some u→R.raw j u)
    (f:List Nat) (A:Option Addr) (c:Nat) (l:List α) (h:R.aL e by_ w base f A c l)
    (cz:Option Addr) (m bP:Nat) (k:List α) (j9:List (List Nat×List Value)) (I:dp (fun x a=>R.own w base x.1 x.2 a) j9 k) (hm:k.length=m) (hr:Rd w R.size cz m (j9.map (·.2)).flatten)
    (hY:(f++(j9.map (·.1)).flatten).Nodup) (p5:l.length+m≤9223372036854775807) (p8:(l.length+m) * by_≤140737488355328) (ow:base≤w.heap.size)
    (bl:o.op= .call {callee:= .builtin .append,args:=#[s,x],argTypes:=#[t,t]}) (hs:a.eval s= .slice A l.length c) (hx:a.eval x= .slice cz m bP)
    (hK:∀ bR cn f' w',R.aL e by_ w' base f' bR cn (l++k)∧w.grownBy w' (Value.slice A l.length c).ownBlock∧(bR=A∨∃ a,bR=some a∧a.block=w.heap.size)∧(∀ x∈f',x∈f∨x∈(j9.map (·.1)).flatten∨x=w.heap.size)∧(bR=none↔A=none∧m=0)∧base≤w'.heap.size→wpList P ops Q rest (a.put o.dst (.slice bR (l.length+m) cn)) w'):wpList P ops Q (o::rest) a w :=
  wpList_plain Ti fun _ aqb=>aAW s x base t e i z aC ak bo v_ oy rj hE we f A c l h cz m bP k j9 I hm hr hY p5 p8 ow bl hs hx fun bR cn f' w' τ=>aqb _ _ (hK bR cn f' w' τ)
def Plain (R:Φ α):Prop:=∀ {w B cs a},R.has w cs a→R.own w B [] cs a
theorem q9 {size:Nat} {cells:α→List Value} {ok:α→Prop} {raw:Nat→Value→Prop} {ay κ hr}:(flat size cells ok raw ay κ hr).Plain:=fun h=>⟨rfl,h⟩
theorem Z3 {size:Nat} {cells:α→List Value} {ok:α→Prop} {raw:Nat→Value→Prop} {ay κ hr}:(M_ size cells ok raw ay κ hr).Plain:=fun h=>⟨rfl,h⟩
theorem dp.plain {ess:List (List Value)} {l:List α} (hp:R.Plain) (h:dp (fun es a=>R.has w es a) ess l):dp (fun x a=>R.own w B x.1 x.2 a) (ess.map fun es=>(([]:List Nat),es)) l :=
  dp.Ub (P:=fun (x:List Nat×List Value) a=>R.own w B x.1 x.2 a) (fun es=>(([]:List Nat),es)) (h.imp fun _ _ _ h=>hp h)
theorem ae1 (ess:List (List Value)):((ess.map fun es=>(([]:List Nat),es)).map (·.1)).flatten= []∧(ess.map fun es=>(([]:List Nat),es)).map (·.2)=ess:=by
  constructor
  · induction ess with
    | nil=>rfl
    | cons x r bu=>simp
  · rw [aO4]
    exact List.map_id' ess
theorem aL.GB {E:TypeId} {A:Option Addr} {c:Nat} {l:List α} (hp:R.Plain) {ess:List (List Value)} (h:dp (fun es a=>R.has w es a) ess l) (af:l.length * by_≤140737488355328) (bl:Own w B E R.size R.raw (.slice A l.length c) l.length ess.flatten):R.aL E by_ w B (ab A) A c l:=by
  obtain ⟨aR,a6⟩:=ae1 ess;exact ⟨af,_,by rw [aR,aM4],by cases A<;>simp [ab],by rw [a6];exact bl,dp.plain hp h⟩
theorem aL.apx {E:TypeId} {A:Option Addr} {c:Nat} {l:List α} (hp:∀ {w B f cs a},R.own w B f cs a→f= []) (h:R.aL E by_ w B f A c l):f=ab A:=by
  obtain ⟨_,ps,rfl,_,_,bT⟩:=h;have:(ps.map (·.1)).flatten= []:=by
    rw [aQE];intro x hx;obtain ⟨y,aH,rfl⟩:=aMT.1 hx;obtain ⟨a,ha⟩:=bT.left y aH;exact hp ha
  rw [this,aM4]
end
end Φ

theorem Na {α:Type} {R:Φ α} {w:World} {ess:List (List Value)} {l:List α} (h:dp (fun es a=>R.has w es a) ess l) (aB:0<R.size) {j:Nat} {u:Value} (hu:ess.flatten[j]? =some u):R.raw (j % R.size) u:=by
  have ay:=Φ.lens h;have bB:=(aMx.1 hu).1;rw [C_ ay] at bB;have aw:j % R.size<R.size:=aQo _ aB;have hd:j / R.size<ess.length:=by rw [aQJ aB];exact bB
  have asv:j / R.size * R.size+j % R.size=j:=by rw [aOm];exact Nat.div_add_mod j R.size
  have cy:=IH (j:=j % R.size) ay (i:=j / R.size) (es:=ess[j / R.size]'hd) (aMy hd) aw;rw [asv,hu] at cy;obtain ⟨a,ha⟩:=h.left _ (aNK hd);exact R.t_ ha _ u cy.symm
namespace Φ
variable {α:Type} {w w':World} {B:Nat} {f:List Nat} {R:Φ α} {E:TypeId} {A:Option Addr} {by_ g c:Nat} {l:List α}
def uW (R:Φ α):Prop:=R.Plain∧∀ {w B f cs a},R.own w B f cs a→f= []
theorem cZ {size:Nat} {cells:α→List Value} {ok:α→Prop} {raw:Nat→Value→Prop} {ay κ hr}:(flat size cells ok raw ay κ hr).uW:=⟨q9,fun h=>h.1⟩
theorem apm {size:Nat} {cells:α→List Value} {ok:α→Prop} {raw:Nat→Value→Prop} {ay κ hr}:(M_ size cells ok raw ay κ hr).uW:=⟨Z3,fun h=>h.1⟩
theorem aL.ayQ (h:R.aL E by_ w B f (some ⟨g,0,none⟩) c l) (hp:R.uW) {i j:Nat} {a a':α} {u:Value} (ak:l[i]? =some a) (aw:j<R.size) (hu:∀ cs,R.has w cs a→R.has (w.setCell ⟨g,i * R.size+j,none⟩ u) (cs.set j u) a'):
    R.aL E by_ (w.setCell ⟨g,i * R.size+j,none⟩ u) B f (some ⟨g,0,none⟩) c (l.set i a'):=by
  obtain ⟨af,ps,rfl,hn,bl,ej⟩:=h;obtain ⟨x,hx,JD⟩:=ej.at_ ak;have ay:=OD ej;have BH:x.1= []:=hp.2 JD;have Gl:x.2.length=R.size:=R.Uo JD;have abA:=hu x.2 (R.rF JD);have yn:R.raw j u:=R.t_ abA j u (by rw [aNg (by omega)]);have o':=bl.stored (i * R.size+j) u (by rw [aOm,aPr,aP9 aw];exact yn);rw [Z5 u ay (i:=i) (es:=x.2) (by rw [aMX,hx];rfl) aw] at o';have bB:=(aMx.1 hx).1;have aR:(ps.set i (x.1,x.2.set j u)).map (·.1)=ps.map (·.1):=by
    rw [aOq];have:(ps.map (·.1))[i]? =some x.1:=by rw [aMX,hx];rfl
    obtain ⟨τ,aq⟩:=aMx.1 this
    conv=>lhs;rw [← aq]
    exact aOt _
  have a6:(ps.set i (x.1,x.2.set j u)).map (·.2)=(ps.map (·.2)).set i (x.2.set j u):=by rw [aOq]
  have S9:∀ y∈ps,∀ q∈y.1,q≠g:=fun y aH q I e=>by
    obtain ⟨b,Dh⟩:=ej.left y aH;rw [hp.2 Dh] at I;simp at I
  have SX:dp (fun x a=>R.own (w.setCell ⟨g,i * R.size+j,none⟩ u) B x.1 x.2 a) ps l:=ej.imp fun y a aH N2=>R.rG N2 fun q I=>aP8 _ _ _ _ (S9 y aH q I);refine ⟨by rw [aMM];exact af,ps.set i (x.1,x.2.set j u),by rw [aR],hn,by rw [aMM,a6];exact o', ?_⟩;exact SX.UR (P:=fun (x:List Nat×List Value) a=>R.own (w.setCell ⟨g,i * R.size+j,none⟩ u) B x.1 x.2 a) (by rw [BH];exact hp.1 abA)
theorem aL.other (h:R.aL E by_ w B f A c l) {p:Addr} (hp:p.block∉f) (u:Value):R.aL E by_ (w.setCell p u) B f A c l :=
  h.keep fun g aT=>aP8 _ _ _ _ fun e=>hp (e ▸ aT)
theorem aL.drewN (h:R.aL E by_ w B f A c l) (k:Nat):R.aL E by_ (w.drewN k) B f A c l:=h.keep fun _ _=>rfl
theorem aL.drew (h:R.aL E by_ w B f A c l):R.aL E by_ w.drew B f A c l:=h.keep fun _ _=>rfl
end Φ
def cJ (n lo ak:Int):Bool:=decide (lo≤n) && decide (n≤ak)
theorem jt {n lo ak:Int} (h:cJ n lo ak=true):lo≤n∧n≤ak:=by simpa [cJ] using h
theorem as8 {n lo ak:Int} (h:cJ n lo ak=false):n<lo∨ak<n:=by
  simp [cJ] at h;omega
theorem ma {n lo ak:Int} (κ:lo≤n) (τ:n≤ak):cJ n lo ak=true:=by simp [cJ,κ,τ]
theorem oB {n lo ak:Int} (h:n<lo∨ak<n):cJ n lo ak=false:=by
  cases af:cJ n lo ak with
  | false=>rfl
  | true=>have:=jt af;omega
def hb {α:Type} (p:α→Bool) (l:List α):Int:=match l.findIdx? p with | some k=>(k:Int) | none=> -1
theorem JF {α:Type} {p:α→Bool} {l:List α} {k:Nat} (aj:k<l.length) (κ:p l[k]=true) (τ:∀ j (aw:j<k),p (l[j]'(by omega))=false):hb p l=(k:Int):=by
  unfold hb;have:l.findIdx? p=some k:=by
    rw [aOK];exact ⟨aj,κ,fun j aw=>by rw [τ j aw];simp⟩
  rw [this]
theorem Gm {α:Type} {p:α→Bool} {l:List α} (τ:∀ j (aw:j<l.length),p l[j]=false):hb p l= -1:=by
  unfold hb;have:l.findIdx? p=none:=by
    rw [aPc];intro x hx;obtain ⟨j,aw,rfl⟩:=aNu.1 hx;exact τ j aw
  rw [this]
theorem TL {α:Type} (p:α→Bool) (l:List α):decide (0≤hb p l)=l.any p:=by
  by_cases h:∀ j (aw:j<l.length),p l[j]=false
  · rw [Gm h]
    have:l.any p=false:=by
      rw [aRa];intro x hx;obtain ⟨j,aw,rfl⟩:=aNu.1 hx;rw [h j aw];simp
    rw [this];rfl
  · have:l.any p=true:=by
      rw [aNL];simp only [Classical.not_forall] at h;obtain ⟨j,aw,h⟩:=h;exact ⟨l[j],aNK aw,by simpa using h⟩
    rw [this];unfold hb;cases hf:l.findIdx? p with
    | none =>
      rw [aPc] at hf;rw [aNL] at this;obtain ⟨x,hx,hp⟩:=this;rw [hf x hx] at hp;cases hp
    | some k=>simp
theorem asZ {α:Type} (p:α→Bool) (l:List α):hb p l= -1∧(∀ x∈l,p x=false)∨∃ (k:Nat) (h:k<l.length),hb p l=(k:Int)∧p l[k]=true∧∀ j (aw:j<k),p (l[j]'(by omega))=false:=by
  unfold hb;cases hf:l.findIdx? p with
  | none=>exact .inl ⟨rfl,fun x hx=>aPc.1 hf x hx⟩
  | some k =>
    obtain ⟨κ,τ,aq⟩:=aOK.1 hf;exact .inr ⟨k,κ,Z,τ,fun j aw=>by have:=aq j aw;simpa using this⟩
open Go.RowKit Go.Maps

def ic (w:World) (b:Nat) (es:Array MapEntry) (clock:Nat):World:=Go.ChangeMaps.setBlock w b (.map es clock)
theorem B3 {w:World} {b:Nat} {es:Array MapEntry} {clock:Nat} (h:b<w.heap.size):(ic w b es clock).heap[b]? =some (.map es clock):=by
  simp [ic,Go.ChangeMaps.setBlock,h]
theorem Ko {w:World} {b g:Nat} {es:Array MapEntry} {clock:Nat} (h:g≠b):(ic w b es clock).heap[g]? =w.heap[g]? :=by
  simp [ic,Go.ChangeMaps.setBlock,aNY (aOV h)]
theorem afR {w:World} {b:Nat} {es:Array MapEntry} {clock:Nat}:(ic w b es clock).heap.size=w.heap.size:=by
  simp [ic,Go.ChangeMaps.setBlock]
theorem ayO {B:Nat} {a w:World} {b:Nat} {es:Array MapEntry} {clock:Nat} (h:Below B a w) (af:B≤b):Below B a (ic w b es clock):=
  h.trans ⟨rfl,rfl,rfl,by simp [afR],fun k aj=>Ko (by omega)⟩
def dx {eL:Type} (key:eL→Value) (e:eL×Int×Nat):MapEntry:=⟨key e.1, .int .i64 e.2.1,e.2.2⟩
structure dv {eL:Type} (key:eL→Value) (w:World) (b:Nat) (l:List (eL×Int×Nat)) (clock:Nat):Prop where
  eh:w.heap[b]? =some (.map (l.map (dx key)).toArray clock)
  born:∀ e∈l,e.2.2<clock
  stamps:(l.map (·.2.2)).Nodup
structure Qu {eL:Type} (P:Program) (k:TypeId) (key:eL→Value) (wf:eL→Prop):Prop where
  keyed:Keyed P k
  lit:∀ x,wf x→∃ l,keyOf P k (key x)=some l
  inj:∀ x y,key x=key y→x=y
namespace dv
section
variable {eL:Type} {key:eL→Value} {w:World} {b:Nat} {l:List (eL×Int×Nat)} {clock:Nat}
theorem lt (h:dv key w b l clock):b<w.heap.size:=(aM1.1 h.eh).1
theorem keep {w':World} (h:dv key w b l clock) (aj:w'.heap[b]? =w.heap[b]?):dv key w' b l clock:=⟨aj.trans h.eh,h.born,h.stamps⟩
theorem later {w':World} (h:dv key w b l clock) (af:Below w.heap.size w w'):dv key w' b l clock:=h.keep (af.block b h.lt)
theorem made (w:World):dv key (w.alloc (.map #[] 0)) w.heap.size [] 0:=⟨aPP w _,(by simp),(by simp)⟩
theorem atz {P:Program} {k:TypeId} {wf:eL→Prop} (K:Qu P k key wf) (hw:∀ e∈l,wf e.1):∀ y∈l.map (dx key),∃ z,keyOf P k y.key=some z:=by
  intro y aH;obtain ⟨a,ha,rfl⟩:=aMT.1 aH;exact K.lit a.1 (hw a ha)
end
variable {eL:Type} [DecidableEq eL] {key:eL→Value} {w:World} {b:Nat} {l:List (eL×Int×Nat)} {clock:Nat}
def get (l:List (eL×Int×Nat)) (x:eL):Option Int:=(l.find? fun e=>decide (e.1=x)).map (·.2.1)
def put (l:List (eL×Int×Nat)) (clock:Nat) (x:eL) (v:Int):List (eL×Int×Nat):=
  if l.any (fun e=>decide (e.1=x)) then l.map (fun e=>if e.1=x then (e.1,v,e.2.2) else e) else l++ [(x,v,clock)]
def tick (l:List (eL×Int×Nat)) (clock:Nat) (x:eL):Nat:=if l.any (fun e=>decide (e.1=x)) then clock else clock+1
theorem FK (l:List (eL×Int×Nat)) (c:Nat) (x y:eL) (v:Int):get (put l c x v) y=if y=x then some v else get l y:=by
  unfold get put;by_cases h:l.any (fun e=>decide (e.1=x))=true
  · rw [aMI h]
    induction l with
    | nil=>simp at h
    | cons e r bu =>
      rw [aNc];by_cases hex:e.1=x
      · rw [aMI hex]
        by_cases aH:y=x
        · subst aH
          rw [aPo (by simp [hex])];simp
        · rw [aMA aH,aOr (by simp [hex,aOV aH]),aOr (by simp [hex,aOV aH])]
          by_cases hr:r.any (fun e=>decide (e.1=x))=true
          · have:=bu hr
            rw [aMA aH] at this;exact this
          · have e0:r.map (fun e=>if e.1=x then (e.1,v,e.2.2) else e)=r:=by
              conv=>rhs;rw [← List.map_id r]
              refine aPN fun a ha=> ?_;rw [aMA];rfl;intro he;exact hr (aNL.2 ⟨a,ha,by simp [he]⟩)
            rw [e0]
      · rw [aMA hex]
        have hr:r.any (fun e=>decide (e.1=x))=true:=by simpa [hex] using h
        by_cases Ji:e.1=y
        · have asR:¬ y=x:=fun h=>hex (Ji.trans h)
          rw [aPo (by simp [Ji]),aPo (by simp [Ji]),aMA asR]
        · rw [aOr (by simp [Ji]),aOr (by simp [Ji])]
          exact bu hr
  · rw [aMA h,List.find?_append]
    by_cases aH:y=x
    · subst aH
      have:l.find? (fun e=>decide (e.1=y))=none:=by
        rw [aNQ];intro e he hd;exact h (aNL.2 ⟨e,he,hd⟩)
      rw [this];simp
    · rw [aMA aH]
      cases l.find? (fun e=>decide (e.1=y))<;>simp [aOV aH]
theorem Uc {l:List (eL×Int×Nat)} {c:Nat} {x:eL} {v:Int} {wf:eL→Prop} (ay:∀ e∈l,wf e.1) (hx:wf x):∀ e∈put l c x v,wf e.1:=by
  intro e he;unfold put at he;split at he
  · obtain ⟨a,ha,rfl⟩:=aMT.1 he
    split
    · exact ay a ha
    · exact ay a ha
  · rcases aMQ.1 he with he | he
    · exact ay e he
    · simp at he;subst he;exact hx
theorem jm {l:List (eL×Int×Nat)} (hn:(l.map (·.1)).Nodup) {j n:Nat} {x:eL} {v:Int} (aw:l[j]? =some (x,v,n)):get l x=some v:=by
  unfold get;induction l generalizing j with
  | nil=>simp at aw
  | cons e r bu =>
    rw [aNc,aOF] at hn;cases j with
    | zero=>simp at aw;subst aw;simp
    | succ j =>
      have aw:r[j]? =some (x,v,n):=by simpa using aw
      have:e.1≠x:=fun he=>hn.1 (aMT.2 ⟨(x,v,n),aNi aw,he.symm⟩);rw [aOr (by simpa using this)];exact bu hn.2 aw
theorem Gq {l:List (eL×Int×Nat)} (hn:(l.map (·.1)).Nodup) (c:Nat) (x:eL) (v:Int):((put l c x v).map (·.1)).Nodup:=by
  unfold put;split
  · rw [aO4]
    have:((fun e:eL×Int×Nat=>e.1) ∘ fun e=>if e.1=x then (e.1,v,e.2.2) else e)=fun e=>e.1:=by
      funext e;simp only [Function.comp];split<;>rfl
    rw [this];exact hn
  · rename_i h
    rw [aM0,aNk];refine ⟨hn,by simp,fun a ha c hc e=> ?_⟩;simp at hc;obtain ⟨y,aH,rfl⟩:=aMT.1 ha;exact h (aNL.2 ⟨y,aH,by simp [e,hc]⟩)
variable {P:Program} {k e t:TypeId} {wf:eL→Prop} (K:Qu P k key wf)
include K
theorem found (h:dv key w b l clock) (hw:∀ e∈l,wf e.1) (x:eL) (hx:wf x):
    ((Instr.findKey k (key x) (l.map (dx key))).run P w= .ok none w∧get l x=none∧∀ a∈l,a.1≠x)∨
    ∃ (j:Nat) (v:Int) (n:Nat),(Instr.findKey k (key x) (l.map (dx key))).run P w= .ok (some (j, .int .i64 v)) w∧l[j]? =some (x,v,n):=by
  obtain ⟨wm,rh⟩:=K.lit x hx;rcases K.keyed.find w rh (l.map (dx key)) (atz K hw) with ⟨κ,τ⟩ | ⟨j,e0,κ,τ,aq⟩
  · have jr:∀ a∈l,a.1≠x:=fun a ha zX=>τ (dx key a) (aMT.2 ⟨a,ha,rfl⟩) (by simp [dx,zX])
    refine .inl ⟨κ, ?_,jr⟩;unfold get;rw [aNQ.2 fun a ha=>by simpa using jr a ha];rfl
  · rw [aMX] at τ
    cases aw:l[j]? with
    | none=>rw [aw] at τ;cases τ
    | some a =>
      rw [aw] at τ;obtain rfl:=aMJ τ;obtain rfl:a.1=x:=K.inj _ _ aq;exact .inr ⟨j,a.2.1,a.2.2,κ,aw⟩
theorem lookup (aC:P.underlying t=some (.map k e)) (bo:(zeroValue e).run P w= .ok (.int .i64 0) w) (h:dv key w b l clock) (hw:∀ e∈l,wf e.1) (hn:(l.map (·.1)).Nodup) (x:eL) (hx:wf x):
    (Instr.lookup t (.map (some b)) (key x) false).run P w= .ok (.int .i64 ((get l x).getD 0)) w∧
    (Instr.lookup t (.map (some b)) (key x) true).run P w= .ok (.tuple #[.int .i64 ((get l x).getD 0), .bool (get l x).isSome]) w:=by
  obtain ⟨wm,rh⟩:=K.lit x hx;rcases found K h hw x hx with ⟨κ,τ,_⟩ | ⟨j,v,n,κ,τ⟩
  · rw [τ]
    constructor<;>simp [Instr.lookup,aNH aC,aNp h.eh,K.keyed.check w _ rh,κ,bo,Result.andThen]
  · rw [jm hn τ]
    constructor<;>simp [Instr.lookup,aNH aC,aNp h.eh,K.keyed.check w _ rh,κ,Result.andThen]
theorem entry (aC:P.underlying t=some (.map k e)) (bo:∀ u:World,(zeroValue e).run P u= .ok (.int .i64 0) u) (h:dv key w b l clock) (hw:∀ e∈l,wf e.1) (hn:(l.map (·.1)).Nodup) (x:eL) (hx:wf x):
    ∃ (st:Nat) (dO:List (eL×Int×Nat)) (bd:Nat),(∀ n,(Instr.mapEntry t (.map (some b)) (key x)).run P (w.drewN n)= .ok (.tuple #[.int .i64 ((get l x).getD 0), .int .i64 (st:Int)]) ((ic w b (dO.map (dx key)).toArray bd).drewN n))∧
      dv key (ic w b (dO.map (dx key)).toArray bd) b dO bd∧(∀ e∈dO,wf e.1)∧(dO.map (·.1)).Nodup∧get dO x=some ((get l x).getD 0)∧
      ∀ v n,(Instr.entryStore t (.map (some b)) (.int .i64 (st:Int)) (.int .i64 v)).run P ((ic w b (dO.map (dx key)).toArray bd).drewN n)= .ok () ((ic w b ((put l clock x v).map (dx key)).toArray (tick l clock x)).drewN n)∧
        dv key (ic w b ((put l clock x v).map (dx key)).toArray (tick l clock x)) b (put l clock x v) (tick l clock x):=by
  obtain ⟨wm,rh⟩:=K.lit x hx;have af:=h.eh;have bB:=h.lt;have Dl:∀ n,(w.drewN n).heap[b]? =some (.map (l.map (dx key)).toArray clock):=fun n=>af;have idxOf:∀ (m:List (eL×Int×Nat)) (j:Nat) (a:eL×Int×Nat),(m.map (·.2.2)).Nodup→m[j]? =some a→((m.map (dx key)).toArray).findIdx? (fun y=>((y.born:Nat):Int)== ((a.2.2:Nat):Int))=some j:=by
    intro m j a hm aw;rw [aQB];refine aQw (l:=m.map (dx key)) (j:=j) (e0:=dx key a) ?_ (by rw [aMX,aw];rfl);rw [aO4];exact hm
  rcases found K h hw x hx with ⟨κ,τ,aq⟩ | ⟨j,v0,n0,κ,τ⟩
  · have ou:l.any (fun e=>decide (e.1=x))=false:=by
      rw [aRb];intro ha;obtain ⟨a,ha,hd⟩:=aNL.1 ha;exact aq a ha (by simpa using hd)
    have BF:∀ v,put l clock x v=l++ [(x,v,clock)]:=fun v=>by unfold put;rw [aMA (by rw [ou];decide)]
    have TC:tick l clock x=clock+1:=by unfold tick;rw [aMA (by rw [ou];decide)]
    have iZ:∀ v,dv key (ic w b ((l++ [(x,v,clock)]).map (dx key)).toArray (clock+1)) b (l++ [(x,v,clock)]) (clock+1):=fun v=>by
      refine ⟨B3 bB,fun a ha=> ?_, ?_⟩
      · rcases aMQ.1 ha with ha | ha
        · have:=h.born a ha;omega
        · simp at ha;subst ha;simp
      · rw [aM0,aNk]
        refine ⟨h.stamps,by simp,fun a ha c hc e=> ?_⟩;simp at hc;obtain ⟨y,aH,rfl⟩:=aMT.1 ha;have:=h.born y aH;omega
    have Sj:∀ n,(Instr.findKey k (key x) (l.map (dx key))).run P (w.drewN n)= .ok none (w.drewN n):=fun n=>by
      rcases found (w:=w.drewN n) K ⟨Dl n,h.born,h.stamps⟩ hw x hx with ⟨κ,_,_⟩ | ⟨j,v,m,_,aw⟩
      · exact κ
      · exact absurd rfl (aq _ (aNi aw))
    refine ⟨clock,l++ [(x,0,clock)],clock+1,fun n=> ?_,iZ 0,fun a ha=> ?_, ?_, ?_,fun v n=> ?_⟩
    · rw [τ]
      have:(l.map (dx key)).toArray.push (⟨key x, .int .i64 0,clock⟩:MapEntry)=((l++ [(x,0,clock)]).map (dx key)).toArray:=by simp [dx]
      simp [Instr.mapEntry,aNH aC,aNp (Dl n),K.keyed.check (w.drewN n) false rh,Sj n,bo,aNM _ (Dl n),Result.andThen,ic,Go.ChangeMaps.setBlock,goInt,dx];rfl
    · rcases aMQ.1 ha with ha | ha
      · exact hw a ha
      · simp at ha;subst ha;exact hx
    · have:=Gq hn clock x 0
      rw [BF] at this;exact this
    · have:=FK l clock x x 0
      rw [BF,aMI rfl] at this;rw [this,τ];rfl
    · rw [BF,TC]
      refine ⟨?_,iZ v⟩;have d':=idxOf (l++ [(x,0,clock)]) l.length (x,0,clock) (iZ 0).stamps (by simp);have Jq:((l++ [(x,0,clock)]).map (dx key)).toArray.modify l.length (fun e=> {e with val:=Value.int .i64 v})=((l++ [(x,v,clock)]).map (dx key)).toArray:=by
        apply aNW;rw [aOD];have hlen:l.length=(l.map (dx key)).length:=by simp
        rw [hlen];simp only [aM0,aNc,aNP];rw [Go.WideElems.modify_last];rfl
      have dM:((ic w b ((l++ [(x,0,clock)]).map (dx key)).toArray (clock+1)).drewN n).heap[b]? =some (.map ((l++ [(x,0,clock)]).map (dx key)).toArray (clock+1)):=B3 bB;have kC:(Instr.entryStore t (.map (some b)) (goInt clock) (.int .i64 v)).run P ((ic w b ((l++ [(x,0,clock)]).map (dx key)).toArray (clock+1)).drewN n)= .ok () (ic ((ic w b ((l++ [(x,0,clock)]).map (dx key)).toArray (clock+1)).drewN n) b ((l++ [(x,v,clock)]).map (dx key)).toArray (clock+1)):=by
        rw [← Jq];simp only [Instr.entryStore,aML,aNp dM,aMG,asInt,asIntOf,goInt,aMP];rw [d'];exact aNM _ dM
      refine kC.trans ?_;simp [ic,Go.ChangeMaps.setBlock,World.drewN]
  · have ou:l.any (fun e=>decide (e.1=x))=true:=aNL.2 ⟨_,aNi τ,by simp⟩
    have BF:∀ v,put l clock x v=l.map (fun e=>if e.1=x then (e.1,v,e.2.2) else e):=fun v=>by unfold put;rw [aMI ou]
    have TC:tick l clock x=clock:=by unfold tick;rw [aMI ou]
    have abk:=jm hn τ;have tL:∀ v,l.map (fun e=>if e.1=x then (e.1,v,e.2.2) else e)=l.set j (x,v,n0):=by
      intro v;refine aOd fun i=> ?_;rw [aMX];by_cases kU:j=i
      · subst kU
        rw [τ,aNg (aMx.1 τ).1];simp
      · rw [aNy kU]
        cases ak:l[i]? with
        | none=>rfl
        | some a =>
          have:a.1≠x:=by
            intro zX;have Jk:=(aMx.1 ak);have NK:=(aMx.1 τ);have aR:(l.map (·.1))[i]? =(l.map (·.1))[j]? :=by rw [aMX,aMX,ak,τ];simp [zX]
            obtain ⟨tG,_⟩:=Jk;obtain ⟨nH,_⟩:=NK;have:=(aPZ (by simpa using tG) hn).1 aR;exact kU this.symm
          simp [this]
    have Sj:∀ n,(Instr.findKey k (key x) (l.map (dx key))).run P (w.drewN n)= .ok (some (j, .int .i64 v0)) (w.drewN n):=fun n=>by
      rcases found (w:=w.drewN n) K ⟨Dl n,h.born,h.stamps⟩ hw x hx with ⟨_,_,aq⟩ | ⟨atn,v,m,ap5,aw⟩
      · exact absurd rfl (aq (x,v0,n0) (aNi τ))
      · have aR:(l.map (·.1))[atn]? =(l.map (·.1))[j]? :=by rw [aMX,aMX,aw,τ];rfl
        have:=(aPZ (by simpa using (aMx.1 aw).1) hn).1 aR;subst this;rw [τ] at aw;injection aw with aw
        injection aw with _ aw
        injection aw with ary _
        rw [ap5,ary]
    have iZ:∀ v,dv key (ic w b ((l.set j (x,v,n0)).map (dx key)).toArray clock) b (l.set j (x,v,n0)) clock:=fun v=>by
      refine ⟨B3 bB,fun a ha=> ?_, ?_⟩
      · rcases aOb ha with ha | ha
        · exact h.born a ha
        · rw [ha];exact h.born (x,v0,n0) (aNi τ)
      · rw [aOq]
        have:(l.map (·.2.2)).set j n0=l.map (·.2.2):=by
          have arN:=(aMx.1 τ);obtain ⟨tG,nH⟩:=arN;have e:(l.map (·.2.2))[j]'(by simpa using tG)=n0:=by rw [aQc,nH]
          conv=>lhs;rw [← e]
          exact aOt _
        rw [this];exact h.stamps
    refine ⟨n0,l,clock,fun n=> ?_,⟨B3 bB,h.born,h.stamps⟩,hw,hn,by rw [abk];rfl,fun v n=> ?_⟩
    · rw [abk]
      have aw:(l.map (dx key)).toArray[j]? =some (dx key (x,v0,n0)):=by simp [τ]
      have Ty:(l.map (dx key)).toArray.modify j (fun e=> {e with key:=key x})=(l.map (dx key)).toArray:=by
        apply aNW;rw [aOD,aOw _ _ _ _ (by rw [aMX,τ];rfl)];exact aQP _ _ _ (by rw [aMX,τ];rfl)
      have Tk:(dx key (x,v0,n0)).key=key x:=rfl;have S2:(dx key (x,v0,n0)).born=n0:=rfl;simp only [Instr.mapEntry,aML,aNH aC,aMG,aNp (Dl n),K.keyed.check (w.drewN n) false rh,Sj n,aw,aOc,aNx,Tk,K.keyed.stays (w.drewN n) rh,Ty,aNM _ (Dl n),S2,aMP];rfl
    · rw [BF,TC,tL]
      refine ⟨?_,iZ v⟩;have d':=idxOf l j (x,v0,n0) h.stamps τ;have Jq:(l.map (dx key)).toArray.modify j (fun e=> {e with val:=Value.int .i64 v})=((l.set j (x,v,n0)).map (dx key)).toArray:=by
        apply aNW;rw [aOD,aOw _ _ _ _ (by rw [aMX,τ];rfl),aOq];rfl
      have dM:((ic w b (l.map (dx key)).toArray clock).drewN n).heap[b]? =some (.map (l.map (dx key)).toArray clock):=B3 bB;have kC:(Instr.entryStore t (.map (some b)) (goInt n0) (.int .i64 v)).run P ((ic w b (l.map (dx key)).toArray clock).drewN n)= .ok () (ic ((ic w b (l.map (dx key)).toArray clock).drewN n) b ((l.set j (x,v,n0)).map (dx key)).toArray clock):=by
        rw [← Jq];simp only [Instr.entryStore,aML,aNp dM,aMG,asInt,asIntOf,goInt,aMP];rw [d'];exact aNM _ dM
      refine kC.trans ?_;simp [ic,Go.ChangeMaps.setBlock,World.drewN]
end dv

theorem afE {P:Program} {w:World} {o:Oper} {a:Act} (f:FuncId) (fn:Func) (hf:P.funcs[f]? =some fn) (hn:(fn.name == "runtime.NumGoroutine")=false) (af:fn.body.isNone=false)
    (xs:Array Operand) (ts:Array TypeId) (tJ:o.op=Op.call {callee:=Callee.value (Operand.func f),args:=xs,argTypes:=ts}) (args:Array Value) (Ny:xs.map a.eval=args):
    (execOp a.eval o).run P w= .ok (.enter f args) w:=by
  unfold execOp;have he:a.eval (.func f)= .func (.func f) #[] #[]:=rfl;have hp:Sem.run P program w= .ok P w:=rfl;simp only [tJ,resolve,invoke,Deferred.ofValue,he,callFunc,aML,aMP,aMG,Ny,hp,hf,hn,af,aPa,Array.append_empty,aNm,aNR]
theorem O1 {P:Program} {ops:Array Oper} {o:Oper} {a:Act} {w:World} {K:Act→World→Prop} {Q:Exit→Act→World→Prop} {E:Prop}
    (aT:o.guard=none) (f:FuncId) (fn:Func) (hf:P.funcs[f]? =some fn) (hn:(fn.name == "runtime.NumGoroutine")=false) (af:fn.body.isNone=false)
    (xs:Array Operand) (ts:Array TypeId) (tJ:o.op=Op.call {callee:=Callee.value (Operand.func f),args:=xs,argTypes:=ts}) (args:Array Value) (Ny:xs.map a.eval=args)
    (hc:Calls P f args w fun e w'=>∃ v,e= .returned v∧K (a.put o.dst v) w'):
    if Region.wanted o (yielded ops a.tmps)=true then Oper.wp P o a w K Q else E:=by
  have hw:Region.wanted o (yielded ops a.tmps)=true:=by simp [Region.wanted,aT]
  rw [aMI hw];unfold Oper.wp;rw [afE f fn hf hn af xs ts tJ args Ny,Oper.upon_enter];refine hc.mono fun e kp dN=> ?_;obtain ⟨v,rfl,h⟩:=dN;exact h
theorem mH {wr aM w':World} (h:Below wr.heap.size wr aM) (τ:Below aM.heap.size aM w'):Below wr.heap.size wr w':=h.trans (τ.mono h.size)
theorem X7 {wr aM w':World} (h:Below wr.heap.size wr aM) (τ:Below aM.drew.heap.size aM.drew w'):Below wr.heap.size wr w':=h.drew.trans (τ.mono h.size)
theorem Px {P:Program} {id:Nat} {Q:Exit→Act→World→Prop} {a:Act} {w:World} {l:List Oper} (hm:P.follows .mixedOrders=true) (aS:Region.lexB .any l.toArray=true)
    (h:wpQuiet P l.toArray (fun w'=>Below w.heap.size w w') (fun a'=>∀ w',Below w.heap.size w w'→Q .normal a' w') l a):(Code.region id l.toArray true).wp P Q a w :=
  wp_region_quiet (C:=fun w'=>Below w.heap.size w w') hm aS (below_drewN (aNb _ w) 1) (by simpa using h)
theorem axN {P:Program} {o:Oper} {a:Act} {C:World→Prop} {w:World} {v:Value} (h:(execOp a.eval o).run P w= .ok (.value v) w):o.quietAt P a C w v:=by
  unfold Oper.quietAt;rw [h];exact ⟨Z,Z⟩
theorem axM {P:Program} {o:Oper} {a:Act} {C:World→Prop} {w:World} {v:Value} {f:FuncId} {args:Array Value} (h:(execOp a.eval o).run P w= .ok (.enter f args) w) (hc:Calls P f args w fun e kp=>e= .returned v∧C kp):o.quietAt P a C w v:=by
  unfold Oper.quietAt;rw [h];exact ⟨Z,hc⟩
theorem OR {P:Program} {o:Oper} {a:Act} {C:World→Prop} {w:World} {v:Value} {r:Result Next} (h:(execOp a.eval o).run P w=r) (hr:r= .ok (.value v) w):o.quietAt P a C w v:=axN (h.trans hr)
theorem OQ {P:Program} {o:Oper} {a:Act} {C:World→Prop} {w:World} {v:Value} {f:FuncId} {args:Array Value} {r:Result Next} (h:(execOp a.eval o).run P w=r) (hr:r= .ok (.enter f args) w) (hc:Calls P f args w fun e kp=>e= .returned v∧C kp):o.quietAt P a C w v:=axM (h.trans hr) hc
abbrev Ext (w w':World):Prop:=Below w.heap.size w w'
theorem Ext.bM (w:World):Ext w w:=aNb _ w
theorem Ext.nT {a b c:World} (h:Ext a b) (k:Ext b c):Ext a c:=aQY h (aPx k h.size)
section
variable {P:Program} {ops:Array Oper} {Q:Exit→Act→World→Prop} {aK:Nat→Nat}
def tY (P:Program) (w:World) (v:Value):Result Next→Prop
  | .ok (.value u) w'=>w'=w∧u=v
  | .ok .skip w'=>w'=w∧v=undef
  | .ok (.enter f args) w'=>w'=w∧Calls P f args w (fun e kp=>e= .returned v∧Ext w kp)
  | _=>False
def r5 (P:Program) (ops:Array Oper) (w0:World) (o:Oper) (v:Value) (a:Act):Prop :=
  (Region.wanted o (yielded ops a.tmps)=true∧∀ w,Ext w0 w→tY P w v ((execOp a.eval o).run P w))∨
  (Region.wanted o (yielded ops a.tmps)=false∧v=undef)
theorem r5.of_same {w0:World} {o:Oper} {v:Value} {a a':Act} (h:r5 P ops w0 o v a) (he:execOp a'.eval o=execOp a.eval o) (hw:Region.wanted o (yielded ops a'.tmps)=Region.wanted o (yielded ops a.tmps)):r5 P ops w0 o v a':=by
  unfold r5 at *;rw [he,hw];exact h
theorem r5.on {w0 aM:World} {o:Oper} {v:Value} {a:Act} (h:r5 P ops w0 o v a) (hx:Ext w0 aM):r5 P ops aM o v a :=
  h.imp (fun ⟨κ,τ⟩=>⟨κ,fun w hw=>τ w (hx.nT hw)⟩) id
theorem Yields.afm {w0:World} {o:Oper} {v:Value} {a:Act} (h:Yields P ops o v a):r5 P ops w0 o v a :=
  h.imp (fun ⟨κ,τ⟩=>⟨κ,fun w _=>by rw [τ w];exact ⟨rfl,rfl⟩⟩) id
def af8 (P:Program) (ops:Array Oper) (Q:Exit→Act→World→Prop) (aK:Nat→Nat) (i:Nat) (K:Act→World→Prop) (a:Act) (w0:World):Prop :=
  ∃ o,ops[i]? =some o∧
    ((aK i≤1∧∃ v,r5 P ops w0 o v a∧K (a.put o.dst v) w0)∨
     (1<aK i∧∀ w,Ext w0 w→wpOp P ops Q i (fun a' w'=>(aK i=2→Ext w0 w')∧K a' w') a w))
def vw (P:Program) (ops:Array Oper) (Q:Exit→Act→World→Prop) (aK:Nat→Nat):Nat→Array Bool→Act→World→Prop
  | 0,l,a,w0=>Region.ready .any ops l= []∧∀ w,Ext w0 w→Q .normal a w
  | f+1,l,a,w0=>(Region.ready .any ops l= []→∀ w,Ext w0 w→Q .normal a w)∧∀ i∈Region.ready .any ops l,af8 P ops Q aK i (vw P ops Q aK f (l.setIfInBounds i true)) a w0
theorem xM:∀ (f:Nat) (l:Array Bool) (a:Act) (w0:World),vw P ops Q aK f l a w0→∀ w,Ext w0 w→wpAny P .any ops Q f l a w
  | 0,_,_,_,h,w,hw=>⟨h.1,h.2 w hw⟩
  | f+1,l,a,w0,h,w,hw=>⟨fun aB=>h.1 aB w hw,fun i ak=>by
      obtain ⟨o,bl,τ⟩:=h.2 i ak;rcases τ with ⟨_,v,I,aj⟩ | ⟨_,τ⟩
      · unfold wpOp
        simp only [bl];rcases I with ⟨i_,I⟩ | ⟨i_,rfl⟩
        · rw [aMI i_]
          refine .inl ?_;have I:=I w hw;unfold Oper.wp;generalize (execOp a.eval o).run P w=r at *
          cases r with
          | ok n w' =>
            cases n<;>simp only [tY] at I<;>simp only [Oper.upon]
            case value u=>obtain ⟨rfl,rfl⟩:=I;exact xM f _ _ _ aj _ hw
            case skip=>obtain ⟨rfl,rfl⟩:=I;exact xM f _ _ _ aj _ hw
            case enter f' args=>obtain ⟨rfl,hc⟩:=I;exact hc.mono fun e kp ⟨he,hx⟩=>by subst he;exact xM f _ _ _ aj _ (hw.nT hx)
          | halt x w'=>simp only [tY] at I
        · rw [aMA (by rw [i_];decide)]
          exact xM f _ _ _ aj _ hw
      · exact aOf (fun a' w' aq=>xM f _ _ _ aq.2 _ (Ext.bM w')) (τ w hw)⟩
theorem Pw {az:Act→Prop} {j:Nat} {dst:Option Tmp} {cI:Oper} {v:Value} (aw:ops[j]? =some cI) (κ:∀ d,dst=some d→d∉cI.looksAt ops) (τ:∀ d,dst=some d→cI.dst≠some d)
    (ri:∀ cs b,cI.op≠ .select cs b) (eI:∀ c a w,¬ Q (.panic c) a w) (keep:∀ a u,az a→az (a.put cI.dst u)) (att:∀ a d,az a→az {a with defers:=d::a.defers})
    {K:Act→World→Prop} {a:Act} {w:World} (aH:az a) (h:wpOp P ops Q j K (a.put dst v) w):wpOp P ops Q j (fun a' w'=>az a'∧K (a'.put dst v) w') a w:=by
  unfold wpOp at *
  simp only [aw] at *
  rw [aOL cI a dst v κ] at h;by_cases hw:Region.wanted cI (yielded ops a.tmps)=true
  · rw [aMI hw] at h ⊢
    rcases h with h | ⟨aaT,arM⟩
    case inr=>exact .inr ⟨by unfold Oper.asks at *;rw [aOA cI ri a dst v κ] at aaT;exact aaT,arM⟩
    refine .inl ?_;unfold Oper.wp at *
    rw [aOA cI ri a dst v κ] at h;generalize (execOp a.eval cI).run P w=r at *
    cases r with
    | ok n w' =>
      cases n<;>simp only [Oper.upon] at h ⊢
      case value u=>exact ⟨keep a u aH,by rw [← aOg a v u τ];exact h⟩
      case skip=>exact ⟨keep a _ aH,by rw [← aOg a v undef τ];exact h⟩
      case defer d =>
        refine ⟨keep _ _ (att a d aH), ?_⟩;rw [← aOg _ v undef τ,← Act.put_defers];exact h
      case enter f args =>
        refine aOs h fun e kp he=> ?_;cases e with
        | returned u=>exact ⟨keep a u aH,by rw [← aOg a v u τ];exact he⟩
        | panicked c=>exact (eI _ _ _ he).elim
        | outgrown=>exact he
      case row row args=>exact Rows.mono h fun u kp he=>⟨keep a u aH,by rw [← aOg a v u τ];exact he⟩
    | halt x w' =>
      cases x<;>simp only [Oper.upon] at h ⊢
      case panic u=>exact (eI _ _ _ h).elim
  · rw [aMA hw] at h ⊢
    exact ⟨keep a _ aH,by rw [← aOg a v undef τ];exact h⟩
theorem M9 {i:Nat} {c2:Oper} {v:Value} (ak:ops[i]? =some c2) (aj:aK i≤1) (j6:∀ (j:Nat) (o:Oper) cs b,ops[j]? =some o→o.op≠ .select cs b)
    (eI:∀ c a w,¬ Q (.panic c) a w) (az:World→Act→Prop) (kt:∀ w0 a,az w0 a→r5 P ops w0 c2 v a)
    (z2:∀ w0 a a',az w0 a→execOp a'.eval c2=execOp a.eval c2→Region.wanted c2 (yielded ops a'.tmps)=Region.wanted c2 (yielded ops a.tmps)→az w0 a')
    (z3:∀ w0 aM a,Ext w0 aM→az w0 a→az aM a) (R:Nat→Bool) (qg:Array Bool)
    (hR:∀ j cI,ops[j]? =some cI→j≠i→(∀ e∈cI.after,Region.binds .any e=true→R e.on=true)→R j=true)
    (aS:(∀ w0 aM a,az w0 a→az aM a)∨∀ j,R j=true→3≤aK j→qg.getD j true=true):
    ∀ (f:Nat) (l:Array Bool) (a:Act) (w0:World),(∀ j,l.getD j false=true→R j=true)→(∀ j,qg.getD j true=true→l.getD j true=true)→
      (∀ j cI,ops[j]? =some cI→j≠i→l.getD j true=false→(∀ e∈cI.after,Region.binds .any e=true→e.on≠i)→c2.apart ops cI=true)→
      i∈Region.ready .any ops l→az w0 a→vw P ops Q aK f (l.setIfInBounds i true) (a.put c2.dst v) w0→vw P ops Q aK (f+1) l a w0:=by
  intro f;induction f with
  | zero =>
    intro l a w0 _ _ _ hr bo H;refine ⟨fun h=>(by rw [h] at hr;cases hr),fun j aw=> ?_⟩;by_cases fe:j=i
    · subst fe;exact ⟨c2,ak, .inl ⟨aj,v,kt _ _ bo,H⟩⟩
    · have:=aOh aw fe
      rw [H.1] at this;cases this
  | succ f bu =>
    intro l a w0 vU vS vQ hr bo H;refine ⟨fun h=>(by rw [h] at hr;cases hr),fun j aw=> ?_⟩;by_cases fe:j=i
    · subst fe;exact ⟨c2,ak, .inl ⟨aj,v,kt _ _ bo,H⟩⟩
    · obtain ⟨cI,hD,κ⟩:=H.2 j (aOh aw fe)
      obtain ⟨qb,ef,vY,ej⟩:=aOZ.1 aw;obtain rfl:ef=cI:=by rw [hD] at vY;exact (aMJ vY).symm
      have Du:∀ e∈ef.after,Region.binds .any e=true→e.on≠i:=fun e he af heq=>by
        have κ:=ej e he af;have aB:=(aOZ.1 hr).1;rw [heq] at κ;rcases aNI i l.size with cp | cp
        · simp [cp] at aB κ;rw [aB] at κ;cases κ
        · simp [aNo cp] at κ
      have zV:=vQ j ef hD fe qb Du;obtain ⟨cV,a2,a3⟩:=aPC zV;have Dw:∀ cs b,c2.op≠ .select cs b:=fun cs b=>j6 i c2 cs b ak;have ri:∀ cs b,ef.op≠ .select cs b:=fun cs b=>j6 j ef cs b hD;have keep:∀ aM a u,az aM a→az aM (a.put ef.dst u):=fun aM a u bo=>z2 _ _ _ bo (aOA c2 Dw a ef.dst u a3) (aOL c2 a ef.dst u a3);have vK:R j=true:=hR j ef hD fe fun e he af=>vU _ (ej e he af);have vV:∀ k,(l.setIfInBounds j true).getD k false=true→R k=true:=fun k aj=>by
        by_cases fF:j=k
        · rw [← fF];exact vK
        · rw [aN8 false fF] at aj;exact vU k aj
      have vT:∀ k,qg.getD k true=true→(l.setIfInBounds j true).getD k true=true:=fun k aj=>by
        by_cases fF:j=k
        · subst fF
          rcases aNI j l.size with cp | cp
          · simp [cp]
          · simp [aNo cp]
        · rw [aN8 true fF];exact vS k aj
      have vR:∀ k ok,ops[k]? =some ok→k≠i→(l.setIfInBounds j true).getD k true=false→
          (∀ e∈ok.after,Region.binds .any e=true→e.on≠i)→c2.apart ops ok=true:=fun k ok aj k9 wa jr=>by
        refine vQ k ok aj k9 ?_ jr;by_cases fF:j=k
        · subst fF;exact qb
        · rw [aN8 true fF] at wa;exact wa
      have vZ:=aOh hr (aOV fe);rcases κ with ⟨qc,u,I,hK⟩ | ⟨qc,κ⟩
      · refine ⟨ef,hD, .inl ⟨qc,u,I.of_same (aOA ef ri a c2.dst v cV).symm (aOL ef a c2.dst v cV).symm, ?_⟩⟩
        refine bu _ _ _ vV vT vR vZ (keep _ _ _ bo) ?_;rw [aNC _ _ fe,← aOg a v u a2];exact hK
      · refine ⟨ef,hD, .inr ⟨qc,fun w hw=> ?_⟩⟩
        refine aOf (fun a' w' aq=>⟨aq.2.1, ?_⟩) (Pw (az:=az w0) hD cV a2 ri eI (keep w0) (fun a d bo=>z2 _ _ _ bo Z Z) bo (κ w hw));have DB:az w' a':=by
          rcases aNI (aK j) 3 with bB | zY
          · exact z3 _ _ _ (aq.2.1 (by omega)) aq.1
          · rcases aS with aS | aS
            · exact aS _ _ _ aq.1
            · have:=vS j (aS j vK zY);rw [qb] at this;cases this
        refine bu _ _ _ vV vT vR vZ DB ?_;rw [aNC _ _ fe];exact aq.2.2
def xf (P:Program) (ops:Array Oper) (Q:Exit→Act→World→Prop) (aK:Nat→Nat):List Nat→Act→World→Prop
  | [],a,w0=>∀ w,Ext w0 w→Q .normal a w
  | i::r,a,w0=>∃ o,ops[i]? =some o∧
      ((aK i=0∧∃ v,r5 P ops w0 o v a∧xf P ops Q aK r (a.put o.dst v) w0)∨
       (aK i=1∧∃ v,Yields P ops o v a∧xf P ops Q aK r (a.put o.dst v) w0)∨
       (1<aK i∧∀ w,Ext w0 w→wpOp P ops Q i (fun a' w'=>(aK i=2→Ext w0 w')∧xf P ops Q aK r a' w') a w))
def UO (ops:Array Oper) (i:Nat):Array Bool :=
  ops.foldl (init:=#[]) fun acc o=>acc.push (acc.size != i && o.after.all fun e=> !Region.binds .any e || acc.getD e.on false)
def Mf (ops:Array Oper) (aK:Nat→Nat) (l:Array Bool) (i:Nat):Bool :=
  (List.range ops.size).all (fun j=>l.getD j true || Nat.blt (aK j) 3) ||
  (let R:=UO ops i
   (List.range ops.size).all fun j=>(j == i || R.getD j false || !((ops[j]?).map (·.after.all fun e=> !Region.binds .any e || R.getD e.on false)).getD false) && (!l.getD j false || R.getD j false) && (!R.getD j false || Nat.blt (aK j) 3 || l.getD j true))
def hM (ops:Array Oper) (aK:Nat→Nat):List Nat→Array Bool→Bool
  | [],l=>(Region.ready .any ops l).isEmpty
  | i::r,l=>(match aK i with
      | 0=>Region.free .any ops l i && (Region.ready .any ops l).contains i && Mf ops aK l i
      | 1=>Region.free .any ops l i && (Region.ready .any ops l).contains i
      | _=>Region.ready .any ops l == [i]) && hM ops aK r (l.setIfInBounds i true)
theorem Ib {l:Array Bool} {i:Nat} (ay:l.size=ops.size) (h:Mf ops aK l i=true):∃ R:Nat→Bool,
    (∀ j cI,ops[j]? =some cI→j≠i→(∀ e∈cI.after,Region.binds .any e=true→R e.on=true)→R j=true)∧
    (∀ j,l.getD j false=true→R j=true)∧(∀ j,R j=true→3≤aK j→l.getD j true=true):=by
  unfold Mf at h;have out:∀ j,¬ j<ops.size→l.getD j true=true:=fun j aw=>by simp [aNo (by omega:l.size≤j)]
  rw [aNa] at h;rcases h with h | h
  · refine ⟨fun _=>true,fun _ _ _ _ _=>rfl,fun _ _=>rfl,fun j _ aq=> ?_⟩
    by_cases aw:j<ops.size
    · have:=aNd.1 h j (aM8.2 aw)
      rw [aNa] at this;rcases this with h | h
      · exact h
      · rw [aO6] at h;omega
    · exact out j aw
  · refine ⟨fun j=>(UO ops i).getD j false,fun j cI hD fe hd=> ?_,fun j aw=> ?_,fun j aw aq=> ?_⟩
    · have bB:=(aM1.1 hD).1
      have:=aNd.1 h j (aM8.2 bB);simp only [hD,aOc,aNx,aMF,aNa,aNq,fe,false_or,aNF] at this;rcases this.1.1 with h | h
      · exact h
      · have ej:cI.after.all (fun e=> !Region.binds .any e || (UO ops i).getD e.on false)=true:=by
          rw [Array.all_eq_true_iff_forall_mem];intro e he;cases af:Region.binds .any e
          · rfl
          · have:=hd e he af;simp only at this;simp [this]
        rw [ej] at h;cases h
    · have bB:j<ops.size:=by
        rcases aNI j l.size with cp | cp
        · omega
        · simp [aNo cp] at aw
      have:=aNd.1 h j (aM8.2 bB);simp only [aMF,aNa,aNF] at this;rcases this.1.2 with h | h
      · rw [h] at aw;cases aw
      · exact h
    · by_cases bB:j<ops.size
      · have:=aNd.1 h j (aM8.2 bB)
        simp only [aMF,aNa,aNF] at this;rcases this.2 with (h | h) | h
        · simp only at aw;rw [h] at aw;cases aw
        · (rw [aO6] at h;omega)
        · exact h
      · exact out j bB
theorem CQ (hs:Region.noSelect ops=true) (eI:∀ c a w,¬ Q (.panic c) a w):∀ (r:List Nat) (l:Array Bool) (a:Act) (w0:World),l.size=ops.size→hM ops aK r l=true→xf P ops Q aK r a w0→vw P ops Q aK r.length l a w0
  | [],l,a,w0,_,aS,h=>⟨by simpa [hM] using aS,h⟩
  | i::r,l,a,w0,ay,aS,h=>by
    obtain ⟨o,bl,h⟩:=h;have j6:=aOB hs;rcases h with ⟨aj,v,I,hK⟩ | ⟨aj,v,I,hK⟩ | ⟨aj,h⟩
    · simp only [hM,aj,aMF] at aS
      obtain ⟨⟨⟨hf,hr⟩,af⟩,aS⟩:=aS;obtain ⟨R,r1,r2,sI⟩:=Ib ay af;exact M9 bl (by omega) j6 eI (fun w0 a=>r5 P ops w0 o v a) (fun _ _ h=>h) (fun _ _ _ h he hw=>h.of_same he hw) (fun _ _ _ hx h=>h.on hx) R l r1 (.inr sI) _ _ _ _ r2 (fun _ h=>h) (aNT bl hf) (by simpa using hr) I
        (CQ hs eI r _ _ _ (by simpa using ay) aS hK)
    · simp only [hM,aj,aMF] at aS
      obtain ⟨⟨hf,hr⟩,aS⟩:=aS;exact M9 bl (by omega) j6 eI (fun _ a=>Yields P ops o v a) (fun _ _ h=>Yields.afm h) (fun _ _ _ h he hw=>h.of_same he hw) (fun _ _ _ _ h=>h) (fun _=>true) l (fun _ _ _ _ _=>Z) (.inl fun _ _ _ h=>h) _ _ _ _ (fun _ _=>Z) (fun _ h=>h) (aNT bl hf) (by simpa using hr) I
        (CQ hs eI r _ _ _ (by simpa using ay) aS hK)
    · obtain ⟨k,lH⟩:∃ k,aK i=k+2:=⟨aK i - 2,by omega⟩
      simp only [hM,lH,aMF,aNq] at aS;obtain ⟨hr,aS⟩:=aS;refine ⟨fun aB=>(by rw [hr] at aB;cases aB),fun j aw=> ?_⟩;rw [hr] at aw;obtain rfl:j=i:=by simpa using aw
      exact ⟨o,bl, .inr ⟨aj,fun w hw=>aOf (fun a' w' aq=>⟨aq.1,CQ hs eI r _ _ _ (by simpa using ay) aS aq.2⟩) (h w hw)⟩⟩
def eT (K:Act→World→Prop):Exit→Act→World→Prop
  | .normal,a,w=>K a w
  | _,_,_=>False
theorem ax2 {id:Nat} {a:Act} {w:World} (ba:List Nat) (hm:P.follows .mixedOrders=true) (aS:(Region.noSelect ops && (ba.length == ops.size) && hM ops aK ba (Array.replicate ops.size false))=true)
    (h:xf P ops (eT (Q .normal)) aK ba a w):(Code.region id ops true).wp P Q a w:=by
  simp only [aMF,aNq] at aS;obtain ⟨⟨hs,ay⟩,aS⟩:=aS;refine aQf (aOI hm (Q:=eT (Q .normal)) ?_) (fun e a w I=>by cases e<;>first | exact I | exact I.elim);have:=CQ (P:=P) hs (Q:=eT (Q .normal)) (fun _ _ _ h=>h) ba (Array.replicate ops.size false) a w (by simp) aS h;rw [ay] at this;exact xM _ _ _ _ this _ (aNb _ w).drew
end
end Go.Proofs.YthlpmldmhakhaaaGreatDoor
