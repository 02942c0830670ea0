import Derived.Lib.Hide
import Derived.WalkSpells
import Derived.WalkLawsBesides
import Derived.BigQuiet
import Derived.Deep.RegionHeld3
import Derived.Laws.CopyOwn
import Derived.Lib.Strings
import Derived.Deep.AppendLies
import Derived.Shelf.SlicesE.Clone
import Derived.Deep.Fields
import Derived.WideKeyEntry
import Derived.Handy
set_option linter.unusedVariables false
set_option linter.unusedSimpArgs false
set_option maxRecDepth 100000
set_option maxHeartbeats 4000000
open Go.RowKit
namespace Go.Proofs.Ytifffjhhammeiaa
theorem Z.{u} {α:Sort u} {a:α}:a=a:=Eq.refl a
abbrev Gm:=@List.length_set
abbrev Gn:=@Option.some.inj
abbrev Gp:=@List.getElem?_eq_getElem
abbrev Gq:=@List.getElem?_eq_some_iff
abbrev Gr:=@Go.Result.andThen_ok
abbrev Gt:=@Array.getElem?_eq_some_iff
abbrev Gu:=@Go.Sem.run_bind
abbrev Gv:=@Go.Sem.run_pure
abbrev Gw:=@Bool.and_eq_true
abbrev Gx:=@List.eq_nil_of_length_eq_zero
abbrev Gz:=@List.mem_append
abbrev GA:=@List.length_append
abbrev GB:=@Nat.le_refl
abbrev GC:=@List.mem_flatten
abbrev GF:=@List.mem_map
abbrev GG:=@Nat.add_mul
abbrev GH:=@List.getElem?_append_right
abbrev GI:=@Array.getElem?_toList
abbrev GJ:=@List.getElem?_append_left
abbrev GK:=@of_decide_eq_true
abbrev GL:=@Nat.mul_le_mul_right
abbrev GM:=@List.flatten_cons
abbrev GN:=@BitVec.ofInt_natCast
abbrev GO:=@List.getElem?_map
abbrev GR:=@Nat.zero_add
abbrev GU:=@Nat.mul_comm
abbrev GV:=@List.all_eq_true
abbrev GX:=@List.take_of_length_le
abbrev GY:=@List.size_toArray
abbrev GZ:=@List.mem_range
abbrev G0:=@Array.getElem?_eq_none
abbrev G1:=@Go.Act.put_comm
abbrev G3:=@beq_iff_eq
abbrev G5:=@List.mem_cons
abbrev G6:=@List.map_cons
abbrev G8:=@if_pos
abbrev G9:=@List.length_map
abbrev G_:=@Bool.or_eq_true
abbrev G':=@Nat.le_trans
abbrev Hc:=@Bool.false_eq_true
abbrev Hd:=@Go.RowKit.Below.refl
abbrev He:=@List.nodup_append
abbrev Hf:=@List.length_cons
abbrev Hg:=@if_neg
abbrev Hh:=@Nat.lt_or_ge
abbrev Hj:=@Nat.div_lt_iff_lt_mul
abbrev Hk:=@Array.getElem?_modify
abbrev Hl:=@Int.emod_emod_of_dvd
abbrev Hm:=@List.flatten_append
abbrev Hn:=@Go.run_underlying
abbrev Hp:=@List.getElem?_take
abbrev Hq:=@BitVec.toNat_ofNat
abbrev Hr:=@BitVec.setWidth_eq
abbrev Hs:=@BitVec.ofNat_toNat
abbrev Ht:=@if_false
abbrev Hu:=@List.length_range
abbrev Hw:=@List.append_assoc
abbrev Hy:=@Bool.not_eq_true'
abbrev Hz:=@Array.getElem?_setIfInBounds_ne
abbrev HA:=@Nat.mod_eq_of_lt
abbrev HB:=@List.length_drop
abbrev HD:=@Nat.zero_le
abbrev HE:=@Option.map_some
abbrev HF:=@Nat.mul_add_mod
abbrev HG:=@Nat.div_add_mod
abbrev HH:=@List.map_append
abbrev HI:=@List.append_nil
abbrev HK:=@Nat.mod_lt
abbrev HL:=@Nat.blt_eq
abbrev HO:=@Array.setIfInBounds_comm
abbrev HP:=@Go.heap_alloc_new
abbrev HQ:=@Go.execOp_put
abbrev HR:=@Int.eq_ofNat_of_zero_le
abbrev HS:=@if_true
abbrev HU:=@List.getElem?_set_self
abbrev HV:=@Int.dvd_refl
abbrev HY:=@Go.World.block_lt_of_cell?
abbrev HZ:=@List.mem_iff_getElem
abbrev H0:=@List.mem_append_left
abbrev H2:=@Array.toList_append
abbrev H4:=@Nat.eq_zero_or_pos
abbrev H5:=@List.getElem?_drop
abbrev H9:=@Array.empty_append
abbrev H':=@Go.getD_set_ne
abbrev Ia:=@Option.some.injEq
abbrev Ib:=@Array.size_append
end Go.Proofs.Ytifffjhhammeiaa
namespace Go.Proofs.Ytifffjhhammeiaa.ee
def U {n:Nat} (b:BitVec n):Int:=(b.toNat:Int)

theorem tI {n:Nat} (b:BitVec n):0≤U b:=Int.natCast_nonneg _
theorem tH (b:BitVec 64):U b<18446744073709551616:=by have:=b.isLt;unfold U;omega
theorem eL {n:Nat} (b:BitVec n):BitVec.ofInt n (U b)=b:=by
  unfold U;rw [GN,Hs,Hr]
theorem tJ (x:Int) (aU:0≤x) (af:x<18446744073709551616):U (BitVec.ofInt 64 x)=x:=by
  obtain ⟨m,rfl⟩:=HR aU;unfold U;rw [GN,Hq];omega
theorem gM {x:Int} {b:BitVec 64} (aU:0≤x) (af:x<18446744073709551616) (h:BitVec.ofInt 64 x=b):x=U b:=by
  rw [← h,tJ x aU af]
theorem oi (k:IntKind) (op:BinOp) (a b:Int) (hs:k.signed=false):0≤bits op k a b∧bits op k a b<2 ^ k.bits:=by
  have hp:(0:Int)<2 ^ k.bits:=Int.pow_pos (by decide);have key:∀ n:Int,0≤k.wrap n∧k.wrap n<2 ^ k.bits:=by
    intro n;simp only [IntKind.wrap,hs,Bool.false_and,Hc,Ht];exact ⟨Int.emod_nonneg _ (by omega),Int.emod_lt_of_pos _ hp⟩
  unfold bits;exact key _
theorem gJ (op:BinOp) (a b:Int):0≤bits op .u64 a b:=(oi .u64 op a b rfl).1
theorem hZ (op:BinOp) (a b:Int):bits op .u64 a b<18446744073709551616:=(oi .u64 op a b rfl).2
theorem l4 (k:IntKind) (n:Int):BitVec.ofInt k.bits (k.wrap n)=BitVec.ofInt k.bits n:=by
  apply BitVec.eq_of_toInt_eq;simp only [BitVec.toInt_ofInt];have h:(k.wrap n) % (2 ^ k.bits:Int)=n % (2 ^ k.bits:Int):=by
    unfold IntKind.wrap;dsimp only;split
    · rw [Int.sub_emod,Int.emod_self,Int.sub_zero,Hl _ (HV _),Hl _ (HV _)]
    · rw [Hl _ (HV _)]
  have e:((2 ^ k.bits:Nat):Int)=(2:Int) ^ k.bits:=by simp
  simp only [Int.bmod,e,h]

theorem ye (n:Int):BitVec.ofInt 64 (IntKind.u64.wrap n)=BitVec.ofInt 64 n:=l4 .u64 n
theorem yf (k:IntKind) (a b:Int):BitVec.ofInt k.bits (bits .xor k a b)=BitVec.ofInt k.bits a ^^^ BitVec.ofInt k.bits b:=by
  unfold bits;rw [l4,GN];dsimp only;rw [Hs,Hr]
theorem x' (k:IntKind) (a b:Int):BitVec.ofInt k.bits (bits .and k a b)=BitVec.ofInt k.bits a &&& BitVec.ofInt k.bits b:=by
  unfold bits;rw [l4,GN];dsimp only;rw [Hs,Hr]
theorem jE (a b:Int):BitVec.ofInt 64 (bits .xor .u64 a b)=BitVec.ofInt 64 a ^^^ BitVec.ofInt 64 b:=yf .u64 a b
theorem ya (a b:Int):BitVec.ofInt 64 (bits .and .u64 a b)=BitVec.ofInt 64 a &&& BitVec.ofInt 64 b:=x' .u64 a b
theorem yd {n:Nat} (x:Int) (s:Nat) (aU:0≤x) (af:x<2 ^ n):BitVec.ofInt n (x / 2 ^ s)=BitVec.ofInt n x >>> s:=by
  obtain ⟨m,rfl⟩:=HR aU;have oD:m<2 ^ n:=by exact_mod_cast af
  have e:((m:Int) / 2 ^ s)=((m / 2 ^ s:Nat):Int):=by rw [Int.natCast_ediv];simp
  rw [e,GN,GN];apply BitVec.eq_of_toNat_eq;rw [BitVec.toNat_ushiftRight,Hq,Hq,HA oD,Nat.shiftRight_eq_div_pow];exact HA (Nat.lt_of_le_of_lt (Nat.div_le_self _ _) oD)

theorem x_ {n:Nat} (a b:Int):BitVec.ofInt n (a+b)=BitVec.ofInt n a+BitVec.ofInt n b:=BitVec.ofInt_add ..
theorem q7 {n:Nat} (a b:Int):BitVec.ofInt n (a * b)=BitVec.ofInt n a * BitVec.ofInt n b:=BitVec.ofInt_mul ..
end Go.Proofs.Ytifffjhhammeiaa.ee
namespace Go.Proofs.Ytifffjhhammeiaa
def AY (k:IntKind) (w:World) (a:Option Addr) (len cap:Nat) (zs:List Int):Prop :=
  (a=none∧len=0∧cap=0∧zs= [])∨
  ∃ x,a=some x∧len≤cap∧cap≤maxLen∧zs.length=cap∧(∀ i,i<zs.length→w.cell? (x.add i)=some (.int k (zs.getD i 0)))∧∀ n∈zs,(Lit.int k n).wf=true
theorem yB {a:Bool} (h:a=true):Ending.returned (.bool a)= .returned (.bool true):=by rw [h]
theorem iY (b off j:Nat):(⟨b,off,none⟩:Addr).add j=⟨b,off+j,none⟩:=by
  unfold Addr.add;split<;>simp_all
theorem cell_later {w w':World} (ak:Below w.heap.size w w') {a:Addr} {v:Value} (h:w.cell? a=some v):w'.cell? a=some v:=by
  rw [ak.cell (HY w a h)];exact h
def bt (w:World) (g:Nat) (cur:List Value) (e:TypeId) (bj:Nat×Nat):Prop:=w.heap[g]? =some (.cells cur.toArray e bj)
theorem bt.lt {w:World} {g:Nat} {cur:List Value} {e:TypeId} {bj:Nat×Nat} (h:bt w g cur e bj):g<w.heap.size:=(Gt.1 h).1
theorem bt.cell {w:World} {g:Nat} {cur:List Value} {e:TypeId} {bj:Nat×Nat} (h:bt w g cur e bj) (j:Nat):w.cell? ⟨g,j,none⟩=cur[j]? :=by
  rw [cell_of_row w g j _ e bj h];simp
theorem bt.set {w:World} {g:Nat} {cur:List Value} {e:TypeId} {bj:Nat×Nat} (h:bt w g cur e bj) (j:Nat) (v:Value):bt (w.setCell ⟨g,j,none⟩ v) g (cur.set j v) e bj:=by
  unfold bt at *
  simp only [World.setCell,Hk,h];simp
theorem bt.later {w w':World} {g:Nat} {cur:List Value} {e:TypeId} {bj:Nat×Nat} (h:bt w g cur e bj) (ak:Below w.heap.size w w'):bt w' g cur e bj:=by
  have aE:=h.lt;unfold bt at *
  rw [ak.block g aE];exact h
theorem bt.new (w:World) (cur:List Value) (e:TypeId) (bj:Nat×Nat):bt (w.alloc (.cells cur.toArray e bj)) w.heap.size cur e bj:=HP w _
theorem bt.setRow {w:World} {g:Nat} {cur:List Value} {e:TypeId} {bj:Nat×Nat} (h:bt w g cur e bj) (new:List Value):bt (w.setRow g new.toArray) g new e bj:=setRow_heap w g _ _ e bj h
def Rd (w:World) (size:Nat) (A:Option Addr) (n:Nat) (xs:List Value):Prop :=
  xs.length=n * size∧(0<n→∃ b o,A=some ⟨b,o,none⟩∧∀ j u,xs[j]? =some u→w.cell? ⟨b,o+j,none⟩=some u)
theorem Rd.zero (w:World) (size:Nat) (A:Option Addr):Rd w size A 0 []:=⟨by simp,fun h=>absurd h (by decide)⟩
theorem Rd.later {w w':World} {size n:Nat} {A:Option Addr} {xs:List Value} (h:Rd w size A n xs) (ak:Below w.heap.size w w'):Rd w' size A n xs :=
  ⟨h.1,fun aU=>by
    obtain ⟨b,o,e,hc⟩:=h.2 aU;exact ⟨b,o,e,fun j u hu=>cell_later ak (hc j u hu)⟩⟩
def Own (w:World) (base:Nat) (e:TypeId) (size:Nat) (G:Nat→Value→Prop) (v:Value) (n:Nat) (xs:List Value):Prop :=
  xs.length=n * size∧
  ((v= .slice none 0 0∧n=0)∨
   ∃ g cap cur,v= .slice (some ⟨g,0,none⟩) n cap∧base≤g∧w.heap[g]? =some (.cells cur e (0,0))∧n≤cap∧cap≤maxLen∧cur.size=cap * size∧cur.toList.take (n * size)=xs∧∀ j u,cur[j]? =some u→G (j % size) u)
section
variable {w w':World} {base e size:Nat} {G:Nat→Value→Prop} {v:Value} {n:Nat} {xs:List Value}
theorem Own.row (h:Own w base e size G v n xs):w.ownsRow base e size v n xs:=by
  obtain ⟨af,ai⟩:=h;refine ⟨af, ?_⟩;rcases ai with ai | ⟨g,cap,cur,a,b,c,d,e,f,i,_⟩
  · exact .inl ai
  · exact .inr ⟨g,cap,cur,a,b,c,d,e,f,i⟩
theorem Own.nil (w:World) (base e size:Nat) (G:Nat→Value→Prop):Own w base e size G (.slice none 0 0) 0 []:=⟨by simp, .inl ⟨rfl,rfl⟩⟩
theorem Own.l5 {B:Nat} (h:Own w base e size G v n xs) (ak:∀ g,v.ownBlock=some g→w'.heap[g]? =w.heap[g]?):Own w' base e size G v n xs:=by
  obtain ⟨af,ai⟩:=h;refine ⟨af, ?_⟩;rcases ai with ai | ⟨g,cap,cur,rfl,b,c,d⟩
  · exact .inl ai
  · exact .inr ⟨g,cap,cur,rfl,b,(ak g rfl).trans c,d⟩
theorem Own.later (h:Own w base e size G v n xs) (ak:Below w.heap.size w w'):Own w' base e size G v n xs :=
  h.l5 (B:=0) fun g aV=>ak.block g (h.row.lt g aV).2
theorem Own.mono (h:Own w base e size G v n xs) {og:Nat} (ak:og≤base):Own w og e size G v n xs:=by
  obtain ⟨af,ai⟩:=h;refine ⟨af, ?_⟩;rcases ai with ai | ⟨g,cap,cur,a,b,r⟩
  · exact .inl ai
  · exact .inr ⟨g,cap,cur,a,G' ak b,r⟩
theorem Own.rd (h:Own w base e size G v n xs) {A:Option Addr} {c:Nat} (hv:v= .slice A n c):Rd w size A n xs:=by
  obtain ⟨af,ai⟩:=h;refine ⟨af,fun aU=> ?_⟩;rcases ai with ⟨_,ai⟩ | ⟨g,cap,cur,rfl,b,c,d,e,f,i,_⟩
  · omega
  · injection hv with hv _ _
    refine ⟨g,0,hv.symm,fun j u hu=> ?_⟩;rw [GR,cell_of_row w g j cur _ (0,0) c,← GI];rw [← i,Hp] at hu;split at hu
    · exact hu
    · cases hu
theorem Own.shape (h:Own w base e size G v n xs):∃ A c,v= .slice A n c∧n≤c∧c≤maxLen∧Rd w size A n xs∧(∀ a,A=some a→base≤a.block∧a.block<w.heap.size)∧(A=none→v= .slice none 0 0):=by
  have bM:=h;obtain ⟨af,ai⟩:=h;rcases ai with ⟨rfl,rfl⟩ | ⟨g,cap,cur,rfl,b,c,d,e,f,i,_⟩
  · exact ⟨none,0,rfl,GB _,HD _,bM.rd rfl,(fun a ha=>by cases ha),fun _=>rfl⟩
  · refine ⟨_,cap,rfl,d,e,bM.rd rfl,fun a ha=> ?_,fun h=>by cases h⟩
    injection ha with ha
    subst ha;exact ⟨b,(Gt.1 c).1⟩
theorem AB {z:Array Value} (bT:z.size=size) (hs:0<size) (fp:∀ j u,z[j]? =some u→G j u) (k:Nat):∀ j u,(Builtin.zeroCells z k)[j]? =some u→G (j % size) u:=by
  intro j u hu;unfold Builtin.zeroCells at hu;subst bT;have az:=(Gt.1 hu).1;simp at az;have b1:j % z.size<z.size:=HK _ hs;rw [Array.getElem?_map,Array.getElem?_range,G8 az] at hu;simp only [HE,Ia] at hu;refine fp _ u ?_;rw [← hu];simp [b1]
theorem Own.stored {g c:Nat} (h:Own w base e size G (.slice (some ⟨g,0,none⟩) n c) n xs) (j:Nat) (u:Value) (hu:G (j % size) u):
    Own (w.setCell ⟨g,j,none⟩ u) base e size G (.slice (some ⟨g,0,none⟩) n c) n (xs.set j u):=by
  obtain ⟨af,ai⟩:=h;refine ⟨by rw [Gm];exact af, ?_⟩;rcases ai with ⟨ai,_⟩ | ⟨g',cap,cur,hv,b,ld,d,hm,hs,aT,fp⟩
  · cases ai
  · injection hv with hv _ hc
    injection hv with hv
    injection hv with hv
    subst hv;subst hc;refine .inr ⟨g,c,cur.setIfInBounds j u,Z,b, ?_,d,hm,by simp [hs], ?_, ?_⟩
    · simp only [World.setCell,Hk,ld]
      simp
    · rw [← aT]
      simp only [Array.toList_setIfInBounds];rw [List.take_set]
    · intro i v hv
      by_cases oS:j=i
      · subst oS
        have b1:j<cur.size:=by
          have:=(Gt.1 hv).1;simpa using this
        rw [Array.getElem?_setIfInBounds_self_of_lt b1] at hv;obtain rfl:=Gn hv;exact hu
      · rw [Hz oS] at hv
        exact fp i v hv
theorem Own.cell {g c:Nat} (h:Own w base e size G (.slice (some ⟨g,0,none⟩) n c) n xs) (j:Nat) (az:j<n * size):w.cell? ⟨g,j,none⟩=xs[j]? :=h.row.cellAt j az
theorem Own.free {g c:Nat} (h:Own w base e size G (.slice (some ⟨g,0,none⟩) n c) n xs) (j:Nat):w.frozen? ⟨g,j,none⟩=false:=h.row.frozenAt j
theorem Own.lit (w:World) (cs:Array Value) (n:Nat) (ak:base≤w.heap.size) (hm:n≤maxLen) (hs:cs.size=n * size) (fp:∀ j u,cs[j]? =some u→G (j % size) u):
    Own (w.alloc (.cells cs e)) base e size G (.slice (some ⟨w.heap.size,0,none⟩) n n) n cs.toList :=
  ⟨by simpa using hs, .inr ⟨w.heap.size,n,cs,rfl,ak,HP w _,GB _,hm,hs,GX (by simp [hs]),fp⟩⟩
theorem Own.empty (w:World) (ak:base≤w.heap.size):Own (w.alloc (.cells #[] e)) base e size G (.slice (some ⟨w.heap.size,0,none⟩) 0 0) 0 [] :=
  Own.lit w #[] 0 ak (HD _) (by simp) (fun j u h=>by simp at h)
end
section
variable {P:Program} (w:World)
theorem rA (base:Nat) (t ty e:TypeId) (i:TypeInfo) (z:Value) (size bytes:Nat) (aT:P.underlying t=some (.slice e)) (aB:P.info? e=some i) (bT:i.zero=some z)
    (eA:i.size=size) (ew:i.bytes=bytes) (d_:z.cells.size=size) (cB:0<size) (G:Nat→Value→Prop) (eB:∀ j u,z.cells[j]? =some u→G j u)
    (v:Value) (n:Nat) (xs:List Value) (c8:Own w base e size G v n xs)
    (A:Option Addr) (m c:Nat) (news:List Value) (hr:Rd w size A m news) (af:∀ u∈news,u.oneCell'=true) (h':∀ j u,news[j]? =some u→G (j % size) u)
    (et:n+m≤maxLen) (dw:(n+m) * bytes≤140737488355328) (dH:base≤w.heap.size):
    ∃ v' w',(Builtin.append_ #[t,t] ty #[v, .slice A m c]).run P w= .ok v' w'∧Own w' base e size G v' (n+m) (xs++news)∧w.grownBy w' v.ownBlock∧
      (v'= .slice none 0 0↔v= .slice none 0 0∧m=0)∧(v'.ownBlock=v.ownBlock∨v'.ownBlock=some w.heap.size):=by
  subst eA;subst ew;have DY:n+m≤9223372036854775807:=by simp only [maxLen] at et;omega
  have aE:news.length=m * i.size:=hr.1;have gU:xs.length=n * i.size:=c8.1;have hlen:(xs++news).length=(n+m) * i.size:=by rw [GA,gU,aE,GG]
  have oM:(∀ j u,xs[j]? =some u→G (j % i.size) u)→∀ j u,(xs++news)[j]? =some u→G (j % i.size) u:=by
    intro hx j u hu;by_cases az:j<xs.length
    · rw [GJ az] at hu;exact hx j u hu
    · rw [GH (by omega)] at hu
      have:=h' _ u hu;rw [gU] at this az;have e:j % i.size=(j - n * i.size) % i.size:=by
        conv=>lhs;rw [show j=n * i.size+(j - n * i.size) from by omega]
        rw [GU n,HF]
      rw [e];exact this
  -- what the growing arm leaves, whatever was there before
  have grown:(∀ j u,xs[j]? =some u→G (j % i.size) u)→∀ (fx:Nat),fx<n+m→∀ (row:Option Nat),
      Own (w.drew.alloc (.cells (xs.toArray++news.toArray++Builtin.zeroCells z.cells (grownCap w (n+m) fx e - (n+m))) e)) base e i.size G
        (.slice (some ⟨w.heap.size,0,none⟩) (n+m) (grownCap w (n+m) fx e)) (n+m) (xs++news)∧
      w.grownBy (w.drew.alloc (.cells (xs.toArray++news.toArray++Builtin.zeroCells z.cells (grownCap w (n+m) fx e - (n+m))) e)) row:=by
    intro jy fx bo row;have la:=grownCap_ge w (n+m) fx e;have k8:grownCap w (n+m) fx e≤maxLen:=grownCap_le_maxLen w (n+m) fx e et;refine ⟨⟨hlen, .inr ⟨w.heap.size,_,_,Z,dH,HP w.drew _,la,k8, ?_, ?_, ?_⟩⟩,⟨Z,Z,Z,by simp,fun k aA _=>heap_alloc_old w.drew _ aA⟩⟩
    · simp only [Ib,GY,size_zeroCells,d_,gU,aE,← GG]
      congr 1;omega
    · simp only [H2,Hw]
      rw [← Hw,← hlen];exact List.take_left
    · intro j u hu
      rw [← GI] at hu;simp only [H2] at hu;by_cases az:j<(xs++news).length
      · rw [GJ az] at hu;exact oM jy j u hu
      · rw [GH (by simpa using az)] at hu
        rw [GI] at hu;have:=AB d_ cB eB _ _ u hu;have ez:(xs.toArray.toList++news.toArray.toList).length=(n+m) * i.size:=hlen;rw [ez] at this;rw [hlen] at az;have e:j % i.size=(j - (n+m) * i.size) % i.size:=by
          conv=>lhs;rw [show j=(n+m) * i.size+(j - (n+m) * i.size) from by omega]
          rw [GU (n+m),HF]
        rw [e];exact this
  have wJ:A=none∨∃ a,A=some a:=by cases A with | none=>exact .inl rfl | some a=>exact .inr ⟨a,rfl⟩
  rcases wJ with rfl | ⟨ad,rfl⟩
  · have hm:m=0:=by
      rcases H4 m with aU | aU
      · exact aU
      · obtain ⟨b,o,h,_⟩:=hr.2 aU
        cases h
    subst hm;have hn:news= []:=Gx (by simpa using aE);subst hn;refine ⟨v,w, ?_,by simpa using c8,World.grownBy.refl w _,by simp, .inl rfl⟩;rcases c8.2 with ⟨rfl,rfl⟩ | ⟨g,cap,cur,rfl,_,_,o3,_⟩
    · simp [Builtin.append_,Hn aT,sizeOf,typeInfo,aB,Builtin.lenOf,Builtin.firstCells]
    · simp [Builtin.append_,Hn aT,sizeOf,typeInfo,aB,Builtin.lenOf,Builtin.firstCells,o3,storeCells]
  have ia:∀ j u,news[j]? =some u→w.cell? (ad.add j)=some u:=by
    intro j u hu;rcases H4 m with aU | aU
    · subst aU
      have hn:news= []:=Gx (by simpa using aE);subst hn;simp at hu
    · obtain ⟨b,o,h,hc⟩:=hr.2 aU
      injection h with h
      subst h;rw [iY];exact hc j u hu
  rcases c8.2 with ⟨rfl,rfl⟩ | ⟨g,cap,cur,rfl,vB,aV,o3,k8,dx,lH,fp⟩
  · have hx:xs= []:=Gx (by simpa using gU)
    subst hx;by_cases hm:m=0
    · subst hm
      have hn:news= []:=Gx (by simpa using aE);subst hn;refine ⟨.slice none 0 0,w, ?_,Own.nil w base e i.size G,⟨Z,Z,Z,GB _,fun _ _ _=>Z⟩,by simp,Or.inl rfl⟩;simp [Builtin.append_,Hn aT,sizeOf,typeInfo,aB,Builtin.lenOf,Builtin.firstCells,loadCells,loadCellsFrom]
    · have hr:=run_append_nil (P:=P) w t ty e i z aT aB bT ad m c news aE ia (by omega) (by omega) (by have ak:=dw;simp only [GR] at ak;omega)
      have fr:=grown (fun j u hu=>by simp at hu) 0 (by omega) (Value.ownBlock (.slice none 0 0));simp only [GR,List.nil_append,H9] at fr ⊢;exact ⟨_,_,hr,fr.1,fr.2,by simp [hm],Or.inr rfl⟩
  · have jy:∀ j u,xs[j]? =some u→G (j % i.size) u:=by
      intro j u hu;rw [← lH,Hp] at hu;split at hu
      · exact fp j u (by rw [← GI];exact hu)
      · cases hu
    by_cases lD:n+m≤cap
    · have k9:n * i.size+news.length≤cur.size:=by rw [aE,dx,← GG];exact GL _ lD
      have hr:=run_append_room (P:=P) w t ty e i aT aB g n cap cur aV ad m c news aE ia af lD k9;refine ⟨_,_,hr,⟨hlen, .inr ⟨g,cap,_,Z,vB,setRow_heap w g cur _ e _ aV,lD,k8, ?_, ?_, ?_⟩⟩,⟨Z,Z,Z,by simp,fun k _ aA=>setRow_other w g k _ (fun e=>aA (by simp [Value.ownBlock,e]))⟩,by simp,Or.inl rfl⟩
      · simp only [GY,GA,List.length_take,HB,Array.length_toList]
        omega
      · rw [lH,← hlen]
        exact List.take_left
      · intro j u hu
        rw [lH] at hu;have hu:((xs++news)++cur.toList.drop (n * i.size+news.length))[j]? =some u:=by simpa using hu
        by_cases az:j<(xs++news).length
        · rw [GJ az] at hu;exact oM jy j u hu
        · rw [GH (by omega),H5] at hu
          rw [hlen] at hu az;rw [aE,← GG,show (n+m) * i.size+(j - (n+m) * i.size)=j from by omega] at hu;exact fp j u (by rw [← GI];exact hu)
    · have holds:∀ j u,xs[j]? =some u→w.cell? ((⟨g,0,none⟩:Addr).add j)=some u:=c8.row.cells (g:=g) rfl
      have hr:=run_append_grow (P:=P) w t ty e i z aT aB bT ⟨g,0,none⟩ n cap xs gU holds ad m c news aE ia (by omega) (by omega) (growslice_fits (by omega) dw);have fr:=grown jy cap (by omega) (Value.ownBlock (.slice (some ⟨g,0,none⟩) n cap));exact ⟨_,_,hr,fr.1,fr.2,by simp,Or.inr rfl⟩

theorem zp {o:Oper} {a:Act} {K:Act→World→Prop} {Q:Exit→Act→World→Prop} (s x:Operand) (t:TypeId)
    (bo:o.op= .call {callee:= .builtin .append,args:=#[s,x],argTypes:=#[t,t]})
    (base:Nat) (e:TypeId) (i:TypeInfo) (z:Value) (size bytes:Nat) (aT:P.underlying t=some (.slice e)) (aB:P.info? e=some i) (bT:i.zero=some z)
    (eA:i.size=size) (ew:i.bytes=bytes) (d_:z.cells.size=size) (cB:0<size) (G:Nat→Value→Prop) (eB:∀ j u,z.cells[j]? =some u→G j u)
    (v:Value) (n:Nat) (xs:List Value) (hs:a.eval s=v) (c8:Own w base e size G v n xs)
    (A:Option Addr) (m c:Nat) (news:List Value) (hx:a.eval x= .slice A m c) (hr:Rd w size A m news) (af:∀ u∈news,u.oneCell'=true) (h':∀ j u,news[j]? =some u→G (j % size) u)
    (et:n+m≤maxLen) (dw:(n+m) * bytes≤140737488355328) (dH:base≤w.heap.size)
    (h:∀ v' w',Own w' base e size G v' (n+m) (xs++news)→w.grownBy w' v.ownBlock→(v'= .slice none 0 0↔v= .slice none 0 0∧m=0)→(v'.ownBlock=v.ownBlock∨v'.ownBlock=some w.heap.size)→K (a.put o.dst v') w'):o.wp P a w K Q:=by
  obtain ⟨v',w',dZ,ai,aY,bd,bm⟩:=rA (P:=P) w base t o.type e i z size bytes aT aB bT eA ew d_ cB G eB v n xs c8 A m c news hr af h' et dw dH;unfold Oper.wp execOp;simp only [bo,resolve,invoke,builtin,Gu,Gv,Gr,List.map_toArray,G6,List.map_nil,hs,hx,dZ];exact h v' w' ai aY bd bm
theorem zl {ops:Array Oper} {rest:List Oper} {o:Oper} {a:Act} {Q:Exit→Act→World→Prop} (k_:o.guard=none) (s x:Operand) (t:TypeId)
    (bo:o.op= .call {callee:= .builtin .append,args:=#[s,x],argTypes:=#[t,t]})
    (base:Nat) (e:TypeId) (i:TypeInfo) (z:Value) (size bytes:Nat) (aT:P.underlying t=some (.slice e)) (aB:P.info? e=some i) (bT:i.zero=some z)
    (eA:i.size=size) (ew:i.bytes=bytes) (d_:z.cells.size=size) (cB:0<size) (G:Nat→Value→Prop) (eB:∀ j u,z.cells[j]? =some u→G j u)
    (v:Value) (n:Nat) (xs:List Value) (hs:a.eval s=v) (c8:Own w base e size G v n xs)
    (A:Option Addr) (m c:Nat) (news:List Value) (hx:a.eval x= .slice A m c) (hr:Rd w size A m news) (af:∀ u∈news,u.oneCell'=true) (h':∀ j u,news[j]? =some u→G (j % size) u)
    (et:n+m≤maxLen) (dw:(n+m) * bytes≤140737488355328) (dH:base≤w.heap.size)
    (h:∀ v' w',Own w' base e size G v' (n+m) (xs++news)→w.grownBy w' v.ownBlock→(v'= .slice none 0 0↔v= .slice none 0 0∧m=0)→(v'.ownBlock=v.ownBlock∨v'.ownBlock=some w.heap.size)→wpList P ops Q rest (a.put o.dst v') w'):wpList P ops Q (o::rest) a w :=
  wpList_plain k_ fun _ hK=>zp w s x t bo base e i z size bytes aT aB bT eA ew d_ cB G eB v n xs hs c8 A m c news hx hr af h' et dw dH fun v' w' ai aY bd bm=>hK _ _ (h v' w' ai aY bd bm)
end
open Go.ChangeShapes Go.WideShapes Go.Deep Go.RowKit
inductive bP where
  | int (k:IntKind)
  | bool
  | str
  | slice (e:bP) (bytes:Nat)
  | nil
  | cons (a b:bP)
def bP.size:bP→Nat
  | .int _ | .bool | .str | .slice _ _=>1
  | .nil=>0
  | .cons a b=>a.size+b.size
def partsOf (P:Program) (t:TypeId):Option (List (TypeId×Nat)):=
  match P.underlying t with
  | some (.struct fs)=>some (fs.toList.map fun f=>(f.type,f.offset))
  | some (.array n e)=>some ((List.range n).map fun i=>(e,i * P.cellsOf e))
  | _=>none
def bP.fit (P:Program):bP→TypeId ⊕ (Nat×List (TypeId×Nat))→Bool
  | .int k, .inl t=>match P.underlying t with | some (.int k')=>decide (k'=k) | _=>false
  | .bool, .inl t=>match P.underlying t with | some .bool=>true | _=>false
  | .str, .inl t=>match P.underlying t with | some .string=>true | _=>false
  | .slice e by_, .inl t=>match P.underlying t with | some (.slice u)=>P.cellsOf u == e.size && P.bytesOf u == by_ && e.fit P (.inl u) | _=>false
  | .nil, .inl t=>P.cellsOf t == 0 && (match P.underlying t with | some (.struct _)=>true | some (.array ..)=>true | _=>false)
  | .cons a b, .inl t=>P.cellsOf t == a.size+b.size && (match partsOf P t with
      | some ((u,o)::r)=>o == 0 && P.cellsOf u == a.size && a.fit P (.inl u) && b.fit P (.inr (a.size,r))
      | _=>false)
  | .nil, .inr (_,fs)=>fs.isEmpty
  | .cons a b, .inr (off,fs)=>match fs with
    | (u,o)::r=>o == off && P.cellsOf u == a.size && a.fit P (.inl u) && b.fit P (.inr (off+a.size,r))
    | []=>false
  | _, .inr _=>false
def bP.dV (w:World):bP→List Value→Prop
  | .int k,cs=>∃ n,cs= [.int k n]∧(Lit.int k n).wf=true
  | .bool,cs=>∃ b,cs= [.bool b]
  | .str,cs=>∃ s:ByteArray,cs= [.string s]∧s.size≤maxLen∧s.size≤140737488351232
  | .slice e by_,cs=>cs= [.slice none 0 0]∨∃ (a:Addr) (len cap:Nat),cs= [.slice (some a) len cap]∧len≤cap∧cap≤maxLen∧cap * by_≤140737488351232∧
      ∀ i,i<cap→∃ es:List Value,es.length=e.size∧(∀ j v,es[j]? =some v→w.cell? (a.add (i * e.size+j))=some v)∧e.dV w es
  | .nil,cs=>cs= []
  | .cons a b,cs=>∃ xs ys,cs=xs++ys∧xs.length=a.size∧ys.length=b.size∧a.dV w xs∧b.dV w ys
variable {H:Type} {enc:TypeId×Value→H} {P:Program} {w:World} {base:Nat} {held:Bool}
theorem rZ {e:TypeId} {l:List (DataW H)} {d:DataW H} (h:d∈l):∀ n∈d.weights P e,n∈DataW.weightsAll P e l:=by
  induction l with
  | nil=>cases h
  | cons x r cq =>
    intro n hn;simp only [DataW.weightsAll,Gz];rcases G5.1 h with rfl | h
    · exact .inl hn
    · exact .inr (cq h n hn)
def hP (enc:TypeId×Value→H) (P:Program) (w:World) (base:Nat) (held:Bool) (n:Nat) (cs:List Value) (fs:List (TypeId×Nat)) (xs:List (DataW H×List MemPlace)):Prop :=
  xs.length=fs.length∧∀ (i:Nat) (f:TypeId×Nat),fs[i]? =some f→DataW.trod enc P w base (fun _=>true) held n f.1 ((cs.drop f.2).take (P.cellsOf f.1))=xs[i]?
theorem hP.cons {n:Nat} {cs:List Value} {f:TypeId×Nat} {r:List (TypeId×Nat)} {xs:List (DataW H×List MemPlace)} (h:hP enc P w base held n cs (f::r) xs):
    ∃ x ys,xs=x::ys∧DataW.trod enc P w base (fun _=>true) held n f.1 ((cs.drop f.2).take (P.cellsOf f.1))=some x∧hP enc P w base held n cs r ys:=by
  obtain ⟨aE,hf⟩:=h
  match xs,aE with
  | x::ys,aE =>
    refine ⟨x,ys,Z,hf 0 f Z,by simpa using aE,fun i g aV=> ?_⟩;exact hf (i+1) g aV
def Goal (P:Program) (w:World) (sh:bP):TypeId ⊕ (Nat×List (TypeId×Nat))→Prop
  | .inl t=>∀ (H:Type) (enc:TypeId×Value→H) (base:Nat) (held:Bool) (fuel:Nat) (cs:List Value) (x:DataW H×List MemPlace),DataW.trod enc P w base (fun _=>true) held fuel t cs=some x→(∀ n∈x.1.weights P t,n≤reachBytes)→cs.length=sh.size∧sh.dV w cs
  | .inr (off,fs)=>∀ (H:Type) (enc:TypeId×Value→H) (base:Nat) (held:Bool) (n:Nat) (cs:List Value) (xs:List (DataW H×List MemPlace)),hP enc P w base held n cs fs xs→cs.length=off+sh.size→(∀ n∈DataW.weightsEach P (fs.map (·.1)) (xs.map (·.1)),n≤reachBytes)→sh.dV w (cs.drop off)
theorem Goal.fields {a b:bP} (wU:∀ t,a.fit P t=true→Goal P w a t) (wV:∀ t,b.fit P t=true→Goal P w b t) {off:Nat} {f:TypeId×Nat} {r:List (TypeId×Nat)} (af:f.2=off) (ai:P.cellsOf f.1=a.size) (aY:a.fit P (.inl f.1)=true) (bd:b.fit P (.inr (off+a.size,r))=true):
    Goal P w (.cons a b) (.inr (off,f::r)):=by
  intro H enc base held n cs xs hx aE hw;obtain ⟨x,ys,rfl,aT,hr⟩:=hx.cons;have ha:=wU _ aY H enc base held n _ x aT (fun m hm=>hw m (by simp only [G6,DataW.weightsEach,Gz];exact .inl hm));have cB:(bP.cons a b).size=a.size+b.size:=rfl;have ak:=wV _ bd H enc base held n cs ys hr (by omega) (fun m hm=>hw m (by simp only [G6,DataW.weightsEach,Gz];exact .inr hm));rw [af,ai] at ha;refine ⟨_,_, ?_,ha.1, ?_,ha.2,ak⟩
  · rw [← List.drop_drop,List.take_append_drop]
  · rw [HB];omega
theorem r0 {e:TypeId}:∀ (l:List (DataW H)) (ts:List TypeId),ts.length=l.length→(∀ t∈ts,t=e)→DataW.weightsEach P ts l=DataW.weightsAll P e l
  | [], [],_,_=>rfl
  | d::l,t::ts,h,aT=>by
    rw [DataW.weightsEach,DataW.weightsAll,aT t (by simp),r0 l ts (by simpa using h) (fun u hu=>aT u (by simp [hu]))]
  | [],_::_,h,_=>by simp at h
  | _::_, [],h,_=>by simp at h
theorem rE {t:TypeId} {fs:List (TypeId×Nat)} {fuel:Nat} {cs:List Value} {x:DataW H×List MemPlace} (hp:partsOf P t=some fs) (h:DataW.trod enc P w base (fun _=>true) held fuel t cs=some x):
    cs.length=P.cellsOf t∧∃ (xs:List (DataW H×List MemPlace)) (n:Nat),hP enc P w base held n cs fs xs∧x.1.weights P t=DataW.weightsEach P (fs.map (·.1)) (xs.map (·.1)):=by
  unfold partsOf at hp;split at hp
  · rename_i gs hu
    obtain rfl:=Gn hp;obtain ⟨xs,n,_,rfl,aE,hlen,hf⟩:=DataW.trod_struct hu h;refine ⟨aE,xs,n,⟨by rw [hlen];simp,fun i f aV=> ?_⟩, ?_⟩
    · rw [GO] at aV
      match vM:gs.toList[i]?,aV with
      | some g,aV =>
        obtain rfl:=Gn aV;exact hf i g (by rw [← GI];exact vM)
    · simp only [DataW.weights,hu,List.map_map]
      rfl
  · rename_i m e hu
    obtain rfl:=Gn hp;obtain ⟨xs,n,_,rfl,aE,hlen,hf⟩:=DataW.trod_array hu h;refine ⟨aE,xs,n,⟨by rw [hlen];simp,fun i f aV=> ?_⟩, ?_⟩
    · rw [GO] at aV
      have aB:i<m:=by
        rcases Hh i m with h | h
        · exact h
        · rw [List.getElem?_eq_none (by simpa using h)] at aV;cases aV
      rw [List.getElem?_range aB] at aV;obtain rfl:=Gn aV;exact hf i aB
    · simp only [DataW.weights,hu]
      rw [r0 (e:=e)]
      · simp [hlen]
      · intro u hu;simp at hu;exact hu.2.symm
  · cases hp
theorem gP (P:Program) (w:World):∀ (sh:bP) (t:TypeId ⊕ (Nat×List (TypeId×Nat))),sh.fit P t=true→Goal P w sh t
  | .int k, .inl t,h=>by
    intro H enc base held fuel cs x aT _;unfold bP.fit at h;split at h
    · rename_i k' hu
      obtain rfl:k'=k:=GK h;cases fuel with
      | zero=>simp [DataW.trod] at aT
      | succ n =>
        unfold DataW.trod at aT;rw [hu] at aT;split at aT<;>simp_all;exact ⟨Z,_,Z,aT.1.2⟩
    · cases h
  | .bool, .inl t,h=>by
    intro H enc base held fuel cs x aT _;unfold bP.fit at h;split at h
    · rename_i hu
      cases fuel with
      | zero=>simp [DataW.trod] at aT
      | succ n =>
        unfold DataW.trod at aT;rw [hu] at aT;split at aT<;>simp_all;exact ⟨Z,_,Z⟩
    · cases h
  | .str, .inl t,h=>by
    intro H enc base held fuel cs x aT hw;unfold bP.fit at h;split at h
    · rename_i hu
      cases fuel with
      | zero=>simp [DataW.trod] at aT
      | succ n =>
        unfold DataW.trod at aT;rw [hu] at aT;split at aT<;>simp_all;obtain ⟨af,rfl⟩:=aT;refine ⟨Z,_,Z,af, ?_⟩;simpa [DataW.weights,reachBytes] using hw
    · cases h
  | .slice e by_, .inl t,h=>by
    intro H enc base held fuel cs x aT hw;unfold bP.fit at h;split at h
    · rename_i u hu
      simp only [Gw,G3] at h;obtain ⟨⟨af,ai⟩,aY⟩:=h;rcases open_slice hu aT with ⟨rfl,_⟩ | ⟨a,len,cap,m,n,D,n7,rfl,_,aE,hm,o2,rfl,aB⟩
      · exact ⟨rfl, .inl rfl⟩
      · simp only [HS] at o2
        subst o2;refine ⟨Z, .inr ⟨a,len,m,Z,aE,hm, ?_,fun i vP=> ?_⟩⟩
        · have:=hw ((((List.range len).map D).length+((List.range (m - len)).map fun j=>D (len+j)).length) * P.bytesOf u) (by simp [DataW.weights,hu])
          rw [ai] at this;simp only [G9,Hu,reachBytes] at this;rw [show len+(m - len)=m from by omega] at this;exact this
        · obtain ⟨oq,hc,wM⟩:=aB i vP
          have aV:=gP P w e (.inl u) aY H enc base held n oq _ wM (fun k aA=>hw k (by
            simp only [DataW.weights,hu,G5,Gz];right;by_cases vO:i<len
            · exact .inl (rZ (GF.2 ⟨i,GZ.2 vO,rfl⟩) k aA)
            · exact .inr (rZ (GF.2 ⟨i - len,GZ.2 (by omega),by rw [show len+(i - len)=i from by omega]⟩) k aA)))
          obtain ⟨_,k7,cf⟩:=World.cells?_some hc;refine ⟨oq,aV.1,fun j v hv=> ?_,aV.2⟩;have az:j<P.cellsOf u:=by have:=(Gq.1 hv).1;omega
          rw [af] at cf az;rw [← Go.Deep.add_add,cf j az,hv]
    · cases h
  | .nil, .inl t,h=>by
    intro H enc base held fuel cs x aT hw;unfold bP.fit at h;simp only [Gw,G3] at h;obtain ⟨aU,af⟩:=h;have hp:∃ fs,partsOf P t=some fs:=by
      unfold partsOf;split at af
      · exact ⟨_,rfl⟩
      · exact ⟨_,rfl⟩
      · cases af
    obtain ⟨fs,hp⟩:=hp;have aE:=(rE hp aT).1;rw [aU] at aE;exact ⟨aE,Gx aE⟩
  | .cons a b, .inl t,h=>by
    intro H enc base held fuel cs x aT hw;unfold bP.fit at h;simp only [Gw,G3] at h;obtain ⟨aU,h⟩:=h;split at h
    · rename_i u o r hp
      obtain ⟨aE,xs,n,hx,he⟩:=rE hp aT;rw [aU] at aE;refine ⟨aE, ?_⟩;simp only [Gw,G3] at h;obtain ⟨⟨⟨af,ai⟩,aY⟩,bd⟩:=h;have bd:b.fit P (.inr (0+a.size,r))=true:=by rw [GR];exact bd
      exact Goal.fields (w:=w) (f:=(u,o)) (fun t aT=>gP P w a t aT) (fun t aT=>gP P w b t aT) af ai aY bd H enc base held n cs xs hx (by rw [aE];show _=0+(a.size+b.size);omega) (fun m hm=>hw m (by rw [he];exact hm))
    · cases h
  | .nil, .inr (off,fs),h=>by
    intro H enc base held n cs xs hx aE hw;exact Gx (by rw [HB,aE];simp [bP.size])
  | .cons a b, .inr (off,fs),h=>by
    unfold bP.fit at h;split at h
    · rename_i u o r
      simp only [Gw,G3] at h;obtain ⟨⟨⟨af,ai⟩,aY⟩,bd⟩:=h;exact Goal.fields (f:=(u,o)) (fun t aT=>gP P w a t aT) (fun t aT=>gP P w b t aT) af ai aY bd
    · cases h
  | .int _, .inr _,h=>by simp [bP.fit] at h
  | .bool, .inr _,h=>by simp [bP.fit] at h
  | .str, .inr _,h=>by simp [bP.fit] at h
  | .slice _ _, .inr _,h=>by simp [bP.fit] at h
theorem q8 {ts:List TypeId} {ds:List (DataW H)} (sh:bP) {j:Nat} {t:TypeId} {v:Value} {d:DataW H} {p:List MemPlace} (k9:sh.fit P (.inl t)=true)
    (cB:(DataW.weightsEach P ts ds).all (· ≤reachBytes)=true) (aT:ts[j]? =some t) (hd:ds[j]? =some d) (h:DataW.Trod enc P w base (fun _=>true) held t v d p):
    v.cells.toList.length=sh.size∧sh.dV w v.cells.toList:=by
  obtain ⟨fuel,hf⟩:=h;exact gP P w sh (.inl t) k9 H enc base held fuel _ (d,p) hf (fun n hn=>by
    have:=GV.1 cB _ (DataW.weights_mem_each aT hd n hn);simpa using this)
theorem pS {α:Type} (n:Nat) (p:Nat→α→Prop) (h:∀ i,i<n→∃ x,p i x):∃ l:List α,l.length=n∧∀ i (aB:i<l.length),p i l[i]:=by
  induction n with
  | zero=>exact ⟨[],rfl,fun i aB=>absurd aB (by simp)⟩
  | succ n cq =>
    obtain ⟨l,aE,hp⟩:=cq (fun i aB=>h i (by omega));obtain ⟨x,hx⟩:=h n (by omega);refine ⟨l++ [x],by simp [aE],fun i aB=> ?_⟩;by_cases oT:i<l.length
    · rw [List.getElem_append_left oT];exact hp i oT
    · have:i=n:=by simp at aB;omega
      subst this;rw [List.getElem_append_right (by omega)];simpa [aE] using hx
def a8 {β α:Type} (P:β→α→Prop):List β→List α→Prop
  | [], []=>True
  | b::tW,a::m=>P b a∧a8 P tW m
  | _,_=>False
section
variable {β α:Type} {P Q:β→α→Prop}
theorem a8.length:∀ {l:List β} {m:List α},a8 P l m→l.length=m.length
  | [], [],_=>rfl
  | _::_,_::_,h=>by rw [Hf,Hf,a8.length h.2]
  | [],_::_,h=>h.elim
  | _::_, [],h=>h.elim
theorem a8.imp {l:List β} (aB:∀ b a,b∈l→P b a→Q b a):∀ {m:List α},a8 P l m→a8 Q l m:=by
  induction l with
  | nil=>intro m h;cases m with | nil=>trivial | cons=>exact h
  | cons b r cq =>
    intro m h;cases m with
    | nil=>exact h
    | cons a s=>exact ⟨aB b a (by simp) h.1,cq (fun b a ak=>aB b a (by simp [ak])) h.2⟩
theorem a8.app:∀ {l:List β} {m:List α} {eK:List β} {m':List α},a8 P l m→a8 P eK m'→a8 P (l++eK) (m++m')
  | [], [],_,_,_,h=>h
  | _::_,_::_,_,_,h,bM=>⟨h.1,a8.app h.2 bM⟩
  | [],_::_,_,_,h,_=>h.elim
  | _::_, [],_,_,h,_=>h.elim
theorem a8.at_:∀ {l:List β} {m:List α} {i:Nat} {a:α},a8 P l m→m[i]? =some a→∃ b,l[i]? =some b∧P b a
  | [], [],_,_,_,h=>by simp at h
  | b::_,_::_,0,_,h,e=>⟨b,rfl,by simp at e;subst e;exact h.1⟩
  | _::_,_::_,i+1,_,h,e=>by
    obtain ⟨b,af,ai⟩:=a8.at_ (i:=i) h.2 (by simpa using e);exact ⟨b,by simpa using af,ai⟩
  | [],_::_,_,_,h,_=>h.elim
  | _::_, [],_,_,h,_=>h.elim
theorem a8.rB:∀ {l:List β} {m:List α} {i:Nat} {b:β} {a:α},a8 P l m→P b a→a8 P (l.set i b) (m.set i a)
  | [], [],_,_,_,_,_=>trivial
  | _::_,_::_,0,_,_,h,e=>⟨e,h.2⟩
  | _::_,_::_,_+1,_,_,h,e=>⟨h.1,a8.rB h.2 e⟩
  | [],_::_,_,_,_,h,_=>h.elim
  | _::_, [],_,_,_,h,_=>h.elim
theorem a8.jI:∀ {l:List β} {m:List α} (k:Nat),a8 P l m→a8 P (l.take k) (m.take k)
  | [], [],_,_=>by simp [a8]
  | _::_,_::_,0,_=>trivial
  | _::_,_::_,k+1,h=>⟨h.1,a8.jI k h.2⟩
  | [],_::_,_,h=>h.elim
  | _::_, [],_,h=>h.elim
theorem a8.left:∀ {l:List β} {m:List α},a8 P l m→∀ b∈l,∃ a,P b a
  | [],_,_,b,ak=>by simp at ak
  | c::_, [],h,_,_=>h.elim
  | c::_,a::_,h,b,ak=>by
    rcases G5.1 ak with rfl | ak
    · exact ⟨a,h.1⟩
    · exact a8.left h.2 b ak
end
theorem gO {k:Nat}:∀ {l:List (List Value)},(∀ x∈l,x.length=k)→l.flatten.length=l.length * k
  | [],_=>by simp
  | x::r,h=>by rw [GM,GA,h x (by simp),gO (l:=r) (fun y aJ=>h y (by simp [aJ])),Hf,GG];omega
theorem gN {k:Nat}:∀ {l:List (List Value)} {i j:Nat} {es:List Value},(∀ x∈l,x.length=k)→l[i]? =some es→j<k→l.flatten[i * k+j]? =es[j]?
  | [],_,_,_,_,h,_=>by simp at h
  | x::r,0,j,es,h,e,az=>by
    have e:x=es:=by simpa using e
    subst e;rw [GM,Nat.zero_mul,GR,GJ (by rw [h x (by simp)];exact az)]
  | x::r,i+1,j,es,h,e,az=>by
    have hx:=h x (by simp);rw [GM,GH (by rw [hx,GG];omega),hx,show (i+1) * k+j - k=i * k+j from by rw [GG];omega];exact gN (fun y aJ=>h y (by simp [aJ])) (by simpa using e) az
theorem oB {k:Nat}:∀ {l:List (List Value)} {i j:Nat} {es:List Value} (u:Value),(∀ x∈l,x.length=k)→l[i]? =some es→j<k→l.flatten.set (i * k+j) u=(l.set i (es.set j u)).flatten
  | [],_,_,_,_,_,h,_=>by simp at h
  | x::r,0,j,es,u,h,e,az=>by
    have e:x=es:=by simpa using e
    subst e;rw [GM,Nat.zero_mul,GR,List.set_append_left _ _ (by rw [h x (by simp)];exact az)];rfl
  | x::r,i+1,j,es,u,h,e,az=>by
    have hx:=h x (by simp);rw [GM,List.set_append_right _ _ (by rw [hx,GG];omega),hx,show (i+1) * k+j - k=i * k+j from by rw [GG];omega,oB u (fun y aJ=>h y (by simp [aJ])) (by simpa using e) az];rfl
theorem oC {k:Nat}:∀ {l:List (List Value)} (i:Nat),(∀ x∈l,x.length=k)→l.flatten.take (i * k)=(l.take i).flatten
  | [],_,_=>by simp
  | x::r,0,_=>by simp
  | x::r,i+1,h=>by
    have hx:=h x (by simp);rw [GM,List.take_succ_cons,GM,List.take_append,hx,GX (by rw [hx,GG];omega),show (i+1) * k - k=i * k from by rw [GG];omega,oC i (fun y aJ=>h y (by simp [aJ]))]
structure γ (α:Type) where
  size:Nat
  has:World→List Value→α→Prop
  own:World→Nat→List Nat→List Value→α→Prop
  raw:Nat→Value→Prop
  len:∀ {w cs a},has w cs a→cs.length=size
  one:∀ {w cs a},has w cs a→∀ u∈cs,u.oneCell'=true
  eC:∀ {w cs a},has w cs a→∀ (j:Nat) u,cs[j]? =some u→raw j u
  keep:∀ {w w' cs a},has w cs a→Below w.heap.size w w'→has w' cs a
  dP:∀ {w B f cs a},own w B f cs a→has w cs a
  eb:∀ {w w' B f cs a},own w B f cs a→(∀ g∈f,w'.heap[g]? =w.heap[g]?)→own w' B f cs a
  ec:∀ {w B f cs a},own w B f cs a→∀ g∈f,B≤g∧g<w.heap.size
  e_:∀ {w B fM f cs a},own w B f cs a→fM≤B→own w fM f cs a
namespace γ
variable {α β:Type} {w w':World} {B fM:Nat} {f:List Nat} {cs:List Value} {a:α}
theorem l6 (R:γ α) (h:R.own w B f cs a):cs.length=R.size:=R.len (R.dP h)
def uG (size:Nat) (cells:α→List Value) (ok:α→Prop) (raw:Nat→Value→Prop) (aE:∀ a,(cells a).length=size) (af:∀ a,∀ u∈cells a,u.oneCell'=true) (hr:∀ a,ok a→∀ (j:Nat) u,(cells a)[j]? =some u→raw j u):γ α where
  size:=size
  has:=fun _ cs a=>cs=cells a∧ok a
  own:=fun _ _ f cs a=>f= []∧cs=cells a∧ok a
  raw:=raw
  len:=by rintro w cs a ⟨rfl,_⟩;exact aE a
  one:=by rintro w cs a ⟨rfl,_⟩;exact af a
  eC:=by rintro w cs a ⟨rfl,h⟩;exact hr a h
  keep:=fun h _=>h
  dP:=fun h=>h.2
  eb:=fun h _=>h
  ec:=by rintro w B f cs a ⟨rfl,_⟩ g aV;simp at aV
  e_:=fun h _=>h
def flat (size:Nat) (cells:α→List Value) (ok:α→Prop) (raw:Nat→Value→Prop) (aE:∀ a,(cells a).length=size) (af:∀ a,∀ u∈cells a,u.oneCell'=true) (hr:∀ a (j:Nat) u,(cells a)[j]? =some u→raw j u):γ α where
  size:=size
  has:=fun _ cs a=>cs=cells a∧ok a
  own:=fun _ _ f cs a=>f= []∧cs=cells a∧ok a
  raw:=raw
  len:=by rintro w cs a ⟨rfl,_⟩;exact aE a
  one:=by rintro w cs a ⟨rfl,_⟩;exact af a
  eC:=by rintro w cs a ⟨rfl,_⟩;exact hr a
  keep:=fun h _=>h
  dP:=fun h=>h.2
  eb:=fun h _=>h
  ec:=by rintro w B f cs a ⟨rfl,_⟩ g aV;simp at aV
  e_:=fun h _=>h
def pair (R:γ α) (S:γ β):γ (α×β) where
  size:=R.size+S.size
  has:=fun w cs p=>∃ xs ys,cs=xs++ys∧R.has w xs p.1∧S.has w ys p.2
  own:=fun w B f cs p=>∃ xs ys f1 f2,cs=xs++ys∧f=f1++f2∧R.own w B f1 xs p.1∧S.own w B f2 ys p.2
  raw:=fun j u=>if j<R.size then R.raw j u else S.raw (j - R.size) u
  len:=by rintro w cs p ⟨xs,ys,rfl,af,ai⟩;rw [GA,R.len af,S.len ai]
  one:=by
    rintro w cs p ⟨xs,ys,rfl,af,ai⟩ u hu;rcases Gz.1 hu with hu | hu
    · exact R.one af u hu
    · exact S.one ai u hu
  eC:=by
    rintro w cs p ⟨xs,ys,rfl,af,ai⟩ j u hu;by_cases az:j<R.size
    · rw [G8 az];rw [GJ (by rw [R.len af];exact az)] at hu;exact R.eC af j u hu
    · rw [Hg az];rw [GH (by rw [R.len af];omega),R.len af] at hu;exact S.eC ai _ u hu
  keep:=by rintro w w' cs p ⟨xs,ys,rfl,af,ai⟩ ak;exact ⟨xs,ys,Z,R.keep af ak,S.keep ai ak⟩
  dP:=by rintro w B f cs p ⟨xs,ys,f1,f2,rfl,rfl,af,ai⟩;exact ⟨xs,ys,Z,R.dP af,S.dP ai⟩
  eb:=by
    rintro w w' B f cs p ⟨xs,ys,f1,f2,rfl,rfl,af,ai⟩ aA;exact ⟨xs,ys,f1,f2,Z,Z,R.eb af (fun g aV=>aA g (by simp [aV])),S.eb ai (fun g aV=>aA g (by simp [aV]))⟩
  ec:=by
    rintro w B f cs p ⟨xs,ys,f1,f2,rfl,rfl,af,ai⟩ g aV;rcases Gz.1 aV with aV | aV
    · exact R.ec af g aV
    · exact S.ec ai g aV
  e_:=by
    rintro w B fM f cs p ⟨xs,ys,f1,f2,rfl,rfl,af,ai⟩ ak;exact ⟨xs,ys,f1,f2,Z,Z,R.e_ af ak,S.e_ ai ak⟩
def via (R:γ α) (g:β→α):γ β where
  size:=R.size
  has:=fun w cs b=>R.has w cs (g b)
  own:=fun w B f cs b=>R.own w B f cs (g b)
  raw:=R.raw
  len:=fun h=>R.len h
  one:=fun h=>R.one h
  eC:=fun h=>R.eC h
  keep:=fun h ak=>R.keep h ak
  dP:=fun h=>R.dP h
  eb:=fun h aA=>R.eb h aA
  ec:=fun h=>R.ec h
  e_:=fun h ak=>R.e_ h ak
def aq:Option Addr→List Nat
  | none=> []
  | some a=> [a.block]
theorem xS {A:Option Addr} {g:Nat}:g∈aq A↔∃ a,A=some a∧a.block=g:=by
  cases A with
  | none=>simp [aq]
  | some a=>simp [aq,eq_comm]
def ar (R:γ α) (by_:Nat) (w:World) (A:Option Addr) (c:Nat) (l:List α):Prop :=
  l.length≤c∧c≤9223372036854775807∧l.length * by_≤140737488355328∧(A=none→c=0)∧
  ∃ bw,a8 (fun es a=>R.has w es a) bw l∧Rd w R.size A l.length bw.flatten
def aG (R:γ α) (E:TypeId) (by_:Nat) (w:World) (B:Nat) (f:List Nat) (A:Option Addr) (c:Nat) (l:List α):Prop :=
  l.length * by_≤140737488355328∧
  ∃ ps:List (List Nat×List Value),f=aq A++(ps.map (·.1)).flatten∧f.Nodup∧Own w B E R.size R.raw (.slice A l.length c) l.length (ps.map (·.2)).flatten∧
    a8 (fun x a=>R.own w B x.1 x.2 a) ps l
theorem ar.keep {R:γ α} {by_:Nat} {A:Option Addr} {c:Nat} {l:List α} (h:R.ar by_ w A c l) (ak:Below w.heap.size w w'):R.ar by_ w' A c l:=by
  obtain ⟨af,ai,aY,bd,bw,bm,bF⟩:=h;exact ⟨af,ai,aY,bd,bw,bm.imp (fun es a _ h=>R.keep h ak),bF.later ak⟩
theorem a8.l1 {β sx α:Type} (g:β→sx) {P:sx→α→Prop}:∀ {l:List β} {m:List α},a8 (fun b a=>P (g b) a) l m→a8 P (l.map g) m
  | [], [],_=>trivial
  | _::_,_::_,h=>⟨h.1,a8.l1 g h.2⟩
  | [],_::_,h=>h.elim
  | _::_, [],h=>h.elim
theorem aG.has {R:γ α} {E:TypeId} {by_:Nat} {A:Option Addr} {c:Nat} {l:List α} (h:R.aG E by_ w B f A c l):R.ar by_ w A c l:=by
  obtain ⟨af,ps,rfl,aY,bd,bm⟩:=h;obtain ⟨bs,bJ,e,hle,hmx,pI,_,gT⟩:=bd.shape;injection e with c4 _ c5
  subst c4;subst c5;refine ⟨hle,by unfold maxLen at hmx;omega,af,fun hn=>by have:=gT hn;injection this,_,a8.l1 (fun x:List Nat×List Value=>x.2) (bm.imp fun x a _ h=>R.dP h),pI⟩
theorem aG.keep {R:γ α} {E:TypeId} {by_:Nat} {A:Option Addr} {c:Nat} {l:List α} (h:R.aG E by_ w B f A c l) (aA:∀ g∈f,w'.heap[g]? =w.heap[g]?):R.aG E by_ w' B f A c l:=by
  obtain ⟨af,ps,rfl,aY,bd,bm⟩:=h;refine ⟨af,ps,Z,aY,bd.l5 (B:=0) fun g aV=>aA g ?_,bm.imp fun x a hx h=>R.eb h fun g aV=>aA g ?_⟩
  · cases A with
    | none=>cases aV
    | some a=>injection aV with aV;simp [aq,aV]
  · exact Gz.2 (.inr (GC.2 ⟨x.1,GF.2 ⟨x,hx,rfl⟩,aV⟩))
theorem aG.lt {R:γ α} {E:TypeId} {by_:Nat} {A:Option Addr} {c:Nat} {l:List α} (h:R.aG E by_ w B f A c l):∀ g∈f,B≤g∧g<w.heap.size:=by
  obtain ⟨af,ps,rfl,aY,bd,bm⟩:=h;intro g aV;rcases Gz.1 aV with aV | aV
  · obtain ⟨a,rfl,rfl⟩:=xS.1 aV
    exact bd.row.lt _ Z
  · obtain ⟨y,aJ,aV⟩:=GC.1 aV
    obtain ⟨x,hx,rfl⟩:=GF.1 aJ;obtain ⟨a,ha⟩:=bm.left x hx;exact R.ec ha g aV
theorem aG.later {R:γ α} {E:TypeId} {by_:Nat} {A:Option Addr} {c:Nat} {l:List α} (h:R.aG E by_ w B f A c l) (ak:Below w.heap.size w w'):R.aG E by_ w' B f A c l:=h.keep fun g aV=>ak.block g (h.lt g aV).2
theorem aG.nodup {R:γ α} {E:TypeId} {by_:Nat} {A:Option Addr} {c:Nat} {l:List α} (h:R.aG E by_ w B f A c l):f.Nodup:=by
  obtain ⟨_,ps,rfl,aY,_⟩:=h;exact aY
theorem aG.down {R:γ α} {E:TypeId} {by_:Nat} {A:Option Addr} {c:Nat} {l:List α} (h:R.aG E by_ w B f A c l) (ak:fM≤B):R.aG E by_ w fM f A c l:=by
  obtain ⟨af,ps,rfl,aY,bd,bm⟩:=h;exact ⟨af,ps,Z,aY,bd.mono ak,bm.imp fun x a _ h=>R.e_ h ak⟩
def slice (R:γ α) (E:TypeId) (by_:Nat):γ (List α) where
  size:=1
  has:=fun w cs l=>∃ A c,cs= [.slice A l.length c]∧R.ar by_ w A c l
  own:=fun w B f cs l=>∃ A c,cs= [.slice A l.length c]∧R.aG E by_ w B f A c l
  raw:=fun _ u=>∃ A n c,u= .slice A n c
  len:=by rintro w cs l ⟨A,c,rfl,_⟩;rfl
  one:=by rintro w cs l ⟨A,c,rfl,_⟩ u hu;simp at hu;subst hu;rfl
  eC:=by
    rintro w cs l ⟨A,c,rfl,_⟩ j u hu;cases j with
    | zero=>simp at hu;exact ⟨_,_,_,hu.symm⟩
    | succ j=>simp at hu
  keep:=by rintro w w' cs l ⟨A,c,rfl,h⟩ ak;exact ⟨A,c,Z,h.keep ak⟩
  dP:=by rintro w B f cs l ⟨A,c,rfl,h⟩;exact ⟨A,c,Z,h.has⟩
  eb:=by rintro w w' B f cs l ⟨A,c,rfl,h⟩ aA;exact ⟨A,c,Z,h.keep aA⟩
  ec:=by rintro w B f cs l ⟨A,c,rfl,h⟩;exact h.lt
  e_:=by rintro w B fM f cs l ⟨A,c,rfl,h⟩ ak;exact ⟨A,c,Z,h.down ak⟩
theorem a8.q6 {β α:Type} {P:β→α→Prop}:∀ {l:List β} {m:List α},l.length=m.length→(∀ (k:Nat) b a,l[k]? =some b→m[k]? =some a→P b a)→a8 P l m
  | [], [],_,_=>trivial
  | b::l,a::m,aE,h=>⟨h 0 b a rfl rfl,a8.q6 (by simpa using aE) (fun k b a af ai=>h (k+1) b a (by simpa using af) (by simpa using ai))⟩
  | [],_::_,aE,_=>by simp at aE
  | _::_, [],aE,_=>by simp at aE
section
variable {R:γ α} {E:TypeId} {by_:Nat} {A:Option Addr} {c:Nat} {l:List α}
theorem lens {bw:List (List Value)} (h:a8 (fun es a=>R.has w es a) bw l):∀ x∈bw,x.length=R.size:=fun x hx=>by
  obtain ⟨a,ha⟩:=h.left x hx;exact R.len ha
theorem ar.at_ (h:R.ar by_ w A c l) (aU:0<l.length):∃ b o,A=some ⟨b,o,none⟩∧∀ (i:Nat) a,l[i]? =some a→∃ es,R.has w es a∧∀ (j:Nat) u,es[j]? =some u→w.cell? ⟨b,o+(i * R.size+j),none⟩=some u:=by
  obtain ⟨_,_,_,_,bw,bm,bF,b6⟩:=h;obtain ⟨b,o,e,hc⟩:=b6 aU;refine ⟨b,o,e,fun i a ha=> ?_⟩;obtain ⟨es,eZ,h3⟩:=bm.at_ ha;refine ⟨es,h3,fun j u hu=>hc _ u ?_⟩;have az:=(Gq.1 hu).1;rw [R.len h3] at az;rw [gN (lens bm) eZ az];exact hu
theorem ra {e:bP} (he:∀ w cs,e.dV w cs→∃ a,R.has w cs a) (hs:e.size=R.size) (aU:0<R.size) {cs:List Value} (h:(bP.slice e by_).dV w cs):∃ A c l,cs= [.slice A (List.length l) c]∧R.ar by_ w A c l:=by
  rcases h with rfl | ⟨a,len,cap,rfl,aE,hm,hr,aB⟩
  · exact ⟨none,0, [],rfl,GB _,by simp,by simp,fun _=>rfl, [],trivial,Rd.zero w R.size none⟩
  · obtain ⟨bw,hlen,jj⟩:=pS len (fun i es=>List.length es=e.size∧(∀ j v,es[j]? =some v→w.cell? (a.add (i * e.size+j))=some v)∧e.dV w es) (fun i vN=>aB i (by omega))
    obtain ⟨l,ez,vZ⟩:=pS len (fun i x=>∃ es,bw[i]? =some es∧R.has w es x) (fun i vN=>by
      obtain ⟨x,hx⟩:=he w (bw[i]'(by omega)) (jj i (by omega)).2.2;exact ⟨x,_,Gp _,hx⟩)
    have cV:a8 (fun es x=>R.has w es x) bw l:=by
      refine a8.q6 (by omega) fun k es x af ai=> ?_;have aA:=(Gq.1 ai);obtain ⟨jk,lg⟩:=aA;obtain ⟨Bh,aY,bd⟩:=vZ k jk;rw [af] at aY;obtain rfl:=Gn aY;rw [← lg];exact bd
    refine ⟨some a,cap,l,by rw [ez],by omega,by unfold maxLen at hm;omega, ?_,fun h=>(by cases h),bw,cV,by rw [gO (lens cV),cV.length],fun Bn=> ?_⟩
    · have:=GL by_ aE
      rw [ez];omega
    · obtain ⟨b,off,spot⟩:=a
      have vE:=(jj 0 (by omega)).2.1 0;obtain ⟨v,hv⟩:∃ v,(bw[0]'(by omega))[0]? =some v:=by
        have:=(jj 0 (by omega)).1;exact ⟨_,Gp (by omega)⟩
      have vF:=vE v hv;have wI:spot=none:=by simpa [Addr.add] using World.cell?_spot vF
      subst wI;refine ⟨b,off,Z,fun j u hu=> ?_⟩;have b1:=(Gq.1 hu).1;rw [gO (lens cV)] at b1;have az:j % R.size<R.size:=HK _ aU;have hd:j / R.size<bw.length:=by rw [Hj aU];exact b1
      have jx:j / R.size * R.size+j % R.size=j:=by rw [GU];exact HG j R.size
      have bF:=gN (j:=j % R.size) (lens cV) (i:=j / R.size) (es:=bw[j / R.size]'hd) (Gp hd) az;rw [jx,hu] at bF;have b6:=(jj (j / R.size) hd).2.1 _ u bF.symm;rw [iY,hs,jx] at b6;exact b6
theorem ar.cW {A:Option Addr} {c:Nat} {l:List α} {by_:Nat} {R:γ α} (h:R.ar by_ w A c l):l.length≤9223372036854775807:=G' h.1 h.2.1
theorem ar.jI {A:Option Addr} {c:Nat} {l:List α} {by_:Nat} {R:γ α} (h:R.ar by_ w A c l) (k:Nat):R.ar by_ w A c (l.take k):=by
  obtain ⟨af,ai,aY,bd,bw,bm,bF⟩:=h;have aE:(l.take k).length≤l.length:=by rw [List.length_take];omega
  have hm:=GL by_ aE;have b6:=bm.jI k;refine ⟨by omega,ai,by omega,bd,bw.take k,b6,by rw [gO (lens b6),b6.length],fun aU=> ?_⟩;obtain ⟨b,o,e,hc⟩:=bF.2 (by omega);refine ⟨b,o,e,fun j u hu=>hc j u ?_⟩;rw [← oC k (lens bm),Hp] at hu;split at hu
  · exact hu
  · cases hu
theorem ar.nil (w:World):R.ar by_ w none 0 []:=⟨GB _,by simp,by simp,fun _=>rfl, [],trivial,Rd.zero w R.size none⟩
theorem aG.nil (w:World):R.aG E by_ w B [] none 0 []:=⟨by simp, [],rfl,List.nodup_nil,Own.nil w B E R.size R.raw,trivial⟩
end
def eW (R:γ α) (E:TypeId) (by_:Nat) (w:World) (B:Nat) (bj:List Nat) (g c:Nat) (l:List α) (i:Nat) (es:List Value):Prop :=
  l.length * by_≤140737488355328∧ 
  ∃ ps:List (List Nat×List Value),bj=g::(ps.map (·.1)).flatten∧bj.Nodup∧Own w B E R.size R.raw (.slice (some ⟨g,0,none⟩) l.length c) l.length (ps.map (·.2)).flatten∧
    ps[i]? =some ([],es)∧es.length=R.size∧ps.length=l.length∧∀ k a,k≠i→l[k]? =some a→∃ x,ps[k]? =some x∧R.own w B x.1 x.2 a
section
variable {R:γ α} {E:TypeId} {by_:Nat} {A:Option Addr} {c:Nat} {l:List α} {g i:Nat} {es:List Value} {bj:List Nat}
theorem q9 {ps:List (List Nat×List Value)} (h:a8 (fun x a=>R.own w B x.1 x.2 a) ps l):∀ x∈ps.map (·.2),x.length=R.size:=fun x hx=>by
  obtain ⟨y,aJ,rfl⟩:=GF.1 hx;obtain ⟨a,ha⟩:=h.left y aJ;exact R.l6 ha
theorem aG.block (h:R.aG E by_ w B f A c l) (aU:0<l.length):∃ g,A=some ⟨g,0,none⟩:=by
  obtain ⟨_,ps,_,_,bd,_⟩:=h;obtain ⟨_,bm⟩:=bd;rcases bm with ⟨_,bm⟩ | ⟨g,cap,cur,hv,_⟩
  · omega
  · injection hv with hv;exact ⟨g,hv⟩
theorem eW.lens (h:R.eW E by_ w B bj g c l i es):∃ ps:List (List Nat×List Value),bj=g::(ps.map (·.1)).flatten∧bj.Nodup∧Own w B E R.size R.raw (.slice (some ⟨g,0,none⟩) l.length c) l.length (ps.map (·.2)).flatten∧
    ps[i]? =some ([],es)∧es.length=R.size∧ps.length=l.length∧(∀ k a,k≠i→l[k]? =some a→∃ x,ps[k]? =some x∧R.own w B x.1 x.2 a)∧∀ x∈ps.map (·.2),x.length=R.size:=by
  obtain ⟨_,ps,ai,aY,bd,bm,bF,b6,eZ⟩:=h;refine ⟨ps,ai,aY,bd,bm,bF,b6,eZ,fun x hx=> ?_⟩;obtain ⟨k,aA,rfl⟩:=HZ.1 hx;rw [G9] at aA;rw [List.getElem_map];by_cases e1:k=i
  · subst e1
    rw [Gp aA] at bm;rw [Gn bm];exact bF
  · obtain ⟨y,aJ,bo⟩:=eZ k (l[k]'(by omega)) e1 (Gp _)
    rw [Gp aA] at aJ;rw [Gn aJ];exact R.l6 bo
theorem eW.keep (h:R.eW E by_ w B bj g c l i es) (aA:∀ x∈bj,w'.heap[x]? =w.heap[x]?):R.eW E by_ w' B bj g c l i es:=by
  obtain ⟨af,ps,ai,aY,bd,bm,bF,b6,eZ⟩:=h;refine ⟨af,ps,ai,aY,bd.l5 (B:=0) (fun x hx=>aA x ?_),bm,bF,b6,fun k a e1 ha=> ?_⟩
  · injection hx with hx;rw [ai,← hx];simp
  · obtain ⟨x,hx,bo⟩:=eZ k a e1 ha
    refine ⟨x,hx,R.eb bo fun y aJ=>aA y ?_⟩;rw [ai];exact List.mem_cons_of_mem _ (GC.2 ⟨x.1,GF.2 ⟨x,List.mem_of_getElem? hx,Z⟩,aJ⟩)
theorem eW.cell (h:R.eW E by_ w B bj g c l i es) (aB:i<l.length) {j:Nat} {u:Value} (hu:es[j]? =some u):w.cell? ⟨g,i * R.size+j,none⟩=some u:=by
  obtain ⟨ps,ai,aY,bd,bm,bF,b6,eZ,aE⟩:=h.lens;have az:j<R.size:=by rw [← bF];exact (Gq.1 hu).1
  have:=bd.cell (i * R.size+j) (by
    have:(i+1) * R.size≤l.length * R.size:=GL _ aB;rw [GG] at this;omega)
  rw [this,gN aE (by rw [GO,bm];rfl) az];exact hu
theorem eW.lt (h:R.eW E by_ w B bj g c l i es):∀ x∈bj,B≤x∧x<w.heap.size:=by
  obtain ⟨af,ps,ai,aY,bd,bm,bF,b6,eZ⟩:=h;intro x hx;rw [ai] at hx;rcases G5.1 hx with rfl | hx
  · exact bd.row.lt _ rfl
  · obtain ⟨y,aJ,aV⟩:=GC.1 hx
    obtain ⟨z,bT,rfl⟩:=GF.1 aJ;obtain ⟨k,aA,rfl⟩:=HZ.1 bT;by_cases e1:k=i
    · subst e1
      rw [Gp aA] at bm;rw [Gn bm] at aV;simp at aV
    · obtain ⟨y,aJ,bo⟩:=eZ k (l[k]'(by omega)) e1 (Gp _)
      rw [Gp aA] at aJ;rw [Gn aJ] at aV;exact R.ec bo x aV
theorem aG.free (h:R.aG E by_ w B f (some ⟨g,0,none⟩) c l) (j:Nat):w.frozen? ⟨g,j,none⟩=false:=by
  obtain ⟨_,ps,rfl,_,bd,_⟩:=h;exact bd.free j
end

section
variable {P:Program} {R:γ α} {by_:Nat}
theorem jF (A:Option Addr) (n c:Nat):(Value.slice A n c).ownBlock.toList=aq A:=by cases A<;>rfl
theorem yE (ty:TypeId) (base:Nat) (t e:TypeId) (i:TypeInfo) (z:Value) (aT:P.underlying t=some (.slice e)) (aB:P.info? e=some i) (bT:i.zero=some z)
    (eA:i.size=R.size) (ew:i.bytes=by_) (d_:z.cells.size=R.size) (cB:0<R.size) (eB:∀ (j:Nat) u,z.cells[j]? =some u→R.raw j u)
    (f:List Nat) (A:Option Addr) (c:Nat) (l:List α) (h:R.aG e by_ w base f A c l)
    (dt:Option Addr) (m dc:Nat) (k:List α) (ck:List (List Nat×List Value)) (J:a8 (fun x a=>R.own w base x.1 x.2 a) ck k) (hm:k.length=m) (hr:Rd w R.size dt m (ck.map (·.2)).flatten)
    (e3:(f++(ck.map (·.1)).flatten).Nodup) (et:l.length+m≤9223372036854775807) (dw:(l.length+m) * by_≤140737488355328) (dH:base≤w.heap.size):
    ∃ bs bJ f' w',(Builtin.append_ #[t,t] ty #[.slice A l.length c, .slice dt m dc]).run P w= .ok (.slice bs (l.length+m) bJ) w'∧R.aG e by_ w' base f' bs bJ (l++k)∧w.grownBy w' (Value.slice A l.length c).ownBlock∧(bs=A∨∃ a,bs=some a∧a.block=w.heap.size)∧(∀ x∈f',x∈f∨x∈(ck.map (·.1)).flatten∨x=w.heap.size)∧(bs=none↔A=none∧m=0)∧base≤w'.heap.size:=by
  obtain ⟨af,ps,rfl,aY,bd,bm⟩:=h;have ia:∀ (j:Nat) u,(ck.map (·.2)).flatten[j]? =some u→R.raw (j % R.size) u:=by
    intro j u hu;have aE:=q9 J;have b1:=(Gq.1 hu).1;rw [gO aE,G9] at b1;have az:j % R.size<R.size:=HK _ cB;have hd:j / R.size<ck.length:=by rw [Hj cB];exact b1
    have DW:ck[j / R.size]? =some (ck[j / R.size]'hd):=Gp hd;have vS:k[j / R.size]? =some (k[j / R.size]'(by rw [← J.length];exact hd)):=Gp _;obtain ⟨x,hx,bo⟩:=J.at_ vS;have:=gN (j:=j % R.size) aE (i:=j / R.size) (es:=x.2) (by rw [GO,hx];rfl) az;rw [show j / R.size * R.size+j % R.size=j from by rw [GU];exact HG j R.size,hu] at this;exact R.eC (R.dP bo) _ u this.symm
  have jt:∀ u∈(ck.map (·.2)).flatten,u.oneCell'=true:=by
    intro u hu;obtain ⟨y,aJ,hu⟩:=GC.1 hu;obtain ⟨x,hx,rfl⟩:=GF.1 aJ;obtain ⟨a,ha⟩:=J.left x hx;exact R.one (R.dP ha) u hu
  obtain ⟨v',w',dZ,c8,gQ,e4,cf⟩:=rA (P:=P) w base t ty e i z R.size by_ aT aB bT eA ew d_ cB R.raw eB _ _ _ bd dt m dc _ hr jt ia (by unfold maxLen;omega) dw dH;obtain ⟨bs,bJ,rfl,hle,hmx,pI,BL,gT⟩:=c8.shape;have v8:∀ x,(Value.slice A l.length c).ownBlock=some x→x∈aq A:=fun x hx=>by rw [← jF A l.length c,hx];simp
  have hA:∀ x∈aq bs,x∈aq A∨x=w.heap.size:=by
    intro x hx;rw [← jF bs (l.length+m) bJ] at hx;rcases cf with cf | cf
    · rw [cf,jF] at hx;exact .inl hx
    · rw [cf] at hx;simp at hx;exact .inr hx
  have wA:∀ x∈ps,∀ y∈x.1,y<w.heap.size∧y∉aq A:=by
    intro x hx y aJ;obtain ⟨a,ha⟩:=bm.left x hx;refine ⟨(R.ec ha y aJ).2,fun ak=> ?_⟩;rw [He] at aY;exact aY.2.2 y ak y (GC.2 ⟨x.1,GF.2 ⟨x,hx,Z⟩,aJ⟩) Z
  have wD:∀ x∈ck,∀ y∈x.1,y<w.heap.size∧y∉aq A:=by
    intro x hx y aJ;obtain ⟨a,ha⟩:=J.left x hx;refine ⟨(R.ec ha y aJ).2,fun ak=> ?_⟩;rw [He] at e3;exact e3.2.2 y (H0 _ ak) y (GC.2 ⟨x.1,GF.2 ⟨x,hx,Z⟩,aJ⟩) Z
  have vC:∀ y,y<w.heap.size→y∉aq A→w'.heap[y]? =w.heap[y]? :=fun y aJ hn=>gQ.block y aJ fun e=>hn (v8 y e.symm);have lh:∀ x∈ps++ck,∀ y∈x.1,y<w.heap.size∧y∉aq A:=fun x hx=>by
    rcases Gz.1 hx with hx | hx
    · exact wA x hx
    · exact wD x hx
  refine ⟨bs,bJ,aq bs++((ps++ck).map (·.1)).flatten,w',dZ,⟨by rw [GA,hm];exact dw,ps++ck,rfl, ?_, ?_, ?_⟩,gQ, ?_, ?_, ?_,G' dH gQ.size⟩
  · rw [Hw,← Hm,← HH,He] at e3
    rw [He];refine ⟨by cases bs<;>simp [aq],e3.2.1,fun x hx y aJ e=> ?_⟩;subst e;obtain ⟨z,bT,aJ⟩:=GC.1 aJ;obtain ⟨v,hv,rfl⟩:=GF.1 bT;have bF:=lh v hv x aJ;rcases hA x hx with b6 | b6
    · exact bF.2 b6
    · omega
  · rw [HH,Hm,GA,hm];exact c8
  · exact (bm.app J).imp fun x a hx bo=>R.eb bo fun y aJ=>vC y (lh x hx y aJ).1 (lh x hx y aJ).2
  · rcases cf with cf | cf
    · cases bs with
      | none =>
        cases A with
        | none=>exact .inl rfl
        | some a=>cases cf
      | some a' =>
        cases A with
        | none=>cases cf
        | some a =>
          obtain ⟨_,bF⟩:=bd;obtain ⟨_,b6⟩:=c8;rcases bF with ⟨bF,_⟩ | ⟨g,cap,cur,bF,_⟩
          · cases bF
          rcases b6 with ⟨b6,_⟩ | ⟨g',A',Bb,b6,_⟩
          · cases b6
          injection bF with bF
          injection b6 with b6
          rw [bF,b6] at cf ⊢;injection cf with cf
          have cf:g'=g:=cf
          left;rw [cf]
    · cases bs with
      | none=>cases cf
      | some a'=>injection cf with cf;exact .inr ⟨a',Z,cf⟩
  · intro x hx
    rcases Gz.1 hx with hx | hx
    · rcases hA x hx with h | h
      · exact .inl (H0 _ h)
      · exact .inr (.inr h)
    · rw [HH,Hm] at hx
      rcases Gz.1 hx with hx | hx
      · exact .inl (List.mem_append_right _ hx)
      · exact .inr (.inl hx)
  · have jg:A=none→Value.slice A l.length c= .slice none 0 0:=fun e=>by
      obtain ⟨_,_,ky,_,_,_,_,wb⟩:=bd.shape;injection ky with c4 _ c5
      subst c4;subst c5;exact wb e
    constructor
    · intro e
      obtain ⟨bF,b6⟩:=e4.1 (gT e);injection bF with bF
      exact ⟨bF,b6⟩
    · rintro ⟨e,aU⟩
      have:=e4.2 ⟨jg e,aU⟩;injection this
theorem zq {o:Oper} {a:Act} {K:Act→World→Prop} {Q:Exit→Act→World→Prop} (s x:Operand) (base:Nat) (t e:TypeId) (i:TypeInfo) (z:Value) (aT:P.underlying t=some (.slice e)) (aB:P.info? e=some i) (bT:i.zero=some z)
    (eA:i.size=R.size) (ew:i.bytes=by_) (d_:z.cells.size=R.size) (cB:0<R.size) (eB:∀ (j:Nat) u,z.cells[j]? =some u→R.raw j u)
    (f:List Nat) (A:Option Addr) (c:Nat) (l:List α) (h:R.aG e by_ w base f A c l)
    (dt:Option Addr) (m dc:Nat) (k:List α) (ck:List (List Nat×List Value)) (J:a8 (fun x a=>R.own w base x.1 x.2 a) ck k) (hm:k.length=m) (hr:Rd w R.size dt m (ck.map (·.2)).flatten)
    (e3:(f++(ck.map (·.1)).flatten).Nodup) (et:l.length+m≤9223372036854775807) (dw:(l.length+m) * by_≤140737488355328) (dH:base≤w.heap.size)
    (bo:o.op= .call {callee:= .builtin .append,args:=#[s,x],argTypes:=#[t,t]}) (hs:a.eval s= .slice A l.length c) (hx:a.eval x= .slice dt m dc)
    (hK:∀ bs bJ f' w',R.aG e by_ w' base f' bs bJ (l++k)∧w.grownBy w' (Value.slice A l.length c).ownBlock∧(bs=A∨∃ a,bs=some a∧a.block=w.heap.size)∧(∀ x∈f',x∈f∨x∈(ck.map (·.1)).flatten∨x=w.heap.size)∧(bs=none↔A=none∧m=0)∧base≤w'.heap.size→K (a.put o.dst (.slice bs (l.length+m) bJ)) w'):o.wp P a w K Q:=by
  obtain ⟨bs,bJ,f',w',dZ,ai⟩:=yE (P:=P) (w:=w) o.type base t e i z aT aB bT eA ew d_ cB eB f A c l h dt m dc k ck J hm hr e3 et dw dH;unfold Oper.wp execOp;simp only [bo,resolve,invoke,builtin,Gu,Gv,Gr,List.map_toArray,G6,List.map_nil,hs,hx,dZ];exact hK bs bJ f' w' ai
theorem zm {ops:Array Oper} {rest:List Oper} {o:Oper} {a:Act} {Q:Exit→Act→World→Prop} (k_:o.guard=none) (s x:Operand) (base:Nat) (t e:TypeId) (i:TypeInfo) (z:Value) (aT:P.underlying t=some (.slice e)) (aB:P.info? e=some i) (bT:i.zero=some z)
    (eA:i.size=R.size) (ew:i.bytes=by_) (d_:z.cells.size=R.size) (cB:0<R.size) (eB:∀ (j:Nat) u,z.cells[j]? =some u→R.raw j u)
    (f:List Nat) (A:Option Addr) (c:Nat) (l:List α) (h:R.aG e by_ w base f A c l)
    (dt:Option Addr) (m dc:Nat) (k:List α) (ck:List (List Nat×List Value)) (J:a8 (fun x a=>R.own w base x.1 x.2 a) ck k) (hm:k.length=m) (hr:Rd w R.size dt m (ck.map (·.2)).flatten)
    (e3:(f++(ck.map (·.1)).flatten).Nodup) (et:l.length+m≤9223372036854775807) (dw:(l.length+m) * by_≤140737488355328) (dH:base≤w.heap.size)
    (bo:o.op= .call {callee:= .builtin .append,args:=#[s,x],argTypes:=#[t,t]}) (hs:a.eval s= .slice A l.length c) (hx:a.eval x= .slice dt m dc)
    (hK:∀ bs bJ f' w',R.aG e by_ w' base f' bs bJ (l++k)∧w.grownBy w' (Value.slice A l.length c).ownBlock∧(bs=A∨∃ a,bs=some a∧a.block=w.heap.size)∧(∀ x∈f',x∈f∨x∈(ck.map (·.1)).flatten∨x=w.heap.size)∧(bs=none↔A=none∧m=0)∧base≤w'.heap.size→wpList P ops Q rest (a.put o.dst (.slice bs (l.length+m) bJ)) w'):wpList P ops Q (o::rest) a w :=
  wpList_plain k_ fun _ uS=>zq s x base t e i z aT aB bT eA ew d_ cB eB f A c l h dt m dc k ck J hm hr e3 et dw dH bo hs hx fun bs bJ f' w' ai=>uS _ _ (hK bs bJ f' w' ai)
def Plain (R:γ α):Prop:=∀ {w B cs a},R.has w cs a→R.own w B [] cs a
theorem oA {size:Nat} {cells:α→List Value} {ok:α→Prop} {raw:Nat→Value→Prop} {aE af hr}:(flat size cells ok raw aE af hr).Plain:=fun h=>⟨rfl,h⟩
theorem a8.plain {bw:List (List Value)} {l:List α} (hp:R.Plain) (h:a8 (fun es a=>R.has w es a) bw l):a8 (fun x a=>R.own w B x.1 x.2 a) (bw.map fun es=>(([]:List Nat),es)) l :=
  a8.l1 (P:=fun (x:List Nat×List Value) a=>R.own w B x.1 x.2 a) (fun es=>(([]:List Nat),es)) (h.imp fun _ _ _ h=>hp h)
theorem rf (bw:List (List Value)):((bw.map fun es=>(([]:List Nat),es)).map (·.1)).flatten= []∧(bw.map fun es=>(([]:List Nat),es)).map (·.2)=bw:=by
  constructor
  · induction bw with
    | nil=>rfl
    | cons x r cq=>simp
  · rw [List.map_map]
    exact List.map_id' bw
theorem aG.yc {E:TypeId} {A:Option Addr} {c:Nat} {l:List α} (hp:R.Plain) {bw:List (List Value)} (h:a8 (fun es a=>R.has w es a) bw l) (ak:l.length * by_≤140737488355328) (bo:Own w B E R.size R.raw (.slice A l.length c) l.length bw.flatten):R.aG E by_ w B (aq A) A c l:=by
  obtain ⟨c4,c5⟩:=rf bw;exact ⟨ak,_,by rw [c4,HI],by cases A<;>simp [aq],by rw [c5];exact bo,a8.plain hp h⟩
theorem aG.uK {E:TypeId} {A:Option Addr} {c:Nat} {l:List α} (hp:∀ {w B f cs a},R.own w B f cs a→f= []) (h:R.aG E by_ w B f A c l):f=aq A:=by
  obtain ⟨_,ps,rfl,_,_,bm⟩:=h;have:(ps.map (·.1)).flatten= []:=by
    rw [List.flatten_eq_nil_iff];intro x hx;obtain ⟨y,aJ,rfl⟩:=GF.1 hx;obtain ⟨a,ha⟩:=bm.left y aJ;exact hp ha
  rw [this,HI]
end
end γ

theorem uH {α:Type} {R:γ α} {w:World} {bw:List (List Value)} {l:List α} (h:a8 (fun es a=>R.has w es a) bw l) (aU:0<R.size) {j:Nat} {u:Value} (hu:bw.flatten[j]? =some u):R.raw (j % R.size) u:=by
  have aE:=γ.lens h;have b1:=(Gq.1 hu).1;rw [gO aE] at b1;have az:j % R.size<R.size:=HK _ aU;have hd:j / R.size<bw.length:=by rw [Hj aU];exact b1
  have jx:j / R.size * R.size+j % R.size=j:=by rw [GU];exact HG j R.size
  have bF:=gN (j:=j % R.size) aE (i:=j / R.size) (es:=bw[j / R.size]'hd) (Gp hd) az;rw [jx,hu] at bF;obtain ⟨a,ha⟩:=h.left _ (List.getElem_mem hd);exact R.eC ha _ u bF.symm
namespace γ
variable {α:Type} {w w':World} {B:Nat} {f:List Nat} {R:γ α} {E:TypeId} {A:Option Addr} {by_ g c:Nat} {l:List α}
def iU (R:γ α):Prop:=R.Plain∧∀ {w B f cs a},R.own w B f cs a→f= []
theorem bB {size:Nat} {cells:α→List Value} {ok:α→Prop} {raw:Nat→Value→Prop} {aE af hr}:(flat size cells ok raw aE af hr).iU:=⟨oA,fun h=>h.1⟩
theorem aG.yL (h:R.aG E by_ w B f (some ⟨g,0,none⟩) c l) (hp:R.iU) {i j:Nat} {a a':α} {u:Value} (aB:l[i]? =some a) (az:j<R.size) (hu:∀ cs,R.has w cs a→R.has (w.setCell ⟨g,i * R.size+j,none⟩ u) (cs.set j u) a'):
    R.aG E by_ (w.setCell ⟨g,i * R.size+j,none⟩ u) B f (some ⟨g,0,none⟩) c (l.set i a'):=by
  obtain ⟨ak,ps,rfl,hn,bo,cV⟩:=h;obtain ⟨x,hx,lK⟩:=cV.at_ aB;have aE:=q9 cV;have lJ:x.1= []:=hp.2 lK;have gU:x.2.length=R.size:=R.l6 lK;have o4:=hu x.2 (R.dP lK);have jw:R.raw j u:=R.eC o4 j u (by rw [HU (by omega)]);have h3:=bo.stored (i * R.size+j) u (by rw [GU,HF,HA az];exact jw);rw [oB u aE (i:=i) (es:=x.2) (by rw [GO,hx];rfl) az] at h3;have b1:=(Gq.1 hx).1;have c4:(ps.set i (x.1,x.2.set j u)).map (·.1)=ps.map (·.1):=by
    rw [List.map_set];have:(ps.map (·.1))[i]? =some x.1:=by rw [GO,hx];rfl
    obtain ⟨ai,aY⟩:=Gq.1 this
    conv=>lhs;rw [← aY]
    exact List.set_getElem_self _
  have c5:(ps.set i (x.1,x.2.set j u)).map (·.2)=(ps.map (·.2)).set i (x.2.set j u):=by rw [List.map_set]
  have vH:∀ y∈ps,∀ q∈y.1,q≠g:=fun y aJ q J e=>by
    obtain ⟨b,vz⟩:=cV.left y aJ;rw [hp.2 vz] at J;simp at J
  have vw:a8 (fun x a=>R.own (w.setCell ⟨g,i * R.size+j,none⟩ u) B x.1 x.2 a) ps l:=cV.imp fun y a aJ wO=>R.eb wO fun q J=>heap_setCell_other _ _ _ _ (vH y aJ q J);refine ⟨by rw [Gm];exact ak,ps.set i (x.1,x.2.set j u),by rw [c4],hn,by rw [Gm,c5];exact h3, ?_⟩;exact vw.rB (P:=fun (x:List Nat×List Value) a=>R.own (w.setCell ⟨g,i * R.size+j,none⟩ u) B x.1 x.2 a) (by rw [lJ];exact hp.1 o4)
end γ
def c9 (n e5 aB:Int):Bool:=decide (e5≤n) && decide (n≤aB)
def pN {α:Type} (p:α→Bool) (l:List α):Int:=match l.findIdx? p with | some k=>(k:Int) | none=> -1
open Go.RowKit Go.Maps

def EI (w:World) (b:Nat) (es:Array MapEntry) (clock:Nat):World:=Go.ChangeMaps.setBlock w b (.map es clock)
def uE {cx:Type} (key:cx→Value) (e:cx×Int×Nat):MapEntry:=⟨key e.1, .int .i64 e.2.1,e.2.2⟩
structure fN {cx:Type} (key:cx→Value) (w:World) (b:Nat) (l:List (cx×Int×Nat)) (clock:Nat):Prop where
  oj:w.heap[b]? =some (.map (l.map (uE key)).toArray clock)
  born:∀ e∈l,e.2.2<clock
  stamps:(l.map (·.2.2)).Nodup
structure sS {cx:Type} (P:Program) (k:TypeId) (key:cx→Value) (wf:cx→Prop):Prop where
  keyed:Keyed P k
  lit:∀ x,wf x→∃ l,keyOf P k (key x)=some l
  inj:∀ x y,key x=key y→x=y
namespace fN
section
variable {cx:Type} {key:cx→Value} {w:World} {b:Nat} {l:List (cx×Int×Nat)} {clock:Nat}
theorem lt (h:fN key w b l clock):b<w.heap.size:=(Gt.1 h.oj).1
theorem keep {w':World} (h:fN key w b l clock) (aA:w'.heap[b]? =w.heap[b]?):fN key w' b l clock:=⟨aA.trans h.oj,h.born,h.stamps⟩
theorem later {w':World} (h:fN key w b l clock) (ak:Below w.heap.size w w'):fN key w' b l clock:=h.keep (ak.block b h.lt)
end
variable {cx:Type} [DecidableEq cx] {key:cx→Value} {w:World} {b:Nat} {l:List (cx×Int×Nat)} {clock:Nat}
def get (l:List (cx×Int×Nat)) (x:cx):Option Int:=(l.find? fun e=>decide (e.1=x)).map (·.2.1)
def put (l:List (cx×Int×Nat)) (clock:Nat) (x:cx) (v:Int):List (cx×Int×Nat):=
  if l.any (fun e=>decide (e.1=x)) then l.map (fun e=>if e.1=x then (e.1,v,e.2.2) else e) else l++ [(x,v,clock)]
def tick (l:List (cx×Int×Nat)) (clock:Nat) (x:cx):Nat:=if l.any (fun e=>decide (e.1=x)) then clock else clock+1
variable {P:Program} {k e t:TypeId} {wf:cx→Prop} (K:sS P k key wf)
include K
end fN

theorem yF {P:Program} {w:World} {o:Oper} {a:Act} (f:FuncId) (fn:Func) (hf:P.funcs[f]? =some fn) (hn:(fn.name == "runtime.NumGoroutine")=false) (ak:fn.body.isNone=false)
    (xs:Array Operand) (ts:Array TypeId) (lr:o.op=Op.call {callee:=Callee.value (Operand.func f),args:=xs,argTypes:=ts}) (args:Array Value) (oK:xs.map a.eval=args):
    (execOp a.eval o).run P w= .ok (.enter f args) w:=by
  unfold execOp;have he:a.eval (.func f)= .func (.func f) #[] #[]:=rfl;have hp:Sem.run P program w= .ok P w:=rfl;simp only [lr,resolve,invoke,Deferred.ofValue,he,callFunc,Gu,Gv,Gr,oK,hp,hf,hn,ak,H9,Array.append_empty,Hc,Ht]
abbrev Ext (w w':World):Prop:=Below w.heap.size w w'
theorem Ext.b7 (w:World):Ext w w:=Hd _ w
theorem Ext.iD {a b c:World} (h:Ext a b) (k:Ext b c):Ext a c:=Below.trans h (Below.mono k h.size)
section
variable {P:Program} {ops:Array Oper} {Q:Exit→Act→World→Prop} {aO:Nat→Nat}
def l_ (P:Program) (w:World) (v:Value):Result Next→Prop
  | .ok (.value u) w'=>w'=w∧u=v
  | .ok .skip w'=>w'=w∧v=undef
  | .ok (.enter f args) w'=>w'=w∧Calls P f args w (fun e iF=>e= .returned v∧Ext w iF)
  | _=>False
def dW (P:Program) (ops:Array Oper) (w0:World) (o:Oper) (v:Value) (a:Act):Prop :=
  (Region.wanted o (yielded ops a.tmps)=true∧∀ w,Ext w0 w→l_ P w v ((execOp a.eval o).run P w))∨
  (Region.wanted o (yielded ops a.tmps)=false∧v=undef)
theorem dW.of_same {w0:World} {o:Oper} {v:Value} {a a':Act} (h:dW P ops w0 o v a) (he:execOp a'.eval o=execOp a.eval o) (hw:Region.wanted o (yielded ops a'.tmps)=Region.wanted o (yielded ops a.tmps)):dW P ops w0 o v a':=by
  unfold dW at *;rw [he,hw];exact h
theorem dW.on {w0 ba:World} {o:Oper} {v:Value} {a:Act} (h:dW P ops w0 o v a) (hx:Ext w0 ba):dW P ops ba o v a :=
  h.imp (fun ⟨af,ai⟩=>⟨af,fun w hw=>ai w (hx.iD hw)⟩) id
theorem Yields.yw {w0:World} {o:Oper} {v:Value} {a:Act} (h:Yields P ops o v a):dW P ops w0 o v a :=
  h.imp (fun ⟨af,ai⟩=>⟨af,fun w _=>by rw [ai w];exact ⟨rfl,rfl⟩⟩) id
def yN (P:Program) (ops:Array Oper) (Q:Exit→Act→World→Prop) (aO:Nat→Nat) (i:Nat) (K:Act→World→Prop) (a:Act) (w0:World):Prop :=
  ∃ o,ops[i]? =some o∧
    ((aO i≤1∧∃ v,dW P ops w0 o v a∧K (a.put o.dst v) w0)∨
     (1<aO i∧∀ w,Ext w0 w→wpOp P ops Q i (fun a' w'=>(aO i=2→Ext w0 w')∧K a' w') a w))
def gH (P:Program) (ops:Array Oper) (Q:Exit→Act→World→Prop) (aO:Nat→Nat):Nat→Array Bool→Act→World→Prop
  | 0,l,a,w0=>Region.ready .any ops l= []∧∀ w,Ext w0 w→Q .normal a w
  | f+1,l,a,w0=>(Region.ready .any ops l= []→∀ w,Ext w0 w→Q .normal a w)∧∀ i∈Region.ready .any ops l,yN P ops Q aO i (gH P ops Q aO f (l.setIfInBounds i true)) a w0
theorem gI:∀ (f:Nat) (l:Array Bool) (a:Act) (w0:World),gH P ops Q aO f l a w0→∀ w,Ext w0 w→wpAny P .any ops Q f l a w
  | 0,_,_,_,h,w,hw=>⟨h.1,h.2 w hw⟩
  | f+1,l,a,w0,h,w,hw=>⟨fun aU=>h.1 aU w hw,fun i aB=>by
      obtain ⟨o,bo,ai⟩:=h.2 i aB;rcases ai with ⟨_,v,J,aA⟩ | ⟨_,ai⟩
      · unfold wpOp
        simp only [bo];rcases J with ⟨lI,J⟩ | ⟨lI,rfl⟩
        · rw [G8 lI]
          refine .inl ?_;have J:=J w hw;unfold Oper.wp;generalize (execOp a.eval o).run P w=r at *
          cases r with
          | ok n w' =>
            cases n<;>simp only [l_] at J<;>simp only [Oper.upon]
            case value u=>obtain ⟨rfl,rfl⟩:=J;exact gI f _ _ _ aA _ hw
            case skip=>obtain ⟨rfl,rfl⟩:=J;exact gI f _ _ _ aA _ hw
            case enter f' args=>obtain ⟨rfl,hc⟩:=J;exact hc.mono fun e iF ⟨he,hx⟩=>by subst he;exact gI f _ _ _ aA _ (hw.iD hx)
          | halt x w'=>simp only [l_] at J
        · rw [Hg (by rw [lI];decide)]
          exact gI f _ _ _ aA _ hw
      · exact wpOp_mono (fun a' w' aY=>gI f _ _ _ aY.2 _ (Ext.b7 w')) (ai w hw)⟩
theorem zn {aj:Act→Prop} {j:Nat} {dst:Option Tmp} {bA:Oper} {v:Value} (az:ops[j]? =some bA) (af:∀ d,dst=some d→d∉bA.looksAt ops) (ai:∀ d,dst=some d→bA.dst≠some d)
    (ik:∀ cs b,bA.op≠ .select cs b) (eH:∀ c a w,¬ Q (.panic c) a w) (keep:∀ a u,aj a→aj (a.put bA.dst u)) (xc:∀ a d,aj a→aj {a with defers:=d::a.defers})
    {K:Act→World→Prop} {a:Act} {w:World} (aJ:aj a) (h:wpOp P ops Q j K (a.put dst v) w):wpOp P ops Q j (fun a' w'=>aj a'∧K (a'.put dst v) w') a w:=by
  unfold wpOp at *
  simp only [az] at *
  rw [wanted_put bA a dst v af] at h;by_cases hw:Region.wanted bA (yielded ops a.tmps)=true
  · rw [G8 hw] at h ⊢
    rcases h with h | ⟨oL,v7⟩
    case inr=>exact .inr ⟨by unfold Oper.asks at *;rw [HQ bA ik a dst v af] at oL;exact oL,v7⟩
    refine .inl ?_;unfold Oper.wp at *
    rw [HQ bA ik a dst v af] at h;generalize (execOp a.eval bA).run P w=r at *
    cases r with
    | ok n w' =>
      cases n<;>simp only [Oper.upon] at h ⊢
      case value u=>exact ⟨keep a u aJ,by rw [← G1 a v u ai];exact h⟩
      case skip=>exact ⟨keep a _ aJ,by rw [← G1 a v undef ai];exact h⟩
      case defer d =>
        refine ⟨keep _ _ (xc a d aJ), ?_⟩;rw [← G1 _ v undef ai,← Act.put_defers];exact h
      case enter f args =>
        refine Calls.mono h fun e iF he=> ?_;cases e with
        | returned u=>exact ⟨keep a u aJ,by rw [← G1 a v u ai];exact he⟩
        | panicked c=>exact (eH _ _ _ he).elim
        | outgrown=>exact he
      case row row args=>exact Rows.mono h fun u iF he=>⟨keep a u aJ,by rw [← G1 a v u ai];exact he⟩
    | halt x w' =>
      cases x<;>simp only [Oper.upon] at h ⊢
      case panic u=>exact (eH _ _ _ h).elim
  · rw [Hg hw] at h ⊢
    exact ⟨keep a _ aJ,by rw [← G1 a v undef ai];exact h⟩
theorem oz {i:Nat} {c_:Oper} {v:Value} (aB:ops[i]? =some c_) (aA:aO i≤1) (ij:∀ (j:Nat) (o:Oper) cs b,ops[j]? =some o→o.op≠ .select cs b)
    (eH:∀ c a w,¬ Q (.panic c) a w) (aj:World→Act→Prop) (jU:∀ w0 a,aj w0 a→dW P ops w0 c_ v a)
    (z2:∀ w0 a a',aj w0 a→execOp a'.eval c_=execOp a.eval c_→Region.wanted c_ (yielded ops a'.tmps)=Region.wanted c_ (yielded ops a.tmps)→aj w0 a')
    (z3:∀ w0 ba a,Ext w0 ba→aj w0 a→aj ba a) (R:Nat→Bool) (lQ:Array Bool)
    (hR:∀ j bA,ops[j]? =some bA→j≠i→(∀ e∈bA.after,Region.binds .any e=true→R e.on=true)→R j=true)
    (bS:(∀ w0 ba a,aj w0 a→aj ba a)∨∀ j,R j=true→3≤aO j→lQ.getD j true=true):
    ∀ (f:Nat) (l:Array Bool) (a:Act) (w0:World),(∀ j,l.getD j false=true→R j=true)→(∀ j,lQ.getD j true=true→l.getD j true=true)→
      (∀ j bA,ops[j]? =some bA→j≠i→l.getD j true=false→(∀ e∈bA.after,Region.binds .any e=true→e.on≠i)→c_.apart ops bA=true)→
      i∈Region.ready .any ops l→aj w0 a→gH P ops Q aO f (l.setIfInBounds i true) (a.put c_.dst v) w0→gH P ops Q aO (f+1) l a w0:=by
  intro f;induction f with
  | zero =>
    intro l a w0 _ _ _ hr bT H;refine ⟨fun h=>(by rw [h] at hr;cases hr),fun j az=> ?_⟩;by_cases dY:j=i
    · subst dY;exact ⟨c_,aB, .inl ⟨aA,v,jU _ _ bT,H⟩⟩
    · have:=ready_mono az dY
      rw [H.1] at this;cases this
  | succ f cq =>
    intro l a w0 oZ oX oO hr bT H;refine ⟨fun h=>(by rw [h] at hr;cases hr),fun j az=> ?_⟩;by_cases dY:j=i
    · subst dY;exact ⟨c_,aB, .inl ⟨aA,v,jU _ _ bT,H⟩⟩
    · obtain ⟨bA,eJ,af⟩:=H.2 j (ready_mono az dY)
      obtain ⟨lf,dQ,o5,cV⟩:=mem_ready.1 az;obtain rfl:dQ=bA:=by rw [eJ] at o5;exact (Gn o5).symm
      have wg:∀ e∈dQ.after,Region.binds .any e=true→e.on≠i:=fun e he ak heq=>by
        have af:=cV e he ak;have aU:=(mem_ready.1 hr).1;rw [heq] at af;rcases Hh i l.size with bM | bM
        · simp [bM] at aU af;rw [aU] at af;cases af
        · simp [G0 bM] at af
      have vx:=oO j dQ eJ dY lf wg;obtain ⟨ao,a2,a3⟩:=Oper.apart_spec vx;have wH:∀ cs b,c_.op≠ .select cs b:=fun cs b=>ij i c_ cs b aB;have ik:∀ cs b,dQ.op≠ .select cs b:=fun cs b=>ij j dQ cs b eJ;have keep:∀ ba a u,aj ba a→aj ba (a.put dQ.dst u):=fun ba a u bT=>z2 _ _ _ bT (HQ c_ wH a dQ.dst u a3) (wanted_put c_ a dQ.dst u a3);have oJ:R j=true:=hR j dQ eJ dY fun e he ak=>oZ _ (cV e he ak);have o0:∀ k,(l.setIfInBounds j true).getD k false=true→R k=true:=fun k aA=>by
        by_cases ft:j=k
        · rw [← ft];exact oJ
        · rw [H' false ft] at aA;exact oZ k aA
      have oY:∀ k,lQ.getD k true=true→(l.setIfInBounds j true).getD k true=true:=fun k aA=>by
        by_cases ft:j=k
        · subst ft
          rcases Hh j l.size with bM | bM
          · simp [bM]
          · simp [G0 bM]
        · rw [H' true ft];exact oX k aA
      have oP:∀ k ok,ops[k]? =some ok→k≠i→(l.setIfInBounds j true).getD k true=false→
          (∀ e∈ok.after,Region.binds .any e=true→e.on≠i)→c_.apart ops ok=true:=fun k ok aA e1 pL we=>by
        refine oO k ok aA e1 ?_ we;by_cases ft:j=k
        · subst ft;exact lf
        · rw [H' true ft] at pL;exact pL
      have pJ:=ready_mono hr (Ne.symm dY);rcases af with ⟨lj,u,J,hK⟩ | ⟨lj,af⟩
      · refine ⟨dQ,eJ, .inl ⟨lj,u,J.of_same (HQ dQ ik a c_.dst v ao).symm (wanted_put dQ a c_.dst v ao).symm, ?_⟩⟩
        refine cq _ _ _ o0 oY oP pJ (keep _ _ _ bT) ?_;rw [HO _ _ dY,← G1 a v u a2];exact hK
      · refine ⟨dQ,eJ, .inr ⟨lj,fun w hw=> ?_⟩⟩
        refine wpOp_mono (fun a' w' aY=>⟨aY.2.1, ?_⟩) (zn (aj:=aj w0) eJ ao a2 ik eH (keep w0) (fun a d bT=>z2 _ _ _ bT Z Z) bT (af w hw));have wS:aj w' a':=by
          rcases Hh (aO j) 3 with b1 | la
          · exact z3 _ _ _ (aY.2.1 (by omega)) aY.1
          · rcases bS with bS | bS
            · exact bS _ _ _ aY.1
            · have:=oX j (bS j oJ la);rw [lf] at this;cases this
        refine cq _ _ _ o0 oY oP pJ wS ?_;rw [HO _ _ dY];exact aY.2.2
def fA (P:Program) (ops:Array Oper) (Q:Exit→Act→World→Prop) (aO:Nat→Nat):List Nat→Act→World→Prop
  | [],a,w0=>∀ w,Ext w0 w→Q .normal a w
  | i::r,a,w0=>∃ o,ops[i]? =some o∧
      ((aO i=0∧∃ v,dW P ops w0 o v a∧fA P ops Q aO r (a.put o.dst v) w0)∨
       (aO i=1∧∃ v,Yields P ops o v a∧fA P ops Q aO r (a.put o.dst v) w0)∨
       (1<aO i∧∀ w,Ext w0 w→wpOp P ops Q i (fun a' w'=>(aO i=2→Ext w0 w')∧fA P ops Q aO r a' w') a w))
def mb (ops:Array Oper) (i:Nat):Array Bool :=
  ops.foldl (init:=#[]) fun acc o=>acc.push (acc.size != i && o.after.all fun e=> !Region.binds .any e || acc.getD e.on false)
def jb (ops:Array Oper) (aO:Nat→Nat) (l:Array Bool) (i:Nat):Bool :=
  (List.range ops.size).all (fun j=>l.getD j true || Nat.blt (aO j) 3) ||
  (let R:=mb ops i
   (List.range ops.size).all fun j=>(j == i || R.getD j false || !((ops[j]?).map (·.after.all fun e=> !Region.binds .any e || R.getD e.on false)).getD false) && (!l.getD j false || R.getD j false) && (!R.getD j false || Nat.blt (aO j) 3 || l.getD j true))
def eY (ops:Array Oper) (aO:Nat→Nat):List Nat→Array Bool→Bool
  | [],l=>(Region.ready .any ops l).isEmpty
  | i::r,l=>(match aO i with
      | 0=>Region.free .any ops l i && (Region.ready .any ops l).contains i && jb ops aO l i
      | 1=>Region.free .any ops l i && (Region.ready .any ops l).contains i
      | _=>Region.ready .any ops l == [i]) && eY ops aO r (l.setIfInBounds i true)
theorem tT {l:Array Bool} {i:Nat} (aE:l.size=ops.size) (h:jb ops aO l i=true):∃ R:Nat→Bool,
    (∀ j bA,ops[j]? =some bA→j≠i→(∀ e∈bA.after,Region.binds .any e=true→R e.on=true)→R j=true)∧
    (∀ j,l.getD j false=true→R j=true)∧(∀ j,R j=true→3≤aO j→l.getD j true=true):=by
  unfold jb at h;have out:∀ j,¬ j<ops.size→l.getD j true=true:=fun j az=>by simp [G0 (by omega:l.size≤j)]
  rw [G_] at h;rcases h with h | h
  · refine ⟨fun _=>true,fun _ _ _ _ _=>rfl,fun _ _=>rfl,fun j _ aY=> ?_⟩
    by_cases az:j<ops.size
    · have:=GV.1 h j (GZ.2 az)
      rw [G_] at this;rcases this with h | h
      · exact h
      · rw [HL] at h;omega
    · exact out j az
  · refine ⟨fun j=>(mb ops i).getD j false,fun j bA eJ dY hd=> ?_,fun j az=> ?_,fun j az aY=> ?_⟩
    · have b1:=(Gt.1 eJ).1
      have:=GV.1 h j (GZ.2 b1);simp only [eJ,HE,Option.getD_some,Gw,G_,G3,dY,false_or,Hy] at this;rcases this.1.1 with h | h
      · exact h
      · have cV:bA.after.all (fun e=> !Region.binds .any e || (mb ops i).getD e.on false)=true:=by
          rw [Array.all_eq_true_iff_forall_mem];intro e he;cases ak:Region.binds .any e
          · rfl
          · have:=hd e he ak;simp only at this;simp [this]
        rw [cV] at h;cases h
    · have b1:j<ops.size:=by
        rcases Hh j l.size with bM | bM
        · omega
        · simp [G0 bM] at az
      have:=GV.1 h j (GZ.2 b1);simp only [Gw,G_,Hy] at this;rcases this.1.2 with h | h
      · rw [h] at az;cases az
      · exact h
    · by_cases b1:j<ops.size
      · have:=GV.1 h j (GZ.2 b1)
        simp only [Gw,G_,Hy] at this;rcases this.2 with (h | h) | h
        · simp only at az;rw [h] at az;cases az
        · (rw [HL] at h;omega)
        · exact h
      · exact out j b1
theorem iZ (hs:Region.noSelect ops=true) (eH:∀ c a w,¬ Q (.panic c) a w):∀ (r:List Nat) (l:Array Bool) (a:Act) (w0:World),l.size=ops.size→eY ops aO r l=true→fA P ops Q aO r a w0→gH P ops Q aO r.length l a w0
  | [],l,a,w0,_,bS,h=>⟨by simpa [eY] using bS,h⟩
  | i::r,l,a,w0,aE,bS,h=>by
    obtain ⟨o,bo,h⟩:=h;have ij:=Region.noSelect_spec hs;rcases h with ⟨aA,v,J,hK⟩ | ⟨aA,v,J,hK⟩ | ⟨aA,h⟩
    · simp only [eY,aA,Gw] at bS
      obtain ⟨⟨⟨hf,hr⟩,ak⟩,bS⟩:=bS;obtain ⟨R,r1,r2,yy⟩:=tT aE ak;exact oz bo (by omega) ij eH (fun w0 a=>dW P ops w0 o v a) (fun _ _ h=>h) (fun _ _ _ h he hw=>h.of_same he hw) (fun _ _ _ hx h=>h.on hx) R l r1 (.inr yy) _ _ _ _ r2 (fun _ h=>h) (Region.free_spec bo hf) (by simpa using hr) J
        (iZ hs eH r _ _ _ (by simpa using aE) bS hK)
    · simp only [eY,aA,Gw] at bS
      obtain ⟨⟨hf,hr⟩,bS⟩:=bS;exact oz bo (by omega) ij eH (fun _ a=>Yields P ops o v a) (fun _ _ h=>Yields.yw h) (fun _ _ _ h he hw=>h.of_same he hw) (fun _ _ _ _ h=>h) (fun _=>true) l (fun _ _ _ _ _=>Z) (.inl fun _ _ _ h=>h) _ _ _ _ (fun _ _=>Z) (fun _ h=>h) (Region.free_spec bo hf) (by simpa using hr) J
        (iZ hs eH r _ _ _ (by simpa using aE) bS hK)
    · obtain ⟨k,lg⟩:∃ k,aO i=k+2:=⟨aO i - 2,by omega⟩
      simp only [eY,lg,Gw,G3] at bS;obtain ⟨hr,bS⟩:=bS;refine ⟨fun aU=>(by rw [hr] at aU;cases aU),fun j az=> ?_⟩;rw [hr] at az;obtain rfl:j=i:=by simpa using az
      exact ⟨o,bo, .inr ⟨aA,fun w hw=>wpOp_mono (fun a' w' aY=>⟨aY.1,iZ hs eH r _ _ _ (by simpa using aE) bS aY.2⟩) (h w hw)⟩⟩
def dg (K:Act→World→Prop):Exit→Act→World→Prop
  | .normal,a,w=>K a w
  | _,_,_=>False
theorem yz {id:Nat} {a:Act} {w:World} (bO:List Nat) (hm:P.follows .mixedOrders=true) (bS:(Region.noSelect ops && (bO.length == ops.size) && eY ops aO bO (Array.replicate ops.size false))=true)
    (h:fA P ops (dg (Q .normal)) aO bO a w):(Code.region id ops true).wp P Q a w:=by
  simp only [Gw,G3] at bS;obtain ⟨⟨hs,aE⟩,bS⟩:=bS;refine wp_mono (wp_region_any hm (Q:=dg (Q .normal)) ?_) (fun e a w J=>by cases e<;>first | exact J | exact J.elim);have:=iZ (P:=P) hs (Q:=dg (Q .normal)) (fun _ _ _ h=>h) bO (Array.replicate ops.size false) a w (by simp) bS h;rw [aE] at this;exact gI _ _ _ _ this _ (Hd _ w).drew
end
end Go.Proofs.Ytifffjhhammeiaa
