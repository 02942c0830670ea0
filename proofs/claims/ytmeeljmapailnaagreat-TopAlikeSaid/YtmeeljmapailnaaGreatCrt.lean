import Derived.Test.YtmeeljmapailnaaGreatTroH
import Derived.Shelf.Bits.Mul64
import Derived.Shelf.Spec.SlicesInsertGrow
import Derived.Shelf.Slices.Empties
set_option linter.unusedVariables false
set_option linter.unusedSimpArgs false
set_option maxRecDepth 100000
set_option maxHeartbeats 4000000
open Go.RowKit
namespace Go.Proofs.YtmeeljmapailnaaGreat
open Tryz
abbrev aUW:=@Go.IntKind.wrap_u64
abbrev aV4:=@List.length_reverse
abbrev aWk:=@List.find?_eq_some_iff_getElem
abbrev aWH:=@Nat.min_le_right
abbrev aXs:=@Nat.sub_self
abbrev aXF:=@Nat.div_eq_of_lt
abbrev aXM:=@List.take_append_of_le_length
abbrev aXT:=@List.take_zero
abbrev aYw:=@List.getElem_reverse
abbrev aYI:=@List.drop_replicate
section
def aCd:Go.Shelf.Ren:=⟨fun | 212=> 183 | 263=> 190 | 264=> 191 | n=>n,fun | 46=> 215 | 53=> 130 | 51=> 35 | 146=> 311 | 148=> 313 | n=>n,fun | n=>n⟩
theorem aAU:Go.Proofs.Lays.n212 prog aCd:= {
 mixed:=by kernel_rfl
 f212:=func183.trans (aUF some (by kernel_rfl))
 f263:=func190.trans (aUF some (by kernel_rfl))
 f264:=func191.trans (aUF some (by kernel_rfl))
 t46:=underlying215
 a46:=isAgg215
 z46:=sizeOf215
 v46:=zeroValue215
 t51:=underlying35
 a51:=isAgg35
 z51:=sizeOf35
 v51:=zeroValue35
 t53:=underlying130
 a53:=isAgg130
 z53:=sizeOf130
 v53:=zeroValue130
 t146:=underlying311
 a146:=isAgg311
 z146:=sizeOf311
 v146:=zeroValue311
 t148:=underlying313
 a148:=isAgg313
 z148:=sizeOf313
 v148:=zeroValue313 }
theorem mul_one (n:Nat) (hn:n<18446744073709551616) (w:World):Calls prog 183 #[.int .u64 1, .int .u64 (n:Int)] w (λ e w'=>e= .returned (.tuple #[.int .u64 0, .int .u64 (n:Int)])∧Ext w w'):=by
 refine (Any.bits_Mul aAU 1 n (by decide) hn w).mono λ e w' ⟨τ,ae⟩=> ?_;subst ae;rw [τ];refine ⟨?_,Ext.bg _⟩;rw [Nat.one_mul,aXF hn,aU0 hn];rfl
end
section
def aOx:Go.Shelf.Ren:=⟨fun | 21=> 118 | 27=> 150 | 28=> 151 | 35=> 177 | 39=> 187 | n=>n,fun | 22=> 22 | 3=> 3 | 4=> 4 | 0=> 0 | n=>n,fun | n=>n⟩
def aR9:Go.Shelf.Ren:=⟨fun | 25=> 117 | 31=> 148 | 32=> 149 | 37=> 176 | n=>n,fun | 22=> 22 | 3=> 3 | 4=> 4 | 40=> 215 | 0=> 0 | n=>n,fun | n=>n⟩
def aLG (l:List Int) (x:Int):Nat:=l.countP λ y=>decide (y<x)
def ua (n:Int):Value:= .int .i64 n
theorem aff {w:World} {B:Nat}:∀ {ps:List (List Nat×List Value)} {l:List Int},dm (λ x a=>bW.own w B x.1 x.2 a) ps l→(ps.map (·.2)).flatten=l.map ua∧∀ x∈l,e_ x
 | [], [],_=>⟨rfl,by simp⟩
 | p::ps,a::l,h=>by
  obtain ⟨⟨_,τ,ae⟩,aw⟩:=h;obtain ⟨e,cc⟩:=aff aw;refine ⟨by rw [aUs,aUw,e,τ];rfl,λ x hx=> ?_⟩;rcases aTZ.1 hx with rfl | hx
  ·exact ae
  ·exact cc x hx
 | [],_::_,h=>h.elim
 | _::_, [],h=>h.elim
theorem ahQ {w:World}:∀ {l:List Int},(∀ x∈l,e_ x)→dm (λ es a=>bW.has w es a) (l.map λ n=> [ua n]) l
 | [],_=>trivial
 | a::l,h=>⟨⟨rfl,h a aT1⟩,ahQ λ x hx=>h x (aTS _ hx)⟩
theorem avQ (l:List Int):(l.map λ n=> [ua n]).flatten=l.map ua:=by
 induction l with
 | nil=>rfl
 | cons a l bK=>rw [aUs,aUw,bK];rfl
theorem aAi {w:World} {B c g:Nat} {l:List Int} (h:bW.aH 3 8 w B (aa.aj (some ⟨g,0,none⟩)) (some ⟨g,0,none⟩) c l):
  ∃ cur:List Value,aR w g cur 3 (0,0)∧B≤g∧c≤maxLen∧cur.length=c∧l.length≤c∧cur.take l.length=l.map ua∧(∀ u∈cur,∃ n:Int,u= .int .i64 n)∧∀ x∈l,e_ x:=by
 obtain ⟨γ,ps,hf,hn,cc,dD⟩:=h;obtain ⟨e,eA⟩:=aff dD;rw [e] at cc;obtain ⟨_,ae⟩:=cc;rcases ae with ⟨ae,_⟩ | ⟨g',cap,cur,hv,bj,fI,Dv,rO,hs,aJ,bQ⟩
 ·cases ae
 ·injection hv with aY bb cP
  injection aY with aY
  injection aY with aY
  subst aY cP;refine ⟨cur.toList,fI,bj,rO,by have hs:cur.size=c * 1:=hs;rw [aWB] at hs;simpa using hs,Dv,by have aJ:cur.toList.take (l.length * 1)=_:=aJ;rwa [aWB] at aJ,λ u hu=> ?_,eA⟩;obtain ⟨j,aA,rfl⟩:=aUB.1 hu;exact bQ j _ (by rw [← aUI,aTF aA])
theorem aAh {w:World} {B c g:Nat} {l:List Int} {cur:List Value} (h:aR w g cur 3 (0,0)) (bj:B≤g) (rO:c≤maxLen) (hs:cur.length=c) (hn:l.length≤c) (γ:l.length * 8≤140737488355328) (aJ:cur.take l.length=l.map ua) (bQ:∀ u∈cur,∃ n:Int,u= .int .i64 n) (eA:∀ x∈l,e_ x):
  bW.aH 3 8 w B (aa.aj (some ⟨g,0,none⟩)) (some ⟨g,0,none⟩) c l:=by
 refine aa.aH.zS aa.n1 (ahQ eA) γ ?_;rw [avQ];refine ⟨by rw [aUz];exact (aWB _).symm, .inr ⟨g,c,cur.toArray,rfl,bj,h,hn,rO,by rw [aVe,hs];exact (aWB _).symm, ?_,λ j u hu=> ?_⟩⟩
 ·show cur.toArray.toList.take (l.length * 1)=_;rw [aWB];exact aJ
 ·exact bQ u (by rw [aWZ] at hu;exact aUg hu)
def zZ (cur:List Value):Nat→List Value→List Value
 | _, []=>cur
 | o,v::r=>zZ (cur.set o v) (o+1) r
theorem aR.setCells {g:Nat} {e:TypeId}:∀ (zs:List Value) (o:Nat) (w:World) (cur:List Value),aR w g cur e (0,0)→aR (w.setCells g o zs) g (zZ cur o zs) e (0,0)
 | [],_,_,_,h=>h
 | v::r,o,w,cur,h=>aR.setCells r (o+1) _ _ (h.set o v)
theorem alu:∀ (zs:List Value) (o:Nat) (cur:List Value),o+zs.length≤cur.length→zZ cur o zs=cur.take o++zs++cur.drop (o+zs.length)
 | [],o,cur,_=>by simp [zZ]
 | v::r,o,cur,h=>by
  rw [aTI] at h;rw [zZ,alu r (o+1) _ (by rw [aTH];omega),aTI,aYH (by omega),show o+1+r.length=o+(r.length+1) by omega];have:(cur.set o v).take (o+1)=cur.take o++ [v]:=by
   rw [aT5 (by rw [aTH];omega),aYC (aTK _),aYq]
  rw [this];simp
theorem alw {u:Value}:∀ (zs:List Value) (o:Nat) (cur:List Value),u∈zZ cur o zs→u∈cur∨u∈zs
 | [],_,_,h=> .inl h
 | v::r,o,cur,h=>by
  rcases alw r (o+1) _ h with h | h
  ·rcases aVu h with h | rfl
   ·exact .inl h
   ·exact .inr aT1
  ·exact .inr (aTS _ h)
theorem alv:∀ (zs:List Value) (o:Nat) (cur:List Value),(zZ cur o zs).length=cur.length
 | [],_,_=>rfl
 | v::r,o,cur=>by rw [zZ,alv r,aTH]
theorem ajZ {l:List Int} {u:Value} (h:u∈l.map ua):∃ n:Int,u= .int .i64 n:=by
 obtain ⟨n,_,rfl⟩:=aUh.1 h;exact ⟨n,Z⟩
theorem aCI {l:List Int}:∀ v∈l.map ua,v.oneCell'=true:=λ v hv=>by obtain ⟨n,rfl⟩:=ajZ hv;rfl
theorem Mod.cells (g:Nat):∀ (zs:List Value) (o:Nat) (w:World),Mod [g] w (w.setCells g o zs)
 | [],_,w=>Mod.bt (Ext.bg w)
 | v::r,o,w=>by
  rw [World.setCells];exact (Mod.setCell w ⟨g,o,none⟩ v).trans (Mod.cells g r (o+1) _)
end
section
theorem Vw {P:Program} {E:List (Nat×Value)} {w:World} {d:Option Nat} {ty:TypeId} {pos:String} {af:Array Edge} {g:Option (Nat×Bool)} {x:Operand} {src dst:TypeId} {k k':IntKind} {i r:Int} (hr:∀ w,(convert src dst (.int k i)).run P w= .ok (.int k' (k'.wrap i)) w) (h:k'.wrap i=r) (hx:ev E x=some (.int k i)):
  cQ P E ⟨d, .convert src dst x,ty,pos,af,g⟩ w (.int k' r) w:=λ n a ha=>by
 subst h;simp only [execOp,ha.ev hx,aTQ,hr w,aTJ,aTV]
theorem aF7 {cur:List Value} {lo k:Nat} {zs:List Value} (h:lo+zs.length≤k) (au:k≤cur.length):(zZ cur lo zs).take k=(cur.take k).take lo++zs++(cur.take k).drop (lo+zs.length):=by
 rw [alu _ _ _ (by omega)];have τ:(cur.take lo++zs).length=lo+zs.length:=by rw [aTE,aTD];omega
 rw [aXG,τ,aT0 (by rw [τ];exact h),aWt,aUJ (by omega),List.drop_take]
theorem adx {n:Nat} {E:List (Nat×Value)} {w:World} {Q:Exit→Act→World→Prop} {ops:Array Oper} {ty:TypeId} {pos:String} {af:Array Edge} {x y:Operand} {rest:List Oper} {aE c b lo dl VF sl sc d:Nat} {A D S:Option Addr} {Ss:Addr} {l zs:List Int}
  (h:bW.aH 3 8 w aE (aa.aj A) A c l) (hA:A=some ⟨b,0,none⟩) (hx:ev E x=some (.slice D dl VF)) (vD:D=some ⟨b,lo,none⟩) (aF:ev E y=some (.slice S sl sc)) (hS:S=some Ss) (Yg:∀ (j:Nat) (v:Int),zs[j]? =some v→w.cell? (Ss.add j)=some (J v)) (bG:∀ v∈zs,e_ v)
  (hm:zs.length=Nat.min sl dl) (hle:lo+zs.length≤l.length) (QX:Nat.blt d n=true)
  (au:∀ aS,Mod (aa.aj A) w aS→bW.aH 3 8 aS aE (aa.aj A) A c (l.take lo++zs++l.drop (lo+zs.length))→cy prog n ops Q rest ((d,J (zs.length:Int))::E) aS):
  cy prog n ops Q (⟨some d, .call {callee:= .builtin .copy,args:=#[x,y],argTypes:=#[22, 22]},ty,pos,af,none⟩::rest) E w:=λ a ha=>by
 subst hA vD hS;obtain ⟨cur,τ,ae,aw,aU,bz,cb,ej,fq⟩:=aAi h;have rN:(zs.map ua).length=zs.length:=aUz _;have kQ:(Builtin.copy_ #[22, 22] ty #[.slice (some ⟨b,lo,none⟩) dl VF, .slice (some Ss) sl sc]).run prog w= .ok (goInt (zs.map ua).length) (w.setCells b lo (zs.map ua)):=
  run_copy_cells w _ _ ty 3 b lo dl VF Ss sl sc (zs.map ua) underlying22 (by
    obtain ⟨i0,ku,oa,sW,DC⟩:=aV0 DD;rw [ku];simp [sW]) (by rw [rN];exact hm)
   (λ j v aA=>by
    rw [aTY] at aA;cases hv:zs[j]? with
    | none=>rw [hv] at aA;cases aA
    | some u=>rw [hv] at aA;rw [← aTA aA];exact Yg j u hv)
   (λ j aA=>by rw [rN] at aA;rw [τ.cell,aTF (by omega)];rfl) (λ j _=>h.free _) aCI
 refine EV Z ?_;unfold Oper.wp execOp;simp only [resolve,invoke,builtin,aTQ,aTV,aTJ,aXI,aUs,aVy,ha.ev hx,ha.ev aF,kQ];rw [rN];refine au _ (Mod.cells b _ _ _) (aAh (cur:=zZ cur lo (zs.map ua)) (aR.setCells _ _ _ _ τ) ae aw (by rw [alv];exact aU) ?_ ?_ ?_ ?_ ?_) _ (ha.put QX _)
 ·have:(l.take lo++zs++l.drop (lo+zs.length)).length=l.length:=by rw [aTE,aTE,aTD,aTW];omega
  rw [this];exact bz
 ·have:(l.take lo++zs++l.drop (lo+zs.length)).length=l.length:=by rw [aTE,aTE,aTD,aTW];omega
  rw [this];obtain ⟨γ,_⟩:=h;exact γ
 ·have:(l.take lo++zs++l.drop (lo+zs.length)).length=l.length:=by rw [aTE,aTE,aTD,aTW];omega
  rw [this,aF7 (by rw [rN];exact hle) (by omega),cb,rN,aT8,aT8,aX9,List.map_drop]
 ·intro u hu;rcases alw _ _ _ hu with hu | hu
  ·exact ej u hu
  ·exact ajZ hu
 ·intro u hu;rcases aTP.1 hu with hu | hu
  ·rcases aTP.1 hu with hu | hu
   ·exact fq u (aVX hu)
   ·exact bG u hu
  ·exact fq u (aW3 hu)
theorem aEM {b c lo:Nat} (h:lo<c):eB (some ⟨b,0,none⟩) c lo 1=some ⟨b,lo,none⟩:=by
 unfold eB;rw [aTL (by omega)];show some (Addr.add _ _)=_;unfold Addr.add;split
 ·have:lo=0:=by omega
  subst this;rfl
 ·simp
theorem aEB {N k:Nat} {v:Int} (aK:0<k) (τ:k<N):(List.replicate k v++List.replicate (N - k) (0:Int)).take k++List.replicate (Nat.min k (N - k)) v++(List.replicate k v++List.replicate (N - k) (0:Int)).drop (k+(List.replicate (Nat.min k (N - k)) v).length)=List.replicate (k+Nat.min k (N - k)) v++List.replicate (N - (k+Nat.min k (N - k))) (0:Int):=by
 rw [aXM (by rw [aUe];exact aTK _),aT0 (by rw [aUe];exact aTK _),aUe,List.drop_append,aUe,aYm (by rw [aUe];omega),aVh,aYI,List.replicate_append_replicate];congr 2;omega
theorem amB {x:Int} (aK:0≤x) (τ:x<18446744073709551616):IntKind.u64.wrap x=x:=by rw [aUW];omega
theorem aFC {w:World} {X:Option Addr} {dC:Nat} {v u:Int} {j:Nat} (zw:bW.aG 8 w X dC [v]) (aA: [v][j]? =some u):w.cell? ((⟨eV X,kz X,none⟩:Addr).add j)=some (J u):=by
 obtain ⟨b,o,rfl,hc⟩:=Gg zw (by simp);rw [show (⟨eV (some ⟨b,o,none⟩),kz (some ⟨b,o,none⟩),none⟩:Addr)=⟨b,o,none⟩ from rfl,Ho];exact hc j u aA
theorem aFD {w:World} {b c k N:Nat} {v u:Int} {j:Nat} (h:bW.aG 8 w (some ⟨b,0,none⟩) c (List.replicate k v++List.replicate (N - k) (0:Int))) (aK:0<k) (aA:(List.replicate (Nat.min k (N - k)) v)[j]? =some u):w.cell? ((⟨b,0,none⟩:Addr).add j)=some (J u):=by
 obtain ⟨pG,o,e,hc⟩:=Gg h (by rw [aTE,aUe];omega);have e:=aTA e;injection e with aY bb
 subst aY;subst bb;rw [Ho];have bA:=(aTC.1 aA).1;rw [aUe] at bA;have hm:Nat.min k (N - k)≤k:=Nat.min_le_left _ _;have hu:u=v:=by rw [aUO] at aA;split at aA<;>simp_all
 refine hc j u ?_;rw [aTR (by rw [aUe];omega),aUO,aTO (by omega),hu]
theorem ak7 (X:Option Addr) (dC N:Nat) (v:Int) (w:World) (zw:bW.aG 8 w X dC [v]) (aK:0<N) (afX:N≤1000000):
  Calls prog 168 #[.slice X 1 dC,J (N:Int)] w (λ e w'=>∃ A c,e= .returned (.slice A (List.replicate N v).length c)∧bW.aH 3 8 w' w.heap.size (aa.aj A) A c (List.replicate N v)∧Ext w w'):=by
 have FJ:=Jd zw;have ay0:=FJ v (aTz.2 rfl);refine b' (n:=48) func168 Z Z Z ?_;refine ah<|va Z<|ag<|ay<|ah<|vm Z<|Φ (blt Z Z)<|ag<| ?_;have gA:(decide ((N:Int)<0))=false:=by (first | exact aT4 (by omega) | simp only [aUj];omega | (rw [aUl];exact ⟨by decide,aT4 (by omega)⟩))
 refine hj (by rw [← gA];rfl)<|bl<|ah<|vm Z<|Φ (cl underlying22 Z)<|Φ (Vw (r:=(1:Int)) (λ _=>by kernel_rfl) (amB (by omega) (by omega)) Z)<|vm Z<|Φ (Vw (r:=(N:Int)) (λ _=>by kernel_rfl) (amB (by omega) (by omega)) Z)<|ca au8 Z Z ((mul_one N (by omega) _).mono ?_);rintro e iH ⟨rfl,bq⟩;refine ⟨_,Z, ?_⟩;have:=bq.size;have b9:=ab (Ext.bg w) bq;refine vm Z<|Φ (ex Z Z)<|Φ (ex Z Z)<|va Z<|va Z<|ag<|ay<|ah<|vm Z<|Φ (hM Z Z)<|vm Z<|lZ Z Z Z<|vm Z<|lZ Z Z Z<|Φ (hM Z Z)<|Φ (s6 Z Z)<|ag<| ?_;have lg:(decide (9223372036854775807<(N:Int)))=false:=by (first | exact aT4 (by omega) | simp only [aUj];omega | (rw [aUl];exact ⟨by decide,aT4 (by omega)⟩))
 refine hj (by rw [← lg];rfl)<|bl<|ah<|vm Z<|Φ (Vw (r:=(N:Int)) (λ _=>by kernel_rfl) (bf (by omega)) Z)<|MQ (R:=bW) (by_:=8) (B:=w.heap.size) (c:=N) (zv:=(J 0)) (q:=0) aa.n1 underlying22 DD Z Z (λ j u h=>Jb j u h) (λ _=>⟨Z,bY.2 (by decide)⟩) Z Z Z (by omega) (by omega) (by omega) λ GB EY mq aPI apu=> ?_;have lv:=ab b9 mq;refine va Z<|ag<|ah<|vm Z<|vm Z<|adx (zs:= [v]) (lo:=0) apu Z Z Z Z (zw.bs (by simp)) (λ j u aA=>aFC (zw.keep lv) aA) FJ (by rw [aUq];exact (aUJ (by omega)).symm) (by rw [aUe];simp;omega) Z λ B5 uq O8=> ?_;have O8:bW.aH 3 8 B5 w.heap.size (aa.aj (some ⟨EY,0,none⟩)) (some ⟨EY,0,none⟩) N (List.replicate 1 v++List.replicate (N - 1) (0:Int)):=by have h:=O8;rw [aXT,aVh,aUq,aYI] at h;exact h
 have m_:=Ext.mod lv uq (λ q I=>by have:=(O8.lt q I).1;omega);refine va Z<|ag<|ay<|bu<| ?_;refine dx (λ bZ bS aL=>∃ k:Nat,bS= [(4, .slice none 0 0),(7, .slice (some ⟨EY,0,none⟩) N N),(8,J (k:Int))]∧bZ=N - k∧Ext w aL∧bW.aH 3 8 aL w.heap.size (aa.aj (some ⟨EY,0,none⟩)) (some ⟨EY,0,none⟩) N (List.replicate k v++List.replicate (N - k) (0:Int))∧(0<k)∧(k≤N)) _ _ ⟨1,Z,Z,m_,O8,by omega,by omega⟩ (hB Z) ?_;rintro o6 aJO ow ⟨k,rfl,rfl,fD,Us,oX,aNh⟩;refine ay<|ah<|vm Z<|vm Z<|Φ (cl underlying22 Z)<|Φ (blt Z Z)<|ag<| ?_;refine df Z (λ ub=> ?_) (λ ub=> ?_)
 ·refine bl<|bu<| ?_;refine cR [(7,3)] [0,1,2,3,4,5,6,7,8,9] ?_;refine a1 Z Z<|a1 Z Z<|a1 Z Z<|aB Z (λ _=>ZX k underlying22 dI Z Z Z (by omega))<|a1 Z Z<|a1 Z Z<|aB Z (λ _=>ZW k k underlying22 dI Z Z Z (by omega) Z)<|eg Z Z Z λ q2 gS Q hK=>adx (zs:=List.replicate (Nat.min k (N - k)) v) (lo:=k) (Us.later gS) Z Z (aEM (by omega)) Z Z (λ j u aA=>aFD (N:=N) (Us.later gS).has oX aA) (λ y aF=>by rw [List.eq_of_mem_replicate aF];exact ay0) (by rw [aUe]) (by rw [aUe,aTE,aUe,aUe];have:Nat.min k (N - k)≤N - k:=aWH _ _;omega) Z λ Ag jh sH=>hK _ _ ?_;have iM:=ab fD gS;have sH:bW.aH 3 8 Ag w.heap.size (aa.aj (some ⟨EY,0,none⟩)) (some ⟨EY,0,none⟩) N (List.replicate (k+Nat.min k (N - k)) v++List.replicate (N - (k+Nat.min k (N - k))) (0:Int)):=by have h:=sH;rw [aEB oX (by omega)] at h;exact h
  have oB:=Ext.mod iM jh (λ q I=>by have:=(sH.lt q I).1;omega);have rN:(List.replicate (Nat.min k (N - k)) v).length=Nat.min k (N - k):=aUe;rw [rN];refine aB Z (λ _=>bad Z Z (bf ((by have:Nat.min k (N - k)≤N - k:=aWH _ _;omega))))<|aB Z (λ _=>fG Z)<|fn λ th dO=> ?_;have iY:=ab oB dO;refine bU<| ?_;have sH:=sH.later dO;exact cD _ _ ⟨(k+Nat.min k (N - k)),Z,Z,iY,sH,by have:0<Nat.min k (N - k):=Nat.lt_min.2 ⟨oX,by omega⟩;omega,by have:Nat.min k (N - k)≤N - k:=aWH _ _;omega⟩ (by have:0<Nat.min k (N - k):=Nat.lt_min.2 ⟨oX,by omega⟩;have:Nat.min k (N - k)≤N - k:=aWH _ _;omega) (.cons Z (.cons Z (.cons (FR Z (by omega)) .nil)))
 ·refine cV<|cU<|c'<|cT<|aP<|ah<|vm Z<|va Z<|ag<|rt<|aV (.tmp Z .nil)<| ?_;obtain rfl:k=N:=by omega
  exact ⟨_,_,by rw [aUe];rfl,by have h:=Us;rw [aXs,List.replicate_zero,aT6] at h;exact h,fD⟩
end
section
theorem aDx (f:aI) (a b:az) (P:Option Addr) (ct:Nat) (w:World) (cq:bW.aG 8 w P ct f.a8) (he:f.dY a≠0):
  Calls prog 136 #[.agg #[J f.wide,J f.high, .slice P f.a8.length ct], .agg #[J a.x,J a.y], .agg #[J b.x,J b.y]] w (λ e w'=>e= .returned (.tuple #[.pointer none,J (f.dY a)])∧Ext w w'):=by
 have d':(f.dY a != 0)=true:=by simpa using he
 refine b' (n:=61) func136 Z Z Z ?_;refine ah<|ck Z Z Z Z λ cK bR bq dU ai=> ?_;have ba:=ab (Ext.bg w) bq;refine ck Z Z Z Z λ ea cC br gO ax=> ?_;have bE:=ab ba br;refine ck Z Z Z Z λ gJ iA cI qQ bB=> ?_;have cJ:=ab bE cI;refine va Z<|va Z<|ag<|ah<| ?_;have ai:=ai.later (ab br cI);refine Φ (ao Z (ai.all la ld))<| ?_;have ax:=ax.later cI;refine Φ (ao Z (ax.all cv b2))<|ca rC Z Z ((sP f a _ _ _ (cq.keep cJ)).mono ?_);rintro e nN ⟨rfl,fo⟩;refine ⟨_,Z, ?_⟩;have fp:=ab cJ fo;refine vm Z<|Φ (ex Z Z)<|Φ (ex Z Z)<|va Z<|va Z<|ag<|ay<|ah<|vm Z<|Φ (bne Z Z)<|ag<|fH (gW Z d')<|ah<|vm Z<|va Z<|va Z<|ag<|rt<|bP<| ?_;refine aV (.tmp Z (.tmp Z .nil))<| ?_;exact ⟨Z,fp⟩
theorem aDy (f:aI) (a b:az) (P:Option Addr) (ct:Nat) (w:World) (cq:bW.aG 8 w P ct f.a8) (Q5:f.dY a=0) (he:f.dY b≠0):
  Calls prog 136 #[.agg #[J f.wide,J f.high, .slice P f.a8.length ct], .agg #[J a.x,J a.y], .agg #[J b.x,J b.y]] w (λ e w'=>e= .returned (.tuple #[.pointer none,J (f.dY b)])∧Ext w w'):=by
 have d':(f.dY a != 0)=false:=by simpa using Q5
 have eu:(f.dY b != 0)=true:=by simpa using he
 refine b' (n:=61) func136 Z Z Z ?_;refine ah<|ck Z Z Z Z λ cK bR bq dU ai=> ?_;have ba:=ab (Ext.bg w) bq;refine ck Z Z Z Z λ ea cC br gO ax=> ?_;have bE:=ab ba br;refine ck Z Z Z Z λ gJ iA cI qQ bB=> ?_;have cJ:=ab bE cI;refine va Z<|va Z<|ag<|ah<| ?_;have ai:=ai.later (ab br cI);refine Φ (ao Z (ai.all la ld))<| ?_;have ax:=ax.later cI;refine Φ (ao Z (ax.all cv b2))<|ca rC Z Z ((sP f a _ _ _ (cq.keep cJ)).mono ?_);rintro e nN ⟨rfl,fo⟩;refine ⟨_,Z, ?_⟩;have fp:=ab cJ fo;refine vm Z<|Φ (ex Z Z)<|Φ (ex Z Z)<|va Z<|va Z<|ag<|ay<|ah<|vm Z<|Φ (bne Z Z)<|ag<|hj (gW Z d')<|bl<|ah<| ?_;have ai:=ai.later fo;refine Φ (ao Z (ai.all la ld))<| ?_;have bB:=bB.later fo;refine Φ (ao Z (bB.all cv b2))<|ca rC Z Z ((sP f b _ _ _ (cq.keep fp)).mono ?_);rintro e q3 ⟨rfl,cX⟩;refine ⟨_,Z, ?_⟩;have ie:=ab fp cX;refine vm Z<|Φ (ex Z Z)<|Φ (ex Z Z)<|va Z<|va Z<|ag<|ay<|ah<|vm Z<|Φ (bne Z Z)<|ag<|fH (gW Z eu)<|ah<|vm Z<|va Z<|va Z<|ag<|rt<|bP<| ?_;refine aV (.tmp Z (.tmp Z .nil))<| ?_;exact ⟨Z,ie⟩
theorem aDz (f:aI) (a b:az) (P:Option Addr) (ct:Nat) (w:World) (cq:bW.aG 8 w P ct f.a8) (Q5:f.dY a=0) (agD:f.dY b=0) (he:f.place a=1∨f.place b=1):
  Calls prog 136 #[.agg #[J f.wide,J f.high, .slice P f.a8.length ct], .agg #[J a.x,J a.y], .agg #[J b.x,J b.y]] w (λ e w'=>e= .returned (.tuple #[.pointer none,J 9])∧Ext w w'):=by
 have d':(f.dY a != 0)=false:=by simpa using Q5
 have eu:(f.dY b != 0)=false:=by simpa using agD
 have kg:((f.nj a == 1) || (f.nj b == 1))=true:=by obtain ⟨hf,Mh⟩:=Pt Q5;obtain ⟨_,Yr⟩:=Pt agD;rw [(aI.mK hf Mh).2,(aI.mK hf Yr).2];simpa using he
 refine b' (n:=61) func136 Z Z Z ?_;refine ah<|ck Z Z Z Z λ cK bR bq dU ai=> ?_;have ba:=ab (Ext.bg w) bq;refine ck Z Z Z Z λ ea cC br gO ax=> ?_;have bE:=ab ba br;refine ck Z Z Z Z λ gJ iA cI qQ bB=> ?_;have cJ:=ab bE cI;refine va Z<|va Z<|ag<|ah<| ?_;have ai:=ai.later (ab br cI);refine Φ (ao Z (ai.all la ld))<| ?_;have ax:=ax.later cI;refine Φ (ao Z (ax.all cv b2))<|ca rC Z Z ((sP f a _ _ _ (cq.keep cJ)).mono ?_);rintro e nN ⟨rfl,fo⟩;refine ⟨_,Z, ?_⟩;have fp:=ab cJ fo;refine vm Z<|Φ (ex Z Z)<|Φ (ex Z Z)<|va Z<|va Z<|ag<|ay<|ah<|vm Z<|Φ (bne Z Z)<|ag<|hj (gW Z d')<|bl<|ah<| ?_;have ai:=ai.later fo;refine Φ (ao Z (ai.all la ld))<| ?_;have bB:=bB.later fo;refine Φ (ao Z (bB.all cv b2))<|ca rC Z Z ((sP f b _ _ _ (cq.keep fp)).mono ?_);rintro e q3 ⟨rfl,cX⟩;refine ⟨_,Z, ?_⟩;have ie:=ab fp cX;refine vm Z<|Φ (ex Z Z)<|Φ (ex Z Z)<|va Z<|va Z<|ag<|ay<|ah<|vm Z<|Φ (bne Z Z)<|ag<|hj (gW Z eu)<|bl<|ay<|ah<|vm Z<|Φ (beq Z Z)<|vm Z<|eN Z Z<| ?_;refine bh Z (λ hc=>beq (gt hc Z) Z)<|Φ (fC Z Z Z Z)<|ag<|fH (gW Z kg)<|ah<|va Z<|va Z<|ag<|rt<|bP<|aV (.tmp Z (.tmp Z .nil))<| ?_;exact ⟨Z,ie⟩
theorem aDB (f:aI) (a b:az) (P:Option Addr) (ct:Nat) (w:World) (cq:bW.aG 8 w P ct f.a8) (hf:f.bn=0) (ga:f.ground a=true) (vA:f.ground b=true) (mR:c0 f a b b<0):
  Calls prog 136 #[.agg #[J f.wide,J f.high, .slice P f.a8.length ct], .agg #[J a.x,J a.y], .agg #[J b.x,J b.y]] w (λ e w'=>(∃ a_,pE f a b a_)∧e= .returned (.tuple #[.pointer none,J 6])∧Ext w w'):=by
 obtain ⟨g1,g2,g3,g4,g5,g6⟩:=aI.ks hf;have Iq:=aI.eZ hf;have Bq:=aI.ke ga;have nx:=aI.ke vA;obtain ⟨_,_,cF,a2,a3,a4⟩:=aI.idx hf Bq;obtain ⟨_,_,hL,dH,gy,y9⟩:=aI.idx hf nx;have XH:=(aI.mK hf Bq).1;have XI:=(aI.mK hf nx).1;have Ym:=(aI.mK hf Bq).2;have Yn:=(aI.mK hf nx).2;have Ya:=aI.Dc ga;have Yb:=aI.Dc vA;have dz:0<f.a8.length:=by have:=(aI.y8 hf Bq).1;omega
 have Yz:(f.dY a != 0)=false:=by rw [XH];rfl
 have YA:(f.dY b != 0)=false:=by rw [XI];rfl
 have YD:(f.nj a == 1)=false:=by rw [Ym];simpa using Ya
 have YE:(f.nj b == 1)=false:=by rw [Yn];simpa using Yb
 have YB:decide (c0 f a b b<0)=true:=aT3 mR;refine b' (n:=61) func136 Z Z Z ?_;refine ah<|ck Z Z Z Z λ cK bR bq dU ai=> ?_;have ba:=ab (Ext.bg w) bq;have ib:=ai.lt;refine ck Z Z Z Z λ ea cC br gO ax=> ?_;have bE:=ab ba br;have mi:=ax.lt;refine ck Z Z Z Z λ gJ iA cI qQ bB=> ?_;have cJ:=ab bE cI;have ya:=bB.lt;refine va Z<|va Z<|ag<|ah<| ?_;have ai:=ai.later (ab br cI);refine Φ (ao Z (ai.all la ld))<| ?_;have ax:=ax.later cI;refine Φ (ao Z (ax.all cv b2))<|ca rC Z Z ((sP f a _ _ _ (cq.keep cJ)).mono ?_);rintro e nN ⟨rfl,fo⟩;refine ⟨_,Z, ?_⟩;have:=fo.size;have fp:=ab cJ fo;refine vm Z<|Φ (ex Z Z)<|Φ (ex Z Z)<|va Z<|va Z<|ag<|ay<|ah<|vm Z<|Φ (bne Z Z)<|ag<|hj (gW Z Yz)<|bl<|ah<| ?_;have ai:=ai.later fo;refine Φ (ao Z (ai.all la ld))<| ?_;have bB:=bB.later fo;refine Φ (ao Z (bB.all cv b2))<|ca rC Z Z ((sP f b _ _ _ (cq.keep fp)).mono ?_);rintro e q3 ⟨rfl,cX⟩;refine ⟨_,Z, ?_⟩;have:=cX.size;have ie:=ab fp cX;refine vm Z<|Φ (ex Z Z)<|Φ (ex Z Z)<|va Z<|va Z<|ag<|ay<|ah<|vm Z<|Φ (bne Z Z)<|ag<|hj (gW Z YA)<|bl<|ay<|ah<|vm Z<|Φ (beq Z Z)<|vm (gW Z YD)<|lZ Z Z Z<| ?_;refine vm Z<|lZ Z Z Z<|Φ (beq Z Z)<|Φ (s6 Z (gW Z YE))<|ag<|hj Z<|bl<|ay<| ?_;refine cR [(0,0),(1,0),(2,2),(4,0),(6,2),(8,2)] [0,1,3,4,5,2,6,7,8,9] ?_;have ai:=ai.later cX;refine bx Z (λ _ x=>ao Z ((ai.later x).all la ld))<| ?_;have bB:=bB.later cX;refine bx Z (λ _ x=>ao Z ((bB.later x).all cv b2))<|aB Z (λ _=>av xj Z)<|bx Z (λ _ x=>ao Z ((ai.later x).one fV Z))<|aB Z (λ _=>cl underlying22 Z)<|gz Z Z Z λ Ah j3 Q hK=>cu (e:= 3) (cs:= [J (-1)]) Z (λ _=>by kernel_rfl) Z λ B7 acJ dO ajq yS=>hK _ _ ⟨ab j3 dO, ?_⟩;have:=j3.size;have kG:=ab ie j3;have pq:=ab kG dO;have aDW:=yS.lt;refine gz Z Z Z λ Gx jm Q hK=>ca ae1 Z Z ((ak7 _ _ f.a8.length (-1) _ (aR.gY (R:=bW) (by_:=8) (q:= -1) (yS.later jm) ⟨Z,bY.2 (by decide)⟩ (by decide)) dz (by omega)).mono ?_);rintro e yl ⟨uQ,za,rfl,mz,fh⟩;refine ⟨_,Z,hK _ _ ⟨ab jm fh, ?_⟩⟩;have:=jm.size;have yx:=ab pq jm;have:=fh.size;have ko:=ab yx fh;have yf:=b7 mz.lt;have sY:=dM mz.lt;have mz:=mz.down (show w.heap.size≤Gx.heap.size by omega);refine qJ (v:= .agg #[J f.wide,J f.high, .slice P f.a8.length ct,J b.x,J b.y, .slice uQ ((List.replicate f.a8.length (-1)).length) za, .slice none 0 0]) Z Z (λ _=>cY Z (by kernel_rfl)) Z<|gz Z Z Z λ Ec iI Q hK=>ck Z Z Z Z λ S' A0 fL ajs uP=>hK _ _ ⟨ab iI fL, ?_⟩;have:=iI.size;have px:=ab ko iI;have Ci:=ab px fL;have Nd:=uP.lt;refine aB Z (λ _=>fG Z)<|fn λ q4 eP=> ?_;have:=eP.size;have iw:=ab Ci eP;refine aP<|ah<|vm Z<| ?_;have ax:=ax.later (ab fo (ab cX (ab j3 (ab dO (ab jm (ab fh (ab iI (ab fL eP))))))));refine Φ (ao Z (ax.all cv b2))<| ?_;have uP:=uP.later eP;have mz:=mz.later (ab iI (ab fL eP));have Uj:cp.rep.aH 304 32 q4 w.heap.size (aa.aj none) none 0 ([]:List cp):=aa.aH.nil _;refine ca V6 Z Z ((Zq w f P uQ none ct za 0 A0 ((List.replicate f.a8.length (-1))) ([]:List cp) b a 0 _ iw hf cq uP (by omega) Uj (λ q I=>by simp [aa.aj] at I) (λ y aF=>by simp at aF) (by simp) (by omega) (by omega) (by omega)).mono ?_);rintro e JB ⟨cw,c1,rfl,fj,oF,XE,Dm,xR⟩;refine ⟨_,Z, ?_⟩;have q8:=Ext.mod iw xR (λ q I=>(aTZ.1 I).elim (λ h=>by omega) (λ h=>by simp [aa.aj] at h));have bH:∀ q∈aa.aj cw,q4.heap.size≤q:=λ q I=>(Dm q I).elim (λ h=>by simp [aa.aj] at h) id;refine ag<|ah<|vm Z<| ?_;have mz:=mz.mod xR (λ q I h=>(aTZ.1 h).elim (λ h=>by exfalso;(have:=yf q I;omega)) (λ h=>by simp [aa.aj] at h));refine ca ae2 Z Z ((akL w f P uQ cw ct za c1 A0 ((List.replicate f.a8.length (-1))) (cH.push cp.all ([]:List cp) ⟨a,0,0+aI.kb b a⟩) b a a _ q8 hf cq fj (by omega) mz oF (λ q I γ=>by exfalso;(have:=yf q I;omega)) XE (λ q τ ae=>by exfalso;(have:=bH q τ;(have:=yf q ae;omega))) (sI.start hf ga a) wV.start nx (by rw [cH.Nc,aav];simp;omega)).mono ?_);rintro e NM ⟨a_,dg,c2,iE,rfl,cW,iy,fJ,ky⟩;refine ⟨_,Z, ?_⟩;have q9:=Ext.mod q8 ky (λ q I=>(aTZ.1 I).elim (λ h=>by omega) (λ h=>(aTP.1 h).elim (λ h=>(mz.lt q h).1) (λ h=>(oF.lt q h).1)));have qO:=et hf fJ.len nx;refine ag<|ay<|ay<| ?_;refine cR [(3,0),(5,0),(6,0),(8,0)] [0,1,2,3,4,5,6,7,8,9] ?_;refine a1 Z Z<|aB Z (λ _=>cf Z)<|aB Z (λ _=>av oQ Z)<|bx Z (λ _ x=>ao Z ((cW.later x).one fV Z))<|a1 Z Z<| ?_;have bB:=((bB.later (ab j3 (ab dO (ab jm (ab fh (ab iI (ab fL eP))))))).mod xR (λ I=>(aTZ.1 I).elim (λ h=>by omega) (λ h=>by simp [aa.aj] at h))).mod ky (λ I=>(aTZ.1 I).elim (λ h=>by omega) (λ h=>(aTP.1 h).elim (λ h=>(show ∀ q,q∈aa.aj uQ→q=iA→False from λ q h γ=>by (have:=sY q h;omega)) _ h rfl) (λ h=>(show ∀ q,q∈aa.aj cw→q=iA→False from λ q h γ=>by (have:=bH q h;omega)) _ h rfl)));refine bx Z (λ _ x=>ao Z ((bB.later x).all cv b2))<|pO Z Z mN Z (λ _ x=>sa w f P uQ dg ct za c2 A0 a_ iE b b _ (ab q9 x) hf cq (cW.later x) (by first | omega | (dsimp only;omega))) Z<|aB Z (λ _=>bT ((b.y * f.wide+b.x).toNat) underlying22 dI Z Z (iy.has.bs (aO ((b.y * f.wide+b.x).toNat) (by have bc:=qO.1;omega))) (by omega) (by have bc:=qO.1;omega))<|bx Z (λ _ x=>ao Z (aa.aG.eM gI ((iy.later x).has.cg (aO ((b.y * f.wide+b.x).toNat) (by have bc:=qO.1;omega))) (fJ.get hf nx) Z a6))<|aB Z (λ _=>blt Z Z)<|fn λ GC mo=> ?_;have yA:=ab q9 mo;refine aP<|fH (gW Z YB)<|ah<|va Z<|va Z<|ag<|rt<|bP<|aV (.tmp Z (.tmp Z .nil))<| ?_;have cW:=cW.later mo;have iy:=iy.later mo;exact ⟨⟨a_,fJ⟩,Z,yA⟩
theorem aDC (f:aI) (a b:az) (P:Option Addr) (ct:Nat) (w:World) (cq:bW.aG 8 w P ct f.a8) (hf:f.bn=0) (ga:f.ground a=true) (vA:f.ground b=true) (mR:0≤c0 f a b b):
  Calls prog 136 #[.agg #[J f.wide,J f.high, .slice P f.a8.length ct], .agg #[J a.x,J a.y], .agg #[J b.x,J b.y]] w (λ e w'=>∃ p F A fN c a_ l,e= .returned (.tuple #[.pointer (some ⟨p,0,none⟩),J 0])∧pE f a b a_∧aR w' p [J f.wide,J f.high, .slice P f.a8.length ct,J b.x,J b.y, .slice F a_.length fN, .slice A ((l:List cp).length) c] 249 (0,0)∧w.heap.size≤p∧bW.aH 3 8 w' w.heap.size (aa.aj F) F fN a_∧(∀ q∈aa.aj F,q=p→False)∧Ext w w'):=by
 obtain ⟨g1,g2,g3,g4,g5,g6⟩:=aI.ks hf;have Iq:=aI.eZ hf;have Bq:=aI.ke ga;have nx:=aI.ke vA;obtain ⟨_,_,cF,a2,a3,a4⟩:=aI.idx hf Bq;obtain ⟨_,_,hL,dH,gy,y9⟩:=aI.idx hf nx;have XH:=(aI.mK hf Bq).1;have XI:=(aI.mK hf nx).1;have Ym:=(aI.mK hf Bq).2;have Yn:=(aI.mK hf nx).2;have Ya:=aI.Dc ga;have Yb:=aI.Dc vA;have dz:0<f.a8.length:=by have:=(aI.y8 hf Bq).1;omega
 have Yz:(f.dY a != 0)=false:=by rw [XH];rfl
 have YA:(f.dY b != 0)=false:=by rw [XI];rfl
 have YD:(f.nj a == 1)=false:=by rw [Ym];simpa using Ya
 have YE:(f.nj b == 1)=false:=by rw [Yn];simpa using Yb
 have YB:decide (c0 f a b b<0)=false:=aT4 (by omega);refine b' (n:=61) func136 Z Z Z ?_;refine ah<|ck Z Z Z Z λ cK bR bq dU ai=> ?_;have ba:=ab (Ext.bg w) bq;have ib:=ai.lt;refine ck Z Z Z Z λ ea cC br gO ax=> ?_;have bE:=ab ba br;have mi:=ax.lt;refine ck Z Z Z Z λ gJ iA cI qQ bB=> ?_;have cJ:=ab bE cI;have ya:=bB.lt;refine va Z<|va Z<|ag<|ah<| ?_;have ai:=ai.later (ab br cI);refine Φ (ao Z (ai.all la ld))<| ?_;have ax:=ax.later cI;refine Φ (ao Z (ax.all cv b2))<|ca rC Z Z ((sP f a _ _ _ (cq.keep cJ)).mono ?_);rintro e nN ⟨rfl,fo⟩;refine ⟨_,Z, ?_⟩;have:=fo.size;have fp:=ab cJ fo;refine vm Z<|Φ (ex Z Z)<|Φ (ex Z Z)<|va Z<|va Z<|ag<|ay<|ah<|vm Z<|Φ (bne Z Z)<|ag<|hj (gW Z Yz)<|bl<|ah<| ?_;have ai:=ai.later fo;refine Φ (ao Z (ai.all la ld))<| ?_;have bB:=bB.later fo;refine Φ (ao Z (bB.all cv b2))<|ca rC Z Z ((sP f b _ _ _ (cq.keep fp)).mono ?_);rintro e q3 ⟨rfl,cX⟩;refine ⟨_,Z, ?_⟩;have:=cX.size;have ie:=ab fp cX;refine vm Z<|Φ (ex Z Z)<|Φ (ex Z Z)<|va Z<|va Z<|ag<|ay<|ah<|vm Z<|Φ (bne Z Z)<|ag<|hj (gW Z YA)<|bl<|ay<|ah<|vm Z<|Φ (beq Z Z)<|vm (gW Z YD)<|lZ Z Z Z<| ?_;refine vm Z<|lZ Z Z Z<|Φ (beq Z Z)<|Φ (s6 Z (gW Z YE))<|ag<|hj Z<|bl<|ay<| ?_;refine cR [(0,0),(1,0),(2,2),(4,0),(6,2),(8,2)] [0,1,3,4,5,2,6,7,8,9] ?_;have ai:=ai.later cX;refine bx Z (λ _ x=>ao Z ((ai.later x).all la ld))<| ?_;have bB:=bB.later cX;refine bx Z (λ _ x=>ao Z ((bB.later x).all cv b2))<|aB Z (λ _=>av xj Z)<|bx Z (λ _ x=>ao Z ((ai.later x).one fV Z))<|aB Z (λ _=>cl underlying22 Z)<|gz Z Z Z λ Ah j3 Q hK=>cu (e:= 3) (cs:= [J (-1)]) Z (λ _=>by kernel_rfl) Z λ B7 acJ dO ajq yS=>hK _ _ ⟨ab j3 dO, ?_⟩;have:=j3.size;have kG:=ab ie j3;have pq:=ab kG dO;have aDW:=yS.lt;refine gz Z Z Z λ Gx jm Q hK=>ca ae1 Z Z ((ak7 _ _ f.a8.length (-1) _ (aR.gY (R:=bW) (by_:=8) (q:= -1) (yS.later jm) ⟨Z,bY.2 (by decide)⟩ (by decide)) dz (by omega)).mono ?_);rintro e yl ⟨uQ,za,rfl,mz,fh⟩;refine ⟨_,Z,hK _ _ ⟨ab jm fh, ?_⟩⟩;have:=jm.size;have yx:=ab pq jm;have:=fh.size;have ko:=ab yx fh;have yf:=b7 mz.lt;have sY:=dM mz.lt;have mz:=mz.down (show w.heap.size≤Gx.heap.size by omega);refine qJ (v:= .agg #[J f.wide,J f.high, .slice P f.a8.length ct,J b.x,J b.y, .slice uQ ((List.replicate f.a8.length (-1)).length) za, .slice none 0 0]) Z Z (λ _=>cY Z (by kernel_rfl)) Z<|gz Z Z Z λ Ec iI Q hK=>ck Z Z Z Z λ S' A0 fL ajs uP=>hK _ _ ⟨ab iI fL, ?_⟩;have:=iI.size;have px:=ab ko iI;have Ci:=ab px fL;have Nd:=uP.lt;refine aB Z (λ _=>fG Z)<|fn λ q4 eP=> ?_;have:=eP.size;have iw:=ab Ci eP;refine aP<|ah<|vm Z<| ?_;have ax:=ax.later (ab fo (ab cX (ab j3 (ab dO (ab jm (ab fh (ab iI (ab fL eP))))))));refine Φ (ao Z (ax.all cv b2))<| ?_;have uP:=uP.later eP;have mz:=mz.later (ab iI (ab fL eP));have Uj:cp.rep.aH 304 32 q4 w.heap.size (aa.aj none) none 0 ([]:List cp):=aa.aH.nil _;refine ca V6 Z Z ((Zq w f P uQ none ct za 0 A0 ((List.replicate f.a8.length (-1))) ([]:List cp) b a 0 _ iw hf cq uP (by omega) Uj (λ q I=>by simp [aa.aj] at I) (λ y aF=>by simp at aF) (by simp) (by omega) (by omega) (by omega)).mono ?_);rintro e JB ⟨cw,c1,rfl,fj,oF,XE,Dm,xR⟩;refine ⟨_,Z, ?_⟩;have q8:=Ext.mod iw xR (λ q I=>(aTZ.1 I).elim (λ h=>by omega) (λ h=>by simp [aa.aj] at h));have bH:∀ q∈aa.aj cw,q4.heap.size≤q:=λ q I=>(Dm q I).elim (λ h=>by simp [aa.aj] at h) id;refine ag<|ah<|vm Z<| ?_;have mz:=mz.mod xR (λ q I h=>(aTZ.1 h).elim (λ h=>by exfalso;(have:=yf q I;omega)) (λ h=>by simp [aa.aj] at h));refine ca ae2 Z Z ((akL w f P uQ cw ct za c1 A0 ((List.replicate f.a8.length (-1))) (cH.push cp.all ([]:List cp) ⟨a,0,0+aI.kb b a⟩) b a a _ q8 hf cq fj (by omega) mz oF (λ q I γ=>by exfalso;(have:=yf q I;omega)) XE (λ q τ ae=>by exfalso;(have:=bH q τ;(have:=yf q ae;omega))) (sI.start hf ga a) wV.start nx (by rw [cH.Nc,aav];simp;omega)).mono ?_);rintro e NM ⟨a_,dg,c2,iE,rfl,cW,iy,fJ,ky⟩;refine ⟨_,Z, ?_⟩;have q9:=Ext.mod q8 ky (λ q I=>(aTZ.1 I).elim (λ h=>by omega) (λ h=>(aTP.1 h).elim (λ h=>(mz.lt q h).1) (λ h=>(oF.lt q h).1)));have qO:=et hf fJ.len nx;refine ag<|ay<|ay<| ?_;refine cR [(3,0),(5,0),(6,0),(8,0)] [0,1,2,3,4,5,6,7,8,9] ?_;refine a1 Z Z<|aB Z (λ _=>cf Z)<|aB Z (λ _=>av oQ Z)<|bx Z (λ _ x=>ao Z ((cW.later x).one fV Z))<|a1 Z Z<| ?_;have bB:=((bB.later (ab j3 (ab dO (ab jm (ab fh (ab iI (ab fL eP))))))).mod xR (λ I=>(aTZ.1 I).elim (λ h=>by omega) (λ h=>by simp [aa.aj] at h))).mod ky (λ I=>(aTZ.1 I).elim (λ h=>by omega) (λ h=>(aTP.1 h).elim (λ h=>(show ∀ q,q∈aa.aj uQ→q=iA→False from λ q h γ=>by (have:=sY q h;omega)) _ h rfl) (λ h=>(show ∀ q,q∈aa.aj cw→q=iA→False from λ q h γ=>by (have:=bH q h;omega)) _ h rfl)));refine bx Z (λ _ x=>ao Z ((bB.later x).all cv b2))<|pO Z Z mN Z (λ _ x=>sa w f P uQ dg ct za c2 A0 a_ iE b b _ (ab q9 x) hf cq (cW.later x) (by first | omega | (dsimp only;omega))) Z<|aB Z (λ _=>bT ((b.y * f.wide+b.x).toNat) underlying22 dI Z Z (iy.has.bs (aO ((b.y * f.wide+b.x).toNat) (by have bc:=qO.1;omega))) (by omega) (by have bc:=qO.1;omega))<|bx Z (λ _ x=>ao Z (aa.aG.eM gI ((iy.later x).has.cg (aO ((b.y * f.wide+b.x).toNat) (by have bc:=qO.1;omega))) (fJ.get hf nx) Z a6))<|aB Z (λ _=>blt Z Z)<|fn λ GC mo=> ?_;have yA:=ab q9 mo;refine aP<|hj (gW Z YB)<|bl<|ah<|vm Z<|va Z<|va Z<|ag<|rt<|aV (.tmp Z (.tmp Z .nil))<| ?_;have cW:=cW.later mo;have iy:=iy.later mo;exact ⟨A0,uQ,dg,za,c2,a_,iE,Z,fJ,cW,by omega,iy,(λ q I γ=>by exfalso;(have:=yf q I;omega)),yA⟩
theorem aDA (f:aI) (a b:az) (P:Option Addr) (ct:Nat) (w:World) (cq:bW.aG 8 w P ct f.a8) (h:hk f a b≠0):
  Calls prog 136 #[.agg #[J f.wide,J f.high, .slice P f.a8.length ct], .agg #[J a.x,J a.y], .agg #[J b.x,J b.y]] w (λ e w'=>e= .returned (.tuple #[.pointer none,J (hk f a b)])∧Ext w w'):=by
 rcases Wr f a b with ⟨τ,ae⟩ | ⟨τ,ae,aw⟩ | ⟨τ,ae,aw,aU⟩ | ⟨τ,ae,aw,aU | aU⟩
 ·rw [ae];exact aDx f a b P ct w cq τ
 ·rw [aw];exact aDy f a b P ct w cq τ ae
 ·rw [aU];exact aDz f a b P ct w cq τ ae aw
 ·rw [aU.2];exact (aDB f a b P ct w cq τ ae aw aU.1).mono λ e w' h=>⟨h.2.1,h.2.2⟩
 ·exact absurd aU.2 h
end
section
namespace wS
section
variable {α:Type} [Inhabited α] {l:List α} {k i:Nat}
def kj (l:List α):Nat→List α
 | 0=>l
 | k+1=>cH.swp (kj l k) k (l.length - 1 - k)
theorem Gi:(kj l k).length=l.length:=by
 induction k with
 | zero=>rfl
 | succ k bK=>rw [kj,cH.ml,bK]
theorem aEK:∀ k,2 * k≤l.length+1→(kj l k).Perm l:=by
 intro k;induction k with
 | zero=>intro _;exact aXW _
 | succ k bK =>
  intro au;rw [kj];exact (cH.D3 (by rw [Gi];omega) (by rw [Gi];omega)).trans (bK (by omega))
theorem aEJ:∀ k,2 * k≤l.length→∀ i,i<l.length→(kj l k).getD i default=if i<k∨l.length - 1 - i<k then l.getD (l.length - 1 - i) default else l.getD i default:=by
 intro k;induction k with
 | zero=>intro _ i _;rw [aTL (by omega)];rfl
 | succ k bK =>
  intro au i ar;have aC:=Gi (l:=l) (k:=k);rw [kj,cH.D2 (by omega) (by omega)];by_cases aY:i=l.length - 1 - k
  ·rw [aTO aY,bK (by omega) k (by omega),aTL (by omega),aTO (by omega)];congr 1;omega
  ·rw [aTL aY];by_cases bb:i=k
   ·rw [aTO bb,bK (by omega) _ (by omega),aTL (by omega),aTO (by omega)];congr 1;omega
   ·rw [aTL bb,bK (by omega) i ar];by_cases cP:i<k∨l.length - 1 - i<k
    ·rw [aTO cP,aTO (by omega)]
    ·rw [aTL cP,aTL (by omega)]
theorem aEI (h:(l.length:Int) - 1≤2 * (k:Int)) (ae:2 * k≤l.length):kj l k=l.reverse:=by
 refine List.ext_getElem (by rw [Gi,aV4]) λ i τ aMU=> ?_;rw [Gi] at τ;have aM:=aEJ k ae i τ;rw [aYw];have e:(kj l k).getD i default=(kj l k)[i]'(by rw [Gi];exact τ):=by rw [aTB,aTF];rfl
 rw [← e,aM];split
 ·rw [aTB,aTF (by omega)];rfl
 ·rw [aTB,aTF τ];have:l.length - 1 - i=i:=by omega
  simp only [aUM,this]
end
end wS
end
section
theorem aEp (A:Option Addr) (c aE:Nat) (l:List az) (w:World) (aX:az.rep.aH 55 16 w aE (aa.aj A) A c (l)) (eA:∀ y∈l,y.ok):
  Calls prog 140 #[.slice A l.length c] w (λ e w'=>e= .returned (.tuple #[])∧az.rep.aH 55 16 w' aE (aa.aj A) A c (l.reverse)∧Mod (aa.aj A) w w'):=by
 have LP:=aX.has.eZ;refine b' (n:=28) func140 Z Z Z ?_;refine ah<|vm Z<|Φ (cl underlying25 Z)<|Φ (gh Z Z (bf (by omega)))<|va Z<|va Z<|ag<|bu<| ?_;refine dx (λ bZ bS aL=>∃ k:Nat,∃ j8:Int,bS= [(0, .slice A l.length c),(2,J (k:Int)),(3,J j8)]∧bZ=(l.length - k)∧Mod (aa.aj A) w aL∧az.rep.aH 55 16 aL aE (aa.aj A) A c (wS.kj l k)∧(j8=(l.length:Int) - 1 - (k:Int))∧(2 * k≤l.length)) _ _ ⟨0,((l.length:Int) - 1),Z,Z,(Mod.bg (aa.aj A) w),aX,by omega,by omega⟩ (.cons Z (.cons (bH Z) (.cons (bH Z) .nil))) ?_;rintro DL G5 cK ⟨k,j8,rfl,rfl,ba,dr,sR,au⟩;have aNy:(wS.kj l k).length=l.length:=wS.Gi;have ahg:∀ y∈wS.kj l k,y.ok:=λ y aF=>eA y ((wS.aEK k (by omega)).subset aF);refine ay<|ah<|vm Z<|vm Z<|Φ (blt Z Z)<|ag<| ?_;refine df Z (λ jr=> ?_) (λ jr=> ?_)
 ·refine bl<|ay<|bu<| ?_;refine cR [(7,0),(11,0),(13,3),(15,3)] [0,1,2,3,4,5,6,7,8,9,10,11,12,13,14,15] ?_;refine a1 Z Z<|a1 Z Z<|a1 Z Z<|a1 Z Z<|a1 Z Z<|a1 Z Z<|aB Z (λ _=>bT j8.toNat underlying25 b2 Z Z (dr.has.bs (aO j8.toNat (by first | omega | (rw [aTH];omega)))) (by omega) (by first | omega | (rw [aTH];omega)))<|bx Z (λ _ x=>ao Z (aa.aG.er xv ((dr.later x).has.cg (aO j8.toNat (by first | omega | (rw [aTH];omega)))) (cA (l:=wS.kj l k) (u:=default) (by first | omega | (rw [aTH];omega))) cv b2))<|a1 Z Z<|a1 Z Z<|aB Z (λ _=>bT k underlying25 b2 Z Z (dr.has.bs (aO k (by first | omega | (rw [aTH];omega)))) Z (by first | omega | (rw [aTH];omega)))<|bx Z (λ _ x=>ao Z (aa.aG.er xv ((dr.later x).has.cg (aO k (by first | omega | (rw [aTH];omega)))) (cA (l:=wS.kj l k) (u:=default) (by first | omega | (rw [aTH];omega))) cv b2))<|aB Z (λ _=>bT k underlying25 b2 Z Z (dr.has.bs (aO k (by first | omega | (rw [aTH];omega)))) Z (by first | omega | (rw [aTH];omega)))<|eg Z Z Z λ wq mq Q hK=>Gn (q':=(wS.kj l k).getD j8.toNat default) (i:=k) (dr.later mq) aa.dj (by first | omega | (rw [aTH];omega)) Z Z Z Z (λ _=>⟨Z,(ahg _ (gP (by omega)))⟩) b2 λ tk MR acj=>hK _ _ ?_;have iZ:=ba.trans (Mod.bt mq);have jC:=iZ.md MR (λ q I=> .inl I);refine aB Z (λ _=>bT j8.toNat underlying25 b2 Z Z (acj.has.bs (aO j8.toNat (by first | omega | (rw [aTH];omega)))) (by omega) (by first | omega | (rw [aTH];omega)))<|eg Z Z Z λ gJ eI Q hK=>Gn (q':=(wS.kj l k).getD k default) (i:=j8.toNat) (acj.later eI) aa.dj (by first | omega | (rw [aTH];omega)) Z Z Z Z (λ _=>⟨Z,(ahg _ (gP (by omega)))⟩) b2 λ Gw BG UC=>hK _ _ ?_;have cJ:=jC.trans (Mod.bt eI);have na:=cJ.md BG (λ q I=> .inl I);refine fn λ wo eO=> ?_;have kF:=na.trans (Mod.bt eO);refine bU<|aP<|rg<|vm Z<|Φ (bad Z Z (bf (by omega)))<|vm Z<|Φ (gh Z Z (bf (by omega)))<|va Z<|va Z<|nl<| ?_;have UC:=UC.later eO;exact cD _ _ ⟨k+1,(j8 - 1),Z,Z,kF,(by have h:=UC;rw [show j8.toNat=l.length - 1 - k by omega] at h;exact h),by omega,by omega⟩ (by omega) (.cons Z (.cons (bH Z) (.cons (bH Z) .nil)))
 ·refine cV<|cU<|c'<|cT<|ne<|aV .nil<| ?_;exact ⟨Z,by have h:=dr;rw [wS.aEI (by omega) (by omega)] at h;exact h,ba⟩
end
section
theorem ap8:G6 prog az.cells 55 :=by
 intro a b w;obtain ⟨a0,cF⟩:=a;obtain ⟨Hr,hL⟩:=b;simp only [az.cells,az.mk.injEq];constructor
 ·go_simp
  repeat' split
  all_goals simp_all
 ·go_simp
  repeat' split
  all_goals simp_all
theorem ap7:(prog).eqGuardType (prog).depth 55 =false:=by kernel_rfl
theorem ap6:fi prog az.rep 25 55 16:=fi.lH (z:=az.zero) (k:=2) underlying25 az.info rfl rfl (by decide) az.ix
section
variable {f:aI} {a b c cn:az} {aD:az→Int} {out L:List az} {j:Nat}
theorem aqL (p q r:Bool):p=false∨(p=true∧q=false)∨(p=true∧q=true∧r=false)∨(p=true∧q=true∧r=true):=by cases p<;>cases q<;>cases r<;>simp
theorem aDt (h:∀ i,i<4→(f.ground ((eh c).getD i default) && decide (0≤aD ((eh c).getD i default)) && decide (aD ((eh c).getD i default)+f.gN c=aD c))=false):lJ f aD c=c:=by
 have e:(eh c).find? (λ n=>f.ground n && decide (0≤aD n) && decide (aD n+f.gN c=aD c))=none:=by
  rw [aU7];intro x hx;obtain ⟨i,ar,rfl⟩:=aUB.1 hx;have:=h i ar;rw [mO ar] at this;rw [this];decide
 unfold lJ;rw [e];rfl
theorem aDs (aA:j<4) (h:∀ i,i<j→(f.ground ((eh c).getD i default) && decide (0≤aD ((eh c).getD i default)) && decide (aD ((eh c).getD i default)+f.gN c=aD c))=false) (hp:(f.ground ((eh c).getD j default) && decide (0≤aD ((eh c).getD j default)) && decide (aD ((eh c).getD j default)+f.gN c=aD c))=true):lJ f aD c=(eh c).getD j default:=by
 have e:(eh c).find? (λ n=>f.ground n && decide (0≤aD n) && decide (aD n+f.gN c=aD c))=some ((eh c).getD j default):=by
  have aC:(eh c).length=4:=rfl;rw [aWk];refine ⟨hp,j,by omega,(mO (by omega)).symm,λ i ar=> ?_⟩;have:=h i ar;rw [mO (by omega)] at this;simp only [this];rfl
 unfold lJ;rw [e];rfl
theorem amX (f:aI) (aD:az→Int) (a:az) (n:Nat) (c:az): [c]++(wY f aD a n c).tail=wY f aD a n c:=by
 cases n with
 | zero=>rfl
 | succ n=>unfold wY;split<;>rfl
theorem aHC (h:out++(fU f aD a c).tail=L) (ae:fU f aD a c=c::fU f aD a cn):(out++ [cn])++(fU f aD a cn).tail=L:=by
 rw [ae,List.tail_cons] at h;rw [aTX,show [cn]++(fU f aD a cn).tail=fU f aD a cn from amX _ _ _ _ _];exact h
theorem aHD (h:oE f a aD):∀ {c:az},0≤aD c→((fU f aD a c).length:Int)≤aD c+1:=by
 have key:∀ n:Nat,∀ c,0≤aD c→(aD c).toNat=n→((fU f aD a c).length:Int)≤aD c+1:=by
  intro n;induction n using Nat.strongRecOn with
  | ind n bK =>
   intro c hc hn;by_cases eY:c=a
   ·subst eY;rw [B_ h,h.zero];simp
   ·obtain ⟨eH,fa,mh,v_⟩:=h.prev hc eY;have au:=f.p3 (c:=c);have:=bK (aD (lJ f aD c)).toNat (by omega) _ mh rfl;rw [B' h hc eY,aTI];omega
 exact fun {c} hc=>key _ c hc Z
end
theorem aDc (f:aI) (a b:az) (P:Option Addr) (ct:Nat) (w:World) (cq:bW.aG 8 w P ct f.a8) (he:hk f a b≠0):
  Calls prog 104 #[.agg #[J f.wide,J f.high, .slice P f.a8.length ct], .agg #[J a.x,J a.y], .agg #[J b.x,J b.y]] w (λ e w'=>e= .returned (.tuple #[.slice none 0 0,J 0,J (hk f a b)])∧Ext w w'):=by
 have aAr:(hk f a b != 0)=true:=by simpa using he
 refine b' (n:=107) func104 Z Z Z ?_;refine ah<|ck Z Z Z Z λ cK bR bq dU ai=> ?_;have ba:=ab (Ext.bg w) bq;refine ck Z Z Z Z λ ea cC br gO ax=> ?_;have bE:=ab ba br;refine ck Z Z Z Z λ gJ iA cI qQ bB=> ?_;have cJ:=ab bE cI;refine va Z<|va Z<|va Z<|ag<|ah<| ?_;have ai:=ai.later (ab br cI);refine Φ (ao Z (ai.all la ld))<| ?_;have ax:=ax.later cI;refine Φ (ao Z (ax.all cv b2))<|Φ (ao Z (bB.all cv b2))<|ca ae3 Z Z ((aDA f a b P ct _ (cq.keep cJ) he).mono ?_);rintro e nN ⟨rfl,fo⟩;refine ⟨_,Z, ?_⟩;have fp:=ab cJ fo;refine vm Z<|Φ (ex Z Z)<|Φ (ex Z Z)<|va Z<|va Z<|ag<|ay<|ah<|vm Z<|Φ (bne Z Z)<|ag<|fH (gW Z aAr)<|ah<|vm Z<|va Z<|va Z<|va Z<|ag<|rt<| ?_;refine bP<|aV (.tmp Z (.tmp Z (.tmp Z .nil)))<| ?_;exact ⟨Z,fp⟩
theorem aDd (f:aI) (a b:az) (P:Option Addr) (ct:Nat) (w:World) (cq:bW.aG 8 w P ct f.a8) (hf:f.bn=0) (ga:f.ground a=true) (vA:f.ground b=true) (mR:0≤c0 f a b b):
  Calls prog 104 #[.agg #[J f.wide,J f.high, .slice P f.a8.length ct], .agg #[J a.x,J a.y], .agg #[J b.x,J b.y]] w (λ e w'=>∃ A c,e= .returned (.tuple #[.slice A (fU f (c0 f a b) a b).reverse.length c,J (c0 f a b b),J 0])∧az.rep.aH 55 16 w' w.heap.size (aa.aj A) A c (fU f (c0 f a b) a b).reverse∧Ext w w'):=by
 obtain ⟨g1,g2,g3,g4,g5,g6⟩:=aI.ks hf;have Iq:=aI.eZ hf;have nx:=aI.ke vA;obtain ⟨_,_,hL,dH,gy,y9⟩:=aI.idx hf nx;refine b' (n:=107) func104 Z Z Z ?_;refine ah<|ck Z Z Z Z λ cK bR bq dU ai=> ?_;have ba:=ab (Ext.bg w) bq;have ib:=ai.lt;refine ck Z Z Z Z λ ea cC br gO ax=> ?_;have bE:=ab ba br;have mi:=ax.lt;refine ck Z Z Z Z λ gJ iA cI qQ bB=> ?_;have cJ:=ab bE cI;have ya:=bB.lt;refine va Z<|va Z<|va Z<|ag<|ah<| ?_;have ai:=ai.later (ab br cI);refine Φ (ao Z (ai.all la ld))<| ?_;have ax:=ax.later cI;refine Φ (ao Z (ax.all cv b2))<|Φ (ao Z (bB.all cv b2))<|ca ae3 Z Z ((aDC f a b P ct _ (cq.keep cJ) hf ga vA mR).mono ?_);rintro e nN ⟨p,F,A,fN,c,a_,l,rfl,fJ,aZ,aN6,cB,agz,fo⟩;refine ⟨_,Z, ?_⟩;have fp:=ab cJ fo;have Sg:=aZ.lt;have BX:=b7 cB.lt;obtain ⟨aLI,aLJ,aLK⟩:=et hf fJ.len nx;have Ig:=λ c=>fJ.aq0 c;have H3:=oE.Gb fJ mR;refine vm Z<|Φ (ex Z Z)<|Φ (ex Z Z)<|va Z<|va Z<|ag<|ay<|ah<|vm Z<|Φ (bne Z Z)<|ag<|hj Z<|bl<|ah<| ?_;have bB:=bB.later fo;refine Φ (ao Z (bB.all cv b2))<|cu (e:= 55) (cs:= [J b.x,J b.y]) Z (λ _=>by kernel_rfl) Z λ q3 KE j2 ajp oC=> ?_;have ie:=ab fp j2;have aDV:=oC.lt;refine va Z<|ag<|ay<|ah<| ?_;have bB:=bB.later j2;refine Φ (ao Z (bB.all cv b2))<|al Z xi Z Z λ yk AZ jP aAN Ev=> ?_;have lu:=ab ie jP;refine st (new:= [J b.x,J b.y]) Z Z Ev Z b2 Z Z Z λ tj lS Ev=> ?_;have kn:=Ext.mod lu lS bC;refine ag<|bu<| ?_;have oC:=(oC.later jP).mod lS aQ;have Ko:=aR.vZ (R:=az.rep) (by_:=16) (B:=w.heap.size) (k:= [b]) oC [b.cells] rfl ⟨⟨rfl,bY.2 (by omega),bY.2 (by omega)⟩,trivial⟩ (by simp) (by simp) (by decide) (by omega);have xl:∀ q∈aa.aj (some ⟨KE,0,none⟩),q=KE:=λ q I=>aTz.1 I;have ax:=(ax.later (ab fo (ab j2 jP))).mod lS aQ;have bB:=(bB.later jP).mod lS aQ;have aZ:=(aZ.later (ab j2 jP)).mod lS aQ;have cB:=(cB.later (ab j2 jP)).mod lS (b0 BX);refine dx (λ bZ bS aL=>∃ c1:az,∃ sK:Nat,∃ out:List az,∃ dw:Option Addr,∃ iR:Nat,bS= [(4, .pointer (some ⟨cC,0,none⟩)),(5, .pointer (some ⟨iA,0,none⟩)),(6, .slice none 0 0),(7,J 0),(8,J 0),(9, .pointer (some ⟨p,0,none⟩)),(11, .slice dw out.length iR),(12, .pointer (some ⟨sK,0,none⟩))]∧bZ=(c0 f a b c1).toNat∧Ext w aL∧aR aL cC [J a.x,J a.y] 55 (0,0)∧aR aL iA [J b.x,J b.y] 55 (0,0)∧aR aL p [J f.wide,J f.high, .slice P f.a8.length ct,J b.x,J b.y, .slice F a_.length fN, .slice A ((l:List cp).length) c] 249 (0,0)∧bW.aH 3 8 aL gJ.heap.size (aa.aj F) F fN a_∧aR aL sK [J c1.x,J c1.y] 55 (0,0)∧az.rep.aH 55 16 aL w.heap.size (aa.aj dw) dw iR out∧(bR<sK)∧(cC<sK)∧(iA<sK)∧(p<sK)∧(∀ q∈aa.aj F,q<sK)∧(0≤c0 f a b c1)∧(out++(fU f (c0 f a b) a c1).tail=fU f (c0 f a b) a b)∧(w.heap.size≤sK)∧(∀ q∈aa.aj dw,q=cC→False)∧(∀ q∈aa.aj dw,q=iA→False)∧(∀ q∈aa.aj dw,q=p→False)∧(∀ q∈aa.aj dw,q=sK→False)∧(∀ q∈aa.aj dw,q∈aa.aj F→False)) _ _ ⟨b,AZ, [b],some ⟨KE,0,none⟩,1,Z,Z,kn,ax,bB,aZ,cB,Ev,Ko,(by omega),(by omega),(by omega),(by omega),(λ q I=>by have:=BX q I;omega),mR,(by unfold fU;exact amX _ _ _ _ _),(by omega),(λ q I γ=>by (have:=xl q I;omega)),(λ q I γ=>by (have:=xl q I;omega)),(λ q I γ=>by (have:=xl q I;omega)),(λ q I γ=>by (have:=xl q I;omega)),(λ q I γ=>by (have:=xl q I;(have:=BX q γ;omega)))⟩ (hB Z) ?_;rintro zN aJ0 Ed ⟨c1,sK,out,dw,iR,rfl,rfl,nb,ax,bB,aZ,cB,fZ,l8,aOt,aOu,aOs,aOv,agd,mP,nz,ma,xd,zd,tW,A7,ry⟩;have yg:=b7 cB.lt;have Gr:=b7 l8.lt;have axu:∀ q∈aa.aj F,q=sK→False:=λ q I γ=>by have:=agd q I;omega
 have xw:=aI.ke (H3.gr c1 mP);have ax4:=H3.gr c1 mP;obtain ⟨_,_,aLN,aLO,aLP,aLQ⟩:=aI.idx hf xw;have ayo:=f.p3 (c:=c1);have pZ:=aky hf ax4;have aM4:=Ig c1;have agV:out.length≤4801:=by have τ:=aUF List.length nz;rw [aTE] at τ;have ae:=aHD H3 mR;have aw:=Ig b;omega
 refine ay<|ah<|Φ (ao Z (fZ.all cv b2))<|Φ (ao Z (ax.all cv b2))<|Φ (KI ap8 ap7 (p:=c1) (q:=a) Z Z)<|ag<| ?_;refine dn Z (λ Lv=> ?_) (λ Lv=> ?_)
 ·have QZ:c1≠a:=by simpa using Lv
  obtain ⟨eH,fa,mh,v_⟩:=H3.prev mP QZ;have Iw:=B' H3 mP QZ;refine bl<|ay<|bu<|ah<|vm Z<|Φ (ao Z (fZ.all cv b2))<|ca V5 Z Z ((Zn w f P F A ct fN c p a_ l b c1 _ nb hf cq aZ).mono ?_);rintro e amN ⟨rfl,GQ⟩;refine ⟨_,Z, ?_⟩;have Of:=ab nb GQ;refine vm Z<|Φ (ex Z Z)<|Φ (ex Z Z)<|va Z<|va Z<|ag<|ay<|ah<| ?_;have fZ:=fZ.later GQ;refine Φ (ao Z (fZ.all cv b2))<|ca ae0 Z Z ((akM c1 _ (by first | omega | (dsimp only;omega))).mono ?_);rintro e JC ⟨rfl,pn⟩;refine ⟨_,Z, ?_⟩;have sy:=ab Of pn;refine vm Z<|ag<|bu<| ?_;have ax:=ax.later (ab GQ pn);have bB:=bB.later (ab GQ pn);have aZ:=aZ.later (ab GQ pn);have cB:=cB.later (ab GQ pn);have fZ:=fZ.later pn;have l8:=l8.later (ab GQ pn);refine dx (λ bZ bS aL=>∃ j:Nat,bS= [(4, .pointer (some ⟨cC,0,none⟩)),(5, .pointer (some ⟨iA,0,none⟩)),(6, .slice none 0 0),(7,J 0),(8,J 0),(9, .pointer (some ⟨p,0,none⟩)),(11, .slice dw out.length iR),(12, .pointer (some ⟨sK,0,none⟩)),(13,J (qf f c1)),(32, .agg #[J c1.x,J c1.y]),(33, .agg #[J a.x,J a.y]),(34, .bool (!decide (c1=a))),(35, .tuple #[J (qf f c1), .bool (f.ground c1)]),(36, .pointer (some ⟨p,0,none⟩)),(37, .agg #[J c1.x,J c1.y]),(38, .tuple #[J (qf f c1), .bool (f.ground c1)]),(39,J (qf f c1)),(40, .bool (f.ground c1)),(41, .agg #[J c1.x,J c1.y]),(42, .agg #[J c1.x,J (c1.y - 1),J (c1.x - 1),J c1.y,J (c1.x+1),J c1.y,J c1.x,J (c1.y+1)]),(43,J (j:Int))]∧bZ=4 - j∧Ext w aL∧aR aL cC [J a.x,J a.y] 55 (0,0)∧aR aL iA [J b.x,J b.y] 55 (0,0)∧aR aL p [J f.wide,J f.high, .slice P f.a8.length ct,J b.x,J b.y, .slice F a_.length fN, .slice A ((l:List cp).length) c] 249 (0,0)∧bW.aH 3 8 aL gJ.heap.size (aa.aj F) F fN a_∧aR aL sK [J c1.x,J c1.y] 55 (0,0)∧az.rep.aH 55 16 aL w.heap.size (aa.aj dw) dw iR out∧(j≤4)∧(∀ i,i<j→(f.ground ((eh c1).getD i default) && decide (0≤c0 f a b ((eh c1).getD i default)) && decide (c0 f a b ((eh c1).getD i default)+f.gN c1=c0 f a b c1))=false)) _ _ ⟨0,Z,Z,sy,ax,bB,aZ,cB,fZ,l8,by omega,λ i ar=>by omega⟩ (.cons Z (.cons Z (.cons Z (.cons Z (.cons Z (.cons Z (.cons Z (.cons Z (.cons Z (.cons Z (.cons Z (.cons Z (.cons Z (.cons Z (.cons Z (.cons Z (.cons Z (.cons Z (.cons Z (.cons Z (.cons (bH Z) .nil))))))))))))))))))))) ?_;rintro DN aJ6 JD ⟨j,rfl,rfl,q_,ax,bB,aZ,cB,fZ,l8,aA,kx⟩;have Zt:=ax.lt;have akW:=bB.lt;have aD1:=aZ.lt;have yi:=b7 cB.lt;have aRN:=fZ.lt;have SY:=b7 l8.lt;refine ah<|Φ (blt Z Z)<|ag<|ay<| ?_;refine df Z (λ sT=> ?_) (λ sT=> ?_)
  ·refine bl<|ay<|bu<|ah<| ?_;obtain ⟨cn,jK⟩:∃ cn,(eh c1).getD j default=cn:=⟨_,rfl⟩;have X3:=alE (c:=c1) (j:=j) (by omega);rw [jK] at X3;refine Φ (FP Z Z (akN c1 j (by omega) jK _))<|al Z xi Z Z λ Td aLx ec aPC oD=> ?_;have Ck:=ab q_ ec;have aRT:=oD.lt;refine st (new:= [J cn.x,J cn.y]) Z Z oD Z b2 Z Z Z λ GF h' oD=> ?_;have:=h'.size;have nT:=Ext.mod Ck h' bC;refine ag<|ah<|vm Z<|Φ (ao Z (oD.all cv b2))<| ?_;have aZ:=(aZ.later ec).mod h' aQ;refine ca V5 Z Z ((Zn w f P F A ct fN c p a_ l b cn _ nT hf cq aZ).mono ?_);rintro e JF ⟨rfl,ep⟩;refine ⟨_,Z, ?_⟩;have:=ep.size;have k4:=ab nT ep;refine vm Z<|Φ (ex Z Z)<|Φ (ex Z Z)<|va Z<|va Z<|ag<|ay<| ?_;rcases aqL (f.ground cn) (decide (0≤c0 f a b cn)) (((c0 f a b cn)+(qf f c1))== (c0 f a b c1)) with bo | ⟨bo,zF⟩ | ⟨bo,zF,FQ⟩ | ⟨bo,zF,FQ⟩
   ·have LV:(f.ground cn && decide (0≤c0 f a b cn) && decide (c0 f a b cn+f.gN c1=c0 f a b c1))=false:=by rw [bo];rfl
    refine cR [(5,0),(7,0),(8,0),(10,0),(17,0),(19,0),(20,0),(22,0),(28,0),(30,0),(31,0),(33,0)] [0,1,2,3,4,5,6,7,8,9,10,11,12,13,14,15,16,17,18,19,20,21,22,23,24,25,26,27,28,29,30,31,32,33,34,35] ?_;refine aB rfl (λ _=>hy (gW rfl bo))<|a1 rfl rfl<|di rfl rfl<|di rfl rfl<|di rfl rfl<|jS rfl rfl<|di rfl rfl<|jS rfl rfl<|dJ (v:=undef) (args:= []) rfl rfl rfl rfl rfl rfl mN (λ hc=>nomatch hc) (λ hc=>nomatch hc) rfl<|di rfl rfl<|jS rfl rfl<|di rfl rfl<|aB rfl (λ _=>s6 rfl rfl)<|a1 rfl rfl<|di rfl rfl<|di rfl rfl<|di rfl rfl<|jS rfl rfl<|di rfl rfl<|jS rfl rfl<|dJ (v:=undef) (args:= []) rfl rfl rfl rfl rfl rfl mN (λ hc=>nomatch hc) (λ hc=>nomatch hc) rfl<|di rfl rfl<|jS rfl rfl<|di rfl rfl<| ?_;refine di rfl rfl<|di rfl rfl<|di rfl rfl<|di rfl rfl<|jS rfl rfl<|di rfl rfl<|jS rfl rfl<|dJ (v:=undef) (args:= []) rfl rfl rfl rfl rfl rfl mN (λ hc=>nomatch hc) (λ hc=>nomatch hc) rfl<|di rfl rfl<|jS rfl rfl<|di rfl rfl<|aB rfl (λ _=>s6 rfl rfl)<|fn λ Th oz=> ?_;have Cl:=ab k4 oz;refine aP<|hj Z<|ei<|bU<|aP<|rg<|Φ (bad Z Z (bf (by omega)))<|vm Z<|nl<| ?_;have ax:=((ax.later ec).mod h' aQ).later (ab ep oz);have bB:=((bB.later ec).mod h' aQ).later (ab ep oz);have aZ:=aZ.later (ab ep oz);have cB:=((cB.later ec).mod h' (λ q I h=>by have γ:=aTz.1 h;exfalso;(have:=yi q I;have:=BX q I;have:=yg q I;omega))).later (ab ep oz);have fZ:=((fZ.later ec).mod h' aQ).later (ab ep oz);have l8:=((l8.later ec).mod h' (λ q I h=>by have γ:=aTz.1 h;exfalso;(have:=SY q I;have:=Gr q I;omega))).later (ab ep oz);exact cD _ _ ⟨j+1,Z,Z,Cl,ax,bB,aZ,cB,fZ,l8,by omega,o4 kx (by rw [jK];exact LV)⟩ (by omega) (.cons Z (.cons Z (.cons Z (.cons Z (.cons Z (.cons Z (.cons Z (.cons Z (.cons Z (.cons Z (.cons Z (.cons Z (.cons Z (.cons Z (.cons Z (.cons Z (.cons Z (.cons Z (.cons Z (.cons Z (.cons (bH Z) .nil)))))))))))))))))))))
   ·have ho:=aI.ke bo;obtain ⟨R2,R3,R4⟩:=et hf fJ.len ho;have LV:(f.ground cn && decide (0≤c0 f a b cn) && decide (c0 f a b cn+f.gN c1=c0 f a b c1))=false:=by rw [bo,zF];rfl
    refine cR [(5,0),(7,0),(8,0),(10,0),(17,0),(19,0),(20,0),(22,0),(28,0),(30,0),(31,0),(33,0)] [0,1,2,3,4,5,6,7,8,9,10,11,12,13,14,15,16,17,18,19,20,21,22,23,24,25,26,27,28,29,30,31,32,33,34,35] ?_;refine aB Z (λ _=>hy (gW Z bo))<|a1 Z Z<|eS Z Z Z<|cd Z Z (λ hc _=>cf Z)<|cd Z Z (λ hc _=>av oQ Z)<| ?_;have aZ:=aZ.later ep;refine dT Z Z (λ hc _ x=>ao Z ((aZ.later x).one fV Z))<|eS Z Z Z<| ?_;have oD:=oD.later ep;refine dT Z Z (λ hc _ x=>ao Z ((oD.later x).all cv b2))<|dJ Z Z Z Z Z Z mN (λ hc=>Z) (λ hc _ x=>sa w f P F A ct fN c p a_ l b cn _ (ab k4 x) hf cq (aZ.later x) (by first | omega | (dsimp only;omega))) Z<| ?_;have cB:=((cB.later ec).mod h' (λ q I h=>by have γ:=aTz.1 h;exfalso;(have:=yi q I;have:=BX q I;have:=yg q I;omega))).later ep;refine cd rfl rfl (λ hc _=>bT ((cn.y * f.wide+cn.x).toNat) underlying22 dI rfl rfl (cB.has.bs (aO ((cn.y * f.wide+cn.x).toNat) (by have bc:=(et hf fJ.len ho).1;omega))) (by (try simp only [ch] at hc);omega) (by have bc:=(et hf fJ.len ho).1;omega))<|dT rfl rfl (λ hc _ x=>ao rfl (aa.aG.eM gI ((cB.later x).has.cg (aO ((cn.y * f.wide+cn.x).toNat) (by have bc:=(et hf fJ.len ho).1;omega))) (fJ.get hf ho) rfl a6))<|cd rfl rfl (λ hc _=>j_ rfl rfl)<|aB rfl (λ _=>qg rfl (gW rfl zF))<|a1 rfl rfl<|di rfl rfl<|di rfl rfl<|di rfl rfl<|jS rfl rfl<|di rfl rfl<|jS rfl rfl<|dJ (v:=undef) (args:= []) rfl rfl rfl rfl rfl rfl mN (λ hc=>nomatch hc) (λ hc=>nomatch hc) rfl<|di rfl rfl<|jS rfl rfl<|di rfl rfl<|di rfl rfl<|di rfl rfl<|di rfl rfl<|di rfl rfl<|jS rfl rfl<|di rfl rfl<|jS rfl rfl<|dJ (v:=undef) (args:= []) rfl rfl rfl rfl rfl rfl mN (λ hc=>nomatch hc) (λ hc=>nomatch hc) rfl<|di rfl rfl<| ?_;refine jS Z Z<|di Z Z<|aB Z (λ _=>s6 Z Z)<|fn λ Ti nQ=> ?_;have Cm:=ab k4 nQ;refine aP<|hj Z<|ei<|bU<|aP<|rg<|Φ (bad Z Z (bf (by omega)))<|vm Z<|nl<| ?_;have ax:=((ax.later ec).mod h' aQ).later (ab ep nQ);have bB:=((bB.later ec).mod h' aQ).later (ab ep nQ);have aZ:=aZ.later nQ;have cB:=cB.later nQ;have fZ:=((fZ.later ec).mod h' aQ).later (ab ep nQ);have l8:=((l8.later ec).mod h' (λ q I h=>by have γ:=aTz.1 h;exfalso;(have:=SY q I;have:=Gr q I;omega))).later (ab ep nQ);exact cD _ _ ⟨j+1,Z,Z,Cm,ax,bB,aZ,cB,fZ,l8,by omega,o4 kx (by rw [jK];exact LV)⟩ (by omega) (.cons Z (.cons Z (.cons Z (.cons Z (.cons Z (.cons Z (.cons Z (.cons Z (.cons Z (.cons Z (.cons Z (.cons Z (.cons Z (.cons Z (.cons Z (.cons Z (.cons Z (.cons Z (.cons Z (.cons Z (.cons (bH Z) .nil)))))))))))))))))))))
   ·have ho:=aI.ke bo;obtain ⟨R2,R3,R4⟩:=et hf fJ.len ho;obtain ⟨aB3,aB4,aB5⟩:=et hf fJ.len xw;have axx:=Ig cn;have kv:=aUK zF;have LV:(f.ground cn && decide (0≤c0 f a b cn) && decide (c0 f a b cn+f.gN c1=c0 f a b c1))=false:=by rw [pZ,aV3] at FQ;rw [bo,zF,aT4 FQ];rfl
    refine cR [(5,0),(7,0),(8,0),(10,0),(17,0),(19,0),(20,0),(22,0),(28,0),(30,0),(31,0),(33,0)] [0,1,2,3,4,5,6,7,8,9,10,11,12,13,14,15,16,17,18,19,20,21,22,23,24,25,26,27,28,29,30,31,32,33,34,35] ?_;refine aB Z (λ _=>hy (gW Z bo))<|a1 Z Z<|eS Z Z Z<|cd Z Z (λ hc _=>cf Z)<|cd Z Z (λ hc _=>av oQ Z)<| ?_;have aZ:=aZ.later ep;refine dT Z Z (λ hc _ x=>ao Z ((aZ.later x).one fV Z))<|eS Z Z Z<| ?_;have oD:=oD.later ep;refine dT Z Z (λ hc _ x=>ao Z ((oD.later x).all cv b2))<|dJ Z Z Z Z Z Z mN (λ hc=>Z) (λ hc _ x=>sa w f P F A ct fN c p a_ l b cn _ (ab k4 x) hf cq (aZ.later x) (by first | omega | (dsimp only;omega))) Z<| ?_;have cB:=((cB.later ec).mod h' (λ q I h=>by have γ:=aTz.1 h;exfalso;(have:=yi q I;have:=BX q I;have:=yg q I;omega))).later ep;refine cd Z Z (λ hc _=>bT ((cn.y * f.wide+cn.x).toNat) underlying22 dI Z Z (cB.has.bs (aO ((cn.y * f.wide+cn.x).toNat) (by have bc:=(et hf fJ.len ho).1;omega))) (by (try simp only [ch] at hc);omega) (by have bc:=(et hf fJ.len ho).1;omega))<|dT Z Z (λ hc _ x=>ao Z (aa.aG.eM gI ((cB.later x).has.cg (aO ((cn.y * f.wide+cn.x).toNat) (by have bc:=(et hf fJ.len ho).1;omega))) (fJ.get hf ho) Z a6))<|cd Z Z (λ hc _=>j_ Z Z)<|aB Z (λ _=>qg Z (gW Z zF))<|a1 Z Z<|eS Z Z Z<|cd Z Z (λ hc _=>cf Z)<|cd Z Z (λ hc _=>av oQ Z)<|dT Z Z (λ hc _ x=>ao Z ((aZ.later x).one fV Z))<|eS Z Z Z<|dT Z Z (λ hc _ x=>ao Z ((oD.later x).all cv b2))<|dJ Z Z Z Z Z Z mN (λ hc=>Z) (λ hc _ x=>sa w f P F A ct fN c p a_ l b cn _ (ab k4 x) hf cq (aZ.later x) (by first | omega | (dsimp only;omega))) Z<|cd Z Z (λ hc _=>bT ((cn.y * f.wide+cn.x).toNat) underlying22 dI Z Z (cB.has.bs (aO ((cn.y * f.wide+cn.x).toNat) (by have bc:=(et hf fJ.len ho).1;omega))) (by (try simp only [ch] at hc);omega) (by have bc:=(et hf fJ.len ho).1;omega))<|dT Z Z (λ hc _ x=>ao Z (aa.aG.eM gI ((cB.later x).has.cg (aO ((cn.y * f.wide+cn.x).toNat) (by have bc:=(et hf fJ.len ho).1;omega))) (fJ.get hf ho) Z a6))<|eS Z Z Z<|cd Z Z (λ hc _=>bad Z Z (bf (by (try simp only [ch] at hc);omega)))<|eS Z Z Z<|cd Z Z (λ hc _=>cf Z)<|cd Z Z (λ hc _=>av oQ Z)<|dT Z Z (λ hc _ x=>ao Z ((aZ.later x).one fV Z))<|eS Z Z Z<| ?_;have fZ:=((fZ.later ec).mod h' aQ).later ep;refine dT Z Z (λ hc _ x=>ao Z ((fZ.later x).all cv b2))<|dJ Z Z Z Z Z Z mN (λ hc=>Z) (λ hc _ x=>sa w f P F A ct fN c p a_ l b c1 _ (ab k4 x) hf cq (aZ.later x) (by first | omega | (dsimp only;omega))) Z<|cd Z Z (λ hc _=>bT ((c1.y * f.wide+c1.x).toNat) underlying22 dI Z Z (cB.has.bs (aO ((c1.y * f.wide+c1.x).toNat) (by have bc:=(et hf fJ.len xw).1;omega))) (by (try simp only [ch] at hc);omega) (by have bc:=(et hf fJ.len xw).1;omega))<|dT Z Z (λ hc _ x=>ao Z (aa.aG.eM gI ((cB.later x).has.cg (aO ((c1.y * f.wide+c1.x).toNat) (by have bc:=(et hf fJ.len xw).1;omega))) (fJ.get hf xw) Z a6))<|cd Z Z (λ hc _=>beq Z Z)<|aB Z (λ _=>qg Z (gW Z FQ))<|fn λ amT wz=> ?_;have Ok:=ab k4 wz;refine aP<|hj Z<|ei<|bU<|aP<|rg<|Φ (bad Z Z (bf (by omega)))<|vm Z<|nl<| ?_;have ax:=((ax.later ec).mod h' aQ).later (ab ep wz);have bB:=((bB.later ec).mod h' aQ).later (ab ep wz);have aZ:=aZ.later wz;have cB:=cB.later wz;have fZ:=fZ.later wz;have l8:=((l8.later ec).mod h' (λ q I h=>by have γ:=aTz.1 h;exfalso;(have:=SY q I;have:=Gr q I;omega))).later (ab ep wz);exact cD _ _ ⟨j+1,Z,Z,Ok,ax,bB,aZ,cB,fZ,l8,by omega,o4 kx (by rw [jK];exact LV)⟩ (by omega) (.cons Z (.cons Z (.cons Z (.cons Z (.cons Z (.cons Z (.cons Z (.cons Z (.cons Z (.cons Z (.cons Z (.cons Z (.cons Z (.cons Z (.cons Z (.cons Z (.cons Z (.cons Z (.cons Z (.cons Z (.cons (bH Z) .nil)))))))))))))))))))))
   ·have ho:=aI.ke bo;obtain ⟨R2,R3,R4⟩:=et hf fJ.len ho;obtain ⟨aB3,aB4,aB5⟩:=et hf fJ.len xw;have axx:=Ig cn;have kv:=aUK zF;have azb:lJ f (c0 f a b) c1=cn:=by rw [pZ,aUC] at FQ;rw [← jK];exact aDs (by omega) kx (by rw [jK,bo,zF,aT3 FQ];rfl)
    rw [azb] at eH fa mh v_ Iw;obtain ⟨_,_,aP5,aP6,aP7,aP8⟩:=aI.idx hf ho;have Yo:=aHC nz Iw;refine cR [(5,0),(7,0),(8,0),(10,0),(17,0),(19,0),(20,0),(22,0),(28,0),(30,0),(31,0),(33,0)] [0,1,2,3,4,5,6,7,8,9,10,11,12,13,14,15,16,17,18,19,20,21,22,23,24,25,26,27,28,29,30,31,32,33,34,35] ?_;refine aB Z (λ _=>hy (gW Z bo))<|a1 Z Z<|eS Z Z Z<|cd Z Z (λ hc _=>cf Z)<|cd Z Z (λ hc _=>av oQ Z)<| ?_;have aZ:=aZ.later ep;refine dT Z Z (λ hc _ x=>ao Z ((aZ.later x).one fV Z))<|eS Z Z Z<| ?_;have oD:=oD.later ep;refine dT Z Z (λ hc _ x=>ao Z ((oD.later x).all cv b2))<|dJ Z Z Z Z Z Z mN (λ hc=>Z) (λ hc _ x=>sa w f P F A ct fN c p a_ l b cn _ (ab k4 x) hf cq (aZ.later x) (by first | omega | (dsimp only;omega))) Z<| ?_;have cB:=((cB.later ec).mod h' (λ q I h=>by have γ:=aTz.1 h;exfalso;(have:=yi q I;have:=BX q I;have:=yg q I;omega))).later ep;refine cd Z Z (λ hc _=>bT ((cn.y * f.wide+cn.x).toNat) underlying22 dI Z Z (cB.has.bs (aO ((cn.y * f.wide+cn.x).toNat) (by have bc:=(et hf fJ.len ho).1;omega))) (by (try simp only [ch] at hc);omega) (by have bc:=(et hf fJ.len ho).1;omega))<|dT Z Z (λ hc _ x=>ao Z (aa.aG.eM gI ((cB.later x).has.cg (aO ((cn.y * f.wide+cn.x).toNat) (by have bc:=(et hf fJ.len ho).1;omega))) (fJ.get hf ho) Z a6))<|cd Z Z (λ hc _=>j_ Z Z)<|aB Z (λ _=>qg Z (gW Z zF))<|a1 Z Z<|eS Z Z Z<|cd Z Z (λ hc _=>cf Z)<|cd Z Z (λ hc _=>av oQ Z)<|dT Z Z (λ hc _ x=>ao Z ((aZ.later x).one fV Z))<|eS Z Z Z<|dT Z Z (λ hc _ x=>ao Z ((oD.later x).all cv b2))<|dJ Z Z Z Z Z Z mN (λ hc=>Z) (λ hc _ x=>sa w f P F A ct fN c p a_ l b cn _ (ab k4 x) hf cq (aZ.later x) (by first | omega | (dsimp only;omega))) Z<|cd Z Z (λ hc _=>bT ((cn.y * f.wide+cn.x).toNat) underlying22 dI Z Z (cB.has.bs (aO ((cn.y * f.wide+cn.x).toNat) (by have bc:=(et hf fJ.len ho).1;omega))) (by (try simp only [ch] at hc);omega) (by have bc:=(et hf fJ.len ho).1;omega))<|dT Z Z (λ hc _ x=>ao Z (aa.aG.eM gI ((cB.later x).has.cg (aO ((cn.y * f.wide+cn.x).toNat) (by have bc:=(et hf fJ.len ho).1;omega))) (fJ.get hf ho) Z a6))<|eS Z Z Z<|cd Z Z (λ hc _=>bad Z Z (bf (by (try simp only [ch] at hc);omega)))<|eS Z Z Z<|cd Z Z (λ hc _=>cf Z)<|cd Z Z (λ hc _=>av oQ Z)<|dT Z Z (λ hc _ x=>ao Z ((aZ.later x).one fV Z))<|eS Z Z Z<| ?_;have fZ:=((fZ.later ec).mod h' aQ).later ep;refine dT Z Z (λ hc _ x=>ao Z ((fZ.later x).all cv b2))<|dJ Z Z Z Z Z Z mN (λ hc=>Z) (λ hc _ x=>sa w f P F A ct fN c p a_ l b c1 _ (ab k4 x) hf cq (aZ.later x) (by first | omega | (dsimp only;omega))) Z<|cd Z Z (λ hc _=>bT ((c1.y * f.wide+c1.x).toNat) underlying22 dI Z Z (cB.has.bs (aO ((c1.y * f.wide+c1.x).toNat) (by have bc:=(et hf fJ.len xw).1;omega))) (by (try simp only [ch] at hc);omega) (by have bc:=(et hf fJ.len xw).1;omega))<|dT Z Z (λ hc _ x=>ao Z (aa.aG.eM gI ((cB.later x).has.cg (aO ((c1.y * f.wide+c1.x).toNat) (by have bc:=(et hf fJ.len xw).1;omega))) (fJ.get hf xw) Z a6))<|cd Z Z (λ hc _=>beq Z Z)<|aB Z (λ _=>qg Z (gW Z FQ))<|fn λ JG lp=> ?_;have:=lp.size;have qw:=ab k4 lp;refine aP<|fH Z<|ah<| ?_;have oD:=oD.later lp;refine Φ (ao Z (oD.all cv b2))<| ?_;have fZ:=fZ.later lp;refine st (new:= [J cn.x,J cn.y]) Z Z fZ Z b2 Z Z Z λ amC F0 fZ=> ?_;have:=F0.size;have N8:=Ext.mod qw F0 bC;refine ag<|cV<|NT Z<|cU<|c'<|cT<|aP<|rg<|vm Z<|Φ (ao Z (fZ.all cv b2))<|cu (e:= 55) (cs:= [J cn.x,J cn.y]) Z (λ _=>by kernel_rfl) Z λ S6 aKY tq aOV abm=> ?_;have Cf:=ab N8 tq;have aQ2:=abm.lt;have l8:=((((l8.later ec).mod h' (λ q I h=>by have γ:=aTz.1 h;exfalso;(have:=SY q I;have:=Gr q I;omega))).later (ab ep lp)).mod F0 (λ q I h=>by have γ:=aTz.1 h;exfalso;(exact A7 q I γ))).later tq;refine ap ap6 aa.dj l8 (aR.gY (R:=az.rep) (by_:=16) (q:=cn) abm ⟨Z,⟨bY.2 (by (try dsimp only);omega),bY.2 (by (try dsimp only);omega)⟩⟩ (by decide)) Z Z (by have ahI:=agV;simp only [aTI,aTN];omega) (by have ahI:=agV;simp only [aTI,aTN];omega) (by omega) Z λ aSw anB arE p7 O4 Qz aQb=> ?_;have:=p7.size;have aIk:=Ext.mod Cf p7 (λ q I=>aUc (by omega) (l8.lt q I).1);have amk:=b7 O4.lt;refine va Z<|nl<|bU<|aP<|ah<| ?_;have fZ:=(fZ.later tq).mod p7 (λ I=>A7 _ I rfl);refine Φ (ao Z (fZ.all cv b2))<|ag<|rg<|al Z xi Z Z λ aHm aqN GK aOY TW=> ?_;have aaW:=ab aIk GK;refine st (new:= [J cn.x,J cn.y]) Z Z TW Z b2 Z Z Z λ aSF F2 TW=> ?_;have aIt:=Ext.mod aaW F2 bC;refine nl<| ?_;have ax:=(((((((ax.later ec).mod h' aQ).later (ab ep lp)).mod F0 aQ).later tq).mod p7 (λ I=>xd _ I rfl)).later GK).mod F2 aQ;have bB:=(((((((bB.later ec).mod h' aQ).later (ab ep lp)).mod F0 aQ).later tq).mod p7 (λ I=>zd _ I rfl)).later GK).mod F2 aQ;have aZ:=(((((aZ.later lp).mod F0 aQ).later tq).mod p7 (λ I=>tW _ I rfl)).later GK).mod F2 aQ;have cB:=(((((cB.later lp).mod F0 (λ q I h=>by have γ:=aTz.1 h;exfalso;(exact axu q I γ))).later tq).mod p7 (λ q I h=>ry q h I)).later GK).mod F2 (λ q I h=>by have γ:=aTz.1 h;exfalso;(have:=yi q I;have:=BX q I;have:=yg q I;omega));have fZ:=(fZ.later GK).mod F2 aQ;have O4:=(O4.later GK).mod F2 (b0 amk);exact cD _ _ ⟨cn,aqN,out++ [cn],anB,arE,Z,Z,aIt,ax,bB,aZ,cB,TW,O4,(by omega),(by omega),(by omega),(by omega),(λ q I=>by have:=agd q I;omega),mh,Yo,(by omega),(λ q I γ=>by (exact aTT (Qz q I) (λ Mw=>by (exact xd q Mw γ)) (λ Mw=>by omega))),(λ q I γ=>by (exact aTT (Qz q I) (λ ah3=>by (exact zd q ah3 γ)) (λ ah3=>by omega))),(λ q I γ=>by (exact aTT (Qz q I) (λ ah4=>by (exact tW q ah4 γ)) (λ ah4=>by omega))),(λ q I γ=>by (have:=amk q I;omega)),(λ q I γ=>by (exact aTT (Qz q I) (λ Mx=>by (exact ry q Mx γ)) (λ Mx=>by (have:=yi q γ;have:=BX q γ;have:=yg q γ;omega))))⟩ (by omega) (hB Z)
  ·exfalso;have jq:j=4:=by omega
   rw [jq] at kx;exact aI.aFm eH (aDt kx)
 ·have QZ:c1=a:=by simpa using Lv
  refine cV<|cU<|c'<|cT<|aP<|ah<|vm Z<|ca au9 Z Z ((aEp _ _ w.heap.size out _ l8 (az.k_ l8.has)).mono ?_);rintro e aHo ⟨rfl,Uy,RO⟩;refine ⟨_,Z, ?_⟩;have TB:=Ext.mod nb RO (λ q I=>(l8.lt q I).1);refine ag<|ay<| ?_;refine cR [(4,0),(6,0),(7,0),(9,0)] [0,1,2,3,4,5,6,7,8,9,10,11,12] ?_;refine a1 Z Z<|a1 Z Z<|aB Z (λ _=>cf Z)<|aB Z (λ _=>av oQ Z)<| ?_;have aZ:=aZ.mod RO (λ I=>tW _ I rfl);refine bx Z (λ _ x=>ao Z ((aZ.later x).one fV Z))<|a1 Z Z<| ?_;have bB:=bB.mod RO (λ I=>zd _ I rfl);refine bx Z (λ _ x=>ao Z ((bB.later x).all cv b2))<|pO Z Z mN Z (λ _ x=>sa w f P F A ct fN c p a_ l b b _ (ab TB x) hf cq (aZ.later x) (by first | omega | (dsimp only;omega))) Z<| ?_;have cB:=cB.mod RO (λ q I h=>ry q h I);refine aB Z (λ _=>bT ((b.y * f.wide+b.x).toNat) underlying22 dI Z Z (cB.has.bs (aO ((b.y * f.wide+b.x).toNat) (by have bc:=(et hf fJ.len nx).1;omega))) (by omega) (by have bc:=(et hf fJ.len nx).1;omega))<|bx Z (λ _ x=>ao Z (aa.aG.eM gI ((cB.later x).has.cg (aO ((b.y * f.wide+b.x).toNat) (by have bc:=(et hf fJ.len nx).1;omega))) (fJ.get hf nx) Z a6))<|aB Z (λ _=>fG Z)<|aB Z (λ _=>fG Z)<|aB Z (λ _=>fG Z)<|fn λ amH NZ=> ?_;have Ob:=ab TB NZ;refine aP<|rt<|aV (.tmp Z (.tmp Z (.tmp Z .nil)))<| ?_;have Uy:=Uy.later NZ;have Iv:out=fU f (c0 f a b) a b:=by rw [QZ,B_ H3] at nz;simpa using nz
  exact ⟨_,_,by rw [← Iv,aV4];rfl,by rw [← Iv];exact Uy,Ob⟩
end
section
section
variable {f:aI} {a b c x:az} {dl a_:List Int} {d:Int}
def aqC (f:aI):List az:=(List.range f.high.toNat).flatMap λ (y:Nat)=>(List.range f.wide.toNat).map λ (x:Nat)=>(⟨(x:Int),(y:Int)⟩:az)
def asf (f:aI) (a b:az) (dl a_:List Int) (c:az):Bool :=
 (decide (0≤f.aD dl c) || decide (f.aD dl c= -1)) &&
 (!decide (0≤f.aD dl c) || (f.ground c && ((decide (c=a) && decide (f.aD dl c=0)) || (eh c).any λ p=>decide (0≤f.aD dl p) && decide (f.aD dl c=f.aD dl p+f.gN c)))) &&
 (!decide (0≤f.aD dl c) || (f.c_ c).all λ y=>decide (0≤f.aD dl y) && decide (f.aD dl y≤f.aD dl c+f.gN y)) &&
 decide (f.aD a_ c=if 0≤f.aD dl c∧(f.aD dl b<0∨f.aD dl c+aI.kb b c≤f.aD dl b) then f.aD dl c else -1) &&
 decide (f.aD dl c≤3 * (f.a8.length:Int))
def aL5 (f:aI) (a b:az) (dl a_:List Int):Bool:=decide (a_.length=f.a8.length) && decide (f.aD dl a=0) && (aqC f).all (asf f a b dl a_)
end
theorem aDb (f:aI) (a b:az) (P:Option Addr) (ct:Nat) (w:World) (cq:bW.aG 8 w P ct f.a8):
  Calls prog 104 #[.agg #[.int .i64 f.wide, .int .i64 f.high, .slice P f.a8.length ct], .agg #[.int .i64 a.x, .int .i64 a.y], .agg #[.int .i64 b.x, .int .i64 b.y]] w (λ e w'=>∃ A c,e= .returned (.tuple #[.slice A (gv f a b).length c, .int .i64 (oS f a b), .int .i64 (hk f a b)])∧az.rep.aH 55 16 w' w.heap.size (aa.aj A) A c (gv f a b)∧Ext w w'):=by
 by_cases he:hk f a b=0
 ·rcases Wr f a b with ⟨τ,ae⟩ | ⟨τ,ae,aw⟩ | ⟨τ,ae,aw,aU⟩ | ⟨τ,ae,aw,aU | aU⟩
  ·rw [ae] at he;exact absurd he τ
  ·rw [aw] at he;exact absurd he ae
  ·rw [aU] at he;cases he
  ·rw [aU.2] at he;cases he
  ·unfold gv oS;rw [aTO he,aTO he,he];exact aDd f a b P ct w cq τ ae aw aU.1
 ·unfold gv oS;rw [aTL he,aTL he];exact (aDc f a b P ct w cq he).mono λ e w' h=>⟨none,0,h.1,aa.aH.nil _,h.2⟩
section
variable {f:aI} {a b:az} {a_:List Int}
end
end
end Go.Proofs.YtmeeljmapailnaaGreat
