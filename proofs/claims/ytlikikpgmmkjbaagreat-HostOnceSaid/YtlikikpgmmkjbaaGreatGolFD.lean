import Derived.Test.YtlikikpgmmkjbaaGreatSvR
set_option linter.unusedVariables false
set_option linter.unusedSimpArgs false
set_option maxRecDepth 100000
set_option maxHeartbeats 4000000
open Go.RowKit
namespace Go.Proofs.YtlikikpgmmkjbaaGreat
open Tryz
abbrev aVJ:=@Nat.mod_two_eq_zero_or_one
abbrev aVU:=@List.take_append_getElem
abbrev aWw:=@Nat.and_one_is_mod
end Go.Proofs.YtlikikpgmmkjbaaGreat
namespace Go.Proofs.YtlikikpgmmkjbaaGreat.Pack
open Tryz
open Go.RowKit Go.Proofs.YtlikikpgmmkjbaaGreat Go.Proofs.YtlikikpgmmkjbaaGreat.fc

theorem O3 (op:BinOp) (a b:Int): -9223372036854775808≤bits op .i64 a b∧bits op .i64 a b≤9223372036854775807:=by
 have h:bits op .i64 a b=IntKind.i64.wrap (bits op .i64 a b):=by
  unfold bits;rw [aUP,aUP];omega
 rw [h,aUP];omega
theorem aeA {x y:Int} (aH: -9223372036854775808≤x) (τ:x≤9223372036854775807) (g0: -9223372036854775808≤y) (g1:y≤9223372036854775807) (h:BitVec.ofInt 64 x=BitVec.ofInt 64 y):x=y:=by
 have e:=aSI BitVec.toInt h;rw [aVh,aVh] at e;simp only [Int.bmod] at e;omega
theorem aFp (x:Int) (aH: -9223372036854775808≤x) (τ:x≤9223372036854775807):bits .xor .i64 x 0=x:=by
 refine aeA (O3 _ _ _).1 (O3 _ _ _).2 aH τ ?_;rw [ajG];simp
theorem aFm (x:Int) (aH: -9223372036854775808≤x) (τ:x≤9223372036854775807):bits .xor .i64 x (-1)= -x - 1:=by
 refine aeA (O3 _ _ _).1 (O3 _ _ _).2 (by omega) (by omega) ?_;rw [ajG];have a_:BitVec.ofInt 64 (-1)=BitVec.allOnes 64:=by decide
 rw [a_,aWz];have bj:(-x - 1:Int)= -x+ -1:=by omega
 rw [bj,BitVec.ofInt_add,BitVec.ofInt_neg,a_];rw [BitVec.not_eq_neg_add,BitVec.sub_eq_add_neg,show -1#64=BitVec.allOnes 64 from by decide]
theorem aEd (n:Nat) (hn:n<18446744073709551616) (w:World):
  Calls prog 120 #[.int .u64 (n:Int)] w fun e w'=>e= .returned (.int .i64 (wM n))∧w=w':=by
 have aa:n / 2<9223372036854775808:=by omega
 have hQ:=aFp ((n / 2:Nat):Int) (by omega) (by omega);have tk:=aFm ((n / 2:Nat):Int) (by omega) (by omega);have hd:(n:Int) / 2=((n / 2:Nat):Int):=by omega
 have ha:bits .and .u64 (n:Int) 1=((n % 2:Nat):Int):=by
  have h:=(aVD .u64 64 (by decide) amr n 1 (by omega) (by decide)).1;rw [aWw] at h;exact h
 unfold wM;obtain ⟨m,k4⟩:∃ m,Hid (n / 2=m):=⟨_,aRF rfl⟩;rw [k4.out] at aa hQ tk hd ⊢;rcases aVJ n with h | h
 ·rw [h] at ha ⊢;rw [aRP rfl];have ha:bits .and .u64 (n:Int) 1=0:=ha;clear h;go_enter func120,ntmps120;go_wp2_with fail
  go_ret;exact ⟨Z,Z⟩
 ·rw [h] at ha ⊢;rw [aRL (by decide)];have ha:bits .and .u64 (n:Int) 1=1:=ha;clear h;go_enter func120,ntmps120;go_wp2_with fail
  go_ret;exact ⟨Z,Z⟩
theorem Ul {T e:TypeId} {B b:Nat} {p:Value} {cX:List Value} {w w':World} (h:Lib.BuilderAt T e B b p cX w) (Φ:Below w.heap.size w w'):Lib.BuilderAt T e B b p cX w':=by
 have bw:=h.lt;obtain ⟨aX,v,HL,fi,fh⟩:=h;exact ⟨aX,v,by rw [Φ.block b bw];exact HL,aA0 fi Φ,fh⟩
theorem aBI (A:Option Addr) (n c:Nat) (hn:1000<n) (w:World):
  Calls prog 92 #[.slice A n c] w fun e w'=>e= .returned (.tuple #[.string ⟨#[]⟩, .int .i64 2])∧w=w':=by
 have QI:(1000:Int)<(n:Int):=by omega
 go_enter func92,ntmps92;go_wp2_with fail
 go_ret2
 exact ⟨Z,Z⟩
theorem aj8 (A:Option Addr) (n c:Nat) (l:List Int) (az:l.length=n) (hn:n≤1000) (P9:sR l) (w:World) (hr:Rd w 1 A n (vN l)):
  Calls prog 92 #[.slice A n c] w fun e w'=>e= .returned (.tuple #[.string (strOf (q9 l)), .int .i64 0])∧Below w.heap.size w w':=by
 have aX:Lib.IsBuilder 212 5 w.heap.size w.heap.size [] (w.alloc (.cells #[.pointer none, .slice none 0 0] 212)):=
  .inl ⟨aRN _, .slice none 0 0,aUt w _,World.ownsRow_nil _ _ _ _,by simp [Value.ownBlock]⟩
 have cF:Below w.heap.size w (w.alloc (.cells #[.pointer none, .slice none 0 0] 212)):=(aR8 _ _).alloc (aRN _) _;have hw:IntKind.u64.wrap (n:Int)=(n:Int):=by rw [aSS];omega
 have qD:=aRF az;clear az;go_enter func92,ntmps92;go_wp2_with fail
 refine (RG n (by omega) _ Z _).mono ?_;rintro e aP ⟨rfl,cT⟩;have afe:Lib.IsBuilder 212 5 w.heap.size w.heap.size [] aP:=by
  rcases aX with h | h
  ·exact .inl (Ul h cT)
  ·exact .inr (Ul h cT)
 have bx:=cF.trans (cT.mono cF.size);clear aX cT;have nB:=BB n;go_wp2_with fail
 refine (ams w.heap.size w.heap.size [] (strOf (d_ n)) aP afe (by rw [IU];simp;omega) bx.size).mono ?_;rintro e cH ⟨rfl,VW,dL⟩;have dx:=bx.trans dL;rw [aT2,Lib.strCells_eq,yf] at VW;clear afe bx dL;go_wp2_with fail
 go_loopw [17] (fun i wr=>∃ k:Nat,k≤n∧i= .int .i64 (k:Int)∧Lib.BuilderAt 212 5 w.heap.size w.heap.size (.pointer (some ⟨w.heap.size,0,none⟩)) (Lib.byteCells (d_ n++items (l.take k))) wr∧Below w.heap.size w wr) (fun i _=>n - (intOf i).toNat)
 case atStart=>exact ⟨0,aSo _,rfl,by simpa [items] using VW,dx⟩
 case round =>
  clear VW dx;obtain ⟨k,ar,rfl,aX,Φ⟩:=hrel;by_cases bw:k<n
  ·obtain ⟨b,o,rfl,hc⟩:=hr.2 (by omega);have ja:k<l.length:=by rw [qD.out];exact bw
   have hx:=aqi Φ (hc k _ (acM l k ja)) (aTC w _ (hc k _ (acM l k ja)));have QX:=P9 l[k] (aSO ja);have LO:items (l.take (k+1))=items (l.take k)++d_ (oV l[k]):=by rw [aR2 ja,ahh]
   have rA:=aRF LO;generalize l[k]=x at *
   have ny:=P0 x QX.1 QX.2;have av4:=at6 x QX.1 QX.2;have aKV:=BB (oV x);have HW:=XA (l.take k);have axD:(l.take k).length≤k:=aWq _ _;clear LO;generalize oV x=y at *
   go_wp2_with fail
   refine (av4 _).mono ?_;rintro e w' ⟨rfl,rfl⟩;go_wp2_with fail
   refine (RG y ny _ Z _).mono ?_;rintro e ra ⟨rfl,oa⟩;have A1:=Ul aX oa;have HI:=Φ.trans (oa.mono Φ.size);go_wp2_with fail
   refine (ams w.heap.size w.heap.size _ (strOf (d_ y)) ra (.inr A1) (by rw [IU,Lib.byteCells_length];simp;omega) HI.size).mono ?_;rintro e St ⟨rfl,afg,E4⟩;have HJ:=HI.trans E4;rw [Lib.strCells_eq,yf,← Lib.byteCells_append,aR9,← rA.out] at afg;clear aX A1 Φ oa HI E4;go_wp2_with fail
   go_roundw
   case rel=>exact ⟨k+1,by omega,by go_num,afg,HJ⟩
   case measure=>simp [intOf];omega
  ·obtain rfl:k=n:=by omega
   rw [aR1 (by rw [qD.out];exact aRN _)] at aX;go_wp2_with fail
   refine (Builder_String_any w.heap.size w.heap.size (d_ k++items l) wr (.inr aX) Φ.size).mono ?_;rintro e Zx ⟨rfl,Qn⟩;go_wp2_with fail
   go_ret2
   refine ⟨?_,Φ.trans Qn⟩;unfold q9 strOf;rw [qD.out];rfl
def anw (s:ByteArray) (w:World) (e:Ending) (w':World):Prop :=
 ∃ (out:List Int) (k:Int) (A:Option Addr) (n c:Nat),Ag s.data.toList out k∧e= .returned (.tuple #[.slice A n c, .int .i64 k])∧Own w' w.heap.size 3 1 Oj (.slice A n c) out.length (vN out)∧Below w.heap.size w w'
theorem auz (s:ByteArray) (hs:s.size≤9223372036854775807) (w:World):Calls prog 85 #[.string s] w (anw s w):=by
 obtain ⟨i0,aq,o2,nC,qX⟩:=aUa ayg;go_enter func85,ntmps85;go_wp2_with fail
 refine (ae7 s hs w).mono ?_;rintro e aP ⟨n,rest,k,bB,rfl,cT⟩;have k3:=aRF bB;by_cases ar:k=0
 ·subst ar;obtain ⟨QS,C4⟩:=ae8 bB;have fp:=aRF QS;have fe:=aRF C4;have jd:rest.length≤s.size:=by
   have h:=aSI List.length QS;simp at h;have e:s.data.size=s.size:=rfl;omega
  clear QS bB C4;by_cases hn:1000<n
  ·have QI:(1000:Int)<(n:Int):=by omega
   go_wp2_with fail
   go_ret2
   exact ⟨[],2,none,0,0,ach k3.out (.inr hn) (by decide),Z,Own.nil _ _ _ _ _,cT⟩
  ·have QI:¬ (1000:Int)<(n:Int):=by omega
   go_wp2_with fail
   go_loopw [0,5,6,24] (fun S E v i wr=>∃ (j:Nat) (out:List Int) (r:List UInt8),j≤n∧i= .int .u64 (j:Int)∧S= .string (strOf r)∧E= .int .i64 0∧out.length=j∧Own wr w.heap.size 3 1 Oj v j (vN out)∧Below w.heap.size w wr∧
     Hid (s.data.toList=d_ n++(items out++r))∧Hid (sR out)∧r.length≤s.size) (fun _ _ _ i _=>n - (intOf i).toNat)
   case atStart=>exact ⟨0, [],rest,aSo _,rfl,rfl,rfl,rfl,Own.nil _ _ _ _ _,cT,fp,(fun x hx=>by cases hx),jd⟩
   case round =>
    clear cT fp jd;obtain ⟨j,out,r,ay,rfl,rfl,rfl,agJ,fi,Φ,fp,mg,aK1⟩:=hrel;have aT:=aRF agJ;clear agJ;by_cases bw:j<n
    ·go_wp2_with fail
     refine (ae7 (strOf r) (by rw [IU];omega) wr).mono ?_;rintro e cH ⟨m,r2,dY,KU,rfl,bx⟩;rw [yf] at KU;have dL:=Φ.trans (bx.mono Φ.size);by_cases gS:dY=0
     ·subst gS;obtain ⟨Xa,QD⟩:=ae8 KU;have axG:=aEd m QD;have Qo:=aEc m QD;have aga:=at9 m;have Ap:Hid (s.data.toList=d_ n++(items (out++ [wM m])++r2)):=by
       show _=_;rw [fp.out,Xa,ahh,aga,aR9]
      have anO:Hid (sR (out++ [wM m])):=by
       intro x hx;rcases aRR.1 hx with h | h
       ·exact mg.out x h
       ·simp at h;subst h;exact Qo
      have axr:r2.length≤s.size:=by
       have h:=aSI List.length Xa;simp at h;omega
      have agN:=fi.later bx;have k4:=aRF QD;clear Xa QD aga KU Qo fi fp mg;generalize wM m=x at *
      have dx:=dL.alloc dL.size (.cells #[.int .i64 x] 3);have agO:=agN.later ((aR8 cH.heap.size cH).alloc (aRN _) (.cells #[.int .i64 x] 3));have LH:Rd (cH.alloc (.cells #[.int .i64 x] 3)) 1 (some ⟨cH.heap.size,0,none⟩) 1 [.int .i64 x] :=
       ⟨rfl,fun _=>⟨cH.heap.size,0,rfl,fun q u I=>by
        match q,I with
        | 0,I=>simp at I;subst I;simp⟩⟩
      have aa1:=aRF agO;have anW:=aRF LH;clear agN agO LH;go_wp2_with fail
      refine (axG _).mono ?_;rintro e w' ⟨rfl,rfl⟩;go_wp2_with (at_builtin;refine Ji _ rfl _ _ 22 rfl w.heap.size 3 i0 (.int .i64 0) 1 8 underlying22 aq o2 nC qX rfl (by decide) Oj ?g1 _ j (vN out) rfl aa1.out (some ⟨cH.heap.size,0,none⟩) 1 1 [.int .i64 x] rfl anW.out ?g2 ?g3 ?g4 ?g5 ?g6 ?_)
      case g1=>intro q u I;match q,I with | 0,I=>exact ⟨0,(aRA I).symm⟩
      case g2=>intro u hu;simp at hu;subst hu;rfl
      case g3=>intro q u I;match q,I with | 0,I=>exact ⟨x,(aRA I).symm⟩
      case g4=>unfold maxLen;omega
      case g5=>omega
      case g6=>exact dx.size
      intro v' ra agP jB _ fL;have oa:=dx.grown jB dx.size (fun q I=>(aa1.out.row.lt q I).1);rw [← aqj] at agP;clear jB fL dx dL bx;go_wp2_with fail
      go_roundw
      case rel=>exact ⟨j+1,out++ [x],r2,by omega,by go_num,rfl,rfl,by simp [aT.out],agP,oa,Ap,anO,axr⟩
      case measure=>simp [intOf];omega
     ·have WT:(dY != 0)=true:=by rw [aUE];exact gS
      have hY:=aRF gS;have jz:=apk fp.out fe.out mg.out (by rw [aT.out];exact bw) KU hY.out;have aN:=aRF jz;clear gS KU jz;go_wp2_with fail
      go_ret2
      exact ⟨[],dY,none,0,0,aN.out,Z,Own.nil _ _ _ _ _,dL⟩
    ·obtain rfl:j=n:=by omega
     by_cases hr:r= []
     ·subst hr;have τ:(strOf []).toList= []:=by rw [aTB,yf]
      have aa:(!(strOf []).toList.isEmpty)=false:=by rw [aTB,yf];rfl
      obtain ⟨A,c,rfl,_⟩:=fi.shape;have jm:=aRF (auJ fp.out mg.out aT.out (by omega));clear fp;go_wp2_with fail
      go_ret2
      exact ⟨out,0,A,j,c,jm.out,Z,by rw [aT.out];exact fi,Φ⟩
     ·have τ:¬ (strOf r).toList= []:=by rw [aTB,yf];exact hr
      have aa:(!(strOf r).toList.isEmpty)=true:=by rw [aTB,yf];simpa using hr
      have jm:=aRF (apj (k:=4) fp.out fe.out mg.out aT.out hr (by decide));clear fp hr;go_wp2_with fail
      go_ret2
      exact ⟨[],4,none,0,0,jm.out,Z,Own.nil _ _ _ _ _,Φ⟩
 ·have WT:(k != 0)=true:=by rw [aUE];exact ar
  have awr:(k == 0)=false:=by rw [aTX];exact ar
  have hY:=aRF ar;clear ar bB;go_wp2_with fail
  go_ret2
  exact ⟨[],k,none,0,0,ach k3.out (.inl hY.out) hY.out,Z,Own.nil _ _ _ _ _,cT⟩
end Go.Proofs.YtlikikpgmmkjbaaGreat.Pack
namespace Go.Proofs.YtlikikpgmmkjbaaGreat
open Tryz
section
open Go.RowKit Go.Proofs.YtlikikpgmmkjbaaGreat.fc
def qg:κ (BitVec 64):=κ.flat 1 (λ b=> [.int .u64 (U b)]) (λ _=>True) (λ _ u=>∃ n:Int,u= .int .u64 n) (λ _=>rfl) (by intro a u hu;simp at hu;subst hu;rfl) (by
 intro a j u hu;cases j with
 | zero=>simp at hu;exact ⟨_,hu.symm⟩
 | succ j=>simp at hu)
theorem ahe:(prog.info? 41).map (λ i=>(i.zero,i.size,i.bytes))=some (some (.int .u64 0),1,8):=by kernel_rfl
theorem ako:∀ (j:Nat) u,(Value.int .u64 0).cells[j]? =some u→qg.raw j u:=by
 intro j u hu;have hu:(#[(.int .u64 0:Value)]:Array Value)[j]? =some u:=hu
 match j,hu with
 | 0,hu=>exact ⟨0,(aRA hu).symm⟩
 | j+1,hu=>simp at hu
theorem aC4 {by_:Nat} {w:World} {A:Option Addr} {c:Nat} {l:List (BitVec 64)} (h:qg.aJ by_ w A c l):Mark.Eu w A l.length l:=by
 refine ⟨Z,h.ez, ?_⟩;cases az:l with
 | nil=>exact .inl rfl
 | cons x r =>
  rw [← az];obtain ⟨b,o,e,hc⟩:=h.at_ (by rw [az];simp);refine .inr ⟨b,o,e,λ i aq=> ?_⟩;obtain ⟨es,⟨rfl,_⟩,ay⟩:=hc i _ (aRD aq);have:=ay 0 _ rfl;simpa [qg,κ.flat] using this
theorem aeK {w:World}:∀ {ess:List (List Value)} {l:List Int},c9 (λ es a=>bP.has w es a) ess l→ess.flatten=l.map (Value.int .i64)
 | [], [],_=>rfl
 | es::ess,a::l,h=>by
  obtain ⟨τ,aa⟩:=h;rw [aSu,gN τ,aeK aa];rfl
 | [],_::_,h=>h.elim
 | _::_, [],h=>h.elim
def ID (l:List Int):List UInt8:=if l.length≤1000 then Pack.q9 l else []
def q1 (l:List Int):BitVec 64:=Tree.Db (ID l)
theorem aA3 (l:List Int):(ID l).length≤20000:=by
 unfold ID;split
 ·rename_i h
  unfold Pack.q9;rw [aRH];have:=(Pack.BB l.length).1;have:=Pack.XA l;omega
 ·simp
theorem aA4 (l:List Int) (A:Option Addr) (c:Nat) (w:World) (h:bP.aJ 8 w A c l):Calls prog 92 #[.slice A l.length c] w λ e w'=>(∃ k,e= .returned (.tuple #[.string (Pack.strOf (ID l)), .int .i64 k]))∧Ext w w':=by
 unfold ID;by_cases hn:l.length≤1000
 ·rw [aRP hn];have hr:Rd w 1 A l.length (vN l):=by
   obtain ⟨s1,s2,MV,akD,ess,MW,FX⟩:=h;rw [aeK MW] at FX;exact FX
  exact (Pack.aj8 A l.length c l Z hn (λ x hx=>bI.1 (IN h x hx)) w hr).mono λ e w' h=>⟨⟨0,h.1⟩,h.2⟩
 ·rw [aRL hn];exact (Pack.aBI A l.length c (by omega) w).mono λ e w' h=>⟨⟨2,h.1⟩,by rw [← h.2];exact Ext.bF w⟩
theorem ay5 (s:List UInt8) (hs:s.length≤20000) (w:World):Calls prog 83 #[.string (Pack.strOf s)] w λ e w'=>e= .returned (.int .u64 (U (Tree.Db s)))∧Ext w w':=by
 refine (Tree.Ia (Pack.strOf s) (by rw [Pack.IU];omega) w).mono ?_;rintro e w' ⟨rfl,q,rfl⟩;exact ⟨by rw [Pack.yf],below_drewN (aR8 _ w) q⟩
theorem aAE (l:List (BitVec 64)) (A:Option Addr) (c:Nat) (w:World) (h:qg.aJ 8 w A c l):Calls prog 58 #[.slice A l.length c] w λ e w'=>e= .returned (.int .u64 (U (Mark.FO Mark.mix l)))∧Ext w w':=Mark.Yo A l.length c l w (aC4 h)
def Rn (W:ah):BitVec 64:=q1 ([1,W.field.wide,W.field.high,W.next,W.now]++W.field.aZ)
def Rm (W:ah) (i:Nat):BitVec 64:=q1 [2,(i:Int),(W.aW.getD i default).x,(W.aW.getD i default).y,W.bk.getD i 0]
def Bu (W:ah):Nat→List (BitVec 64)
 | 0=> []
 | k+1=>Bu W k++(if W.br.getD k 0=0 then [] else [q1 [3,(k:Int),W.br.getD k 0]])
def MD (t:bf):BitVec 64:=q1 [4,t.id,t.owner,t.kind,t.spot.x,t.spot.y,t.c0,t.load]
def Bt (W:ah) (k:Nat):List (BitVec 64):= [Rn W]++(List.range k).map (Rm W)
def marks (W:ah):List (BitVec 64):=Bt W W.aW.length++Bu W W.br.length++W.ak.map MD
def sq (W:ah):BitVec 64:=if W.bo=0 then Mark.FO Mark.mix (marks W) else 0#64
theorem azN (W:ah) (k:Nat):Bt W (k+1)=Bt W k++ [Rm W k]:=by
 unfold Bt;rw [aTg,aR3,← aR9];rfl
theorem Yh (W:ah):∀ k,(Bu W k).length≤k
 | 0=>aRN 0
 | k+1=>by
  have:=Yh W k;rw [Bu,aRH];split<;>simp<;>omega
theorem Yd (W:ah) (k:Nat):(Bt W k).length=k+1:=by unfold Bt;simp
theorem azY {l:List bf} {k:Nat} {t:bf} (ar:k<l.length) (aG:l.getD k default=t):(l.take (k+1)).map MD=(l.take k).map MD++ [MD t]:=by
 rw [← aG,aRB,aRD ar,← aVU ar,aR3];rfl
end
section
theorem Xz:(prog.info? 44).map (λ i=>(i.zero,i.size,i.bytes))=some (some (.slice none 0 0),1,24):=by kernel_rfl
def qI (w:World) (T:List gZ) (L:List (List aF)):Prop:=T.length=L.length∧∀ (i:Nat) (v:gZ),T[i]? =some v→∃ l:List aF,L[i]? =some l∧v.n=l.length∧aF.rep.aJ 48 w v.a v.c l
section
variable {w w':World} {T j3:List gZ} {L yN:List (List aF)} {W:ah} {l:List aF} {k:Nat} {e:Int} {V:ah} {ms:List (BitVec 64)}
theorem qI.keep (h:qI w T L) (hx:Ext w w'):qI w' T L:=⟨h.1,λ i v aq=>by
 obtain ⟨l,τ,aa,aw⟩:=h.2 i v aq;exact ⟨l,τ,aa,aw.keep hx⟩⟩
theorem qI.nil:qI w [] []:=⟨rfl,λ i v h=>by simp at h⟩
theorem qI.at_ (h:qI w T L) (ar:k<T.length):∃ A c l,T[k]? =some ⟨A,l.length,c⟩∧L[k]? =some l∧aF.rep.aJ 48 w A c l:=by
 obtain ⟨v,hv⟩:∃ v,T[k]? =some v:=⟨_,aRD ar⟩;obtain ⟨l,τ,aa,aw⟩:=h.2 k v hv;obtain ⟨a,n,c⟩:=v;dsimp only at aa aw;subst aa;exact ⟨a,c,l,hv,τ,aw⟩
noncomputable def ot (W:ah) (L:List (List aF)):ah:=L.foldl ox W
noncomputable def yd (W:ah):List (List aF)→List (BitVec 64)
 | []=> [sq W]
 | l::r=>sq W::yd (ox W l) r
noncomputable def kr (W:ah):List (List aF)→Int
 | []=>0
 | l::r=>if h5 W l≠0 then h5 W l else kr (ox W l) r
def Er (W:ah) (L:List (List aF)) (e:Int) (V:ah) (ms:List (BitVec 64)):Prop:=(e=0∧L.length≤200∧W.bo=0∧kr W L=0∧V=ot W L∧ms=yd W L)∨(e≠0∧(200<L.length∨W.bo≠0∨kr W L≠0)∧V=ah.zero∧ms= [])
theorem akx:ot W (L++yN)=ot (ot W L) yN:=aTd
theorem aky:∀ (L:List (List aF)) (W:ah),(yd W L).length=L.length+1
 | [],_=>rfl
 | l::r,W=>by rw [yd,aRG,aRG,aky r]
theorem akz:∀ (L:List (List aF)) (W:ah),yd W (L++ [l])=yd W L++ [sq (ox (ot W L) l)]
 | [],_=>rfl
 | l::r,W=>by rw [aTz,yd,yd,akz r];rfl
theorem MS:∀ (L:List (List aF)) (W:ah),kr W (L++yN)=if kr W L≠0 then kr W L else kr (ot W L) yN
 | [],W=>by rw [aT2];unfold kr;rw [aRL (by simp)];rfl
 | l::r,W=>by
  rw [aTz,kr,kr];by_cases h:h5 W l≠0
  ·rw [aRP h,aRP h,aRP h]
  ·rw [aRL h,aRL h,MS r];rfl
theorem RP:kr W [l]=h5 W l:=by
 unfold kr;split
 ·rfl
 ·rename_i h;unfold kr;have:h5 W l=0:=by simpa using h
  rw [this]
theorem BC {α:Type} {L:List α} {l:α} (h:L[k]? =some l):L.take (k+1)=L.take k++ [l]:=by
 have ar:=(aRC.1 h).1;have e:=(aRC.1 h).2;rw [← e,aVU]
theorem RR (aH:kr W (L.take k)=0) (az:L[k]? =some l):kr W (L.take (k+1))=h5 (ot W (L.take k)) l:=by
 rw [BC az,MS,aRL (by simpa using aH),RP]
theorem RQ (aH:kr W (L.take k)≠0):kr W L≠0:=by
 have:L=L.take k++L.drop k:=(aTL k L).symm;rw [this,MS,aRP aH];exact aH
theorem Er.ok (h:Er W L e V ms) (aH:e=0):L.length≤200∧W.bo=0∧kr W L=0∧V=ot W L∧ms=yd W L:=by
 rcases h with ⟨_,h⟩ | ⟨τ,_⟩
 ·exact h
 ·exact absurd aH τ
theorem Er.zero (h:Er W L e V ms) (τ:L.length≤200) (aa:W.bo=0) (aw:kr W L=0):e=0∧V=ot W L∧ms=yd W L:=by
 rcases h with ⟨aH,_,_,_,a1,bK⟩ | ⟨_,a1,_⟩
 ·exact ⟨aH,a1,bK⟩
 ·omega
end
end
section
theorem aoL:eC prog bP 22 3 8:=eC.kT (z:= .int .i64 0) (k:=1) underlying22 C8 rfl rfl (by decide) (λ j u h=>IL j u h)
theorem TY:eC prog qg 38 41 8:=eC.kT (z:= .int .u64 0) (k:=1) underlying38 ahe rfl rfl (by decide) (λ j u h=>ako j u h)
open Go.Proofs.YtlikikpgmmkjbaaGreat.fc
theorem Ia (l:List Int) (A:Option Addr) (c:Nat) (w:World) (az:bP.aJ 8 w A c l):
  Calls prog 57 #[.slice A l.length c] w (λ e w'=>e= .returned (.int .u64 (U (q1 l)))∧Ext w w'):=by
 refine ch (n:=12) func57 Z Z Z ?_;refine aj<|va Z<|ai<|aj<|vm Z<|ca ad8 Z Z ((aA4 l _ _ _ (az.keep (Ext.bF w))).mono ?_);rintro e lg ⟨⟨aLo,rfl⟩,a7⟩;refine ⟨_,Z, ?_⟩;have:=a7.size;have eB:=γ (Ext.bF w) a7;refine vm Z<|J (ex Z Z)<|J (ex Z Z)<|va Z<|va Z<|ai<|aj<|vm Z<|ca asz Z Z ((ay5 (ID l) (aA3 _) _).mono ?_);rintro e al9 ⟨rfl,amy⟩;refine ⟨_,Z, ?_⟩;have:=amy.size;have yy:=γ eB amy;refine va Z<|ai<|rt<|bb (.tmp Z .nil)<| ?_;exact ⟨Z,yy⟩
theorem azL (a:ah.b5) (W:ah) (w:World) (bV:ah.Has w a W) (hc:W.bo≠0):
  Calls prog 20 #[.agg ((ah.cells a W).toArray)] w (λ e w'=>e= .returned (.tuple #[.int .u64 (U (sq W)), .int .i64 W.bo])∧Ext w w'):=by
 have XF:(W.bo != 0)=true:=by simpa using hc
 refine ch (n:=107) func20 Z Z Z ?_;refine aj<|cB Z Z Z Z λ cv bJ a7 ee ab=> ?_;have:=a7.size;have bg:=γ (Ext.bF w) a7;have ei:=ab.lt;refine va Z<|va Z<|ai<|aA<|aj<|J (ao Z (ab.all du cf))<|ca Hm Z Z ((CA a W _ (bV.keep bg)).mono ?_);rintro e eK ⟨rfl,cG⟩;refine ⟨_,Z, ?_⟩;have:=cG.size;have bQ:=γ bg cG;refine va Z<|ai<|aj<|vm Z<|J (bne Z Z)<|ai<|fA (gM Z XF)<|aj<|vm Z<|va Z<|va Z<|ai<|rt<|bT<|bb (.tmp Z (.tmp Z .nil))<| ?_;exact ⟨by unfold sq;rw [aRL hc];rfl,bQ⟩
theorem azM (a:ah.b5) (W:ah) (w:World) (bV:ah.Has w a W) (hc:W.bo=0):
  Calls prog 20 #[.agg ((ah.cells a W).toArray)] w (λ e w'=>e= .returned (.tuple #[.int .u64 (U (sq W)), .int .i64 W.bo])∧Ext w w'):=by
 have XF:(W.bo != 0)=false:=by simpa using hc
 have bB:=Good.Bx hc;have aJN:=bB.kq;have aJO:=bB.dZ;have aJP:=bB.sl;have aJM:=bB.x3;have aJI:=aE.ez bB.field;obtain ⟨FL,uY,qa,sr⟩:=bV.nums;have XM:=bV.B.ez;have aiJ:=bV.M.ez;have uQ:=bV.T.ez;refine ch (n:=107) func20 Z Z Z ?_;refine aj<|cB Z Z Z Z λ cv bJ a7 ee ab=> ?_;have:=a7.size;have bg:=γ (Ext.bF w) a7;have ei:=ab.lt;refine va Z<|va Z<|ai<|aA<|aj<|J (ao Z (ab.all du cf))<|ca Hm Z Z ((CA a W _ (bV.keep bg)).mono ?_);rintro e eK ⟨rfl,cG⟩;refine ⟨_,Z, ?_⟩;have:=cG.size;have bQ:=γ bg cG;refine va Z<|ai<|aj<|vm Z<|J (bne Z Z)<|ai<|hL (gM Z XF)<|bt<|aj<|J (av s4 Z)<|J (av U5 Z)<| ?_;have ab:=ab.later cG;refine J (ao Z (ab.one bc Z))<|J (av s4 Z)<|J (av asA Z)<|J (ao Z (ab.one bc Z))<|J (av Ky Z)<|J (ao Z (ab.one bc Z))<|J (av KB Z)<|J (ao Z (ab.one bc Z))<|cX (e:= 3) (cs:= [.int .i64 1, .int .i64 W.field.wide, .int .i64 W.field.high, .int .i64 W.next, .int .i64 W.now]) Z (λ _=>by kernel_rfl) Z λ tK xh c' H' eV=> ?_;have:=c'.size;have jj:=γ bQ c';have MO:=eV.lt;refine J (av s4 Z)<|J (av AR Z)<| ?_;have ab:=ab.later c';refine J (ao Z (ab.one gL Z))<| ?_;have J5:=aR.wD (R:=bP) (by_:=8) (B:=w.heap.size) (k:= [1,W.field.wide,W.field.high,W.next,W.now]) eV [[.int .i64 1], [.int .i64 W.field.wide], [.int .i64 W.field.high], [.int .i64 W.next], [.int .i64 W.now]] rfl (⟨⟨rfl,bI.2 (by decide)⟩,⟨⟨rfl,FL⟩,⟨⟨rfl,uY⟩,⟨⟨rfl,qa⟩,⟨⟨rfl,sr⟩,trivial⟩⟩⟩⟩⟩) (by simp) (by simp) (by decide) (by omega);have alD:=λ q I=>(J5.lt q I).2;have Ra:∀ q∈κ.ae (some ⟨xh,0,none⟩),xh≤q:=λ q I=>aTi (aRz.1 I).symm;refine ap aoL κ.di J5 (bV.P.keep jj) Z Z (by simp only [aRG,aRM];omega) (by simp only [aRG,aRM];omega) jj.size Z λ BH DX Uw lD uk Hy aAa=> ?_;have:=lD.size;have ma:=Ext.mod jj lD (λ q I=>(J5.lt q I).1);have Se:=λ q I=>(uk.lt q I).2;have:=lD.size;refine ca PF Z Z ((Ia ([1,W.field.wide,W.field.high,W.next,W.now]++W.field.aZ) _ _ _ uk.has).mono ?_);rintro e tN ⟨rfl,dc⟩;refine ⟨_,Z, ?_⟩;have:=dc.size;have iG:=γ ma dc;refine cX (e:= 41) (cs:= [.int .u64 (U (q1 ([1,W.field.wide,W.field.high,W.next,W.now]++W.field.aZ)))]) Z (λ _=>by kernel_rfl) Z λ F9 Ua jT aMj aaE=> ?_;have:=jT.size;have rk:=γ iG jT;have aOL:=aaE.lt;refine va Z<|ai<|aA<|aj<|J (av uH Z)<| ?_;have aq2:∀ q∈κ.ae (some ⟨xh,0,none⟩),q=bJ→False:=λ q I Φ=>by (have:=Ra q I;omega)
 have ab:=ab.mod lD (λ I=>aq2 _ I rfl);have ab:=ab.later (γ dc jT);refine J (ao Z (ab.one zd Z))<|J (cA underlying25 Z)<|vm Z<|ai<|bM<| ?_;have JX:=aR.wD (R:=qg) (by_:=8) (B:=w.heap.size) (k:= [Rn W]) aaE [[.int .u64 (U (Rn W))]] rfl (⟨⟨rfl,trivial⟩,trivial⟩) (by simp) (by simp) (by decide) (by omega);have xy:∀ q∈κ.ae (some ⟨Ua,0,none⟩),q=Ua:=λ q I=>aRz.1 I;refine e8 (λ cm cl aU=>∃ dO:Nat,∃ Ef:List (BitVec 64),∃ GD:Option Addr,∃ Pc:Nat,cl= [(1, .pointer (some ⟨bJ,0,none⟩)),(2, .int .u64 0),(3, .int .i64 0),(5, .slice GD Ef.length Pc),(35, .slice a.B W.aW.length a.b),(36, .int .i64 (W.aW.length:Int)),(37, .int .i64 (dO:Int))]∧cm=W.aW.length - dO∧Ext w aU∧aR aU bJ (ah.cells a W) 28 (0,0)∧qg.aD 41 8 aU w.heap.size (κ.ae GD) GD Pc Ef∧(dO≤W.aW.length)∧(Ef=Bt W dO)∧(∀ q∈κ.ae GD,q=bJ→False)) _ _ ⟨0, [Rn W],some ⟨Ua,0,none⟩,1,Z,Z,rk,ab,JX,by omega,rfl,(λ q I Φ=>by (have:=xy q I;omega))⟩ (.cons Z (.cons Z (.cons Z (.cons Z (.cons Z (.cons Z (.cons (bZ Z (by first | omega | rfl | (simp<;>omega))) .nil))))))) ?_;rintro l2 aHb yl ⟨dO,Ef,GD,Pc,rfl,rfl,jX,ab,yP,p1,V1,Hd⟩;have:=jX.size;have aOP:=ab.lt;have Sf:=λ q I=>(yP.lt q I).2;refine aj<|J (blt Z Z)<|ai<|aA<| ?_;refine eg Z (λ avn=> ?_) (λ avn=> ?_)
 ·obtain ⟨c,mO⟩:∃ c,W.aW.getD dO default=c:=⟨_,rfl⟩;obtain ⟨ks,LI⟩:∃ ks,W.bk.getD dO 0=ks:=⟨_,rfl⟩;have ajH:c.ok:=ax.mj bV.B c (by rw [← mO];exact ih (by omega));have Ys:fO ks:=IN bV.S ks (by rw [← LI];exact ih (by omega));have awP:Rm W dO=q1 [2,(dO:Int),c.x,c.y,ks]:=by unfold Rm;rw [mO,LI]
  have afo:Ef.length=dO+1:=by rw [V1,Yd]
  refine bt<|aA<|bM<|aj<|vm Z<|J (b' dO underlying25 bU Z Z ((bV.B.keep jX).bR (ba dO)) Z (by omega))<|J (ao Z (κ.aJ.ho A7 ((bV.B.keep jX).cu (ba dO)) (show W.aW[dO]? =some c by rw [← mO];exact dv (u:=default) (by omega)) cj bU))<|al Z xv Z Z λ BN vJ iD XO wZ=> ?_;have:=iD.size;have lN:=γ jX iD;have IJ:=wZ.lt;refine va Z<|st (new:= [.int .i64 c.x, .int .i64 c.y]) Z Z wZ Z bU Z Z Z λ qk la wZ=> ?_;have:=la.size;have hH:=Ext.mod lN la bu;refine ai<| ?_;refine rd [(3,0),(5,0),(7,0),(10,0),(11,2),(12,0),(13,2),(14,3)] [0,1,2,3,4,5,6,7,8,9,10,11,12,13,14,15] (by kernel_rfl) (by kernel_rfl) ?_;refine au Z (λ _=>aM Z)<|au Z (λ _=>aM Z)<|au Z (λ _=>av iL Z)<|bH Z (λ _ x=>ao Z ((wZ.later x).one bc Z))<|au Z (λ _=>av iM Z)<|bH Z (λ _ x=>ao Z ((wZ.later x).one bc Z))<|au Z (λ _=>av xx Z)<| ?_;have ab:=ab.later iD;have ab:=ab.mod la aO;refine bH Z (λ _ x=>ao Z ((ab.later x).one gL Z))<|au Z (λ _=>aM Z)<|au Z (λ _=>b' dO underlying22 dK Z Z ((bV.S.keep hH).bR (ba dO)) Z (by omega))<|bH Z (λ _ x=>ao Z (κ.aJ.gi gN ((bV.S.keep (γ hH x)).cu (ba dO)) (show W.bk[dO]? =some ks by rw [← LI];exact dv (u:=0) (by omega)) Z bc))<|gm Z Z Z λ Ns tR Q hK=>cX (e:= 3) (cs:= [.int .i64 2, .int .i64 (dO:Int), .int .i64 c.x, .int .i64 c.y, .int .i64 ks]) Z (λ _=>by kernel_rfl) Z λ SA acf jV aiU nh=>hK _ _ ⟨γ tR jV, ?_⟩;have:=tR.size;have sH:=γ hH tR;have:=jV.size;have tZ:=γ sH jV;have akj:=nh.lt;refine pR Z Z PF Z (λ _ x=>Ia ([2,(dO:Int),c.x,c.y,ks]) _ _ _ ((aR.Lc (R:=bP) (by_:=8) (k:= [2,(dO:Int),c.x,c.y,ks]) nh [[.int .i64 2], [.int .i64 (dO:Int)], [.int .i64 c.x], [.int .i64 c.y], [.int .i64 ks]] Z (⟨⟨Z,bI.2 (by decide)⟩,⟨⟨Z,bI.2 (by omega)⟩,⟨⟨Z,ajH.1⟩,⟨⟨Z,ajH.2⟩,⟨⟨Z,Ys⟩,trivial⟩⟩⟩⟩⟩) (by simp) (by simp)).keep x)) Z<|gm Z Z Z λ ZE iE Q hK=>cX (e:= 41) (cs:= [.int .u64 (U (q1 ([2,(dO:Int),c.x,c.y,ks])))]) Z (λ _=>by kernel_rfl) Z λ SB aIr gI aMA aaL=>hK _ _ ⟨γ iE gI, ?_⟩;have:=iE.size;have BZ:=γ tZ iE;have:=gI.size;have yC:=γ BZ gI;have aB8:=aaL.lt;have yP:=yP.later iD;have yP:=yP.mod la (bL Sf);have yP:=yP.later (γ tR (γ jV (γ iE gI)));refine eP Z Z Z λ ZI hW Q hK=>ap TY κ.di (yP.later hW) ((aR.gB (R:=qg) (by_:=8) (q:=(q1 ([2,(dO:Int),c.x,c.y,ks]))) aaL ⟨Z,trivial⟩ (by decide)).keep hW) Z Z (by simp only [aRG,aRM];omega) (by simp only [aRG,aRM];omega) (by have:=hW.size;omega) Z λ Je am6 ap8 wx OG auv aNQ=>hK _ _ ?_;have:=hW.size;have vz:=γ yC hW;have:=wx.size;have pk:=Ext.mod vz wx (λ q I=>aR5 (by omega) ((yP.later hW).lt q I).1);have aQm:=λ q I=>(OG.lt q I).2;have:=wx.size;refine au Z (λ _=>fg Z)<|fn λ Jf kz=> ?_;have:=kz.size;have t_:=γ pk kz;refine b0<|aV<|rg<|J (bad Z Z (bE (by omega)))<|vm Z<|nl<| ?_;have ab:=ab.later (γ tR (γ jV (γ iE (γ gI hW))));have ab:=ab.mod wx (λ I=>Hd _ I rfl);have ab:=ab.later kz;have OG:=OG.later kz;exact c6 _ _ ⟨dO+1,Ef++ [(q1 ([2,(dO:Int),c.x,c.y,ks]))],am6,ap8,Z,Z,t_,ab,OG,by omega,by rw [azN,V1,awP],(λ q I Φ=>by (exact aRO (auv q I) (λ aiB=>by (exact Hd q aiB Φ)) (λ aiB=>by omega)))⟩ (by omega) (.cons Z (.cons Z (.cons Z (.cons Z (.cons Z (.cons Z (.cons (bZ Z (by first | omega | rfl | (simp<;>omega))) .nil)))))))
 ·refine dH<|dG<|ef<|dF<|aV<|aA<|aj<|J (av CO Z)<|J (ao Z (ab.one gL Z))<|J (cA underlying22 Z)<|vm Z<|ai<|bM<| ?_;refine e8 (λ cm cl aU=>∃ dY:Nat,∃ Cd:List (BitVec 64),∃ jZ:Option Addr,∃ uw:Nat,cl= [(1, .pointer (some ⟨bJ,0,none⟩)),(2, .int .u64 0),(3, .int .i64 0),(5, .slice jZ Cd.length uw),(59, .slice a.M W.br.length a.m),(60, .int .i64 (W.br.length:Int)),(61, .int .i64 (dY:Int))]∧cm=W.br.length - dY∧Ext w aU∧aR aU bJ (ah.cells a W) 28 (0,0)∧qg.aD 41 8 aU w.heap.size (κ.ae jZ) jZ uw Cd∧(dY≤W.br.length)∧(Cd=Bt W W.aW.length++Bu W dY)∧(∀ q∈κ.ae jZ,q=bJ→False)) _ _ ⟨0,Ef,GD,Pc,Z,Z,jX,ab,yP,by omega,by rw [Bu,aR7,V1,show dO=W.aW.length by omega],(λ q I Φ=>by (exact Hd q I Φ))⟩ (.cons Z (.cons Z (.cons Z (.cons Z (.cons Z (.cons Z (.cons (bZ Z (by first | omega | rfl | (simp<;>omega))) .nil))))))) ?_;rintro xY aGU Nx ⟨dY,Cd,jZ,uw,rfl,rfl,rq,ab,im,gS,KX,Hg⟩;have:=rq.size;have aBM:=ab.lt;have aPN:=λ q I=>(im.lt q I).2;refine aj<|J (blt Z Z)<|ai<|aA<| ?_;refine eg Z (λ au6=> ?_) (λ au6=> ?_)
  ·obtain ⟨nL,QH⟩:∃ nL,W.br.getD dY 0=nL:=⟨_,rfl⟩;have Ys:fO nL:=IN bV.M nL (by rw [← QH];exact ih (by omega));have afo:Cd.length≤W.aW.length+1+dY:=by rw [KX,aRH,Yd];have:=Yh W dY;omega
   refine bt<|aA<|bM<|aj<|vm Z<|J (b' dY underlying22 dK Z Z ((bV.M.keep rq).bR (ba dY)) Z (by omega))<|J (ao Z (κ.aJ.gi gN ((bV.M.keep rq).cu (ba dY)) (show W.br[dY]? =some nL by rw [← QH];exact dv (u:=0) (by omega)) Z bc))<|va Z<|va Z<|ai<|aj<|vm Z<|J (bne Z Z)<|ai<| ?_;refine e1 Z (λ EX=> ?_) (λ EX=> ?_)
   ·have A':nL≠0:=by simpa using EX
    refine rg<|vm Z<|vm Z<|vm Z<|cX (e:= 3) (cs:= [.int .i64 3, .int .i64 (dY:Int), .int .i64 nL]) Z (λ _=>by kernel_rfl) Z λ Sv ao7 jS ayM Jy=> ?_;have:=jS.size;have zZ:=γ rq jS;have aBN:=Jy.lt;refine ca PF Z Z ((Ia ([3,(dY:Int),nL]) _ _ _ (aR.Lc (R:=bP) (by_:=8) (k:= [3,(dY:Int),nL]) Jy [[.int .i64 3], [.int .i64 (dY:Int)], [.int .i64 nL]] Z (⟨⟨Z,bI.2 (by decide)⟩,⟨⟨Z,bI.2 (by omega)⟩,⟨⟨Z,Ys⟩,trivial⟩⟩⟩) (by simp) (by simp))).mono ?_);rintro e alZ ⟨rfl,SU⟩;refine ⟨_,Z, ?_⟩;have:=SU.size;have NH:=γ zZ SU;refine cX (e:= 41) (cs:= [.int .u64 (U (q1 ([3,(dY:Int),nL])))]) Z (λ _=>by kernel_rfl) Z λ aQy aHX SV aLW aap=> ?_;have:=SV.size;have aFG:=γ NH SV;have aBO:=aap.lt;have im:=im.later (γ jS (γ SU SV));refine ap TY κ.di im (aR.gB (R:=qg) (by_:=8) (q:=(q1 ([3,(dY:Int),nL]))) aap ⟨Z,trivial⟩ (by decide)) Z Z (by simp only [aRG,aRM];omega) (by simp only [aRG,aRM];omega) (by omega) Z λ al1 amT apV Rh abC auq aNq=> ?_;have:=Rh.size;have Js:=Ext.mod aFG Rh (λ q I=>aR5 (by omega) (im.lt q I).1);have aPU:=λ q I=>(abC.lt q I).2;have:=Rh.size;refine va Z<|nl<|b0<|aV<|rg<|J (bad Z Z (bE (by omega)))<|vm Z<|nl<| ?_;have ab:=ab.later (γ jS (γ SU SV));have ab:=ab.mod Rh (λ I=>Hg _ I rfl);exact c6 _ _ ⟨dY+1,Cd++ [(q1 ([3,(dY:Int),nL]))],amT,apV,Z,Z,Js,ab,abC,by omega,by rw [KX,Bu,QH,aRL A'];simp,(λ q I Φ=>by (exact aRO (auq q I) (λ L6=>by (exact Hg q L6 Φ)) (λ L6=>by omega)))⟩ (by omega) (.cons Z (.cons Z (.cons Z (.cons Z (.cons Z (.cons Z (.cons (bZ Z (by first | omega | rfl | (simp<;>omega))) .nil)))))))
   ·have A':nL=0:=by simpa using EX
    refine e9<|b0<|aV<|rg<|J (bad Z Z (bE (by omega)))<|vm Z<|nl<| ?_;exact c6 _ _ ⟨dY+1,Cd,jZ,uw,Z,Z,rq,ab,im,by omega,by rw [KX,Bu,QH,aRP A'];simp,(λ q I Φ=>by (exact Hg q I Φ))⟩ (by omega) (.cons Z (.cons Z (.cons Z (.cons Z (.cons Z (.cons Z (.cons (bZ Z (by first | omega | rfl | (simp<;>omega))) .nil)))))))
  ·refine dH<|dG<|ef<|dF<|aV<|aA<|aj<|J (av kI Z)<|J (ao Z (ab.one mM Z))<|J (cA underlying26 Z)<|vm Z<|ai<|bM<| ?_;refine e8 (λ cm cl aU=>∃ kP:Nat,∃ Eg:List (BitVec 64),∃ N1:Option Addr,∃ Us:Nat,cl= [(2, .int .u64 0),(3, .int .i64 0),(5, .slice N1 Eg.length Us),(77, .slice a.T W.ak.length a.t),(78, .int .i64 (W.ak.length:Int)),(79, .int .i64 (kP:Int))]∧cm=W.ak.length - kP∧Ext w aU∧qg.aD 41 8 aU w.heap.size (κ.ae N1) N1 Us Eg∧(kP≤W.ak.length)∧(Eg=Bt W W.aW.length++Bu W W.br.length++(W.ak.take kP).map MD)) _ _ ⟨0,Cd,jZ,uw,Z,Z,rq,im,by omega,by rw [KX,show dY=W.br.length by omega];simp⟩ (.cons Z (.cons Z (.cons Z (.cons Z (.cons Z (.cons (bZ Z (by first | omega | rfl | (simp<;>omega))) .nil)))))) ?_;rintro aM4 aG0 ZA ⟨kP,Eg,N1,Us,rfl,rfl,yv,yQ,WT,V2⟩;have:=yv.size;have alB:=λ q I=>(yQ.lt q I).2;refine aj<|J (blt Z Z)<|ai<|aA<| ?_;refine eg Z (λ ave=> ?_) (λ ave=> ?_)
   ·obtain ⟨t,Fk⟩:∃ t,W.ak.getD kP default=t:=⟨_,rfl⟩;obtain ⟨o_,l3,nM,oi,qc,Ix,MG⟩:fO t.id∧fO t.owner∧fO t.kind∧fO t.spot.x∧fO t.spot.y∧fO t.c0∧fO t.load:=bf.mj bV.T t (by rw [← Fk];exact ih (by omega));have afo:Eg.length≤W.aW.length+1+W.br.length+kP:=by rw [V2,aRH,aRH,Yd,aSz,aRE];have:=Yh W W.br.length;omega
    refine bt<|aA<|bM<|aj<|J (b' kP underlying26 lU Z Z ((bV.T.keep yv).bR (ba kP)) Z (by omega))<|J (ao Z (κ.aJ.ho j9 ((bV.T.keep yv).cu (ba kP)) (show W.ak[kP]? =some t by rw [← Fk];exact dv (u:=default) (by omega)) CN lU))<|al Z KG Z Z λ aEO aH3 Gh aL3 yH=> ?_;have:=Gh.size;have ZX:=γ yv Gh;have aOt:=yH.lt;refine st (new:= [.int .i64 t.id, .int .i64 t.owner, .int .i64 t.kind, .int .i64 t.spot.x, .int .i64 t.spot.y, .int .i64 t.c0, .int .i64 t.load]) Z Z yH Z lU Z Z Z λ al5 Bn yH=> ?_;have:=Bn.size;have Jt:=Ext.mod ZX Bn bu;refine ai<|rg<|vm Z<|J (av Hn Z)<|J (ao Z (yH.one bc Z))<|J (av EK Z)<|J (ao Z (yH.one bc Z))<|J (av PM Z)<|J (ao Z (yH.one bc Z))<|J (av uG Z)<|J (av iL Z)<|J (ao Z (yH.one bc Z))<|J (av uG Z)<|J (av iM Z)<|J (ao Z (yH.one bc Z))<|J (av PR Z)<|J (ao Z (yH.one bc Z))<|J (av AN Z)<|J (ao Z (yH.one bc Z))<|cX (e:= 3) (cs:= [.int .i64 4, .int .i64 t.id, .int .i64 t.owner, .int .i64 t.kind, .int .i64 t.spot.x, .int .i64 t.spot.y, .int .i64 t.c0, .int .i64 t.load]) Z (λ _=>by kernel_rfl) Z λ al6 ao9 qq ayO Jz=> ?_;have:=qq.size;have NL:=γ Jt qq;have aBQ:=Jz.lt;refine ca PF Z Z ((Ia ([4,t.id,t.owner,t.kind,t.spot.x,t.spot.y,t.c0,t.load]) _ _ _ (aR.Lc (R:=bP) (by_:=8) (k:= [4,t.id,t.owner,t.kind,t.spot.x,t.spot.y,t.c0,t.load]) Jz [[.int .i64 4], [.int .i64 t.id], [.int .i64 t.owner], [.int .i64 t.kind], [.int .i64 t.spot.x], [.int .i64 t.spot.y], [.int .i64 t.c0], [.int .i64 t.load]] Z (⟨⟨Z,bI.2 (by decide)⟩,⟨⟨Z,o_⟩,⟨⟨Z,l3⟩,⟨⟨Z,nM⟩,⟨⟨Z,oi⟩,⟨⟨Z,qc⟩,⟨⟨Z,Ix⟩,⟨⟨Z,MG⟩,trivial⟩⟩⟩⟩⟩⟩⟩⟩) (by simp) (by simp))).mono ?_);rintro e aEQ ⟨rfl,ZQ⟩;refine ⟨_,Z, ?_⟩;have:=ZQ.size;have ZZ:=γ NL ZQ;refine cX (e:= 41) (cs:= [.int .u64 (U (q1 ([4,t.id,t.owner,t.kind,t.spot.x,t.spot.y,t.c0,t.load])))]) Z (λ _=>by kernel_rfl) Z λ aQS aH7 sB aL8 aay=> ?_;have:=sB.size;have aFY:=γ ZZ sB;have aOy:=aay.lt;have yQ:=yQ.later Gh;have yQ:=yQ.mod Bn (bL alB);have yQ:=yQ.later (γ qq (γ ZQ sB));refine ap TY κ.di yQ (aR.gB (R:=qg) (by_:=8) (q:=(q1 ([4,t.id,t.owner,t.kind,t.spot.x,t.spot.y,t.c0,t.load]))) aay ⟨Z,trivial⟩ (by decide)) Z Z (by simp only [aRG,aRM];omega) (by simp only [aRG,aRM];omega) (by omega) Z λ aQV amY ap0 X7 abI aJJ aNA=> ?_;have:=X7.size;have aF1:=Ext.mod aFY X7 (λ q I=>aR5 (by omega) (yQ.lt q I).1);have aP1:=λ q I=>(abI.lt q I).2;have:=X7.size;refine va Z<|nl<|b0<|aV<|rg<|J (bad Z Z (bE (by omega)))<|vm Z<|nl<| ?_;exact c6 _ _ ⟨kP+1,Eg++ [(q1 ([4,t.id,t.owner,t.kind,t.spot.x,t.spot.y,t.c0,t.load]))],amY,ap0,Z,Z,aF1,abI,by omega,by rw [V2,azY (by omega) Fk,aR9];rfl⟩ (by omega) (.cons Z (.cons Z (.cons Z (.cons Z (.cons Z (.cons (bZ Z (by first | omega | rfl | (simp<;>omega))) .nil))))))
   ·refine dH<|dG<|ef<|dF<|aV<|aj<|vm Z<|ca asB Z Z ((aAE Eg _ _ _ yQ.has).mono ?_);rintro e aQ0 ⟨rfl,amw⟩;refine ⟨_,Z, ?_⟩;have:=amw.size;have aF5:=γ yv amw;refine va Z<|va Z<|ai<|rt<|bb (.tmp Z (.tmp Z .nil))<| ?_;exact ⟨by unfold sq;rw [aRP hc,hc,V2,show kP=W.ak.length by omega,aSi];rfl,aF5⟩
theorem ajh (a:ah.b5) (W:ah) (w:World) (bV:ah.Has w a W):Calls prog 20 #[.agg (ah.cells a W).toArray] w (λ e w'=>e= .returned (.tuple #[.int .u64 (U (sq W)), .int .i64 W.bo])∧Ext w w'):=by
 by_cases hc:W.bo=0
 ·exact azM a W w bV hc
 ·exact azL a W w bV hc
end
section
theorem aoK:eC prog qg 38 41 8:=eC.kT (z:= .int .u64 0) (k:=1) underlying38 ahe rfl rfl (by decide) (λ j u h=>ako j u h)
open Go.Proofs.YtlikikpgmmkjbaaGreat.fc
theorem MT (a:ah.b5) (W:ah) (A:Option Addr) (c:Nat) (T:List gZ) (L:List (List aF)) (w:World) (bV:ah.Has w a W) (b8:ov.aJ 24 w A c T) (kK:qI w T L):
  Calls prog 47 #[.agg ((ah.cells a W).toArray), .slice A T.length c] w (λ e w'=>∃ e' a' V bG b4 ms,e= .returned (.tuple #[.agg (ah.cells a' V).toArray, .slice bG (ms:List (BitVec 64)).length b4, .int .i64 e'])∧Er W L e' V ms∧bq w' w.heap.size a' V∧qg.aD 41 8 w' w.heap.size (κ.ae bG) bG b4 ms∧(∀ q,q∈κ.ae bG→q∈bq.bX a'→False)∧Ext w w'):=by
 refine ch (n:=64) func47 Z Z Z ?_;refine aj<|cB Z Z Z Z λ cv bJ a7 ee ab=> ?_;have:=a7.size;have bg:=γ (Ext.bF w) a7;have ei:=ab.lt;refine al Z pQ Z Z λ eK cw bl ie ag=> ?_;have:=bl.size;have bQ:=γ bg bl;have h3:=ag.lt;refine va Z<|va Z<|ai<|aA<|aj<|vm Z<|J (cA underlying29 Z)<|J (iw Z Z)<|ai<| ?_;refine eg Z (λ ix=> ?_) (λ ix=> ?_)
 ·refine aj<|J (v:= .agg #[.int .i64 0, .int .i64 0, .slice none 0 0, .slice none 0 0, .slice none 0 0, .slice none 0 0, .slice none 0 0, .int .i64 0, .int .i64 0]) (cK Z (by kernel_rfl))<|st (new:= [.int .i64 0, .int .i64 0, .slice none 0 0, .slice none 0 0, .slice none 0 0, .slice none 0 0, .slice none 0 0, .int .i64 0, .int .i64 0]) Z Z ag Z cf Z Z Z λ u' p7 ag=> ?_;have:=p7.size;have jW:=Ext.mod bQ p7 bu;refine va Z<|va Z<|ai<|rt<|bT<|bb (.cell Z (ag.all du cf) (.tmp Z (.tmp Z .nil)))<| ?_;exact ⟨2,⟨none,none,none,none,none,0,0,0,0,0⟩,ah.zero,none,0, [],Z, .inr ⟨by decide, .inl (by rw [← kK.1];omega),rfl,rfl⟩,bq.zero _ _,κ.aD.nil _,λ q I=>by simp [κ.ae] at I,jW⟩
 ·have au0:L.length≤200:=by rw [← kK.1];omega
  refine bt<|aj<| ?_;have ab:=ab.later bl;refine J (ao Z (ab.all du cf))<|ca ad7 Z Z ((alf ([]:List dk) _ _ a W _ (bV.keep bQ) (κ.aJ.nil _)).mono ?_);rintro e tL ⟨a20,Jw,apH,rfl,sP,abk,Lh,cx⟩;refine ⟨_,Z, ?_⟩;have:=cx.size;have jI:=γ bQ cx;have alE:=λ q I=>(sP.lt q I).2;have Fu:=λ q I=>(sP.lt q I).1;have F4:=λ q I=>(abk.lt q I).2;have Mq:=λ q I=>(abk.lt q I).1;have ara:∀ q∈κ.ae Jw,q∈bq.bX a20→False:=Lh;have ar2:∀ q∈bq.bX a20,q∈κ.ae Jw→False:=λ q τ aa=>Lh q aa τ;refine vm Z<|J (ex Z Z)<|J (ex Z Z)<|J (ex Z Z)<| ?_;have ab:=ab.later cx;refine st Z Z ab Z cf Z Z Z λ BJ og ab=> ?_;have:=og.size;have lp:=Ext.mod jI og bu;refine va Z<|va Z<|ai<|aA<|aj<|vm Z<|J (bne Z Z)<|ai<| ?_;refine e1 Z (λ n'=> ?_) (λ n'=> ?_)
  ·have A6:W.bo≠0:=λ bd=>n' (Ui bd (by simp));refine aj<|J (v:= .agg #[.int .i64 0, .int .i64 0, .slice none 0 0, .slice none 0 0, .slice none 0 0, .slice none 0 0, .slice none 0 0, .int .i64 0, .int .i64 0]) (cK Z (by kernel_rfl))<|vm Z<| ?_;have ag:=ag.later cx;have ag:=ag.mod og aO;refine st (new:= [.int .i64 0, .int .i64 0, .slice none 0 0, .slice none 0 0, .slice none 0 0, .slice none 0 0, .slice none 0 0, .int .i64 0, .int .i64 0]) Z Z ag Z cf Z Z Z λ F8 Bp ag=> ?_;have:=Bp.size;have vq:=Ext.mod lp Bp bu;refine va Z<|va Z<|ai<|rt<|bT<|bb (.cell Z (ag.all du cf) (.tmp Z (.tmp Z .nil)))<| ?_;exact ⟨ml W ([]:List dk),⟨none,none,none,none,none,0,0,0,0,0⟩,ah.zero,none,0, [],Z, .inr ⟨n', .inr (.inl A6),Z,Z⟩,bq.zero _ _,κ.aD.nil _,λ q I=>by simp [κ.ae] at I,vq⟩
  ·have mO:W.bo=0:=(O5 (by first | exact n' | simpa using n')).1;have Fj:=alg mO;refine bt<|aj<|J (ao Z (ab.all du cf))<| ?_;have sP:=sP.mod og (bA Fu);refine ca ad9 Z Z ((ajh a20 (gG W ([]:List dk)) _ sP.has).mono ?_);rintro e BL ⟨rfl,gW⟩;refine ⟨_,Z, ?_⟩;have:=gW.size;have k2:=γ lp gW;refine vm Z<|J (ex Z Z)<|J (ex Z Z)<|va Z<|va Z<|ai<|aj<|vm Z<|cX (e:= 41) (cs:= [.int .u64 (U (sq (gG W ([]:List dk))))]) Z (λ _=>by kernel_rfl) Z λ Ni Uc iC aMn aaF=> ?_;have:=iC.size;have rm:=γ k2 iC;have aOO:=aaF.lt;refine va Z<|ai<|aA<|aj<|vm Z<|J (cA underlying29 Z)<|vm Z<|ai<|bM<| ?_;have JX:=aR.wD (R:=qg) (by_:=8) (B:=w.heap.size) (k:= [sq (gG W ([]:List dk))]) aaF [[.int .u64 (U (sq (gG W ([]:List dk))))]] rfl (⟨⟨rfl,trivial⟩,trivial⟩) (by simp) (by simp) (by decide) (by omega);have xy:∀ q∈κ.ae (some ⟨Uc,0,none⟩),q=Uc:=λ q I=>aRz.1 I;have ab:=ab.later (γ gW iC);have sP:=sP.later (γ gW iC);have ag:=ag.later cx;have ag:=ag.mod og aO;have ag:=ag.later (γ gW iC);refine e8 (λ cm cl aU=>∃ k:Nat,∃ Ei:List (BitVec 64),∃ cW:Option Addr,∃ hM:Nat,∃ oO:ah.b5,∃ kG:ah,cl= [(2, .pointer (some ⟨bJ,0,none⟩)),(4, .pointer (some ⟨cw,0,none⟩)),(11, .slice cW Ei.length hM),(35, .slice A T.length c),(36, .int .i64 (T.length:Int)),(37, .int .i64 (k:Int))]∧cm=T.length - k∧Ext w aU∧aR aU cw [.int .i64 0, .int .i64 0, .slice none 0 0, .slice none 0 0, .slice none 0 0, .slice none 0 0, .slice none 0 0, .int .i64 0, .int .i64 0] 28 (0,0)∧qg.aD 41 8 aU w.heap.size (κ.ae cW) cW hM Ei∧aR aU bJ (ah.cells oO kG) 28 (0,0)∧bq aU w.heap.size oO kG∧(k≤T.length)∧(kr W (L.take k)=0)∧(kG=ot W (L.take k))∧(Ei=yd W (L.take k))∧(∀ q∈bq.bX oO,q=bJ→False)∧(∀ q∈bq.bX oO,q=cw→False)∧(∀ q∈κ.ae cW,q=cw→False)∧(∀ q∈κ.ae cW,q=bJ→False)∧(∀ q∈κ.ae cW,q∈bq.bX oO→False)) _ _ ⟨0, [sq (gG W ([]:List dk))],some ⟨Uc,0,none⟩,1,a20,gG W ([]:List dk),Z,Z,rm,ag,JX,ab,(sP.down (by omega)),by omega,rfl,Fj.1,(by rw [Fj.1];rfl),(λ q I Φ=>by exfalso;(have:=Fu q I;omega)),(λ q I Φ=>by exfalso;(have:=Fu q I;omega)),(λ q I Φ=>by (have:=xy q I;omega)),(λ q I Φ=>by (have:=xy q I;omega)),(λ q I Φ=>by (have:=xy q I;(have:=alE q Φ;omega)))⟩ (.cons Z (.cons Z (.cons Z (.cons Z (.cons Z (.cons (bZ Z (by first | omega | rfl | (simp<;>omega))) .nil)))))) ?_;rintro aM8 aHf BN ⟨k,Ei,cW,hM,oO,kG,rfl,rfl,lN,ag,c7,b2,gl,ar,lV,HH,Qc,aqO,aqP,uD,AJ,EG⟩;have:=lN.size;have aB4:=ag.lt;have zS:=λ q I=>(c7.lt q I).2;have IJ:=b2.lt;have u_:=λ q I=>(gl.lt q I).2;have aJV:Ei.length≤k+1:=by rw [Qc,aky,aRE];omega
   refine aj<|J (blt Z Z)<|ai<|aA<| ?_;refine eg Z (λ EY=> ?_) (λ EY=> ?_)
   ·obtain ⟨en,dt,hy,fK,s7,hx⟩:=kK.at_ (k:=k) (by omega);refine bt<|aA<|bM<|aj<|J (b' k underlying29 AP Z Z ((b8.keep lN).bR (ba k)) Z (by omega))<|J (v:= .slice en hy.length dt) (ao Z (κ.aJ.gi Qq ((b8.keep lN).cu (ba k)) fK Z n9))<|va Z<|ai<|aA<|aj<|J (ao Z (b2.all du cf))<|vm Z<|ca UZ Z Z ((M9 oO kG _ _ hy _ gl.has (hx.keep lN)).mono ?_);rintro e amb ⟨a59,Z8,aIM,Z9,aIN,Z_,aIO,rfl,yL,abr,abt,abu,WB,Gm⟩;refine ⟨_,Z, ?_⟩;have:=Gm.size;have NR:=γ lN Gm;have F5:=λ q I=>(yL.lt q I).2;have Ms:=λ q I=>(yL.lt q I).1;have Nd:=λ q I=>(abr.lt q I).2;have aMW:=λ q I=>(abr.lt q I).1;have Si:=λ q I=>(abt.lt q I).2;have aMX:=λ q I=>(abt.lt q I).1;have aQg:=λ q I=>(abu.lt q I).2;have aMY:=λ q I=>(abu.lt q I).1;have arj:∀ q∈κ.ae Z8,q∈bq.bX a59→False:=λ q I=>WB q (.inl I);have aJj:∀ q∈bq.bX a59,q∈κ.ae Z8→False:=λ q τ aa=>arj q aa τ;have ark:∀ q∈κ.ae Z9,q∈bq.bX a59→False:=λ q I=>WB q (.inr (.inl I));have aJk:∀ q∈bq.bX a59,q∈κ.ae Z9→False:=λ q τ aa=>ark q aa τ;have arl:∀ q∈κ.ae Z_,q∈bq.bX a59→False:=λ q I=>WB q (.inr (.inr I));have aJl:∀ q∈bq.bX a59,q∈κ.ae Z_→False:=λ q τ aa=>arl q aa τ;refine vm Z<|J (ex Z Z)<|J (ex Z Z)<|J (ex Z Z)<| ?_;have b2:=b2.later Gm;refine st Z Z b2 Z cf Z Z Z λ ZE mr b2=> ?_;have:=mr.size;have BZ:=Ext.mod NR mr bu;refine va Z<|ai<|aj<|vm Z<|J (bne Z Z)<|ai<| ?_;refine e1 Z (λ s_=> ?_) (λ s_=> ?_)
    ·refine aj<|J (v:= .agg #[.int .i64 0, .int .i64 0, .slice none 0 0, .slice none 0 0, .slice none 0 0, .slice none 0 0, .slice none 0 0, .int .i64 0, .int .i64 0]) (cK Z (by kernel_rfl))<|vm Z<| ?_;have ag:=ag.later Gm;have ag:=ag.mod mr aO;refine st (new:= [.int .i64 0, .int .i64 0, .slice none 0 0, .slice none 0 0, .slice none 0 0, .slice none 0 0, .slice none 0 0, .int .i64 0, .int .i64 0]) Z Z ag Z cf Z Z Z λ ZG mU ag=> ?_;have:=mU.size;have Gt:=Ext.mod BZ mU bu;refine va Z<|va Z<|ai<|rt<|bT<|e_<|bT<|nR<|e_<|bT<|bb (.cell Z (ag.all du cf) (.tmp Z (.tmp Z .nil)))<| ?_;exact ⟨h5 kG hy,⟨none,none,none,none,none,0,0,0,0,0⟩,ah.zero,none,0, [],Z, .inr ⟨s_, .inr (.inr (RQ (k:=k+1) (by rw [RR lV s7,← HH];exact s_))),Z,Z⟩,bq.zero _ _,κ.aD.nil _,λ q I=>by simp [κ.ae] at I,Gt⟩
    ·have auS:kr W (L.take (k+1))=0:=by rw [RR lV s7,← HH];first | exact s_ | simpa using s_
     refine bt<|aj<|J (ao Z (b2.all du cf))<| ?_;have yL:=yL.mod mr (bA Ms);refine ca ad9 Z Z ((ajh a59 (ox kG hy) _ yL.has).mono ?_);rintro e DG ⟨rfl,hV⟩;refine ⟨_,Z, ?_⟩;have:=hV.size;have qz:=γ BZ hV;refine vm Z<|J (ex Z Z)<|J (ex Z Z)<|va Z<|ai<|rg<|vm Z<|vm Z<|cX (e:= 41) (cs:= [.int .u64 (U (sq (ox kG hy)))]) Z (λ _=>by kernel_rfl) Z λ Je aIv k1 aME aaO=> ?_;have:=k1.size;have pk:=γ qz k1;have aO7:=aaO.lt;have c7:=c7.later Gm;have c7:=c7.mod mr (λ q I h=>by have Φ:=aRz.1 h;exfalso;(exact AJ q I Φ));have c7:=c7.later (γ hV k1);refine ap aoK κ.di c7 (aR.gB (R:=qg) (by_:=8) (q:=(sq (ox kG hy))) aaO ⟨Z,trivial⟩ (by decide)) Z Z (by simp only [aRG,aRM];omega) (by simp only [aRG,aRM];omega) (by omega) Z λ SE am8 aqd FI abU VL aNT=> ?_;have:=FI.size;have B0:=Ext.mod pk FI (λ q I=>aR5 (by omega) (c7.lt q I).1);have alK:=λ q I=>(abU.lt q I).2;have:=FI.size;refine va Z<|nl<|b0<|aV<|rg<|J (bad Z Z (bE (by omega)))<|vm Z<|nl<| ?_;have ag:=ag.later Gm;have ag:=ag.mod mr aO;have ag:=ag.later (γ hV k1);have ag:=ag.mod FI (λ I=>uD _ I rfl);have b2:=b2.later (γ hV k1);have b2:=b2.mod FI (λ I=>AJ _ I rfl);have gl:=gl.later Gm;have gl:=gl.mod mr (λ q I h=>by have Φ:=aRz.1 h;exfalso;(exact aqO q I Φ));have gl:=gl.later (γ hV k1);have gl:=gl.mod FI (λ q I h=>by exfalso;(exact EG q h I));have yL:=yL.later (γ hV k1);have yL:=yL.mod FI (λ q I h=>by exfalso;(have:=Ms q I;(have:=zS q h;omega)));exact c6 _ _ ⟨k+1,Ei++ [(sq (ox kG hy))],am8,aqd,a59,ox kG hy,Z,Z,B0,ag,abU,b2,(yL.down (by omega)),by omega,auS,by rw [BC s7,akx,HH];rfl,by rw [Qc,BC s7,akz,HH],(λ q I Φ=>by exfalso;(have:=Ms q I;omega)),(λ q I Φ=>by exfalso;(have:=Ms q I;omega)),(λ q I Φ=>by (exact aRO (VL q I) (λ LY=>by (exact uD q LY Φ)) (λ LY=>by omega))),(λ q I Φ=>by (exact aRO (VL q I) (λ LZ=>by (exact AJ q LZ Φ)) (λ LZ=>by omega))),(λ q I Φ=>by (exact aRO (VL q I) (λ C9=>by (have:=Ms q Φ;(have:=zS q C9;omega))) (λ C9=>by (have:=F5 q Φ;omega))))⟩ (by omega) (.cons Z (.cons Z (.cons Z (.cons Z (.cons Z (.cons (bZ Z (by first | omega | rfl | (simp<;>omega))) .nil))))))
   ·have k8:k=L.length:=by rw [← kK.1];omega
    refine dH<|dG<|ef<|dF<|aV<|aj<|J (ao Z (b2.all du cf))<|vm Z<|st Z Z ag Z cf Z Z Z λ aQv Rg ag=> ?_;have:=Rg.size;have aFD:=Ext.mod lN Rg bu;refine va Z<|va Z<|ai<|rt<|bb (.cell Z (ag.all du cf) (.tmp Z (.tmp Z .nil)))<| ?_;have c7:=c7.mod Rg (λ q I h=>by have Φ:=aRz.1 h;exfalso;(exact uD q I Φ));have gl:=gl.mod Rg (λ q I h=>by have Φ:=aRz.1 h;exfalso;(exact aqP q I Φ));rw [k8,aSi] at lV HH Qc;exact ⟨0,oO,kG,cW,hM,Ei,Z, .inl ⟨Z,au0,mO,lV,HH,Qc⟩,gl.down (by omega),c7,λ q I hf=>by exfalso;(exact EG q I hf),aFD⟩
end
section
inductive Cg where
 | last (i:Nat) (bO:List Nat)
 | two (i:Nat) (bO:List Nat) (t1 t2:Cg)
def Cg.hd:Cg→Nat
 | .last i _=>i
 | .two i _ _ _=>i
section
variable {P:Program} {n:Nat} {E:List (Nat×Value)} {w:World} {Q:Exit→Act→World→Prop} {ops:Array Oper} {aS:Nat→Nat}
def SL (P:Program) (ops:Array Oper) (Q:Exit→Act→World→Prop) (aS:Nat→Nat):Cg→Act→World→Prop
 | .last i bO=>vh P ops (gF (Q .normal)) aS (i::bO)
 | .two i bO t1 t2=>vh P ops (gF (λ a w=>SL P ops Q aS t1 a w∧SL P ops Q aS t2 a w)) aS (i::bO)
def alo (ops:Array Oper) (aS:Nat→Nat):Cg→Array Bool→Nat→Bool
 | .last i bO,l,m=>Nat.blt 1 (aS i) && h' ops aS bO (l.setIfInBounds i true) && Nat.beq (bO.length+1) m
 | .two i bO t1 t2,l,m=>Nat.blt 1 (aS i) && EM ops aS bO (l.setIfInBounds i true) && (Region.ready .any ops (zH bO (l.setIfInBounds i true))== [t1.hd,t2.hd]) && Nat.ble (bO.length+2) m && alo ops aS t1 (zH bO (l.setIfInBounds i true)) (m - 1 - bO.length) && alo ops aS t2 (zH bO (l.setIfInBounds i true)) (m - 1 - bO.length)
def aGB (P:Program) (ops:Array Oper) (Q:Exit→Act→World→Prop) (aS:Nat→Nat) (t1 t2:Cg):Exit→Act→World→Prop:=gF (λ a w=>SL P ops Q aS t1 a w∧SL P ops Q aS t2 a w)
end
end
section
def lq (D:Nat) (w w':World):Prop:=w.heap.size≤w'.heap.size∧(D≤w.heap.size→Below D w w')
theorem lq.bF (D:Nat) (w:World):lq D w w:=⟨aRN _,λ _=>aR8 _ w⟩
theorem lq.tH {D:Nat} {a b c:World} (h:lq D a b) (k:lq D b c):lq D a c:=⟨aR5 h.1 k.1,λ hd=>aWu (h.2 hd) (k.2 (aR5 hd h.1))⟩
theorem lq.of {D:Nat} {a b:World} (h:Ext a b):lq D a b:=⟨h.size,λ hd=>aUX h hd⟩
theorem lq.at {a b:World} (h:lq a.heap.size a b):Ext a b:=h.2 (aRN _)
theorem lq.md {D:Nat} {a b c:World} {S:List Nat} (h:Ext a b) (m:Mod S b c) (hS:∀ q∈S,D≤q):lq D a c :=
  ⟨aR5 h.size m.size,λ hd=>aWu (aUX h hd) (m.below hS (aR5 hd h.size))⟩
section
variable {D:Nat} {P:Program} {ops:Array Oper} {Q:Exit→Act→World→Prop} {aS:Nat→Nat}
def vF (D:Nat) (P:Program) (ops:Array Oper) (w0:World) (o:Oper) (v:Value) (a:Act):Prop :=
  (Region.wanted o (yielded ops a.tmps)=true∧∀ w,lq D w0 w→wF P w v ((execOp a.eval o).run P w))∨
  (Region.wanted o (yielded ops a.tmps)=false∧v=undef)
theorem vF.of_same {w0:World} {o:Oper} {v:Value} {a a':Act} (h:vF D P ops w0 o v a) (he:execOp a'.eval o=execOp a.eval o) (hw:Region.wanted o (yielded ops a'.tmps)=Region.wanted o (yielded ops a.tmps)):vF D P ops w0 o v a':=by
  unfold vF at *;rw [he,hw];exact h
theorem vF.on {w0 aP:World} {o:Oper} {v:Value} {a:Act} (h:vF D P ops w0 o v a) (hx:lq D w0 aP):vF D P ops aP o v a :=
  h.imp (λ ⟨τ,aa⟩=>⟨τ,λ w hw=>aa w (hx.tH hw)⟩) id
theorem Yields.aCb {w0:World} {o:Oper} {v:Value} {a:Act} (h:Yields P ops o v a):vF D P ops w0 o v a :=
  h.imp (λ ⟨τ,aa⟩=>⟨τ,λ w _=>by rw [aa w];exact ⟨rfl,rfl⟩⟩) id
def aDp (D:Nat) (P:Program) (ops:Array Oper) (Q:Exit→Act→World→Prop) (aS:Nat→Nat) (i:Nat) (K:Act→World→Prop) (a:Act) (w0:World):Prop :=
  ∃ o,ops[i]? =some o∧
    ((aS i≤1∧∃ v,vF D P ops w0 o v a∧K (a.put o.dst v) w0)∨
     (1<aS i∧∀ w,Ext w0 w→wpOp P ops Q i (λ a' w'=>(aS i=2→lq D w0 w')∧K a' w') a w))
def Kc (D:Nat) (P:Program) (ops:Array Oper) (Q:Exit→Act→World→Prop) (aS:Nat→Nat):Nat→Array Bool→Act→World→Prop
  | 0,l,a,w0=>Region.ready .any ops l= []∧∀ w,Ext w0 w→Q .normal a w
  | f+1,l,a,w0=>(Region.ready .any ops l= []→∀ w,Ext w0 w→Q .normal a w)∧∀ i∈Region.ready .any ops l,aDp D P ops Q aS i (Kc D P ops Q aS f (l.setIfInBounds i true)) a w0
theorem G1:∀ (f:Nat) (l:Array Bool) (a:Act) (w0:World),Kc D P ops Q aS f l a w0→∀ w,Ext w0 w→wpAny P .any ops Q f l a w
  | 0,_,_,_,h,w,hw=>⟨h.1,h.2 w hw⟩
  | f+1,l,a,w0,h,w,hw=>⟨λ aH=>h.1 aH w hw,λ i aq=>by
      obtain ⟨o,bS,aa⟩:=h.2 i aq;rcases aa with ⟨_,v,I,ar⟩ | ⟨_,aa⟩
      · unfold wpOp
        simp only [bS];rcases I with ⟨lB,I⟩ | ⟨lB,rfl⟩
        · rw [aRP lB]
          refine .inl ?_;have I:=I w (lq.of hw);unfold Oper.wp;generalize (execOp a.eval o).run P w=r at *
          cases r with
          | ok n w' =>
            cases n<;>simp only [wF] at I<;>simp only [Oper.upon]
            case value u=>obtain ⟨rfl,rfl⟩:=I;exact G1 f _ _ _ ar _ hw
            case skip=>obtain ⟨rfl,rfl⟩:=I;exact G1 f _ _ _ ar _ hw
            case enter f' args=>obtain ⟨rfl,hc⟩:=I;exact hc.mono λ e ku ⟨he,hx⟩=>by subst he;exact G1 f _ _ _ ar _ (hw.tH hx)
          | halt x w'=>simp only [wF] at I
        · rw [aRL (by rw [lB];decide)]
          exact G1 f _ _ _ ar _ hw
      · exact aTt (λ a' w' aw=>G1 f _ _ _ aw.2 _ (Ext.bF w')) (aa w hw)⟩
theorem aeG {i:Nat} {cJ:Oper} {v:Value} (aq:ops[i]? =some cJ) (ar:aS i≤1) (kN:∀ (j:Nat) (o:Oper) cs b,ops[j]? =some o→o.op≠ .select cs b)
    (gy:∀ c a w,¬ Q (.panic c) a w) (aC:World→Act→Prop) (ln:∀ w0 a,aC w0 a→vF D P ops w0 cJ v a)
    (z2:∀ w0 a a',aC w0 a→execOp a'.eval cJ=execOp a.eval cJ→Region.wanted cJ (yielded ops a'.tmps)=Region.wanted cJ (yielded ops a.tmps)→aC w0 a')
    (z3:∀ w0 aP a,lq D w0 aP→aC w0 a→aC aP a) (R:Nat→Bool) (sg:Array Bool)
    (hR:∀ j cR,ops[j]? =some cR→j≠i→(∀ e∈cR.after,Region.binds .any e=true→R e.on=true)→R j=true)
    (aX:(∀ w0 aP a,aC w0 a→aC aP a)∨∀ j,R j=true→3≤aS j→sg.getD j true=true):
    ∀ (f:Nat) (l:Array Bool) (a:Act) (w0:World),(∀ j,l.getD j false=true→R j=true)→(∀ j,sg.getD j true=true→l.getD j true=true)→
      (∀ j cR,ops[j]? =some cR→j≠i→l.getD j true=false→(∀ e∈cR.after,Region.binds .any e=true→e.on≠i)→cJ.apart ops cR=true)→
      i∈Region.ready .any ops l→aC w0 a→Kc D P ops Q aS f (l.setIfInBounds i true) (a.put cJ.dst v) w0→Kc D P ops Q aS (f+1) l a w0:=by
  intro f;induction f with
  | zero =>
    intro l a w0 _ _ _ hr bs H;refine ⟨λ h=>(by rw [h] at hr;cases hr),λ j ay=> ?_⟩;by_cases fM:j=i
    · subst fM;exact ⟨cJ,aq, .inl ⟨ar,v,ln _ _ bs,H⟩⟩
    · have:=aTw ay fM
      rw [H.1] at this;cases this
  | succ f bD =>
    intro l a w0 xL r_ xI hr bs H;refine ⟨λ h=>(by rw [h] at hr;cases hr),λ j ay=> ?_⟩;by_cases fM:j=i
    · subst fM;exact ⟨cJ,aq, .inl ⟨ar,v,ln _ _ bs,H⟩⟩
    · obtain ⟨cR,ic,τ⟩:=H.2 j (aTw ay fM)
      obtain ⟨r7,eE,xN,de⟩:=aUq.1 ay;obtain rfl:eE=cR:=by rw [ic] at xN;exact (aRA xN).symm
      have Ff:∀ e∈eE.after,Region.binds .any e=true→e.on≠i:=λ e he Φ heq=>by
        have τ:=de e he Φ;have aH:=(aUq.1 hr).1;rw [heq] at τ;rcases aSA i l.size with cI | cI
        · simp [cI] at aH τ;rw [aH] at τ;cases τ
        · simp [aSv cI] at τ
      have E0:=xI j eE ic fM r7 Ff;obtain ⟨cd,a2,a3⟩:=aUZ E0;have Fi:∀ cs b,cJ.op≠ .select cs b:=λ cs b=>kN i cJ cs b aq;have th:∀ cs b,eE.op≠ .select cs b:=λ cs b=>kN j eE cs b ic;have keep:∀ aP a u,aC aP a→aC aP (a.put eE.dst u):=λ aP a u bs=>z2 _ _ _ bs (aTU cJ Fi a eE.dst u a3) (aT9 cJ a eE.dst u a3);have xD:R j=true:=hR j eE ic fM λ e he Φ=>xL _ (de e he Φ);have xM:∀ k,(l.setIfInBounds j true).getD k false=true→R k=true:=λ k ar=>by
        by_cases fD:j=k
        · rw [← fD];exact xD
        · rw [aTj false fD] at ar;exact xL k ar
      have xK:∀ k,sg.getD k true=true→(l.setIfInBounds j true).getD k true=true:=λ k ar=>by
        by_cases fD:j=k
        · subst fD
          rcases aSA j l.size with cI | cI
          · simp [cI]
          · simp [aSv cI]
        · rw [aTj true fD];exact r_ k ar
      have xJ:∀ k ok,ops[k]? =some ok→k≠i→(l.setIfInBounds j true).getD k true=false→
          (∀ e∈ok.after,Region.binds .any e=true→e.on≠i)→cJ.apart ops ok=true:=λ k ok ar ob xS jc=>by
        refine xI k ok ar ob ?_ jc;by_cases fD:j=k
        · subst fD;exact r7
        · rw [aTj true fD] at xS;exact xS
      have xQ:=aTw hr (aUi fM);rcases τ with ⟨r9,u,I,hK⟩ | ⟨r9,τ⟩
      · refine ⟨eE,ic, .inl ⟨r9,u,I.of_same (aTU eE th a cJ.dst v cd).symm (aT9 eE a cJ.dst v cd).symm, ?_⟩⟩
        refine bD _ _ _ xM xK xJ xQ (keep _ _ _ bs) ?_;rw [aSQ _ _ fM,← aTv a v u a2];exact hK
      · refine ⟨eE,ic, .inr ⟨r9,λ w hw=> ?_⟩⟩
        refine aTt (λ a' w' aw=>⟨aw.2.1, ?_⟩) (SK (aC:=aC w0) ic cd a2 th gy (keep w0) (λ a d bs=>z2 _ _ _ bs Z Z) bs (τ w hw));have Fl:aC w' a':=by
          rcases aSA (aS j) 3 with bw | r4
          · exact z3 _ _ _ (aw.2.1 (by omega)) aw.1
          · rcases aX with aX | aX
            · exact aX _ _ _ aw.1
            · have:=r_ j (aX j xD r4);rw [r7] at this;cases this
        refine bD _ _ _ xM xK xJ xQ Fl ?_;rw [aSQ _ _ fM];exact aw.2.2
def DJ (D:Nat) (P:Program) (ops:Array Oper) (Q:Exit→Act→World→Prop) (aS:Nat→Nat):List Nat→Act→World→Prop
  | [],a,w0=>∀ w,Ext w0 w→Q .normal a w
  | i::r,a,w0=>∃ o,ops[i]? =some o∧
      ((aS i=0∧∃ v,vF D P ops w0 o v a∧DJ D P ops Q aS r (a.put o.dst v) w0)∨
       (aS i=1∧∃ v,Yields P ops o v a∧DJ D P ops Q aS r (a.put o.dst v) w0)∨
       (1<aS i∧∀ w,Ext w0 w→wpOp P ops Q i (λ a' w'=>(aS i=2→lq D w0 w')∧DJ D P ops Q aS r a' w') a w))
theorem OQ (hs:Region.noSelect ops=true) (gy:∀ c a w,¬ Q (.panic c) a w):∀ (r:List Nat) (l:Array Bool) (a:Act) (w0:World),l.size=ops.size→h' ops aS r l=true→DJ D P ops Q aS r a w0→Kc D P ops Q aS r.length l a w0
  | [],l,a,w0,_,aX,h=>⟨by simpa [h'] using aX,h⟩
  | i::r,l,a,w0,az,aX,h=>by
    obtain ⟨o,bS,h⟩:=h;have kN:=aTV hs;rcases h with ⟨ar,v,I,hK⟩ | ⟨ar,v,I,hK⟩ | ⟨ar,h⟩
    · simp only [h',ar,aRI] at aX
      obtain ⟨⟨⟨hf,hr⟩,Φ⟩,aX⟩:=aX;obtain ⟨R,r1,r2,u0⟩:=Ki az Φ;exact aeG bS (by omega) kN gy (λ w0 a=>vF D P ops w0 o v a) (λ _ _ h=>h) (λ _ _ _ h he hw=>h.of_same he hw) (λ _ _ _ hx h=>h.on hx) R l r1 (.inr u0) _ _ _ _ r2 (λ _ h=>h) (aS4 bS hf) (by simpa using hr) I
        (OQ hs gy r _ _ _ (by simpa using az) aX hK)
    · simp only [h',ar,aRI] at aX
      obtain ⟨⟨hf,hr⟩,aX⟩:=aX;exact aeG bS (by omega) kN gy (λ _ a=>Yields P ops o v a) (λ _ _ h=>Yields.aCb h) (λ _ _ _ h he hw=>h.of_same he hw) (λ _ _ _ _ h=>h) (λ _=>true) l (λ _ _ _ _ _=>Z) (.inl λ _ _ _ h=>h) _ _ _ _ (λ _ _=>Z) (λ _ h=>h) (aS4 bS hf) (by simpa using hr) I
        (OQ hs gy r _ _ _ (by simpa using az) aX hK)
    · obtain ⟨k,gS⟩:∃ k,aS i=k+2:=⟨aS i - 2,by omega⟩
      simp only [h',gS,aRI,aSC] at aX;obtain ⟨hr,aX⟩:=aX;refine ⟨λ aH=>(by rw [hr] at aH;cases aH),λ j ay=> ?_⟩;rw [hr] at ay;obtain rfl:j=i:=by simpa using ay
      exact ⟨o,bS, .inr ⟨ar,λ w hw=>aTt (λ a' w' aw=>⟨aw.1,OQ hs gy r _ _ _ (by simpa using az) aX aw.2⟩) (h w hw)⟩⟩
theorem aCo {id:Nat} {a:Act} {w:World} (bO:List Nat) (hm:P.follows .mixedOrders=true) (aX:(Region.noSelect ops && (bO.length == ops.size) && h' ops aS bO (Array.replicate ops.size false))=true)
    (h:DJ D P ops (gF (Q .normal)) aS bO a w):(Code.region id ops true).wp P Q a w:=by
  simp only [aRI,aSC] at aX;obtain ⟨⟨hs,az⟩,aX⟩:=aX;refine aWk (aUC hm (Q:=gF (Q .normal)) ?_) (λ e a w I=>by cases e<;>first | exact I | exact I.elim);have:=OQ (P:=P) hs (Q:=gF (Q .normal)) (λ _ _ _ h=>h) bO (Array.replicate ops.size false) a w (by simp) aX h;rw [az] at this;exact G1 _ _ _ _ this _ (aR8 _ w).drew
end
section
variable {D:Nat} {P:Program} {n:Nat} {E cP:List (Nat×Value)} {a:Act} {w w' w0 aP:World} {Q:Exit→Act→World→Prop} {ops:Array Oper} {v:Value} {aS:Nat→Nat}
variable {d:Option Nat} {ty:TypeId} {pos:String} {af:Array Edge} {g:Option (Nat×Bool)} {x y z:Operand} {t:TypeId} {rest:List Oper} {bO:List Nat} {i:Nat}
def B8 (D:Nat) (P:Program) (n:Nat) (ops:Array Oper) (Q:Exit→Act→World→Prop) (aS:Nat→Nat) (bO:List Nat) (E:List (Nat×Value)) (w0:World):Prop:=∀ a,er n E a→DJ D P ops (gF (Q .normal)) aS bO a w0
theorem aCk {id:Nat} (lC:List (Nat×Nat)) (bO:List Nat) (hm:P.follows .mixedOrders=true) (aX:(Region.noSelect ops && (bO.length == ops.size) && h' ops (nD lC) bO (Array.replicate ops.size false))=true)
    (h:B8 w.heap.size P n ops Q (nD lC) bO E w):W P n (.region id ops true) Q E w:=λ a ha=>aCo bO hm aX (h a ha)
theorem at3 (h:∀ w,Ext w0 w→N n Q E w):B8 D P n ops Q aS [] E w0:=λ a ha w hw=>h w hw a ha
theorem auf {d:Nat} {op:Op} (aq:ops[i]? =some ⟨some d,op,ty,pos,af,none⟩) (ar:aS i=0) (hr:∀ w,lq D w0 w→cS P E ⟨some d,op,ty,pos,af,none⟩ w v w) (hd:Nat.blt d n=true)
    (h:B8 D P n ops Q aS bO ((d,v)::E) w0):B8 D P n ops Q aS (i::bO) E w0:=λ a ha =>
  ⟨_,aq, .inl ⟨ar,v, .inl ⟨ym rfl,λ w hw=>by rw [hr w hw n a ha];exact ⟨rfl,rfl⟩⟩,h _ (ha.put hd v)⟩⟩
theorem ER {d:Nat} {op:Op} (aq:ops[i]? =some ⟨some d,op,ty,pos,af,none⟩) (ar:aS i=1) (hr:∀ w,cS P E ⟨some d,op,ty,pos,af,none⟩ w v w) (hd:Nat.blt d n=true)
    (h:B8 D P n ops Q aS bO ((d,v)::E) w0):B8 D P n ops Q aS (i::bO) E w0:=λ a ha =>
  ⟨_,aq, .inr (.inl ⟨ar,v, .inl ⟨ym rfl,λ w=>hr w n a ha⟩,h _ (ha.put hd v)⟩)⟩
theorem VA {o:Oper} (aK:o.guard=none) (aq:ops[i]? =some o) (ar:aS i=2) (h:∀ w,Ext w0 w→Cp P n ops o E w λ cP w'=>lq D w0 w'∧B8 D P n ops Q aS bO cP w'):B8 D P n ops Q aS (i::bO) E w0:=λ a ha =>
  ⟨_,aq, .inr (.inr ⟨by omega,λ w hw=>F1 aK aq (h w hw) (λ cP w' a' ar pW=>⟨λ _=>ar.1,ar.2 a' pW⟩) ha⟩)⟩
end
end
section
section
variable {D:Nat} {P:Program} {n:Nat} {E:List (Nat×Value)} {w:World} {Q:Exit→Act→World→Prop} {ops:Array Oper} {aS:Nat→Nat}
def SM (D:Nat) (P:Program) (ops:Array Oper) (Q:Exit→Act→World→Prop) (aS:Nat→Nat):Cg→Act→World→Prop
 | .last i bO=>DJ D P ops (gF (Q .normal)) aS (i::bO)
 | .two i bO t1 t2=>DJ D P ops (gF (λ a w=>SM D P ops Q aS t1 a w∧SM D P ops Q aS t2 a w)) aS (i::bO)
def aGC (D:Nat) (P:Program) (ops:Array Oper) (Q:Exit→Act→World→Prop) (aS:Nat→Nat) (t1 t2:Cg):Exit→Act→World→Prop:=gF (λ a w=>SM D P ops Q aS t1 a w∧SM D P ops Q aS t2 a w)
end
end
end Go.Proofs.YtlikikpgmmkjbaaGreat
