import Derived.Test.YtmeeljmapailnaaGreatPackS
set_option linter.unusedVariables false
set_option linter.unusedSimpArgs false
set_option maxRecDepth 100000
set_option maxHeartbeats 4000000
open Go.RowKit
namespace Go.Proofs.YtmeeljmapailnaaGreat
open Tryz
abbrev bcy:=@Nat.mod_two_eq_zero_or_one
abbrev bcJ:=@List.take_append_getElem
abbrev bc5:=@List.length_finRange
abbrev bdh:=@Nat.and_one_is_mod
end Go.Proofs.YtmeeljmapailnaaGreat
namespace Go.Proofs.YtmeeljmapailnaaGreat.Pack
open Tryz
open Go.RowKit Go.Proofs.YtmeeljmapailnaaGreat Go.Proofs.YtmeeljmapailnaaGreat.fL

theorem R8 (op:BinOp) (a b:Int): -9223372036854775808≤bits op .i64 a b∧bits op .i64 a b≤9223372036854775807:=by
 have h:bits op .i64 a b=IntKind.i64.wrap (bits op .i64 a b):=by
  unfold bits;rw [bbz,bbz];omega
 rw [h,bbz];omega
theorem aiz {x y:Int} (aG: -9223372036854775808≤x) (κ:x≤9223372036854775807) (g0: -9223372036854775808≤y) (g1:y≤9223372036854775807) (h:BitVec.ofInt 64 x=BitVec.ofInt 64 y):x=y:=by
 have e:=aZb BitVec.toInt h;rw [bbZ,bbZ] at e;simp only [Int.bmod] at e;omega
theorem aMg (x:Int) (aG: -9223372036854775808≤x) (κ:x≤9223372036854775807):bits .xor .i64 x 0=x:=by
 refine aiz (R8 _ _ _).1 (R8 _ _ _).2 aG κ ?_;rw [anL];simp
theorem aMd (x:Int) (aG: -9223372036854775808≤x) (κ:x≤9223372036854775807):bits .xor .i64 x (-1)= -x - 1:=by
 refine aiz (R8 _ _ _).1 (R8 _ _ _).2 (by omega) (by omega) ?_;rw [anL];have aW:BitVec.ofInt 64 (-1)=BitVec.allOnes 64:=by decide
 rw [aW,bdk];have bb:(-x - 1:Int)= -x+ -1:=by omega
 rw [bb,BitVec.ofInt_add,BitVec.ofInt_neg,aW];rw [BitVec.not_eq_neg_add,BitVec.sub_eq_add_neg,show -1#64=BitVec.allOnes 64 from by decide]
theorem aKQ (n:Nat) (hn:n<18446744073709551616) (w:World):
  Calls prog 121 #[.int .u64 (n:Int)] w fun e w'=>e= .returned (.int .i64 (yd n))∧w=w':=by
 have τ:n / 2<9223372036854775808:=by omega
 have fg:=aMg ((n / 2:Nat):Int) (by omega) (by omega);have iG:=aMd ((n / 2:Nat):Int) (by omega) (by omega);have hd:(n:Int) / 2=((n / 2:Nat):Int):=by omega
 have ha:bits .and .u64 (n:Int) 1=((n % 2:Nat):Int):=by
  have h:=(bct .u64 64 (by decide) aqp n 1 (by omega) (by decide)).1;rw [bdh] at h;exact h
 unfold yd;obtain ⟨m,mi⟩:∃ m,Hid (n / 2=m):=⟨_,aYe rfl⟩;rw [mi.out] at τ fg iG hd ⊢;rcases bcy n with h | h
 ·rw [h] at ha ⊢;rw [aYq rfl];have ha:bits .and .u64 (n:Int) 1=0:=ha;clear h;go_enter func121,ntmps121;go_wp2_with fail
  go_ret;exact ⟨Z,Z⟩
 ·rw [h] at ha ⊢;rw [aYi (by decide)];have ha:bits .and .u64 (n:Int) 1=1:=ha;clear h;go_enter func121,ntmps121;go_wp2_with fail
  go_ret;exact ⟨Z,Z⟩
theorem Yb {T e:TypeId} {B b:Nat} {p:Value} {c7:List Value} {w w':World} (h:Lib.BuilderAt T e B b p c7 w) (ag:Below w.heap.size w w'):Lib.BuilderAt T e B b p c7 w':=by
 have bF:=h.lt;obtain ⟨bg,v,KM,fz,fZ⟩:=h;exact ⟨bg,v,by rw [ag.block b bF];exact KM,aHm fz ag,fZ⟩
theorem aH9 (A:Option Addr) (n c:Nat) (hn:1000<n) (w:World):
  Calls prog 123 #[.slice A n c] w fun e w'=>e= .returned (.tuple #[.string ⟨#[]⟩, .int .i64 2])∧w=w':=by
 have FB:(1000:Int)<(n:Int):=by omega
 go_enter func123,ntmps123;go_wp2_with fail
 go_ret2
 exact ⟨Z,Z⟩
theorem aod (A:Option Addr) (n c:Nat) (l:List Int) (ah:l.length=n) (hn:n≤1000) (Tn:uB l) (w:World) (hr:Rd w 1 A n (xf l)):
  Calls prog 123 #[.slice A n c] w fun e w'=>e= .returned (.tuple #[.string (strOf (sy l)), .int .i64 0])∧Below w.heap.size w w':=by
 have bg:Lib.IsBuilder 267 5 w.heap.size w.heap.size [] (w.alloc (.cells #[.pointer none, .slice none 0 0] 267)):=
  .inl ⟨aYg _, .slice none 0 0,bbe w _,World.ownsRow_nil _ _ _ _,by simp [Value.ownBlock]⟩
 have cV:Below w.heap.size w (w.alloc (.cells #[.pointer none, .slice none 0 0] 267)):=(aYG _ _).alloc (aYg _) _;have hw:IntKind.u64.wrap (n:Int)=(n:Int):=by rw [aZt];omega
 have rX:=aYe ah;clear ah;go_enter func123,ntmps123;go_wp2_with fail
 refine (U_ n (by omega) _ Z _).mono ?_;rintro e w1 ⟨rfl,dc⟩;have ajh:Lib.IsBuilder 267 5 w.heap.size w.heap.size [] w1:=by
  rcases bg with h | h
  ·exact .inl (Yb h dc)
  ·exact .inr (Yb h dc)
 have bI:=cV.trans (dc.mono cV.size);clear bg dc;have pg:=DA n;go_wp2_with fail
 refine (aqq w.heap.size w.heap.size [] (strOf (eN n)) w1 ajh (by rw [LM];simp;omega) bI.size).mono ?_;rintro e cx ⟨rfl,Fa,er⟩;have eg:=bI.trans er;rw [aZy,Lib.strCells_eq,zO] at Fa;clear ajh bI er;go_wp2_with fail
 go_loopw [17] (fun i wr=>∃ k:Nat,k≤n∧i= .int .i64 (k:Int)∧Lib.BuilderAt 267 5 w.heap.size w.heap.size (.pointer (some ⟨w.heap.size,0,none⟩)) (Lib.byteCells (eN n++items (l.take k))) wr∧Below w.heap.size w wr) (fun i _=>n - (intOf i).toNat)
 case atStart=>exact ⟨0,aYX _,rfl,by simpa [items] using Fa,eg⟩
 case round =>
  clear Fa eg;obtain ⟨k,ak,rfl,bg,ag⟩:=hrel;by_cases bF:k<n
  ·obtain ⟨b,o,rfl,hc⟩:=hr.2 (by omega);have j0:k<l.length:=by rw [rX.out];exact bF
   have hx:=av7 ag (hc k _ (agK l k j0)) (baj w _ (hc k _ (agK l k j0)));have Ub:=Tn l[k] (aZs j0);have re:items (l.take (k+1))=items (l.take k)++eN (qb l[k]):=by rw [aYH j0,aly]
   have sT:=aYe re;generalize l[k]=x at *
   have se:=Ta x Ub.1 Ub.2;have aB3:=azR x Ub.1 Ub.2;have aSu:=DA (qb x);have A':=abB (l.take k);have abp:(l.take k).length≤k:=bde _ _;clear re;generalize qb x=y at *
   go_wp2_with fail
   refine (aB3 _).mono ?_;rintro e w' ⟨rfl,rfl⟩;go_wp2_with fail
   refine (U_ y se _ Z _).mono ?_;rintro e sC ⟨rfl,pd⟩;have CU:=Yb bg pd;have KJ:=ag.trans (pd.mono ag.size);go_wp2_with fail
   refine (aqq w.heap.size w.heap.size _ (strOf (eN y)) sC (.inr CU) (by rw [LM,Lib.byteCells_length];simp;omega) KJ.size).mono ?_;rintro e VT ⟨rfl,ajj,H5⟩;have KK:=KJ.trans H5;rw [Lib.strCells_eq,zO,← Lib.byteCells_append,aYK,← sT.out] at ajj;clear bg CU ag pd KJ H5;go_wp2_with fail
   go_roundw
   case rel=>exact ⟨k+1,by omega,by go_num,ajj,KK⟩
   case measure=>simp [intOf];omega
  ·obtain rfl:k=n:=by omega
   rw [aYp (by rw [rX.out];exact aYg _)] at bg;go_wp2_with fail
   refine (Builder_String_any w.heap.size w.heap.size (eN k++items l) wr (.inr bg) ag.size).mono ?_;rintro e adZ ⟨rfl,TE⟩;go_wp2_with fail
   go_ret2
   refine ⟨?_,ag.trans TE⟩;unfold sy strOf;rw [rX.out];rfl
def arT (s:ByteArray) (w:World) (e:Ending) (w':World):Prop :=
 ∃ (out:List Int) (k:Int) (A:Option Addr) (n c:Nat),B2 s.data.toList out k∧e= .returned (.tuple #[.slice A n c, .int .i64 k])∧Own w' w.heap.size 3 1 Q7 (.slice A n c) out.length (xf out)∧Below w.heap.size w w'
theorem aAf (s:ByteArray) (hs:s.size≤9223372036854775807) (w:World):Calls prog 84 #[.string s] w (arT s w):=by
 obtain ⟨i0,hi,pj,nL,qe⟩:=baD aEl;go_enter func84,ntmps84;go_wp2_with fail
 refine (ai6 s hs w).mono ?_;rintro e w1 ⟨n,rest,k,bP,rfl,dc⟩;have mh:=aYe bP;by_cases ak:k=0
 ·subst ak;obtain ⟨T6,TX⟩:=ai7 bP;have gL:=aYe T6;have fr:=aYe TX;have kF:rest.length≤s.size:=by
   have h:=aZb List.length T6;simp at h;have e:s.data.size=s.size:=rfl;omega
  clear T6 bP TX;by_cases hn:1000<n
  ·have FB:(1000:Int)<(n:Int):=by omega
   go_wp2_with fail
   go_ret2
   exact ⟨[],2,none,0,0,agm mh.out (.inr hn) (by decide),Z,Own.nil _ _ _ _ _,dc⟩
  ·have FB:¬ (1000:Int)<(n:Int):=by omega
   go_wp2_with fail
   go_loopw [0,5,6,24] (fun S E v i wr=>∃ (j:Nat) (out:List Int) (r:List UInt8),j≤n∧i= .int .u64 (j:Int)∧S= .string (strOf r)∧E= .int .i64 0∧out.length=j∧Own wr w.heap.size 3 1 Q7 v j (xf out)∧Below w.heap.size w wr∧
     Hid (s.data.toList=eN n++(items out++r))∧Hid (uB out)∧r.length≤s.size) (fun _ _ _ i _=>n - (intOf i).toNat)
   case atStart=>exact ⟨0, [],rest,aYX _,rfl,rfl,rfl,rfl,Own.nil _ _ _ _ _,dc,gL,(fun x hx=>by cases hx),kF⟩
   case round =>
    clear dc gL kF;obtain ⟨j,out,r,ay,rfl,rfl,rfl,akQ,fz,ag,gL,nB,aSA⟩:=hrel;have bq:=aYe akQ;clear akQ;by_cases bF:j<n
    ·go_wp2_with fail
     refine (ai6 (strOf r) (by rw [LM];omega) wr).mono ?_;rintro e cx ⟨m,r2,dN,Ob,rfl,bI⟩;rw [zO] at Ob;have er:=ag.trans (bI.mono ag.size);by_cases gC:dN=0
     ·subst gC;obtain ⟨abd,TR⟩:=ai7 Ob;have aDG:=aKQ m TR;have A_:=aKP m TR;have ake:=azU m;have Cc:Hid (s.data.toList=eN n++(items (out++ [yd m])++r2)):=by
       show _=_;rw [gL.out,abd,aly,ake,aYK]
      have ase:Hid (uB (out++ [yd m])):=by
       intro x hx;rcases aYo.1 hx with h | h
       ·exact nB.out x h
       ·simp at h;subst h;exact A_
      have aDr:r2.length≤s.size:=by
       have h:=aZb List.length abd;simp at h;omega
      have akT:=fz.later bI;have mi:=aYe TR;clear abd TR ake Ob A_ fz gL nB;generalize yd m=x at *
      have eg:=er.alloc er.size (.cells #[.int .i64 x] 3);have akU:=akT.later ((aYG cx.heap.size cx).alloc (aYg _) (.cells #[.int .i64 x] 3));have OZ:Rd (cx.alloc (.cells #[.int .i64 x] 3)) 1 (some ⟨cx.heap.size,0,none⟩) 1 [.int .i64 x] :=
       ⟨rfl,fun _=>⟨cx.heap.size,0,rfl,fun q u I=>by
        match q,I with
        | 0,I=>simp at I;subst I;simp⟩⟩
      have afv:=aYe akU;have asq:=aYe OZ;clear akT akU OZ;go_wp2_with fail
      refine (aDG _).mono ?_;rintro e w' ⟨rfl,rfl⟩;go_wp2_with (at_builtin;refine Jj _ rfl _ _ 22 rfl w.heap.size 3 i0 (.int .i64 0) 1 8 underlying22 hi pj nL qe rfl (by decide) Q7 ?g1 _ j (xf out) rfl afv.out (some ⟨cx.heap.size,0,none⟩) 1 1 [.int .i64 x] rfl asq.out ?g2 ?g3 ?g4 ?g5 ?g6 ?_)
      case g1=>intro q u I;match q,I with | 0,I=>exact ⟨0,(aYd I).symm⟩
      case g2=>intro u hu;simp at hu;subst hu;rfl
      case g3=>intro q u I;match q,I with | 0,I=>exact ⟨x,(aYd I).symm⟩
      case g4=>unfold maxLen;omega
      case g5=>omega
      case g6=>exact eg.size
      intro v' sC akV jE _ fX;have pd:=eg.grown jE eg.size (fun q I=>(afv.out.row.lt q I).1);rw [← av8] at akV;clear jE fX eg er bI;go_wp2_with fail
      go_roundw
      case rel=>exact ⟨j+1,out++ [x],r2,by omega,by go_num,rfl,rfl,by simp [bq.out],akV,pd,Cc,ase,aDr⟩
      case measure=>simp [intOf];omega
     ·have aaX:(dN != 0)=true:=by rw [bbU];exact gC
      have iQ:=aYe gC;have kB:=auP gL.out fr.out nB.out (by rw [bq.out];exact bF) Ob iQ.out;have aI:=aYe kB;clear gC Ob kB;go_wp2_with fail
      go_ret2
      exact ⟨[],dN,none,0,0,aI.out,Z,Own.nil _ _ _ _ _,er⟩
    ·obtain rfl:j=n:=by omega
     by_cases hr:r= []
     ·subst hr;have κ:(strOf []).toList= []:=by rw [bai,zO]
      have τ:(!(strOf []).toList.isEmpty)=false:=by rw [bai,zO];rfl
      obtain ⟨A,c,rfl,_⟩:=fz.shape;have jO:=aYe (aAr gL.out nB.out bq.out (by omega));clear gL;go_wp2_with fail
      go_ret2
      exact ⟨out,0,A,j,c,jO.out,Z,by rw [bq.out];exact fz,ag⟩
     ·have κ:¬ (strOf r).toList= []:=by rw [bai,zO];exact hr
      have τ:(!(strOf r).toList.isEmpty)=true:=by rw [bai,zO];simpa using hr
      have jO:=aYe (auO (k:=4) gL.out fr.out nB.out bq.out hr (by decide));clear gL hr;go_wp2_with fail
      go_ret2
      exact ⟨[],4,none,0,0,jO.out,Z,Own.nil _ _ _ _ _,ag⟩
 ·have aaX:(k != 0)=true:=by rw [bbU];exact ak
  have aCq:(k == 0)=false:=by rw [bag];exact ak
  have iQ:=aYe ak;clear ak bP;go_wp2_with fail
  go_ret2
  exact ⟨[],k,none,0,0,agm mh.out (.inl iQ.out) iQ.out,Z,Own.nil _ _ _ _ _,dc⟩
end Go.Proofs.YtmeeljmapailnaaGreat.Pack
namespace Go.Proofs.YtmeeljmapailnaaGreat
open Tryz
section
open Go.RowKit Go.Proofs.YtmeeljmapailnaaGreat.fL
def rC:J (BitVec 64):=J.flat 1 (λ b=> [.int .u64 (U b)]) (λ _=>True) (λ _ u=>∃ n:Int,u= .int .u64 n) (λ _=>rfl) (by intro a u hu;simp at hu;subst hu;rfl) (by
 intro a j u hu;cases j with
 | zero=>simp at hu;exact ⟨_,hu.symm⟩
 | succ j=>simp at hu)
theorem als:(prog.info? 130).map (λ i=>(i.zero,i.size,i.bytes))=some (some (.int .u64 0),1,8):=by kernel_rfl
theorem aor:∀ (j:Nat) u,(Value.int .u64 0).cells[j]? =some u→rC.raw j u:=by
 intro j u hu;have hu:(#[(.int .u64 0:Value)]:Array Value)[j]? =some u:=hu
 match j,hu with
 | 0,hu=>exact ⟨0,(aYd hu).symm⟩
 | j+1,hu=>simp at hu
theorem aJx {by_:Nat} {w:World} {A:Option Addr} {c:Nat} {l:List (BitVec 64)} (h:rC.aK by_ w A c l):Mark.Hj w A l.length l:=by
 refine ⟨Z,h.fa, ?_⟩;cases ah:l with
 | nil=>exact .inl rfl
 | cons x r =>
  rw [← ah];obtain ⟨b,o,e,hc⟩:=h.at_ (by rw [ah];simp);refine .inr ⟨b,o,e,λ i hi=> ?_⟩;obtain ⟨es,⟨rfl,_⟩,ay⟩:=hc i _ (aYb hi);have:=ay 0 _ rfl;simpa [rC,J.flat] using this
theorem aiL {w:World}:∀ {ess:List (List Value)} {l:List Int},dC (λ es a=>bu.has w es a) ess l→ess.flatten=l.map (Value.int .i64)
 | [], [],_=>rfl
 | es::ess,a::l,h=>by
  obtain ⟨κ,τ⟩:=h;rw [aZa,fY κ,aiL τ];rfl
 | [],_::_,h=>h.elim
 | _::_, [],h=>h.elim
def Ly (l:List Int):List UInt8:=if l.length≤1000 then Pack.sy l else []
def sm (l:List Int):BitVec 64:=Tree.FL (Ly l)
theorem aHr (l:List Int):(Ly l).length≤20000:=by
 unfold Ly;split
 ·rename_i h
  unfold Pack.sy;rw [aX9];have:=(Pack.DA l.length).1;have:=Pack.abB l;omega
 ·simp
theorem aHs (l:List Int) (A:Option Addr) (c:Nat) (w:World) (h:bu.aK 8 w A c l):Calls prog 123 #[.slice A l.length c] w λ e w'=>(∃ k,e= .returned (.tuple #[.string (Pack.strOf (Ly l)), .int .i64 k]))∧Ext w w':=by
 unfold Ly;by_cases hn:l.length≤1000
 ·rw [aYq hn];have hr:Rd w 1 A l.length (xf l):=by
   obtain ⟨s1,s2,F7,adh,ess,DB,zM⟩:=h;rw [aiL DB] at zM;exact zM
  exact (Pack.aod A l.length c l Z hn (λ x hx=>b8.1 (LH h x hx)) w hr).mono λ e w' h=>⟨⟨0,h.1⟩,h.2⟩
 ·rw [aYi hn];exact (Pack.aH9 A l.length c (by omega) w).mono λ e w' h=>⟨⟨2,h.1⟩,by rw [← h.2];exact Ext.cH w⟩
theorem aFp (s:List UInt8) (hs:s.length≤20000) (w:World):Calls prog 124 #[.string (Pack.strOf s)] w λ e w'=>e= .returned (.int .u64 (U (Tree.FL s)))∧Ext w w':=by
 refine (Tree.K' (Pack.strOf s) (by rw [Pack.LM];omega) w).mono ?_;rintro e w' ⟨rfl,q,rfl⟩;exact ⟨by rw [Pack.zO],below_drewN (aYG _ w) q⟩
theorem aG2 (l:List (BitVec 64)) (A:Option Addr) (c:Nat) (w:World) (h:rC.aK 8 w A c l):Calls prog 87 #[.slice A l.length c] w λ e w'=>e= .returned (.int .u64 (U (Mark.IN Mark.mix l)))∧Ext w w':=Mark.acy A l.length c l w (aJx h)
def US (W:ai):BitVec 64:=sm ([1,W.field.wide,W.field.high,W.next,W.now]++W.field.a_)
def UR (W:ai) (i:Nat):BitVec 64:=sm [2,(i:Int),(W.bf.getD i default).x,(W.bf.getD i default).y,W.bE.getD i 0]
def Du (W:ai):Nat→List (BitVec 64)
 | 0=> []
 | k+1=>Du W k++(if W.bX.getD k 0=0 then [] else [sm [3,(k:Int),W.bX.getD k 0]])
def PM (t:bj):BitVec 64:=sm [4,t.id,t.owner,t.kind,t.spot.x,t.spot.y,t.dW,t.load]
def Dt (W:ai) (k:Nat):List (BitVec 64):= [US W]++(List.range k).map (UR W)
def marks (W:ai):List (BitVec 64):=Dt W W.bf.length++Du W W.bX.length++W.ao.map PM
def tR (W:ai):BitVec 64:=if W.a7=0 then Mark.IN Mark.mix (marks W) else 0#64
theorem aGd (W:ai) (k:Nat):Dt W (k+1)=Dt W k++ [UR W k]:=by
 unfold Dt;rw [aZY,aYA,← aYK];rfl
theorem ack (W:ai):∀ k,(Du W k).length≤k
 | 0=>aYg 0
 | k+1=>by
  have:=ack W k;rw [Du,aX9];split<;>simp<;>omega
theorem acf (W:ai) (k:Nat):(Dt W k).length=k+1:=by unfold Dt;simp
theorem aGo {l:List bj} {k:Nat} {t:bj} (ak:k<l.length) (aH:l.getD k default=t):(l.take (k+1)).map PM=(l.take k).map PM++ [PM t]:=by
 rw [← aH,aX7,aYb ak,← bcJ ak,aYA];rfl
end
section
theorem abz:(prog.info? 48).map (λ i=>(i.zero,i.size,i.bytes))=some (some (.slice none 0 0),1,24):=by kernel_rfl
def oA (w:World) (T:List iC) (L:List (List aQ)):Prop:=T.length=L.length∧∀ (i:Nat) (v:iC),T[i]? =some v→∃ l:List aQ,L[i]? =some l∧v.n=l.length∧aQ.rep.aK 48 w v.a v.c l
section
variable {w w':World} {T k9:List iC} {L Ap:List (List aQ)} {W:ai} {l:List aQ} {k:Nat} {e:Int} {V:ai} {ms:List (BitVec 64)}
theorem oA.keep (h:oA w T L) (hx:Ext w w'):oA w' T L:=⟨h.1,λ i v hi=>by
 obtain ⟨l,κ,τ,au⟩:=h.2 i v hi;exact ⟨l,κ,τ,au.keep hx⟩⟩
theorem oA.nil:oA w [] []:=⟨rfl,λ i v h=>by simp at h⟩
theorem oA.at_ (h:oA w T L) (ak:k<T.length):∃ A c l,T[k]? =some ⟨A,l.length,c⟩∧L[k]? =some l∧aQ.rep.aK 48 w A c l:=by
 obtain ⟨v,hv⟩:∃ v,T[k]? =some v:=⟨_,aYb ak⟩;obtain ⟨l,κ,τ,au⟩:=h.2 k v hv;obtain ⟨a,n,c⟩:=v;dsimp only at τ au;subst τ;exact ⟨a,c,l,hv,κ,au⟩
noncomputable def mZ (W:ai) (L:List (List aQ)):ai:=L.foldl pH W
noncomputable def zL (W:ai):List (List aQ)→List (BitVec 64)
 | []=> [tR W]
 | l::r=>tR W::zL (pH W l) r
noncomputable def lN (W:ai):List (List aQ)→Int
 | []=>0
 | l::r=>if iZ W l≠0 then iZ W l else lN (pH W l) r
def EE (W:ai) (L:List (List aQ)) (e:Int) (V:ai) (ms:List (BitVec 64)):Prop:=(e=0∧L.length≤200∧W.a7=0∧lN W L=0∧V=mZ W L∧ms=zL W L)∨(e≠0∧(200<L.length∨W.a7≠0∨lN W L≠0)∧V=ai.zero∧ms= [])
theorem aoz:mZ W (L++Ap)=mZ (mZ W L) Ap:=aZU
theorem aoA:∀ (L:List (List aQ)) (W:ai),(zL W L).length=L.length+1
 | [],_=>rfl
 | l::r,W=>by rw [zL,aYc,aYc,aoA r]
theorem aoB:∀ (L:List (List aQ)) (W:ai),zL W (L++ [l])=zL W L++ [tR (pH (mZ W L) l)]
 | [],_=>rfl
 | l::r,W=>by rw [bah,zL,zL,aoB r];rfl
theorem P3:∀ (L:List (List aQ)) (W:ai),lN W (L++Ap)=if lN W L≠0 then lN W L else lN (mZ W L) Ap
 | [],W=>by rw [aZy];unfold lN;rw [aYi (by simp)];rfl
 | l::r,W=>by
  rw [bah,lN,lN];by_cases h:iZ W l≠0
  ·rw [aYq h,aYq h,aYq h]
  ·rw [aYi h,aYi h,P3 r];rfl
theorem Vi:lN W [l]=iZ W l:=by
 unfold lN;split
 ·rfl
 ·rename_i h;unfold lN;have:iZ W l=0:=by simpa using h
  rw [this]
theorem Gb {α:Type} {L:List α} {l:α} (h:L[k]? =some l):L.take (k+1)=L.take k++ [l]:=by
 have e:=(aX8.1 h).2;rw [← e,bcJ]
theorem Vk (aG:lN W (L.take k)=0) (ah:L[k]? =some l):lN W (L.take (k+1))=iZ (mZ W (L.take k)) l:=by
 rw [Gb ah,P3,aYi (by simpa using aG),Vi]
theorem Vj (aG:lN W (L.take k)≠0):lN W L≠0:=by
 have:L=L.take k++L.drop k:=(aZ5 k L).symm;rw [this,P3,aYq aG];exact aG
theorem EE.ok (h:EE W L e V ms) (aG:e=0):L.length≤200∧W.a7=0∧lN W L=0∧V=mZ W L∧ms=zL W L:=by
 rcases h with ⟨_,h⟩ | ⟨κ,_⟩
 ·exact h
 ·exact absurd aG κ
theorem EE.zero (h:EE W L e V ms) (κ:L.length≤200) (τ:W.a7=0) (au:lN W L=0):e=0∧V=mZ W L∧ms=zL W L:=by
 rcases h with ⟨aG,_,_,_,aU,bN⟩ | ⟨_,aU,_⟩
 ·exact ⟨aG,aU,bN⟩
 ·omega
end
end
section
theorem atV:ez prog bu 22 3 8:=ez.ki (z:=Φ 0) (k:=1) underlying22 xI rfl rfl (by decide) (λ j u h=>Bw j u h)
theorem XP:ez prog rC 92 130 8:=ez.ki (z:= .int .u64 0) (k:=1) underlying92 als rfl rfl (by decide) (λ j u h=>aor j u h)
open Go.Proofs.YtmeeljmapailnaaGreat.fL
theorem K' (l:List Int) (A:Option Addr) (c:Nat) (w:World) (ah:bu.aK 8 w A c l):
  Calls prog 86 #[.slice A l.length c] w (λ e w'=>e= .returned (.int .u64 (U (sm l)))∧Ext w w'):=by
 refine ch (n:=12) func86 Z Z Z ?_;refine aw<|aJ Z<|aB Z<|ca ah4 Z Z ((aHs l _ _ _ (ah.keep (Ext.cH w))).mono ?_);rintro e l9 ⟨⟨aS0,rfl⟩,aR⟩;refine cu ?_;have:=aR.size;refine vm Z<|bs Z Z<|bs Z Z<|va Z<|aJ Z<|aB Z<|cM ayd Z (aFp (Ly l) (aHr _) _) λ VZ aqu=> ?_;have:=aqu.size;have vx:=γ aR aqu;refine aY Z<|b_ Z Z<| ?_;exact ⟨Z,vx⟩
theorem aGb (a:ai.b7) (W:ai) (w:World) (bZ:ai.Has w a W) (hc:W.a7≠0):
  Calls prog 50 #[.agg ((ai.cells a W).toArray)] w (λ e w'=>e= .returned (.tuple #[.int .u64 (U (tR W)),Φ W.a7])∧Ext w w'):=by
 have abF:(W.a7 != 0)=true:=by simpa using hc
 refine ch (n:=107) func50 Z Z Z ?_;refine dZ Z Z λ cG bB aR d' ae=> ?_;refine va Z<|aJ Z<|av<|aw<|aa (ax Z (ae.all dz cd))<|cM Kk Z (EU a W _ (bZ.keep aR)) λ eC dm=> ?_;have bO:=γ aR dm;refine aJ Z<|aB Z<|cS Z Z<|aC<|eT (ep Z abF)<|aB Z<|va Z<|aY Z<|bD<|f_ Z Z Z<| ?_;exact ⟨by unfold tR;rw [aYi hc];rfl,bO⟩
theorem aGc (a:ai.b7) (W:ai) (w:World) (bZ:ai.Has w a W) (hc:W.a7=0):
  Calls prog 50 #[.agg ((ai.cells a W).toArray)] w (λ e w'=>e= .returned (.tuple #[.int .u64 (U (tR W)),Φ W.a7])∧Ext w w'):=by
 have abF:(W.a7 != 0)=false:=by simpa using hc
 have bP:=Good.Dx hc;have aRc:=bP.iJ;have aRd:=bP.dJ;have aRe:=bP.sl;have aRb:=bP.FZ;have aQ7:=aL.fa bP.field;obtain ⟨zB,ru,oj,pz⟩:=bZ.nums;refine ch (n:=107) func50 Z Z Z ?_;refine dZ Z Z λ cG bB aR d' ae=> ?_;have hE:=ae.lt;refine va Z<|aJ Z<|av<|aw<|aa (ax Z (ae.all dz cd))<|cM Kk Z (EU a W _ (bZ.keep aR)) λ eC dm=> ?_;have:=dm.size;have bO:=γ aR dm;refine aJ Z<|aB Z<|cS Z Z<|aC<|gj (ep Z abF)<|bm<|aw<|aa (aj r7 Z)<|aa (aj NS Z)<| ?_;have ae:=ae.later dm;refine bk Z ae aT Z<|aa (aj r7 Z)<|aa (aj YO Z)<|bk Z ae aT Z<|aa (aj HE Z)<|bk Z ae aT Z<|aa (aj HG Z)<|bk Z ae aT Z<|c7 (e:= 3) (cs:= [Φ 1,Φ W.field.wide,Φ W.field.high,Φ W.next,Φ W.now]) Z (λ _=>by kernel_rfl) Z λ wC uE fi K_ iB=> ?_;have k2:=γ bO fi;have aIi:=iB.lt;refine aa (aj r7 Z)<|aa (aj y0 Z)<| ?_;have ae:=ae.later fi;refine bk Z ae c8 Z<| ?_;have RG:=aM.xW (R:=bu) (by_:=8) (B:=w.heap.size) (k:= [1,W.field.wide,W.field.high,W.next,W.now]) iB [[Φ 1], [Φ W.field.wide], [Φ W.field.high], [Φ W.next], [Φ W.now]] rfl (⟨⟨rfl,b8.2 (by decide)⟩,⟨⟨rfl,zB⟩,⟨⟨rfl,ru⟩,⟨⟨rfl,oj⟩,⟨⟨rfl,pz⟩,trivial⟩⟩⟩⟩⟩) (by simp) (by simp) (by decide) (by omega);have Uw:∀ q∈J.ab (bA uE),uE≤q:=λ q I=>aZQ (aYf.1 I).symm;refine ap atV J.dQ RG (bZ.P.keep k2) Z Z (by simp only [aYc,aYh];omega) (by simp only [aYc,aYh];omega) k2.size Z λ zT JD agF oQ Hf Kv aGB=> ?_;have:=oQ.size;have k3:=Ext.mod k2 oQ (λ q I=>(RG.lt q I).1);refine cM SN Z (K' ([1,W.field.wide,W.field.high,W.next,W.now]++W.field.a_) _ _ _ Hf.has) λ ud dH=> ?_;have:=dH.size;have hI:=γ k3 dH;refine c7 (e:= 130) (cs:= [.int .u64 (U (sm ([1,W.field.wide,W.field.high,W.next,W.now]++W.field.a_)))]) Z (λ _=>by kernel_rfl) Z λ Jb R1 nT aE7 Mv=> ?_;have sJ:=γ hI nT;refine aJ Z<|av<|aw<|aa (aj s8 Z)<| ?_;have awX:∀ q∈J.ab (bA uE),q=bB→False:=λ q I ag=>by (have:=Uw q I;omega)
 have ae:=(ae.mod oQ (λ I=>awX _ I rfl)).later (γ dH nT);refine bk Z ae xq Z<|aa (b5 underlying25 Z)<|vm Z<|aC<|bJ<| ?_;have M8:=aM.xW (R:=rC) (by_:=8) (B:=w.heap.size) (k:= [US W]) Mv [[.int .u64 (U (US W))]] rfl (⟨⟨rfl,trivial⟩,trivial⟩) (by simp) (by simp) (by decide) (by omega);have y1:∀ q∈J.ab (bA R1),q=R1:=λ q I=>aYf.1 I;refine eV (λ cp cn aP=>∃ dw:Nat,∃ dD:List (BitVec 64),∃ JC:Option Addr,∃ Se:Nat,cn= [(1, .pointer (bA bB)),(2, .int .u64 0),(3,Φ 0),(5, .slice JC dD.length Se),(35, .slice a.B W.bf.length a.b),(36,Φ (W.bf.length:Int)),(37,Φ (dw:Int))]∧cp=W.bf.length - dw∧Ext w aP∧aM aP bB (ai.cells a W) 28 (0,0)∧rC.aF 130 8 aP w.heap.size (J.ab JC) JC Se dD∧(dw≤W.bf.length)∧(dD=Dt W dw)∧(∀ q∈J.ab JC,q=bB→False)) _ _ ⟨0, [US W],some ⟨R1,0,none⟩,1,Z,Z,sJ,ae,M8,by omega,rfl,(λ q I ag=>by (have:=y1 q I;omega))⟩ (eO Z Z Z) ?_;rintro qh aOa wH ⟨dw,dD,JC,Se,rfl,rfl,j6,ae,JT,q8,Fb,Ka⟩;have aWh:=ae.lt;have adN:=bM JT.lt;refine aw<|dR Z Z<|aC<|av<| ?_;refine en Z (λ aBg=> ?_) (λ aBg=> ?_)
 ·obtain ⟨c,ob⟩:∃ c,W.bf.getD dw default=c:=⟨_,rfl⟩;obtain ⟨lO,Im⟩:∃ lO,W.bE.getD dw 0=lO:=⟨_,rfl⟩;have anM:c.ok:=az.oD bZ.B c (by rw [← ob];exact jk (by omega));have acC:ea lO:=LH bZ.S lO (by rw [← Im];exact jk (by omega));have aCN:UR W dw=sm [2,(dw:Int),c.x,c.y,lO]:=by unfold UR;rw [ob,Im]
  have ajr:dD.length=dw+1:=by rw [Fb,acf]
  refine bm<|av<|bJ<|aB Z<|aa (cl dw underlying25 b3 Z Z ((bZ.B.keep j6).bT (aV dw)) Z (by omega))<|aa (ax Z (J.aK.iu y9 ((bZ.B.keep j6).cD (aV dw)) (show W.bf[dw]? =some c by rw [← ob];exact dt (u:=default) (by omega)) cA b3))<|cU yZ Z λ wI xd kp abP yx=> ?_;have kt:=γ j6 kp;have PW:=yx.lt;refine va Z<|cF Z Z yx Z b3 Z Z λ ue oi yx=> ?_;have:=oi.size;have j7:=Ext.mod kt oi bo;refine aC<| ?_;refine cO [(3,0),(5,0),(7,0),(10,0),(11,2),(12,0),(13,2),(14,3)] [0,1,2,3,4,5,6,7,8,9,10,11,12,13,14,15] ?_;refine a1 Z Z<|a1 Z Z<|aq Z (λ _=>aj jW Z)<|cf Z Z yx aT Z<|aq Z (λ _=>aj jX Z)<|cf Z Z yx aT Z<|aq Z (λ _=>aj vU Z)<| ?_;have ae:=(ae.later kp).mod oi aO;refine cf Z Z ae c8 Z<|a1 Z Z<|aq Z (λ _=>cl dw underlying22 dg Z Z ((bZ.S.keep j7).bT (aV dw)) Z (by omega))<|dT Z (λ _ x=>ax Z (J.aK.fh fY ((bZ.S.keep (γ j7 x)).cD (aV dw)) (show W.bE[dw]? =some lO by rw [← Im];exact dt (u:=0) (by omega)) Z aT))<|ff Z Z Z λ L7 rI Q hK=>c7 (e:= 3) (cs:= [Φ 2,Φ (dw:Int),Φ c.x,Φ c.y,Φ lO]) Z (λ _=>by kernel_rfl) Z λ L8 agk iM amL oz=>hK _ _ ⟨γ rI iM, ?_⟩;have:=rI.size;have sK:=γ j7 rI;have o8:=γ sK iM;have aok:=oz.lt;refine qW Z Z SN Z (λ _ x=>K' ([2,(dw:Int),c.x,c.y,lO]) _ _ _ ((aM.Ow (R:=bu) (by_:=8) (k:= [2,(dw:Int),c.x,c.y,lO]) oz [[Φ 2], [Φ (dw:Int)], [Φ c.x], [Φ c.y], [Φ lO]] Z (⟨⟨Z,b8.2 (by decide)⟩,⟨⟨Z,b8.2 (by omega)⟩,⟨⟨Z,anM.1⟩,⟨⟨Z,anM.2⟩,⟨⟨Z,acC⟩,trivial⟩⟩⟩⟩⟩) (by simp) (by simp)).keep x)) Z<|ff Z Z Z λ L' iN Q hK=>c7 (e:= 130) (cs:= [.int .u64 (U (sm ([2,(dw:Int),c.x,c.y,lO])))]) Z (λ _=>by kernel_rfl) Z λ Ma auK gz aFc My=>hK _ _ ⟨γ iN gz, ?_⟩;have:=iN.size;have uo:=γ o8 iN;have uq:=γ uo gz;have aIw:=My.lt;have JT:=((JT.later kp).mod oi (bU adN)).later (γ rI (γ iM (γ iN gz)));refine dE Z Z Z λ V4 gT Q hK=>ap XP J.dQ (JT.later gT) ((aM.gu (R:=rC) (by_:=8) (q:=(sm ([2,(dw:Int),c.x,c.y,lO]))) My ⟨Z,trivial⟩ (by decide)).keep gT) Z Z (by simp only [aYc,aYh];omega) (by simp only [aYc,aYh];omega) (by have:=gT.size;omega) Z λ DQ WS Yp kh Hg CS aGC=>hK _ _ ?_;have:=gT.size;have ur:=γ uq gT;have m5:=Ext.mod ur kh (λ q I=>aYF (by omega) ((JT.later gT).lt q I).1);refine aq Z (λ _=>ee Z)<|fn λ Ji kL=> ?_;have sL:=γ m5 kL;refine b1<|eM Z Z Z<| ?_;have ae:=((ae.later (γ rI (γ iM (γ iN (γ gz gT))))).mod kh (λ I=>Ka _ I rfl)).later kL;have Hg:=Hg.later kL;exact eJ ⟨dw+1,dD++ [(sm ([2,(dw:Int),c.x,c.y,lO]))],WS,Yp,Z,Z,sL,ae,Hg,by omega,by rw [aGd,Fb,aCN],(fJ CS Ka)⟩
 ·refine dn<|dk<|dG<|dj<|aX<|av<|aw<|aa (aj AX Z)<|bk Z ae c8 Z<|aa (b5 underlying22 Z)<|vm Z<|aC<|bJ<| ?_;refine eV (λ cp cn aP=>∃ dN:Nat,∃ j9:List (BitVec 64),∃ mJ:Option Addr,∃ AF:Nat,cn= [(1, .pointer (bA bB)),(2, .int .u64 0),(3,Φ 0),(5, .slice mJ j9.length AF),(59, .slice a.M W.bX.length a.m),(60,Φ (W.bX.length:Int)),(61,Φ (dN:Int))]∧cp=W.bX.length - dN∧Ext w aP∧aM aP bB (ai.cells a W) 28 (0,0)∧rC.aF 130 8 aP w.heap.size (J.ab mJ) mJ AF j9∧(dN≤W.bX.length)∧(j9=Dt W W.bf.length++Du W dN)∧(∀ q∈J.ab mJ,q=bB→False)) _ _ ⟨0,dD,JC,Se,Z,Z,j6,ae,JT,by omega,by rw [Du,aYP,Fb,show dw=W.bf.length by omega],Ka⟩ (eO Z Z Z) ?_;rintro FP aNS Mf ⟨dN,j9,mJ,AF,rfl,rfl,rS,ae,rY,gC,Tr,Ke⟩;have aVA:=ae.lt;refine aw<|dR Z Z<|aC<|av<| ?_;refine en Z (λ aA1=> ?_) (λ aA1=> ?_)
  ·obtain ⟨nk,TW⟩:∃ nk,W.bX.getD dN 0=nk:=⟨_,rfl⟩;have acC:ea nk:=LH bZ.M nk (by rw [← TW];exact jk (by omega));have ajr:j9.length≤W.bf.length+1+dN:=by rw [Tr,aX9,acf];have:=ack W dN;omega
   refine bm<|av<|bJ<|aB Z<|aa (cl dN underlying22 dg Z Z ((bZ.M.keep rS).bT (aV dN)) Z (by omega))<|aa (ax Z (J.aK.fh fY ((bZ.M.keep rS).cD (aV dN)) (show W.bX[dN]? =some nk by rw [← TW];exact dt (u:=0) (by omega)) Z aT))<|va Z<|aJ Z<|aB Z<|cS Z Z<|aC<| ?_;refine eU Z (λ HX=> ?_) (λ HX=> ?_)
   ·have Ig:nk≠0:=by simpa using HX
    refine rg<|vm Z<|vm Z<|vm Z<|c7 (e:= 3) (cs:= [Φ 3,Φ (dN:Int),Φ nk]) Z (λ _=>by kernel_rfl) Z λ VV auC m1 aEY Ms=> ?_;have BN:=γ rS m1;have aIf:=Ms.lt;refine cM SN Z (K' ([3,(dN:Int),nk]) _ _ _ (aM.Ow (R:=bu) (by_:=8) (k:= [3,(dN:Int),nk]) Ms [[Φ 3], [Φ (dN:Int)], [Φ nk]] Z (⟨⟨Z,b8.2 (by decide)⟩,⟨⟨Z,b8.2 (by omega)⟩,⟨⟨Z,acC⟩,trivial⟩⟩⟩) (by simp) (by simp))) λ aLq Wl=> ?_;have:=Wl.size;have ael:=γ BN Wl;refine c7 (e:= 130) (cs:= [.int .u64 (U (sm ([3,(dN:Int),nk])))]) Z (λ _=>by kernel_rfl) Z λ apX aPg Wm aTn aeT=> ?_;have:=Wm.size;have Ws:=γ ael Wm;have aIg:=aeT.lt;have rY:=rY.later (γ m1 (γ Wl Wm));refine ap XP J.dQ rY (aM.gu (R:=rC) (by_:=8) (q:=(sm ([3,(dN:Int),nk]))) aeT ⟨Z,trivial⟩ (by decide)) Z Z (by simp only [aYc,aYh];omega) (by simp only [aYc,aYh];omega) (by omega) Z λ aLt aqY avA am9 as4 az8 aUJ=> ?_;have Wu:=Ext.mod Ws am9 (λ q I=>aYF (by omega) (rY.lt q I).1);refine va Z<|nl<|b1<|eM Z Z Z<| ?_;have ae:=(ae.later (γ m1 (γ Wl Wm))).mod am9 (λ I=>Ke _ I rfl);exact eJ ⟨dN+1,j9++ [(sm ([3,(dN:Int),nk]))],aqY,avA,Z,Z,Wu,ae,as4,by omega,by rw [Tr,Du,TW,aYi Ig];simp,(fJ az8 Ke)⟩
   ·have Ig:nk=0:=by simpa using HX
    refine fu<|b1<|eM Z Z Z<| ?_;exact eJ ⟨dN+1,j9,mJ,AF,Z,Z,rS,ae,rY,by omega,by rw [Tr,Du,TW,aYq Ig];simp,Ke⟩
  ·refine dn<|dk<|dG<|dj<|aX<|av<|aw<|aa (aj ld Z)<|bk Z ae nb Z<|aa (b5 underlying26 Z)<|vm Z<|aC<|bJ<| ?_;refine eV (λ cp cn aP=>∃ hb:Nat,∃ k8:List (BitVec 64),∃ QS:Option Addr,∃ Yj:Nat,cn= [(2, .int .u64 0),(3,Φ 0),(5, .slice QS k8.length Yj),(77, .slice a.T W.ao.length a.t),(78,Φ (W.ao.length:Int)),(79,Φ (hb:Int))]∧cp=W.ao.length - hb∧Ext w aP∧rC.aF 130 8 aP w.heap.size (J.ab QS) QS Yj k8∧(hb≤W.ao.length)∧(k8=Dt W W.bf.length++Du W W.bX.length++(W.ao.take hb).map PM)) _ _ ⟨0,j9,mJ,AF,Z,Z,rS,rY,by omega,by rw [Tr,show dN=W.bX.length by omega];simp⟩ (eO Z Z Z) ?_;rintro aUp aNZ ap0 ⟨hb,k8,QS,Yj,rfl,rfl,D4,JU,aaX,Z8⟩;have:=D4.size;have aKC:=bM JU.lt;refine aw<|dR Z Z<|aC<|av<| ?_;refine en Z (λ aA7=> ?_) (λ aA7=> ?_)
   ·obtain ⟨t,Ip⟩:∃ t,W.ao.getD hb default=t:=⟨_,rfl⟩;obtain ⟨qm,nn,oX,pA,ry,Lr,PO⟩:ea t.id∧ea t.owner∧ea t.kind∧ea t.spot.x∧ea t.spot.y∧ea t.dW∧ea t.load:=bj.oD bZ.T t (by rw [← Ip];exact jk (by omega));have ajr:k8.length≤W.bf.length+1+W.bX.length+hb:=by rw [Z8,aX9,aX9,acf,aYT,aYa];have:=ack W W.bX.length;omega
    refine bm<|av<|bJ<|aw<|aa (cl hb underlying26 lJ Z Z ((bZ.T.keep D4).bT (aV hb)) Z (by omega))<|aa (ax Z (J.aK.iu kC ((bZ.T.keep D4).cD (aV hb)) (show W.ao[hb]? =some t by rw [← Ip];exact dt (u:=default) (by omega)) AW lJ))<|cU NW Z λ aLx aPo Qz aTw Af=> ?_;have aep:=γ D4 Qz;have aVQ:=Af.lt;refine cF Z Z Af Z lJ Z Z λ ap4 uX Af=> ?_;have:=uX.size;have Mm:=Ext.mod aep uX bo;refine aC<|rg<|vm Z<|aa (aj Kl Z)<|bk Z Af aT Z<|aa (aj HM Z)<|bk Z Af aT Z<|aa (aj SX Z)<|bk Z Af aT Z<|aa (aj vT Z)<|aa (aj jW Z)<|bk Z Af aT Z<|aa (aj vT Z)<|aa (aj jX Z)<|bk Z Af aT Z<|aa (aj S1 Z)<|bk Z Af aT Z<|aa (aj CB Z)<|bk Z Af aT Z<|c7 (e:= 3) (cs:= [Φ 4,Φ t.id,Φ t.owner,Φ t.kind,Φ t.spot.x,Φ t.spot.y,Φ t.dW,Φ t.load]) Z (λ _=>by kernel_rfl) Z λ ap5 auE yg aEZ Mt=> ?_;have QM:=γ Mm yg;have aIh:=Mt.lt;refine cM SN Z (K' ([4,t.id,t.owner,t.kind,t.spot.x,t.spot.y,t.dW,t.load]) _ _ _ (aM.Ow (R:=bu) (by_:=8) (k:= [4,t.id,t.owner,t.kind,t.spot.x,t.spot.y,t.dW,t.load]) Mt [[Φ 4], [Φ t.id], [Φ t.owner], [Φ t.kind], [Φ t.spot.x], [Φ t.spot.y], [Φ t.dW], [Φ t.load]] Z (⟨⟨Z,b8.2 (by decide)⟩,⟨⟨Z,qm⟩,⟨⟨Z,nn⟩,⟨⟨Z,oX⟩,⟨⟨Z,pA⟩,⟨⟨Z,ry⟩,⟨⟨Z,Lr⟩,⟨⟨Z,PO⟩,trivial⟩⟩⟩⟩⟩⟩⟩⟩) (by simp) (by simp))) λ ap6 aeb=> ?_;have:=aeb.size;have QN:=γ QM aeb;refine c7 (e:= 130) (cs:= [.int .u64 (U (sm ([4,t.id,t.owner,t.kind,t.spot.x,t.spot.y,t.dW,t.load])))]) Z (λ _=>by kernel_rfl) Z λ aXq aPs GD aTB arz=> ?_;have:=GD.size;have aMJ:=γ QN GD;have JU:=((JU.later Qz).mod uX (bU aKC)).later (γ yg (γ aeb GD));refine ap XP J.dQ JU (aM.gu (R:=rC) (by_:=8) (q:=(sm ([4,t.id,t.owner,t.kind,t.spot.x,t.spot.y,t.dW,t.load]))) arz ⟨Z,trivial⟩ (by decide)) Z Z (by simp only [aYc,aYh];omega) (by simp only [aYc,aYh];omega) (by omega) Z λ aXt aq7 avI aF1 atb aQ8 aUU=> ?_;have aMM:=Ext.mod aMJ aF1 (λ q I=>aYF (by omega) (JU.lt q I).1);refine va Z<|nl<|b1<|eM Z Z Z<| ?_;exact eJ ⟨hb+1,k8++ [(sm ([4,t.id,t.owner,t.kind,t.spot.x,t.spot.y,t.dW,t.load]))],aq7,avI,Z,Z,aMM,atb,by omega,by rw [Z8,aGo (by omega) Ip,aYK];rfl⟩
   ·refine dn<|dk<|dG<|dj<|aX<|aB Z<|cM aye Z (aG2 k8 _ _ _ JU.has) λ aXx aMc=> ?_;have aMP:=γ D4 aMc;refine va Z<|aY Z<|f_ Z Z Z<| ?_;exact ⟨by unfold tR;rw [aYq hc,hc,Z8,show hb=W.ao.length by omega,aYS];rfl,aMP⟩
theorem anm (a:ai.b7) (W:ai) (w:World) (bZ:ai.Has w a W):Calls prog 50 #[.agg (ai.cells a W).toArray] w (λ e w'=>e= .returned (.tuple #[.int .u64 (U (tR W)),Φ W.a7])∧Ext w w'):=by
 by_cases hc:W.a7=0
 ·exact aGc a W w bZ hc
 ·exact aGb a W w bZ hc
end
section
theorem atU:ez prog rC 92 130 8:=ez.ki (z:= .int .u64 0) (k:=1) underlying92 als rfl rfl (by decide) (λ j u h=>aor j u h)
open Go.Proofs.YtmeeljmapailnaaGreat.fL
theorem IY (a:ai.b7) (W:ai) (A:Option Addr) (c:Nat) (T:List iC) (L:List (List aQ)) (w:World) (bZ:ai.Has w a W) (cB:qs.aK 24 w A c T) (dY:oA w T L):
  Calls prog 25 #[.agg ((ai.cells a W).toArray), .slice A T.length c] w (λ e w'=>∃ e' a' V bQ cc ms,e= .returned (.tuple #[.agg (ai.cells a' V).toArray, .slice bQ (ms:List (BitVec 64)).length cc,Φ e'])∧EE W L e' V ms∧bH w' w.heap.size a' V∧rC.aF 130 8 w' w.heap.size (J.ab bQ) bQ cc ms∧(∀ q,q∈J.ab bQ→q∈bH.cR a'→False)∧Ext w w'):=by
 refine ch (n:=64) func25 Z Z Z ?_;refine dZ Z Z λ cG bB aR d' ae=> ?_;have hE:=ae.lt;refine cU nG Z λ eC cJ bt hP ar=> ?_;have:=bt.size;have bO:=γ aR bt;have mB:=ar.lt;refine va Z<|aJ Z<|av<|aB Z<|aa (b5 underlying30 Z)<|aa (gO Z Z)<|aC<| ?_;refine en Z (λ jB=> ?_) (λ jB=> ?_)
 ·refine aw<|aa (v:= .agg #[Φ 0,Φ 0, .slice none 0 0, .slice none 0 0, .slice none 0 0, .slice none 0 0, .slice none 0 0,Φ 0,Φ 0]) (eu Z)<|cF Z Z ar Z cd Z Z λ wD wk ar=> ?_;have jq:=Ext.mod bO wk bo;refine va Z<|aY Z<|bD<|cz (.cell Z (ar.all dz cd) (.tmp Z (.tmp Z .nil)))<| ?_;exact ⟨2,⟨none,none,none,none,none,0,0,0,0,0⟩,ai.zero,none,0, [],Z, .inr ⟨by decide, .inl (by rw [← dY.1];omega),rfl,rfl⟩,bH.zero _ _,J.aF.nil _,λ q I=>by simp [J.ab] at I,jq⟩
 ·have aAT:L.length≤200:=by rw [← dY.1];omega
  refine bm<|aw<| ?_;have ae:=ae.later bt;refine aa (ax Z (ae.all dz cd))<|ca ah3 Z Z ((ape ([]:List fc) _ _ a W _ (bZ.keep bO) (J.aK.nil _)).mono ?_);rintro e rF ⟨a20,aqF,avf,rfl,vD,aOC,aBP,cX⟩;refine cu ?_;have:=cX.size;have iA:=γ bO cX;have adM:=bM vD.lt;have Iw:=dx vD.lt;refine vm Z<|bs Z Z<|bs Z Z<|bs Z Z<| ?_;have ae:=ae.later cX;refine st Z Z ae Z cd Z Z Z λ zU sw ae=> ?_;have:=sw.size;have k4:=Ext.mod iA sw bo;refine va Z<|aJ Z<|av<|aB Z<|cS Z Z<|aC<| ?_;refine eU Z (λ pc=> ?_) (λ pc=> ?_)
  ·have C0:W.a7≠0:=λ bw=>pc (X' bw (by simp));refine aw<|aa (v:= .agg #[Φ 0,Φ 0, .slice none 0 0, .slice none 0 0, .slice none 0 0, .slice none 0 0, .slice none 0 0,Φ 0,Φ 0]) (eu Z)<|vm Z<| ?_;have ar:=(ar.later cX).mod sw aO;refine cF Z Z ar Z cd Z Z λ wF oR ar=> ?_;have mf:=Ext.mod k4 oR bo;refine va Z<|aY Z<|bD<|cz (.cell Z (ar.all dz cd) (.tmp Z (.tmp Z .nil)))<| ?_;exact ⟨nF W ([]:List fc),⟨none,none,none,none,none,0,0,0,0,0⟩,ai.zero,none,0, [],Z, .inr ⟨pc, .inr (.inl C0),Z,Z⟩,bH.zero _ _,J.aF.nil _,λ q I=>by simp [J.ab] at I,mf⟩
  ·have ob:W.a7=0:=(R_ (by first | exact pc | simpa using pc)).1;have Io:=apf ob;refine bm<|aw<|aa (ax Z (ae.all dz cd))<| ?_;have vD:=vD.mod sw (bz Iw);refine cM ah5 Z (anm a20 (qq W ([]:List fc)) _ vD.has) λ vk eL=> ?_;have:=eL.size;have jr:=γ k4 eL;refine vm Z<|bs Z Z<|bs Z Z<|va Z<|aJ Z<|aB Z<|c7 (e:= 130) (cs:= [.int .u64 (U (tR (qq W ([]:List fc))))]) Z (λ _=>by kernel_rfl) Z λ DL Ns pO aE8 yw=> ?_;have nz:=γ jr pO;refine aJ Z<|av<|aB Z<|aa (b5 underlying30 Z)<|vm Z<|aC<|bJ<| ?_;have M8:=aM.xW (R:=rC) (by_:=8) (B:=w.heap.size) (k:= [tR (qq W ([]:List fc))]) yw [[.int .u64 (U (tR (qq W ([]:List fc))))]] rfl (⟨⟨rfl,trivial⟩,trivial⟩) (by simp) (by simp) (by decide) (by omega);have y1:∀ q∈J.ab (bA Ns),q=Ns:=λ q I=>aYf.1 I;have dA:=(γ eL pO);have ae:=ae.later dA;have vD:=vD.later dA;have ar:=((ar.later cX).mod sw aO).later dA;refine eV (λ cp cn aP=>∃ k:Nat,∃ Hb:List (BitVec 64),∃ dP:Option Addr,∃ jS:Nat,∃ p5:ai.b7,∃ na:ai,cn= [(2, .pointer (bA bB)),(4, .pointer (bA cJ)),(11, .slice dP Hb.length jS),(35, .slice A T.length c),(36,Φ (T.length:Int)),(37,Φ (k:Int))]∧cp=T.length - k∧Ext w aP∧aM aP cJ [Φ 0,Φ 0, .slice none 0 0, .slice none 0 0, .slice none 0 0, .slice none 0 0, .slice none 0 0,Φ 0,Φ 0] 28 (0,0)∧rC.aF 130 8 aP w.heap.size (J.ab dP) dP jS Hb∧aM aP bB (ai.cells p5 na) 28 (0,0)∧bH aP w.heap.size p5 na∧(k≤T.length)∧(lN W (L.take k)=0)∧(na=mZ W (L.take k))∧(Hb=zL W (L.take k))∧(∀ q∈bH.cR p5,q=bB→False)∧(∀ q∈bH.cR p5,q=cJ→False)∧(∀ q∈J.ab dP,q=cJ→False)∧(∀ q∈J.ab dP,q=bB→False)∧(∀ q∈J.ab dP,q∈bH.cR p5→False)) _ _ ⟨0, [tR (qq W ([]:List fc))],some ⟨Ns,0,none⟩,1,a20,qq W ([]:List fc),Z,Z,nz,ar,M8,ae,(vD.down (by omega)),by omega,rfl,Io.1,(by rw [Io.1];rfl),(λ q I ag=>by exfalso;(have:=Iw q I;omega)),(λ q I ag=>by exfalso;(have:=Iw q I;omega)),(λ q I ag=>by (have:=y1 q I;omega)),(λ q I ag=>by (have:=y1 q I;omega)),(λ q I ag=>by (have:=y1 q I;(have:=adM q ag;omega)))⟩ (eO Z Z Z) ?_;rintro FW aOd wI ⟨k,Hb,dP,jS,p5,na,rfl,rfl,kt,ar,gM,cP,nC,ak,ll,KH,Ts,awL,awM,xl,EY,HB⟩;have:=kt.size;have aWk:=ar.lt;have adO:=bM gM.lt;have PW:=cP.lt;have aRq:Hb.length≤k+1:=by rw [Ts,aoA,aYa];omega
   refine aw<|dR Z Z<|aC<|av<| ?_;refine en Z (λ Oq=> ?_) (λ Oq=> ?_)
   ·obtain ⟨gZ,ft,j2,hM,A2,hx⟩:=dY.at_ (k:=k) (by omega);refine bm<|av<|bJ<|aw<|aa (cl k underlying30 CD Z Z ((cB.keep kt).bT (aV k)) Z (by omega))<|aa (v:= .slice gZ j2.length ft) (ax Z (J.aK.fh aaA ((cB.keep kt).cD (aV k)) hM Z qU))<|aJ Z<|av<|aw<|aa (ax Z (cP.all dz cd))<|vm Z<|ca YW Z Z ((Qg p5 na _ _ j2 _ nC.has (hx.keep kt)).mono ?_);rintro e L_ ⟨a59,aqO,aQd,aqP,aQe,aqQ,aQf,rfl,Em,aOK,aOL,aOM,aaG,lT⟩;refine cu ?_;have:=lT.size;have z_:=γ kt lT;have I_:=bM Em.lt;have Px:=dx Em.lt;have aQA:∀ q∈J.ab aqO,q∈bH.cR a59→False:=λ q I=>aaG q (.inl I);have aQB:∀ q∈J.ab aqP,q∈bH.cR a59→False:=λ q I=>aaG q (.inr (.inl I));have aQC:∀ q∈J.ab aqQ,q∈bH.cR a59→False:=λ q I=>aaG q (.inr (.inr I));refine vm Z<|bs Z Z<|bs Z Z<|bs Z Z<| ?_;have cP:=cP.later lT;refine st Z Z cP Z cd Z Z Z λ L' kY cP=> ?_;have:=kY.size;have uo:=Ext.mod z_ kY bo;refine aJ Z<|aB Z<|cS Z Z<|aC<| ?_;refine eU Z (λ xA=> ?_) (λ xA=> ?_)
    ·refine aw<|aa (v:= .agg #[Φ 0,Φ 0, .slice none 0 0, .slice none 0 0, .slice none 0 0, .slice none 0 0, .slice none 0 0,Φ 0,Φ 0]) (eu Z)<|vm Z<| ?_;have ar:=(ar.later lT).mod kY aO;refine cF Z Z ar Z cd Z Z λ ad4 py ar=> ?_;have Jy:=Ext.mod uo py bo;refine va Z<|aY Z<|bD<|eb<|bD<|m0<|eb<|bD<|cz (.cell Z (ar.all dz cd) (.tmp Z (.tmp Z .nil)))<| ?_;exact ⟨iZ na j2,⟨none,none,none,none,none,0,0,0,0,0⟩,ai.zero,none,0, [],Z, .inr ⟨xA, .inr (.inr (Vj (k:=k+1) (by rw [Vk ll A2,← KH];exact xA))),Z,Z⟩,bH.zero _ _,J.aF.nil _,λ q I=>by simp [J.ab] at I,Jy⟩
    ·have aAD:lN W (L.take (k+1))=0:=by rw [Vk ll A2,← KH];first | exact xA | simpa using xA
     refine bm<|aw<|aa (ax Z (cP.all dz cd))<| ?_;have Em:=Em.mod kY (bz Px);refine cM ah5 Z (anm a59 (pH na j2) _ Em.has) λ DO lU=> ?_;have:=lU.size;have pT:=γ uo lU;refine vm Z<|bs Z Z<|bs Z Z<|aJ Z<|rg<|vm Z<|vm Z<|c7 (e:= 130) (cs:= [.int .u64 (U (tR (pH na j2)))]) Z (λ _=>by kernel_rfl) Z λ DQ aPT iO aT7 aff=> ?_;have m5:=γ pT iO;have aWB:=aff.lt;have gM:=((gM.later lT).mod kY (bl EY)).later (γ lU iO);refine ap atU J.dQ gM (aM.gu (R:=rC) (by_:=8) (q:=(tR (pH na j2))) aff ⟨Z,trivial⟩ (by decide)) Z Z (by simp only [aYc,aYh];omega) (by simp only [aYc,aYh];omega) (by omega) Z λ Md arq av1 PJ atq ZP aVh=> ?_;have vz:=Ext.mod m5 PJ (λ q I=>aYF (by omega) (gM.lt q I).1);refine va Z<|nl<|b1<|eM Z Z Z<| ?_;have ar:=(((ar.later lT).mod kY aO).later (γ lU iO)).mod PJ (λ I=>xl _ I rfl);have cP:=(cP.later (γ lU iO)).mod PJ (λ I=>EY _ I rfl);have nC:=(((nC.later lT).mod kY (bl awL)).later (γ lU iO)).mod PJ (cQ HB);have Em:=(Em.later (γ lU iO)).mod PJ (λ q I h=>by exfalso;(have:=Px q I;(have:=adO q h;omega)));exact eJ ⟨k+1,Hb++ [(tR (pH na j2))],arq,av1,a59,pH na j2,Z,Z,vz,ar,atq,cP,(Em.down (by omega)),by omega,aAD,by rw [Gb A2,aoz,KH];rfl,by rw [Ts,Gb A2,aoB,KH],(λ q I ag=>by exfalso;(have:=Px q I;omega)),(λ q I ag=>by exfalso;(have:=Px q I;omega)),(fJ ZP xl),(fJ ZP EY),(λ q I ag=>by (exact aYC (ZP q I) (λ alA=>by (have:=Px q ag;(have:=adO q alA;omega))) (λ alA=>by (have:=I_ q ag;omega))))⟩
   ·have mr:k=L.length:=by rw [← dY.1];omega
    refine dn<|dk<|dG<|dj<|aX<|aw<|aa (ax Z (cP.all dz cd))<|vm Z<|st Z Z ar Z cd Z Z Z λ aXb ab3 ar=> ?_;have aMv:=Ext.mod kt ab3 bo;refine va Z<|aY Z<|cz (.cell Z (ar.all dz cd) (.tmp Z (.tmp Z .nil)))<| ?_;have gM:=gM.mod ab3 (bl xl);have nC:=nC.mod ab3 (bl awM);rw [mr,aYS] at ll KH Ts;exact ⟨0,p5,na,dP,jS,Hb,Z, .inl ⟨Z,aAT,ob,ll,KH,Ts⟩,nC.down (by omega),gM,λ q I hf=>by exfalso;(exact HB q I hf),aMv⟩
end
section
inductive Ez where
 | last (i:Nat) (bY:List Nat)
 | two (i:Nat) (bY:List Nat) (t1 t2:Ez)
def Ez.hd:Ez→Nat
 | .last i _=>i
 | .two i _ _ _=>i
section
variable {P:Program} {n:Nat} {E:List (Nat×Value)} {w:World} {Q:Exit→Act→World→Prop} {ops:Array Oper} {aS:Nat→Nat}
def Wb (P:Program) (ops:Array Oper) (Q:Exit→Act→World→Prop) (aS:Nat→Nat):Ez→Act→World→Prop
 | .last i bY=>wJ P ops (ij (Q .normal)) aS (i::bY)
 | .two i bY t1 t2=>wJ P ops (ij (λ a w=>Wb P ops Q aS t1 a w∧Wb P ops Q aS t2 a w)) aS (i::bY)
def aps (ops:Array Oper) (aS:Nat→Nat):Ez→Array Bool→Nat→Bool
 | .last i bY,l,m=>Nat.blt 1 (aS i) && lh ops aS bY (l.setIfInBounds i true) && Nat.beq (bY.length+1) m
 | .two i bY t1 t2,l,m=>Nat.blt 1 (aS i) && HN ops aS bY (l.setIfInBounds i true) && (Region.ready .any ops (By bY (l.setIfInBounds i true))== [t1.hd,t2.hd]) && Nat.ble (bY.length+2) m && aps ops aS t1 (By bY (l.setIfInBounds i true)) (m - 1 - bY.length) && aps ops aS t2 (By bY (l.setIfInBounds i true)) (m - 1 - bY.length)
def aNu (P:Program) (ops:Array Oper) (Q:Exit→Act→World→Prop) (aS:Nat→Nat) (t1 t2:Ez):Exit→Act→World→Prop:=ij (λ a w=>Wb P ops Q aS t1 a w∧Wb P ops Q aS t2 a w)
end
end
section
variable {b:World}
def BW (D:Nat) (w w':World):Prop:=w.heap.size≤w'.heap.size∧(D≤w.heap.size→Below D w w')
theorem BW.x' {D:Nat} {a c:World} (h:BW D a b) (k:BW D b c):BW D a c:=⟨aYF h.1 k.1,λ hd=>Below.trans (h.2 hd) (k.2 (aYF hd h.1))⟩
theorem BW.at {a:World} (h:BW a.heap.size a b):Ext a b:=h.2 (aYg _)
section
variable {D:Nat} {P:Program} {ops:Array Oper} {Q:Exit→Act→World→Prop} {aS:Nat→Nat}
def afT (D:Nat) (P:Program) (ops:Array Oper) (w0:World) (o:Oper) (v:Value) (a:Act):Prop :=
  (Region.wanted o (yielded ops a.tmps)=true∧∀ w,BW D w0 w→Bu P w v ((execOp a.eval o).run P w))∨
  (Region.wanted o (yielded ops a.tmps)=false∧v=undef)
def aJV (D:Nat) (P:Program) (ops:Array Oper) (Q:Exit→Act→World→Prop) (aS:Nat→Nat) (i:Nat) (K:Act→World→Prop) (a:Act) (w0:World):Prop :=
  ∃ o,ops[i]? =some o∧
    ((aS i≤1∧∃ v,afT D P ops w0 o v a∧K (a.put o.dst v) w0)∨
     (1<aS i∧∀ w,Ext w0 w→wpOp P ops Q i (λ a' w'=>(aS i=2→BW D w0 w')∧K a' w') a w))
def aur (D:Nat) (P:Program) (ops:Array Oper) (Q:Exit→Act→World→Prop) (aS:Nat→Nat):Nat→Array Bool→Act→World→Prop
  | 0,l,a,w0=>Region.ready .any ops l= []∧∀ w,Ext w0 w→Q .normal a w
  | f+1,l,a,w0=>(Region.ready .any ops l= []→∀ w,Ext w0 w→Q .normal a w)∧∀ i∈Region.ready .any ops l,aJV D P ops Q aS i (aur D P ops Q aS f (l.setIfInBounds i true)) a w0
def Mg (D:Nat) (P:Program) (ops:Array Oper) (Q:Exit→Act→World→Prop) (aS:Nat→Nat):List Nat→Act→World→Prop
  | [],a,w0=>∀ w,Ext w0 w→Q .normal a w
  | i::r,a,w0=>∃ o,ops[i]? =some o∧
      ((aS i=0∧∃ v,afT D P ops w0 o v a∧Mg D P ops Q aS r (a.put o.dst v) w0)∨
       (aS i=1∧∃ v,Yields P ops o v a∧Mg D P ops Q aS r (a.put o.dst v) w0)∨
       (1<aS i∧∀ w,Ext w0 w→wpOp P ops Q i (λ a' w'=>(aS i=2→BW D w0 w')∧Mg D P ops Q aS r a' w') a w))
end
section
variable {D:Nat} {P:Program} {n:Nat} {E cW:List (Nat×Value)} {a:Act} {w w' w0 w1:World} {Q:Exit→Act→World→Prop} {ops:Array Oper} {v:Value} {aS:Nat→Nat}
variable {d:Option Nat} {ty:TypeId} {pos:String} {af:Array Edge} {g:Option (Nat×Bool)} {x y z:Operand} {t:TypeId} {rest:List Oper} {bY:List Nat} {i:Nat}
def aOr (D:Nat) (P:Program) (n:Nat) (ops:Array Oper) (Q:Exit→Act→World→Prop) (aS:Nat→Nat) (bY:List Nat) (E:List (Nat×Value)) (w0:World):Prop:=∀ a,fj n E a→Mg D P ops (ij (Q .normal)) aS bY a w0
end
end
section
section
variable {D:Nat} {P:Program} {n:Nat} {E:List (Nat×Value)} {w:World} {Q:Exit→Act→World→Prop} {ops:Array Oper} {aS:Nat→Nat}
def Wc (D:Nat) (P:Program) (ops:Array Oper) (Q:Exit→Act→World→Prop) (aS:Nat→Nat):Ez→Act→World→Prop
 | .last i bY=>Mg D P ops (ij (Q .normal)) aS (i::bY)
 | .two i bY t1 t2=>Mg D P ops (ij (λ a w=>Wc D P ops Q aS t1 a w∧Wc D P ops Q aS t2 a w)) aS (i::bY)
def aNv (D:Nat) (P:Program) (ops:Array Oper) (Q:Exit→Act→World→Prop) (aS:Nat→Nat) (t1 t2:Ez):Exit→Act→World→Prop:=ij (λ a w=>Wc D P ops Q aS t1 a w∧Wc D P ops Q aS t2 a w)
end
end
section
variable {e:Int} {V:ai}
open Go.Proofs.YtmeeljmapailnaaGreat.fL
def m_ (W:ai) (L:List (List aQ)):Prop:=L.length≤200∧W.a7=0∧lN W L=0
def QT (W:ai) (L:List (List aQ)) (n e:Int) (V:ai):Prop :=
 (e=0∧m_ W L∧0≤n∧n≤(L.length:Int)∧V=mZ W (L.take n.toNat))∨(e≠0∧¬(m_ W L∧0≤n∧n≤(L.length:Int))∧V=ai.zero)
theorem EE.Vu {W:ai} {L:List (List aQ)} {ms:List (BitVec 64)} (h:EE W L e V ms):e=0↔m_ W L :=
 ⟨λ aG=>by obtain ⟨κ,τ,au,_,_⟩:=h.ok aG;exact ⟨κ,τ,au⟩,λ ⟨κ,τ,au⟩=>(h.zero κ τ au).1⟩
theorem m_.take {W:ai} {L:List (List aQ)} (h:m_ W L) (k:Nat):m_ W (L.take k):=
 ⟨by have:=h.1;rw [aYa];omega,h.2.1,aZN λ aG=>Vj aG h.2.2⟩
theorem m_.at_ {W:ai} {L:List (List aQ)} {n:Int} {ms:List (BitVec 64)} (h:m_ W L) (hr:EE W (L.take n.toNat) e V ms) (aG:0≤n) (κ:n≤(L.length:Int)):e=0∧m_ W L∧0≤n∧n≤(L.length:Int)∧V=mZ W (L.take n.toNat):=by
 have τ:=h.take n.toNat;have au:=hr.zero τ.1 τ.2.1 τ.2.2;exact ⟨au.1,h,aG,κ,au.2.1⟩
theorem oA.take {w:World} {T:List iC} {L:List (List aQ)} (h:oA w T L) (k:Nat):oA w (T.take k) (L.take k):=
 ⟨by rw [aYa,aYa,h.1],λ i v hi=>by
  rw [aYO] at hi;split at hi
  ·next κ =>
   obtain ⟨l,τ,au,aU⟩:=h.2 i v hi;exact ⟨l,by rw [aYO,aYq κ];exact τ,au,aU⟩
  ·exact absurd hi (by simp)⟩
theorem agN (a:ai.b7) (W:ai) (A:Option Addr) (c:Nat) (T:List iC) (L:List (List aQ)) (w:World) (bZ:ai.Has w a W) (cB:qs.aK 24 w A c T) (dY:oA w T L):
  Calls prog 45 #[.agg #[Φ W.field.wide,Φ W.field.high, .slice a.P W.field.a_.length a.p, .slice a.B W.bf.length a.b, .slice a.S W.bE.length a.s, .slice a.M W.bX.length a.m, .slice a.T W.ao.length a.t,Φ W.next,Φ W.now, .slice A T.length c]] w (λ e w'=>∃ e':Int,e= .returned (Φ e')∧(e'=0↔m_ W L)∧Ext w w'):=by
 refine ch (n:=16) func45 Z Z Z ?_;refine dZ Z Z λ cG bB aR d' ae=> ?_;have hE:=ae.lt;refine aJ Z<|aw<|aa (aj Kh Z)<|aa (ax Z (ae.par [Φ W.field.wide,Φ W.field.high, .slice a.P W.field.a_.length a.p, .slice a.B W.bf.length a.b, .slice a.S W.bE.length a.s, .slice a.M W.bX.length a.m, .slice a.T W.ao.length a.t,Φ W.next,Φ W.now] dz cd Z))<|aa (aj vS Z)<|bk Z ae AR Z<|ca HI Z Z ((IY a W _ _ T L _ (bZ.keep aR) (cB.keep aR) (dY.keep aR)).mono ?_);rintro e BF ⟨MC,af3,aO4,aNs,fx,aUz,rfl,abf,aOv,aOG,aRH,iy⟩;refine cu ?_;have:=iy.size;have hZ:=γ aR iy;refine vm Z<|bs Z Z<|bs Z Z<|bs Z Z<|cU nG Z λ wD aPu qx aE1 ae6=> ?_;have jq:=γ hZ qx;refine st Z Z ae6 Z cd Z Z Z λ vh oQ ae6=> ?_;have ks:=Ext.mod jq oQ bo;refine va Z<|aJ Z<|aB Z<|aY Z<|b_ Z Z<| ?_;exact ⟨MC,Z,abf.Vu,ks⟩
theorem auv (a:ai.b7) (W:ai) (A:Option Addr) (c:Nat) (T:List iC) (L:List (List aQ)) (n:Int) (w:World) (bZ:ai.Has w a W) (cB:qs.aK 24 w A c T) (dY:oA w T L):
  Calls prog 23 #[.agg #[Φ W.field.wide,Φ W.field.high, .slice a.P W.field.a_.length a.p, .slice a.B W.bf.length a.b, .slice a.S W.bE.length a.s, .slice a.M W.bX.length a.m, .slice a.T W.ao.length a.t,Φ W.next,Φ W.now, .slice A T.length c],Φ n] w (λ e w'=>∃ e' a' V,e= .returned (.tuple #[.agg (ai.cells a' V).toArray,Φ e'])∧QT W L n e' V∧bH w' w.heap.size a' V∧Ext w w'):=by
 have Ie:=cB.fa;refine ch (n:=39) func23 Z Z Z ?_;refine dZ Z Z λ cG bB aR d' ae=> ?_;have hE:=ae.lt;refine cU nG Z λ eC cJ bt hP ar=> ?_;have bO:=γ aR bt;have mB:=ar.lt;refine aJ Z<|av<|aw<| ?_;have ae:=ae.later bt;refine aa (ax Z (ae.all AS qV))<|ca ah6 Z Z ((agN a W _ _ T L _ (bZ.keep bO) (cB.keep bO) (dY.keep bO)).mono ?_);rintro e wD ⟨yy,rfl,OA,cr⟩;refine cu ?_;have:=cr.size;have jq:=γ bO cr;refine aJ Z<|aB Z<|cS Z Z<|aC<| ?_;refine eU Z (λ mR=> ?_) (λ mR=> ?_)
 ·refine aw<|aa (v:= .agg #[Φ 0,Φ 0, .slice none 0 0, .slice none 0 0, .slice none 0 0, .slice none 0 0, .slice none 0 0,Φ 0,Φ 0]) (eu Z)<|vm Z<| ?_;have ar:=ar.later cr;refine cF Z Z ar Z cd Z Z λ wE Dp ar=> ?_;have lz:=Ext.mod jq Dp bo;refine aY Z<|bD<|cz (.cell Z (ar.all dz cd) (.tmp Z .nil))<| ?_;exact ⟨yy,⟨none,none,none,none,none,0,0,0,0,0⟩,ai.zero,Z, .inr ⟨(by simpa using mR),λ bw=>(show ¬ yy=0 by simpa using mR) (OA.2 bw.1),Z⟩,bH.zero _ _,lz⟩
 ·have di:m_ W L:=OA.1 (by simpa using mR);have akq:=dY.1;refine bm<|av<|aB Z<|dR Z Z<|vm Z<|ec Z Z<|bh Z (λ hc=>aj vS Z)<| ?_;have ae:=ae.later cr;refine bh Z (λ hc=>ax (gt hc Z) (ae.one AR Z))<|bh Z (λ hc=>b5 underlying30 (gt hc Z))<|bh Z (λ hc=>gO (gt hc Z) (gt hc Z))<|aa (eW Z Z Z Z)<|aC<| ?_;refine du Z (λ y6=> ?_) (λ y6=> ?_)
  ·simp only [bn] at y6;refine aw<|aa (v:= .agg #[Φ 0,Φ 0, .slice none 0 0, .slice none 0 0, .slice none 0 0, .slice none 0 0, .slice none 0 0,Φ 0,Φ 0]) (eu Z)<| ?_;have ar:=ar.later cr;refine cF Z Z ar Z cd Z Z λ rF IH ar=> ?_;have iA:=Ext.mod jq IH bo;refine aY Z<|bD<|cz (.cell Z (ar.all dz cd) (.tmp Z .nil))<| ?_;exact ⟨1,⟨none,none,none,none,none,0,0,0,0,0⟩,ai.zero,Z, .inr ⟨(by decide),λ bw=>by have akq:=dY.1;have:=bw.2;have Oz:=y6;omega,rfl⟩,bH.zero _ _,iA⟩
  ·simp only [bn] at y6;have akG:0≤n∧n≤(T.length:Int):=by have Oz:=y6;omega
   refine bm<|av<| ?_;refine aoo [(1,0),(3,0),(6,2),(11,2),(12,3)] [0,1,2,3,4,5] 6 [7,8,9,10,11,12,13,14] 11 [6,7,8,9,10,12,13,14] (by kernel_rfl) (by kernel_rfl) ?_;refine aq Z (λ _=>aj Kh Z)<|dT Z (λ _ x=>ax Z ((ae.later x).par [Φ W.field.wide,Φ W.field.high, .slice a.P W.field.a_.length a.p, .slice a.B W.bf.length a.b, .slice a.S W.bE.length a.s, .slice a.M W.bX.length a.m, .slice a.T W.ao.length a.t,Φ W.next,Φ W.now] dz cd Z))<|aq Z (λ _=>aj vS Z)<|cf Z Z ae AR Z<|a1 Z Z<|aq Z (λ _=>LI ((n).toNat) (T.take ((n).toNat)).length underlying30 CD Z Z (by omega) (by have:=cB.1;omega) (by rw [aYa];omega))<|fn λ ub d_=> ?_;have:=d_.size;have hH:=γ jq d_;refine aiJ ?_ ?_
   ·refine ff Z Z Z λ zV il Q hK=>ca HI Z Z ((IY a W _ _ (T.take ((n).toNat)) (L.take ((n).toNat)) _ (bZ.keep (γ hH il)) ((cB.keep (γ hH il)).pre ((n).toNat)) ((dY.take ((n).toNat)).keep (γ hH il))).mono ?_);rintro e wG ⟨arH,at8,at3,aNq,aP9,aUx,rfl,aDj,MQ,aOE,aRD,fE⟩;refine ⟨_,Z,hK _ _ ⟨γ il fE, ?_⟩⟩;have:=il.size;have mG:=γ hH il;have:=fE.size;have mH:=γ mG fE;have aKM:=bM MQ.lt;have aFH:=dx MQ.lt;refine a1 Z Z<|aq Z (λ _=>ex Z Z)<|aq Z (λ _=>ex Z Z)<|aq Z (λ _=>ex Z Z)<|ff Z Z Z λ wH fF Q hK=>cU nG Z λ Gt uF kK aFa GX=>hK _ _ ⟨γ fF kK, ?_⟩;have:=fF.size;have j6:=γ mH fF;have rN:=γ j6 kK;refine dE Z Z Z λ DM lS Q hK=>st Z Z (GX.later lS) Z cd Z Z Z λ V0 UN GX=>hK _ _ ?_;have pR:=γ rN lS;have yn:=Ext.mod pR UN bo;refine aq Z (λ _=>ee Z)<|aq Z (λ _=>ee Z)<|fn λ DN hX=> ?_;have rP:=γ yn hX;refine aX<|aw<| ?_;have GX:=GX.later hX;refine aa (ax Z (GX.all dz cd))<|vm Z<| ?_;have ar:=((ar.later (γ cr (γ d_ (γ il (γ fE (γ fF (γ kK lS))))))).mod UN aO).later hX;refine st Z Z ar Z cd Z Z Z λ L8 ab7 ar=> ?_;have o8:=Ext.mod rP ab7 bo;refine aY Z<|cz (.cell Z (ar.all dz cd) (.tmp Z .nil))<| ?_;have MQ:=(((MQ.later (γ fF (γ kK lS))).mod UN (bU aKM)).later hX).mod ab7 (bz aFH);exact ⟨arH,at8,at3,Z, .inl (di.at_ aDj akG.1 (by omega)),MQ.down (by omega),o8⟩
   ·refine ff Z Z Z λ aLN nU Q hK=>cU nG Z λ V3 aPO sG aT0 Eg=>hK _ _ ⟨γ nU sG, ?_⟩;have:=nU.size;have WA:=γ hH nU;have yo:=γ WA sG;have aol:=Eg.lt;refine ff Z Z Z λ Mc dK Q hK=>ca HI Z Z ((IY a W _ _ (T.take ((n).toNat)) (L.take ((n).toNat)) _ (bZ.keep (γ yo dK)) ((cB.keep (γ yo dK)).pre ((n).toNat)) ((dY.take ((n).toNat)).keep (γ yo dK))).mono ?_);rintro e V5 ⟨arK,at9,at5,aNr,aQg,aUy,rfl,aDn,Rb,aOF,aRG,iO⟩;refine ⟨_,Z,hK _ _ ⟨γ dK iO, ?_⟩⟩;have:=dK.size;have qD:=γ yo dK;have D8:=γ qD iO;have am1:=dx Rb.lt;refine a1 Z Z<|aq Z (λ _=>ex Z Z)<|aq Z (λ _=>ex Z Z)<|aq Z (λ _=>ex Z Z)<| ?_;have Eg:=Eg.later (γ dK iO);refine dE Z Z Z λ V6 pQ Q hK=>st Z Z (Eg.later pQ) Z cd Z Z Z λ Md xR Eg=>hK _ _ ?_;have D9:=γ D8 pQ;have vz:=Ext.mod D9 xR bo;refine aq Z (λ _=>ee Z)<|aq Z (λ _=>ee Z)<|fn λ V_ wN=> ?_;have Eb:=γ vz wN;refine aX<|aw<| ?_;have Eg:=Eg.later wN;refine aa (ax Z (Eg.all dz cd))<|vm Z<| ?_;have ar:=((ar.later (γ cr (γ d_ (γ nU (γ sG (γ dK (γ iO pQ))))))).mod xR aO).later wN;refine st Z Z ar Z cd Z Z Z λ Me u_ ar=> ?_;have wR:=Ext.mod Eb u_ bo;refine aY Z<|cz (.cell Z (ar.all dz cd) (.tmp Z .nil))<| ?_;have Rb:=(((Rb.later pQ).mod xR (bz am1)).later wN).mod u_ (bz am1);exact ⟨arK,at9,at5,Z, .inl (di.at_ aDn akG.1 (by omega)),Rb.down (by omega),wR⟩
end
theorem aD6 (ef:FuncId) (cs:List Value) (p:aQ→Bool) (A:Option Addr) (c:Nat) (l:List aQ) (w:World) (ah:aQ.rep.aK 48 w A c l) (ll:Enters prog ef) (gq:∀ x∈l,∀ w',Ext w w'→Calls prog ef (([.agg #[Φ x.by_,Φ x.kind,Φ x.bd,Φ x.spot.x,Φ x.spot.y,Φ x.what]]:List Value)++cs).toArray w' λ e lx=>e= .returned (.bool (p x))∧Ext w' lx):
  Calls prog 180 #[.slice A l.length c, .func (.func ef) #[] cs.toArray] w (λ e w'=>e= .returned (Φ (gY p l))∧Ext w w'):=by
 have tD:=ah.fa;refine ch (n:=19) func180 Z Z Z ?_;refine aw<|aJ Z<|av<|aB Z<|aa (b5 underlying48 Z)<|vm Z<|aC<|bJ<| ?_;refine eV (λ cp cn aP=>∃ k:Nat,cn= [(0, .slice A l.length c),(1, .func (.func ef) #[] cs.toArray),(7,Φ (l.length:Int)),(8,Φ (k:Int))]∧cp=l.length - k∧Ext w aP∧(k≤l.length)∧(∀ i,i<k→p (l.getD i default)=false)) _ _ ⟨0,Z,Z,(Ext.cH w),by omega,λ i hi=>by omega⟩ (eO Z Z Z) ?_;rintro Lh JI cG ⟨k,rfl,rfl,de,ak,aN⟩;refine aw<|dR Z Z<|aC<|av<| ?_;refine en Z (λ mv=> ?_) (λ mv=> ?_)
 ·refine bm<|av<|bJ<|aB Z<|aJ Z<|aB Z<|vm Z<|vm Z<|aa (cl k underlying48 gm Z Z ((ah.keep de).bT (aV k)) Z (by omega))<|aa (ax Z (J.aK.iu OB ((ah.keep de).cD (aV k)) (dt (l:=l) (u:=default) (by omega)) ky gm))<|NB ll Z Z Z ((gq (l.getD k default) (jk (by omega)) _ de).mono ?_);rintro e Je ⟨rfl,rJ⟩;refine cu ?_;have mI:=γ de rJ;refine aC<| ?_;refine du Z (λ jD=> ?_) (λ jD=> ?_)
  ·refine aB Z<|aY Z<|eb<|bD<|m0<|eb<|bD<|b_ Z Z<| ?_;exact ⟨by have e:=O_ (p:=p) (l:=l) (d:=default) (k:=k) (by omega) jD aN;rw [e];rfl,mI⟩
  ·refine fu<|b1<|eM Z Z Z<| ?_;exact eJ ⟨k+1,Z,Z,mI,by omega,sr aN jD⟩
 ·refine dn<|dk<|dG<|dj<|aX<|aw<|aY Z<|b_ Z Z<| ?_;exact ⟨by have e:=O9 (p:=p) (l:=l) (d:=default) (λ i hi=>aN i (by omega));rw [e];rfl,de⟩
section
variable {b c k:Bool}
section
variable {P:Program} {n:Nat} {ops:Array Oper} {Q:Exit→Act→World→Prop} {E:List (Nat×Value)} {w:World} {v:Value} {ty:TypeId} {pos:String} {af:Array Edge} {x y z:Operand} {t:TypeId} {g:Option (Nat×Bool)} {rest:List Oper} {d:Option Nat}
theorem tY {d:Nat} {op:Op} {j:Nat} {q ck:Bool} {dF:Oper} {jV:Nat} (ay:ops[j]? =some dF) (oJ:dF.dst=some jV) (ag:look E jV=some (gQ ck (.bool b))) (hc:(ck && (b == q))=c)
  (hr:c=true→c9 P E ⟨some d,op,ty,pos,af,some (j,q)⟩ w v w) (hd:Nat.blt d n=true) (h:cg P n ops Q rest ((d,gQ c v)::E) w):cg P n ops Q (⟨some d,op,ty,pos,af,some (j,q)⟩::rest) E w :=
 Wa (c:=c) (λ a ha=>by
  have κ:=ha.g _ _ ag;subst hc;cases ck with
  | true=>exact Gw (o:=⟨some d,op,ty,pos,af,some (j,q)⟩) rfl ay oJ (b:=b) ag ha
  | false =>
   simp only [gQ,aY8,aZI] at κ;simp [Region.wanted,yielded,ay,oJ,κ,undef])
  (λ hc a ha=>by unfold Oper.wp;rw [hr hc n a ha];subst hc;exact h _ (ha.put hd v)) (λ hc a ha=>by subst hc;exact h _ (ha.put hd undef))
theorem aHq (ak:k=true) (hx:ev E x=some (.bool b)) (aE:ev E y=some (.bool true)) (bc:ev E z=some (gQ (k && (b == false)) (.bool c))):c9 P E ⟨d, .pick x y z,ty,pos,af,g⟩ w (.bool (b || c)) w:=by
 subst ak;exact eW hx aE Z bc
theorem anW (ak:k=true) (hx:ev E x=some (.bool b)) (bc:ev E z=some (.bool false)) (aE:ev E y=some (gQ (k && (b == true)) (.bool c))):c9 P E ⟨d, .pick x y z,ty,pos,af,g⟩ w (.bool (b && c)) w:=by
 subst ak;exact ei hx bc Z aE
end
end
section
open Go.Proofs.YtmeeljmapailnaaGreat.fL
structure bS where
 a:Option Addr
 n:Nat
 c:Nat
 late:Int
 gone:Bool
instance:Inhabited bS:=⟨⟨none,0,0,0,false⟩⟩
def bS.lO (v:bS):iC:=⟨v.a,v.n,v.c⟩
def bS.raw (j:Nat) (u:Value):Prop:=match j with
 | 0=>∃ a n c,u= .slice a n c
 | 1=>∃ n:Int,u= .int .i64 n
 | 2=>∃ b:Bool,u= .bool b
 | _=>True
def bS.cells (v:bS):List Value:= [.slice v.a v.n v.c,Φ v.late, .bool v.gone]
def bS.rep:J bS:=J.flat 3 bS.cells (λ v=>ea v.late) bS.raw (λ _=>rfl) (by intro a u hu;simp [bS.cells] at hu;rcases hu with rfl | rfl | rfl<;>rfl) (by
 intro a j u hu
 match j,hu with
 | 0,hu=>exact ⟨_,_,_,(aYd hu).symm⟩
 | 1,hu | 2,hu=>exact ⟨_,(aYd hu).symm⟩
 | j+3,hu=>exact trivial)
theorem pe {w:World} {cs:List Value} {a:bS} (h:bS.rep.has w cs a):cs=a.cells:=bas (show cs=a.cells∧ea a.late from h)
def bS.zero:Value:= .agg #[.slice none 0 0,Φ 0, .bool false]
theorem bS.j8:∀ (j:Nat) u,bS.zero.cells[j]? =some u→bS.rep.raw j u:=by
 intro j u hu;have hu:(#[(.slice none 0 0:Value),(Φ 0:Value),(.bool false:Value)]:Array Value)[j]? =some u:=hu
 match j,hu with
 | 0,hu=>exact ⟨_,_,_,(aYd hu).symm⟩
 | 1,hu | 2,hu=>exact ⟨_,(aYd hu).symm⟩
 | j+3,hu=>simp at hu
theorem bS.info:(prog.info? 163).map (λ i=>(i.zero,i.size,i.bytes))=some (some bS.zero,3,40):=by kernel_rfl
theorem bS.oD {by_:Nat} {w:World} {A:Option Addr} {c:Nat} {l:List bS} (h:bS.rep.aK by_ w A c l):∀ a∈l,ea a.late:=J.aK.AB (R:=bS.rep) (Q:=λ a=>ea a.late) (fun {w cs a} (h:bS.rep.has w cs a)=>(show cs=a.cells∧ea a.late from h).2) h
structure cT where
 waits:List aQ
 late:Int
 gone:Bool
 deriving DecidableEq
def qL (w:World) (T:List bS) (S:List cT):Prop:=oA w (T.map bS.lO) (S.map cT.waits)∧T.map (λ v=>(v.late,v.gone))=S.map (λ s=>(s.late,s.gone))
section
variable {w w':World} {T k9:List bS} {S p4:List cT} {k:Nat}
theorem qL.len (h:qL w T S):T.length=S.length:=by have:=h.1.1;simpa using this
theorem qL.keep (h:qL w T S) (x:Ext w w'):qL w' T S:=⟨h.1.keep x,h.2⟩
theorem qL.at_ (h:qL w T S) (ak:k<T.length):∃ A c s,T[k]? =some ⟨A,s.waits.length,c,s.late,s.gone⟩∧S[k]? =some s∧aQ.rep.aK 48 w A c s.waits:=by
 have gC:k<S.length:=by rw [← h.len];exact ak
 obtain ⟨A,c,l,κ,τ,au⟩:=h.1.at_ (k:=k) (by simpa using ak);rw [aYv,aYb ak] at κ;rw [aYv,aYb gC] at τ;have aU:=aZb (λ l=>l[k]?) h.2;simp only [aYv,aYb ak,aYb gC,aZL,baV,bbR] at aU;have κ:=aYd κ;have τ:=aYd τ;refine ⟨A,c,S[k], ?_,aYb gC,by rw [τ];exact au⟩;rw [aYb ak,τ];generalize T[k]=t at κ aU;obtain ⟨a,n,cc,aUf,g⟩:=t;simp only [bS.lO,iC.mk.injEq] at κ;obtain ⟨rfl,rfl,rfl⟩:=κ;rw [← aU.1,← aU.2]
end
def cT.zK (p:Int) (s:cT):Bool:= !(decide (s.late<0) || decide (1000000<s.late) || (s.gone && (s.late != 0 || decide (0<(s.waits.length:Int))))) && !s.waits.any λ o=>o.by_ != p || o.a7 != 0
def yM (S:List cT):Prop:=1≤S.length∧S.length≤8∧∀ (i:Nat) (s:cT),S[i]? =some s→s.waits.length≤50∧s.zK i=true
theorem aJf {S:List cT} {k:Nat} {bG:cT} (aN:∀ (i:Nat) (s:cT),i<k→S[i]? =some s→s.zK i=true) (hS:S[k]? =some bG) (hr:bG.zK k=true) {i:Nat} {s:cT} (hi:i<k+1) (hs:S[i]? =some s):s.zK i=true:=by
 rcases aZc i k with h | h
 ·exact aN i s h hs
 ·obtain rfl:i=k:=by omega
  rw [hS] at hs;obtain rfl:=aYd hs;exact hr
theorem aJc {w:World} {T:List bS} {S:List cT} (hS:qL w T S) (h:(T.any λ t=>decide (50<(t.n:Int)))=true):¬ yM S:=λ aG=>by
 obtain ⟨t,aH,ag⟩:=aZB.1 h;obtain ⟨i,hi,rfl⟩:=aY9.1 aH;obtain ⟨A,c,s,κ,τ,_⟩:=hS.at_ hi;rw [aYb hi] at κ;rw [aYd κ] at ag;have:=(aG.2.2 i s τ).1;simp at ag;omega
theorem aJe {w:World} {T:List bS} {S:List cT} (hS:qL w T S) (h:(T.any λ t=>decide (50<(t.n:Int)))=false):∀ (i:Nat) (s:cT),S[i]? =some s→s.waits.length≤50:=λ i s hs=>by
 have hi:i<T.length:=by rw [hS.len];exact (aX8.1 hs).1
 obtain ⟨A,c,s',κ,τ,_⟩:=hS.at_ hi;rw [hs] at τ;obtain rfl:=aYd τ;rw [aYb hi] at κ;have:=bcc.1 h T[i] (aZs hi);rw [aYd κ] at this;simp at this;omega
theorem aBt (ef:FuncId) (cs:List Value) (p:aQ→Bool) (A:Option Addr) (c:Nat) (l:List aQ) (w:World) (ah:aQ.rep.aK 48 w A c l) (ll:Enters prog ef) (gq:∀ x∈l,∀ w',Ext w w'→Calls prog ef (([.agg #[Φ x.by_,Φ x.kind,Φ x.bd,Φ x.spot.x,Φ x.spot.y,Φ x.what]]:List Value)++cs).toArray w' λ e lx=>e= .returned (.bool (p x))∧Ext w' lx):
  Calls prog 160 #[.slice A l.length c, .func (.func ef) #[] cs.toArray] w (λ e w'=>e= .returned (.bool (l.any p))∧Ext w w'):=by
 refine ch (n:=9) func160 Z Z Z ?_;refine aw<|aJ Z<|aB Z<|vm Z<|cM ayg Z (aD6 ef cs p _ _ l _ (ah.keep (Ext.cH w)) ll (λ x hx w' h=>gq x hx w' (γ (Ext.cH w) h))) λ cG dS=> ?_;refine aa (jg Z Z)<|aY Z<|b_ Z Z<| ?_;exact ⟨by rw [K6];rfl,dS⟩
theorem aD7 (ef:FuncId) (cs:List Value) (p:bS→Bool) (A:Option Addr) (c:Nat) (l:List bS) (w:World) (ah:bS.rep.aK 40 w A c l) (ll:Enters prog ef) (gq:∀ x∈l,∀ w',Ext w w'→Calls prog ef (([.agg #[.slice x.a x.n x.c,Φ x.late, .bool x.gone]]:List Value)++cs).toArray w' λ e lx=>e= .returned (.bool (p x))∧Ext w' lx):
  Calls prog 159 #[.slice A l.length c, .func (.func ef) #[] cs.toArray] w (λ e w'=>e= .returned (Φ (gY p l))∧Ext w w'):=by
 have tD:=ah.fa;refine ch (n:=19) func159 Z Z Z ?_;refine aw<|aJ Z<|av<|aB Z<|aa (b5 underlying34 Z)<|vm Z<|aC<|bJ<| ?_;refine eV (λ cp cn aP=>∃ k:Nat,cn= [(0, .slice A l.length c),(1, .func (.func ef) #[] cs.toArray),(7,Φ (l.length:Int)),(8,Φ (k:Int))]∧cp=l.length - k∧Ext w aP∧(k≤l.length)∧(∀ i,i<k→p (l.getD i default)=false)) _ _ ⟨0,Z,Z,(Ext.cH w),by omega,λ i hi=>by omega⟩ (eO Z Z Z) ?_;rintro Lh JI cG ⟨k,rfl,rfl,de,ak,aN⟩;refine aw<|dR Z Z<|aC<|av<| ?_;refine en Z (λ mv=> ?_) (λ mv=> ?_)
 ·refine bm<|av<|bJ<|aB Z<|aJ Z<|aB Z<|vm Z<|vm Z<|aa (cl k underlying34 l0 Z Z ((ah.keep de).bT (aV k)) Z (by omega))<|aa (ax Z (J.aK.iu pe ((ah.keep de).cD (aV k)) (dt (l:=l) (u:=default) (by omega)) E3 l0))<|NB ll Z Z Z ((gq (l.getD k default) (jk (by omega)) _ de).mono ?_);rintro e Je ⟨rfl,rJ⟩;refine cu ?_;have mI:=γ de rJ;refine aC<| ?_;refine du Z (λ jD=> ?_) (λ jD=> ?_)
  ·refine aB Z<|aY Z<|eb<|bD<|m0<|eb<|bD<|b_ Z Z<| ?_;exact ⟨by have e:=O_ (p:=p) (l:=l) (d:=default) (k:=k) (by omega) jD aN;rw [e];rfl,mI⟩
  ·refine fu<|b1<|eM Z Z Z<| ?_;exact eJ ⟨k+1,Z,Z,mI,by omega,sr aN jD⟩
 ·refine dn<|dk<|dG<|dj<|aX<|aw<|aY Z<|b_ Z Z<| ?_;exact ⟨by have e:=O9 (p:=p) (l:=l) (d:=default) (λ i hi=>aN i (by omega));rw [e];rfl,de⟩
theorem aBu (ef:FuncId) (cs:List Value) (p:bS→Bool) (A:Option Addr) (c:Nat) (l:List bS) (w:World) (ah:bS.rep.aK 40 w A c l) (ll:Enters prog ef) (gq:∀ x∈l,∀ w',Ext w w'→Calls prog ef (([.agg #[.slice x.a x.n x.c,Φ x.late, .bool x.gone]]:List Value)++cs).toArray w' λ e lx=>e= .returned (.bool (p x))∧Ext w' lx):
  Calls prog 126 #[.slice A l.length c, .func (.func ef) #[] cs.toArray] w (λ e w'=>e= .returned (.bool (l.any p))∧Ext w w'):=by
 refine ch (n:=9) func126 Z Z Z ?_;refine aw<|aJ Z<|aB Z<|vm Z<|cM ayh Z (aD7 ef cs p _ _ l _ (ah.keep (Ext.cH w)) ll (λ x hx w' h=>gq x hx w' (γ (Ext.cH w) h))) λ cG dS=> ?_;refine aa (jg Z Z)<|aY Z<|b_ Z Z<| ?_;exact ⟨by rw [K6];rfl,dS⟩
theorem aJM (o:aQ) (p:Int) (b:Nat) (w:World) (aI:aM w b [Φ p] 3 (0,0)):
  Calls prog 161 #[.agg #[Φ o.by_,Φ o.kind,Φ o.bd,Φ o.spot.x,Φ o.spot.y,Φ o.what], .pointer (bA b)] w (λ e w'=>e= .returned (.bool (o.by_ != p || o.a7 != 0))∧Ext w w'):=by
 refine ch (n:=13) func161 Z Z Z ?_;refine dZ Z Z λ cG bB aR d' ae=> ?_;refine aJ Z<|aw<|aa (aj vR Z)<|bk Z ae aT Z<| ?_;have aI:=aI.later aR;refine bk Z aI aT Z<|cS Z Z<|vm Z<|bh Z (λ hc=>ax Z (ae.all ky gm))<|sB Z YQ (λ hc=>gp (gt hc Z) Z) (λ hc=>acw o _) λ eC dm=> ?_;have bO:=γ aR dm;refine bh Z (λ hc=>bne (gt hc Z) Z)<|aa (eW Z Z Z Z)<|aY Z<|b_ Z Z<| ?_;exact ⟨Z,bO⟩
theorem aJN (A:Option Addr) (c:Nat) (s:cT) (p:Int) (w:World) (ah:aQ.rep.aK 48 w A c s.waits):
  Calls prog 128 #[.agg #[.slice A s.waits.length c,Φ s.late, .bool s.gone],Φ p] w (λ e w'=>e= .returned (.bool (s.zK p))∧Ext w w'):=by
 refine ch (n:=33) func128 Z Z Z ?_;refine dZ Z Z λ cG bB aR d' ae=> ?_;refine jR Z Z λ eC cJ bt hP ar=> ?_;have bO:=γ aR bt;refine aJ Z<|av<|aw<|aa (aj Ki Z)<| ?_;have ae:=ae.later bt;refine bk Z ae aT Z<|dR Z Z<|vm Z<|bh Z (λ hc=>aj Ki Z)<|bh Z (λ hc=>ax (gt hc Z) (ae.one aT Z))<|bh Z (λ hc=>gO (gt hc Z) Z)<|aa (eW Z Z Z Z)<|vm Z<|bh Z (λ hc=>aj NQ Z)<|bh Z (λ hc=>ax (gt hc Z) (ae.one CI Z))<|apK Z (λ hc=>(gt hc Z))<|tY Z Z Z Z (λ hc=>aj Ki Z) Z<|tY Z Z Z Z (λ hc=>ax (gt hc Z) (ae.one aT Z)) Z<|tY Z Z Z Z (λ hc=>bne (gt hc Z) Z) Z<|tY Z Z Z Z (λ hc=>gw (gt hc Z)) Z<|tY Z Z Z Z (λ hc=>aj s5 Z) Z<|tY Z Z Z Z (λ hc=>ax (gt hc Z) (ae.one qU Z)) Z<|tY Z Z Z Z (λ hc=>b5 underlying48 (gt hc Z)) Z<|tY Z Z Z Z (λ hc=>gO (gt hc Z) Z) Z<|tY Z Z Z Z (λ hc=>aHq hc (gt hc Z) Z Z) Z<|bh Z (λ hc=>anW hc (gt hc Z) Z Z)<|aa (eW Z Z Z Z)<|aC<| ?_;refine du Z (λ jB=> ?_) (λ jB=> ?_)
 ·refine aw<|aY Z<|bD<|b_ Z Z<| ?_;exact ⟨by unfold cT.zK;rw [jB];rfl,bO⟩
 ·refine bm<|aw<|aa (aj s5 Z)<|bk Z ae qU Z<|aa (Ln Z Z)<|cM ayk Z (aBt 161 [.pointer (bA cJ)] (λ o=>o.by_ != p || o.a7 != 0) _ _ s.waits _ (ah.keep bO) ayj (λ x hx w' h=>aJM x p cJ w' (ar.later h))) λ wD cr=> ?_;have jq:=γ bO cr;refine aa (dJ Z)<|aY Z<|b_ Z Z<| ?_;exact ⟨by unfold cT.zK;rw [jB];rfl,jq⟩
theorem aI9 (t:bS) (w:World):
  Calls prog 127 #[.agg #[.slice t.a t.n t.c,Φ t.late, .bool t.gone]] w (λ e w'=>e= .returned (.bool (decide (50<(t.n:Int))))∧Ext w w'):=by
 refine ch (n:=7) func127 Z Z Z ?_;refine dZ Z Z λ cG bB aR d' ae=> ?_;refine aJ Z<|aw<|aa (aj s5 Z)<|bk Z ae qU Z<|aa (b5 underlying48 Z)<|aa (gO Z Z)<|aY Z<|b_ Z Z<| ?_;exact ⟨Z,aR⟩
theorem Vo (A:Option Addr) (c:Nat) (T:List bS) (S:List cT) (w:World) (cB:bS.rep.aK 40 w A c T) (hS:qL w T S):
  Calls prog 92 #[.slice A T.length c] w (λ e w'=>∃ e':Int,e= .returned (Φ e')∧(e'=0↔yM S)∧Ext w w'):=by
 have Ie:=cB.fa;refine ch (n:=27) func92 Z Z Z ?_;refine aw<|aJ Z<|av<|aB Z<|aa (b5 underlying34 Z)<|dR Z Z<|vm Z<|ec Z Z<|bh Z (λ hc=>b5 underlying34 (gt hc Z))<|bh Z (λ hc=>gO (gt hc Z) Z)<|aa (eW Z Z Z Z)<|aC<| ?_;refine du Z (λ hy=> ?_) (λ hy=> ?_)
 ·simp only [bn] at hy;refine aw<|aY Z<|bD<|b_ Z Z<| ?_;exact ⟨1,Z,⟨λ bw=>absurd bw (by decide),λ bw=>absurd bw (by rintro ⟨κ,τ,_⟩;have:=hS.len;omega)⟩,(Ext.cH w)⟩
 ·simp only [bn] at hy;refine bm<|av<|aB Z<|cM aym Z (aBu 127 [] (λ t=>decide (50<(t.n:Int))) _ _ T _ (cB.keep (Ext.cH w)) ayl (λ x hx w' h=>aI9 x w')) λ l9 aR=> ?_;refine aC<| ?_;refine du Z (λ mv=> ?_) (λ mv=> ?_)
  ·refine aw<|aY Z<|bD<|b_ Z Z<| ?_;exact ⟨2,Z,⟨λ bw=>absurd bw (by decide),λ bw=>absurd bw (λ bw=>aJc hS mv bw)⟩,aR⟩
  ·have aDy:=aJe hS mv;refine bm<|av<|aB Z<|aa (b5 underlying34 Z)<|vm Z<|aC<|bJ<| ?_;refine eV (λ cp cn aP=>∃ k:Nat,cn= [(15, .slice A T.length c),(16,Φ (T.length:Int)),(17,Φ (k:Int))]∧cp=T.length - k∧Ext w aP∧(k≤T.length)∧(∀ (i:Nat) (s:cT),i<k→S[i]? =some s→s.zK i=true)) _ _ ⟨0,Z,Z,aR,by omega,λ i s hi=>by omega⟩ (eO Z Z Z) ?_;rintro anh aOo Je ⟨k,rfl,rfl,mI,ak,aN⟩;have:=mI.size;refine aw<|dR Z Z<|aC<|av<| ?_;refine en Z (λ jA=> ?_) (λ jA=> ?_)
   ·obtain ⟨gZ,ft,bG,hM,ln,hx⟩:=hS.at_ (k:=k) (by omega);refine bm<|av<|bJ<|aB Z<|aa (cl k underlying34 l0 Z Z ((cB.keep mI).bT (aV k)) Z (by omega))<|aa (ax Z (J.aK.iu pe ((cB.keep mI).cD (aV k)) hM E3 l0))<|cU SP Z λ wC uE fi K_ iB=> ?_;have k2:=γ mI fi;refine va Z<|cF Z Z iB Z l0 Z Z λ t_ tL iB=> ?_;have iP:=Ext.mod k2 tL bo;refine aC<|aw<|aa (ax Z (iB.all E3 l0))<|vm Z<|cM ayn Z (aJN gZ ft bG (k:Int) _ (hx.keep iP)) λ nR gb=> ?_;have eZ:=γ iP gb;refine aa (dJ Z)<|aC<| ?_;refine du Z (λ uP=> ?_) (λ uP=> ?_)
    ·refine aw<|aY Z<|eb<|bD<|m0<|eb<|bD<|b_ Z Z<| ?_;exact ⟨4,Z,⟨λ bw=>absurd bw (by decide),λ bw=>absurd bw (λ bw=>by have xv:=(bw.2.2 k bG ln).2;rw [xv] at uP;cases uP)⟩,eZ⟩
    ·have aDt:bG.zK k=true:=by simpa using uP
     refine fu<|b1<|eM Z Z Z<| ?_;exact eJ ⟨k+1,Z,Z,eZ,by omega,λ i s hi hs=>aJf aN ln aDt hi hs⟩
   ·refine dn<|dk<|dG<|dj<|aX<|aw<|aY Z<|b_ Z Z<| ?_;exact ⟨0,Z,⟨λ _=>⟨by have:=hS.len;have Oz:=hy;omega,by have:=hS.len;have Oz:=hy;omega,λ i s hs=>⟨aDy i s hs,aN i s (by have:=(aX8.1 hs).1;have:=hS.len;omega) hs⟩⟩,λ _=>Z⟩,mI⟩
end
theorem Zk {w:World}:∀ {ess:List (List Value)} {l:List Int},dC (λ es a=>bu.has w es a) ess l→ess.flatten=l.map (Value.int .i64)
 | [], [],_=>rfl
 | es::ess,a::l,h=>by
  obtain ⟨κ,τ⟩:=h;rw [aZa,fY κ,Zk τ];rfl
 | [],_::_,h=>h.elim
 | _::_, [],h=>h.elim
theorem XV {w:World}:∀ {l:List Int},(∀ a∈l,ea a)→dC (λ es a=>bu.has w es a) (l.map λ a=> [Value.int .i64 a]) l
 | [],_=>trivial
 | a::l,h=>⟨⟨rfl,h a aYE⟩,XV λ b ag=>h b (aYm _ ag)⟩
end Go.Proofs.YtmeeljmapailnaaGreat
namespace Go.Proofs.YtmeeljmapailnaaGreat.lW
open Tryz
open Go.Proofs.YtmeeljmapailnaaGreat.fL
def step (n:BitVec 32):BitVec 32:=n >>> 1 ^^^ (3988292384#32 &&& -(n &&& 1#32))
def steps:Nat→BitVec 32→BitVec 32
 | 0,n=>n
 | k+1,n=>steps k (step n)
def take (n:BitVec 32) (b:UInt8):BitVec 32:=steps 8 (n ^^^ b.toBitVec.setWidth 32)
def fold (n:BitVec 32) (l:List UInt8):BitVec 32:=l.foldl take n
def more (n:BitVec 32) (l:List UInt8):BitVec 32:= ~~~(fold (~~~n) l)
def of (l:List UInt8):BitVec 32:=more 0#32 l

theorem azS (n:BitVec 32) (l m:List UInt8):fold n (l++m)=fold (fold n l) m:=by
 unfold fold;rw [aZU]
theorem azT (n:BitVec 32) (l:List UInt8) (b:UInt8):fold n (l++ [b])=take (fold n l) b:=by
 rw [azS];rfl

theorem adA (m:BitVec 32):bits BinOp.xor IntKind.u32 (U m / 2) (bits BinOp.and IntKind.u32 3988292384 (-bits BinOp.and IntKind.u32 (U m) 1 % 4294967296))=U (step m):=by
 refine S3 (R7 _ _ _) (R6 _ _ _) ?_;have κ:=anK (n:=32) (U m) 1 (XQ m) (by have:=atY m;omega);rw [acA,anG,aG1,aG4,anG,xU];rw [show (U m / 2:Int)=U m / 2 ^ 1 by rfl,κ,xU];rfl
theorem aEf (x y:Int) (aG:0≤y) (κ:y<256):bits BinOp.xor IntKind.u32 x y=U (BitVec.ofInt 32 x ^^^ (BitVec.ofInt 8 y).setWidth 32):=by
 refine S3 (R7 _ _ _) (R6 _ _ _) ?_;rw [acA];obtain ⟨m,rfl⟩:=aZX aG;congr 1;rw [aZh,aZh];apply bcZ;simp only [aZ2,BitVec.toNat_setWidth];omega
end Go.Proofs.YtmeeljmapailnaaGreat.lW
namespace Go.Proofs.YtmeeljmapailnaaGreat.lW
open Tryz
open Go.RowKit Go.Proofs.YtmeeljmapailnaaGreat.fL

theorem aoy {a b:Int} (h:a=b):Ending.returned (.int .u32 a)= .returned (.int .u32 b):=by rw [h]

theorem aJ5 (m:BitVec 32) (x y:Int) (aG:0≤x) (κ:x≤4294967295) (τ:0≤y) (au:y≤255) (hm:m=BitVec.ofInt 32 x ^^^ (BitVec.ofInt 8 y).setWidth 32) (w:World):
  Calls prog 188 #[.int .u32 x, .int .u8 y] w fun e w'=>e= .returned (.int .u32 (U (steps 8 m)))∧w=w':=by
 have nB:=aYe (aEf x y τ (by omega));rw [← hm] at nB;clear hm;go_enter func188,ntmps188;go_wp2
 go_loop [0,9] (fun x i=>∃ (k:Nat) (q:BitVec 32),k≤8∧i= .int .i64 k∧x= .int .u32 (U q)∧Hid (steps (8 - k) q=steps 8 m)) (fun _ i=>8 - (intOf i).toNat)
 case atStart=>exact ⟨0,m,by omega,rfl,by rw [nB.out],rfl⟩
 case round =>
  obtain ⟨k,q,ak,rfl,rfl,I⟩:=hrel;by_cases bF:k<8
  ·go_wp2
   go_round
   case rel =>
    refine ⟨k+1,step q,by omega,by go_num,by rw [adA], ?_⟩;have h:=I.out;rw [show 8 - k=(8 - (k+1))+1 by omega] at h;exact h
   case measure=>simp [intOf];omega
  ·have akm:k=8:=by omega
   have h:=I.out;rw [akm] at h;clear I akm;have cI:=aYe h;clear h;go_wp2
   go_ret;exact ⟨aoy (by rw [← cI.out];rfl),Z⟩
theorem aJ4 (n:BitVec 32) (b:UInt8) (x y:Int) (hx:x=U n) (aE:y=(b.toNat:Int)) (w:World):
  Calls prog 188 #[.int .u32 x, .int .u8 y] w fun e w'=>e= .returned (.int .u32 (U (take n b)))∧w=w':=by
 subst hx aE;have ag:=b.toNat_lt;refine aJ5 _ _ _ (XQ _) (atX _) (by omega) (by omega) ?_ w;rw [xU];congr 2;rw [aZh];exact (baR 8 b.toBitVec).trans (baQ _) |>.symm

theorem anw (x:Int):bits BinOp.xor IntKind.u32 IntKind.u32.max x=U (~~~(BitVec.ofInt 32 x)):=by
 refine S3 (R7 _ _ _) (R6 _ _ _) ?_;rw [acA];exact BitVec.allOnes_xor

theorem aKa (s:ByteArray) (k:Nat) (h:k<s.size):s.data.toList.take (k+1)=s.data.toList.take k++ [s[k]]:=by
 rw [aYH (by simpa using h)];rfl
theorem acn (x:Int) (s:ByteArray) (aG:0≤x) (κ:x≤4294967295) (hs:s.size≤9223372036854775807) (w:World):
  Calls prog 178 #[.int .u32 x, .string s] w fun e w'=>e= .returned (.int .u32 (U (more (BitVec.ofInt 32 x) s.data.toList)))∧w=w':=by
 obtain ⟨n,mi⟩:∃ n,Hid (n=BitVec.ofInt 32 x):=⟨_,rfl⟩;have fr:=aYe (anw x);rw [← mi.out] at fr;rw [← mi.out];clear aG κ;go_enter func178,ntmps178;go_wp2
 go_loop [0,10] (fun x i=>∃ k:Nat,k≤s.size∧i= .int .i64 k∧x= .int .u32 (U (fold (~~~n) (s.data.toList.take k)))) (fun _ i=>s.size - (intOf i).toNat)
 case atStart=>exact ⟨0,aYX _,rfl,by rw [fr.out];rfl⟩
 case round =>
  obtain ⟨k,ak,rfl,rfl⟩:=hrel;by_cases bF:k<s.size
  ·go_wp2_with (go_at_call 188;refine (aJ4 _ s[k] _ _ rfl rfl _).mono ?_;rintro e w' ⟨rfl,rfl⟩)
   go_round
   case rel =>
    refine ⟨k+1,by omega,by go_num, ?_⟩;rw [aKa s k bF,azT]
   case measure=>simp [intOf];omega
  ·go_wp2
   go_ret;have aCo:k=s.size:=by omega
   exact ⟨aoy (by rw [anw,xU,aCo,aYp (by simp)];rfl),Z⟩
theorem acy (s:ByteArray) (hs:s.size≤9223372036854775807) (w:World):
  Calls prog 152 #[.string s] w fun e w'=>e= .returned (.int .u32 (U (of s.data.toList)))∧w=w':=by
 go_enter func152,ntmps152;go_wp2_with (go_at_call 178;refine (acn _ s (by decide) (by decide) hs _).mono ?_;rintro e w' ⟨rfl,rfl⟩)
 go_ret;exact ⟨Z,Z⟩

end Go.Proofs.YtmeeljmapailnaaGreat.lW
namespace Go.Proofs.YtmeeljmapailnaaGreat.lW
open Tryz
open Go.RowKit Go.Proofs.YtmeeljmapailnaaGreat.fL
def Dh (n:BitVec 32):List UInt8:= [UInt8.ofNat n.toNat,UInt8.ofNat (n.toNat / 256),UInt8.ofNat (n.toNat / 65536),UInt8.ofNat (n.toNat / 16777216)]
def xZ (s:ByteArray):ByteArray:=s++⟨(Dh (of s.data.toList)).toArray⟩
theorem aoI (s:ByteArray):(xZ s).data.toList=s.data.toList++Dh (of s.data.toList):=by
 unfold xZ;rw [ByteArray.data_append,bbP]
theorem Vq (s:ByteArray):(xZ s).size=s.size+4:=by
 have h:=aZb List.length (aoI s);rw [aX9] at h;simp only [aZ0] at h;exact h

theorem aww (n:BitVec 32) (u:World):(convert 263 9 (.slice (some ⟨u.heap.size,0,none⟩) 4 4)).run prog (u.alloc (.cells #[.int .u8 (U n % 256), .int .u8 (U n / 256 % 256), .int .u8 (U n / 65536 % 256), .int .u8 (U n / 16777216 % 256)] 5))=
  .ok (.string ⟨(Dh n).toArray⟩) (u.alloc (.cells #[.int .u8 (U n % 256), .int .u8 (U n / 256 % 256), .int .u8 (U n / 65536 % 256), .int .u8 (U n / 16777216 % 256)] 5)):=by
 refine bda (P:=prog) _ 263 9 5 ⟨u.heap.size,0,none⟩ 4 (Dh n) underlying263 underlying5 underlying9 ?_;intro j ay;rw [af5];have aCm:j<4:=ay;have Tu:U n=(n.toNat:Int):=rfl;rw [Tu]
 match j,aCm with
 | 0,_=>simp [Dh,bax]
 | 1,_=>simp [Dh,bax]
 | 2,_=>simp [Dh,bax]
 | 3,_=>simp [Dh,bax]

theorem adl (s:ByteArray) (hs:s.size≤9223372036854775800) (w:World):
  Calls prog 119 #[.string s] w fun e w'=>e= .returned (.string (xZ s))∧Below w.heap.size w w':=by
 have hcv:=aww (of s.data.toList);have ah:(Dh (of s.data.toList)).length≤4:=aYg _;go_enter func119,ntmps119;go_wp2_with (go_at_call 152;refine (acy _ (by omega) _).mono ?_;rintro e w' ⟨rfl,rfl⟩)
 go_ret;exact ⟨Z,(aYG _ _).alloc (aYg _) _⟩
def np (s:ByteArray):ByteArray×Int :=
 if s.size<4 then (⟨#[]⟩,3) else if xZ (s.extract 0 (s.size - 4))=s then (s.extract 0 (s.size - 4),0) else (⟨#[]⟩,5)

theorem ac6 {a b:ByteArray×Int} (h:b=a):Ending.returned (.tuple #[.string a.1, .int .i64 a.2])= .returned (.tuple #[.string b.1, .int .i64 b.2]):=by rw [h]

theorem aG6 (s:ByteArray) (hs:s.size≤9223372036854775800) (w:World):
  Calls prog 83 #[.string s] w fun e w'=>e= .returned (.tuple #[.string (np s).1, .int .i64 (np s).2])∧Below w.heap.size w w':=by
 by_cases aU:s.size<4
 ·have cI:=aYe (show np s=(⟨#[]⟩,3) by unfold np;rw [aYq aU]);go_enter func83,ntmps83;go_wp2_with fail
  go_ret2
  exact ⟨ac6 cI.out,aYG _ _⟩
 ·have hm:((s.size:Int) - 4)=((s.size - 4:Nat):Int):=by omega
  have bc:(s.extract 0 (s.size - 4)).size≤9223372036854775800:=by rw [ByteArray.size_extract];omega
  obtain ⟨m,mi⟩:∃ m,Hid (m=s.size - 4):=⟨_,rfl⟩;rw [← mi.out] at hm bc;have aCO:m+4≤s.size:=by have:=mi.out;omega
  have aR9:s.size≤m+4:=by have:=mi.out;omega
  by_cases bN:xZ (s.extract 0 m)=s
  ·have cI:=aYe (show np s=(s.extract 0 m,0) by unfold np;rw [← mi.out,aYi aU,aYq bN]);have aAx:=agB bN;have ux:=aYe bN;clear bN;go_enter func83,ntmps83;go_wp2_with (go_at_call 119;refine (adl _ bc _).mono ?_;rintro e w1 ⟨rfl,ag⟩)
   go_ret2
   exact ⟨ac6 cI.out,by assumption⟩
  ·have cI:=aYe (show np s=(⟨#[]⟩,5) by unfold np;rw [← mi.out,aYi aU,aYi bN]);have aAx:=agA bN;clear bN;go_enter func83,ntmps83;go_wp2_with (go_at_call 119;refine (adl _ bc _).mono ?_;rintro e w1 ⟨rfl,ag⟩)
   go_ret2
   exact ⟨ac6 cI.out,by assumption⟩

theorem aG7 (s:ByteArray):np (xZ s)=(s,0):=by
 have κ:(xZ s).extract 0 ((xZ s).size - 4)=s:=by
  apply Yc;rw [bbx,aoI,Vq,baB];have e:s.size+4 - 4 - 0=s.data.toList.length:=by simp
  rw [e,bbG]
 have τ:=Vq s;unfold np;rw [aYi (by omega),κ,aYq rfl]
theorem anS (s:ByteArray):(np s).2=0∧xZ (np s).1=s∨((np s).2=3∨(np s).2=5)∧(np s).1=⟨#[]⟩:=by
 unfold np;split
 ·exact .inr ⟨.inl Z,Z⟩
 ·split
  ·rename_i h;exact .inl ⟨Z,h⟩
  ·exact .inr ⟨.inr Z,Z⟩
end Go.Proofs.YtmeeljmapailnaaGreat.lW
namespace Go.Proofs.YtmeeljmapailnaaGreat
open Tryz
theorem awm (A:Option Addr) (len c n:Nat) (w:World) (hn:1≤n):
  Calls prog 85 #[.slice A len c,Φ (n:Int)] w (λ e w'=>∃ fw hQ,e= .returned (.func (.func 122) #[] #[.pointer (bA fw), .pointer (bA hQ)])∧aM w' fw [.slice A len c] 22 (0,0)∧aM w' hQ [Φ (n:Int)] 3 (0,0)∧w.heap.size≤fw∧fw<hQ∧Ext w w'):=by
 refine ch (n:=9) func85 Z Z Z ?_;refine dZ Z Z λ cG bB aR d' ae=> ?_;have hE:=ae.lt;refine jR Z Z λ eC cJ bt hP ar=> ?_;have bO:=γ aR bt;refine aJ Z<|av<|aw<|bk Z ar aT Z<|dR Z Z<|aC<| ?_;have jB:(decide ((n:Int)<1))=false:=by rw [aYI];omega
 refine gj (by rw [← jB];rfl)<|bm<|aw<|aa (Ln Z Z)<|aY Z<|b_ Z Z<| ?_;have ae:=ae.later bt;exact ⟨bB,cJ,Z,ae,ar,by omega,by omega,bO⟩
theorem awo (q n len c fw hQ:Nat) (A:Option Addr) (w0:World) (hn:1≤n) (hlen:len=q * n) (aCx:len≤c) (oc:c≤9223372036854775807) (m:Nat) (aeP:aM w0 fw [.slice A len c] 22 (0,0)) (aeQ:aM w0 hQ [Φ (n:Int)] 3 (0,0)):
  SeqStopsK (lf none) m prog 122 #[.pointer (bA fw), .pointer (bA hQ)] (λ k:Fin q=>#[.slice (eF A (k.1 * n+n) (k.1 * n) 1) n n]) (Ch fw hQ) (λ xs=>xs=List.finRange q) (λ _=>True) q w0:=by
 intro l k7 aOx W ag aBp aRw aAY aCk;have Ae:=aeP.Uk (ag.block fw aeP.lt);have BV:=aeQ.Uk (ag.block hQ aeQ.lt);have A1:G' W.heap.size k7 [] W:=⟨aBp,aCk⟩;refine Rd.av4 (n:=31) func122 Z Z Z ?_;refine Rd.av<|Rd.rg<|va Z<|nl<|Rd.aX<|Rd.bJ<| ?_;refine Rd.eV (λ cp cn aP=>∃ k:Nat,cn= [(0, .func (.yield l) #[] #[]),(1, .pointer (bA fw)),(2, .pointer (bA hQ)),(4,Φ (((k * n:Nat):Int)))]∧cp=q - k∧True∧aM aP fw [.slice A len c] 22 (0,0)∧aM aP hQ [Φ (n:Int)] 3 (0,0)∧G' W.heap.size k7 ((List.finRange q).take k) aP∧(k≤q)) _ _ ⟨0,Z,Z,trivial,Ae,BV,(A1:G' W.heap.size k7 [] _),by omega⟩ (eO Z Z Z) ?_;rintro Lh JI cG ⟨k,rfl,rfl,de,Ae,BV,A1,ak⟩;refine Rd.av<|Rd.av<|Rd.rg<|vm Z<|bk Z Ae c8 Z<|aa (b5 underlying22 Z)<|dR Z Z<|nl<|Rd.aX<| ?_;refine Rd.en Z (λ ng=> ?_) (λ ng=> ?_)
 ·have Ba:k<q:=Nat.lt_of_mul_lt_mul_right (a:=n) (by omega);have aa2:k * n+n≤q * n:=by rw [← aZ1];exact aYY _ Ba
  refine Rd.fu<|Rd.aX<|Rd.av<|Rd.bJ<|Rd.av<| ?_;refine Rd.rd [(0,0),(1,0)] [0,1,2,3,4,5,6] (by kernel_rfl) (by kernel_rfl) ?_;refine cf Z Z BV aT Z<|cf Z Z Ae c8 Z<|a1 Z Z<|aq Z (λ _=>aI3 (k * n) underlying22 dg Z Z Z (by omega))<|aq Z (λ _=>b5 underlying22 Z)<|aq Z (λ _=>nk Z Z)<|aq Z (λ _=>ee Z)<|fn λ BI sI=> ?_;refine Rd.aX<|Rd.av<|p3.rg<|p3.hW (gw Z) Z<| ?_;have Ae:=Ae.later sI;refine p3.hW (ax Z (Ae.one c8 Z)) Z<|p3.hW (gw Z) Z<|p3.hW (gw Z) Z<|p3.hW (gw Z) Z<|p3.hW (bad Z Z gD) Z<|p3.hW (gw Z) Z<|p3.hW (gw Z) Z<|p3.hW (bad Z Z gD) Z<|p3.hW (aI2 (k * n) (k * n+n) n underlying22 dg Z Z Z Z Z (by omega) (by omega) (by omega) (by omega) (by omega)) Z<| ?_;have BV:=BV.later sI;have A1:=A1.later sI;refine p3.aMl Z Z Z (aMm (aAY _ (⟨k,Ba⟩:Fin q) _ A1.at_ (by rw [aYa,bc5];omega)) ?_);rintro e aqr my;obtain ⟨vK,rfl,κ,τ⟩:=aMn my;refine cu ?_
  replace κ:vK=true→G' W.heap.size k7 ((List.finRange q).take k++ [⟨k,Ba⟩]) aqr∧Ch fw hQ _ aqr:=λ h=>⟨⟨A1.XT,(κ h).1⟩,(κ h).2⟩
  refine p3.hW (dJ Z) Z<|p3.nl<|Rd.aX<| ?_;refine Rd.du Z (λ jA=> ?_) (λ jA=> ?_)
  ·refine Rd.rt<|eb<|Rd.bD<|m0<|eb<|cz .nil<| ?_;exact ⟨⟨_,Z⟩, .inr ⟨_,trivial,τ (by simpa using jA)⟩⟩
  ·obtain ⟨aAF,gC⟩:=κ (by simpa using jA);have Ae:=Ae.Uk gC.1;have BV:=BV.Uk gC.2;refine Rd.fu<|Rd.b1<|Rd.aX<|Rd.rg<|vm Z<|bk Z BV aT Z<|gx Z Z<|va Z<|nl<| ?_;exact Rd.om _ _ ⟨k+1,Z,Z,trivial,Ae,BV,(by rw [← azH Ba];exact aAF),by omega⟩ (by omega) (.cons Z (.cons Z (.cons Z (.cons (FM Z (by rw [aZ1];omega)) .nil))))
 ·have Ba:k=q:=Nat.le_antisymm ak (Nat.le_of_mul_le_mul_right (c:=n) (by omega) hn);refine Rd.dn<|Rd.dk<|dG<|Rd.dj<|Rd.ne<|cz .nil<| ?_;exact ⟨⟨_,Z⟩, .inl ⟨_,Z,by have:=A1.at_;rwa [Ba,aYp (by rw [bc5];omega)] at this⟩⟩
section
def aWH:J UInt8:=J.flat 1 (λ b=> [.int .u8 (b.toNat:Int)]) (λ _=>True) (λ _ u=>∃ n:Int,u= .int .u8 n) (λ _=>rfl) (by intro a u hu;simp at hu;subst hu;rfl) (by
 intro a j u hu;cases j with
 | zero=>simp at hu;exact ⟨_,hu.symm⟩
 | succ j=>simp at hu)
def J6 (l:List UInt8):ByteArray:=⟨l.toArray⟩
section
variable {P:Program} {n:Nat} {E cW:List (Nat×Value)} {w:World} {d:Option Nat} {ty:TypeId} {pos:String} {af:Array Edge} {g:Option (Nat×Bool)} {x y z u:Operand} {t t2:TypeId}
theorem apc (p q:ByteArray):(p == q)=decide (p=q):=by
 rw [bar,aYB];constructor
 ·intro h;obtain ⟨a⟩:=p;obtain ⟨b⟩:=q;have:a=b:=by simpa using (show (a == b)=true from h)
  rw [this]
 ·rintro rfl;obtain ⟨a⟩:=p;show (a == a)=true;simp
theorem au5 {p q:ByteArray} (aH:P.underlying t=some .string) (hx:ev E x=some (.string p)) (aE:ev E y=some (.string q)):c9 P E ⟨d, .binOp .neq t x y t2,ty,pos,af,g⟩ w (.bool (!decide (p=q))) w:=λ n a ha=>by
 have:(eqGuard .neq t x y (.string p) (.string q)).run P w= .ok () w:=by cases x<;>cases y<;>rfl
 have τ:(binOp .neq t (.string p) (.string q)).run P w= .ok (.bool (!decide (p=q))) w:=by
  simp only [binOp,Op.stringOp,aYu];simp [bne,apc];rw [← beq_toListBytes,apc]
 simp only [execOp,ha.ev hx,ha.ev aE,aYt,this,τ,aYj,aYu]
end
end
end Go.Proofs.YtmeeljmapailnaaGreat
