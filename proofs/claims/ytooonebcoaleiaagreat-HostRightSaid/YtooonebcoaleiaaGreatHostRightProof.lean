import Derived.Test.YtooonebcoaleiaaGreatHrt
import Derived.Test.YtooonebcoaleiaaGreatRows
import Derived.ShutString
set_option linter.all false
/-
  The law HostRight: for every input the program's function returns true, and what it was handed reads as it read before.
-/
namespace Go.Proofs.YtooonebcoaleiaaGreat.hostRightEnd
open Go.ChangeShapes Go.WideShapes Go.ChangeAt Go.RowKit
open Go.ChangeMaps (open_string shut_string)

def own : ownKnob Tryz.prog.godebug = none :=by kernel_rfl
def laidOut : laidOutB Tryz.prog = true :=by kernel_rfl

set_option maxRecDepth 100000 in
theorem contract(H : Type)(enc : TypeId × Value -> H)(W : World)(o : Nat)(args : Array Value)(ds b : List (DataW H))(K : List MemPlace)
    (k : ∀(j : Nat) t v,Tryz.f3.params[j]? = some t -> args[j]? = some v -> Value.okWide Tryz.prog W .any o t v)
    (r : DataW.Whole enc Tryz.prog Tryz.f3.params.toList Rows.hostRightSpec.vars false W args.toList ds b K)
    (G :(DataW.weightsEach Tryz.prog (Tryz.f3.params.toList ++ Rows.hostRightSpec.plain.varTypes Tryz.prog) (ds ++ b)).all (· <= reachBytes) = true) :
    Calls Tryz.prog 3 args W λe y => ∃ v,e = .returned v/\Rows.hostRightSpec.post enc Tryz.prog Tryz.f3 false true false false W args v y :=by
  have d : ∀(j : Nat) t v,Tryz.f3.params[j]? = some t -> args[j]? = some v -> Value.okWide Tryz.prog W .any o t v :=k;have F :=r;obtain⟨p,q,i,M,rfl,Y,jt⟩ :=r;have u : DataW.TrodAll enc Tryz.prog W 0 (λ_ => true) true Tryz.f3.params.toList args.toList ds p :=i;have f :(DataW.weightsEach Tryz.prog (Tryz.f3.params.toList ++ Rows.hostRightSpec.plain.varTypes Tryz.prog) (ds ++ b)).all (· <= reachBytes) = true :=G;rw[Tryz.params3]at u d f;obtain⟨z,V,d0,T,C,qV,aa,rfl,rfl,l,B⟩ :=trodAll_cons u;obtain⟨A,X,d1,U,O,kH,rfl,rfl,rfl,n,R⟩ :=trodAll_cons B;obtain⟨rfl,rfl,rfl⟩ :=trodAll_nil R;obtain rfl : args = #[z,A] :=by cases args; simp_all
  obtain⟨rfl,rfl⟩ :=trodVars_none M;have g :=l;have D : ∀ x ∈ C,x.block < W.heap.size :=by obtain⟨m,c⟩ :=g; exact DataW.trod_lt m _ _ _ c
  obtain⟨L,rfl,_⟩ :=okWide_struct Tryz.underlying39 (d 0 39 z rfl rfl);have S :=(a02 (P :=Tryz.prog) (w :=W) (.cons (.cons (.cons (.cons (.int .i64) (.cons (.int .i64) (.cons (.slice (.int .i64) 8) .nil))) (.cons (.slice (.cons (.int .i64) (.cons (.int .i64) .nil)) 16) (.cons (.slice (.int .i64) 8) (.cons (.slice (.int .i64) 8) (.cons (.slice (.cons (.int .i64) (.cons (.int .i64) (.cons (.int .i64) (.cons (.cons (.int .i64) (.cons (.int .i64) .nil)) (.cons (.int .i64) (.cons (.int .i64) .nil)))))) 56) (.cons (.int .i64) (.cons (.int .i64) .nil))))))) (.cons (.slice (.slice (.cons (.int .i64) (.cons (.int .i64) (.cons (.int .i64) (.cons (.cons (.int .i64) (.cons (.int .i64) .nil)) (.cons (.int .i64) .nil))))) 48) 24) .nil)) (.cons (.slice (.cons (.slice (.cons (.int .i64) (.cons (.int .i64) (.cons (.int .i64) (.cons (.cons (.int .i64) (.cons (.int .i64) .nil)) (.cons (.int .i64) .nil))))) 48) (.cons (.int .i64) (.cons .bool .nil))) 40) (.cons (.cons (.int .u32) (.cons (.slice (.int .u32) 4) .nil)) (.cons (.int .i64) .nil)))) (j :=0) (t :=39) GT f rfl rfl l).2;have s :=n;have E : ∀ x ∈ O,x.block < W.heap.size :=by obtain⟨m,c⟩ :=s; exact DataW.trod_lt m _ _ _ c
  obtain⟨c1,rfl,_⟩ :=okWide_struct Tryz.underlying45 (d 1 45 A rfl rfl);have Q :=(a02 (P :=Tryz.prog) (w :=W) (.cons (.int .i64) (.cons (.cons (.int .i64) (.cons (.int .i64) (.cons (.int .i64) (.cons (.cons (.int .i64) (.cons (.int .i64) .nil)) (.cons (.int .i64) .nil))))) (.cons (.int .i64) (.cons (.int .i64) .nil)))) (j :=1) (t :=45) GT f rfl rfl n).2;clear i k;refine(a3Z L c1 W S Q).mono λe y ⟨N,a⟩ =>?_;subst N;exact⟨_,Z,_,_,_,[],_,[],F,trodAll_mk1 (shut_bool Tryz.underlying4 _),(trodAll_cons_mk (Below.trod laidOut GT (bbx GT) g a D) (trodAll_cons_mk (Below.trod laidOut GT (bbx GT) s a E) trodAll_mk0)),Z,a.frame _,λh => by cases h⟩

set_option maxRecDepth 100000 in
theorem lifted(a : Os)(h : a.Started)(H : Type)(enc : TypeId × Value -> H) :
    ReturnsInHanded {} Tryz.checked a 3 .any (Rows.hostRightSpec.pre6 enc Tryz.prog Tryz.f3 Rows.hostRightRow.domain false) (Rows.hostRightSpec.post enc Tryz.prog Tryz.f3 false true false false) :=by
  refine returnsInHanded_of_change_sized (C :=Tryz.checked) own h GT Tryz.func3
    (ChangeSpec.witness6 (enc :=enc) (C :=Tryz.checked) false ⟨#[],#[.agg #[.int .i64 0,.int .i64 0,.slice none 0 0,.slice none 0 0,.slice none 0 0,.slice none 0 0,.slice none 0 0,.int .i64 0,.int .i64 0,.slice none 0 0,.slice none 0 0,.int .u32 0,.slice none 0 0,.int .i64 0],.agg #[.int .i64 0,.int .i64 0,.int .i64 0,.int .i64 0,.int .i64 0,.int .i64 0,.int .i64 0,.int .i64 0,.int .i64 0]],[]⟩ 8 GT GT GT GT) ?_
  intro W b args ds e c f d _ g _;exact contract H enc W b args ds e c f d g

theorem proved : Rows.HostRightSaid :=
  OpenClaim.holds_of_wide 3 Tryz.f3 rfl rfl rfl rfl rfl rfl rfl ⟨rfl,rfl,rfl,rfl,rfl⟩ rfl rfl rfl rfl rfl GT Tryz.func3 GT
    (bbx GT) (by unfold Func.isWrapper; first|(rw[bap (by decide +kernel)]; kernel_rfl)|(rw[ban (by decide +kernel)]; exact⟨rfl,rfl⟩))
    (λa b H enc _ => lifted a b H enc)
#print axioms proved
end Go.Proofs.YtooonebcoaleiaaGreat.hostRightEnd
