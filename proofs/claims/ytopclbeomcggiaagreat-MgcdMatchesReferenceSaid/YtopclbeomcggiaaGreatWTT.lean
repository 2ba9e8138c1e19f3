/- law08.MgcdMatchesReference: for every input the law returns true, and its arguments read as before. No condition. -/
import Derived.Test.YtopclbeomcggiaaGreatW42
import Derived.Test.YtopclbeomcggiaaGreatWT1
import Derived.ProofKit
set_option linter.unusedVariables false
set_option linter.unusedSimpArgs false
set_option maxHeartbeats 16000000
set_option maxRecDepth 100000
namespace Go.Proofs.YtopclbeomcggiaaGreat
open Go.ChangeShapes Go.WideShapes Go.ChangeAt Go.RowKit Q
theorem J3:ownKnob Tryz.prog.godebug=none:=kM
theorem Ae:laidOutB Tryz.prog=true:=kM
theorem En(os:Os)(started:os.Started)(H:Type)(enc:TypeId × Value->H) :
  ReturnsInHanded {} Tryz.checked os 3 .any (Rows.mgcdMatchesReferenceSpec.pre6 enc Tryz.prog Tryz.f3 Rows.mgcdMatchesReferenceRow.domain false) (Rows.mgcdMatchesReferenceSpec.post enc Tryz.prog Tryz.f3 false true false false):=by
 refine returnsInHanded_of_change (C:=Tryz.checked) J3 started kM Tryz.func3
  (ChangeSpec.witness6 (enc:=enc) (C:=Tryz.checked) false ⟨#[],#[.agg #[.slice none 0 0,.slice none 0 0,.slice none 0 0],.int .u8 0],[]⟩ 8 kM kM kM kM) ?_
 intro W base args ds gs before b y r _;have hval:∀(j:Nat) t v,Tryz.f3.params[j]?=some t->args[j]?=some v->Value.okWide Tryz.prog W .any base t v:=b;have l:=y;obtain⟨p,q,i,Z,rfl,X,R⟩:=y;have D:DataW.TrodAll enc Tryz.prog W 0 (λ_=>true) true Tryz.f3.params.toList args.toList ds p:=i;rw[Tryz.params3]at D hval;obtain⟨z,Y,d0,I,N,q0,o,rfl,rfl,B,r0⟩:=trodAll_cons D;obtain⟨s,K,d1,G,p1,q1,rfl,rfl,rfl,u,O⟩:=trodAll_cons r0;obtain⟨rfl,rfl,rfl⟩:=trodAll_nil O;obtain rfl:args=#[z,s]:=by cases args;simp_all
 obtain⟨rfl,rfl⟩:=trodVars_none Z;have k0:=B;have n:∀x∈N,x.block<W.heap.size:=by obtain⟨m,hm⟩:=k0;exact DataW.trod_lt m _ _ _ hm
 obtain⟨F,sB,L,J,LB,M,rfl,wA,wB,S⟩:=Wq (hval 0 24 z rfl rfl) B;have E:=u;have k:∀x∈p1,x.block<W.heap.size:=by obtain⟨m,hm⟩:=E;exact DataW.trod_lt m _ _ _ hm
 obtain⟨x1,rfl,e1,f1,b1⟩:=open_int Tryz.underlying5 (hval 1 5 s rfl rfl) u;have c1:=bounds_u8 b1;clear i b;refine(Mh F sB L x1 J LB M W wA wB S oM oM).mono λe W' ⟨he,d⟩=>?_;subst he;exact⟨_,rfl,_,_,_,[],_,[],l,trodAll_mk1 (shut_bool Tryz.underlying4 _),(trodAll_cons_mk (Below.trod Ae kM (of_decide_eq_true kM) k0 d n) (trodAll_cons_mk (Below.trod Ae kM (of_decide_eq_true kM) E d k) trodAll_mk0)),rfl,d.frame _,λh=>by cases h⟩
theorem J4:Rows.mgcdMatchesReferenceRow.holds Tryz.pinned (OpenSpec.ofChange Rows.mgcdMatchesReferenceSpec) :=
 OpenClaim.holds_of_wide 3 Tryz.f3 rfl rfl rfl rfl rfl rfl rfl ⟨rfl,rfl,rfl,rfl,rfl⟩ rfl rfl rfl rfl rfl kM Tryz.func3 kM
  (of_decide_eq_true kM) (by unfold Func.isWrapper;first|(rw[if_pos dK];kernel_rfl)|(rw[if_neg dK];exact⟨rfl,rfl⟩))
  (λos started H enc _=>En os started H enc)
theorem match8_proved:Rows.MgcdMatchesReferenceSaid:=J4
#print axioms match8_proved
end Go.Proofs.YtopclbeomcggiaaGreat
