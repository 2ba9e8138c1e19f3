/- law08.MgcdMatchesReference: for every input the law returns true, and its arguments read as before. No condition. -/
import Derived.Test.YtopclbeomcggiaaGreatW42
import Derived.Test.YtopclbeomcggiaaGreatWT1
import Derived.ProofKit
set_option linter.unusedVariables false
set_option linter.unusedSimpArgs false
set_option maxHeartbeats 16000000
set_option maxRecDepth 100000
namespace Go.Proofs.YtopclbeomcggiaaGreat
open Go.ChangeShapes Go.WideShapes Go.ChangeAt Go.RowKit Q
theorem Kh:ownKnob Tryz.prog.godebug=none:=kM
theorem Am:laidOutB Tryz.prog=true:=kM
theorem Ey(os:Os)(started:os.Started)(H:Type)(enc:TypeId × Value->H) :
  ReturnsInHanded {} Tryz.checked os 3 .any (Rows.mgcdMatchesReferenceSpec.pre6 enc Tryz.prog Tryz.f3 Rows.mgcdMatchesReferenceRow.domain false) (Rows.mgcdMatchesReferenceSpec.post enc Tryz.prog Tryz.f3 false true false false):=by
 refine returnsInHanded_of_change (C:=Tryz.checked) Kh started kM Tryz.func3
  (ChangeSpec.witness6 (enc:=enc) (C:=Tryz.checked) false ⟨#[],#[.agg #[.slice none 0 0,.slice none 0 0,.slice none 0 0],.int .u8 0],[]⟩ 8 kM kM kM kM) ?_
 intro W base args I gs before b y z _;have hval:∀(j:Nat) t v,Tryz.f3.params[j]?=some t->args[j]?=some v->Value.okWide Tryz.prog W .any base t v:=b;have k:=y;obtain⟨p,q,i,L,rfl,M,N⟩:=y;have u:DataW.TrodAll enc Tryz.prog W 0 (λ_=>true) true Tryz.f3.params.toList args.toList I p:=i;rw[Tryz.params3]at u hval;obtain⟨D,a0,d0,J,O,q0,l,rfl,rfl,r,R⟩:=trodAll_cons u;obtain⟨E,a1,d1,K,p1,q1,rfl,rfl,rfl,s,S⟩:=trodAll_cons R;obtain⟨rfl,rfl,rfl⟩:=trodAll_nil S;obtain rfl:args=#[D,E]:=by cases args;simp_all
 obtain⟨rfl,rfl⟩:=trodVars_none L;have k0:=r;have n:∀x∈O,x.block<W.heap.size:=by obtain⟨m,hm⟩:=k0;exact DataW.trod_lt m _ _ _ hm
 obtain⟨X,Y,Z,F,LB,G,rfl,wA,wB,wC⟩:=Wz (hval 0 24 D rfl rfl) r;have B:=s;have o:∀x∈p1,x.block<W.heap.size:=by obtain⟨m,hm⟩:=B;exact DataW.trod_lt m _ _ _ hm
 obtain⟨x1,rfl,e1,f1,b1⟩:=open_int Tryz.underlying5 (hval 1 5 E rfl rfl) s;have c1:=bounds_u8 b1;clear i b;refine(Mr X Y Z x1 F LB G W wA wB wC oM oM).mono λe W' ⟨he,d⟩=>?_;subst he;exact⟨_,rfl,_,_,_,[],_,[],k,trodAll_mk1 (shut_bool Tryz.underlying4 _),(trodAll_cons_mk (Below.trod Am kM (of_decide_eq_true kM) k0 d n) (trodAll_cons_mk (Below.trod Am kM (of_decide_eq_true kM) B d o) trodAll_mk0)),rfl,d.frame _,λh=>by cases h⟩
theorem Ki:Rows.mgcdMatchesReferenceRow.holds Tryz.pinned (OpenSpec.ofChange Rows.mgcdMatchesReferenceSpec) :=
 OpenClaim.holds_of_wide 3 Tryz.f3 rfl rfl rfl rfl rfl rfl rfl ⟨rfl,rfl,rfl,rfl,rfl⟩ rfl rfl rfl rfl rfl kM Tryz.func3 kM
  (of_decide_eq_true kM) (by unfold Func.isWrapper;first|(rw[if_pos dK];kernel_rfl)|(rw[if_neg dK];exact⟨rfl,rfl⟩))
  (λos started H enc _=>Ey os started H enc)
theorem match8_proved:Rows.MgcdMatchesReferenceSaid:=Ki
#print axioms match8_proved
end Go.Proofs.YtopclbeomcggiaaGreat
