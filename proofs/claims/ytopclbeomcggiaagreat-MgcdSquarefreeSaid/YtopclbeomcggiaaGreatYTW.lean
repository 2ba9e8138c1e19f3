/- law08.MgcdSquarefree: for every input the law returns true, and its arguments read as before. No condition. -/
import Derived.Test.YtopclbeomcggiaaGreatY40
import Derived.Test.YtopclbeomcggiaaGreatYT1
import Derived.ProofKit
set_option linter.unusedVariables false
set_option linter.unusedSimpArgs false
set_option maxHeartbeats 16000000
set_option maxRecDepth 100000
namespace Go.Proofs.YtopclbeomcggiaaGreat
open Go.ChangeShapes Go.WideShapes Go.ChangeAt Go.RowKit Q
theorem Qy:ownKnob Tryz.prog.godebug=none:=kM
theorem GJ:laidOutB Tryz.prog=true:=kM
theorem K8(os:Os)(started:os.Started)(H:Type)(enc:TypeId × Value->H) :
  ReturnsInHanded {} Tryz.checked os 7 .any (Rows.mgcdSquarefreeSpec.pre6 enc Tryz.prog Tryz.f7 Rows.mgcdSquarefreeRow.domain false) (Rows.mgcdSquarefreeSpec.post enc Tryz.prog Tryz.f7 false true false false):=by
 refine returnsInHanded_of_change (C:=Tryz.checked) Qy started kM Tryz.func7
  (ChangeSpec.witness6 (enc:=enc) (C:=Tryz.checked) false ⟨#[],#[.agg #[.slice none 0 0,.slice none 0 0,.slice none 0 0],.int .u8 0],[]⟩ 8 kM kM kM kM) ?_
 intro W base args G gs before b u y _;have hval:∀(j:Nat) t v,Tryz.f7.params[j]?=some t->args[j]?=some v->Value.okWide Tryz.prog W .any base t v:=b;have k:=u;obtain⟨p,q,i,K,rfl,L,M⟩:=u;have s:DataW.TrodAll enc Tryz.prog W 0 (λ_=>true) true Tryz.f7.params.toList args.toList G p:=i;rw[Tryz.params7]at s hval;obtain⟨B,Z,d0,I,N,q0,l,rfl,rfl,h0,O⟩:=trodAll_cons s;obtain⟨D,a0,d1,J,p1,q1,rfl,rfl,rfl,r,R⟩:=trodAll_cons O;obtain⟨rfl,rfl,rfl⟩:=trodAll_nil R;obtain rfl:args=#[B,D]:=by cases args;simp_all
 obtain⟨rfl,rfl⟩:=trodVars_none K;have k0:=h0;have n:∀x∈N,x.block<W.heap.size:=by obtain⟨m,hm⟩:=k0;exact DataW.trod_lt m _ _ _ hm
 obtain⟨S,X,Y,E,LB,F,rfl,wA,wB,wC⟩:=XE (hval 0 24 B rfl rfl) h0;have z:=r;have o:∀x∈p1,x.block<W.heap.size:=by obtain⟨m,hm⟩:=z;exact DataW.trod_lt m _ _ _ hm
 obtain⟨x1,rfl,e1,f1,b1⟩:=open_int Tryz.underlying5 (hval 1 5 D rfl rfl) r;have c1:=bounds_u8 b1;clear i b;refine(TW S X Y x1 E LB F W wA wB oM oM).mono λe W' ⟨he,d⟩=>?_;subst he;exact⟨_,rfl,_,_,_,[],_,[],k,trodAll_mk1 (shut_bool Tryz.underlying4 _),(trodAll_cons_mk (Below.trod GJ kM (of_decide_eq_true kM) k0 d n) (trodAll_cons_mk (Below.trod GJ kM (of_decide_eq_true kM) z d o) trodAll_mk0)),rfl,d.frame _,λh=>by cases h⟩
theorem Qz:Rows.mgcdSquarefreeRow.holds Tryz.pinned (OpenSpec.ofChange Rows.mgcdSquarefreeSpec) :=
 OpenClaim.holds_of_wide 7 Tryz.f7 rfl rfl rfl rfl rfl rfl rfl ⟨rfl,rfl,rfl,rfl,rfl⟩ rfl rfl rfl rfl rfl kM Tryz.func7 kM
  (of_decide_eq_true kM) (by unfold Func.isWrapper;first|(rw[if_pos dK];kernel_rfl)|(rw[if_neg dK];exact⟨rfl,rfl⟩))
  (λos started H enc _=>K8 os started H enc)
theorem sqf8_proved:Rows.MgcdSquarefreeSaid:=Qz
#print axioms sqf8_proved
end Go.Proofs.YtopclbeomcggiaaGreat
