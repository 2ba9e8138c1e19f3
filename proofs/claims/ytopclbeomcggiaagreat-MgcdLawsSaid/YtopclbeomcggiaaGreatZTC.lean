/- law08.MgcdLaws: for every input the law returns true, and its arguments read as before. No condition. -/
import Derived.Test.YtopclbeomcggiaaGreatZT1
import Derived.Test.YtopclbeomcggiaaGreatZTB
import Derived.ProofKit
set_option linter.unusedVariables false
set_option linter.unusedSimpArgs false
set_option maxHeartbeats 16000000
set_option maxRecDepth 100000
namespace Go.Proofs.YtopclbeomcggiaaGreat
open Go.ChangeShapes Go.WideShapes Go.ChangeAt Go.RowKit Q
theorem Jq:ownKnob Tryz.prog.godebug=none:=kM
theorem Jr:laidOutB Tryz.prog=true:=kM
theorem Fp(os:Os)(started:os.Started)(H:Type)(enc:TypeId × Value->H) :
  ReturnsInHanded {} Tryz.checked os 5 .any (Rows.mgcdLawsSpec.pre6 enc Tryz.prog Tryz.f5 Rows.mgcdLawsRow.domain false) (Rows.mgcdLawsSpec.post enc Tryz.prog Tryz.f5 false true false false):=by
 refine returnsInHanded_of_change (C:=Tryz.checked) Jq started kM Tryz.func5
  (ChangeSpec.witness6 (enc:=enc) (C:=Tryz.checked) false ⟨#[],#[.agg #[.slice none 0 0,.slice none 0 0,.slice none 0 0]],[]⟩ 8 kM kM kM kM) ?_
 intro W base args D gs before b s u _;have hval:∀(j:Nat) t v,Tryz.f5.params[j]?=some t->args[j]?=some v->Value.okWide Tryz.prog W .any base t v:=b;have k:=s;obtain⟨p,q,i,F,rfl,G,I⟩:=s;have r:DataW.TrodAll enc Tryz.prog W 0 (λ_=>true) true Tryz.f5.params.toList args.toList D p:=i;rw[Tryz.params5]at r hval;obtain⟨y,O,d0,E,J,Z,l,rfl,rfl,o,K⟩:=trodAll_cons r;obtain⟨rfl,rfl,rfl⟩:=trodAll_nil K;obtain rfl:args=#[y]:=by cases args;simp_all
 obtain⟨rfl,rfl⟩:=trodVars_none F;have k0:=o;have n:∀x∈J,x.block<W.heap.size:=by obtain⟨m,hm⟩:=k0;exact DataW.trod_lt m _ _ _ hm
 obtain⟨L,M,N,z,LB,B,rfl,R,S,X⟩:=Jp (hval 0 24 y rfl rfl) o;clear i b;refine(Mh L M N z LB B W R S X).mono λe Y ⟨he,d⟩=>?_;subst he;exact⟨_,rfl,_,_,_,[],_,[],k,trodAll_mk1 (shut_bool Tryz.underlying4 _),(trodAll_cons_mk (Below.trod Jr kM (of_decide_eq_true kM) k0 d n) trodAll_mk0),rfl,d.frame _,λh=>by cases h⟩
theorem Js:Rows.mgcdLawsRow.holds Tryz.pinned (OpenSpec.ofChange Rows.mgcdLawsSpec) :=
 OpenClaim.holds_of_wide 5 Tryz.f5 rfl rfl rfl rfl rfl rfl rfl ⟨rfl,rfl,rfl,rfl,rfl⟩ rfl rfl rfl rfl rfl kM Tryz.func5 kM
  (of_decide_eq_true kM) (by unfold Func.isWrapper;first|(rw[if_pos dK];kernel_rfl)|(rw[if_neg dK];exact⟨rfl,rfl⟩))
  (λos started H enc _=>Fp os started H enc)
theorem gcdlaws_proved:Rows.MgcdLawsSaid:=Js
#print axioms gcdlaws_proved
end Go.Proofs.YtopclbeomcggiaaGreat
