/- law08.MgcdDivides: for every input the law returns true, and its arguments read as before. No condition. -/
import Derived.Test.YtopclbeomcggiaaGreatE46
import Derived.Test.YtopclbeomcggiaaGreatET1
import Derived.Below
import Derived.ChangeOld
import Derived.OpenShut
import Derived.ProofKit
import Derived.Test.YtopclbeomcggiaaGreatRows
import Derived.WalkKit
set_option linter.unusedVariables false
set_option linter.unusedSimpArgs false
set_option maxHeartbeats 16000000
set_option maxRecDepth 100000
namespace Go.Proofs.YtopclbeomcggiaaGreat
open Go.ChangeShapes Go.WideShapes Go.ChangeAt Go.RowKit Q
theorem gcddiv_knob:ownKnob Tryz.prog.godebug=none:=by kernel_rfl
theorem gcddiv_laid:laidOutB Tryz.prog=true:=by kernel_rfl
theorem gcddiv_lifted (os:Os) (started:os.Started) (H:Type) (enc:TypeId × Value->H) :
  ReturnsInHanded {} Tryz.checked os 4 .any (Rows.mgcdDividesSpec.pre6 enc Tryz.prog Tryz.f4 Rows.mgcdDividesRow.domain false) (Rows.mgcdDividesSpec.post enc Tryz.prog Tryz.f4 false true false false):=by
 refine returnsInHanded_of_change (C:=Tryz.checked) gcddiv_knob started (by kernel_rfl) Tryz.func4
  (ChangeSpec.witness6 (enc:=enc) (C:=Tryz.checked) false ⟨#[],#[.agg #[.slice none 0 0,.slice none 0 0,.slice none 0 0]],[]⟩ 8 (by kernel_rfl) (by kernel_rfl) (by kernel_rfl) (by kernel_rfl)) ?_
 intro W base args ds gs before hval0 hW hcnd _;have hval:∀ (j:Nat) t v,Tryz.f4.params[j]?=some t->args[j]?=some v->Value.okWide Tryz.prog W .any base t v:=hval0;have hW':=hW;obtain⟨p,q,hA0,hV,rfl,hfz,hnd⟩:=hW;have hA:DataW.TrodAll enc Tryz.prog W 0 (fun _=>true) true Tryz.f4.params.toList args.toList ds p:=hA0;rw [Tryz.params4] at hA hval;obtain⟨v0,vs0,d0,ds0,p0,q0,hargs,rfl,rfl,h0,r0⟩:=trodAll_cons hA;obtain⟨rfl,rfl,rfl⟩:=trodAll_nil r0;obtain rfl:args=#[v0]:=by cases args;simp_all
 obtain⟨rfl,rfl⟩:=trodVars_none hV;have k0:=h0;have lt0:∀ x∈p0,x.block<W.heap.size:=by obtain⟨m,hm⟩:=k0;exact DataW.trod_lt m _ _ _ hm
 obtain⟨sA,sB,sC,LA,LB,LC,rfl,wA,wB,wC⟩:=raw_of (hval 0 24 v0 rfl rfl) h0;clear hA0 hval0;refine (gcddiv_any sA sB sC LA LB LC W wA wB wC).mono fun e W' ⟨he,bel⟩=>?_;subst he;exact⟨_,rfl,_,_,_,[],_,[],hW',trodAll_mk1 (shut_bool Tryz.underlying4 _),(trodAll_cons_mk (Below.trod gcddiv_laid (by kernel_rfl) (of_decide_eq_true (by kernel_rfl)) k0 bel lt0) trodAll_mk0),rfl,bel.frame _,fun h=>by cases h⟩
theorem gcddiv_over:Rows.mgcdDividesRow.holds Tryz.pinned (OpenSpec.ofChange Rows.mgcdDividesSpec) :=
 OpenClaim.holds_of_wide 4 Tryz.f4 rfl rfl rfl rfl rfl rfl rfl ⟨rfl,rfl,rfl,rfl,rfl⟩ rfl rfl rfl rfl rfl (by kernel_rfl) Tryz.func4 (by kernel_rfl)
  (of_decide_eq_true (by kernel_rfl)) (by unfold Func.isWrapper;first|(rw [if_pos (by decide +kernel)];kernel_rfl)|(rw [if_neg (by decide +kernel)];exact⟨rfl,rfl⟩))
  (fun os started H enc _=>gcddiv_lifted os started H enc)
theorem gcddiv_proved:Rows.MgcdDividesSaid:=gcddiv_over
#print axioms gcddiv_proved
end Go.Proofs.YtopclbeomcggiaaGreat
