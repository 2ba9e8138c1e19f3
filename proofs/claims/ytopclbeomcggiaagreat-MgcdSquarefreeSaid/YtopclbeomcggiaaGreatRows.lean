/-
  No cell of these rows narrows 'for every input' (looked for: loops, veiled, ifaces, maps, wideKeys, modest, calm, conditions, laid).
  DERIVED. THE GIVEN ROWS OF THIS SEAT. 7 by the template 'for every input the law returns true; each argument reads behind the call as it read before'; 0 by the template 'total and deterministic' (their statements: YtopclbeomcggiaaGreatTotals.lean).
  GIVEN WITH THE SEED: the statements are not yours to turn. If you find one false, say at which input.
  Laid BY PROGRAM, IN A SANDBOX (cutbox-rows.mjs): the forced cells as the released guide's own fill.sh prints them over the translation 3071c03c9419a492… (all of the seat's roots in one cut). By AI agents, Wed Nov 11 2026. No macro, syntax, notation, axiom, sorry.
-/
import Derived.Test.YtopclbeomcggiaaGreatChecked
import GoSem.Claim
import GoSem.ClaimJoined
import GoSem.ClaimMapViews
import Derived.JoinedTies
import Derived.KernelRfl
namespace Go.Proofs.YtopclbeomcggiaaGreat
/- THE CELL 'sum', in the pinned program and in every row, IS THE sha256 OF THE DUMP (.gsa) THAT YtopclbeomcggiaaGreatProg.lean LOADS. Nothing in Lean hashes anything: it is a label: what it is worth is what the hold of that sum in a sandbox is worth. -/
noncomputable def Tryz.pinned : Pinned := { name := "ytopclbeomcggiaagreat", sum := "3071c03c9419a492baa7528493e2568f6d09e316b6b0706ce4795e256ce68ba7", checked := Tryz.checked }
namespace Rows
def none {H : Type} : Left H := { results := [], args := [] }

/-- 'quadraturelaw08.MgcdMatchesReference': WHATEVER THE INPUT: true; the input reads as it did. -/
def mgcdMatchesReferenceSpec : ChangeSpec := { name := "mgcdMatchesReference", fn := fun _ => fun
  | [d1, d2] => { results := [.lit (.bool true)], args := [d1, d2] }
  | _ => none }
def mgcdMatchesReferenceRow : OpenClaim := { program := "ytopclbeomcggiaagreat", sum := "3071c03c9419a492baa7528493e2568f6d09e316b6b0706ce4795e256ce68ba7", func := "quadrature/quadraturelaw08.MgcdMatchesReference", spec := "mgcdMatchesReference", unfollowed := true, recurses := true, plainKeys := false, apart := false }
def MgcdMatchesReferenceSaid : Prop := mgcdMatchesReferenceRow.holds Tryz.pinned (OpenSpec.ofChange mgcdMatchesReferenceSpec)

/-- ITS FALSE NEIGHBOUR: 'it returns false'. Refute it at one input. -/
def mgcdMatchesReferenceWrong : ChangeSpec := { name := "mgcdMatchesReference", fn := fun _ => fun
  | [d1, d2] => { results := [.lit (.bool false)], args := [d1, d2] }
  | _ => none }
def MgcdMatchesReferenceWrongFalsely : Prop := mgcdMatchesReferenceRow.holds Tryz.pinned (OpenSpec.ofChange mgcdMatchesReferenceWrong)

/-- 'quadraturelaw08.MgcdDivides': WHATEVER THE INPUT: true; the input reads as it did. -/
def mgcdDividesSpec : ChangeSpec := { name := "mgcdDivides", fn := fun _ => fun
  | [d] => { results := [.lit (.bool true)], args := [d] }
  | _ => none }
def mgcdDividesRow : OpenClaim := { program := "ytopclbeomcggiaagreat", sum := "3071c03c9419a492baa7528493e2568f6d09e316b6b0706ce4795e256ce68ba7", func := "quadrature/quadraturelaw08.MgcdDivides", spec := "mgcdDivides", unfollowed := true, recurses := true, plainKeys := false, apart := false }
def MgcdDividesSaid : Prop := mgcdDividesRow.holds Tryz.pinned (OpenSpec.ofChange mgcdDividesSpec)

/-- ITS FALSE NEIGHBOUR: 'it returns false'. Refute it at one input. -/
def mgcdDividesWrong : ChangeSpec := { name := "mgcdDivides", fn := fun _ => fun
  | [d] => { results := [.lit (.bool false)], args := [d] }
  | _ => none }
def MgcdDividesWrongFalsely : Prop := mgcdDividesRow.holds Tryz.pinned (OpenSpec.ofChange mgcdDividesWrong)

/-- 'quadraturelaw08.MgcdLaws': WHATEVER THE INPUT: true; the input reads as it did. -/
def mgcdLawsSpec : ChangeSpec := { name := "mgcdLaws", fn := fun _ => fun
  | [d] => { results := [.lit (.bool true)], args := [d] }
  | _ => none }
def mgcdLawsRow : OpenClaim := { program := "ytopclbeomcggiaagreat", sum := "3071c03c9419a492baa7528493e2568f6d09e316b6b0706ce4795e256ce68ba7", func := "quadrature/quadraturelaw08.MgcdLaws", spec := "mgcdLaws", unfollowed := true, recurses := true, plainKeys := false, apart := false }
def MgcdLawsSaid : Prop := mgcdLawsRow.holds Tryz.pinned (OpenSpec.ofChange mgcdLawsSpec)

/-- ITS FALSE NEIGHBOUR: 'it returns false'. Refute it at one input. -/
def mgcdLawsWrong : ChangeSpec := { name := "mgcdLaws", fn := fun _ => fun
  | [d] => { results := [.lit (.bool false)], args := [d] }
  | _ => none }
def MgcdLawsWrongFalsely : Prop := mgcdLawsRow.holds Tryz.pinned (OpenSpec.ofChange mgcdLawsWrong)

/-- 'quadraturelaw08.MgcdContents': WHATEVER THE INPUT: true; the input reads as it did. -/
def mgcdContentsSpec : ChangeSpec := { name := "mgcdContents", fn := fun _ => fun
  | [d1, d2] => { results := [.lit (.bool true)], args := [d1, d2] }
  | _ => none }
def mgcdContentsRow : OpenClaim := { program := "ytopclbeomcggiaagreat", sum := "3071c03c9419a492baa7528493e2568f6d09e316b6b0706ce4795e256ce68ba7", func := "quadrature/quadraturelaw08.MgcdContents", spec := "mgcdContents", unfollowed := true, recurses := true, plainKeys := false, apart := false }
def MgcdContentsSaid : Prop := mgcdContentsRow.holds Tryz.pinned (OpenSpec.ofChange mgcdContentsSpec)

/-- ITS FALSE NEIGHBOUR: 'it returns false'. Refute it at one input. -/
def mgcdContentsWrong : ChangeSpec := { name := "mgcdContents", fn := fun _ => fun
  | [d1, d2] => { results := [.lit (.bool false)], args := [d1, d2] }
  | _ => none }
def MgcdContentsWrongFalsely : Prop := mgcdContentsRow.holds Tryz.pinned (OpenSpec.ofChange mgcdContentsWrong)

/-- 'quadraturelaw08.MgcdSquarefree': WHATEVER THE INPUT: true; the input reads as it did. -/
def mgcdSquarefreeSpec : ChangeSpec := { name := "mgcdSquarefree", fn := fun _ => fun
  | [d1, d2] => { results := [.lit (.bool true)], args := [d1, d2] }
  | _ => none }
def mgcdSquarefreeRow : OpenClaim := { program := "ytopclbeomcggiaagreat", sum := "3071c03c9419a492baa7528493e2568f6d09e316b6b0706ce4795e256ce68ba7", func := "quadrature/quadraturelaw08.MgcdSquarefree", spec := "mgcdSquarefree", unfollowed := true, recurses := true, plainKeys := false, apart := false }
def MgcdSquarefreeSaid : Prop := mgcdSquarefreeRow.holds Tryz.pinned (OpenSpec.ofChange mgcdSquarefreeSpec)

/-- ITS FALSE NEIGHBOUR: 'it returns false'. Refute it at one input. -/
def mgcdSquarefreeWrong : ChangeSpec := { name := "mgcdSquarefree", fn := fun _ => fun
  | [d1, d2] => { results := [.lit (.bool false)], args := [d1, d2] }
  | _ => none }
def MgcdSquarefreeWrongFalsely : Prop := mgcdSquarefreeRow.holds Tryz.pinned (OpenSpec.ofChange mgcdSquarefreeWrong)

/-- 'quadraturelaw08.MgcdResultant': WHATEVER THE INPUT: true; the input reads as it did. -/
def mgcdResultantSpec : ChangeSpec := { name := "mgcdResultant", fn := fun _ => fun
  | [d1, d2] => { results := [.lit (.bool true)], args := [d1, d2] }
  | _ => none }
def mgcdResultantRow : OpenClaim := { program := "ytopclbeomcggiaagreat", sum := "3071c03c9419a492baa7528493e2568f6d09e316b6b0706ce4795e256ce68ba7", func := "quadrature/quadraturelaw08.MgcdResultant", spec := "mgcdResultant", unfollowed := true, recurses := true, plainKeys := false, apart := false }
def MgcdResultantSaid : Prop := mgcdResultantRow.holds Tryz.pinned (OpenSpec.ofChange mgcdResultantSpec)

/-- ITS FALSE NEIGHBOUR: 'it returns false'. Refute it at one input. -/
def mgcdResultantWrong : ChangeSpec := { name := "mgcdResultant", fn := fun _ => fun
  | [d1, d2] => { results := [.lit (.bool false)], args := [d1, d2] }
  | _ => none }
def MgcdResultantWrongFalsely : Prop := mgcdResultantRow.holds Tryz.pinned (OpenSpec.ofChange mgcdResultantWrong)

/-- 'quadraturelaw08.MgcdResultantLaws': WHATEVER THE INPUT: true; the input reads as it did. -/
def mgcdResultantLawsSpec : ChangeSpec := { name := "mgcdResultantLaws", fn := fun _ => fun
  | [d1, d2] => { results := [.lit (.bool true)], args := [d1, d2] }
  | _ => none }
def mgcdResultantLawsRow : OpenClaim := { program := "ytopclbeomcggiaagreat", sum := "3071c03c9419a492baa7528493e2568f6d09e316b6b0706ce4795e256ce68ba7", func := "quadrature/quadraturelaw08.MgcdResultantLaws", spec := "mgcdResultantLaws", unfollowed := true, recurses := true, plainKeys := false, apart := false }
def MgcdResultantLawsSaid : Prop := mgcdResultantLawsRow.holds Tryz.pinned (OpenSpec.ofChange mgcdResultantLawsSpec)

/-- ITS FALSE NEIGHBOUR: 'it returns false'. Refute it at one input. -/
def mgcdResultantLawsWrong : ChangeSpec := { name := "mgcdResultantLaws", fn := fun _ => fun
  | [d1, d2] => { results := [.lit (.bool false)], args := [d1, d2] }
  | _ => none }
def MgcdResultantLawsWrongFalsely : Prop := mgcdResultantLawsRow.holds Tryz.pinned (OpenSpec.ofChange mgcdResultantLawsWrong)

/- THE SECOND FORM. 'bulk': how many values and letters a reading holds, each counted each time it is reached (what is shared counts as often as it is met; a slice's spare places count too). A statement '..UptoSaid' is the law's where the arguments, and the package variables that the reading takes, are together of bulk at most 1048576: NARROWER than '..Said'. Prove '..Said' where nothing that the law and all that it calls make is longer than what came in: it says more and counts as full. Else prove '..UptoSaid'. A law counts once. -/
mutual
def uptoBulk {H : Type} : DataW H → Nat
  | .lit (.string bytes) => bytes.length + 1
  | .lit _ => 1
  | .nil => 1
  | .ptr d => uptoBulk d + 1
  | .slice elems spare => uptoBulkAll elems + uptoBulkAll spare + 1
  | .agg parts => uptoBulkAll parts + 1
  | .iface _ d => uptoBulk d + 1
  | .map entries => uptoBulkEntries entries + 1
  | .held _ => 1
def uptoBulkAll {H : Type} : List (DataW H) → Nat
  | [] => 0
  | d :: r => uptoBulk d + uptoBulkAll r
def uptoBulkEntries {H : Type} : List (Lit × DataW H) → Nat
  | [] => 0
  | x :: r => uptoBulkEntry x + uptoBulkEntries r
def uptoBulkEntry {H : Type} : Lit × DataW H → Nat
  | (.string bytes, d) => bytes.length + uptoBulk d + 1
  | (_, d) => uptoBulk d + 1
 end
def uptoSmall : (H : Type) → List (DataW H) → Bool := fun _ ds => decide (uptoBulkAll ds ≤ 1048576)
def OpenSpec.upto (s : _root_.Go.ChangeSpec) : _root_.Go.OpenSpec := { _root_.Go.OpenSpec.ofChange s with cond := some uptoSmall }

/-- 'quadraturelaw08.MgcdMatchesReference', WHERE WHAT IT READS IS OF BULK AT MOST 1048576: true; the input reads as it did. -/
def mgcdMatchesReferenceUptoRow : OpenClaim := { program := "ytopclbeomcggiaagreat", sum := "3071c03c9419a492baa7528493e2568f6d09e316b6b0706ce4795e256ce68ba7", func := "quadrature/quadraturelaw08.MgcdMatchesReference", spec := "mgcdMatchesReference", unfollowed := true, recurses := true, plainKeys := false, apart := false, narrowed := true }
def MgcdMatchesReferenceUptoSaid : Prop := mgcdMatchesReferenceUptoRow.holds Tryz.pinned (OpenSpec.upto mgcdMatchesReferenceSpec)

/-- 'quadraturelaw08.MgcdDivides', WHERE WHAT IT READS IS OF BULK AT MOST 1048576: true; the input reads as it did. -/
def mgcdDividesUptoRow : OpenClaim := { program := "ytopclbeomcggiaagreat", sum := "3071c03c9419a492baa7528493e2568f6d09e316b6b0706ce4795e256ce68ba7", func := "quadrature/quadraturelaw08.MgcdDivides", spec := "mgcdDivides", unfollowed := true, recurses := true, plainKeys := false, apart := false, narrowed := true }
def MgcdDividesUptoSaid : Prop := mgcdDividesUptoRow.holds Tryz.pinned (OpenSpec.upto mgcdDividesSpec)

/-- 'quadraturelaw08.MgcdLaws', WHERE WHAT IT READS IS OF BULK AT MOST 1048576: true; the input reads as it did. -/
def mgcdLawsUptoRow : OpenClaim := { program := "ytopclbeomcggiaagreat", sum := "3071c03c9419a492baa7528493e2568f6d09e316b6b0706ce4795e256ce68ba7", func := "quadrature/quadraturelaw08.MgcdLaws", spec := "mgcdLaws", unfollowed := true, recurses := true, plainKeys := false, apart := false, narrowed := true }
def MgcdLawsUptoSaid : Prop := mgcdLawsUptoRow.holds Tryz.pinned (OpenSpec.upto mgcdLawsSpec)

/-- 'quadraturelaw08.MgcdContents', WHERE WHAT IT READS IS OF BULK AT MOST 1048576: true; the input reads as it did. -/
def mgcdContentsUptoRow : OpenClaim := { program := "ytopclbeomcggiaagreat", sum := "3071c03c9419a492baa7528493e2568f6d09e316b6b0706ce4795e256ce68ba7", func := "quadrature/quadraturelaw08.MgcdContents", spec := "mgcdContents", unfollowed := true, recurses := true, plainKeys := false, apart := false, narrowed := true }
def MgcdContentsUptoSaid : Prop := mgcdContentsUptoRow.holds Tryz.pinned (OpenSpec.upto mgcdContentsSpec)

/-- 'quadraturelaw08.MgcdSquarefree', WHERE WHAT IT READS IS OF BULK AT MOST 1048576: true; the input reads as it did. -/
def mgcdSquarefreeUptoRow : OpenClaim := { program := "ytopclbeomcggiaagreat", sum := "3071c03c9419a492baa7528493e2568f6d09e316b6b0706ce4795e256ce68ba7", func := "quadrature/quadraturelaw08.MgcdSquarefree", spec := "mgcdSquarefree", unfollowed := true, recurses := true, plainKeys := false, apart := false, narrowed := true }
def MgcdSquarefreeUptoSaid : Prop := mgcdSquarefreeUptoRow.holds Tryz.pinned (OpenSpec.upto mgcdSquarefreeSpec)

/-- 'quadraturelaw08.MgcdResultant', WHERE WHAT IT READS IS OF BULK AT MOST 1048576: true; the input reads as it did. -/
def mgcdResultantUptoRow : OpenClaim := { program := "ytopclbeomcggiaagreat", sum := "3071c03c9419a492baa7528493e2568f6d09e316b6b0706ce4795e256ce68ba7", func := "quadrature/quadraturelaw08.MgcdResultant", spec := "mgcdResultant", unfollowed := true, recurses := true, plainKeys := false, apart := false, narrowed := true }
def MgcdResultantUptoSaid : Prop := mgcdResultantUptoRow.holds Tryz.pinned (OpenSpec.upto mgcdResultantSpec)

/-- 'quadraturelaw08.MgcdResultantLaws', WHERE WHAT IT READS IS OF BULK AT MOST 1048576: true; the input reads as it did. -/
def mgcdResultantLawsUptoRow : OpenClaim := { program := "ytopclbeomcggiaagreat", sum := "3071c03c9419a492baa7528493e2568f6d09e316b6b0706ce4795e256ce68ba7", func := "quadrature/quadraturelaw08.MgcdResultantLaws", spec := "mgcdResultantLaws", unfollowed := true, recurses := true, plainKeys := false, apart := false, narrowed := true }
def MgcdResultantLawsUptoSaid : Prop := mgcdResultantLawsUptoRow.holds Tryz.pinned (OpenSpec.upto mgcdResultantLawsSpec)

end Rows
end Go.Proofs.YtopclbeomcggiaaGreat
