/-
  No cell of these rows narrows 'for every input' (looked for: loops, veiled, ifaces, maps, wideKeys, modest, calm, conditions, laid).
  DERIVED. THE GIVEN ROWS OF THIS SEAT. 9 by the template 'for every input the law returns true; each argument reads behind the call as it read before'; 0 by the template 'total and deterministic' (their statements: YtplfdeohokkebaaGreatTotals.lean).
  GIVEN WITH THE SEED: the statements are not yours to turn. If you find one false, say at which input.
  Laid BY PROGRAM, IN A SANDBOX (cutbox-rows.mjs): the forced cells as the released guide's own fill.sh prints them over the translation 721cf6e21ed4c9d6… (all of the seat's roots in one cut). By AI agents, Wed Nov 11 2026. No macro, syntax, notation, axiom, sorry.
-/
import Derived.Test.YtplfdeohokkebaaGreatChecked
import GoSem.Claim
import GoSem.ClaimJoined
import GoSem.ClaimMapViews
import Derived.JoinedTies
import Derived.KernelRfl
namespace Go.Proofs.YtplfdeohokkebaaGreat
/- THE CELL 'sum', in the pinned program and in every row, IS THE sha256 OF THE DUMP (.gsa) THAT YtplfdeohokkebaaGreatProg.lean LOADS. Nothing in Lean hashes anything: it is a label: what it is worth is what the hold of that sum in a sandbox is worth. -/
noncomputable def Tryz.pinned : Pinned := { name := "ytplfdeohokkebaagreat", sum := "721cf6e21ed4c9d6e5baa4e15f9cd6ada9e021205b59ff09d2230a5c1e770c95", checked := Tryz.checked }
namespace Rows
def none {H : Type} : Left H := { results := [], args := [] }

/-- 'quadraturelaw07.MpolyMakes': WHATEVER THE INPUT: true; the input reads as it did. -/
def mpolyMakesSpec : ChangeSpec := { name := "mpolyMakes", fn := fun _ => fun
  | [d] => { results := [.lit (.bool true)], args := [d] }
  | _ => none }
def mpolyMakesRow : OpenClaim := { program := "ytplfdeohokkebaagreat", sum := "721cf6e21ed4c9d6e5baa4e15f9cd6ada9e021205b59ff09d2230a5c1e770c95", func := "quadrature/quadraturelaw07.MpolyMakes", spec := "mpolyMakes", unfollowed := true, recurses := true, plainKeys := false, apart := false }
def MpolyMakesSaid : Prop := mpolyMakesRow.holds Tryz.pinned (OpenSpec.ofChange mpolyMakesSpec)

/-- ITS FALSE NEIGHBOUR: 'it returns false'. Refute it at one input. -/
def mpolyMakesWrong : ChangeSpec := { name := "mpolyMakes", fn := fun _ => fun
  | [d] => { results := [.lit (.bool false)], args := [d] }
  | _ => none }
def MpolyMakesWrongFalsely : Prop := mpolyMakesRow.holds Tryz.pinned (OpenSpec.ofChange mpolyMakesWrong)

/-- 'quadraturelaw07.MpolyRing': WHATEVER THE INPUT: true; the input reads as it did. -/
def mpolyRingSpec : ChangeSpec := { name := "mpolyRing", fn := fun _ => fun
  | [d1, d2, d3] => { results := [.lit (.bool true)], args := [d1, d2, d3] }
  | _ => none }
def mpolyRingRow : OpenClaim := { program := "ytplfdeohokkebaagreat", sum := "721cf6e21ed4c9d6e5baa4e15f9cd6ada9e021205b59ff09d2230a5c1e770c95", func := "quadrature/quadraturelaw07.MpolyRing", spec := "mpolyRing", unfollowed := true, recurses := true, plainKeys := false, apart := false }
def MpolyRingSaid : Prop := mpolyRingRow.holds Tryz.pinned (OpenSpec.ofChange mpolyRingSpec)

/-- ITS FALSE NEIGHBOUR: 'it returns false'. Refute it at one input. -/
def mpolyRingWrong : ChangeSpec := { name := "mpolyRing", fn := fun _ => fun
  | [d1, d2, d3] => { results := [.lit (.bool false)], args := [d1, d2, d3] }
  | _ => none }
def MpolyRingWrongFalsely : Prop := mpolyRingRow.holds Tryz.pinned (OpenSpec.ofChange mpolyRingWrong)

/-- 'quadraturelaw07.MpolyPowers': WHATEVER THE INPUT: true; the input reads as it did. -/
def mpolyPowersSpec : ChangeSpec := { name := "mpolyPowers", fn := fun _ => fun
  | [d1, d2, d3] => { results := [.lit (.bool true)], args := [d1, d2, d3] }
  | _ => none }
def mpolyPowersRow : OpenClaim := { program := "ytplfdeohokkebaagreat", sum := "721cf6e21ed4c9d6e5baa4e15f9cd6ada9e021205b59ff09d2230a5c1e770c95", func := "quadrature/quadraturelaw07.MpolyPowers", spec := "mpolyPowers", unfollowed := true, recurses := true, plainKeys := false, apart := false }
def MpolyPowersSaid : Prop := mpolyPowersRow.holds Tryz.pinned (OpenSpec.ofChange mpolyPowersSpec)

/-- ITS FALSE NEIGHBOUR: 'it returns false'. Refute it at one input. -/
def mpolyPowersWrong : ChangeSpec := { name := "mpolyPowers", fn := fun _ => fun
  | [d1, d2, d3] => { results := [.lit (.bool false)], args := [d1, d2, d3] }
  | _ => none }
def MpolyPowersWrongFalsely : Prop := mpolyPowersRow.holds Tryz.pinned (OpenSpec.ofChange mpolyPowersWrong)

/-- 'quadraturelaw07.MpolyCoefficients': WHATEVER THE INPUT: true; the input reads as it did. -/
def mpolyCoefficientsSpec : ChangeSpec := { name := "mpolyCoefficients", fn := fun _ => fun
  | [d1, d2, d3] => { results := [.lit (.bool true)], args := [d1, d2, d3] }
  | _ => none }
def mpolyCoefficientsRow : OpenClaim := { program := "ytplfdeohokkebaagreat", sum := "721cf6e21ed4c9d6e5baa4e15f9cd6ada9e021205b59ff09d2230a5c1e770c95", func := "quadrature/quadraturelaw07.MpolyCoefficients", spec := "mpolyCoefficients", unfollowed := true, recurses := true, plainKeys := false, apart := false }
def MpolyCoefficientsSaid : Prop := mpolyCoefficientsRow.holds Tryz.pinned (OpenSpec.ofChange mpolyCoefficientsSpec)

/-- ITS FALSE NEIGHBOUR: 'it returns false'. Refute it at one input. -/
def mpolyCoefficientsWrong : ChangeSpec := { name := "mpolyCoefficients", fn := fun _ => fun
  | [d1, d2, d3] => { results := [.lit (.bool false)], args := [d1, d2, d3] }
  | _ => none }
def MpolyCoefficientsWrongFalsely : Prop := mpolyCoefficientsRow.holds Tryz.pinned (OpenSpec.ofChange mpolyCoefficientsWrong)

/-- 'quadraturelaw07.MpolyDivides': WHATEVER THE INPUT: true; the input reads as it did. -/
def mpolyDividesSpec : ChangeSpec := { name := "mpolyDivides", fn := fun _ => fun
  | [d1, d2] => { results := [.lit (.bool true)], args := [d1, d2] }
  | _ => none }
def mpolyDividesRow : OpenClaim := { program := "ytplfdeohokkebaagreat", sum := "721cf6e21ed4c9d6e5baa4e15f9cd6ada9e021205b59ff09d2230a5c1e770c95", func := "quadrature/quadraturelaw07.MpolyDivides", spec := "mpolyDivides", unfollowed := true, recurses := true, plainKeys := false, apart := false }
def MpolyDividesSaid : Prop := mpolyDividesRow.holds Tryz.pinned (OpenSpec.ofChange mpolyDividesSpec)

/-- ITS FALSE NEIGHBOUR: 'it returns false'. Refute it at one input. -/
def mpolyDividesWrong : ChangeSpec := { name := "mpolyDivides", fn := fun _ => fun
  | [d1, d2] => { results := [.lit (.bool false)], args := [d1, d2] }
  | _ => none }
def MpolyDividesWrongFalsely : Prop := mpolyDividesRow.holds Tryz.pinned (OpenSpec.ofChange mpolyDividesWrong)

/-- 'quadraturelaw07.MpolyPseudo': WHATEVER THE INPUT: true; the input reads as it did. -/
def mpolyPseudoSpec : ChangeSpec := { name := "mpolyPseudo", fn := fun _ => fun
  | [d1, d2, d3] => { results := [.lit (.bool true)], args := [d1, d2, d3] }
  | _ => none }
def mpolyPseudoRow : OpenClaim := { program := "ytplfdeohokkebaagreat", sum := "721cf6e21ed4c9d6e5baa4e15f9cd6ada9e021205b59ff09d2230a5c1e770c95", func := "quadrature/quadraturelaw07.MpolyPseudo", spec := "mpolyPseudo", unfollowed := true, recurses := true, plainKeys := false, apart := false }
def MpolyPseudoSaid : Prop := mpolyPseudoRow.holds Tryz.pinned (OpenSpec.ofChange mpolyPseudoSpec)

/-- ITS FALSE NEIGHBOUR: 'it returns false'. Refute it at one input. -/
def mpolyPseudoWrong : ChangeSpec := { name := "mpolyPseudo", fn := fun _ => fun
  | [d1, d2, d3] => { results := [.lit (.bool false)], args := [d1, d2, d3] }
  | _ => none }
def MpolyPseudoWrongFalsely : Prop := mpolyPseudoRow.holds Tryz.pinned (OpenSpec.ofChange mpolyPseudoWrong)

/-- 'quadraturelaw07.MpolySubstitutes': WHATEVER THE INPUT: true; the input reads as it did. -/
def mpolySubstitutesSpec : ChangeSpec := { name := "mpolySubstitutes", fn := fun _ => fun
  | [d1, d2, d3] => { results := [.lit (.bool true)], args := [d1, d2, d3] }
  | _ => none }
def mpolySubstitutesRow : OpenClaim := { program := "ytplfdeohokkebaagreat", sum := "721cf6e21ed4c9d6e5baa4e15f9cd6ada9e021205b59ff09d2230a5c1e770c95", func := "quadrature/quadraturelaw07.MpolySubstitutes", spec := "mpolySubstitutes", unfollowed := true, recurses := true, plainKeys := false, apart := false }
def MpolySubstitutesSaid : Prop := mpolySubstitutesRow.holds Tryz.pinned (OpenSpec.ofChange mpolySubstitutesSpec)

/-- ITS FALSE NEIGHBOUR: 'it returns false'. Refute it at one input. -/
def mpolySubstitutesWrong : ChangeSpec := { name := "mpolySubstitutes", fn := fun _ => fun
  | [d1, d2, d3] => { results := [.lit (.bool false)], args := [d1, d2, d3] }
  | _ => none }
def MpolySubstitutesWrongFalsely : Prop := mpolySubstitutesRow.holds Tryz.pinned (OpenSpec.ofChange mpolySubstitutesWrong)

/-- 'quadraturelaw07.MpolyDerives': WHATEVER THE INPUT: true; the input reads as it did. -/
def mpolyDerivesSpec : ChangeSpec := { name := "mpolyDerives", fn := fun _ => fun
  | [d1, d2, d3] => { results := [.lit (.bool true)], args := [d1, d2, d3] }
  | _ => none }
def mpolyDerivesRow : OpenClaim := { program := "ytplfdeohokkebaagreat", sum := "721cf6e21ed4c9d6e5baa4e15f9cd6ada9e021205b59ff09d2230a5c1e770c95", func := "quadrature/quadraturelaw07.MpolyDerives", spec := "mpolyDerives", unfollowed := true, recurses := true, plainKeys := false, apart := false }
def MpolyDerivesSaid : Prop := mpolyDerivesRow.holds Tryz.pinned (OpenSpec.ofChange mpolyDerivesSpec)

/-- ITS FALSE NEIGHBOUR: 'it returns false'. Refute it at one input. -/
def mpolyDerivesWrong : ChangeSpec := { name := "mpolyDerives", fn := fun _ => fun
  | [d1, d2, d3] => { results := [.lit (.bool false)], args := [d1, d2, d3] }
  | _ => none }
def MpolyDerivesWrongFalsely : Prop := mpolyDerivesRow.holds Tryz.pinned (OpenSpec.ofChange mpolyDerivesWrong)

/-- 'quadraturelaw07.MpolyMatchesReference': WHATEVER THE INPUT: true; the input reads as it did. -/
def mpolyMatchesReferenceSpec : ChangeSpec := { name := "mpolyMatchesReference", fn := fun _ => fun
  | [d1, d2, d3] => { results := [.lit (.bool true)], args := [d1, d2, d3] }
  | _ => none }
def mpolyMatchesReferenceRow : OpenClaim := { program := "ytplfdeohokkebaagreat", sum := "721cf6e21ed4c9d6e5baa4e15f9cd6ada9e021205b59ff09d2230a5c1e770c95", func := "quadrature/quadraturelaw07.MpolyMatchesReference", spec := "mpolyMatchesReference", unfollowed := true, recurses := true, plainKeys := false, apart := false }
def MpolyMatchesReferenceSaid : Prop := mpolyMatchesReferenceRow.holds Tryz.pinned (OpenSpec.ofChange mpolyMatchesReferenceSpec)

/-- ITS FALSE NEIGHBOUR: 'it returns false'. Refute it at one input. -/
def mpolyMatchesReferenceWrong : ChangeSpec := { name := "mpolyMatchesReference", fn := fun _ => fun
  | [d1, d2, d3] => { results := [.lit (.bool false)], args := [d1, d2, d3] }
  | _ => none }
def MpolyMatchesReferenceWrongFalsely : Prop := mpolyMatchesReferenceRow.holds Tryz.pinned (OpenSpec.ofChange mpolyMatchesReferenceWrong)

/- THE SECOND FORM. 'bulk': how many values and letters a reading holds, each counted each time it is reached (what is shared counts as often as it is met; a slice's spare places count too). A statement '..UptoSaid' is the law's where the arguments, and the package variables that the reading takes, are together of bulk at most 1048576: NARROWER than '..Said'. Prove '..Said' where nothing that the law and all that it calls make is longer than what came in: it says more and counts as full. Else prove '..UptoSaid'. A law counts once. -/
mutual
def uptoBulk {H : Type} : DataW H → Nat
  | .lit (.string bytes) => bytes.length + 1
  | .lit _ => 1
  | .nil => 1
  | .ptr d => uptoBulk d + 1
  | .slice elems spare => uptoBulkAll elems + uptoBulkAll spare + 1
  | .agg parts => uptoBulkAll parts + 1
  | .iface _ d => uptoBulk d + 1
  | .map entries => uptoBulkEntries entries + 1
  | .held _ => 1
def uptoBulkAll {H : Type} : List (DataW H) → Nat
  | [] => 0
  | d :: r => uptoBulk d + uptoBulkAll r
def uptoBulkEntries {H : Type} : List (Lit × DataW H) → Nat
  | [] => 0
  | x :: r => uptoBulkEntry x + uptoBulkEntries r
def uptoBulkEntry {H : Type} : Lit × DataW H → Nat
  | (.string bytes, d) => bytes.length + uptoBulk d + 1
  | (_, d) => uptoBulk d + 1
 end
def uptoSmall : (H : Type) → List (DataW H) → Bool := fun _ ds => decide (uptoBulkAll ds ≤ 1048576)
def OpenSpec.upto (s : _root_.Go.ChangeSpec) : _root_.Go.OpenSpec := { _root_.Go.OpenSpec.ofChange s with cond := some uptoSmall }

/-- 'quadraturelaw07.MpolyMakes', WHERE WHAT IT READS IS OF BULK AT MOST 1048576: true; the input reads as it did. -/
def mpolyMakesUptoRow : OpenClaim := { program := "ytplfdeohokkebaagreat", sum := "721cf6e21ed4c9d6e5baa4e15f9cd6ada9e021205b59ff09d2230a5c1e770c95", func := "quadrature/quadraturelaw07.MpolyMakes", spec := "mpolyMakes", unfollowed := true, recurses := true, plainKeys := false, apart := false, narrowed := true }
def MpolyMakesUptoSaid : Prop := mpolyMakesUptoRow.holds Tryz.pinned (OpenSpec.upto mpolyMakesSpec)

/-- 'quadraturelaw07.MpolyRing', WHERE WHAT IT READS IS OF BULK AT MOST 1048576: true; the input reads as it did. -/
def mpolyRingUptoRow : OpenClaim := { program := "ytplfdeohokkebaagreat", sum := "721cf6e21ed4c9d6e5baa4e15f9cd6ada9e021205b59ff09d2230a5c1e770c95", func := "quadrature/quadraturelaw07.MpolyRing", spec := "mpolyRing", unfollowed := true, recurses := true, plainKeys := false, apart := false, narrowed := true }
def MpolyRingUptoSaid : Prop := mpolyRingUptoRow.holds Tryz.pinned (OpenSpec.upto mpolyRingSpec)

/-- 'quadraturelaw07.MpolyPowers', WHERE WHAT IT READS IS OF BULK AT MOST 1048576: true; the input reads as it did. -/
def mpolyPowersUptoRow : OpenClaim := { program := "ytplfdeohokkebaagreat", sum := "721cf6e21ed4c9d6e5baa4e15f9cd6ada9e021205b59ff09d2230a5c1e770c95", func := "quadrature/quadraturelaw07.MpolyPowers", spec := "mpolyPowers", unfollowed := true, recurses := true, plainKeys := false, apart := false, narrowed := true }
def MpolyPowersUptoSaid : Prop := mpolyPowersUptoRow.holds Tryz.pinned (OpenSpec.upto mpolyPowersSpec)

/-- 'quadraturelaw07.MpolyCoefficients', WHERE WHAT IT READS IS OF BULK AT MOST 1048576: true; the input reads as it did. -/
def mpolyCoefficientsUptoRow : OpenClaim := { program := "ytplfdeohokkebaagreat", sum := "721cf6e21ed4c9d6e5baa4e15f9cd6ada9e021205b59ff09d2230a5c1e770c95", func := "quadrature/quadraturelaw07.MpolyCoefficients", spec := "mpolyCoefficients", unfollowed := true, recurses := true, plainKeys := false, apart := false, narrowed := true }
def MpolyCoefficientsUptoSaid : Prop := mpolyCoefficientsUptoRow.holds Tryz.pinned (OpenSpec.upto mpolyCoefficientsSpec)

/-- 'quadraturelaw07.MpolyDivides', WHERE WHAT IT READS IS OF BULK AT MOST 1048576: true; the input reads as it did. -/
def mpolyDividesUptoRow : OpenClaim := { program := "ytplfdeohokkebaagreat", sum := "721cf6e21ed4c9d6e5baa4e15f9cd6ada9e021205b59ff09d2230a5c1e770c95", func := "quadrature/quadraturelaw07.MpolyDivides", spec := "mpolyDivides", unfollowed := true, recurses := true, plainKeys := false, apart := false, narrowed := true }
def MpolyDividesUptoSaid : Prop := mpolyDividesUptoRow.holds Tryz.pinned (OpenSpec.upto mpolyDividesSpec)

/-- 'quadraturelaw07.MpolyPseudo', WHERE WHAT IT READS IS OF BULK AT MOST 1048576: true; the input reads as it did. -/
def mpolyPseudoUptoRow : OpenClaim := { program := "ytplfdeohokkebaagreat", sum := "721cf6e21ed4c9d6e5baa4e15f9cd6ada9e021205b59ff09d2230a5c1e770c95", func := "quadrature/quadraturelaw07.MpolyPseudo", spec := "mpolyPseudo", unfollowed := true, recurses := true, plainKeys := false, apart := false, narrowed := true }
def MpolyPseudoUptoSaid : Prop := mpolyPseudoUptoRow.holds Tryz.pinned (OpenSpec.upto mpolyPseudoSpec)

/-- 'quadraturelaw07.MpolySubstitutes', WHERE WHAT IT READS IS OF BULK AT MOST 1048576: true; the input reads as it did. -/
def mpolySubstitutesUptoRow : OpenClaim := { program := "ytplfdeohokkebaagreat", sum := "721cf6e21ed4c9d6e5baa4e15f9cd6ada9e021205b59ff09d2230a5c1e770c95", func := "quadrature/quadraturelaw07.MpolySubstitutes", spec := "mpolySubstitutes", unfollowed := true, recurses := true, plainKeys := false, apart := false, narrowed := true }
def MpolySubstitutesUptoSaid : Prop := mpolySubstitutesUptoRow.holds Tryz.pinned (OpenSpec.upto mpolySubstitutesSpec)

/-- 'quadraturelaw07.MpolyDerives', WHERE WHAT IT READS IS OF BULK AT MOST 1048576: true; the input reads as it did. -/
def mpolyDerivesUptoRow : OpenClaim := { program := "ytplfdeohokkebaagreat", sum := "721cf6e21ed4c9d6e5baa4e15f9cd6ada9e021205b59ff09d2230a5c1e770c95", func := "quadrature/quadraturelaw07.MpolyDerives", spec := "mpolyDerives", unfollowed := true, recurses := true, plainKeys := false, apart := false, narrowed := true }
def MpolyDerivesUptoSaid : Prop := mpolyDerivesUptoRow.holds Tryz.pinned (OpenSpec.upto mpolyDerivesSpec)

/-- 'quadraturelaw07.MpolyMatchesReference', WHERE WHAT IT READS IS OF BULK AT MOST 1048576: true; the input reads as it did. -/
def mpolyMatchesReferenceUptoRow : OpenClaim := { program := "ytplfdeohokkebaagreat", sum := "721cf6e21ed4c9d6e5baa4e15f9cd6ada9e021205b59ff09d2230a5c1e770c95", func := "quadrature/quadraturelaw07.MpolyMatchesReference", spec := "mpolyMatchesReference", unfollowed := true, recurses := true, plainKeys := false, apart := false, narrowed := true }
def MpolyMatchesReferenceUptoSaid : Prop := mpolyMatchesReferenceUptoRow.holds Tryz.pinned (OpenSpec.upto mpolyMatchesReferenceSpec)

end Rows
end Go.Proofs.YtplfdeohokkebaaGreat
