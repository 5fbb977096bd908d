/-
  No cell of these rows narrows 'for every input' (looked for: loops, veiled, ifaces, maps, wideKeys, modest, calm, conditions, laid).
  DERIVED. THE GIVEN ROWS OF THIS SEAT. 13 by the template 'for every input the law returns true; each argument reads behind the call as it read before'; 0 by the template 'total and deterministic' (their statements: YtgghopmlcpcpkaaTotals.lean).
  GIVEN WITH THE SEED: the statements are not yours to turn. If you find one false, say at which input.
  Laid BY PROGRAM, IN A SANDBOX (cutbox-rows.mjs): the forced cells as the released guide's own fill.sh prints them over the translation de181647780e2244… (all of the seat's roots in one cut). By AI agents, Wed Nov 11 2026. No macro, syntax, notation, axiom, sorry.
-/
import Derived.Test.YtgghopmlcpcpkaaChecked
import GoSem.Claim
import GoSem.ClaimJoined
import GoSem.ClaimMapViews
import Derived.JoinedTies
import Derived.KernelRfl
namespace Go.Proofs.Ytgghopmlcpcpkaa
/- THE CELL 'sum', in the pinned program and in every row, IS THE sha256 OF THE DUMP (.gsa) THAT YtgghopmlcpcpkaaProg.lean LOADS. Nothing in Lean hashes anything: it is a label: what it is worth is what the hold of that sum in a sandbox is worth. -/
noncomputable def Try.pinned : Pinned := { name := "ytgghopmlcpcpkaa", sum := "de181647780e2244a28bd29ad95445618632f47eb359dbaa6db84c194b0166db", checked := Try.checked }
namespace Rows
def none {H : Type} : Left H := { results := [], args := [] }

/-- 'pontagelaw33.ResiduePowers': WHATEVER THE INPUT: true; the input reads as it did. -/
def residuePowersSpec : ChangeSpec := { name := "residuePowers", fn := fun _ => fun
  | [d1, d2, d3, d4, d5] => { results := [.lit (.bool true)], args := [d1, d2, d3, d4, d5] }
  | _ => none }
def residuePowersRow : OpenClaim := { program := "ytgghopmlcpcpkaa", sum := "de181647780e2244a28bd29ad95445618632f47eb359dbaa6db84c194b0166db", func := "pontage/pontagelaw33.ResiduePowers", spec := "residuePowers", inPlace := ["math/bits.Sub64", "math/bits.Add64"], recurses := true, apart := false }
def ResiduePowersSaid : Prop := residuePowersRow.holds Try.pinned (OpenSpec.ofChange residuePowersSpec)

/-- ITS FALSE NEIGHBOUR: 'it returns false'. Refute it at one input. -/
def residuePowersWrong : ChangeSpec := { name := "residuePowers", fn := fun _ => fun
  | [d1, d2, d3, d4, d5] => { results := [.lit (.bool false)], args := [d1, d2, d3, d4, d5] }
  | _ => none }
def ResiduePowersWrongFalsely : Prop := residuePowersRow.holds Try.pinned (OpenSpec.ofChange residuePowersWrong)

/-- 'pontagelaw33.ResidueInverts': WHATEVER THE INPUT: true; the input reads as it did. -/
def residueInvertsSpec : ChangeSpec := { name := "residueInverts", fn := fun _ => fun
  | [d1, d2] => { results := [.lit (.bool true)], args := [d1, d2] }
  | _ => none }
def residueInvertsRow : OpenClaim := { program := "ytgghopmlcpcpkaa", sum := "de181647780e2244a28bd29ad95445618632f47eb359dbaa6db84c194b0166db", func := "pontage/pontagelaw33.ResidueInverts", spec := "residueInverts", inPlace := ["math/bits.Sub64", "math/bits.Add64"], recurses := true, apart := false }
def ResidueInvertsSaid : Prop := residueInvertsRow.holds Try.pinned (OpenSpec.ofChange residueInvertsSpec)

/-- ITS FALSE NEIGHBOUR: 'it returns false'. Refute it at one input. -/
def residueInvertsWrong : ChangeSpec := { name := "residueInverts", fn := fun _ => fun
  | [d1, d2] => { results := [.lit (.bool false)], args := [d1, d2] }
  | _ => none }
def ResidueInvertsWrongFalsely : Prop := residueInvertsRow.holds Try.pinned (OpenSpec.ofChange residueInvertsWrong)

/-- 'pontagelaw33.ResidueRules': WHATEVER THE INPUT: true; the input reads as it did. -/
def residueRulesSpec : ChangeSpec := { name := "residueRules", fn := fun _ => fun
  | [d1, d2, d3, d4] => { results := [.lit (.bool true)], args := [d1, d2, d3, d4] }
  | _ => none }
def residueRulesRow : OpenClaim := { program := "ytgghopmlcpcpkaa", sum := "de181647780e2244a28bd29ad95445618632f47eb359dbaa6db84c194b0166db", func := "pontage/pontagelaw33.ResidueRules", spec := "residueRules", inPlace := ["math/bits.Sub64", "math/bits.Add64"], recurses := true, apart := false }
def ResidueRulesSaid : Prop := residueRulesRow.holds Try.pinned (OpenSpec.ofChange residueRulesSpec)

/-- ITS FALSE NEIGHBOUR: 'it returns false'. Refute it at one input. -/
def residueRulesWrong : ChangeSpec := { name := "residueRules", fn := fun _ => fun
  | [d1, d2, d3, d4] => { results := [.lit (.bool false)], args := [d1, d2, d3, d4] }
  | _ => none }
def ResidueRulesWrongFalsely : Prop := residueRulesRow.holds Try.pinned (OpenSpec.ofChange residueRulesWrong)

/-- 'pontagelaw33.ResidueSums': WHATEVER THE INPUT: true; the input reads as it did. -/
def residueSumsSpec : ChangeSpec := { name := "residueSums", fn := fun _ => fun
  | [d1, d2, d3] => { results := [.lit (.bool true)], args := [d1, d2, d3] }
  | _ => none }
def residueSumsRow : OpenClaim := { program := "ytgghopmlcpcpkaa", sum := "de181647780e2244a28bd29ad95445618632f47eb359dbaa6db84c194b0166db", func := "pontage/pontagelaw33.ResidueSums", spec := "residueSums", inPlace := ["math/bits.Sub64", "math/bits.Add64"], recurses := true, apart := false }
def ResidueSumsSaid : Prop := residueSumsRow.holds Try.pinned (OpenSpec.ofChange residueSumsSpec)

/-- ITS FALSE NEIGHBOUR: 'it returns false'. Refute it at one input. -/
def residueSumsWrong : ChangeSpec := { name := "residueSums", fn := fun _ => fun
  | [d1, d2, d3] => { results := [.lit (.bool false)], args := [d1, d2, d3] }
  | _ => none }
def ResidueSumsWrongFalsely : Prop := residueSumsRow.holds Try.pinned (OpenSpec.ofChange residueSumsWrong)

/-- 'pontagelaw33.ResidueNone': WHATEVER THE INPUT: true; the input reads as it did. -/
def residueNoneSpec : ChangeSpec := { name := "residueNone", fn := fun _ => fun
  | [d1, d2] => { results := [.lit (.bool true)], args := [d1, d2] }
  | _ => none }
def residueNoneRow : OpenClaim := { program := "ytgghopmlcpcpkaa", sum := "de181647780e2244a28bd29ad95445618632f47eb359dbaa6db84c194b0166db", func := "pontage/pontagelaw33.ResidueNone", spec := "residueNone", inPlace := ["math/bits.Sub64", "math/bits.Add64"], recurses := true, apart := false }
def ResidueNoneSaid : Prop := residueNoneRow.holds Try.pinned (OpenSpec.ofChange residueNoneSpec)

/-- ITS FALSE NEIGHBOUR: 'it returns false'. Refute it at one input. -/
def residueNoneWrong : ChangeSpec := { name := "residueNone", fn := fun _ => fun
  | [d1, d2] => { results := [.lit (.bool false)], args := [d1, d2] }
  | _ => none }
def ResidueNoneWrongFalsely : Prop := residueNoneRow.holds Try.pinned (OpenSpec.ofChange residueNoneWrong)

/-- 'pontagelaw34.CurveTimes': WHATEVER THE INPUT: true; the input reads as it did. -/
def curveTimesSpec : ChangeSpec := { name := "curveTimes", fn := fun _ => fun
  | [d1, d2, d3, d4, d5] => { results := [.lit (.bool true)], args := [d1, d2, d3, d4, d5] }
  | _ => none }
def curveTimesRow : OpenClaim := { program := "ytgghopmlcpcpkaa", sum := "de181647780e2244a28bd29ad95445618632f47eb359dbaa6db84c194b0166db", func := "pontage/pontagelaw34.CurveTimes", spec := "curveTimes", inPlace := ["math/bits.Sub64", "math/bits.Add64"], recurses := true, apart := false }
def CurveTimesSaid : Prop := curveTimesRow.holds Try.pinned (OpenSpec.ofChange curveTimesSpec)

/-- ITS FALSE NEIGHBOUR: 'it returns false'. Refute it at one input. -/
def curveTimesWrong : ChangeSpec := { name := "curveTimes", fn := fun _ => fun
  | [d1, d2, d3, d4, d5] => { results := [.lit (.bool false)], args := [d1, d2, d3, d4, d5] }
  | _ => none }
def CurveTimesWrongFalsely : Prop := curveTimesRow.holds Try.pinned (OpenSpec.ofChange curveTimesWrong)

/-- 'pontagelaw34.CurveTwice': WHATEVER THE INPUT: true; the input reads as it did. -/
def curveTwiceSpec : ChangeSpec := { name := "curveTwice", fn := fun _ => fun
  | [d1, d2, d3, d4] => { results := [.lit (.bool true)], args := [d1, d2, d3, d4] }
  | _ => none }
def curveTwiceRow : OpenClaim := { program := "ytgghopmlcpcpkaa", sum := "de181647780e2244a28bd29ad95445618632f47eb359dbaa6db84c194b0166db", func := "pontage/pontagelaw34.CurveTwice", spec := "curveTwice", inPlace := ["math/bits.Sub64", "math/bits.Add64"], recurses := true, apart := false }
def CurveTwiceSaid : Prop := curveTwiceRow.holds Try.pinned (OpenSpec.ofChange curveTwiceSpec)

/-- ITS FALSE NEIGHBOUR: 'it returns false'. Refute it at one input. -/
def curveTwiceWrong : ChangeSpec := { name := "curveTwice", fn := fun _ => fun
  | [d1, d2, d3, d4] => { results := [.lit (.bool false)], args := [d1, d2, d3, d4] }
  | _ => none }
def CurveTwiceWrongFalsely : Prop := curveTwiceRow.holds Try.pinned (OpenSpec.ofChange curveTwiceWrong)

/-- 'pontagelaw34.CurveGroups': WHATEVER THE INPUT: true; the input reads as it did. -/
def curveGroupsSpec : ChangeSpec := { name := "curveGroups", fn := fun _ => fun
  | [d1, d2, d3, d4, d5, d6] => { results := [.lit (.bool true)], args := [d1, d2, d3, d4, d5, d6] }
  | _ => none }
def curveGroupsRow : OpenClaim := { program := "ytgghopmlcpcpkaa", sum := "de181647780e2244a28bd29ad95445618632f47eb359dbaa6db84c194b0166db", func := "pontage/pontagelaw34.CurveGroups", spec := "curveGroups", inPlace := ["math/bits.Sub64", "math/bits.Add64"], recurses := true, apart := false }
def CurveGroupsSaid : Prop := curveGroupsRow.holds Try.pinned (OpenSpec.ofChange curveGroupsSpec)

/-- ITS FALSE NEIGHBOUR: 'it returns false'. Refute it at one input. -/
def curveGroupsWrong : ChangeSpec := { name := "curveGroups", fn := fun _ => fun
  | [d1, d2, d3, d4, d5, d6] => { results := [.lit (.bool false)], args := [d1, d2, d3, d4, d5, d6] }
  | _ => none }
def CurveGroupsWrongFalsely : Prop := curveGroupsRow.holds Try.pinned (OpenSpec.ofChange curveGroupsWrong)

/-- 'pontagelaw34.CurveAdds': WHATEVER THE INPUT: true; the input reads as it did. -/
def curveAddsSpec : ChangeSpec := { name := "curveAdds", fn := fun _ => fun
  | [d1, d2, d3, d4, d5] => { results := [.lit (.bool true)], args := [d1, d2, d3, d4, d5] }
  | _ => none }
def curveAddsRow : OpenClaim := { program := "ytgghopmlcpcpkaa", sum := "de181647780e2244a28bd29ad95445618632f47eb359dbaa6db84c194b0166db", func := "pontage/pontagelaw34.CurveAdds", spec := "curveAdds", inPlace := ["math/bits.Sub64", "math/bits.Add64"], recurses := true, apart := false }
def CurveAddsSaid : Prop := curveAddsRow.holds Try.pinned (OpenSpec.ofChange curveAddsSpec)

/-- ITS FALSE NEIGHBOUR: 'it returns false'. Refute it at one input. -/
def curveAddsWrong : ChangeSpec := { name := "curveAdds", fn := fun _ => fun
  | [d1, d2, d3, d4, d5] => { results := [.lit (.bool false)], args := [d1, d2, d3, d4, d5] }
  | _ => none }
def CurveAddsWrongFalsely : Prop := curveAddsRow.holds Try.pinned (OpenSpec.ofChange curveAddsWrong)

/-- 'pontagelaw34.CurveBytes': WHATEVER THE INPUT: true; the input reads as it did. -/
def curveBytesSpec : ChangeSpec := { name := "curveBytes", fn := fun _ => fun
  | [d1, d2, d3, d4] => { results := [.lit (.bool true)], args := [d1, d2, d3, d4] }
  | _ => none }
def curveBytesRow : OpenClaim := { program := "ytgghopmlcpcpkaa", sum := "de181647780e2244a28bd29ad95445618632f47eb359dbaa6db84c194b0166db", func := "pontage/pontagelaw34.CurveBytes", spec := "curveBytes", inPlace := ["math/bits.Sub64", "math/bits.Add64"], recurses := true, apart := false }
def CurveBytesSaid : Prop := curveBytesRow.holds Try.pinned (OpenSpec.ofChange curveBytesSpec)

/-- ITS FALSE NEIGHBOUR: 'it returns false'. Refute it at one input. -/
def curveBytesWrong : ChangeSpec := { name := "curveBytes", fn := fun _ => fun
  | [d1, d2, d3, d4] => { results := [.lit (.bool false)], args := [d1, d2, d3, d4] }
  | _ => none }
def CurveBytesWrongFalsely : Prop := curveBytesRow.holds Try.pinned (OpenSpec.ofChange curveBytesWrong)

/-- 'pontagelaw35.SchnorrSigns': WHATEVER THE INPUT: true; the input reads as it did. -/
def schnorrSignsSpec : ChangeSpec := { name := "schnorrSigns", fn := fun _ => fun
  | [d1, d2] => { results := [.lit (.bool true)], args := [d1, d2] }
  | _ => none }
def schnorrSignsRow : OpenClaim := { program := "ytgghopmlcpcpkaa", sum := "de181647780e2244a28bd29ad95445618632f47eb359dbaa6db84c194b0166db", func := "pontage/pontagelaw35.SchnorrSigns", spec := "schnorrSigns", inPlace := ["math/bits.Sub64", "math/bits.Add64"], unfollowed := true, recurses := true, apart := false }
def SchnorrSignsSaid : Prop := schnorrSignsRow.holds Try.pinned (OpenSpec.ofChange schnorrSignsSpec)

/-- ITS FALSE NEIGHBOUR: 'it returns false'. Refute it at one input. -/
def schnorrSignsWrong : ChangeSpec := { name := "schnorrSigns", fn := fun _ => fun
  | [d1, d2] => { results := [.lit (.bool false)], args := [d1, d2] }
  | _ => none }
def SchnorrSignsWrongFalsely : Prop := schnorrSignsRow.holds Try.pinned (OpenSpec.ofChange schnorrSignsWrong)

/-- 'pontagelaw35.SchnorrChecks': WHATEVER THE INPUT: true; the input reads as it did. -/
def schnorrChecksSpec : ChangeSpec := { name := "schnorrChecks", fn := fun _ => fun
  | [d1, d2, d3, d4, d5, d6] => { results := [.lit (.bool true)], args := [d1, d2, d3, d4, d5, d6] }
  | _ => none }
def schnorrChecksRow : OpenClaim := { program := "ytgghopmlcpcpkaa", sum := "de181647780e2244a28bd29ad95445618632f47eb359dbaa6db84c194b0166db", func := "pontage/pontagelaw35.SchnorrChecks", spec := "schnorrChecks", inPlace := ["math/bits.Sub64", "math/bits.Add64"], unfollowed := true, recurses := true, apart := false }
def SchnorrChecksSaid : Prop := schnorrChecksRow.holds Try.pinned (OpenSpec.ofChange schnorrChecksSpec)

/-- ITS FALSE NEIGHBOUR: 'it returns false'. Refute it at one input. -/
def schnorrChecksWrong : ChangeSpec := { name := "schnorrChecks", fn := fun _ => fun
  | [d1, d2, d3, d4, d5, d6] => { results := [.lit (.bool false)], args := [d1, d2, d3, d4, d5, d6] }
  | _ => none }
def SchnorrChecksWrongFalsely : Prop := schnorrChecksRow.holds Try.pinned (OpenSpec.ofChange schnorrChecksWrong)

/-- 'pontagelaw35.SchnorrAll': WHATEVER THE INPUT: true; the input reads as it did. -/
def schnorrAllSpec : ChangeSpec := { name := "schnorrAll", fn := fun _ => fun
  | [d1, d2, d3] => { results := [.lit (.bool true)], args := [d1, d2, d3] }
  | _ => none }
def schnorrAllRow : OpenClaim := { program := "ytgghopmlcpcpkaa", sum := "de181647780e2244a28bd29ad95445618632f47eb359dbaa6db84c194b0166db", func := "pontage/pontagelaw35.SchnorrAll", spec := "schnorrAll", inPlace := ["math/bits.Sub64", "math/bits.Add64"], unfollowed := true, recurses := true, apart := false }
def SchnorrAllSaid : Prop := schnorrAllRow.holds Try.pinned (OpenSpec.ofChange schnorrAllSpec)

/-- ITS FALSE NEIGHBOUR: 'it returns false'. Refute it at one input. -/
def schnorrAllWrong : ChangeSpec := { name := "schnorrAll", fn := fun _ => fun
  | [d1, d2, d3] => { results := [.lit (.bool false)], args := [d1, d2, d3] }
  | _ => none }
def SchnorrAllWrongFalsely : Prop := schnorrAllRow.holds Try.pinned (OpenSpec.ofChange schnorrAllWrong)

/- THE SECOND FORM. 'bulk': how many values and letters a reading holds, each counted each time it is reached (what is shared counts as often as it is met; a slice's spare places count too). A statement '..UptoSaid' is the law's where the arguments, and the package variables that the reading takes, are together of bulk at most 1048576: NARROWER than '..Said'. Prove '..Said' where nothing that the law and all that it calls make is longer than what came in: it says more and counts as full. Else prove '..UptoSaid'. A law counts once. -/
mutual
def uptoBulk {H : Type} : DataW H → Nat
  | .lit (.string bytes) => bytes.length + 1
  | .lit _ => 1
  | .nil => 1
  | .ptr d => uptoBulk d + 1
  | .slice elems spare => uptoBulkAll elems + uptoBulkAll spare + 1
  | .agg parts => uptoBulkAll parts + 1
  | .iface _ d => uptoBulk d + 1
  | .map entries => uptoBulkEntries entries + 1
  | .held _ => 1
def uptoBulkAll {H : Type} : List (DataW H) → Nat
  | [] => 0
  | d :: r => uptoBulk d + uptoBulkAll r
def uptoBulkEntries {H : Type} : List (Lit × DataW H) → Nat
  | [] => 0
  | x :: r => uptoBulkEntry x + uptoBulkEntries r
def uptoBulkEntry {H : Type} : Lit × DataW H → Nat
  | (.string bytes, d) => bytes.length + uptoBulk d + 1
  | (_, d) => uptoBulk d + 1
 end
def uptoSmall : (H : Type) → List (DataW H) → Bool := fun _ ds => decide (uptoBulkAll ds ≤ 1048576)
def OpenSpec.upto (s : _root_.Go.ChangeSpec) : _root_.Go.OpenSpec := { _root_.Go.OpenSpec.ofChange s with cond := some uptoSmall }

/-- 'pontagelaw33.ResiduePowers', WHERE WHAT IT READS IS OF BULK AT MOST 1048576: true; the input reads as it did. -/
def residuePowersUptoRow : OpenClaim := { program := "ytgghopmlcpcpkaa", sum := "de181647780e2244a28bd29ad95445618632f47eb359dbaa6db84c194b0166db", func := "pontage/pontagelaw33.ResiduePowers", spec := "residuePowers", inPlace := ["math/bits.Sub64", "math/bits.Add64"], recurses := true, apart := false, narrowed := true }
def ResiduePowersUptoSaid : Prop := residuePowersUptoRow.holds Try.pinned (OpenSpec.upto residuePowersSpec)

/-- 'pontagelaw33.ResidueInverts', WHERE WHAT IT READS IS OF BULK AT MOST 1048576: true; the input reads as it did. -/
def residueInvertsUptoRow : OpenClaim := { program := "ytgghopmlcpcpkaa", sum := "de181647780e2244a28bd29ad95445618632f47eb359dbaa6db84c194b0166db", func := "pontage/pontagelaw33.ResidueInverts", spec := "residueInverts", inPlace := ["math/bits.Sub64", "math/bits.Add64"], recurses := true, apart := false, narrowed := true }
def ResidueInvertsUptoSaid : Prop := residueInvertsUptoRow.holds Try.pinned (OpenSpec.upto residueInvertsSpec)

/-- 'pontagelaw33.ResidueRules', WHERE WHAT IT READS IS OF BULK AT MOST 1048576: true; the input reads as it did. -/
def residueRulesUptoRow : OpenClaim := { program := "ytgghopmlcpcpkaa", sum := "de181647780e2244a28bd29ad95445618632f47eb359dbaa6db84c194b0166db", func := "pontage/pontagelaw33.ResidueRules", spec := "residueRules", inPlace := ["math/bits.Sub64", "math/bits.Add64"], recurses := true, apart := false, narrowed := true }
def ResidueRulesUptoSaid : Prop := residueRulesUptoRow.holds Try.pinned (OpenSpec.upto residueRulesSpec)

/-- 'pontagelaw33.ResidueSums', WHERE WHAT IT READS IS OF BULK AT MOST 1048576: true; the input reads as it did. -/
def residueSumsUptoRow : OpenClaim := { program := "ytgghopmlcpcpkaa", sum := "de181647780e2244a28bd29ad95445618632f47eb359dbaa6db84c194b0166db", func := "pontage/pontagelaw33.ResidueSums", spec := "residueSums", inPlace := ["math/bits.Sub64", "math/bits.Add64"], recurses := true, apart := false, narrowed := true }
def ResidueSumsUptoSaid : Prop := residueSumsUptoRow.holds Try.pinned (OpenSpec.upto residueSumsSpec)

/-- 'pontagelaw33.ResidueNone', WHERE WHAT IT READS IS OF BULK AT MOST 1048576: true; the input reads as it did. -/
def residueNoneUptoRow : OpenClaim := { program := "ytgghopmlcpcpkaa", sum := "de181647780e2244a28bd29ad95445618632f47eb359dbaa6db84c194b0166db", func := "pontage/pontagelaw33.ResidueNone", spec := "residueNone", inPlace := ["math/bits.Sub64", "math/bits.Add64"], recurses := true, apart := false, narrowed := true }
def ResidueNoneUptoSaid : Prop := residueNoneUptoRow.holds Try.pinned (OpenSpec.upto residueNoneSpec)

/-- 'pontagelaw34.CurveTimes', WHERE WHAT IT READS IS OF BULK AT MOST 1048576: true; the input reads as it did. -/
def curveTimesUptoRow : OpenClaim := { program := "ytgghopmlcpcpkaa", sum := "de181647780e2244a28bd29ad95445618632f47eb359dbaa6db84c194b0166db", func := "pontage/pontagelaw34.CurveTimes", spec := "curveTimes", inPlace := ["math/bits.Sub64", "math/bits.Add64"], recurses := true, apart := false, narrowed := true }
def CurveTimesUptoSaid : Prop := curveTimesUptoRow.holds Try.pinned (OpenSpec.upto curveTimesSpec)

/-- 'pontagelaw34.CurveTwice', WHERE WHAT IT READS IS OF BULK AT MOST 1048576: true; the input reads as it did. -/
def curveTwiceUptoRow : OpenClaim := { program := "ytgghopmlcpcpkaa", sum := "de181647780e2244a28bd29ad95445618632f47eb359dbaa6db84c194b0166db", func := "pontage/pontagelaw34.CurveTwice", spec := "curveTwice", inPlace := ["math/bits.Sub64", "math/bits.Add64"], recurses := true, apart := false, narrowed := true }
def CurveTwiceUptoSaid : Prop := curveTwiceUptoRow.holds Try.pinned (OpenSpec.upto curveTwiceSpec)

/-- 'pontagelaw34.CurveGroups', WHERE WHAT IT READS IS OF BULK AT MOST 1048576: true; the input reads as it did. -/
def curveGroupsUptoRow : OpenClaim := { program := "ytgghopmlcpcpkaa", sum := "de181647780e2244a28bd29ad95445618632f47eb359dbaa6db84c194b0166db", func := "pontage/pontagelaw34.CurveGroups", spec := "curveGroups", inPlace := ["math/bits.Sub64", "math/bits.Add64"], recurses := true, apart := false, narrowed := true }
def CurveGroupsUptoSaid : Prop := curveGroupsUptoRow.holds Try.pinned (OpenSpec.upto curveGroupsSpec)

/-- 'pontagelaw34.CurveAdds', WHERE WHAT IT READS IS OF BULK AT MOST 1048576: true; the input reads as it did. -/
def curveAddsUptoRow : OpenClaim := { program := "ytgghopmlcpcpkaa", sum := "de181647780e2244a28bd29ad95445618632f47eb359dbaa6db84c194b0166db", func := "pontage/pontagelaw34.CurveAdds", spec := "curveAdds", inPlace := ["math/bits.Sub64", "math/bits.Add64"], recurses := true, apart := false, narrowed := true }
def CurveAddsUptoSaid : Prop := curveAddsUptoRow.holds Try.pinned (OpenSpec.upto curveAddsSpec)

/-- 'pontagelaw34.CurveBytes', WHERE WHAT IT READS IS OF BULK AT MOST 1048576: true; the input reads as it did. -/
def curveBytesUptoRow : OpenClaim := { program := "ytgghopmlcpcpkaa", sum := "de181647780e2244a28bd29ad95445618632f47eb359dbaa6db84c194b0166db", func := "pontage/pontagelaw34.CurveBytes", spec := "curveBytes", inPlace := ["math/bits.Sub64", "math/bits.Add64"], recurses := true, apart := false, narrowed := true }
def CurveBytesUptoSaid : Prop := curveBytesUptoRow.holds Try.pinned (OpenSpec.upto curveBytesSpec)

/-- 'pontagelaw35.SchnorrSigns', WHERE WHAT IT READS IS OF BULK AT MOST 1048576: true; the input reads as it did. -/
def schnorrSignsUptoRow : OpenClaim := { program := "ytgghopmlcpcpkaa", sum := "de181647780e2244a28bd29ad95445618632f47eb359dbaa6db84c194b0166db", func := "pontage/pontagelaw35.SchnorrSigns", spec := "schnorrSigns", inPlace := ["math/bits.Sub64", "math/bits.Add64"], unfollowed := true, recurses := true, apart := false, narrowed := true }
def SchnorrSignsUptoSaid : Prop := schnorrSignsUptoRow.holds Try.pinned (OpenSpec.upto schnorrSignsSpec)

/-- 'pontagelaw35.SchnorrChecks', WHERE WHAT IT READS IS OF BULK AT MOST 1048576: true; the input reads as it did. -/
def schnorrChecksUptoRow : OpenClaim := { program := "ytgghopmlcpcpkaa", sum := "de181647780e2244a28bd29ad95445618632f47eb359dbaa6db84c194b0166db", func := "pontage/pontagelaw35.SchnorrChecks", spec := "schnorrChecks", inPlace := ["math/bits.Sub64", "math/bits.Add64"], unfollowed := true, recurses := true, apart := false, narrowed := true }
def SchnorrChecksUptoSaid : Prop := schnorrChecksUptoRow.holds Try.pinned (OpenSpec.upto schnorrChecksSpec)

/-- 'pontagelaw35.SchnorrAll', WHERE WHAT IT READS IS OF BULK AT MOST 1048576: true; the input reads as it did. -/
def schnorrAllUptoRow : OpenClaim := { program := "ytgghopmlcpcpkaa", sum := "de181647780e2244a28bd29ad95445618632f47eb359dbaa6db84c194b0166db", func := "pontage/pontagelaw35.SchnorrAll", spec := "schnorrAll", inPlace := ["math/bits.Sub64", "math/bits.Add64"], unfollowed := true, recurses := true, apart := false, narrowed := true }
def SchnorrAllUptoSaid : Prop := schnorrAllUptoRow.holds Try.pinned (OpenSpec.upto schnorrAllSpec)

end Rows
end Go.Proofs.Ytgghopmlcpcpkaa
