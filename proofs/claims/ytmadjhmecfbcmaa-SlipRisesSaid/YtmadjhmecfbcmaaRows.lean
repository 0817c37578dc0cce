/-
  No cell of these rows narrows 'for every input' (looked for: loops, veiled, ifaces, maps, wideKeys, modest, calm, conditions, laid).
  DERIVED. THE GIVEN ROWS OF THIS SEAT. 17 by the template 'for every input the law returns true; each argument reads behind the call as it read before'; 0 by the template 'total and deterministic' (their statements: YtmadjhmecfbcmaaTotals.lean).
  GIVEN WITH THE SEED: the statements are not yours to turn. If you find one false, say at which input.
  Laid BY PROGRAM, IN A SANDBOX (cutbox-rows.mjs): the forced cells as the released guide's own fill.sh prints them over the translation 9dfa8efada87b200… (all of the seat's roots in one cut). By AI agents, Wed Nov 11 2026. No macro, syntax, notation, axiom, sorry.
-/
import Derived.Test.YtmadjhmecfbcmaaChecked
import GoSem.Claim
import GoSem.ClaimJoined
import GoSem.ClaimMapViews
import Derived.JoinedTies
import Derived.KernelRfl
namespace Go.Proofs.Ytmadjhmecfbcmaa
/- THE CELL 'sum', in the pinned program and in every row, IS THE sha256 OF THE DUMP (.gsa) THAT YtmadjhmecfbcmaaProg.lean LOADS. Nothing in Lean hashes anything: it is a label: what it is worth is what the hold of that sum in a sandbox is worth. -/
noncomputable def Try.pinned : Pinned := { name := "ytmadjhmecfbcmaa", sum := "9dfa8efada87b200e68ce4e479c3d93ccd7a5fb4fce169f8eb46e24c1a0989f3", checked := Try.checked }
namespace Rows
def none {H : Type} : Left H := { results := [], args := [] }

/-- 'flyballlaw06.SoftAdds': WHATEVER THE INPUT: true; the input reads as it did. -/
def softAddsSpec : ChangeSpec := { name := "softAdds", fn := fun _ => fun
  | [d1, d2, d3] => { results := [.lit (.bool true)], args := [d1, d2, d3] }
  | _ => none }
def softAddsRow : OpenClaim := { program := "ytmadjhmecfbcmaa", sum := "9dfa8efada87b200e68ce4e479c3d93ccd7a5fb4fce169f8eb46e24c1a0989f3", func := "flyball/flyballlaw06.SoftAdds", spec := "softAdds", inPlace := ["math/bits.Add64", "math/bits.Sub64"], named := ["math/bits.divideError", "math/bits.overflowError"], apart := false }
def SoftAddsSaid : Prop := softAddsRow.holds Try.pinned (OpenSpec.ofChange softAddsSpec)

/-- ITS FALSE NEIGHBOUR: 'it returns false'. Refute it at one input. -/
def softAddsWrong : ChangeSpec := { name := "softAdds", fn := fun _ => fun
  | [d1, d2, d3] => { results := [.lit (.bool false)], args := [d1, d2, d3] }
  | _ => none }
def SoftAddsWrongFalsely : Prop := softAddsRow.holds Try.pinned (OpenSpec.ofChange softAddsWrong)

/-- 'flyballlaw06.SoftMuls': WHATEVER THE INPUT: true; the input reads as it did. -/
def softMulsSpec : ChangeSpec := { name := "softMuls", fn := fun _ => fun
  | [d1, d2, d3] => { results := [.lit (.bool true)], args := [d1, d2, d3] }
  | _ => none }
def softMulsRow : OpenClaim := { program := "ytmadjhmecfbcmaa", sum := "9dfa8efada87b200e68ce4e479c3d93ccd7a5fb4fce169f8eb46e24c1a0989f3", func := "flyball/flyballlaw06.SoftMuls", spec := "softMuls", inPlace := ["math/bits.Add64", "math/bits.Sub64"], named := ["math/bits.divideError", "math/bits.overflowError"], apart := false }
def SoftMulsSaid : Prop := softMulsRow.holds Try.pinned (OpenSpec.ofChange softMulsSpec)

/-- ITS FALSE NEIGHBOUR: 'it returns false'. Refute it at one input. -/
def softMulsWrong : ChangeSpec := { name := "softMuls", fn := fun _ => fun
  | [d1, d2, d3] => { results := [.lit (.bool false)], args := [d1, d2, d3] }
  | _ => none }
def SoftMulsWrongFalsely : Prop := softMulsRow.holds Try.pinned (OpenSpec.ofChange softMulsWrong)

/-- 'flyballlaw06.SoftDivides': WHATEVER THE INPUT: true; the input reads as it did. -/
def softDividesSpec : ChangeSpec := { name := "softDivides", fn := fun _ => fun
  | [d1, d2, d3] => { results := [.lit (.bool true)], args := [d1, d2, d3] }
  | _ => none }
def softDividesRow : OpenClaim := { program := "ytmadjhmecfbcmaa", sum := "9dfa8efada87b200e68ce4e479c3d93ccd7a5fb4fce169f8eb46e24c1a0989f3", func := "flyball/flyballlaw06.SoftDivides", spec := "softDivides", inPlace := ["math/bits.Add64", "math/bits.Sub64"], named := ["math/bits.divideError", "math/bits.overflowError"], apart := false }
def SoftDividesSaid : Prop := softDividesRow.holds Try.pinned (OpenSpec.ofChange softDividesSpec)

/-- ITS FALSE NEIGHBOUR: 'it returns false'. Refute it at one input. -/
def softDividesWrong : ChangeSpec := { name := "softDivides", fn := fun _ => fun
  | [d1, d2, d3] => { results := [.lit (.bool false)], args := [d1, d2, d3] }
  | _ => none }
def SoftDividesWrongFalsely : Prop := softDividesRow.holds Try.pinned (OpenSpec.ofChange softDividesWrong)

/-- 'flyballlaw06.SoftRoots': WHATEVER THE INPUT: true; the input reads as it did. -/
def softRootsSpec : ChangeSpec := { name := "softRoots", fn := fun _ => fun
  | [d1, d2] => { results := [.lit (.bool true)], args := [d1, d2] }
  | _ => none }
def softRootsRow : OpenClaim := { program := "ytmadjhmecfbcmaa", sum := "9dfa8efada87b200e68ce4e479c3d93ccd7a5fb4fce169f8eb46e24c1a0989f3", func := "flyball/flyballlaw06.SoftRoots", spec := "softRoots", inPlace := ["math/bits.Add64", "math/bits.Sub64"], named := ["math/bits.divideError", "math/bits.overflowError"], apart := false }
def SoftRootsSaid : Prop := softRootsRow.holds Try.pinned (OpenSpec.ofChange softRootsSpec)

/-- ITS FALSE NEIGHBOUR: 'it returns false'. Refute it at one input. -/
def softRootsWrong : ChangeSpec := { name := "softRoots", fn := fun _ => fun
  | [d1, d2] => { results := [.lit (.bool false)], args := [d1, d2] }
  | _ => none }
def SoftRootsWrongFalsely : Prop := softRootsRow.holds Try.pinned (OpenSpec.ofChange softRootsWrong)

/-- 'flyballlaw06.SoftSums': WHATEVER THE INPUT: true; the input reads as it did. -/
def softSumsSpec : ChangeSpec := { name := "softSums", fn := fun _ => fun
  | [d1, d2] => { results := [.lit (.bool true)], args := [d1, d2] }
  | _ => none }
def softSumsRow : OpenClaim := { program := "ytmadjhmecfbcmaa", sum := "9dfa8efada87b200e68ce4e479c3d93ccd7a5fb4fce169f8eb46e24c1a0989f3", func := "flyball/flyballlaw06.SoftSums", spec := "softSums", inPlace := ["math/bits.Add64", "math/bits.Sub64"], named := ["math/bits.divideError", "math/bits.overflowError"], apart := false }
def SoftSumsSaid : Prop := softSumsRow.holds Try.pinned (OpenSpec.ofChange softSumsSpec)

/-- ITS FALSE NEIGHBOUR: 'it returns false'. Refute it at one input. -/
def softSumsWrong : ChangeSpec := { name := "softSums", fn := fun _ => fun
  | [d1, d2] => { results := [.lit (.bool false)], args := [d1, d2] }
  | _ => none }
def SoftSumsWrongFalsely : Prop := softSumsRow.holds Try.pinned (OpenSpec.ofChange softSumsWrong)

/-- 'flyballlaw06.SoftTurns': WHATEVER THE INPUT: true; the input reads as it did. -/
def softTurnsSpec : ChangeSpec := { name := "softTurns", fn := fun _ => fun
  | [d1, d2, d3] => { results := [.lit (.bool true)], args := [d1, d2, d3] }
  | _ => none }
def softTurnsRow : OpenClaim := { program := "ytmadjhmecfbcmaa", sum := "9dfa8efada87b200e68ce4e479c3d93ccd7a5fb4fce169f8eb46e24c1a0989f3", func := "flyball/flyballlaw06.SoftTurns", spec := "softTurns", inPlace := ["math/bits.Add64", "math/bits.Sub64"], named := ["math/bits.divideError", "math/bits.overflowError"], apart := false }
def SoftTurnsSaid : Prop := softTurnsRow.holds Try.pinned (OpenSpec.ofChange softTurnsSpec)

/-- ITS FALSE NEIGHBOUR: 'it returns false'. Refute it at one input. -/
def softTurnsWrong : ChangeSpec := { name := "softTurns", fn := fun _ => fun
  | [d1, d2, d3] => { results := [.lit (.bool false)], args := [d1, d2, d3] }
  | _ => none }
def SoftTurnsWrongFalsely : Prop := softTurnsRow.holds Try.pinned (OpenSpec.ofChange softTurnsWrong)

/-- 'flyballlaw06.SoftRises': WHATEVER THE INPUT: true; the input reads as it did. -/
def softRisesSpec : ChangeSpec := { name := "softRises", fn := fun _ => fun
  | [d1, d2, d3, d4] => { results := [.lit (.bool true)], args := [d1, d2, d3, d4] }
  | _ => none }
def softRisesRow : OpenClaim := { program := "ytmadjhmecfbcmaa", sum := "9dfa8efada87b200e68ce4e479c3d93ccd7a5fb4fce169f8eb46e24c1a0989f3", func := "flyball/flyballlaw06.SoftRises", spec := "softRises", inPlace := ["math/bits.Add64", "math/bits.Sub64"], named := ["math/bits.divideError", "math/bits.overflowError"], apart := false }
def SoftRisesSaid : Prop := softRisesRow.holds Try.pinned (OpenSpec.ofChange softRisesSpec)

/-- ITS FALSE NEIGHBOUR: 'it returns false'. Refute it at one input. -/
def softRisesWrong : ChangeSpec := { name := "softRises", fn := fun _ => fun
  | [d1, d2, d3, d4] => { results := [.lit (.bool false)], args := [d1, d2, d3, d4] }
  | _ => none }
def SoftRisesWrongFalsely : Prop := softRisesRow.holds Try.pinned (OpenSpec.ofChange softRisesWrong)

/-- 'flyballlaw16.SpanMakes': WHATEVER THE INPUT: true; the input reads as it did. -/
def spanMakesSpec : ChangeSpec := { name := "spanMakes", fn := fun _ => fun
  | [d1, d2, d3] => { results := [.lit (.bool true)], args := [d1, d2, d3] }
  | _ => none }
def spanMakesRow : OpenClaim := { program := "ytmadjhmecfbcmaa", sum := "9dfa8efada87b200e68ce4e479c3d93ccd7a5fb4fce169f8eb46e24c1a0989f3", func := "flyball/flyballlaw16.SpanMakes", spec := "spanMakes", unfollowed := true, recurses := true, named := ["math/bits.divideError", "math/bits.overflowError"], apart := false }
def SpanMakesSaid : Prop := spanMakesRow.holds Try.pinned (OpenSpec.ofChange spanMakesSpec)

/-- ITS FALSE NEIGHBOUR: 'it returns false'. Refute it at one input. -/
def spanMakesWrong : ChangeSpec := { name := "spanMakes", fn := fun _ => fun
  | [d1, d2, d3] => { results := [.lit (.bool false)], args := [d1, d2, d3] }
  | _ => none }
def SpanMakesWrongFalsely : Prop := spanMakesRow.holds Try.pinned (OpenSpec.ofChange spanMakesWrong)

/-- 'flyballlaw16.SpanTests': WHATEVER THE INPUT: true; the input reads as it did. -/
def spanTestsSpec : ChangeSpec := { name := "spanTests", fn := fun _ => fun
  | [d1, d2, d3] => { results := [.lit (.bool true)], args := [d1, d2, d3] }
  | _ => none }
def spanTestsRow : OpenClaim := { program := "ytmadjhmecfbcmaa", sum := "9dfa8efada87b200e68ce4e479c3d93ccd7a5fb4fce169f8eb46e24c1a0989f3", func := "flyball/flyballlaw16.SpanTests", spec := "spanTests", unfollowed := true, recurses := true, named := ["math/bits.divideError", "math/bits.overflowError"], apart := false }
def SpanTestsSaid : Prop := spanTestsRow.holds Try.pinned (OpenSpec.ofChange spanTestsSpec)

/-- ITS FALSE NEIGHBOUR: 'it returns false'. Refute it at one input. -/
def spanTestsWrong : ChangeSpec := { name := "spanTests", fn := fun _ => fun
  | [d1, d2, d3] => { results := [.lit (.bool false)], args := [d1, d2, d3] }
  | _ => none }
def SpanTestsWrongFalsely : Prop := spanTestsRow.holds Try.pinned (OpenSpec.ofChange spanTestsWrong)

/-- 'flyballlaw16.SpanKeeps': WHATEVER THE INPUT: true; the input reads as it did. -/
def spanKeepsSpec : ChangeSpec := { name := "spanKeeps", fn := fun _ => fun
  | [d1, d2, d3, d4, d5] => { results := [.lit (.bool true)], args := [d1, d2, d3, d4, d5] }
  | _ => none }
def spanKeepsRow : OpenClaim := { program := "ytmadjhmecfbcmaa", sum := "9dfa8efada87b200e68ce4e479c3d93ccd7a5fb4fce169f8eb46e24c1a0989f3", func := "flyball/flyballlaw16.SpanKeeps", spec := "spanKeeps", unfollowed := true, recurses := true, named := ["math/bits.divideError", "math/bits.overflowError"], apart := false }
def SpanKeepsSaid : Prop := spanKeepsRow.holds Try.pinned (OpenSpec.ofChange spanKeepsSpec)

/-- ITS FALSE NEIGHBOUR: 'it returns false'. Refute it at one input. -/
def spanKeepsWrong : ChangeSpec := { name := "spanKeeps", fn := fun _ => fun
  | [d1, d2, d3, d4, d5] => { results := [.lit (.bool false)], args := [d1, d2, d3, d4, d5] }
  | _ => none }
def SpanKeepsWrongFalsely : Prop := spanKeepsRow.holds Try.pinned (OpenSpec.ofChange spanKeepsWrong)

/-- 'flyballlaw16.SpanWidens': WHATEVER THE INPUT: true; the input reads as it did. -/
def spanWidensSpec : ChangeSpec := { name := "spanWidens", fn := fun _ => fun
  | [d1, d2, d3] => { results := [.lit (.bool true)], args := [d1, d2, d3] }
  | _ => none }
def spanWidensRow : OpenClaim := { program := "ytmadjhmecfbcmaa", sum := "9dfa8efada87b200e68ce4e479c3d93ccd7a5fb4fce169f8eb46e24c1a0989f3", func := "flyball/flyballlaw16.SpanWidens", spec := "spanWidens", unfollowed := true, recurses := true, named := ["math/bits.divideError", "math/bits.overflowError"], apart := false }
def SpanWidensSaid : Prop := spanWidensRow.holds Try.pinned (OpenSpec.ofChange spanWidensSpec)

/-- ITS FALSE NEIGHBOUR: 'it returns false'. Refute it at one input. -/
def spanWidensWrong : ChangeSpec := { name := "spanWidens", fn := fun _ => fun
  | [d1, d2, d3] => { results := [.lit (.bool false)], args := [d1, d2, d3] }
  | _ => none }
def SpanWidensWrongFalsely : Prop := spanWidensRow.holds Try.pinned (OpenSpec.ofChange spanWidensWrong)

/-- 'flyballlaw19.SlipWidens': WHATEVER THE INPUT: true; the input reads as it did. -/
def slipWidensSpec : ChangeSpec := { name := "slipWidens", fn := fun _ => fun
  | [d1, d2, d3] => { results := [.lit (.bool true)], args := [d1, d2, d3] }
  | _ => none }
def slipWidensRow : OpenClaim := { program := "ytmadjhmecfbcmaa", sum := "9dfa8efada87b200e68ce4e479c3d93ccd7a5fb4fce169f8eb46e24c1a0989f3", func := "flyball/flyballlaw19.SlipWidens", spec := "slipWidens", inPlace := ["math/bits.Add64", "math/bits.Sub64"], unfollowed := true, recurses := true, named := ["math/bits.divideError", "math/bits.overflowError"], apart := false }
def SlipWidensSaid : Prop := slipWidensRow.holds Try.pinned (OpenSpec.ofChange slipWidensSpec)

/-- ITS FALSE NEIGHBOUR: 'it returns false'. Refute it at one input. -/
def slipWidensWrong : ChangeSpec := { name := "slipWidens", fn := fun _ => fun
  | [d1, d2, d3] => { results := [.lit (.bool false)], args := [d1, d2, d3] }
  | _ => none }
def SlipWidensWrongFalsely : Prop := slipWidensRow.holds Try.pinned (OpenSpec.ofChange slipWidensWrong)

/-- 'flyballlaw19.SlipRises': WHATEVER THE INPUT: true; the input reads as it did. -/
def slipRisesSpec : ChangeSpec := { name := "slipRises", fn := fun _ => fun
  | [d1, d2, d3, d4, d5, d6, d7, d8] => { results := [.lit (.bool true)], args := [d1, d2, d3, d4, d5, d6, d7, d8] }
  | _ => none }
def slipRisesRow : OpenClaim := { program := "ytmadjhmecfbcmaa", sum := "9dfa8efada87b200e68ce4e479c3d93ccd7a5fb4fce169f8eb46e24c1a0989f3", func := "flyball/flyballlaw19.SlipRises", spec := "slipRises", inPlace := ["math/bits.Add64", "math/bits.Sub64"], unfollowed := true, recurses := true, named := ["math/bits.divideError", "math/bits.overflowError"], apart := false }
def SlipRisesSaid : Prop := slipRisesRow.holds Try.pinned (OpenSpec.ofChange slipRisesSpec)

/-- ITS FALSE NEIGHBOUR: 'it returns false'. Refute it at one input. -/
def slipRisesWrong : ChangeSpec := { name := "slipRises", fn := fun _ => fun
  | [d1, d2, d3, d4, d5, d6, d7, d8] => { results := [.lit (.bool false)], args := [d1, d2, d3, d4, d5, d6, d7, d8] }
  | _ => none }
def SlipRisesWrongFalsely : Prop := slipRisesRow.holds Try.pinned (OpenSpec.ofChange slipRisesWrong)

/-- 'flyballlaw16.SpanOrder': WHATEVER THE INPUT: true; the input reads as it did. -/
def spanOrderSpec : ChangeSpec := { name := "spanOrder", fn := fun _ => fun
  | [d1, d2, d3, d4] => { results := [.lit (.bool true)], args := [d1, d2, d3, d4] }
  | _ => none }
def spanOrderRow : OpenClaim := { program := "ytmadjhmecfbcmaa", sum := "9dfa8efada87b200e68ce4e479c3d93ccd7a5fb4fce169f8eb46e24c1a0989f3", func := "flyball/flyballlaw16.SpanOrder", spec := "spanOrder", inPlace := ["math/bits.Add64", "math/bits.Sub64"], unfollowed := true, recurses := true, named := ["math/bits.divideError", "math/bits.overflowError"], apart := false }
def SpanOrderSaid : Prop := spanOrderRow.holds Try.pinned (OpenSpec.ofChange spanOrderSpec)

/-- ITS FALSE NEIGHBOUR: 'it returns false'. Refute it at one input. -/
def spanOrderWrong : ChangeSpec := { name := "spanOrder", fn := fun _ => fun
  | [d1, d2, d3, d4] => { results := [.lit (.bool false)], args := [d1, d2, d3, d4] }
  | _ => none }
def SpanOrderWrongFalsely : Prop := spanOrderRow.holds Try.pinned (OpenSpec.ofChange spanOrderWrong)

/-- 'flyballlaw06.SoftSquares': WHATEVER THE INPUT: true; the input reads as it did. -/
def softSquaresSpec : ChangeSpec := { name := "softSquares", fn := fun _ => fun
  | [d] => { results := [.lit (.bool true)], args := [d] }
  | _ => none }
def softSquaresRow : OpenClaim := { program := "ytmadjhmecfbcmaa", sum := "9dfa8efada87b200e68ce4e479c3d93ccd7a5fb4fce169f8eb46e24c1a0989f3", func := "flyball/flyballlaw06.SoftSquares", spec := "softSquares", inPlace := ["math/bits.Add64", "math/bits.Sub64"], unfollowed := true, recurses := true, named := ["math/bits.divideError", "math/bits.overflowError"], apart := false }
def SoftSquaresSaid : Prop := softSquaresRow.holds Try.pinned (OpenSpec.ofChange softSquaresSpec)

/-- ITS FALSE NEIGHBOUR: 'it returns false'. Refute it at one input. -/
def softSquaresWrong : ChangeSpec := { name := "softSquares", fn := fun _ => fun
  | [d] => { results := [.lit (.bool false)], args := [d] }
  | _ => none }
def SoftSquaresWrongFalsely : Prop := softSquaresRow.holds Try.pinned (OpenSpec.ofChange softSquaresWrong)

/-- 'flyballlaw06.SoftExact': WHATEVER THE INPUT: true; the input reads as it did. -/
def softExactSpec : ChangeSpec := { name := "softExact", fn := fun _ => fun
  | [d1, d2, d3] => { results := [.lit (.bool true)], args := [d1, d2, d3] }
  | _ => none }
def softExactRow : OpenClaim := { program := "ytmadjhmecfbcmaa", sum := "9dfa8efada87b200e68ce4e479c3d93ccd7a5fb4fce169f8eb46e24c1a0989f3", func := "flyball/flyballlaw06.SoftExact", spec := "softExact", inPlace := ["math/bits.Add64", "math/bits.Sub64"], unfollowed := true, recurses := true, named := ["math/bits.divideError", "math/bits.overflowError"], apart := false }
def SoftExactSaid : Prop := softExactRow.holds Try.pinned (OpenSpec.ofChange softExactSpec)

/-- ITS FALSE NEIGHBOUR: 'it returns false'. Refute it at one input. -/
def softExactWrong : ChangeSpec := { name := "softExact", fn := fun _ => fun
  | [d1, d2, d3] => { results := [.lit (.bool false)], args := [d1, d2, d3] }
  | _ => none }
def SoftExactWrongFalsely : Prop := softExactRow.holds Try.pinned (OpenSpec.ofChange softExactWrong)

/-- 'flyballlaw19.SlipDivides': WHATEVER THE INPUT: true; the input reads as it did. -/
def slipDividesSpec : ChangeSpec := { name := "slipDivides", fn := fun _ => fun
  | [d1, d2, d3, d4, d5] => { results := [.lit (.bool true)], args := [d1, d2, d3, d4, d5] }
  | _ => none }
def slipDividesRow : OpenClaim := { program := "ytmadjhmecfbcmaa", sum := "9dfa8efada87b200e68ce4e479c3d93ccd7a5fb4fce169f8eb46e24c1a0989f3", func := "flyball/flyballlaw19.SlipDivides", spec := "slipDivides", inPlace := ["math/bits.Add64", "math/bits.Sub64"], unfollowed := true, recurses := true, named := ["math/bits.divideError", "math/bits.overflowError"], apart := false }
def SlipDividesSaid : Prop := slipDividesRow.holds Try.pinned (OpenSpec.ofChange slipDividesSpec)

/-- ITS FALSE NEIGHBOUR: 'it returns false'. Refute it at one input. -/
def slipDividesWrong : ChangeSpec := { name := "slipDivides", fn := fun _ => fun
  | [d1, d2, d3, d4, d5] => { results := [.lit (.bool false)], args := [d1, d2, d3, d4, d5] }
  | _ => none }
def SlipDividesWrongFalsely : Prop := slipDividesRow.holds Try.pinned (OpenSpec.ofChange slipDividesWrong)

/- THE SECOND FORM. 'bulk': how many values and letters a reading holds, each counted each time it is reached (what is shared counts as often as it is met; a slice's spare places count too). A statement '..UptoSaid' is the law's where the arguments, and the package variables that the reading takes, are together of bulk at most 1048576: NARROWER than '..Said'. Prove '..Said' where nothing that the law and all that it calls make is longer than what came in: it says more and counts as full. Else prove '..UptoSaid'. A law counts once. -/
mutual
def uptoBulk {H : Type} : DataW H → Nat
  | .lit (.string bytes) => bytes.length + 1
  | .lit _ => 1
  | .nil => 1
  | .ptr d => uptoBulk d + 1
  | .slice elems spare => uptoBulkAll elems + uptoBulkAll spare + 1
  | .agg parts => uptoBulkAll parts + 1
  | .iface _ d => uptoBulk d + 1
  | .map entries => uptoBulkEntries entries + 1
  | .held _ => 1
def uptoBulkAll {H : Type} : List (DataW H) → Nat
  | [] => 0
  | d :: r => uptoBulk d + uptoBulkAll r
def uptoBulkEntries {H : Type} : List (Lit × DataW H) → Nat
  | [] => 0
  | x :: r => uptoBulkEntry x + uptoBulkEntries r
def uptoBulkEntry {H : Type} : Lit × DataW H → Nat
  | (.string bytes, d) => bytes.length + uptoBulk d + 1
  | (_, d) => uptoBulk d + 1
 end
def uptoSmall : (H : Type) → List (DataW H) → Bool := fun _ ds => decide (uptoBulkAll ds ≤ 1048576)
def OpenSpec.upto (s : _root_.Go.ChangeSpec) : _root_.Go.OpenSpec := { _root_.Go.OpenSpec.ofChange s with cond := some uptoSmall }

/-- 'flyballlaw06.SoftAdds', WHERE WHAT IT READS IS OF BULK AT MOST 1048576: true; the input reads as it did. -/
def softAddsUptoRow : OpenClaim := { program := "ytmadjhmecfbcmaa", sum := "9dfa8efada87b200e68ce4e479c3d93ccd7a5fb4fce169f8eb46e24c1a0989f3", func := "flyball/flyballlaw06.SoftAdds", spec := "softAdds", inPlace := ["math/bits.Add64", "math/bits.Sub64"], named := ["math/bits.divideError", "math/bits.overflowError"], apart := false, narrowed := true }
def SoftAddsUptoSaid : Prop := softAddsUptoRow.holds Try.pinned (OpenSpec.upto softAddsSpec)

/-- 'flyballlaw06.SoftMuls', WHERE WHAT IT READS IS OF BULK AT MOST 1048576: true; the input reads as it did. -/
def softMulsUptoRow : OpenClaim := { program := "ytmadjhmecfbcmaa", sum := "9dfa8efada87b200e68ce4e479c3d93ccd7a5fb4fce169f8eb46e24c1a0989f3", func := "flyball/flyballlaw06.SoftMuls", spec := "softMuls", inPlace := ["math/bits.Add64", "math/bits.Sub64"], named := ["math/bits.divideError", "math/bits.overflowError"], apart := false, narrowed := true }
def SoftMulsUptoSaid : Prop := softMulsUptoRow.holds Try.pinned (OpenSpec.upto softMulsSpec)

/-- 'flyballlaw06.SoftDivides', WHERE WHAT IT READS IS OF BULK AT MOST 1048576: true; the input reads as it did. -/
def softDividesUptoRow : OpenClaim := { program := "ytmadjhmecfbcmaa", sum := "9dfa8efada87b200e68ce4e479c3d93ccd7a5fb4fce169f8eb46e24c1a0989f3", func := "flyball/flyballlaw06.SoftDivides", spec := "softDivides", inPlace := ["math/bits.Add64", "math/bits.Sub64"], named := ["math/bits.divideError", "math/bits.overflowError"], apart := false, narrowed := true }
def SoftDividesUptoSaid : Prop := softDividesUptoRow.holds Try.pinned (OpenSpec.upto softDividesSpec)

/-- 'flyballlaw06.SoftRoots', WHERE WHAT IT READS IS OF BULK AT MOST 1048576: true; the input reads as it did. -/
def softRootsUptoRow : OpenClaim := { program := "ytmadjhmecfbcmaa", sum := "9dfa8efada87b200e68ce4e479c3d93ccd7a5fb4fce169f8eb46e24c1a0989f3", func := "flyball/flyballlaw06.SoftRoots", spec := "softRoots", inPlace := ["math/bits.Add64", "math/bits.Sub64"], named := ["math/bits.divideError", "math/bits.overflowError"], apart := false, narrowed := true }
def SoftRootsUptoSaid : Prop := softRootsUptoRow.holds Try.pinned (OpenSpec.upto softRootsSpec)

/-- 'flyballlaw06.SoftSums', WHERE WHAT IT READS IS OF BULK AT MOST 1048576: true; the input reads as it did. -/
def softSumsUptoRow : OpenClaim := { program := "ytmadjhmecfbcmaa", sum := "9dfa8efada87b200e68ce4e479c3d93ccd7a5fb4fce169f8eb46e24c1a0989f3", func := "flyball/flyballlaw06.SoftSums", spec := "softSums", inPlace := ["math/bits.Add64", "math/bits.Sub64"], named := ["math/bits.divideError", "math/bits.overflowError"], apart := false, narrowed := true }
def SoftSumsUptoSaid : Prop := softSumsUptoRow.holds Try.pinned (OpenSpec.upto softSumsSpec)

/-- 'flyballlaw06.SoftTurns', WHERE WHAT IT READS IS OF BULK AT MOST 1048576: true; the input reads as it did. -/
def softTurnsUptoRow : OpenClaim := { program := "ytmadjhmecfbcmaa", sum := "9dfa8efada87b200e68ce4e479c3d93ccd7a5fb4fce169f8eb46e24c1a0989f3", func := "flyball/flyballlaw06.SoftTurns", spec := "softTurns", inPlace := ["math/bits.Add64", "math/bits.Sub64"], named := ["math/bits.divideError", "math/bits.overflowError"], apart := false, narrowed := true }
def SoftTurnsUptoSaid : Prop := softTurnsUptoRow.holds Try.pinned (OpenSpec.upto softTurnsSpec)

/-- 'flyballlaw06.SoftRises', WHERE WHAT IT READS IS OF BULK AT MOST 1048576: true; the input reads as it did. -/
def softRisesUptoRow : OpenClaim := { program := "ytmadjhmecfbcmaa", sum := "9dfa8efada87b200e68ce4e479c3d93ccd7a5fb4fce169f8eb46e24c1a0989f3", func := "flyball/flyballlaw06.SoftRises", spec := "softRises", inPlace := ["math/bits.Add64", "math/bits.Sub64"], named := ["math/bits.divideError", "math/bits.overflowError"], apart := false, narrowed := true }
def SoftRisesUptoSaid : Prop := softRisesUptoRow.holds Try.pinned (OpenSpec.upto softRisesSpec)

/-- 'flyballlaw16.SpanMakes', WHERE WHAT IT READS IS OF BULK AT MOST 1048576: true; the input reads as it did. -/
def spanMakesUptoRow : OpenClaim := { program := "ytmadjhmecfbcmaa", sum := "9dfa8efada87b200e68ce4e479c3d93ccd7a5fb4fce169f8eb46e24c1a0989f3", func := "flyball/flyballlaw16.SpanMakes", spec := "spanMakes", unfollowed := true, recurses := true, named := ["math/bits.divideError", "math/bits.overflowError"], apart := false, narrowed := true }
def SpanMakesUptoSaid : Prop := spanMakesUptoRow.holds Try.pinned (OpenSpec.upto spanMakesSpec)

/-- 'flyballlaw16.SpanTests', WHERE WHAT IT READS IS OF BULK AT MOST 1048576: true; the input reads as it did. -/
def spanTestsUptoRow : OpenClaim := { program := "ytmadjhmecfbcmaa", sum := "9dfa8efada87b200e68ce4e479c3d93ccd7a5fb4fce169f8eb46e24c1a0989f3", func := "flyball/flyballlaw16.SpanTests", spec := "spanTests", unfollowed := true, recurses := true, named := ["math/bits.divideError", "math/bits.overflowError"], apart := false, narrowed := true }
def SpanTestsUptoSaid : Prop := spanTestsUptoRow.holds Try.pinned (OpenSpec.upto spanTestsSpec)

/-- 'flyballlaw16.SpanKeeps', WHERE WHAT IT READS IS OF BULK AT MOST 1048576: true; the input reads as it did. -/
def spanKeepsUptoRow : OpenClaim := { program := "ytmadjhmecfbcmaa", sum := "9dfa8efada87b200e68ce4e479c3d93ccd7a5fb4fce169f8eb46e24c1a0989f3", func := "flyball/flyballlaw16.SpanKeeps", spec := "spanKeeps", unfollowed := true, recurses := true, named := ["math/bits.divideError", "math/bits.overflowError"], apart := false, narrowed := true }
def SpanKeepsUptoSaid : Prop := spanKeepsUptoRow.holds Try.pinned (OpenSpec.upto spanKeepsSpec)

/-- 'flyballlaw16.SpanWidens', WHERE WHAT IT READS IS OF BULK AT MOST 1048576: true; the input reads as it did. -/
def spanWidensUptoRow : OpenClaim := { program := "ytmadjhmecfbcmaa", sum := "9dfa8efada87b200e68ce4e479c3d93ccd7a5fb4fce169f8eb46e24c1a0989f3", func := "flyball/flyballlaw16.SpanWidens", spec := "spanWidens", unfollowed := true, recurses := true, named := ["math/bits.divideError", "math/bits.overflowError"], apart := false, narrowed := true }
def SpanWidensUptoSaid : Prop := spanWidensUptoRow.holds Try.pinned (OpenSpec.upto spanWidensSpec)

/-- 'flyballlaw19.SlipWidens', WHERE WHAT IT READS IS OF BULK AT MOST 1048576: true; the input reads as it did. -/
def slipWidensUptoRow : OpenClaim := { program := "ytmadjhmecfbcmaa", sum := "9dfa8efada87b200e68ce4e479c3d93ccd7a5fb4fce169f8eb46e24c1a0989f3", func := "flyball/flyballlaw19.SlipWidens", spec := "slipWidens", inPlace := ["math/bits.Add64", "math/bits.Sub64"], unfollowed := true, recurses := true, named := ["math/bits.divideError", "math/bits.overflowError"], apart := false, narrowed := true }
def SlipWidensUptoSaid : Prop := slipWidensUptoRow.holds Try.pinned (OpenSpec.upto slipWidensSpec)

/-- 'flyballlaw19.SlipRises', WHERE WHAT IT READS IS OF BULK AT MOST 1048576: true; the input reads as it did. -/
def slipRisesUptoRow : OpenClaim := { program := "ytmadjhmecfbcmaa", sum := "9dfa8efada87b200e68ce4e479c3d93ccd7a5fb4fce169f8eb46e24c1a0989f3", func := "flyball/flyballlaw19.SlipRises", spec := "slipRises", inPlace := ["math/bits.Add64", "math/bits.Sub64"], unfollowed := true, recurses := true, named := ["math/bits.divideError", "math/bits.overflowError"], apart := false, narrowed := true }
def SlipRisesUptoSaid : Prop := slipRisesUptoRow.holds Try.pinned (OpenSpec.upto slipRisesSpec)

/-- 'flyballlaw16.SpanOrder', WHERE WHAT IT READS IS OF BULK AT MOST 1048576: true; the input reads as it did. -/
def spanOrderUptoRow : OpenClaim := { program := "ytmadjhmecfbcmaa", sum := "9dfa8efada87b200e68ce4e479c3d93ccd7a5fb4fce169f8eb46e24c1a0989f3", func := "flyball/flyballlaw16.SpanOrder", spec := "spanOrder", inPlace := ["math/bits.Add64", "math/bits.Sub64"], unfollowed := true, recurses := true, named := ["math/bits.divideError", "math/bits.overflowError"], apart := false, narrowed := true }
def SpanOrderUptoSaid : Prop := spanOrderUptoRow.holds Try.pinned (OpenSpec.upto spanOrderSpec)

/-- 'flyballlaw06.SoftSquares', WHERE WHAT IT READS IS OF BULK AT MOST 1048576: true; the input reads as it did. -/
def softSquaresUptoRow : OpenClaim := { program := "ytmadjhmecfbcmaa", sum := "9dfa8efada87b200e68ce4e479c3d93ccd7a5fb4fce169f8eb46e24c1a0989f3", func := "flyball/flyballlaw06.SoftSquares", spec := "softSquares", inPlace := ["math/bits.Add64", "math/bits.Sub64"], unfollowed := true, recurses := true, named := ["math/bits.divideError", "math/bits.overflowError"], apart := false, narrowed := true }
def SoftSquaresUptoSaid : Prop := softSquaresUptoRow.holds Try.pinned (OpenSpec.upto softSquaresSpec)

/-- 'flyballlaw06.SoftExact', WHERE WHAT IT READS IS OF BULK AT MOST 1048576: true; the input reads as it did. -/
def softExactUptoRow : OpenClaim := { program := "ytmadjhmecfbcmaa", sum := "9dfa8efada87b200e68ce4e479c3d93ccd7a5fb4fce169f8eb46e24c1a0989f3", func := "flyball/flyballlaw06.SoftExact", spec := "softExact", inPlace := ["math/bits.Add64", "math/bits.Sub64"], unfollowed := true, recurses := true, named := ["math/bits.divideError", "math/bits.overflowError"], apart := false, narrowed := true }
def SoftExactUptoSaid : Prop := softExactUptoRow.holds Try.pinned (OpenSpec.upto softExactSpec)

/-- 'flyballlaw19.SlipDivides', WHERE WHAT IT READS IS OF BULK AT MOST 1048576: true; the input reads as it did. -/
def slipDividesUptoRow : OpenClaim := { program := "ytmadjhmecfbcmaa", sum := "9dfa8efada87b200e68ce4e479c3d93ccd7a5fb4fce169f8eb46e24c1a0989f3", func := "flyball/flyballlaw19.SlipDivides", spec := "slipDivides", inPlace := ["math/bits.Add64", "math/bits.Sub64"], unfollowed := true, recurses := true, named := ["math/bits.divideError", "math/bits.overflowError"], apart := false, narrowed := true }
def SlipDividesUptoSaid : Prop := slipDividesUptoRow.holds Try.pinned (OpenSpec.upto slipDividesSpec)

end Rows
end Go.Proofs.Ytmadjhmecfbcmaa
