/-
  No cell of these rows narrows 'for every input' (looked for: loops, veiled, ifaces, maps, wideKeys, modest, calm, conditions, laid).
  DERIVED. THE GIVEN ROWS OF THIS SEAT. 12 by the template 'for every input the law returns true; each argument reads behind the call as it read before'; 0 by the template 'total and deterministic' (their statements: YtigmadccchofiaaTotals.lean).
  GIVEN WITH THE SEED: the statements are not yours to turn. If you find one false, say at which input.
  Laid BY PROGRAM, IN A SANDBOX (cutbox-rows.mjs): the forced cells as the released guide's own fill.sh prints them over the translation a5c1b608b3289a1d… (all of the seat's roots in one cut). By AI agents, Wed Nov 11 2026. No macro, syntax, notation, axiom, sorry.
-/
import Derived.Test.YtigmadccchofiaaChecked
import GoSem.Claim
import GoSem.ClaimJoined
import GoSem.ClaimMapViews
import Derived.JoinedTies
import Derived.KernelRfl
namespace Go.Proofs.Ytigmadccchofiaa
/- THE CELL 'sum', in the pinned program and in every row, IS THE sha256 OF THE DUMP (.gsa) THAT YtigmadccchofiaaProg.lean LOADS. Nothing in Lean hashes anything: it is a label: what it is worth is what the hold of that sum in a sandbox is worth. -/
noncomputable def Try.pinned : Pinned := { name := "ytigmadccchofiaa", sum := "a5c1b608b3289a1dd94712b7c8f4c71656ba559783ccccc9d55a0075e210391e", checked := Try.checked }
namespace Rows
def none {H : Type} : Left H := { results := [], args := [] }

/-- 'laws.FnExactGapTo': WHATEVER THE INPUT: true; the input reads as it did. -/
def fnExactGapToSpec : ChangeSpec := { name := "fnExactGapTo", fn := fun _ => fun
  | [d1, d2] => { results := [.lit (.bool true)], args := [d1, d2] }
  | _ => none }
def fnExactGapToRow : OpenClaim := { program := "ytigmadccchofiaa", sum := "a5c1b608b3289a1dd94712b7c8f4c71656ba559783ccccc9d55a0075e210391e", func := "loop.example/g00113/laws.FnExactGapTo", spec := "fnExactGapTo", inPlace := ["math/bits.Sub64"], apart := false }
def FnExactGapToSaid : Prop := fnExactGapToRow.holds Try.pinned (OpenSpec.ofChange fnExactGapToSpec)

/-- ITS FALSE NEIGHBOUR: 'it returns false'. Refute it at one input. -/
def fnExactGapToWrong : ChangeSpec := { name := "fnExactGapTo", fn := fun _ => fun
  | [d1, d2] => { results := [.lit (.bool false)], args := [d1, d2] }
  | _ => none }
def FnExactGapToWrongFalsely : Prop := fnExactGapToRow.holds Try.pinned (OpenSpec.ofChange fnExactGapToWrong)

/-- 'laws.FnExactAbove': WHATEVER THE INPUT: true; the input reads as it did. -/
def fnExactAboveSpec : ChangeSpec := { name := "fnExactAbove", fn := fun _ => fun
  | [d] => { results := [.lit (.bool true)], args := [d] }
  | _ => none }
def fnExactAboveRow : OpenClaim := { program := "ytigmadccchofiaa", sum := "a5c1b608b3289a1dd94712b7c8f4c71656ba559783ccccc9d55a0075e210391e", func := "loop.example/g00113/laws.FnExactAbove", spec := "fnExactAbove", apart := false }
def FnExactAboveSaid : Prop := fnExactAboveRow.holds Try.pinned (OpenSpec.ofChange fnExactAboveSpec)

/-- ITS FALSE NEIGHBOUR: 'it returns false'. Refute it at one input. -/
def fnExactAboveWrong : ChangeSpec := { name := "fnExactAbove", fn := fun _ => fun
  | [d] => { results := [.lit (.bool false)], args := [d] }
  | _ => none }
def FnExactAboveWrongFalsely : Prop := fnExactAboveRow.holds Try.pinned (OpenSpec.ofChange fnExactAboveWrong)

/-- 'laws.FnAddrBytes': WHATEVER THE INPUT: true; the input reads as it did. -/
def fnAddrBytesSpec : ChangeSpec := { name := "fnAddrBytes", fn := fun _ => fun
  | [d] => { results := [.lit (.bool true)], args := [d] }
  | _ => none }
def fnAddrBytesRow : OpenClaim := { program := "ytigmadccchofiaa", sum := "a5c1b608b3289a1dd94712b7c8f4c71656ba559783ccccc9d55a0075e210391e", func := "loop.example/g00113/laws.FnAddrBytes", spec := "fnAddrBytes", apart := false }
def FnAddrBytesSaid : Prop := fnAddrBytesRow.holds Try.pinned (OpenSpec.ofChange fnAddrBytesSpec)

/-- ITS FALSE NEIGHBOUR: 'it returns false'. Refute it at one input. -/
def fnAddrBytesWrong : ChangeSpec := { name := "fnAddrBytes", fn := fun _ => fun
  | [d] => { results := [.lit (.bool false)], args := [d] }
  | _ => none }
def FnAddrBytesWrongFalsely : Prop := fnAddrBytesRow.holds Try.pinned (OpenSpec.ofChange fnAddrBytesWrong)

/-- 'laws.FnExactHalves': WHATEVER THE INPUT: true; the input reads as it did. -/
def fnExactHalvesSpec : ChangeSpec := { name := "fnExactHalves", fn := fun _ => fun
  | [d] => { results := [.lit (.bool true)], args := [d] }
  | _ => none }
def fnExactHalvesRow : OpenClaim := { program := "ytigmadccchofiaa", sum := "a5c1b608b3289a1dd94712b7c8f4c71656ba559783ccccc9d55a0075e210391e", func := "loop.example/g00113/laws.FnExactHalves", spec := "fnExactHalves", apart := false }
def FnExactHalvesSaid : Prop := fnExactHalvesRow.holds Try.pinned (OpenSpec.ofChange fnExactHalvesSpec)

/-- ITS FALSE NEIGHBOUR: 'it returns false'. Refute it at one input. -/
def fnExactHalvesWrong : ChangeSpec := { name := "fnExactHalves", fn := fun _ => fun
  | [d] => { results := [.lit (.bool false)], args := [d] }
  | _ => none }
def FnExactHalvesWrongFalsely : Prop := fnExactHalvesRow.holds Try.pinned (OpenSpec.ofChange fnExactHalvesWrong)

/-- 'laws.FnExactSibling': WHATEVER THE INPUT: true; the input reads as it did. -/
def fnExactSiblingSpec : ChangeSpec := { name := "fnExactSibling", fn := fun _ => fun
  | [d] => { results := [.lit (.bool true)], args := [d] }
  | _ => none }
def fnExactSiblingRow : OpenClaim := { program := "ytigmadccchofiaa", sum := "a5c1b608b3289a1dd94712b7c8f4c71656ba559783ccccc9d55a0075e210391e", func := "loop.example/g00113/laws.FnExactSibling", spec := "fnExactSibling", apart := false }
def FnExactSiblingSaid : Prop := fnExactSiblingRow.holds Try.pinned (OpenSpec.ofChange fnExactSiblingSpec)

/-- ITS FALSE NEIGHBOUR: 'it returns false'. Refute it at one input. -/
def fnExactSiblingWrong : ChangeSpec := { name := "fnExactSibling", fn := fun _ => fun
  | [d] => { results := [.lit (.bool false)], args := [d] }
  | _ => none }
def FnExactSiblingWrongFalsely : Prop := fnExactSiblingRow.holds Try.pinned (OpenSpec.ofChange fnExactSiblingWrong)

/-- 'laws.FnExactNthOf': WHATEVER THE INPUT: true; the input reads as it did. -/
def fnExactNthOfSpec : ChangeSpec := { name := "fnExactNthOf", fn := fun _ => fun
  | [d1, d2] => { results := [.lit (.bool true)], args := [d1, d2] }
  | _ => none }
def fnExactNthOfRow : OpenClaim := { program := "ytigmadccchofiaa", sum := "a5c1b608b3289a1dd94712b7c8f4c71656ba559783ccccc9d55a0075e210391e", func := "loop.example/g00113/laws.FnExactNthOf", spec := "fnExactNthOf", inPlace := ["math/bits.Add64"], apart := false }
def FnExactNthOfSaid : Prop := fnExactNthOfRow.holds Try.pinned (OpenSpec.ofChange fnExactNthOfSpec)

/-- ITS FALSE NEIGHBOUR: 'it returns false'. Refute it at one input. -/
def fnExactNthOfWrong : ChangeSpec := { name := "fnExactNthOf", fn := fun _ => fun
  | [d1, d2] => { results := [.lit (.bool false)], args := [d1, d2] }
  | _ => none }
def FnExactNthOfWrongFalsely : Prop := fnExactNthOfRow.holds Try.pinned (OpenSpec.ofChange fnExactNthOfWrong)

/-- 'laws.FnExactPlaceOf': WHATEVER THE INPUT: true; the input reads as it did. -/
def fnExactPlaceOfSpec : ChangeSpec := { name := "fnExactPlaceOf", fn := fun _ => fun
  | [d1, d2] => { results := [.lit (.bool true)], args := [d1, d2] }
  | _ => none }
def fnExactPlaceOfRow : OpenClaim := { program := "ytigmadccchofiaa", sum := "a5c1b608b3289a1dd94712b7c8f4c71656ba559783ccccc9d55a0075e210391e", func := "loop.example/g00113/laws.FnExactPlaceOf", spec := "fnExactPlaceOf", inPlace := ["math/bits.Sub64"], apart := false }
def FnExactPlaceOfSaid : Prop := fnExactPlaceOfRow.holds Try.pinned (OpenSpec.ofChange fnExactPlaceOfSpec)

/-- ITS FALSE NEIGHBOUR: 'it returns false'. Refute it at one input. -/
def fnExactPlaceOfWrong : ChangeSpec := { name := "fnExactPlaceOf", fn := fun _ => fun
  | [d1, d2] => { results := [.lit (.bool false)], args := [d1, d2] }
  | _ => none }
def FnExactPlaceOfWrongFalsely : Prop := fnExactPlaceOfRow.holds Try.pinned (OpenSpec.ofChange fnExactPlaceOfWrong)

/-- 'laws.FnFramed': WHATEVER THE INPUT: true; the input reads as it did. -/
def fnFramedSpec : ChangeSpec := { name := "fnFramed", fn := fun _ => fun
  | [d] => { results := [.lit (.bool true)], args := [d] }
  | _ => none }
def fnFramedRow : OpenClaim := { program := "ytigmadccchofiaa", sum := "a5c1b608b3289a1dd94712b7c8f4c71656ba559783ccccc9d55a0075e210391e", func := "loop.example/g00113/laws.FnFramed", spec := "fnFramed", apart := false }
def FnFramedSaid : Prop := fnFramedRow.holds Try.pinned (OpenSpec.ofChange fnFramedSpec)

/-- ITS FALSE NEIGHBOUR: 'it returns false'. Refute it at one input. -/
def fnFramedWrong : ChangeSpec := { name := "fnFramed", fn := fun _ => fun
  | [d] => { results := [.lit (.bool false)], args := [d] }
  | _ => none }
def FnFramedWrongFalsely : Prop := fnFramedRow.holds Try.pinned (OpenSpec.ofChange fnFramedWrong)

/-- 'laws.FnExactUnframe': WHATEVER THE INPUT: true; the input reads as it did. -/
def fnExactUnframeSpec : ChangeSpec := { name := "fnExactUnframe", fn := fun _ => fun
  | [d1, d2] => { results := [.lit (.bool true)], args := [d1, d2] }
  | _ => none }
def fnExactUnframeRow : OpenClaim := { program := "ytigmadccchofiaa", sum := "a5c1b608b3289a1dd94712b7c8f4c71656ba559783ccccc9d55a0075e210391e", func := "loop.example/g00113/laws.FnExactUnframe", spec := "fnExactUnframe", apart := false }
def FnExactUnframeSaid : Prop := fnExactUnframeRow.holds Try.pinned (OpenSpec.ofChange fnExactUnframeSpec)

/-- ITS FALSE NEIGHBOUR: 'it returns false'. Refute it at one input. -/
def fnExactUnframeWrong : ChangeSpec := { name := "fnExactUnframe", fn := fun _ => fun
  | [d1, d2] => { results := [.lit (.bool false)], args := [d1, d2] }
  | _ => none }
def FnExactUnframeWrongFalsely : Prop := fnExactUnframeRow.holds Try.pinned (OpenSpec.ofChange fnExactUnframeWrong)

/-- 'laws.FnExactAddrText': WHATEVER THE INPUT: true; the input reads as it did. -/
def fnExactAddrTextSpec : ChangeSpec := { name := "fnExactAddrText", fn := fun _ => fun
  | [d] => { results := [.lit (.bool true)], args := [d] }
  | _ => none }
def fnExactAddrTextRow : OpenClaim := { program := "ytigmadccchofiaa", sum := "a5c1b608b3289a1dd94712b7c8f4c71656ba559783ccccc9d55a0075e210391e", func := "loop.example/g00113/laws.FnExactAddrText", spec := "fnExactAddrText", inPlace := ["internal/abi.NoEscape", "internal/bytealg.MakeNoZero"], recurses := true, apart := false }
def FnExactAddrTextSaid : Prop := fnExactAddrTextRow.holds Try.pinned (OpenSpec.ofChange fnExactAddrTextSpec)

/-- ITS FALSE NEIGHBOUR: 'it returns false'. Refute it at one input. -/
def fnExactAddrTextWrong : ChangeSpec := { name := "fnExactAddrText", fn := fun _ => fun
  | [d] => { results := [.lit (.bool false)], args := [d] }
  | _ => none }
def FnExactAddrTextWrongFalsely : Prop := fnExactAddrTextRow.holds Try.pinned (OpenSpec.ofChange fnExactAddrTextWrong)

/-- 'laws.FnExactFirstFree': WHATEVER THE INPUT: true; the input reads as it did. -/
def fnExactFirstFreeSpec : ChangeSpec := { name := "fnExactFirstFree", fn := fun _ => fun
  | [d1, d2, d3] => { results := [.lit (.bool true)], args := [d1, d2, d3] }
  | _ => none }
def fnExactFirstFreeRow : OpenClaim := { program := "ytigmadccchofiaa", sum := "a5c1b608b3289a1dd94712b7c8f4c71656ba559783ccccc9d55a0075e210391e", func := "loop.example/g00113/laws.FnExactFirstFree", spec := "fnExactFirstFree", unfollowed := true, recurses := true, apart := false }
def FnExactFirstFreeSaid : Prop := fnExactFirstFreeRow.holds Try.pinned (OpenSpec.ofChange fnExactFirstFreeSpec)

/-- ITS FALSE NEIGHBOUR: 'it returns false'. Refute it at one input. -/
def fnExactFirstFreeWrong : ChangeSpec := { name := "fnExactFirstFree", fn := fun _ => fun
  | [d1, d2, d3] => { results := [.lit (.bool false)], args := [d1, d2, d3] }
  | _ => none }
def FnExactFirstFreeWrongFalsely : Prop := fnExactFirstFreeRow.holds Try.pinned (OpenSpec.ofChange fnExactFirstFreeWrong)

/-- 'laws.FnExactLargest': WHATEVER THE INPUT: true; the input reads as it did. -/
def fnExactLargestSpec : ChangeSpec := { name := "fnExactLargest", fn := fun _ => fun
  | [d1, d2] => { results := [.lit (.bool true)], args := [d1, d2] }
  | _ => none }
def fnExactLargestRow : OpenClaim := { program := "ytigmadccchofiaa", sum := "a5c1b608b3289a1dd94712b7c8f4c71656ba559783ccccc9d55a0075e210391e", func := "loop.example/g00113/laws.FnExactLargest", spec := "fnExactLargest", unfollowed := true, recurses := true, apart := false }
def FnExactLargestSaid : Prop := fnExactLargestRow.holds Try.pinned (OpenSpec.ofChange fnExactLargestSpec)

/-- ITS FALSE NEIGHBOUR: 'it returns false'. Refute it at one input. -/
def fnExactLargestWrong : ChangeSpec := { name := "fnExactLargest", fn := fun _ => fun
  | [d1, d2] => { results := [.lit (.bool false)], args := [d1, d2] }
  | _ => none }
def FnExactLargestWrongFalsely : Prop := fnExactLargestRow.holds Try.pinned (OpenSpec.ofChange fnExactLargestWrong)

/- THE SECOND FORM. 'bulk': how many values and letters a reading holds, each counted each time it is reached (what is shared counts as often as it is met; a slice's spare places count too). A statement '..UptoSaid' is the law's where the arguments, and the package variables that the reading takes, are together of bulk at most 1048576: NARROWER than '..Said'. Prove '..Said' where nothing that the law and all that it calls make is longer than what came in: it says more and counts as full. Else prove '..UptoSaid'. A law counts once. -/
mutual
def uptoBulk {H : Type} : DataW H → Nat
  | .lit (.string bytes) => bytes.length + 1
  | .lit _ => 1
  | .nil => 1
  | .ptr d => uptoBulk d + 1
  | .slice elems spare => uptoBulkAll elems + uptoBulkAll spare + 1
  | .agg parts => uptoBulkAll parts + 1
  | .iface _ d => uptoBulk d + 1
  | .map entries => uptoBulkEntries entries + 1
  | .held _ => 1
def uptoBulkAll {H : Type} : List (DataW H) → Nat
  | [] => 0
  | d :: r => uptoBulk d + uptoBulkAll r
def uptoBulkEntries {H : Type} : List (Lit × DataW H) → Nat
  | [] => 0
  | x :: r => uptoBulkEntry x + uptoBulkEntries r
def uptoBulkEntry {H : Type} : Lit × DataW H → Nat
  | (.string bytes, d) => bytes.length + uptoBulk d + 1
  | (_, d) => uptoBulk d + 1
 end
def uptoSmall : (H : Type) → List (DataW H) → Bool := fun _ ds => decide (uptoBulkAll ds ≤ 1048576)
def OpenSpec.upto (s : _root_.Go.ChangeSpec) : _root_.Go.OpenSpec := { _root_.Go.OpenSpec.ofChange s with cond := some uptoSmall }

/-- 'laws.FnExactGapTo', WHERE WHAT IT READS IS OF BULK AT MOST 1048576: true; the input reads as it did. -/
def fnExactGapToUptoRow : OpenClaim := { program := "ytigmadccchofiaa", sum := "a5c1b608b3289a1dd94712b7c8f4c71656ba559783ccccc9d55a0075e210391e", func := "loop.example/g00113/laws.FnExactGapTo", spec := "fnExactGapTo", inPlace := ["math/bits.Sub64"], apart := false, narrowed := true }
def FnExactGapToUptoSaid : Prop := fnExactGapToUptoRow.holds Try.pinned (OpenSpec.upto fnExactGapToSpec)

/-- 'laws.FnExactAbove', WHERE WHAT IT READS IS OF BULK AT MOST 1048576: true; the input reads as it did. -/
def fnExactAboveUptoRow : OpenClaim := { program := "ytigmadccchofiaa", sum := "a5c1b608b3289a1dd94712b7c8f4c71656ba559783ccccc9d55a0075e210391e", func := "loop.example/g00113/laws.FnExactAbove", spec := "fnExactAbove", apart := false, narrowed := true }
def FnExactAboveUptoSaid : Prop := fnExactAboveUptoRow.holds Try.pinned (OpenSpec.upto fnExactAboveSpec)

/-- 'laws.FnAddrBytes', WHERE WHAT IT READS IS OF BULK AT MOST 1048576: true; the input reads as it did. -/
def fnAddrBytesUptoRow : OpenClaim := { program := "ytigmadccchofiaa", sum := "a5c1b608b3289a1dd94712b7c8f4c71656ba559783ccccc9d55a0075e210391e", func := "loop.example/g00113/laws.FnAddrBytes", spec := "fnAddrBytes", apart := false, narrowed := true }
def FnAddrBytesUptoSaid : Prop := fnAddrBytesUptoRow.holds Try.pinned (OpenSpec.upto fnAddrBytesSpec)

/-- 'laws.FnExactHalves', WHERE WHAT IT READS IS OF BULK AT MOST 1048576: true; the input reads as it did. -/
def fnExactHalvesUptoRow : OpenClaim := { program := "ytigmadccchofiaa", sum := "a5c1b608b3289a1dd94712b7c8f4c71656ba559783ccccc9d55a0075e210391e", func := "loop.example/g00113/laws.FnExactHalves", spec := "fnExactHalves", apart := false, narrowed := true }
def FnExactHalvesUptoSaid : Prop := fnExactHalvesUptoRow.holds Try.pinned (OpenSpec.upto fnExactHalvesSpec)

/-- 'laws.FnExactSibling', WHERE WHAT IT READS IS OF BULK AT MOST 1048576: true; the input reads as it did. -/
def fnExactSiblingUptoRow : OpenClaim := { program := "ytigmadccchofiaa", sum := "a5c1b608b3289a1dd94712b7c8f4c71656ba559783ccccc9d55a0075e210391e", func := "loop.example/g00113/laws.FnExactSibling", spec := "fnExactSibling", apart := false, narrowed := true }
def FnExactSiblingUptoSaid : Prop := fnExactSiblingUptoRow.holds Try.pinned (OpenSpec.upto fnExactSiblingSpec)

/-- 'laws.FnExactNthOf', WHERE WHAT IT READS IS OF BULK AT MOST 1048576: true; the input reads as it did. -/
def fnExactNthOfUptoRow : OpenClaim := { program := "ytigmadccchofiaa", sum := "a5c1b608b3289a1dd94712b7c8f4c71656ba559783ccccc9d55a0075e210391e", func := "loop.example/g00113/laws.FnExactNthOf", spec := "fnExactNthOf", inPlace := ["math/bits.Add64"], apart := false, narrowed := true }
def FnExactNthOfUptoSaid : Prop := fnExactNthOfUptoRow.holds Try.pinned (OpenSpec.upto fnExactNthOfSpec)

/-- 'laws.FnExactPlaceOf', WHERE WHAT IT READS IS OF BULK AT MOST 1048576: true; the input reads as it did. -/
def fnExactPlaceOfUptoRow : OpenClaim := { program := "ytigmadccchofiaa", sum := "a5c1b608b3289a1dd94712b7c8f4c71656ba559783ccccc9d55a0075e210391e", func := "loop.example/g00113/laws.FnExactPlaceOf", spec := "fnExactPlaceOf", inPlace := ["math/bits.Sub64"], apart := false, narrowed := true }
def FnExactPlaceOfUptoSaid : Prop := fnExactPlaceOfUptoRow.holds Try.pinned (OpenSpec.upto fnExactPlaceOfSpec)

/-- 'laws.FnFramed', WHERE WHAT IT READS IS OF BULK AT MOST 1048576: true; the input reads as it did. -/
def fnFramedUptoRow : OpenClaim := { program := "ytigmadccchofiaa", sum := "a5c1b608b3289a1dd94712b7c8f4c71656ba559783ccccc9d55a0075e210391e", func := "loop.example/g00113/laws.FnFramed", spec := "fnFramed", apart := false, narrowed := true }
def FnFramedUptoSaid : Prop := fnFramedUptoRow.holds Try.pinned (OpenSpec.upto fnFramedSpec)

/-- 'laws.FnExactUnframe', WHERE WHAT IT READS IS OF BULK AT MOST 1048576: true; the input reads as it did. -/
def fnExactUnframeUptoRow : OpenClaim := { program := "ytigmadccchofiaa", sum := "a5c1b608b3289a1dd94712b7c8f4c71656ba559783ccccc9d55a0075e210391e", func := "loop.example/g00113/laws.FnExactUnframe", spec := "fnExactUnframe", apart := false, narrowed := true }
def FnExactUnframeUptoSaid : Prop := fnExactUnframeUptoRow.holds Try.pinned (OpenSpec.upto fnExactUnframeSpec)

/-- 'laws.FnExactAddrText', WHERE WHAT IT READS IS OF BULK AT MOST 1048576: true; the input reads as it did. -/
def fnExactAddrTextUptoRow : OpenClaim := { program := "ytigmadccchofiaa", sum := "a5c1b608b3289a1dd94712b7c8f4c71656ba559783ccccc9d55a0075e210391e", func := "loop.example/g00113/laws.FnExactAddrText", spec := "fnExactAddrText", inPlace := ["internal/abi.NoEscape", "internal/bytealg.MakeNoZero"], recurses := true, apart := false, narrowed := true }
def FnExactAddrTextUptoSaid : Prop := fnExactAddrTextUptoRow.holds Try.pinned (OpenSpec.upto fnExactAddrTextSpec)

/-- 'laws.FnExactFirstFree', WHERE WHAT IT READS IS OF BULK AT MOST 1048576: true; the input reads as it did. -/
def fnExactFirstFreeUptoRow : OpenClaim := { program := "ytigmadccchofiaa", sum := "a5c1b608b3289a1dd94712b7c8f4c71656ba559783ccccc9d55a0075e210391e", func := "loop.example/g00113/laws.FnExactFirstFree", spec := "fnExactFirstFree", unfollowed := true, recurses := true, apart := false, narrowed := true }
def FnExactFirstFreeUptoSaid : Prop := fnExactFirstFreeUptoRow.holds Try.pinned (OpenSpec.upto fnExactFirstFreeSpec)

/-- 'laws.FnExactLargest', WHERE WHAT IT READS IS OF BULK AT MOST 1048576: true; the input reads as it did. -/
def fnExactLargestUptoRow : OpenClaim := { program := "ytigmadccchofiaa", sum := "a5c1b608b3289a1dd94712b7c8f4c71656ba559783ccccc9d55a0075e210391e", func := "loop.example/g00113/laws.FnExactLargest", spec := "fnExactLargest", unfollowed := true, recurses := true, apart := false, narrowed := true }
def FnExactLargestUptoSaid : Prop := fnExactLargestUptoRow.holds Try.pinned (OpenSpec.upto fnExactLargestSpec)

end Rows
end Go.Proofs.Ytigmadccchofiaa
