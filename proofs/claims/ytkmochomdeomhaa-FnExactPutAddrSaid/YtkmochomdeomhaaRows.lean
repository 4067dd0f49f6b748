/-
  No cell of these rows narrows 'for every input' (looked for: loops, veiled, ifaces, maps, wideKeys, modest, calm, conditions, laid).
  DERIVED. THE GIVEN ROWS OF THIS SEAT. 12 by the template 'for every input the law returns true; each argument reads behind the call as it read before'; 0 by the template 'total and deterministic' (their statements: YtkmochomdeomhaaTotals.lean).
  GIVEN WITH THE SEED: the statements are not yours to turn. If you find one false, say at which input.
  Laid BY PROGRAM, IN A SANDBOX (cutbox-rows.mjs): the forced cells as the released guide's own fill.sh prints them over the translation adc51472427284f2… (all of the seat's roots in one cut). By AI agents, Wed Nov 11 2026. No macro, syntax, notation, axiom, sorry.
-/
import Derived.Test.YtkmochomdeomhaaChecked
import GoSem.Claim
import GoSem.ClaimJoined
import GoSem.ClaimMapViews
import Derived.JoinedTies
import Derived.KernelRfl
namespace Go.Proofs.Ytkmochomdeomhaa
/- THE CELL 'sum', in the pinned program and in every row, IS THE sha256 OF THE DUMP (.gsa) THAT YtkmochomdeomhaaProg.lean LOADS. Nothing in Lean hashes anything: it is a label: what it is worth is what the hold of that sum in a sandbox is worth. -/
noncomputable def Try.pinned : Pinned := { name := "ytkmochomdeomhaa", sum := "adc51472427284f221a400854779f2fd6192e3d1790cf5dd878c2da42c427ef8", checked := Try.checked }
namespace Rows
def none {H : Type} : Left H := { results := [], args := [] }

/-- 'laws.FnCollapsed': WHATEVER THE INPUT: true; the input reads as it did. -/
def fnCollapsedSpec : ChangeSpec := { name := "fnCollapsed", fn := fun _ => fun
  | [d] => { results := [.lit (.bool true)], args := [d] }
  | _ => none }
def fnCollapsedRow : OpenClaim := { program := "ytkmochomdeomhaa", sum := "adc51472427284f221a400854779f2fd6192e3d1790cf5dd878c2da42c427ef8", func := "loop.example/g00113/laws.FnCollapsed", spec := "fnCollapsed", unfollowed := true, recurses := true, apart := false }
def FnCollapsedSaid : Prop := fnCollapsedRow.holds Try.pinned (OpenSpec.ofChange fnCollapsedSpec)

/-- ITS FALSE NEIGHBOUR: 'it returns false'. Refute it at one input. -/
def fnCollapsedWrong : ChangeSpec := { name := "fnCollapsed", fn := fun _ => fun
  | [d] => { results := [.lit (.bool false)], args := [d] }
  | _ => none }
def FnCollapsedWrongFalsely : Prop := fnCollapsedRow.holds Try.pinned (OpenSpec.ofChange fnCollapsedWrong)

/-- 'laws.FnNumbers': WHATEVER THE INPUT: true; the input reads as it did. -/
def fnNumbersSpec : ChangeSpec := { name := "fnNumbers", fn := fun _ => fun
  | [d] => { results := [.lit (.bool true)], args := [d] }
  | _ => none }
def fnNumbersRow : OpenClaim := { program := "ytkmochomdeomhaa", sum := "adc51472427284f221a400854779f2fd6192e3d1790cf5dd878c2da42c427ef8", func := "loop.example/g00113/laws.FnNumbers", spec := "fnNumbers", apart := false }
def FnNumbersSaid : Prop := fnNumbersRow.holds Try.pinned (OpenSpec.ofChange fnNumbersSpec)

/-- ITS FALSE NEIGHBOUR: 'it returns false'. Refute it at one input. -/
def fnNumbersWrong : ChangeSpec := { name := "fnNumbers", fn := fun _ => fun
  | [d] => { results := [.lit (.bool false)], args := [d] }
  | _ => none }
def FnNumbersWrongFalsely : Prop := fnNumbersRow.holds Try.pinned (OpenSpec.ofChange fnNumbersWrong)

/-- 'laws.FnExactGetText': WHATEVER THE INPUT: true; the input reads as it did. -/
def fnExactGetTextSpec : ChangeSpec := { name := "fnExactGetText", fn := fun _ => fun
  | [d1, d2] => { results := [.lit (.bool true)], args := [d1, d2] }
  | _ => none }
def fnExactGetTextRow : OpenClaim := { program := "ytkmochomdeomhaa", sum := "adc51472427284f221a400854779f2fd6192e3d1790cf5dd878c2da42c427ef8", func := "loop.example/g00113/laws.FnExactGetText", spec := "fnExactGetText", apart := false }
def FnExactGetTextSaid : Prop := fnExactGetTextRow.holds Try.pinned (OpenSpec.ofChange fnExactGetTextSpec)

/-- ITS FALSE NEIGHBOUR: 'it returns false'. Refute it at one input. -/
def fnExactGetTextWrong : ChangeSpec := { name := "fnExactGetText", fn := fun _ => fun
  | [d1, d2] => { results := [.lit (.bool false)], args := [d1, d2] }
  | _ => none }
def FnExactGetTextWrongFalsely : Prop := fnExactGetTextRow.holds Try.pinned (OpenSpec.ofChange fnExactGetTextWrong)

/-- 'laws.FnExactAddTo': WHATEVER THE INPUT: true; the input reads as it did. -/
def fnExactAddToSpec : ChangeSpec := { name := "fnExactAddTo", fn := fun _ => fun
  | [d1, d2] => { results := [.lit (.bool true)], args := [d1, d2] }
  | _ => none }
def fnExactAddToRow : OpenClaim := { program := "ytkmochomdeomhaa", sum := "adc51472427284f221a400854779f2fd6192e3d1790cf5dd878c2da42c427ef8", func := "loop.example/g00113/laws.FnExactAddTo", spec := "fnExactAddTo", inPlace := ["math/bits.Add64"], apart := false }
def FnExactAddToSaid : Prop := fnExactAddToRow.holds Try.pinned (OpenSpec.ofChange fnExactAddToSpec)

/-- ITS FALSE NEIGHBOUR: 'it returns false'. Refute it at one input. -/
def fnExactAddToWrong : ChangeSpec := { name := "fnExactAddTo", fn := fun _ => fun
  | [d1, d2] => { results := [.lit (.bool false)], args := [d1, d2] }
  | _ => none }
def FnExactAddToWrongFalsely : Prop := fnExactAddToRow.holds Try.pinned (OpenSpec.ofChange fnExactAddToWrong)

/-- 'laws.FnExactWithin': WHATEVER THE INPUT: true; the input reads as it did. -/
def fnExactWithinSpec : ChangeSpec := { name := "fnExactWithin", fn := fun _ => fun
  | [d1, d2] => { results := [.lit (.bool true)], args := [d1, d2] }
  | _ => none }
def fnExactWithinRow : OpenClaim := { program := "ytkmochomdeomhaa", sum := "adc51472427284f221a400854779f2fd6192e3d1790cf5dd878c2da42c427ef8", func := "loop.example/g00113/laws.FnExactWithin", spec := "fnExactWithin", apart := false }
def FnExactWithinSaid : Prop := fnExactWithinRow.holds Try.pinned (OpenSpec.ofChange fnExactWithinSpec)

/-- ITS FALSE NEIGHBOUR: 'it returns false'. Refute it at one input. -/
def fnExactWithinWrong : ChangeSpec := { name := "fnExactWithin", fn := fun _ => fun
  | [d1, d2] => { results := [.lit (.bool false)], args := [d1, d2] }
  | _ => none }
def FnExactWithinWrongFalsely : Prop := fnExactWithinRow.holds Try.pinned (OpenSpec.ofChange fnExactWithinWrong)

/-- 'laws.FnExactOverlaps': WHATEVER THE INPUT: true; the input reads as it did. -/
def fnExactOverlapsSpec : ChangeSpec := { name := "fnExactOverlaps", fn := fun _ => fun
  | [d1, d2] => { results := [.lit (.bool true)], args := [d1, d2] }
  | _ => none }
def fnExactOverlapsRow : OpenClaim := { program := "ytkmochomdeomhaa", sum := "adc51472427284f221a400854779f2fd6192e3d1790cf5dd878c2da42c427ef8", func := "loop.example/g00113/laws.FnExactOverlaps", spec := "fnExactOverlaps", apart := false }
def FnExactOverlapsSaid : Prop := fnExactOverlapsRow.holds Try.pinned (OpenSpec.ofChange fnExactOverlapsSpec)

/-- ITS FALSE NEIGHBOUR: 'it returns false'. Refute it at one input. -/
def fnExactOverlapsWrong : ChangeSpec := { name := "fnExactOverlaps", fn := fun _ => fun
  | [d1, d2] => { results := [.lit (.bool false)], args := [d1, d2] }
  | _ => none }
def FnExactOverlapsWrongFalsely : Prop := fnExactOverlapsRow.holds Try.pinned (OpenSpec.ofChange fnExactOverlapsWrong)

/-- 'laws.FnExactPrefixOf': WHATEVER THE INPUT: true; the input reads as it did. -/
def fnExactPrefixOfSpec : ChangeSpec := { name := "fnExactPrefixOf", fn := fun _ => fun
  | [d1, d2] => { results := [.lit (.bool true)], args := [d1, d2] }
  | _ => none }
def fnExactPrefixOfRow : OpenClaim := { program := "ytkmochomdeomhaa", sum := "adc51472427284f221a400854779f2fd6192e3d1790cf5dd878c2da42c427ef8", func := "loop.example/g00113/laws.FnExactPrefixOf", spec := "fnExactPrefixOf", apart := false }
def FnExactPrefixOfSaid : Prop := fnExactPrefixOfRow.holds Try.pinned (OpenSpec.ofChange fnExactPrefixOfSpec)

/-- ITS FALSE NEIGHBOUR: 'it returns false'. Refute it at one input. -/
def fnExactPrefixOfWrong : ChangeSpec := { name := "fnExactPrefixOf", fn := fun _ => fun
  | [d1, d2] => { results := [.lit (.bool false)], args := [d1, d2] }
  | _ => none }
def FnExactPrefixOfWrongFalsely : Prop := fnExactPrefixOfRow.holds Try.pinned (OpenSpec.ofChange fnExactPrefixOfWrong)

/-- 'laws.FnLeft': WHATEVER THE INPUT: true; the input reads as it did. -/
def fnLeftSpec : ChangeSpec := { name := "fnLeft", fn := fun _ => fun
  | [d] => { results := [.lit (.bool true)], args := [d] }
  | _ => none }
def fnLeftRow : OpenClaim := { program := "ytkmochomdeomhaa", sum := "adc51472427284f221a400854779f2fd6192e3d1790cf5dd878c2da42c427ef8", func := "loop.example/g00113/laws.FnLeft", spec := "fnLeft", unfollowed := true, recurses := true, apart := false }
def FnLeftSaid : Prop := fnLeftRow.holds Try.pinned (OpenSpec.ofChange fnLeftSpec)

/-- ITS FALSE NEIGHBOUR: 'it returns false'. Refute it at one input. -/
def fnLeftWrong : ChangeSpec := { name := "fnLeft", fn := fun _ => fun
  | [d] => { results := [.lit (.bool false)], args := [d] }
  | _ => none }
def FnLeftWrongFalsely : Prop := fnLeftRow.holds Try.pinned (OpenSpec.ofChange fnLeftWrong)

/-- 'laws.FnExactPutAddr': WHATEVER THE INPUT: true; the input reads as it did. -/
def fnExactPutAddrSpec : ChangeSpec := { name := "fnExactPutAddr", fn := fun _ => fun
  | [d] => { results := [.lit (.bool true)], args := [d] }
  | _ => none }
def fnExactPutAddrRow : OpenClaim := { program := "ytkmochomdeomhaa", sum := "adc51472427284f221a400854779f2fd6192e3d1790cf5dd878c2da42c427ef8", func := "loop.example/g00113/laws.FnExactPutAddr", spec := "fnExactPutAddr", apart := false }
def FnExactPutAddrSaid : Prop := fnExactPutAddrRow.holds Try.pinned (OpenSpec.ofChange fnExactPutAddrSpec)

/-- ITS FALSE NEIGHBOUR: 'it returns false'. Refute it at one input. -/
def fnExactPutAddrWrong : ChangeSpec := { name := "fnExactPutAddr", fn := fun _ => fun
  | [d] => { results := [.lit (.bool false)], args := [d] }
  | _ => none }
def FnExactPutAddrWrongFalsely : Prop := fnExactPutAddrRow.holds Try.pinned (OpenSpec.ofChange fnExactPutAddrWrong)

/-- 'laws.FnExactFrame': WHATEVER THE INPUT: true; the input reads as it did. -/
def fnExactFrameSpec : ChangeSpec := { name := "fnExactFrame", fn := fun _ => fun
  | [d] => { results := [.lit (.bool true)], args := [d] }
  | _ => none }
def fnExactFrameRow : OpenClaim := { program := "ytkmochomdeomhaa", sum := "adc51472427284f221a400854779f2fd6192e3d1790cf5dd878c2da42c427ef8", func := "loop.example/g00113/laws.FnExactFrame", spec := "fnExactFrame", apart := false }
def FnExactFrameSaid : Prop := fnExactFrameRow.holds Try.pinned (OpenSpec.ofChange fnExactFrameSpec)

/-- ITS FALSE NEIGHBOUR: 'it returns false'. Refute it at one input. -/
def fnExactFrameWrong : ChangeSpec := { name := "fnExactFrame", fn := fun _ => fun
  | [d] => { results := [.lit (.bool false)], args := [d] }
  | _ => none }
def FnExactFrameWrongFalsely : Prop := fnExactFrameRow.holds Try.pinned (OpenSpec.ofChange fnExactFrameWrong)

/-- 'laws.FnExactCmpPrefix': WHATEVER THE INPUT: true; the input reads as it did. -/
def fnExactCmpPrefixSpec : ChangeSpec := { name := "fnExactCmpPrefix", fn := fun _ => fun
  | [d1, d2] => { results := [.lit (.bool true)], args := [d1, d2] }
  | _ => none }
def fnExactCmpPrefixRow : OpenClaim := { program := "ytkmochomdeomhaa", sum := "adc51472427284f221a400854779f2fd6192e3d1790cf5dd878c2da42c427ef8", func := "loop.example/g00113/laws.FnExactCmpPrefix", spec := "fnExactCmpPrefix", apart := false }
def FnExactCmpPrefixSaid : Prop := fnExactCmpPrefixRow.holds Try.pinned (OpenSpec.ofChange fnExactCmpPrefixSpec)

/-- ITS FALSE NEIGHBOUR: 'it returns false'. Refute it at one input. -/
def fnExactCmpPrefixWrong : ChangeSpec := { name := "fnExactCmpPrefix", fn := fun _ => fun
  | [d1, d2] => { results := [.lit (.bool false)], args := [d1, d2] }
  | _ => none }
def FnExactCmpPrefixWrongFalsely : Prop := fnExactCmpPrefixRow.holds Try.pinned (OpenSpec.ofChange fnExactCmpPrefixWrong)

/-- 'laws.FnExactLastOf': WHATEVER THE INPUT: true; the input reads as it did. -/
def fnExactLastOfSpec : ChangeSpec := { name := "fnExactLastOf", fn := fun _ => fun
  | [d] => { results := [.lit (.bool true)], args := [d] }
  | _ => none }
def fnExactLastOfRow : OpenClaim := { program := "ytkmochomdeomhaa", sum := "adc51472427284f221a400854779f2fd6192e3d1790cf5dd878c2da42c427ef8", func := "loop.example/g00113/laws.FnExactLastOf", spec := "fnExactLastOf", apart := false }
def FnExactLastOfSaid : Prop := fnExactLastOfRow.holds Try.pinned (OpenSpec.ofChange fnExactLastOfSpec)

/-- ITS FALSE NEIGHBOUR: 'it returns false'. Refute it at one input. -/
def fnExactLastOfWrong : ChangeSpec := { name := "fnExactLastOf", fn := fun _ => fun
  | [d] => { results := [.lit (.bool false)], args := [d] }
  | _ => none }
def FnExactLastOfWrongFalsely : Prop := fnExactLastOfRow.holds Try.pinned (OpenSpec.ofChange fnExactLastOfWrong)

/- THE SECOND FORM. 'bulk': how many values and letters a reading holds, each counted each time it is reached (what is shared counts as often as it is met; a slice's spare places count too). A statement '..UptoSaid' is the law's where the arguments, and the package variables that the reading takes, are together of bulk at most 1048576: NARROWER than '..Said'. Prove '..Said' where nothing that the law and all that it calls make is longer than what came in: it says more and counts as full. Else prove '..UptoSaid'. A law counts once. -/
mutual
def uptoBulk {H : Type} : DataW H → Nat
  | .lit (.string bytes) => bytes.length + 1
  | .lit _ => 1
  | .nil => 1
  | .ptr d => uptoBulk d + 1
  | .slice elems spare => uptoBulkAll elems + uptoBulkAll spare + 1
  | .agg parts => uptoBulkAll parts + 1
  | .iface _ d => uptoBulk d + 1
  | .map entries => uptoBulkEntries entries + 1
  | .held _ => 1
def uptoBulkAll {H : Type} : List (DataW H) → Nat
  | [] => 0
  | d :: r => uptoBulk d + uptoBulkAll r
def uptoBulkEntries {H : Type} : List (Lit × DataW H) → Nat
  | [] => 0
  | x :: r => uptoBulkEntry x + uptoBulkEntries r
def uptoBulkEntry {H : Type} : Lit × DataW H → Nat
  | (.string bytes, d) => bytes.length + uptoBulk d + 1
  | (_, d) => uptoBulk d + 1
 end
def uptoSmall : (H : Type) → List (DataW H) → Bool := fun _ ds => decide (uptoBulkAll ds ≤ 1048576)
def OpenSpec.upto (s : _root_.Go.ChangeSpec) : _root_.Go.OpenSpec := { _root_.Go.OpenSpec.ofChange s with cond := some uptoSmall }

/-- 'laws.FnCollapsed', WHERE WHAT IT READS IS OF BULK AT MOST 1048576: true; the input reads as it did. -/
def fnCollapsedUptoRow : OpenClaim := { program := "ytkmochomdeomhaa", sum := "adc51472427284f221a400854779f2fd6192e3d1790cf5dd878c2da42c427ef8", func := "loop.example/g00113/laws.FnCollapsed", spec := "fnCollapsed", unfollowed := true, recurses := true, apart := false, narrowed := true }
def FnCollapsedUptoSaid : Prop := fnCollapsedUptoRow.holds Try.pinned (OpenSpec.upto fnCollapsedSpec)

/-- 'laws.FnNumbers', WHERE WHAT IT READS IS OF BULK AT MOST 1048576: true; the input reads as it did. -/
def fnNumbersUptoRow : OpenClaim := { program := "ytkmochomdeomhaa", sum := "adc51472427284f221a400854779f2fd6192e3d1790cf5dd878c2da42c427ef8", func := "loop.example/g00113/laws.FnNumbers", spec := "fnNumbers", apart := false, narrowed := true }
def FnNumbersUptoSaid : Prop := fnNumbersUptoRow.holds Try.pinned (OpenSpec.upto fnNumbersSpec)

/-- 'laws.FnExactGetText', WHERE WHAT IT READS IS OF BULK AT MOST 1048576: true; the input reads as it did. -/
def fnExactGetTextUptoRow : OpenClaim := { program := "ytkmochomdeomhaa", sum := "adc51472427284f221a400854779f2fd6192e3d1790cf5dd878c2da42c427ef8", func := "loop.example/g00113/laws.FnExactGetText", spec := "fnExactGetText", apart := false, narrowed := true }
def FnExactGetTextUptoSaid : Prop := fnExactGetTextUptoRow.holds Try.pinned (OpenSpec.upto fnExactGetTextSpec)

/-- 'laws.FnExactAddTo', WHERE WHAT IT READS IS OF BULK AT MOST 1048576: true; the input reads as it did. -/
def fnExactAddToUptoRow : OpenClaim := { program := "ytkmochomdeomhaa", sum := "adc51472427284f221a400854779f2fd6192e3d1790cf5dd878c2da42c427ef8", func := "loop.example/g00113/laws.FnExactAddTo", spec := "fnExactAddTo", inPlace := ["math/bits.Add64"], apart := false, narrowed := true }
def FnExactAddToUptoSaid : Prop := fnExactAddToUptoRow.holds Try.pinned (OpenSpec.upto fnExactAddToSpec)

/-- 'laws.FnExactWithin', WHERE WHAT IT READS IS OF BULK AT MOST 1048576: true; the input reads as it did. -/
def fnExactWithinUptoRow : OpenClaim := { program := "ytkmochomdeomhaa", sum := "adc51472427284f221a400854779f2fd6192e3d1790cf5dd878c2da42c427ef8", func := "loop.example/g00113/laws.FnExactWithin", spec := "fnExactWithin", apart := false, narrowed := true }
def FnExactWithinUptoSaid : Prop := fnExactWithinUptoRow.holds Try.pinned (OpenSpec.upto fnExactWithinSpec)

/-- 'laws.FnExactOverlaps', WHERE WHAT IT READS IS OF BULK AT MOST 1048576: true; the input reads as it did. -/
def fnExactOverlapsUptoRow : OpenClaim := { program := "ytkmochomdeomhaa", sum := "adc51472427284f221a400854779f2fd6192e3d1790cf5dd878c2da42c427ef8", func := "loop.example/g00113/laws.FnExactOverlaps", spec := "fnExactOverlaps", apart := false, narrowed := true }
def FnExactOverlapsUptoSaid : Prop := fnExactOverlapsUptoRow.holds Try.pinned (OpenSpec.upto fnExactOverlapsSpec)

/-- 'laws.FnExactPrefixOf', WHERE WHAT IT READS IS OF BULK AT MOST 1048576: true; the input reads as it did. -/
def fnExactPrefixOfUptoRow : OpenClaim := { program := "ytkmochomdeomhaa", sum := "adc51472427284f221a400854779f2fd6192e3d1790cf5dd878c2da42c427ef8", func := "loop.example/g00113/laws.FnExactPrefixOf", spec := "fnExactPrefixOf", apart := false, narrowed := true }
def FnExactPrefixOfUptoSaid : Prop := fnExactPrefixOfUptoRow.holds Try.pinned (OpenSpec.upto fnExactPrefixOfSpec)

/-- 'laws.FnLeft', WHERE WHAT IT READS IS OF BULK AT MOST 1048576: true; the input reads as it did. -/
def fnLeftUptoRow : OpenClaim := { program := "ytkmochomdeomhaa", sum := "adc51472427284f221a400854779f2fd6192e3d1790cf5dd878c2da42c427ef8", func := "loop.example/g00113/laws.FnLeft", spec := "fnLeft", unfollowed := true, recurses := true, apart := false, narrowed := true }
def FnLeftUptoSaid : Prop := fnLeftUptoRow.holds Try.pinned (OpenSpec.upto fnLeftSpec)

/-- 'laws.FnExactPutAddr', WHERE WHAT IT READS IS OF BULK AT MOST 1048576: true; the input reads as it did. -/
def fnExactPutAddrUptoRow : OpenClaim := { program := "ytkmochomdeomhaa", sum := "adc51472427284f221a400854779f2fd6192e3d1790cf5dd878c2da42c427ef8", func := "loop.example/g00113/laws.FnExactPutAddr", spec := "fnExactPutAddr", apart := false, narrowed := true }
def FnExactPutAddrUptoSaid : Prop := fnExactPutAddrUptoRow.holds Try.pinned (OpenSpec.upto fnExactPutAddrSpec)

/-- 'laws.FnExactFrame', WHERE WHAT IT READS IS OF BULK AT MOST 1048576: true; the input reads as it did. -/
def fnExactFrameUptoRow : OpenClaim := { program := "ytkmochomdeomhaa", sum := "adc51472427284f221a400854779f2fd6192e3d1790cf5dd878c2da42c427ef8", func := "loop.example/g00113/laws.FnExactFrame", spec := "fnExactFrame", apart := false, narrowed := true }
def FnExactFrameUptoSaid : Prop := fnExactFrameUptoRow.holds Try.pinned (OpenSpec.upto fnExactFrameSpec)

/-- 'laws.FnExactCmpPrefix', WHERE WHAT IT READS IS OF BULK AT MOST 1048576: true; the input reads as it did. -/
def fnExactCmpPrefixUptoRow : OpenClaim := { program := "ytkmochomdeomhaa", sum := "adc51472427284f221a400854779f2fd6192e3d1790cf5dd878c2da42c427ef8", func := "loop.example/g00113/laws.FnExactCmpPrefix", spec := "fnExactCmpPrefix", apart := false, narrowed := true }
def FnExactCmpPrefixUptoSaid : Prop := fnExactCmpPrefixUptoRow.holds Try.pinned (OpenSpec.upto fnExactCmpPrefixSpec)

/-- 'laws.FnExactLastOf', WHERE WHAT IT READS IS OF BULK AT MOST 1048576: true; the input reads as it did. -/
def fnExactLastOfUptoRow : OpenClaim := { program := "ytkmochomdeomhaa", sum := "adc51472427284f221a400854779f2fd6192e3d1790cf5dd878c2da42c427ef8", func := "loop.example/g00113/laws.FnExactLastOf", spec := "fnExactLastOf", apart := false, narrowed := true }
def FnExactLastOfUptoSaid : Prop := fnExactLastOfUptoRow.holds Try.pinned (OpenSpec.upto fnExactLastOfSpec)

end Rows
end Go.Proofs.Ytkmochomdeomhaa
