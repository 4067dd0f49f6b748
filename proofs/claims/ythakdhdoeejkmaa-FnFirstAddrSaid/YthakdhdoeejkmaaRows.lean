/-
  No cell of these rows narrows 'for every input' (looked for: loops, veiled, ifaces, maps, wideKeys, modest, calm, conditions, laid).
  DERIVED. THE GIVEN ROWS OF THIS SEAT. 12 by the template 'for every input the law returns true; each argument reads behind the call as it read before'; 0 by the template 'total and deterministic' (their statements: YthakdhdoeejkmaaTotals.lean).
  GIVEN WITH THE SEED: the statements are not yours to turn. If you find one false, say at which input.
  Laid BY PROGRAM, IN A SANDBOX (cutbox-rows.mjs): the forced cells as the released guide's own fill.sh prints them over the translation 20f17647af9fbfe9… (all of the seat's roots in one cut). By AI agents, Wed Nov 11 2026. No macro, syntax, notation, axiom, sorry.
-/
import Derived.Test.YthakdhdoeejkmaaChecked
import GoSem.Claim
import GoSem.ClaimJoined
import GoSem.ClaimMapViews
import Derived.JoinedTies
import Derived.KernelRfl
namespace Go.Proofs.Ythakdhdoeejkmaa
/- THE CELL 'sum', in the pinned program and in every row, IS THE sha256 OF THE DUMP (.gsa) THAT YthakdhdoeejkmaaProg.lean LOADS. Nothing in Lean hashes anything: it is a label: what it is worth is what the hold of that sum in a sandbox is worth. -/
noncomputable def Try.pinned : Pinned := { name := "ythakdhdoeejkmaa", sum := "20f17647af9fbfe969ca36b67f630cd6315991ef36a5e585d81d9ae87494403f", checked := Try.checked }
namespace Rows
def none {H : Type} : Left H := { results := [], args := [] }

/-- 'laws.FnExactFreeCount': WHATEVER THE INPUT: true; the input reads as it did. -/
def fnExactFreeCountSpec : ChangeSpec := { name := "fnExactFreeCount", fn := fun _ => fun
  | [d1, d2, d3] => { results := [.lit (.bool true)], args := [d1, d2, d3] }
  | _ => none }
def fnExactFreeCountRow : OpenClaim := { program := "ythakdhdoeejkmaa", sum := "20f17647af9fbfe969ca36b67f630cd6315991ef36a5e585d81d9ae87494403f", func := "loop.example/g00113/laws.FnExactFreeCount", spec := "fnExactFreeCount", unfollowed := true, recurses := true, apart := false }
def FnExactFreeCountSaid : Prop := fnExactFreeCountRow.holds Try.pinned (OpenSpec.ofChange fnExactFreeCountSpec)

/-- ITS FALSE NEIGHBOUR: 'it returns false'. Refute it at one input. -/
def fnExactFreeCountWrong : ChangeSpec := { name := "fnExactFreeCount", fn := fun _ => fun
  | [d1, d2, d3] => { results := [.lit (.bool false)], args := [d1, d2, d3] }
  | _ => none }
def FnExactFreeCountWrongFalsely : Prop := fnExactFreeCountRow.holds Try.pinned (OpenSpec.ofChange fnExactFreeCountWrong)

/-- 'laws.FnExactWithout': WHATEVER THE INPUT: true; the input reads as it did. -/
def fnExactWithoutSpec : ChangeSpec := { name := "fnExactWithout", fn := fun _ => fun
  | [d1, d2] => { results := [.lit (.bool true)], args := [d1, d2] }
  | _ => none }
def fnExactWithoutRow : OpenClaim := { program := "ythakdhdoeejkmaa", sum := "20f17647af9fbfe969ca36b67f630cd6315991ef36a5e585d81d9ae87494403f", func := "loop.example/g00113/laws.FnExactWithout", spec := "fnExactWithout", unfollowed := true, recurses := true, apart := false }
def FnExactWithoutSaid : Prop := fnExactWithoutRow.holds Try.pinned (OpenSpec.ofChange fnExactWithoutSpec)

/-- ITS FALSE NEIGHBOUR: 'it returns false'. Refute it at one input. -/
def fnExactWithoutWrong : ChangeSpec := { name := "fnExactWithout", fn := fun _ => fun
  | [d1, d2] => { results := [.lit (.bool false)], args := [d1, d2] }
  | _ => none }
def FnExactWithoutWrongFalsely : Prop := fnExactWithoutRow.holds Try.pinned (OpenSpec.ofChange fnExactWithoutWrong)

/-- 'laws.FnExactPrefixText': WHATEVER THE INPUT: true; the input reads as it did. -/
def fnExactPrefixTextSpec : ChangeSpec := { name := "fnExactPrefixText", fn := fun _ => fun
  | [d] => { results := [.lit (.bool true)], args := [d] }
  | _ => none }
def fnExactPrefixTextRow : OpenClaim := { program := "ythakdhdoeejkmaa", sum := "20f17647af9fbfe969ca36b67f630cd6315991ef36a5e585d81d9ae87494403f", func := "loop.example/g00113/laws.FnExactPrefixText", spec := "fnExactPrefixText", inPlace := ["internal/abi.NoEscape", "internal/bytealg.MakeNoZero"], recurses := true, apart := false }
def FnExactPrefixTextSaid : Prop := fnExactPrefixTextRow.holds Try.pinned (OpenSpec.ofChange fnExactPrefixTextSpec)

/-- ITS FALSE NEIGHBOUR: 'it returns false'. Refute it at one input. -/
def fnExactPrefixTextWrong : ChangeSpec := { name := "fnExactPrefixText", fn := fun _ => fun
  | [d] => { results := [.lit (.bool false)], args := [d] }
  | _ => none }
def FnExactPrefixTextWrongFalsely : Prop := fnExactPrefixTextRow.holds Try.pinned (OpenSpec.ofChange fnExactPrefixTextWrong)

/-- 'laws.FnExactFirstAddr': WHATEVER THE INPUT: true; the input reads as it did. -/
def fnExactFirstAddrSpec : ChangeSpec := { name := "fnExactFirstAddr", fn := fun _ => fun
  | [d1, d2] => { results := [.lit (.bool true)], args := [d1, d2] }
  | _ => none }
def fnExactFirstAddrRow : OpenClaim := { program := "ythakdhdoeejkmaa", sum := "20f17647af9fbfe969ca36b67f630cd6315991ef36a5e585d81d9ae87494403f", func := "loop.example/g00113/laws.FnExactFirstAddr", spec := "fnExactFirstAddr", inPlace := ["math/bits.Add64"], apart := false }
def FnExactFirstAddrSaid : Prop := fnExactFirstAddrRow.holds Try.pinned (OpenSpec.ofChange fnExactFirstAddrSpec)

/-- ITS FALSE NEIGHBOUR: 'it returns false'. Refute it at one input. -/
def fnExactFirstAddrWrong : ChangeSpec := { name := "fnExactFirstAddr", fn := fun _ => fun
  | [d1, d2] => { results := [.lit (.bool false)], args := [d1, d2] }
  | _ => none }
def FnExactFirstAddrWrongFalsely : Prop := fnExactFirstAddrRow.holds Try.pinned (OpenSpec.ofChange fnExactFirstAddrWrong)

/-- 'laws.FnHalved': WHATEVER THE INPUT: true; the input reads as it did. -/
def fnHalvedSpec : ChangeSpec := { name := "fnHalved", fn := fun _ => fun
  | [d] => { results := [.lit (.bool true)], args := [d] }
  | _ => none }
def fnHalvedRow : OpenClaim := { program := "ythakdhdoeejkmaa", sum := "20f17647af9fbfe969ca36b67f630cd6315991ef36a5e585d81d9ae87494403f", func := "loop.example/g00113/laws.FnHalved", spec := "fnHalved", inPlace := ["math/bits.Add64"], apart := false }
def FnHalvedSaid : Prop := fnHalvedRow.holds Try.pinned (OpenSpec.ofChange fnHalvedSpec)

/-- ITS FALSE NEIGHBOUR: 'it returns false'. Refute it at one input. -/
def fnHalvedWrong : ChangeSpec := { name := "fnHalved", fn := fun _ => fun
  | [d] => { results := [.lit (.bool false)], args := [d] }
  | _ => none }
def FnHalvedWrongFalsely : Prop := fnHalvedRow.holds Try.pinned (OpenSpec.ofChange fnHalvedWrong)

/-- 'laws.FnFirstAddr': WHATEVER THE INPUT: true; the input reads as it did. -/
def fnFirstAddrSpec : ChangeSpec := { name := "fnFirstAddr", fn := fun _ => fun
  | [d] => { results := [.lit (.bool true)], args := [d] }
  | _ => none }
def fnFirstAddrRow : OpenClaim := { program := "ythakdhdoeejkmaa", sum := "20f17647af9fbfe969ca36b67f630cd6315991ef36a5e585d81d9ae87494403f", func := "loop.example/g00113/laws.FnFirstAddr", spec := "fnFirstAddr", inPlace := ["math/bits.Add64", "math/bits.Sub64"], apart := false }
def FnFirstAddrSaid : Prop := fnFirstAddrRow.holds Try.pinned (OpenSpec.ofChange fnFirstAddrSpec)

/-- ITS FALSE NEIGHBOUR: 'it returns false'. Refute it at one input. -/
def fnFirstAddrWrong : ChangeSpec := { name := "fnFirstAddr", fn := fun _ => fun
  | [d] => { results := [.lit (.bool false)], args := [d] }
  | _ => none }
def FnFirstAddrWrongFalsely : Prop := fnFirstAddrRow.holds Try.pinned (OpenSpec.ofChange fnFirstAddrWrong)

/-- 'laws.FnFirst': WHATEVER THE INPUT: true; the input reads as it did. -/
def fnFirstSpec : ChangeSpec := { name := "fnFirst", fn := fun _ => fun
  | [d] => { results := [.lit (.bool true)], args := [d] }
  | _ => none }
def fnFirstRow : OpenClaim := { program := "ythakdhdoeejkmaa", sum := "20f17647af9fbfe969ca36b67f630cd6315991ef36a5e585d81d9ae87494403f", func := "loop.example/g00113/laws.FnFirst", spec := "fnFirst", unfollowed := true, recurses := true, apart := false }
def FnFirstSaid : Prop := fnFirstRow.holds Try.pinned (OpenSpec.ofChange fnFirstSpec)

/-- ITS FALSE NEIGHBOUR: 'it returns false'. Refute it at one input. -/
def fnFirstWrong : ChangeSpec := { name := "fnFirst", fn := fun _ => fun
  | [d] => { results := [.lit (.bool false)], args := [d] }
  | _ => none }
def FnFirstWrongFalsely : Prop := fnFirstRow.holds Try.pinned (OpenSpec.ofChange fnFirstWrong)

/-- 'laws.FnExactPlanOk': WHATEVER THE INPUT: true; the input reads as it did. -/
def fnExactPlanOkSpec : ChangeSpec := { name := "fnExactPlanOk", fn := fun _ => fun
  | [d] => { results := [.lit (.bool true)], args := [d] }
  | _ => none }
def fnExactPlanOkRow : OpenClaim := { program := "ythakdhdoeejkmaa", sum := "20f17647af9fbfe969ca36b67f630cd6315991ef36a5e585d81d9ae87494403f", func := "loop.example/g00113/laws.FnExactPlanOk", spec := "fnExactPlanOk", unfollowed := true, recurses := true, apart := false }
def FnExactPlanOkSaid : Prop := fnExactPlanOkRow.holds Try.pinned (OpenSpec.ofChange fnExactPlanOkSpec)

/-- ITS FALSE NEIGHBOUR: 'it returns false'. Refute it at one input. -/
def fnExactPlanOkWrong : ChangeSpec := { name := "fnExactPlanOk", fn := fun _ => fun
  | [d] => { results := [.lit (.bool false)], args := [d] }
  | _ => none }
def FnExactPlanOkWrongFalsely : Prop := fnExactPlanOkRow.holds Try.pinned (OpenSpec.ofChange fnExactPlanOkWrong)

/-- 'laws.FnExactBlockOf': WHATEVER THE INPUT: true; the input reads as it did. -/
def fnExactBlockOfSpec : ChangeSpec := { name := "fnExactBlockOf", fn := fun _ => fun
  | [d1, d2] => { results := [.lit (.bool true)], args := [d1, d2] }
  | _ => none }
def fnExactBlockOfRow : OpenClaim := { program := "ythakdhdoeejkmaa", sum := "20f17647af9fbfe969ca36b67f630cd6315991ef36a5e585d81d9ae87494403f", func := "loop.example/g00113/laws.FnExactBlockOf", spec := "fnExactBlockOf", unfollowed := true, recurses := true, apart := false }
def FnExactBlockOfSaid : Prop := fnExactBlockOfRow.holds Try.pinned (OpenSpec.ofChange fnExactBlockOfSpec)

/-- ITS FALSE NEIGHBOUR: 'it returns false'. Refute it at one input. -/
def fnExactBlockOfWrong : ChangeSpec := { name := "fnExactBlockOf", fn := fun _ => fun
  | [d1, d2] => { results := [.lit (.bool false)], args := [d1, d2] }
  | _ => none }
def FnExactBlockOfWrongFalsely : Prop := fnExactBlockOfRow.holds Try.pinned (OpenSpec.ofChange fnExactBlockOfWrong)

/-- 'laws.FnExactUsage': WHATEVER THE INPUT: true; the input reads as it did. -/
def fnExactUsageSpec : ChangeSpec := { name := "fnExactUsage", fn := fun _ => fun
  | [d] => { results := [.lit (.bool true)], args := [d] }
  | _ => none }
def fnExactUsageRow : OpenClaim := { program := "ythakdhdoeejkmaa", sum := "20f17647af9fbfe969ca36b67f630cd6315991ef36a5e585d81d9ae87494403f", func := "loop.example/g00113/laws.FnExactUsage", spec := "fnExactUsage", unfollowed := true, recurses := true, apart := false }
def FnExactUsageSaid : Prop := fnExactUsageRow.holds Try.pinned (OpenSpec.ofChange fnExactUsageSpec)

/-- ITS FALSE NEIGHBOUR: 'it returns false'. Refute it at one input. -/
def fnExactUsageWrong : ChangeSpec := { name := "fnExactUsage", fn := fun _ => fun
  | [d] => { results := [.lit (.bool false)], args := [d] }
  | _ => none }
def FnExactUsageWrongFalsely : Prop := fnExactUsageRow.holds Try.pinned (OpenSpec.ofChange fnExactUsageWrong)

/-- 'laws.FnExactFree': WHATEVER THE INPUT: true; the input reads as it did. -/
def fnExactFreeSpec : ChangeSpec := { name := "fnExactFree", fn := fun _ => fun
  | [d1, d2, d3] => { results := [.lit (.bool true)], args := [d1, d2, d3] }
  | _ => none }
def fnExactFreeRow : OpenClaim := { program := "ythakdhdoeejkmaa", sum := "20f17647af9fbfe969ca36b67f630cd6315991ef36a5e585d81d9ae87494403f", func := "loop.example/g00113/laws.FnExactFree", spec := "fnExactFree", unfollowed := true, recurses := true, apart := false }
def FnExactFreeSaid : Prop := fnExactFreeRow.holds Try.pinned (OpenSpec.ofChange fnExactFreeSpec)

/-- ITS FALSE NEIGHBOUR: 'it returns false'. Refute it at one input. -/
def fnExactFreeWrong : ChangeSpec := { name := "fnExactFree", fn := fun _ => fun
  | [d1, d2, d3] => { results := [.lit (.bool false)], args := [d1, d2, d3] }
  | _ => none }
def FnExactFreeWrongFalsely : Prop := fnExactFreeRow.holds Try.pinned (OpenSpec.ofChange fnExactFreeWrong)

/-- 'laws.FnExactDropPool': WHATEVER THE INPUT: true; the input reads as it did. -/
def fnExactDropPoolSpec : ChangeSpec := { name := "fnExactDropPool", fn := fun _ => fun
  | [d1, d2] => { results := [.lit (.bool true)], args := [d1, d2] }
  | _ => none }
def fnExactDropPoolRow : OpenClaim := { program := "ythakdhdoeejkmaa", sum := "20f17647af9fbfe969ca36b67f630cd6315991ef36a5e585d81d9ae87494403f", func := "loop.example/g00113/laws.FnExactDropPool", spec := "fnExactDropPool", unfollowed := true, recurses := true, apart := false }
def FnExactDropPoolSaid : Prop := fnExactDropPoolRow.holds Try.pinned (OpenSpec.ofChange fnExactDropPoolSpec)

/-- ITS FALSE NEIGHBOUR: 'it returns false'. Refute it at one input. -/
def fnExactDropPoolWrong : ChangeSpec := { name := "fnExactDropPool", fn := fun _ => fun
  | [d1, d2] => { results := [.lit (.bool false)], args := [d1, d2] }
  | _ => none }
def FnExactDropPoolWrongFalsely : Prop := fnExactDropPoolRow.holds Try.pinned (OpenSpec.ofChange fnExactDropPoolWrong)

/- THE SECOND FORM. 'bulk': how many values and letters a reading holds, each counted each time it is reached (what is shared counts as often as it is met; a slice's spare places count too). A statement '..UptoSaid' is the law's where the arguments, and the package variables that the reading takes, are together of bulk at most 1048576: NARROWER than '..Said'. Prove '..Said' where nothing that the law and all that it calls make is longer than what came in: it says more and counts as full. Else prove '..UptoSaid'. A law counts once. -/
mutual
def uptoBulk {H : Type} : DataW H → Nat
  | .lit (.string bytes) => bytes.length + 1
  | .lit _ => 1
  | .nil => 1
  | .ptr d => uptoBulk d + 1
  | .slice elems spare => uptoBulkAll elems + uptoBulkAll spare + 1
  | .agg parts => uptoBulkAll parts + 1
  | .iface _ d => uptoBulk d + 1
  | .map entries => uptoBulkEntries entries + 1
  | .held _ => 1
def uptoBulkAll {H : Type} : List (DataW H) → Nat
  | [] => 0
  | d :: r => uptoBulk d + uptoBulkAll r
def uptoBulkEntries {H : Type} : List (Lit × DataW H) → Nat
  | [] => 0
  | x :: r => uptoBulkEntry x + uptoBulkEntries r
def uptoBulkEntry {H : Type} : Lit × DataW H → Nat
  | (.string bytes, d) => bytes.length + uptoBulk d + 1
  | (_, d) => uptoBulk d + 1
 end
def uptoSmall : (H : Type) → List (DataW H) → Bool := fun _ ds => decide (uptoBulkAll ds ≤ 1048576)
def OpenSpec.upto (s : _root_.Go.ChangeSpec) : _root_.Go.OpenSpec := { _root_.Go.OpenSpec.ofChange s with cond := some uptoSmall }

/-- 'laws.FnExactFreeCount', WHERE WHAT IT READS IS OF BULK AT MOST 1048576: true; the input reads as it did. -/
def fnExactFreeCountUptoRow : OpenClaim := { program := "ythakdhdoeejkmaa", sum := "20f17647af9fbfe969ca36b67f630cd6315991ef36a5e585d81d9ae87494403f", func := "loop.example/g00113/laws.FnExactFreeCount", spec := "fnExactFreeCount", unfollowed := true, recurses := true, apart := false, narrowed := true }
def FnExactFreeCountUptoSaid : Prop := fnExactFreeCountUptoRow.holds Try.pinned (OpenSpec.upto fnExactFreeCountSpec)

/-- 'laws.FnExactWithout', WHERE WHAT IT READS IS OF BULK AT MOST 1048576: true; the input reads as it did. -/
def fnExactWithoutUptoRow : OpenClaim := { program := "ythakdhdoeejkmaa", sum := "20f17647af9fbfe969ca36b67f630cd6315991ef36a5e585d81d9ae87494403f", func := "loop.example/g00113/laws.FnExactWithout", spec := "fnExactWithout", unfollowed := true, recurses := true, apart := false, narrowed := true }
def FnExactWithoutUptoSaid : Prop := fnExactWithoutUptoRow.holds Try.pinned (OpenSpec.upto fnExactWithoutSpec)

/-- 'laws.FnExactPrefixText', WHERE WHAT IT READS IS OF BULK AT MOST 1048576: true; the input reads as it did. -/
def fnExactPrefixTextUptoRow : OpenClaim := { program := "ythakdhdoeejkmaa", sum := "20f17647af9fbfe969ca36b67f630cd6315991ef36a5e585d81d9ae87494403f", func := "loop.example/g00113/laws.FnExactPrefixText", spec := "fnExactPrefixText", inPlace := ["internal/abi.NoEscape", "internal/bytealg.MakeNoZero"], recurses := true, apart := false, narrowed := true }
def FnExactPrefixTextUptoSaid : Prop := fnExactPrefixTextUptoRow.holds Try.pinned (OpenSpec.upto fnExactPrefixTextSpec)

/-- 'laws.FnExactFirstAddr', WHERE WHAT IT READS IS OF BULK AT MOST 1048576: true; the input reads as it did. -/
def fnExactFirstAddrUptoRow : OpenClaim := { program := "ythakdhdoeejkmaa", sum := "20f17647af9fbfe969ca36b67f630cd6315991ef36a5e585d81d9ae87494403f", func := "loop.example/g00113/laws.FnExactFirstAddr", spec := "fnExactFirstAddr", inPlace := ["math/bits.Add64"], apart := false, narrowed := true }
def FnExactFirstAddrUptoSaid : Prop := fnExactFirstAddrUptoRow.holds Try.pinned (OpenSpec.upto fnExactFirstAddrSpec)

/-- 'laws.FnHalved', WHERE WHAT IT READS IS OF BULK AT MOST 1048576: true; the input reads as it did. -/
def fnHalvedUptoRow : OpenClaim := { program := "ythakdhdoeejkmaa", sum := "20f17647af9fbfe969ca36b67f630cd6315991ef36a5e585d81d9ae87494403f", func := "loop.example/g00113/laws.FnHalved", spec := "fnHalved", inPlace := ["math/bits.Add64"], apart := false, narrowed := true }
def FnHalvedUptoSaid : Prop := fnHalvedUptoRow.holds Try.pinned (OpenSpec.upto fnHalvedSpec)

/-- 'laws.FnFirstAddr', WHERE WHAT IT READS IS OF BULK AT MOST 1048576: true; the input reads as it did. -/
def fnFirstAddrUptoRow : OpenClaim := { program := "ythakdhdoeejkmaa", sum := "20f17647af9fbfe969ca36b67f630cd6315991ef36a5e585d81d9ae87494403f", func := "loop.example/g00113/laws.FnFirstAddr", spec := "fnFirstAddr", inPlace := ["math/bits.Add64", "math/bits.Sub64"], apart := false, narrowed := true }
def FnFirstAddrUptoSaid : Prop := fnFirstAddrUptoRow.holds Try.pinned (OpenSpec.upto fnFirstAddrSpec)

/-- 'laws.FnFirst', WHERE WHAT IT READS IS OF BULK AT MOST 1048576: true; the input reads as it did. -/
def fnFirstUptoRow : OpenClaim := { program := "ythakdhdoeejkmaa", sum := "20f17647af9fbfe969ca36b67f630cd6315991ef36a5e585d81d9ae87494403f", func := "loop.example/g00113/laws.FnFirst", spec := "fnFirst", unfollowed := true, recurses := true, apart := false, narrowed := true }
def FnFirstUptoSaid : Prop := fnFirstUptoRow.holds Try.pinned (OpenSpec.upto fnFirstSpec)

/-- 'laws.FnExactPlanOk', WHERE WHAT IT READS IS OF BULK AT MOST 1048576: true; the input reads as it did. -/
def fnExactPlanOkUptoRow : OpenClaim := { program := "ythakdhdoeejkmaa", sum := "20f17647af9fbfe969ca36b67f630cd6315991ef36a5e585d81d9ae87494403f", func := "loop.example/g00113/laws.FnExactPlanOk", spec := "fnExactPlanOk", unfollowed := true, recurses := true, apart := false, narrowed := true }
def FnExactPlanOkUptoSaid : Prop := fnExactPlanOkUptoRow.holds Try.pinned (OpenSpec.upto fnExactPlanOkSpec)

/-- 'laws.FnExactBlockOf', WHERE WHAT IT READS IS OF BULK AT MOST 1048576: true; the input reads as it did. -/
def fnExactBlockOfUptoRow : OpenClaim := { program := "ythakdhdoeejkmaa", sum := "20f17647af9fbfe969ca36b67f630cd6315991ef36a5e585d81d9ae87494403f", func := "loop.example/g00113/laws.FnExactBlockOf", spec := "fnExactBlockOf", unfollowed := true, recurses := true, apart := false, narrowed := true }
def FnExactBlockOfUptoSaid : Prop := fnExactBlockOfUptoRow.holds Try.pinned (OpenSpec.upto fnExactBlockOfSpec)

/-- 'laws.FnExactUsage', WHERE WHAT IT READS IS OF BULK AT MOST 1048576: true; the input reads as it did. -/
def fnExactUsageUptoRow : OpenClaim := { program := "ythakdhdoeejkmaa", sum := "20f17647af9fbfe969ca36b67f630cd6315991ef36a5e585d81d9ae87494403f", func := "loop.example/g00113/laws.FnExactUsage", spec := "fnExactUsage", unfollowed := true, recurses := true, apart := false, narrowed := true }
def FnExactUsageUptoSaid : Prop := fnExactUsageUptoRow.holds Try.pinned (OpenSpec.upto fnExactUsageSpec)

/-- 'laws.FnExactFree', WHERE WHAT IT READS IS OF BULK AT MOST 1048576: true; the input reads as it did. -/
def fnExactFreeUptoRow : OpenClaim := { program := "ythakdhdoeejkmaa", sum := "20f17647af9fbfe969ca36b67f630cd6315991ef36a5e585d81d9ae87494403f", func := "loop.example/g00113/laws.FnExactFree", spec := "fnExactFree", unfollowed := true, recurses := true, apart := false, narrowed := true }
def FnExactFreeUptoSaid : Prop := fnExactFreeUptoRow.holds Try.pinned (OpenSpec.upto fnExactFreeSpec)

/-- 'laws.FnExactDropPool', WHERE WHAT IT READS IS OF BULK AT MOST 1048576: true; the input reads as it did. -/
def fnExactDropPoolUptoRow : OpenClaim := { program := "ythakdhdoeejkmaa", sum := "20f17647af9fbfe969ca36b67f630cd6315991ef36a5e585d81d9ae87494403f", func := "loop.example/g00113/laws.FnExactDropPool", spec := "fnExactDropPool", unfollowed := true, recurses := true, apart := false, narrowed := true }
def FnExactDropPoolUptoSaid : Prop := fnExactDropPoolUptoRow.holds Try.pinned (OpenSpec.upto fnExactDropPoolSpec)

end Rows
end Go.Proofs.Ythakdhdoeejkmaa
