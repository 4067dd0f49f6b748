/-
  No cell of these rows narrows 'for every input' (looked for: loops, veiled, ifaces, maps, wideKeys, modest, calm, conditions, laid).
  DERIVED. THE GIVEN ROWS OF THIS SEAT. 11 by the template 'for every input the law returns true; each argument reads behind the call as it read before'; 0 by the template 'total and deterministic' (their statements: YtfidfiacjocooaaTotals.lean).
  GIVEN WITH THE SEED: the statements are not yours to turn. If you find one false, say at which input.
  Laid BY PROGRAM, IN A SANDBOX (cutbox-rows.mjs): the forced cells as the released guide's own fill.sh prints them over the translation ebd32417207ba439… (all of the seat's roots in one cut). By AI agents, Wed Nov 11 2026. No macro, syntax, notation, axiom, sorry.
-/
import Derived.Test.YtfidfiacjocooaaChecked
import GoSem.Claim
import GoSem.ClaimJoined
import GoSem.ClaimMapViews
import Derived.JoinedTies
import Derived.KernelRfl
namespace Go.Proofs.Ytfidfiacjocooaa
/- THE CELL 'sum', in the pinned program and in every row, IS THE sha256 OF THE DUMP (.gsa) THAT YtfidfiacjocooaaProg.lean LOADS. Nothing in Lean hashes anything: it is a label: what it is worth is what the hold of that sum in a sandbox is worth. -/
noncomputable def Try.pinned : Pinned := { name := "ytfidfiacjocooaa", sum := "ebd32417207ba439a3582616134e403e80effeb13a649661cf23b7457020a99c", checked := Try.checked }
namespace Rows
def none {H : Type} : Left H := { results := [], args := [] }

/-- 'laws.FnExactConstants': WHATEVER THE INPUT: true; the input reads as it did. -/
def fnExactConstantsSpec : ChangeSpec := { name := "fnExactConstants", fn := fun _ => fun
  | [] => { results := [.lit (.bool true)], args := [] }
  | _ => none }
def fnExactConstantsRow : OpenClaim := { program := "ytfidfiacjocooaa", sum := "ebd32417207ba439a3582616134e403e80effeb13a649661cf23b7457020a99c", func := "loop.example/g00113/laws.FnExactConstants", spec := "fnExactConstants", apart := false }
def FnExactConstantsSaid : Prop := fnExactConstantsRow.holds Try.pinned (OpenSpec.ofChange fnExactConstantsSpec)

/-- ITS FALSE NEIGHBOUR: 'it returns false'. Refute it at one input. -/
def fnExactConstantsWrong : ChangeSpec := { name := "fnExactConstants", fn := fun _ => fun
  | [] => { results := [.lit (.bool false)], args := [] }
  | _ => none }
def FnExactConstantsWrongFalsely : Prop := fnExactConstantsRow.holds Try.pinned (OpenSpec.ofChange fnExactConstantsWrong)

/-- 'laws.FnExactAddrOk': WHATEVER THE INPUT: true; the input reads as it did. -/
def fnExactAddrOkSpec : ChangeSpec := { name := "fnExactAddrOk", fn := fun _ => fun
  | [d] => { results := [.lit (.bool true)], args := [d] }
  | _ => none }
def fnExactAddrOkRow : OpenClaim := { program := "ytfidfiacjocooaa", sum := "ebd32417207ba439a3582616134e403e80effeb13a649661cf23b7457020a99c", func := "loop.example/g00113/laws.FnExactAddrOk", spec := "fnExactAddrOk", apart := false }
def FnExactAddrOkSaid : Prop := fnExactAddrOkRow.holds Try.pinned (OpenSpec.ofChange fnExactAddrOkSpec)

/-- ITS FALSE NEIGHBOUR: 'it returns false'. Refute it at one input. -/
def fnExactAddrOkWrong : ChangeSpec := { name := "fnExactAddrOk", fn := fun _ => fun
  | [d] => { results := [.lit (.bool false)], args := [d] }
  | _ => none }
def FnExactAddrOkWrongFalsely : Prop := fnExactAddrOkRow.holds Try.pinned (OpenSpec.ofChange fnExactAddrOkWrong)

/-- 'laws.FnExactOwnerOk': WHATEVER THE INPUT: true; the input reads as it did. -/
def fnExactOwnerOkSpec : ChangeSpec := { name := "fnExactOwnerOk", fn := fun _ => fun
  | [d] => { results := [.lit (.bool true)], args := [d] }
  | _ => none }
def fnExactOwnerOkRow : OpenClaim := { program := "ytfidfiacjocooaa", sum := "ebd32417207ba439a3582616134e403e80effeb13a649661cf23b7457020a99c", func := "loop.example/g00113/laws.FnExactOwnerOk", spec := "fnExactOwnerOk", apart := false }
def FnExactOwnerOkSaid : Prop := fnExactOwnerOkRow.holds Try.pinned (OpenSpec.ofChange fnExactOwnerOkSpec)

/-- ITS FALSE NEIGHBOUR: 'it returns false'. Refute it at one input. -/
def fnExactOwnerOkWrong : ChangeSpec := { name := "fnExactOwnerOk", fn := fun _ => fun
  | [d] => { results := [.lit (.bool false)], args := [d] }
  | _ => none }
def FnExactOwnerOkWrongFalsely : Prop := fnExactOwnerOkRow.holds Try.pinned (OpenSpec.ofChange fnExactOwnerOkWrong)

/-- 'laws.FnExactPutNum': WHATEVER THE INPUT: true; the input reads as it did. -/
def fnExactPutNumSpec : ChangeSpec := { name := "fnExactPutNum", fn := fun _ => fun
  | [d] => { results := [.lit (.bool true)], args := [d] }
  | _ => none }
def fnExactPutNumRow : OpenClaim := { program := "ytfidfiacjocooaa", sum := "ebd32417207ba439a3582616134e403e80effeb13a649661cf23b7457020a99c", func := "loop.example/g00113/laws.FnExactPutNum", spec := "fnExactPutNum", apart := false }
def FnExactPutNumSaid : Prop := fnExactPutNumRow.holds Try.pinned (OpenSpec.ofChange fnExactPutNumSpec)

/-- ITS FALSE NEIGHBOUR: 'it returns false'. Refute it at one input. -/
def fnExactPutNumWrong : ChangeSpec := { name := "fnExactPutNum", fn := fun _ => fun
  | [d] => { results := [.lit (.bool false)], args := [d] }
  | _ => none }
def FnExactPutNumWrongFalsely : Prop := fnExactPutNumRow.holds Try.pinned (OpenSpec.ofChange fnExactPutNumWrong)

/-- 'laws.FnExactSum': WHATEVER THE INPUT: true; the input reads as it did. -/
def fnExactSumSpec : ChangeSpec := { name := "fnExactSum", fn := fun _ => fun
  | [d] => { results := [.lit (.bool true)], args := [d] }
  | _ => none }
def fnExactSumRow : OpenClaim := { program := "ytfidfiacjocooaa", sum := "ebd32417207ba439a3582616134e403e80effeb13a649661cf23b7457020a99c", func := "loop.example/g00113/laws.FnExactSum", spec := "fnExactSum", apart := false }
def FnExactSumSaid : Prop := fnExactSumRow.holds Try.pinned (OpenSpec.ofChange fnExactSumSpec)

/-- ITS FALSE NEIGHBOUR: 'it returns false'. Refute it at one input. -/
def fnExactSumWrong : ChangeSpec := { name := "fnExactSum", fn := fun _ => fun
  | [d] => { results := [.lit (.bool false)], args := [d] }
  | _ => none }
def FnExactSumWrongFalsely : Prop := fnExactSumRow.holds Try.pinned (OpenSpec.ofChange fnExactSumWrong)

/-- 'laws.FnExactPutText': WHATEVER THE INPUT: true; the input reads as it did. -/
def fnExactPutTextSpec : ChangeSpec := { name := "fnExactPutText", fn := fun _ => fun
  | [d] => { results := [.lit (.bool true)], args := [d] }
  | _ => none }
def fnExactPutTextRow : OpenClaim := { program := "ytfidfiacjocooaa", sum := "ebd32417207ba439a3582616134e403e80effeb13a649661cf23b7457020a99c", func := "loop.example/g00113/laws.FnExactPutText", spec := "fnExactPutText", apart := false }
def FnExactPutTextSaid : Prop := fnExactPutTextRow.holds Try.pinned (OpenSpec.ofChange fnExactPutTextSpec)

/-- ITS FALSE NEIGHBOUR: 'it returns false'. Refute it at one input. -/
def fnExactPutTextWrong : ChangeSpec := { name := "fnExactPutText", fn := fun _ => fun
  | [d] => { results := [.lit (.bool false)], args := [d] }
  | _ => none }
def FnExactPutTextWrongFalsely : Prop := fnExactPutTextRow.holds Try.pinned (OpenSpec.ofChange fnExactPutTextWrong)

/-- 'laws.FnExactGetNum': WHATEVER THE INPUT: true; the input reads as it did. -/
def fnExactGetNumSpec : ChangeSpec := { name := "fnExactGetNum", fn := fun _ => fun
  | [d1, d2] => { results := [.lit (.bool true)], args := [d1, d2] }
  | _ => none }
def fnExactGetNumRow : OpenClaim := { program := "ytfidfiacjocooaa", sum := "ebd32417207ba439a3582616134e403e80effeb13a649661cf23b7457020a99c", func := "loop.example/g00113/laws.FnExactGetNum", spec := "fnExactGetNum", apart := false }
def FnExactGetNumSaid : Prop := fnExactGetNumRow.holds Try.pinned (OpenSpec.ofChange fnExactGetNumSpec)

/-- ITS FALSE NEIGHBOUR: 'it returns false'. Refute it at one input. -/
def fnExactGetNumWrong : ChangeSpec := { name := "fnExactGetNum", fn := fun _ => fun
  | [d1, d2] => { results := [.lit (.bool false)], args := [d1, d2] }
  | _ => none }
def FnExactGetNumWrongFalsely : Prop := fnExactGetNumRow.holds Try.pinned (OpenSpec.ofChange fnExactGetNumWrong)

/-- 'laws.FnExactGetAddr': WHATEVER THE INPUT: true; the input reads as it did. -/
def fnExactGetAddrSpec : ChangeSpec := { name := "fnExactGetAddr", fn := fun _ => fun
  | [d1, d2] => { results := [.lit (.bool true)], args := [d1, d2] }
  | _ => none }
def fnExactGetAddrRow : OpenClaim := { program := "ytfidfiacjocooaa", sum := "ebd32417207ba439a3582616134e403e80effeb13a649661cf23b7457020a99c", func := "loop.example/g00113/laws.FnExactGetAddr", spec := "fnExactGetAddr", apart := false }
def FnExactGetAddrSaid : Prop := fnExactGetAddrRow.holds Try.pinned (OpenSpec.ofChange fnExactGetAddrSpec)

/-- ITS FALSE NEIGHBOUR: 'it returns false'. Refute it at one input. -/
def fnExactGetAddrWrong : ChangeSpec := { name := "fnExactGetAddr", fn := fun _ => fun
  | [d1, d2] => { results := [.lit (.bool false)], args := [d1, d2] }
  | _ => none }
def FnExactGetAddrWrongFalsely : Prop := fnExactGetAddrRow.holds Try.pinned (OpenSpec.ofChange fnExactGetAddrWrong)

/-- 'laws.FnExactPrefixOk': WHATEVER THE INPUT: true; the input reads as it did. -/
def fnExactPrefixOkSpec : ChangeSpec := { name := "fnExactPrefixOk", fn := fun _ => fun
  | [d] => { results := [.lit (.bool true)], args := [d] }
  | _ => none }
def fnExactPrefixOkRow : OpenClaim := { program := "ytfidfiacjocooaa", sum := "ebd32417207ba439a3582616134e403e80effeb13a649661cf23b7457020a99c", func := "loop.example/g00113/laws.FnExactPrefixOk", spec := "fnExactPrefixOk", apart := false }
def FnExactPrefixOkSaid : Prop := fnExactPrefixOkRow.holds Try.pinned (OpenSpec.ofChange fnExactPrefixOkSpec)

/-- ITS FALSE NEIGHBOUR: 'it returns false'. Refute it at one input. -/
def fnExactPrefixOkWrong : ChangeSpec := { name := "fnExactPrefixOk", fn := fun _ => fun
  | [d] => { results := [.lit (.bool false)], args := [d] }
  | _ => none }
def FnExactPrefixOkWrongFalsely : Prop := fnExactPrefixOkRow.holds Try.pinned (OpenSpec.ofChange fnExactPrefixOkWrong)

/-- 'laws.FnExactCmpAddr': WHATEVER THE INPUT: true; the input reads as it did. -/
def fnExactCmpAddrSpec : ChangeSpec := { name := "fnExactCmpAddr", fn := fun _ => fun
  | [d1, d2] => { results := [.lit (.bool true)], args := [d1, d2] }
  | _ => none }
def fnExactCmpAddrRow : OpenClaim := { program := "ytfidfiacjocooaa", sum := "ebd32417207ba439a3582616134e403e80effeb13a649661cf23b7457020a99c", func := "loop.example/g00113/laws.FnExactCmpAddr", spec := "fnExactCmpAddr", apart := false }
def FnExactCmpAddrSaid : Prop := fnExactCmpAddrRow.holds Try.pinned (OpenSpec.ofChange fnExactCmpAddrSpec)

/-- ITS FALSE NEIGHBOUR: 'it returns false'. Refute it at one input. -/
def fnExactCmpAddrWrong : ChangeSpec := { name := "fnExactCmpAddr", fn := fun _ => fun
  | [d1, d2] => { results := [.lit (.bool false)], args := [d1, d2] }
  | _ => none }
def FnExactCmpAddrWrongFalsely : Prop := fnExactCmpAddrRow.holds Try.pinned (OpenSpec.ofChange fnExactCmpAddrWrong)

/-- 'laws.FnExactHasAddr': WHATEVER THE INPUT: true; the input reads as it did. -/
def fnExactHasAddrSpec : ChangeSpec := { name := "fnExactHasAddr", fn := fun _ => fun
  | [d1, d2] => { results := [.lit (.bool true)], args := [d1, d2] }
  | _ => none }
def fnExactHasAddrRow : OpenClaim := { program := "ytfidfiacjocooaa", sum := "ebd32417207ba439a3582616134e403e80effeb13a649661cf23b7457020a99c", func := "loop.example/g00113/laws.FnExactHasAddr", spec := "fnExactHasAddr", apart := false }
def FnExactHasAddrSaid : Prop := fnExactHasAddrRow.holds Try.pinned (OpenSpec.ofChange fnExactHasAddrSpec)

/-- ITS FALSE NEIGHBOUR: 'it returns false'. Refute it at one input. -/
def fnExactHasAddrWrong : ChangeSpec := { name := "fnExactHasAddr", fn := fun _ => fun
  | [d1, d2] => { results := [.lit (.bool false)], args := [d1, d2] }
  | _ => none }
def FnExactHasAddrWrongFalsely : Prop := fnExactHasAddrRow.holds Try.pinned (OpenSpec.ofChange fnExactHasAddrWrong)

/- THE SECOND FORM. 'bulk': how many values and letters a reading holds, each counted each time it is reached (what is shared counts as often as it is met; a slice's spare places count too). A statement '..UptoSaid' is the law's where the arguments, and the package variables that the reading takes, are together of bulk at most 1048576: NARROWER than '..Said'. Prove '..Said' where nothing that the law and all that it calls make is longer than what came in: it says more and counts as full. Else prove '..UptoSaid'. A law counts once. -/
mutual
def uptoBulk {H : Type} : DataW H → Nat
  | .lit (.string bytes) => bytes.length + 1
  | .lit _ => 1
  | .nil => 1
  | .ptr d => uptoBulk d + 1
  | .slice elems spare => uptoBulkAll elems + uptoBulkAll spare + 1
  | .agg parts => uptoBulkAll parts + 1
  | .iface _ d => uptoBulk d + 1
  | .map entries => uptoBulkEntries entries + 1
  | .held _ => 1
def uptoBulkAll {H : Type} : List (DataW H) → Nat
  | [] => 0
  | d :: r => uptoBulk d + uptoBulkAll r
def uptoBulkEntries {H : Type} : List (Lit × DataW H) → Nat
  | [] => 0
  | x :: r => uptoBulkEntry x + uptoBulkEntries r
def uptoBulkEntry {H : Type} : Lit × DataW H → Nat
  | (.string bytes, d) => bytes.length + uptoBulk d + 1
  | (_, d) => uptoBulk d + 1
 end
def uptoSmall : (H : Type) → List (DataW H) → Bool := fun _ ds => decide (uptoBulkAll ds ≤ 1048576)
def OpenSpec.upto (s : _root_.Go.ChangeSpec) : _root_.Go.OpenSpec := { _root_.Go.OpenSpec.ofChange s with cond := some uptoSmall }

/-- 'laws.FnExactConstants', WHERE WHAT IT READS IS OF BULK AT MOST 1048576: true; the input reads as it did. -/
def fnExactConstantsUptoRow : OpenClaim := { program := "ytfidfiacjocooaa", sum := "ebd32417207ba439a3582616134e403e80effeb13a649661cf23b7457020a99c", func := "loop.example/g00113/laws.FnExactConstants", spec := "fnExactConstants", apart := false, narrowed := true }
def FnExactConstantsUptoSaid : Prop := fnExactConstantsUptoRow.holds Try.pinned (OpenSpec.upto fnExactConstantsSpec)

/-- 'laws.FnExactAddrOk', WHERE WHAT IT READS IS OF BULK AT MOST 1048576: true; the input reads as it did. -/
def fnExactAddrOkUptoRow : OpenClaim := { program := "ytfidfiacjocooaa", sum := "ebd32417207ba439a3582616134e403e80effeb13a649661cf23b7457020a99c", func := "loop.example/g00113/laws.FnExactAddrOk", spec := "fnExactAddrOk", apart := false, narrowed := true }
def FnExactAddrOkUptoSaid : Prop := fnExactAddrOkUptoRow.holds Try.pinned (OpenSpec.upto fnExactAddrOkSpec)

/-- 'laws.FnExactOwnerOk', WHERE WHAT IT READS IS OF BULK AT MOST 1048576: true; the input reads as it did. -/
def fnExactOwnerOkUptoRow : OpenClaim := { program := "ytfidfiacjocooaa", sum := "ebd32417207ba439a3582616134e403e80effeb13a649661cf23b7457020a99c", func := "loop.example/g00113/laws.FnExactOwnerOk", spec := "fnExactOwnerOk", apart := false, narrowed := true }
def FnExactOwnerOkUptoSaid : Prop := fnExactOwnerOkUptoRow.holds Try.pinned (OpenSpec.upto fnExactOwnerOkSpec)

/-- 'laws.FnExactPutNum', WHERE WHAT IT READS IS OF BULK AT MOST 1048576: true; the input reads as it did. -/
def fnExactPutNumUptoRow : OpenClaim := { program := "ytfidfiacjocooaa", sum := "ebd32417207ba439a3582616134e403e80effeb13a649661cf23b7457020a99c", func := "loop.example/g00113/laws.FnExactPutNum", spec := "fnExactPutNum", apart := false, narrowed := true }
def FnExactPutNumUptoSaid : Prop := fnExactPutNumUptoRow.holds Try.pinned (OpenSpec.upto fnExactPutNumSpec)

/-- 'laws.FnExactSum', WHERE WHAT IT READS IS OF BULK AT MOST 1048576: true; the input reads as it did. -/
def fnExactSumUptoRow : OpenClaim := { program := "ytfidfiacjocooaa", sum := "ebd32417207ba439a3582616134e403e80effeb13a649661cf23b7457020a99c", func := "loop.example/g00113/laws.FnExactSum", spec := "fnExactSum", apart := false, narrowed := true }
def FnExactSumUptoSaid : Prop := fnExactSumUptoRow.holds Try.pinned (OpenSpec.upto fnExactSumSpec)

/-- 'laws.FnExactPutText', WHERE WHAT IT READS IS OF BULK AT MOST 1048576: true; the input reads as it did. -/
def fnExactPutTextUptoRow : OpenClaim := { program := "ytfidfiacjocooaa", sum := "ebd32417207ba439a3582616134e403e80effeb13a649661cf23b7457020a99c", func := "loop.example/g00113/laws.FnExactPutText", spec := "fnExactPutText", apart := false, narrowed := true }
def FnExactPutTextUptoSaid : Prop := fnExactPutTextUptoRow.holds Try.pinned (OpenSpec.upto fnExactPutTextSpec)

/-- 'laws.FnExactGetNum', WHERE WHAT IT READS IS OF BULK AT MOST 1048576: true; the input reads as it did. -/
def fnExactGetNumUptoRow : OpenClaim := { program := "ytfidfiacjocooaa", sum := "ebd32417207ba439a3582616134e403e80effeb13a649661cf23b7457020a99c", func := "loop.example/g00113/laws.FnExactGetNum", spec := "fnExactGetNum", apart := false, narrowed := true }
def FnExactGetNumUptoSaid : Prop := fnExactGetNumUptoRow.holds Try.pinned (OpenSpec.upto fnExactGetNumSpec)

/-- 'laws.FnExactGetAddr', WHERE WHAT IT READS IS OF BULK AT MOST 1048576: true; the input reads as it did. -/
def fnExactGetAddrUptoRow : OpenClaim := { program := "ytfidfiacjocooaa", sum := "ebd32417207ba439a3582616134e403e80effeb13a649661cf23b7457020a99c", func := "loop.example/g00113/laws.FnExactGetAddr", spec := "fnExactGetAddr", apart := false, narrowed := true }
def FnExactGetAddrUptoSaid : Prop := fnExactGetAddrUptoRow.holds Try.pinned (OpenSpec.upto fnExactGetAddrSpec)

/-- 'laws.FnExactPrefixOk', WHERE WHAT IT READS IS OF BULK AT MOST 1048576: true; the input reads as it did. -/
def fnExactPrefixOkUptoRow : OpenClaim := { program := "ytfidfiacjocooaa", sum := "ebd32417207ba439a3582616134e403e80effeb13a649661cf23b7457020a99c", func := "loop.example/g00113/laws.FnExactPrefixOk", spec := "fnExactPrefixOk", apart := false, narrowed := true }
def FnExactPrefixOkUptoSaid : Prop := fnExactPrefixOkUptoRow.holds Try.pinned (OpenSpec.upto fnExactPrefixOkSpec)

/-- 'laws.FnExactCmpAddr', WHERE WHAT IT READS IS OF BULK AT MOST 1048576: true; the input reads as it did. -/
def fnExactCmpAddrUptoRow : OpenClaim := { program := "ytfidfiacjocooaa", sum := "ebd32417207ba439a3582616134e403e80effeb13a649661cf23b7457020a99c", func := "loop.example/g00113/laws.FnExactCmpAddr", spec := "fnExactCmpAddr", apart := false, narrowed := true }
def FnExactCmpAddrUptoSaid : Prop := fnExactCmpAddrUptoRow.holds Try.pinned (OpenSpec.upto fnExactCmpAddrSpec)

/-- 'laws.FnExactHasAddr', WHERE WHAT IT READS IS OF BULK AT MOST 1048576: true; the input reads as it did. -/
def fnExactHasAddrUptoRow : OpenClaim := { program := "ytfidfiacjocooaa", sum := "ebd32417207ba439a3582616134e403e80effeb13a649661cf23b7457020a99c", func := "loop.example/g00113/laws.FnExactHasAddr", spec := "fnExactHasAddr", apart := false, narrowed := true }
def FnExactHasAddrUptoSaid : Prop := fnExactHasAddrUptoRow.holds Try.pinned (OpenSpec.upto fnExactHasAddrSpec)

end Rows
end Go.Proofs.Ytfidfiacjocooaa
