/-
The kit's shelf at this seat's program, in plain words: strings_Join_none strings_Join.
Conditions: as stated.
-/
import Derived.Shelf.Strings.Builder1
import Derived.Shelf.Strings.Builder2
import Derived.Shelf.Strings.OnBuilder
import Derived.Ground.Names2Prog
import Derived.Shelf.Slices.SearchI
import Derived.Test.YthakdhdoeejkmaaProg
namespace Go.Proofs.YthakdhdoeejkmaaSh
open Go.Shelf
set_option linter.unusedVariables false
def Try.lays156_ren : Go.Shelf.Ren := ⟨fun | 156 => 143 | 165 => 172 | 166 => 173 | 169 => 174 | 240 => 180 | 241 => 181 | 276 => 182 | 277 => 183 | n => n, fun | 31 => 150 | 9 => 9 | 3 => 3 | 4 => 4 | 0 => 0 | 20 => 20 | 72 => 185 | 76 => 189 | 70 => 183 | 37 => 51 | 75 => 188 | 127 => 193 | 164 => 194 | 5 => 5 | 80 => 191 | n => n, fun | n => n⟩
theorem Try.lays156 : Go.Proofs.Lays.n156 Try.prog Try.lays156_ren := {
  mixed := by kernel_rfl
  f156 := Try.func143.trans (congrArg some (by kernel_rfl))
  f165 := Try.func172.trans (congrArg some (by kernel_rfl))
  f166 := Try.func173.trans (congrArg some (by kernel_rfl))
  f169 := Try.func174.trans (congrArg some (by kernel_rfl))
  f240 := Try.func180.trans (congrArg some (by kernel_rfl))
  f241 := Try.func181.trans (congrArg some (by kernel_rfl))
  f276 := Try.func182.trans (congrArg some (by kernel_rfl))
  f277 := Try.func183.trans (congrArg some (by kernel_rfl))
  t0 := Try.underlying0
  a0 := Try.isAgg0
  z0 := Try.sizeOf0
  v0 := Try.zeroValue0
  t3 := Try.underlying3
  a3 := Try.isAgg3
  z3 := Try.sizeOf3
  v3 := Try.zeroValue3
  t4 := Try.underlying4
  a4 := Try.isAgg4
  z4 := Try.sizeOf4
  v4 := Try.zeroValue4
  t9 := Try.underlying9
  a9 := Try.isAgg9
  z9 := Try.sizeOf9
  v9 := Try.zeroValue9
  t20 := Try.underlying20
  a20 := Try.isAgg20
  z20 := Try.sizeOf20
  v20 := Try.zeroValue20
  t31 := Try.underlying150
  a31 := Try.isAgg150
  z31 := Try.sizeOf150
  v31 := Try.zeroValue150
  t37 := Try.underlying51
  a37 := Try.isAgg51
  z37 := Try.sizeOf51
  v37 := Try.zeroValue51
  t70 := Try.underlying183
  a70 := Try.isAgg183
  z70 := Try.sizeOf183
  v70 := Try.zeroValue183
  t72 := Try.underlying185
  a72 := Try.isAgg185
  z72 := Try.sizeOf185
  v72 := Try.zeroValue185
  t75 := Try.underlying188
  a75 := Try.isAgg188
  z75 := Try.sizeOf188
  v75 := Try.zeroValue188
  t76 := Try.underlying189
  a76 := Try.isAgg189
  z76 := Try.sizeOf189
  v76 := Try.zeroValue189
  t127 := Try.underlying193
  a127 := Try.isAgg193
  z127 := Try.sizeOf193
  v127 := Try.zeroValue193
  t164 := Try.underlying194
  a164 := Try.isAgg194
  z164 := Try.sizeOf194
  v164 := Try.zeroValue194 }
theorem Try.Builder_Extra_156 : Builder.Extra Try.prog Try.lays156_ren := {
  sizeBuilder := by kernel_rfl
  liesBuilder := by kernel_rfl
  t5 := Try.underlying5
  a5 := Try.isAgg5
  z5 := Try.sizeOf5
  v5 := Try.zeroValue5
  infoByte := by kernel_rfl
  cellsByte := by kernel_rfl
  sizeByte := by kernel_rfl
  neB5 := by decide }
open Go.RowKit in
theorem Try.strings_Join_none (a : Option Addr) (c : Nat) (sep : ByteArray) (w : World) :
    Calls Try.prog 143 #[.slice a 0 c, .string sep] w fun e w' => e = .returned (.string ⟨#[]⟩) ∧ w' = w := Any.strings_Join_none Try.lays156 Try.Builder_Extra_156 a c sep w
open Go.RowKit in
theorem Try.strings_Join (bk o c : Nat) (xs : List ByteArray) (sep : ByteArray) (w : World) (hcells : ∀ (j : Nat) x, xs[j]? = some x → w.cell? ⟨bk, o + j, none⟩ = some (.string x)) (hbk : bk < w.heap.size) (hN : xs.length ≤ 140737488355328) (hcap : xs.length ≤ c) (hlen : (Lib.join (xs.map (·.data.toList)) sep.data.toList).length ≤ 140737488355328) :
    Calls Try.prog 143 #[.slice (some ⟨bk, o, none⟩) xs.length c, .string sep] w fun e w' => e = .returned (.string ⟨(Lib.join (xs.map (·.data.toList)) sep.data.toList).toArray⟩) ∧ Below w.heap.size w w' := Any.strings_Join Try.lays156 Try.Builder_Extra_156 bk o c xs sep w hcells hbk hN hcap hlen
end Go.Proofs.YthakdhdoeejkmaaSh
