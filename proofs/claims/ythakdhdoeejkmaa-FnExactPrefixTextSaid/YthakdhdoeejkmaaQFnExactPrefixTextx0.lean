-- Written by a program of this session (wip/myprint.py); Lean checks it.
import Derived.Test.YthakdhdoeejkmaaProg
import Derived.Below
import Derived.Deep.Draws
import Derived.Deep.AppendLies
import Derived.Maps.AppendAt
import Derived.OwnWalk
import Derived.Laws.BytesArg
import Derived.Laws.MakeOwn
import Derived.Laws.OwnMore
import Derived.Deep.OwnRows
import Derived.Tactics
import Derived.Lib.ConvBytes
import Derived.Laws.Slices
import Derived.WalkKit
import Derived.KernelRfl
import Derived.RowKit3
import Derived.Deep.LoopGhost
import Derived.Deep.QuietTactic
import Derived.BigQuiet
import Derived.WideLaws
import Derived.Deep.DeepCutAuto
import Derived.Deep.CutBlock
import Derived.Deep.RegionHeld3
import Derived.Laws.Rows
import Derived.Lib.AppendStr
import Derived.ArgAppend
import Derived.Laws.IdiomCopy
import Derived.OrdersHeld
import Derived.Laws.BitsLemmas
import Derived.RowKit
import Derived.Shelf.Spec.BitsCarry
import Derived.WalkSpells
import Derived.Lib.SliceRun
import Derived.Laws.Runes
import Derived.Lib.Join
import Derived.Test.YthakdhdoeejkmaaShelf
import Derived.Test.YthakdhdoeejkmaaWWords
import Derived.Test.YthakdhdoeejkmaaWLast
import Derived.Test.YthakdhdoeejkmaaWTab
import Derived.Test.YthakdhdoeejkmaaWFour
import Derived.Test.YthakdhdoeejkmaaWQPut
import Derived.Test.YthakdhdoeejkmaaWApart
import Derived.Test.YthakdhdoeejkmaaWArr
import Derived.Test.YthakdhdoeejkmaaWZeros
import Derived.Test.YthakdhdoeejkmaaWFoot
import Derived.Test.YthakdhdoeejkmaaWKept
import Derived.Test.YthakdhdoeejkmaaWShare
import Derived.Test.YthakdhdoeejkmaaWN
import Derived.Test.YthakdhdoeejkmaaWFootNe
import Derived.Test.YthakdhdoeejkmaaWAt
import Derived.Test.YthakdhdoeejkmaaWEqStruct
import Derived.Test.YthakdhdoeejkmaaWRepsOne
import Derived.Test.YthakdhdoeejkmaaWInv
import Derived.Test.YthakdhdoeejkmaaWInvWords
import Derived.Test.YthakdhdoeejkmaaWGuard
import Derived.Test.YthakdhdoeejkmaaWNEv
import Derived.Test.YthakdhdoeejkmaaWMore
namespace Go.Proofs.Ythakdhdoeejkmaa.QFnExactPrefixText
open Go.RowKit Go.Proofs.YthakdhdoeejkmaaW.PrintWords Go.Proofs.YthakdhdoeejkmaaW.PrintLast Go.Proofs.YthakdhdoeejkmaaW.PrintMore
attribute [local go_sem] max2_int min2_int max_two min_two max_three min_three max_four min_four   -- for this text's walks alone
set_option linter.unusedVariables false
set_option linter.unusedSimpArgs false



def errW : Option Int → Value
  | none => .nilIface
  | some c => .iface 0 (.int .i64 c)
theorem errW_none : errW none = .nilIface := rfl
theorem errW_some (c : Int) : errW (some c) = .iface 0 (.int .i64 c) := rfl

theorem isSome_setCell (w : World) (a b : Addr) (v : Value) : ((w.setCell a v).cell? b).isSome = (w.cell? b).isSome := by
  by_cases h : a = b
  · subst h
    simp only [World.setCell, World.cell?, Array.getElem?_modify, if_true]
    cases hh : w.heap[a.block]? with
    | none => rfl
    | some x =>
      cases x with
      | cells c e f =>
        simp only [Option.map_some]
        cases hs : a.spot.isSome with
        | true => rfl
        | false =>
          by_cases hl : a.off < c.size
          · simp [hl]
          · simp [hl]
      | _ => rfl
  · rw [World.cell?_setCell_other w a b v h]
theorem u64w_nn (x : Int) : 0 ≤ IntKind.u64.wrap x := by simp [IntKind.wrap, IntKind.bits, IntKind.signed]; omega
theorem u64w_lt (x : Int) : IntKind.u64.wrap x < 18446744073709551616 := by simp [IntKind.wrap, IntKind.bits, IntKind.signed]; omega
def add64s (x y c : Int) : Int := (x + y + c) % 18446744073709551616
def add64c (x y c : Int) : Int := (x + y + c) / 18446744073709551616
theorem add64_run (x y c : Int) (hx : 0 ≤ x) (hy : 0 ≤ y) (hc0 : 0 ≤ c) (hc : c ≤ 1) (w : World) :
    (callFunc 102 #[.int .u64 x, .int .u64 y, .int .u64 c]).run Try.prog w = .ok (.value (.tuple #[.int .u64 (add64s x y c), .int .u64 (add64c x y c)])) w := by
  rw [run_callFunc_extern Try.func102 (by kernel_rfl) (by kernel_rfl) (by kernel_rfl) (e := add64Entry) (by kernel_rfl), run_add64 x y c hx hy hc0 hc]
  rfl
theorem add64c_nn (x y : Int) : 0 ≤ add64c (IntKind.u64.wrap x) (IntKind.u64.wrap y) 0 := by
  have := u64w_nn x
  have := u64w_nn y
  unfold add64c; omega
theorem add64c_le (x y : Int) : add64c (IntKind.u64.wrap x) (IntKind.u64.wrap y) 0 ≤ 1 := by
  have := u64w_lt x
  have := u64w_lt y
  unfold add64c; omega
def sub64s (x y b : Int) : Int := ((x.toNat + 18446744073709551616 - y.toNat - b.toNat) % 18446744073709551616 : Nat)
def sub64c (x y b : Int) : Int := ((if x.toNat < y.toNat + b.toNat then 1 else 0 : Nat) : Int)
theorem sub64_run (x y b : Int) (hx : 0 ≤ x) (hy : 0 ≤ y) (hb0 : 0 ≤ b) (hb : b ≤ 1) (w : World) :
    (callFunc 157 #[.int .u64 x, .int .u64 y, .int .u64 b]).run Try.prog w = .ok (.value (.tuple #[.int .u64 (sub64s x y b), .int .u64 (sub64c x y b)])) w := by
  obtain ⟨X, rfl⟩ := Int.eq_ofNat_of_zero_le hx
  obtain ⟨Y, rfl⟩ := Int.eq_ofNat_of_zero_le hy
  obtain ⟨B, rfl⟩ := Int.eq_ofNat_of_zero_le hb0
  rw [run_callFunc_extern Try.func157 (by kernel_rfl) (by kernel_rfl) (by kernel_rfl) (e := sub64Entry) (by kernel_rfl), run_sub64 X Y B (by omega)]
  rfl
theorem sub64c_nn (x y : Int) : 0 ≤ sub64c (IntKind.u64.wrap x) (IntKind.u64.wrap y) 0 := by unfold sub64c; omega
theorem sub64c_le (x y : Int) : sub64c (IntKind.u64.wrap x) (IntKind.u64.wrap y) 0 ≤ 1 := by unfold sub64c; split <;> omega
theorem info3 : (Try.prog.info? 3).map (fun i => (i.zero, i.size, i.bytes)) = some (some (.int .i64 0), 1, 8) := by kernel_rfl
theorem info9 : (Try.prog.info? 9).map (fun i => (i.zero, i.size, i.bytes)) = some (some (.string ⟨#[]⟩), 1, 16) := by kernel_rfl
-- the values' own types
def rd_L1 (xs : List (List ByteArray)) (i : Int) : (List ByteArray) := xs.getD i.toNat ([] : List ByteArray)
theorem at_L1 {w : World} {A : Option Addr} {n : Nat} {xs : List (List ByteArray)} (h : Kd.C (Kd.slice 9 Kd.string) w A n xs) (i : Int) (h0 : 0 ≤ i) (h1 : i < n) : ∃ ad A0 c0, A = some ad ∧ w.cell? (ad.add i.toNat) = some (.slice A0 (rd_L1 xs i).length c0) ∧ (rd_L1 xs i).length ≤ c0 ∧ Kd.string.C w A0 (rd_L1 xs i).length (rd_L1 xs i) := by
  obtain ⟨ad, c, e, _, hK, hc0⟩ := Kd.C_get h ([] : List ByteArray) i h0 h1
  have hc : ∀ j u, c[j]? = some u → w.cell? (ad.add (i.toNat * 1 + j)) = some u := hc0
  obtain ⟨A0, c0, rfl, l0, g0⟩ := hK
  exact ⟨ad, A0, c0, e, by have hq := hc 0 _ rfl; rwa [Nat.mul_one, Nat.add_zero] at hq, l0, g0⟩

end Go.Proofs.Ythakdhdoeejkmaa.QFnExactPrefixText
