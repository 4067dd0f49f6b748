-- Written by a program of this session (wip/myprint.py); Lean checks it.
import Derived.Test.YthakdhdoeejkmaaProg
import Derived.Below
import Derived.Deep.Draws
import Derived.Deep.AppendLies
import Derived.Maps.AppendAt
import Derived.OwnWalk
import Derived.Laws.BytesArg
import Derived.Laws.MakeOwn
import Derived.Laws.OwnMore
import Derived.Deep.OwnRows
import Derived.Tactics
import Derived.Lib.ConvBytes
import Derived.Laws.Slices
import Derived.WalkKit
import Derived.KernelRfl
import Derived.RowKit3
import Derived.Deep.LoopGhost
import Derived.Deep.QuietTactic
import Derived.BigQuiet
import Derived.WideLaws
import Derived.Deep.DeepCutAuto
import Derived.Deep.CutBlock
import Derived.Deep.RegionHeld3
import Derived.Laws.Rows
import Derived.Lib.AppendStr
import Derived.ArgAppend
import Derived.Laws.IdiomCopy
import Derived.OrdersHeld
import Derived.Laws.BitsLemmas
import Derived.RowKit
import Derived.Shelf.Spec.BitsCarry
import Derived.WalkSpells
import Derived.Lib.SliceRun
import Derived.Test.YthakdhdoeejkmaaWWords
import Derived.Test.YthakdhdoeejkmaaWLast
import Derived.Test.YthakdhdoeejkmaaWTab
import Derived.Test.YthakdhdoeejkmaaWFour
import Derived.Test.YthakdhdoeejkmaaWQPut
import Derived.Test.YthakdhdoeejkmaaWApart
import Derived.Test.YthakdhdoeejkmaaWArr
import Derived.Test.YthakdhdoeejkmaaWZeros
import Derived.Test.YthakdhdoeejkmaaWFoot
import Derived.Test.YthakdhdoeejkmaaWKept
import Derived.Test.YthakdhdoeejkmaaWShare
import Derived.Test.YthakdhdoeejkmaaWN
import Derived.Test.YthakdhdoeejkmaaWFootNe
import Derived.Test.YthakdhdoeejkmaaWAt
import Derived.Test.YthakdhdoeejkmaaWEqStruct
import Derived.Test.YthakdhdoeejkmaaWRepsOne
import Derived.Test.YthakdhdoeejkmaaWInv
import Derived.Test.YthakdhdoeejkmaaWInvWords
import Derived.Test.YthakdhdoeejkmaaWGuard
import Derived.Test.YthakdhdoeejkmaaWNEv
import Derived.Test.YthakdhdoeejkmaaWMore
namespace Go.Proofs.Ythakdhdoeejkmaa.QFnFirstAddr
open Go.RowKit Go.Proofs.YthakdhdoeejkmaaW.PrintWords Go.Proofs.YthakdhdoeejkmaaW.PrintLast Go.Proofs.YthakdhdoeejkmaaW.PrintMore
attribute [local go_sem] max2_int min2_int max_two min_two max_three min_three max_four min_four   -- for this text's walks alone
set_option linter.unusedVariables false
set_option linter.unusedSimpArgs false



def errW : Option Int → Value
 | none => .nilIface
 | some c => .iface 0 (.int .i64 c)
theorem errW_none : errW none = .nilIface := rfl
theorem errW_some (c : Int) : errW (some c) = .iface 0 (.int .i64 c) := rfl

theorem isSome_setCell (w : World) (a b : Addr) (v : Value) : ((w.setCell a v).cell? b).isSome = (w.cell? b).isSome := by
 by_cases h : a = b
 ·subst h
  simp only [World.setCell, World.cell?, Array.getElem?_modify, if_true]
  cases hh : w.heap[a.block]? with
  | none => rfl
  | some x =>
   cases x with
   | cells c e f =>
    simp only [Option.map_some]
    cases hs : a.spot.isSome with
    | true => rfl
    | false =>
     by_cases hl : a.off < c.size
     ·simp [hl]
     ·simp [hl]
   | _ => rfl
 ·rw [World.cell?_setCell_other w a b v h]
theorem u64w_nn (x : Int) : 0 ≤ IntKind.u64.wrap x := by simp [IntKind.wrap, IntKind.bits, IntKind.signed]; omega
theorem u64w_lt (x : Int) : IntKind.u64.wrap x < 18446744073709551616 := by simp [IntKind.wrap, IntKind.bits, IntKind.signed]; omega
def add64s (x y c : Int) : Int := (x + y + c) % 18446744073709551616
def add64c (x y c : Int) : Int := (x + y + c) / 18446744073709551616
theorem add64_run (x y c : Int) (hx : 0 ≤ x) (hy : 0 ≤ y) (hc0 : 0 ≤ c) (hc : c ≤ 1) (w : World) :
  (callFunc 102 #[.int .u64 x, .int .u64 y, .int .u64 c]).run Try.prog w = .ok (.value (.tuple #[.int .u64 (add64s x y c), .int .u64 (add64c x y c)])) w := by
 rw [run_callFunc_extern Try.func102 (by kernel_rfl) (by kernel_rfl) (by kernel_rfl) (e := add64Entry) (by kernel_rfl), run_add64 x y c hx hy hc0 hc]
 rfl
theorem add64c_nn (x y : Int) : 0 ≤ add64c (IntKind.u64.wrap x) (IntKind.u64.wrap y) 0 := by
 have := u64w_nn x
 have := u64w_nn y
 unfold add64c; omega
theorem add64c_le (x y : Int) : add64c (IntKind.u64.wrap x) (IntKind.u64.wrap y) 0 ≤ 1 := by
 have := u64w_lt x
 have := u64w_lt y
 unfold add64c; omega
def sub64s (x y b : Int) : Int := ((x.toNat + 18446744073709551616 - y.toNat - b.toNat) % 18446744073709551616 : Nat)
def sub64c (x y b : Int) : Int := ((if x.toNat < y.toNat + b.toNat then 1 else 0 : Nat) : Int)
theorem sub64_run (x y b : Int) (hx : 0 ≤ x) (hy : 0 ≤ y) (hb0 : 0 ≤ b) (hb : b ≤ 1) (w : World) :
  (callFunc 157 #[.int .u64 x, .int .u64 y, .int .u64 b]).run Try.prog w = .ok (.value (.tuple #[.int .u64 (sub64s x y b), .int .u64 (sub64c x y b)])) w := by
 obtain ⟨X, rfl⟩ := Int.eq_ofNat_of_zero_le hx
 obtain ⟨Y, rfl⟩ := Int.eq_ofNat_of_zero_le hy
 obtain ⟨B, rfl⟩ := Int.eq_ofNat_of_zero_le hb0
 rw [run_callFunc_extern Try.func157 (by kernel_rfl) (by kernel_rfl) (by kernel_rfl) (e := sub64Entry) (by kernel_rfl), run_sub64 X Y B (by omega)]
 rfl
theorem sub64c_nn (x y : Int) : 0 ≤ sub64c (IntKind.u64.wrap x) (IntKind.u64.wrap y) 0 := by unfold sub64c; omega
theorem sub64c_le (x y : Int) : sub64c (IntKind.u64.wrap x) (IntKind.u64.wrap y) 0 ≤ 1 := by unfold sub64c; split <;> omega
theorem info3 : (Try.prog.info? 3).map (fun i => (i.zero, i.size, i.bytes)) = some (some (.int .i64 0), 1, 8) := by kernel_rfl
theorem info29 : (Try.prog.info? 29).map (fun i => (i.zero, i.size, i.bytes)) = some (some (.agg #[(.bool false), (.int .i64 0), (.int .i64 0)]), 3, 24) := by kernel_rfl
-- the values' own types
/-! #### struct type 29 -/
structure S29 where
 f0 : Bool
 f1 : Int
 f2 : Int
def z29 : S29 := ⟨false, (0 : Int), (0 : Int)⟩
def k29 : Kd S29 := Kd.iso (Kd.pair Kd.bool (Kd.pair (Kd.int .i64) (Kd.int .i64))) (fun x : S29 => (x.f0, x.f1, x.f2))
theorem k29_open {w : World} {x : S29} {cs : List Value} (h : k29.K w x cs) : cs = [.bool x.f0, .int .i64 x.f1, .int .i64 x.f2] := by
 obtain ⟨_, _, rfl, rfl, ⟨_, _, rfl, rfl, rfl⟩⟩ := h
 exact rfl
theorem k29_openM {w : World} {base : Nat} {ok : Nat → Prop} {x : S29} {cs : List Value} (h : k29.M w base ok x cs) : cs = [.bool x.f0, .int .i64 x.f1, .int .i64 x.f2] := by
 obtain ⟨_, _, rfl, rfl, ⟨_, _, rfl, rfl, rfl⟩⟩ := h
 exact rfl
theorem k29_mk (w : World) (x : S29)  : k29.K w x [.bool x.f0, .int .i64 x.f1, .int .i64 x.f2] := ⟨[.bool x.f0], [.int .i64 x.f1, .int .i64 x.f2], rfl, rfl, ⟨[.int .i64 x.f1], [.int .i64 x.f2], rfl, rfl, rfl⟩⟩
theorem k29_mkM (w : World) (base : Nat) (ok : Nat → Prop) (x : S29)  : k29.M w base ok x [.bool x.f0, .int .i64 x.f1, .int .i64 x.f2] := ⟨[.bool x.f0], [.int .i64 x.f1, .int .i64 x.f2], rfl, rfl, ⟨[.int .i64 x.f1], [.int .i64 x.f2], rfl, rfl, rfl⟩⟩
def rd_T29 (xs : List S29) (i : Int) : S29 := xs.getD i.toNat z29
theorem at_T29 {w : World} {A : Option Addr} {n : Nat} {xs : List S29} (h : Kd.C k29 w A n xs) (i : Int) (h0 : 0 ≤ i) (h1 : i < n) : ∃ ad , A = some ad ∧ w.cell? (ad.add (i.toNat * 3)) = some (.bool (rd_T29 xs i).f0) ∧ w.cell? ⟨(ad.add (i.toNat * 3)).block, (ad.add (i.toNat * 3)).off + 1, none⟩ = some (.int .i64 (rd_T29 xs i).f1) ∧ w.cell? ⟨(ad.add (i.toNat * 3)).block, (ad.add (i.toNat * 3)).off + 2, none⟩ = some (.int .i64 (rd_T29 xs i).f2) := by
 obtain ⟨ad, c, e, _, hK, hc0⟩ := Kd.C_get h z29 i h0 h1
 have hc : ∀ j u, c[j]? = some u → w.cell? (ad.add (i.toNat * 3 + j)) = some u := hc0
 obtain rfl := k29_open hK
 exact ⟨ad, e, hc 0 _ rfl, by rw [← add_field _ _ 1 (by omega)]; exact hc 1 _ rfl, by rw [← add_field _ _ 2 (by omega)]; exact hc 2 _ rfl⟩

/-! shorter words of this text -/
theorem bk_ {w w1 : World} {g : Nat} {o : Obj} (h : w.heap[g]? = some o) (h2 : w.heap[g]? = some o → w1.heap[g]? = some o := by intro h; (with_reducible repeat (first | apply blk_drewN | apply blk_drew | apply blk_alloc)); exact h) : w1.heap[g]? = some o := h2 h
theorem hb_ {b : Nat} {w w1 w2 : World} (h : Below b w w1) (h2 : Below b w w1 → Below b w w2 := by intro h; repeat (first | (with_reducible first | exact h | apply below_alloc | apply pw_below_drewN | apply below_drew1) | exact h)) : Below b w w2 := h2 h
theorem hc_ {b : Nat} {w w1 w2 : World} {q : Prop} (h : Below b w w1) (g : q) (h2 : Below b w w1 → q → Below b w w2 := by intro h g; repeat (first | (with_reducible first | exact h | apply below_alloc | apply pw_below_drewN | apply below_drew1 | refine below_set ?_ g) | exact h)) : Below b w w2 := h2 h g
theorem hd_ {b : Nat} {w w1 w2 : World} {q r : Prop} (h : Below b w w1) (g : q) (k : r) (h2 : Below b w w1 → q → r → Below b w w2 := by intro h g k; repeat (first | (with_reducible first | exact h | apply below_alloc | apply pw_below_drewN | apply below_drew1 | refine below_set ?_ g | refine below_set ?_ k) | exact h)) : Below b w w2 := h2 h g k
theorem bg_ {a g b : Nat} (hg : g = b) (h : a ≤ b) : Aside0 (a ≤ g) := ⟨hg ▸ h⟩
theorem bn_ {a g b : Nat} (hg : g = b) (h : a < b) : Aside0 (a ≠ g) := ⟨hg ▸ Nat.ne_of_lt h⟩
theorem bm_ {a g b : Nat} (hg : g = b) (h : a < b) : Aside0 (g ≠ a) := ⟨hg ▸ Nat.ne_of_gt h⟩
theorem al_ {p : Prop} (h : p := by (try simp only [List.map_toArray, List.map_cons, List.map_nil]); first | done | rfl | (simp only [List.length_drop, List.length_take]; rfl)) : p := h
theorem pa_ {p : Prop} (h : p := by first | (with_reducible assumption) | assumption) : p := h
theorem pe_ {p : Prop} (h : p := by first | rfl | (simp [errW_none, errW_some] <;> rfl) | (simp [*, errW_none, errW_some] <;> rfl)) : p := h
theorem bc4_ {w : World} {g : Nat} {t : TypeId} {a b c d : Value} (h : w.heap[g]? = some (.cells #[a, b, c, d] t (0, 0))) : w.cell? ⟨g, 0, none⟩ = some a ∧ w.cell? ⟨g, 1, none⟩ = some b ∧ w.cell? ⟨g, 2, none⟩ = some c ∧ w.cell? ⟨g, 3, none⟩ = some d ∧ w.frozen? ⟨g, 0, none⟩ = false ∧ w.frozen? ⟨g, 1, none⟩ = false ∧ w.frozen? ⟨g, 2, none⟩ = false ∧ w.frozen? ⟨g, 3, none⟩ = false :=
 ⟨blk_cell h 0, blk_cell h 1, blk_cell h 2, blk_cell h 3, blk_frozen h 0, blk_frozen h 1, blk_frozen h 2, blk_frozen h 3⟩
theorem bc3_ {w : World} {g : Nat} {t : TypeId} {a b c : Value} (h : w.heap[g]? = some (.cells #[a, b, c] t (0, 0))) : w.cell? ⟨g, 0, none⟩ = some a ∧ w.cell? ⟨g, 1, none⟩ = some b ∧ w.cell? ⟨g, 2, none⟩ = some c ∧ w.frozen? ⟨g, 0, none⟩ = false ∧ w.frozen? ⟨g, 1, none⟩ = false ∧ w.frozen? ⟨g, 2, none⟩ = false :=
 ⟨blk_cell h 0, blk_cell h 1, blk_cell h 2, blk_frozen h 0, blk_frozen h 1, blk_frozen h 2⟩

end Go.Proofs.Ythakdhdoeejkmaa.QFnFirstAddr
