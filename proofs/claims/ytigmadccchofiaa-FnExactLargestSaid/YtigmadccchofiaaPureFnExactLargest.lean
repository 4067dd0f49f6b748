/-
The pure part of the statement FnExactLargest: what the printed functions answer is true at every input.
Conditions: none but the kinds' own bounds, as the printed statement has them.
-/
import Derived.Test.YtigmadccchofiaaQFnExactLargestx0
import Derived.Test.YtigmadccchofiaaQFnExactLargestx1
import Derived.Test.YtigmadccchofiaaQFnExactLargestx2
import Derived.Test.YtigmadccchofiaaQFnExactLargestx3
import Derived.Test.YtigmadccchofiaaQFnExactLargestx4
import Derived.Test.YtigmadccchofiaaQFnExactLargestx5
import Derived.Test.YtigmadccchofiaaQFnExactLargestx6
import Derived.Test.YtigmadccchofiaaQFnExactLargestx7
import Derived.Test.YtigmadccchofiaaQFnExactLargestx8
import Derived.Test.YtigmadccchofiaaQFnExactLargestx9
import Derived.Test.YtigmadccchofiaaQFnExactLargestx10
import Derived.Test.YtigmadccchofiaaQFnExactLargestx11
import Derived.Test.YtigmadccchofiaaQFnExactLargestx12
import Derived.Test.YtigmadccchofiaaQFnExactLargestx13
import Derived.Test.YtigmadccchofiaaQFnExactLargestx14
namespace Go.Proofs.Ytigmadccchofiaa.Pure
open Go.RowKit Go.Proofs.Ytigmadccchofiaa.QFnExactLargest Go.Proofs.YtigmadccchofiaaW.PrintWords Go.Proofs.YtigmadccchofiaaW.PrintLast Go.Proofs.YtigmadccchofiaaW.PrintMore
set_option linter.unusedVariables false
set_option linter.unusedSimpArgs false

theorem wf64 {x : Int} (h : (Lit.int .i64 x).wf = true) : -9223372036854775808 ≤ x ∧ x ≤ 9223372036854775807 := by
 simpa [Lit.wf, IntKind.min, IntKind.max, IntKind.signed, IntKind.bits] using h
theorem w64 {x : Int} (h0 : -9223372036854775808 ≤ x) (h1 : x ≤ 9223372036854775807) : wrap64 x = x := by unfold wrap64; omega
theorem u64w (n : Int) : IntKind.u64.wrap n = n % 18446744073709551616 := by simp [IntKind.wrap, IntKind.bits, IntKind.signed]
theorem u64in {x : Int} (h0 : 0 ≤ x) (h1 : x < 18446744073709551616) : IntKind.u64.wrap x = x := by rw [u64w]; omega
theorem Ev.mid {α : Type} {g : Nat → Option α} {a b : α} (h : a = b) (e : Ev g a) : Ev g b := h ▸ e
theorem Ev.ite_pos {α : Type} {c : Prop} [Decidable c] {g f : Nat → Option α} {r : α} (hc : c) (h : Ev g r) : Ev (fun k => if c then g k else f k) r := by
 simp only [if_pos hc]
 exact h
theorem Ev.ite_neg {α : Type} {c : Prop} [Decidable c] {g f : Nat → Option α} {r : α} (hc : ¬ c) (h : Ev f r) : Ev (fun k => if c then g k else f k) r := by
 simp only [if_neg hc]
 exact h
/-- A part that has no rounds. -/
theorem Ev.val {α β : Type} {o : Option α} {f : Nat → α → Option β} {a : α} {r : β} (h : o = some a) (k : Ev (fun n => f n a) r) : Ev (fun n => o.bind (f n)) r := by
 subst h
 exact k

theorem u64or (a b : Nat) (ha : a < 18446744073709551616) (hb : b < 18446744073709551616) : Go.bits .or .u64 (a : Int) (b : Int) = ((a ||| b : Nat) : Int) :=
 (Go.bits_nat .u64 64 (by decide) (fun n h0 h1 => by rw [u64w]; omega) a b ha hb).2
/-- Bits that stand apart: 'or' is the sum. -/
theorem u64or_low (x y : Int) (i : Nat) (hx0 : 0 ≤ x) (hx : x < 2 ^ i) (hy0 : 0 ≤ y) (hy : y % 2 ^ i = 0) (hy1 : y < 18446744073709551616) (hi : i ≤ 64) : Go.bits .or .u64 x y = x + y := by
 obtain ⟨a, rfl⟩ := Int.eq_ofNat_of_zero_le hx0
 obtain ⟨b, rfl⟩ := Int.eq_ofNat_of_zero_le hy0
 have ha : a < 2 ^ i := by exact_mod_cast hx
 have hb : b % 2 ^ i = 0 := by exact_mod_cast hy
 have h2 : (2 : Nat) ^ i ≤ 18446744073709551616 := by
  have := Nat.pow_le_pow_right (show 0 < 2 by decide) hi
  exact Nat.le_trans this (by decide)
 rw [u64or a b (by omega) (by omega), Nat.or_comm]
 have hq : b = 2 ^ i * (b / 2 ^ i) := by
  have := Nat.div_add_mod b (2 ^ i)
  omega
 rw [hq, ← Nat.two_pow_add_eq_or_of_lt ha (b / 2 ^ i)]
 omega
theorem u64or_high (x y : Int) (i : Nat) (hx0 : 0 ≤ x) (hx : x % 2 ^ i = 0) (hx1 : x < 18446744073709551616) (hy0 : 0 ≤ y) (hy : y < 2 ^ i) (hi : i ≤ 64) : Go.bits .or .u64 x y = x + y := by
 have e : Go.bits .or .u64 x y = Go.bits .or .u64 y x := by
  obtain ⟨a, rfl⟩ := Int.eq_ofNat_of_zero_le hx0
  obtain ⟨b, rfl⟩ := Int.eq_ofNat_of_zero_le hy0
  have hb : b < 2 ^ i := by exact_mod_cast hy
  have h2 : (2 : Nat) ^ i ≤ 18446744073709551616 := by
   have := Nat.pow_le_pow_right (show 0 < 2 by decide) hi
   exact Nat.le_trans this (by decide)
  rw [u64or a b (by omega) (by omega), u64or b a (by omega) (by omega), Nat.or_comm]
 rw [e, u64or_low y x i hy0 hy hx0 hx hx1 hi]
 omega

theorem l1In_e (a b c : Int) : spec_l1In.f a b c = some (decide (b ≤ a ∧ a ≤ c)) := by
 unfold spec_l1In.f
 by_cases h : a ≥ b
 ·simp [if_pos h, h]
 ·simp [if_neg h]; omega
theorem from_e (a b c : Int) : impl_from.f a b c = some (decide (b ≤ a ∧ a ≤ c)) := by
 unfold impl_from.f
 by_cases h : a ≥ b
 ·simp [if_pos h, h]
 ·simp [if_neg h]; omega
/-- An address is right. -/
def addrOk (x : Bool) (h l : Int) : Bool := x || (decide (h = 0) && decide (0 ≤ l ∧ l ≤ 4294967295))
theorem spec_AddrOk_e (x : Bool) (h l : Int) : spec_AddrOk.f x h l = some (addrOk x h l) := by
 unfold spec_AddrOk.f addrOk
 cases x
 ·by_cases hh : h = 0
  ·simp [hh, l1In_e]
  ·simp [hh]
 ·rfl
theorem impl_AddrOk_e (x : Bool) (h l : Int) : impl_AddrOk.f x h l = some (addrOk x h l) := by
 unfold impl_AddrOk.f addrOk
 cases x
 ·by_cases hh : h = 0
  ·simp [hh, from_e]
  ·simp [hh]
 ·rfl

theorem high_tab (n : Nat) (h : n ≤ 64) : 18446744073709551615 / 2 ^ n = 2 ^ (64 - n) - 1 ∧ (18446744073709551615 * 2 ^ n) % 18446744073709551616 = 18446744073709551616 - 2 ^ n := by
 have t : ∀ n : Fin 65, 18446744073709551615 / 2 ^ n.1 = 2 ^ (64 - n.1) - 1 ∧ (18446744073709551615 * 2 ^ n.1) % 18446744073709551616 = 18446744073709551616 - 2 ^ n.1 := by decide +kernel
 exact t ⟨n, by omega⟩
theorem four_tab (n : Nat) (h : n ≤ 32) : 4294967295 / 2 ^ n = 2 ^ (32 - n) - 1 ∧ (18446744073709551616 - 2 ^ (64 - n)) / 4294967296 = 4294967296 - 2 ^ (32 - n) := by
 have t : ∀ n : Fin 33, 4294967295 / 2 ^ n.1 = 2 ^ (32 - n.1) - 1 ∧ (18446744073709551616 - 2 ^ (64 - n.1)) / 4294967296 = 4294967296 - 2 ^ (32 - n.1) := by decide +kernel
 exact t ⟨n, by omega⟩
theorem pow_le64 (k : Nat) (h : k ≤ 64) : 1 ≤ 2 ^ k ∧ 2 ^ k ≤ 18446744073709551616 := ⟨Nat.one_le_two_pow, Nat.le_trans (Nat.pow_le_pow_right (by decide) h) (by decide)⟩
theorem pow_le32 (k : Nat) (h : k ≤ 32) : 1 ≤ 2 ^ k ∧ 2 ^ k ≤ 4294967296 := ⟨Nat.one_le_two_pow, Nat.le_trans (Nat.pow_le_pow_right (by decide) h) (by decide)⟩
/-- The bits from k on. -/
theorem nat_and_high (a k w : Nat) (hk : k ≤ w) (ha : a < 2 ^ w) : a &&& (2 ^ w - 2 ^ k) = a - a % 2 ^ k := by
 have e1 : 2 ^ w - 2 ^ k = 2 ^ k * (2 ^ (w - k) - 1) := by
  rw [Nat.mul_sub, ← Nat.pow_add, Nat.add_sub_cancel' hk, Nat.mul_one]
 have e2 : a - a % 2 ^ k = 2 ^ k * (a / 2 ^ k) := by
  have := Nat.div_add_mod a (2 ^ k)
  omega
 rw [e1, e2]
 apply Nat.eq_of_testBit_eq
 intro i
 rw [Nat.testBit_and, Nat.testBit_two_pow_mul, Nat.testBit_two_pow_mul, Nat.testBit_two_pow_sub_one, Nat.testBit_div_two_pow]
 by_cases hi : k ≤ i
 ·by_cases hw : i < w
  ·simp [hi, Nat.sub_add_cancel hi, show i - k < w - k by omega]
  ·have : a.testBit i = false := Nat.testBit_lt_two_pow (Nat.lt_of_lt_of_le ha (Nat.pow_le_pow_right (by decide) (by omega)))
   simp [hi, Nat.sub_add_cancel hi, this]
 ·simp [hi]
theorem u64and (a b : Nat) (ha : a < 18446744073709551616) (hb : b < 18446744073709551616) : Go.bits .and .u64 (a : Int) (b : Int) = ((a &&& b : Nat) : Int) :=
 (Go.bits_nat .u64 64 (by decide) (fun n h0 h1 => by rw [u64w]; omega) a b ha hb).1
theorem i64w (n : Int) : IntKind.i64.wrap n = wrap64 n := IntWalk.i64_left n
theorem i64and (a b : Nat) (ha : a < 9223372036854775808) (hb : b < 9223372036854775808) : Go.bits .and .i64 (a : Int) (b : Int) = ((a &&& b : Nat) : Int) :=
 (Go.bits_nat .i64 63 (by decide) (fun n h0 h1 => by rw [i64w]; exact w64 (by omega) (by omega)) a b ha hb).1
theorem u64andNot (a b : Nat) (ha : a < 18446744073709551616) (hb : b < 18446744073709551616) : Go.bits .andNot .u64 (a : Int) (b : Int) = ((a &&& (18446744073709551615 - b) : Nat) : Int) := by
 have ha' : a % 2 ^ 64 = a := Nat.mod_eq_of_lt ha
 have hb' : b % 2 ^ 64 = b := Nat.mod_eq_of_lt hb
 have e : IntKind.u64.bits = 64 := rfl
 simp only [Go.bits, e, BitVec.ofInt_natCast, BitVec.toNat_and, BitVec.toNat_not, BitVec.toNat_ofNat, ha', hb']
 have h : a &&& (2 ^ 64 - 1 - b) < 2 ^ 64 := Nat.lt_of_le_of_lt Nat.and_le_left ha
 rw [u64w]
 have e2 : (2 : Nat) ^ 64 - 1 - b = 18446744073709551615 - b := rfl
 rw [e2] at h ⊢
 omega
theorem and_high (u : Int) (k : Nat) (hk : k ≤ 64) (h0 : 0 ≤ u) (h1 : u < 18446744073709551616) (m : Int) (hm : m = ((18446744073709551616 - 2 ^ k : Nat) : Int)) : Go.bits .and .u64 u m = u - u % 2 ^ k := by
 obtain ⟨a, rfl⟩ := Int.eq_ofNat_of_zero_le h0
 have hp := pow_le64 k hk
 rw [hm, u64and a _ (by omega) (by omega)]
 have e := nat_and_high a k 64 hk (by omega)
 have e64 : (2 : Nat) ^ 64 = 18446744073709551616 := rfl
 rw [e64] at e
 rw [e]
 have hle : a % 2 ^ k ≤ a := Nat.mod_le _ _
 rw [Int.natCast_sub hle, Int.natCast_emod, Int.natCast_pow]
 rfl
theorem andNot_low (u : Int) (k : Nat) (hk : k ≤ 64) (h0 : 0 ≤ u) (h1 : u < 18446744073709551616) (m : Int) (hm : m = ((2 ^ k - 1 : Nat) : Int)) : Go.bits .andNot .u64 u m = u - u % 2 ^ k := by
 have hp := pow_le64 k hk
 obtain ⟨a, rfl⟩ := Int.eq_ofNat_of_zero_le h0
 have e : Go.bits .andNot .u64 (a : Int) m = Go.bits .and .u64 (a : Int) ((18446744073709551616 - 2 ^ k : Nat) : Int) := by
  rw [hm, u64andNot a _ (by omega) (by omega), u64and a _ (by omega) (by omega)]
  congr 2
  omega
 rw [e]
 exact and_high _ k hk h0 h1 _ rfl
theorem and_four (u : Int) (k : Nat) (hk : k ≤ 32) (h0 : 0 ≤ u) (h1 : u < 4294967296) (m : Int) (hm : m = ((4294967296 - 2 ^ k : Nat) : Int)) : Go.bits .and .i64 u m = u - u % 2 ^ k := by
 obtain ⟨a, rfl⟩ := Int.eq_ofNat_of_zero_le h0
 have hp := pow_le32 k hk
 rw [hm, i64and a _ (by omega) (by omega)]
 have e := nat_and_high a k 32 hk (by omega)
 have e32 : (2 : Nat) ^ 32 = 4294967296 := rfl
 rw [e32] at e
 rw [e]
 have hle : a % 2 ^ k ≤ a := Nat.mod_le _ _
 rw [Int.natCast_sub hle, Int.natCast_emod, Int.natCast_pow]
 rfl
/-- How many bits behind the first b are in the upper, the lower half; of 32. -/
def kHi (b : Int) : Nat := min 64 (64 - b).toNat
def kLo (b : Int) : Nat := min 64 (128 - b).toNat
def kFo (b : Int) : Nat := (32 - b).toNat
def keep (u : Int) (k : Nat) : Int := u - u % 2 ^ k
theorem pow_cast (k : Nat) : ((2 ^ k : Nat) : Int) = 2 ^ k := by simp
theorem keep_mul (u : Int) (k : Nat) : keep u k = 2 ^ k * (u / 2 ^ k) := by
 have := Int.emod_add_mul_ediv u (2 ^ k)
 unfold keep
 omega
theorem keep_bd (u : Int) (k : Nat) (h : 0 ≤ u) : 0 ≤ keep u k ∧ keep u k ≤ u ∧ u < keep u k + 2 ^ k := by
 have hk2 : (0 : Int) < 2 ^ k := Int.pow_pos (by decide)
 have h1 := Int.emod_nonneg u (show (2 : Int) ^ k ≠ 0 by omega)
 have h2 := Int.emod_lt_of_pos u hk2
 have h3 : 0 ≤ u / 2 ^ k := Int.ediv_nonneg h (by omega)
 have h4 : 0 ≤ 2 ^ k * (u / 2 ^ k) := Int.mul_nonneg (by omega) h3
 have h5 := keep_mul u k
 unfold keep at h5 ⊢
 omega
def maskA (x : Bool) (h l b : Int) : Bool × Int × Int :=
 if x = true then (true, wrap64 (keep (h % 18446744073709551616) (kHi b)), wrap64 (keep (l % 18446744073709551616) (kLo b))) else (false, 0, keep l (kFo b))
theorem spec_l2High_e (c : Int) (h0 : -64 ≤ c) (h1 : c ≤ 128) : spec_l2High.f c = some ((18446744073709551616 - 2 ^ (min 64 (64 - c).toNat) : Nat) : Int) := by
 unfold spec_l2High.f
 by_cases h : c ≤ 0
 ·rw [if_pos h, Nat.min_eq_left (by omega)]; rfl
 ·rw [if_neg h]
  by_cases h2 : c ≥ 64
  ·rw [if_pos h2, show (64 - c).toNat = 0 by omega]; rfl
  ·have e := (high_tab (64 - c).toNat (by omega)).2
   have hb : IntKind.u64.bits = 64 := rfl
   rw [if_neg h2, w64 (by omega) (by omega), u64in (by omega) (by omega), if_pos (by omega), shl, u64w, hb, Nat.min_eq_left (show (64 - c).toNat ≤ 64 by omega), Nat.min_eq_right (by omega), ← e]
   simp
theorem spec_l2Mask_e (x : Bool) (h l b : Int) (hb0 : 0 ≤ b) (hb1 : b ≤ if x = true then 128 else 32) (hf : x = false → 0 ≤ l ∧ l < 4294967296) : spec_l2Mask.f x h l b = some (maskA x h l b) := by
 unfold spec_l2Mask.f maskA
 cases x
 ·simp only [Bool.false_eq_true, if_false] at hb1 ⊢
  obtain ⟨hl0, hl1⟩ := hf rfl
  have e := (four_tab b.toNat (by omega)).2
  have hp := pow_le32 (32 - b.toNat) (by omega)
  rw [spec_l2High_e b (by omega) (by omega)]
  simp only [Option.bind_some]
  rw [show min 64 (64 - b).toNat = 64 - b.toNat by omega]
  have hw : wrap64 (((18446744073709551616 - 2 ^ (64 - b.toNat) : Nat) : Int) / 4294967296) = ((4294967296 - 2 ^ (32 - b.toNat) : Nat) : Int) := by
   rw [show (((18446744073709551616 - 2 ^ (64 - b.toNat) : Nat) : Int) / 4294967296) = (((18446744073709551616 - 2 ^ (64 - b.toNat)) / 4294967296 : Nat) : Int) from rfl, e]
   exact w64 (by omega) (by omega)
  rw [hw, and_four l (32 - b.toNat) (by omega) hl0 hl1 _ rfl]
  unfold keep kFo
  rw [show 32 - b.toNat = (32 - b).toNat by omega]
 ·simp only [if_true] at hb1 ⊢
  rw [spec_l2High_e b (by omega) (by omega), w64 (by omega) (by omega), spec_l2High_e (b - 64) (by omega) (by omega)]
  simp only [Option.bind_some]
  rw [u64w, u64w, and_high _ (min 64 (64 - b).toNat) (by omega) (by omega) (by omega) _ rfl, and_high _ (min 64 (64 - (b - 64)).toNat) (by omega) (by omega) (by omega) _ rfl]
  unfold keep kHi kLo
  rw [show (64 - (b - 64)).toNat = (128 - b).toNat by omega]
theorem spec_l2Width_e (x : Bool) (h l : Int) : spec_l2Width.f x h l = some (if x = true then 128 else 32) := by
 unfold spec_l2Width.f
 cases x <;> rfl
theorem impl_masked_e (x : Bool) (h l b : Int) (hb0 : 0 ≤ b) (hb1 : b ≤ if x = true then 128 else 32) (hf : x = false → 0 ≤ l ∧ l < 4294967296) : impl_masked.f x h l b false = some (maskA x h l b) := by
 unfold impl_masked.f maskA
 have hbits : IntKind.u64.bits = 64 := rfl
 cases x
 ·simp only [Bool.false_eq_true, if_false] at hb1 ⊢
  obtain ⟨hl0, hl1⟩ := hf rfl
  have e := (four_tab b.toNat (by omega)).1
  have hp := pow_le32 (32 - b.toNat) (by omega)
  have hs : shr .u64 4294967295 b = ((2 ^ (32 - b.toNat) - 1 : Nat) : Int) := by
   unfold shr
   rw [hbits, Nat.min_eq_left (show b.toNat ≤ 64 by omega), ← e]
   simp
  rw [if_pos hb0, hs, u64in hl0 (by omega), andNot_low l (32 - b.toNat) (by omega) hl0 (by omega) _ rfl]
  have hb := keep_bd l (32 - b.toNat) hl0
  unfold keep at hb
  rw [w64 (by omega) (by omega)]
  unfold keep kFo
  rw [show 32 - b.toNat = (32 - b).toNat by omega]
 ·simp only [if_true, Bool.false_eq_true, if_false] at hb1 ⊢
  by_cases h64 : b < 64
  ·have e := (high_tab b.toNat (by omega)).1
   have hs : shr .u64 18446744073709551615 b = ((2 ^ (64 - b.toNat) - 1 : Nat) : Int) := by
    unfold shr
    rw [hbits, Nat.min_eq_left (show b.toNat ≤ 64 by omega), ← e]
    simp
   rw [if_pos h64, if_pos hb0, hs, u64w, u64w, andNot_low _ (64 - b.toNat) (by omega) (by omega) (by omega) _ rfl, andNot_low _ 64 (by omega) (by omega) (by omega) 18446744073709551615 (by decide)]
   unfold keep kHi kLo
   rw [show min 64 (64 - b).toNat = 64 - b.toNat by omega, show min 64 (128 - b).toNat = 64 by omega]
  ·have e := (high_tab (b - 64).toNat (by omega)).1
   have hs : shr .u64 18446744073709551615 (b - 64) = ((2 ^ (64 - (b - 64).toNat) - 1 : Nat) : Int) := by
    unfold shr
    rw [hbits, Nat.min_eq_left (show (b - 64).toNat ≤ 64 by omega), ← e]
    simp
   rw [if_neg h64, w64 (x := b - 64) (by omega) (by omega), if_pos (by omega), hs, u64w, u64w, andNot_low _ 0 (by omega) (by omega) (by omega) 0 (by decide), andNot_low _ (64 - (b - 64).toNat) (by omega) (by omega) (by omega) _ rfl]
   unfold keep kHi kLo
   rw [show min 64 (64 - b).toNat = 0 by omega, show min 64 (128 - b).toNat = 64 - (b - 64).toNat by omega]
theorem impl_width_e (x : Bool) (h l : Int) : impl_width.f x h l = some (if x = true then 128 else 32) := by
 unfold impl_width.f
 cases x <;> rfl
/-- A prefix is right. -/
def prefOk (x : Bool) (h l b : Int) : Bool := addrOk x h l && decide (0 ≤ b ∧ b ≤ if x = true then 128 else 32) && (maskA x h l b == (x, h, l))
theorem addrOk_four {x : Bool} {h l : Int} (hk : addrOk x h l = true) : x = false → h = 0 ∧ 0 ≤ l ∧ l < 4294967296 := by
 intro hx
 subst hx
 simp [addrOk] at hk
 omega
theorem eq3 (p : Bool × Int × Int) (x : Bool) (h l : Int) : (p.1 == x && (p.2.1 == h && (p.2.2 == l))) = (p == (x, h, l)) := by
 obtain ⟨a, b, c⟩ := p
 rfl
theorem spec_PrefixOk_e (x : Bool) (h l b : Int) : spec_PrefixOk.f x h l b = some (prefOk x h l b) := by
 unfold spec_PrefixOk.f prefOk
 rw [spec_AddrOk_e]
 simp only [Option.bind_some]
 by_cases ha : addrOk x h l = true
 ·rw [if_pos ha, ha, spec_l2Width_e]
  simp only [Option.bind_some, l1In_e, decide_eq_true_eq]
  by_cases hb : 0 ≤ b ∧ b ≤ if x = true then 128 else 32
  ·rw [if_pos hb, decide_eq_true hb, spec_l2Mask_e x h l b hb.1 hb.2 (fun hx => (addrOk_four ha hx).2)]
   simp only [Option.bind_some, eq3, Bool.true_and]
  ·rw [if_neg hb, decide_eq_false hb]; simp
 ·rw [if_neg ha, Bool.eq_false_iff.mpr ha]; simp
theorem impl_PrefixOk_e (x : Bool) (h l b : Int) : impl_PrefixOk.f x h l b = some (prefOk x h l b) := by
 unfold impl_PrefixOk.f prefOk
 rw [impl_AddrOk_e]
 simp only [Option.bind_some]
 by_cases ha : addrOk x h l = true
 ·rw [if_pos ha, ha, impl_width_e]
  simp only [Option.bind_some, from_e, decide_eq_true_eq]
  by_cases hb : 0 ≤ b ∧ b ≤ if x = true then 128 else 32
  ·rw [if_pos hb, decide_eq_true hb, impl_masked_e x h l b hb.1 hb.2 (fun hx => (addrOk_four ha hx).2)]
   simp only [Option.bind_some, eq3, Bool.true_and]
  ·rw [if_neg hb, decide_eq_false hb]; simp
 ·rw [if_neg ha, Bool.eq_false_iff.mpr ha]; simp

def okP (q : S32) : Bool := prefOk q.f0.f0 q.f0.f1 q.f0.f2 q.f1
def listOkP (l : List S32) : Bool := decide (l.length ≤ 300) && l.all okP
theorem rd_P (l : List S32) (i : Nat) (hi : i < l.length) : rd_T32 l (i : Int) = l[i] := by simp [rd_T32, List.getD, List.getElem?_eq_getElem hi]
theorem spec_l2Right_l0 (l : List S32) (hn : l.length ≤ 4611686018427387904) (d : Nat) : ∀ (i : Nat), i + d = l.length → Ev (fun k => spec_l2Right.l0 k l (i : Int)) (decide (l.length ≤ 300) && (l.drop i).all okP) := by
 induction d with
 | zero =>
  intro i h
  refine Ev.step (f := fun _ => some _) (fun k => ?_) (Ev.now _)
  rw [spec_l2Right.l0, if_neg (by omega), List.drop_eq_nil_of_le (by omega)]
  simp only [List.all_nil, Bool.and_true, Option.some.injEq, decide_eq_decide]
  omega
 | succ d ih =>
  intro i h
  have hi : i < l.length := by omega
  by_cases hok : okP l[i] = true
  ·refine Ev.step (fun k => ?_) (Ev.mid ?_ (ih (i + 1) (by omega)))
   ·rw [spec_l2Right.l0, if_pos (by omega), if_pos (by omega), rd_P l i hi, spec_PrefixOk_e, Option.bind_some, if_pos (show prefOk _ _ _ _ = true from hok), w64 (by omega) (by omega)]; rfl
   ·rw [List.drop_eq_getElem_cons hi, List.all_cons, hok, Bool.true_and]
  ·refine Ev.step (f := fun _ => some _) (fun k => ?_) (Ev.now _)
   rw [spec_l2Right.l0, if_pos (by omega), if_pos (by omega), rd_P l i hi, spec_PrefixOk_e, Option.bind_some, if_neg (show ¬ prefOk _ _ _ _ = true from hok), List.drop_eq_getElem_cons hi, List.all_cons, Bool.eq_false_iff.mpr hok, Bool.false_and, Bool.and_false]
theorem spec_l2Right_ev (l : List S32) (hn : l.length ≤ 4611686018427387904) : Ev (fun k => spec_l2Right.f k l) (listOkP l) := spec_l2Right_l0 l hn l.length 0 (by omega)
theorem impl_listOk_e (l : List S32) : impl_listOk.f l = some (listOkP l) := by
 unfold impl_listOk.f listOkP
 have hb : impl_listOk.bad = fun q => !okP q := by
  funext q
  simp [impl_listOk.bad, impl_PrefixOk_e, okP]
 rw [if_pos (by rw [List.all_eq_true]; intro q _; rw [impl_PrefixOk_e]; rfl), hb]
 congr 2
 ·simp only [decide_eq_decide]; omega
 ·rw [← List.not_all_eq_any_not, Bool.not_not]

/-- A prefix has an address. -/
def hasA (x : Bool) (h l b : Int) (y : Bool) (g m : Int) : Bool := prefOk x h l b && (addrOk y g m && ((y == x) && (maskA y g m b == (x, h, l))))
theorem prefOk_bits {x : Bool} {h l b : Int} (hp : prefOk x h l b = true) : addrOk x h l = true ∧ 0 ≤ b ∧ (b ≤ if x = true then 128 else 32) ∧ maskA x h l b = (x, h, l) := by
 simp only [prefOk, Bool.and_eq_true, decide_eq_true_eq, beq_iff_eq] at hp
 exact ⟨hp.1.1, hp.1.2.1, hp.1.2.2, hp.2⟩
theorem spec_HasAddr_e (x : Bool) (h l b : Int) (y : Bool) (g m : Int) : spec_HasAddr.f x h l b y g m = some (hasA x h l b y g m) := by
 unfold spec_HasAddr.f hasA
 rw [spec_PrefixOk_e]
 simp only [Option.bind_some]
 by_cases hp : prefOk x h l b = true
 ·obtain ⟨_, hb0, hb1, _⟩ := prefOk_bits hp
  rw [if_pos hp, hp, spec_AddrOk_e]
  simp only [Option.bind_some]
  by_cases ha : addrOk y g m = true
  ·rw [if_pos ha, ha]
   by_cases hy : (y == x) = true
   ·have hyx : y = x := by simpa using hy
    rw [if_pos hy, hy, spec_l2Mask_e y g m b hb0 (by rw [hyx]; exact hb1) (fun hx => (addrOk_four ha hx).2)]
    simp only [Option.bind_some, eq3, Bool.true_and]
   ·rw [if_neg hy, Bool.eq_false_iff.mpr hy]; simp
  ·rw [if_neg ha, Bool.eq_false_iff.mpr ha]; simp
 ·rw [if_neg hp, Bool.eq_false_iff.mpr hp]; simp
theorem impl_HasAddr_e (x : Bool) (h l b : Int) (y : Bool) (g m : Int) : impl_HasAddr.f x h l b y g m = some (hasA x h l b y g m) := by
 unfold impl_HasAddr.f hasA
 rw [impl_PrefixOk_e]
 simp only [Option.bind_some]
 by_cases hp : prefOk x h l b = true
 ·obtain ⟨_, hb0, hb1, _⟩ := prefOk_bits hp
  rw [if_pos hp, hp, impl_AddrOk_e]
  simp only [Option.bind_some]
  by_cases ha : addrOk y g m = true
  ·rw [if_pos ha, ha]
   by_cases hy : (y == x) = true
   ·have hyx : y = x := by simpa using hy
    rw [if_pos hy, hy, impl_masked_e y g m b hb0 (by rw [hyx]; exact hb1) (fun hx => (addrOk_four ha hx).2)]
    simp only [Option.bind_some, eq3, Bool.true_and]
   ·rw [if_neg hy, Bool.eq_false_iff.mpr hy]; simp
  ·rw [if_neg ha, Bool.eq_false_iff.mpr ha]; simp
 ·rw [if_neg hp, Bool.eq_false_iff.mpr hp]; simp

/-- All of p's addresses are q's. -/
def within (x : Bool) (h l b : Int) (y : Bool) (g m c : Int) : Bool := prefOk x h l b && (hasA y g m c x h l && decide (c ≤ b))
theorem spec_Within_e (x : Bool) (h l b : Int) (y : Bool) (g m c : Int) : spec_Within.f x h l b y g m c = some (within x h l b y g m c) := by
 unfold spec_Within.f within
 rw [spec_PrefixOk_e]
 simp only [Option.bind_some]
 by_cases hp : prefOk x h l b = true
 ·rw [if_pos hp, hp, spec_PrefixOk_e]
  simp only [Option.bind_some]
  by_cases hq : prefOk y g m c = true
  ·rw [if_pos hq]
   by_cases hb : b ≥ c
   ·rw [if_pos hb, spec_HasAddr_e, decide_eq_true (show c ≤ b from hb)]
    simp
   ·rw [if_neg hb, decide_eq_false (show ¬ c ≤ b from hb)]
    simp
  ·rw [if_neg hq]
   simp [hasA, Bool.eq_false_iff.mpr hq]
 ·rw [if_neg hp, Bool.eq_false_iff.mpr hp]; simp
theorem impl_Within_e (x : Bool) (h l b : Int) (y : Bool) (g m c : Int) : impl_Within.f x h l b y g m c = some (within x h l b y g m c) := by
 unfold impl_Within.f within
 rw [impl_PrefixOk_e]
 simp only [Option.bind_some]
 by_cases hp : prefOk x h l b = true
 ·rw [if_pos hp, hp, impl_HasAddr_e]
  simp only [Option.bind_some]
  by_cases hq : hasA y g m c x h l = true
  ·rw [if_pos hq, hq]
   simp
  ·rw [if_neg hq, Bool.eq_false_iff.mpr hq]; simp
 ·rw [if_neg hp, Bool.eq_false_iff.mpr hp]; simp

def in64 (z : Int) : Prop := -9223372036854775808 ≤ z ∧ z ≤ 9223372036854775807
theorem wf_in {z : Int} (h : (Lit.int .i64 z).wf = true) : in64 z := wf64 h
theorem in64_zero : in64 0 := by unfold in64; omega
theorem wrap_in {z : Int} (h : in64 z) : wrap64 (z % 18446744073709551616) = z := by unfold in64 at h; unfold wrap64; omega
theorem wrap_is (z : Int) : in64 (wrap64 z) := by unfold wrap64 in64; omega
/-- Addresses as numbers. -/
def wd (x : Bool) : Nat := if x = true then 128 else 32
def aval (x : Bool) (h l : Int) : Nat := if x = true then (h % 18446744073709551616).toNat * 18446744073709551616 + (l % 18446744073709551616).toNat else l.toNat
def mkA (x : Bool) (v : Nat) : Bool × Int × Int := if x = true then (true, wrap64 ((v / 18446744073709551616 : Nat) : Int), wrap64 ((v % 18446744073709551616 : Nat) : Int)) else (false, 0, (v : Int))
theorem two64 : (2 : Nat) ^ 64 = 18446744073709551616 := by decide
theorem two128 : (2 : Nat) ^ 128 = 340282366920938463463374607431768211456 := by decide
theorem two32 : (2 : Nat) ^ 32 = 4294967296 := by decide
theorem wd_six : wd true = 128 := rfl
theorem wd_four : wd false = 32 := rfl
theorem wrap_mod64 (n : Nat) (h : n < 18446744073709551616) : (wrap64 (n : Int) % 18446744073709551616).toNat = n := by unfold wrap64; omega
theorem aval_mkA (x : Bool) (v : Nat) (h : v < 2 ^ wd x) : aval (mkA x v).1 (mkA x v).2.1 (mkA x v).2.2 = v := by
 cases x
 ·simp [mkA, aval]
 ·rw [wd_six, two128] at h
  simp only [mkA, aval, if_true]
  rw [wrap_mod64 _ (by omega), wrap_mod64 _ (by omega)]
  omega
theorem mkA_fst (x : Bool) (v : Nat) : (mkA x v).1 = x := by cases x <;> rfl
theorem mkA_ok (x : Bool) (v : Nat) (h : v < 2 ^ wd x) : addrOk (mkA x v).1 (mkA x v).2.1 (mkA x v).2.2 = true := by
 cases x
 ·rw [wd_four, two32] at h
  simp [mkA, addrOk]; omega
 ·rfl
theorem aval_lt (x : Bool) (h l : Int) (ha : addrOk x h l = true) : aval x h l < 2 ^ wd x := by
 cases x
 ·rw [wd_four, two32]
  simp [addrOk] at ha
  simp [aval]; omega
 ·rw [wd_six, two128]
  simp only [aval, if_true]
  omega
theorem mkA_aval (x : Bool) (h l : Int) (ha : addrOk x h l = true) (hh : in64 h) (hl : in64 l) : mkA x (aval x h l) = (x, h, l) := by
 cases x
 ·simp [addrOk] at ha
  simp [mkA, aval, ha.1]; omega
 ·simp only [mkA, aval, if_true]
  have e1 : (h % 18446744073709551616).toNat * 18446744073709551616 + (l % 18446744073709551616).toNat = (h % 18446744073709551616).toNat * 18446744073709551616 + (l % 18446744073709551616).toNat := rfl
  have d : ((h % 18446744073709551616).toNat * 18446744073709551616 + (l % 18446744073709551616).toNat) / 18446744073709551616 = (h % 18446744073709551616).toNat := by omega
  have m : ((h % 18446744073709551616).toNat * 18446744073709551616 + (l % 18446744073709551616).toNat) % 18446744073709551616 = (l % 18446744073709551616).toNat := by omega
  rw [d, m, Int.toNat_of_nonneg (by omega), Int.toNat_of_nonneg (by omega), wrap_in hh, wrap_in hl]
theorem mkA_inj (x : Bool) {v u : Nat} (hv : v < 2 ^ wd x) (hu : u < 2 ^ wd x) (e : mkA x v = mkA x u) : v = u := by
 rw [← aval_mkA x v hv, ← aval_mkA x u hu, e]
/-- Numbers of two halves, below a power. -/
theorem mod_hi (H L k : Nat) (hL : L < 18446744073709551616) : (H * 18446744073709551616 + L) % 2 ^ (64 + k) = (H % 2 ^ k) * 18446744073709551616 + L := by
 rw [Nat.pow_add, two64, Nat.mod_mul]
 have d : (H * 18446744073709551616 + L) / 18446744073709551616 = H := by omega
 have m : (H * 18446744073709551616 + L) % 18446744073709551616 = L := by omega
 rw [d, m]
 omega
theorem mod_lo (H L k : Nat) (hk : k ≤ 64) : (H * 18446744073709551616 + L) % 2 ^ k = L % 2 ^ k := by
 have e : 18446744073709551616 = 2 ^ k * 2 ^ (64 - k) := by rw [← Nat.pow_add, show k + (64 - k) = 64 by omega, two64]
 rw [e, Nat.mul_comm H, Nat.mul_assoc, Nat.mul_add_mod]
theorem keep_nat (a k : Nat) : keep (a : Int) k = ((a - a % 2 ^ k : Nat) : Int) := by
 unfold keep
 have : a % 2 ^ k ≤ a := Nat.mod_le _ _
 rw [Int.natCast_sub this, Int.natCast_emod, Int.natCast_pow]
 rfl
/-- The first b bits. -/
def clr (x : Bool) (v : Nat) (b : Int) : Nat := v - v % 2 ^ (wd x - b.toNat)
theorem clr_le (x : Bool) (v : Nat) (b : Int) : clr x v b ≤ v := Nat.sub_le _ _
theorem maskA_val (x : Bool) (h l b : Int) (ha : addrOk x h l = true) (hb0 : 0 ≤ b) (hb1 : b ≤ if x = true then 128 else 32) : maskA x h l b = mkA x (clr x (aval x h l) b) := by
 cases x
 ·simp only [Bool.false_eq_true, if_false] at hb1
  simp only [maskA, mkA, clr, aval, Bool.false_eq_true, if_false, wd_four]
  simp [addrOk] at ha
  obtain ⟨L, hL⟩ := Int.eq_ofNat_of_zero_le ha.2.1
  subst hL
  rw [show kFo b = 32 - b.toNat by unfold kFo; omega]
  rw [keep_nat]
  simp
 ·simp only [if_true] at hb1
  simp only [maskA, mkA, clr, aval, if_true, wd_six]
  obtain ⟨H, hH⟩ := Int.eq_ofNat_of_zero_le (show 0 ≤ h % 18446744073709551616 by omega)
  obtain ⟨L, hL⟩ := Int.eq_ofNat_of_zero_le (show 0 ≤ l % 18446744073709551616 by omega)
  have hHb : H < 18446744073709551616 := by omega
  have hLb : L < 18446744073709551616 := by omega
  rw [hH, hL]
  rw [keep_nat, keep_nat]
  simp only [Int.toNat_natCast]
  by_cases hb : b ≤ 64
  ·rw [show kHi b = 64 - b.toNat by unfold kHi; omega, show kLo b = 64 by unfold kLo; omega, show 128 - b.toNat = 64 + (64 - b.toNat) by omega, mod_hi H L _ hLb]
   have hm := Nat.mod_le H (2 ^ (64 - b.toNat))
   rw [show L % 2 ^ 64 = L by rw [two64]; omega]
   have e1 : (H * 18446744073709551616 + L - (H % 2 ^ (64 - b.toNat) * 18446744073709551616 + L)) / 18446744073709551616 = H - H % 2 ^ (64 - b.toNat) := by omega
   have e2 : (H * 18446744073709551616 + L - (H % 2 ^ (64 - b.toNat) * 18446744073709551616 + L)) % 18446744073709551616 = L - L := by omega
   rw [e1, e2]
  ·rw [show kHi b = 0 by unfold kHi; omega, show kLo b = 128 - b.toNat by unfold kLo; omega, mod_lo H L _ (by omega)]
   have hm := Nat.mod_le L (2 ^ (128 - b.toNat))
   have e1 : (H * 18446744073709551616 + L - L % 2 ^ (128 - b.toNat)) / 18446744073709551616 = H - H % 2 ^ 0 := by
    rw [Nat.pow_zero, Nat.mod_one]
    omega
   have e2 : (H * 18446744073709551616 + L - L % 2 ^ (128 - b.toNat)) % 18446744073709551616 = L - L % 2 ^ (128 - b.toNat) := by omega
   rw [e1, e2]
/-- A prefix's form: its address is a multiple of its size. -/
theorem prefOk_val (x : Bool) (h l b : Int) (hh : in64 h) (hl : in64 l) : prefOk x h l b = true ↔ addrOk x h l = true ∧ 0 ≤ b ∧ b ≤ wd x ∧ aval x h l % 2 ^ (wd x - b.toNat) = 0 := by
 have hw : ((if x = true then 128 else 32 : Int)) = (wd x : Int) := by cases x <;> rfl
 constructor
 ·intro hp
  simp only [prefOk, Bool.and_eq_true, decide_eq_true_eq, beq_iff_eq] at hp
  obtain ⟨⟨ha, hb0, hb1⟩, hm⟩ := hp
  refine ⟨ha, hb0, by omega, ?_⟩
  rw [maskA_val x h l b ha hb0 hb1, ← mkA_aval x h l ha hh hl] at hm
  have hlt := aval_lt x h l ha
  have this := mkA_inj x (Nat.lt_of_le_of_lt (clr_le x (aval x h l) b) hlt) hlt hm
  unfold clr at this
  have := Nat.mod_le (aval x h l) (2 ^ (wd x - b.toNat))
  omega
 ·rintro ⟨ha, hb0, hb1, hz⟩
  simp only [prefOk, Bool.and_eq_true, decide_eq_true_eq, beq_iff_eq]
  refine ⟨⟨ha, hb0, by omega⟩, ?_⟩
  rw [maskA_val x h l b ha hb0 (by omega), clr, hz, Nat.sub_zero, mkA_aval x h l ha hh hl]

theorem mkA_in (x : Bool) (v : Nat) (h : v < 2 ^ wd x) : in64 (mkA x v).2.1 ∧ in64 (mkA x v).2.2 := by
 cases x
 ·rw [wd_four, two32] at h
  simp only [mkA, Bool.false_eq_true, if_false]
  exact ⟨in64_zero, by unfold in64; omega⟩
 ·simp only [mkA, if_true]
  exact ⟨wrap_is _, wrap_is _⟩

/-- The last address of a prefix, as a number. -/
def lastV (x : Bool) (v : Nat) (b : Int) : Nat := v + (2 ^ (wd x - b.toNat) - 1)
theorem not64 (t : Nat) (h : t < 18446744073709551616) : Go.bits BinOp.xor IntKind.u64 (if IntKind.u64.signed = true then -1 else IntKind.u64.max) (t : Int) = ((18446744073709551615 - t : Nat) : Int) := by
 have e1 : (if IntKind.u64.signed = true then (-1 : Int) else IntKind.u64.max) = 18446744073709551615 := by decide
 have e : IntKind.u64.bits = 64 := rfl
 have e2 : BitVec.ofInt 64 18446744073709551615 = BitVec.allOnes 64 := by decide
 have ht : t % 2 ^ 64 = t := Nat.mod_eq_of_lt h
 rw [e1]
 show IntKind.u64.wrap (((BitVec.ofInt 64 18446744073709551615 ^^^ BitVec.ofInt 64 (t : Int)).toNat : Nat) : Int) = _
 rw [e2, BitVec.allOnes_xor, BitVec.ofInt_natCast, BitVec.toNat_not, BitVec.toNat_ofNat, ht, u64w, two64]
 omega
theorem or_fill (u : Int) (k : Nat) (hk : k ≤ 64) (h0 : 0 ≤ u) (h1 : u < 18446744073709551616) (hz : u % 2 ^ k = 0) (m : Int) (hm : m = ((2 ^ k - 1 : Nat) : Int)) : Go.bits .or .u64 u m = u + m := by
 have hp := pow_le64 k hk
 exact u64or_high _ m k h0 hz h1 (by omega) (by rw [hm, ← pow_cast]; omega) hk
theorem i64or_fill (u : Int) (k : Nat) (hk : k ≤ 32) (h0 : 0 ≤ u) (h1 : u < 4294967296) (hz : u % 2 ^ k = 0) (m : Int) (hm : m = ((2 ^ k - 1 : Nat) : Int)) : Go.bits .or .i64 u m = u + m := by
 have hp := pow_le32 k hk
 refine Go.bits_join .i64 63 (by decide) (fun n h0 h1 => by rw [i64w]; exact w64 (by omega) (by omega)) k u m h0 hz (by omega) (by omega) (by rw [hm, ← pow_cast]; omega) (by omega)
theorem high_compl (k : Nat) (hk : k ≤ 64) : 18446744073709551615 - (18446744073709551616 - 2 ^ k) = 2 ^ k - 1 := by
 have := pow_le64 k hk
 omega
theorem fill_div (b : Nat) (hb : b ≤ 32) : (2 ^ (64 - b) - 1) / 4294967296 = 2 ^ (32 - b) - 1 := by
 have t : ∀ n : Fin 33, (2 ^ (64 - n.1) - 1) / 4294967296 = 2 ^ (32 - n.1) - 1 := by decide +kernel
 exact t ⟨b, by omega⟩
/-- What a prefix's form says of its halves. -/
theorem pref_parts (h l b : Int) (hb0 : 0 ≤ b) (hb1 : b ≤ 128) (hz : aval true h l % 2 ^ (128 - b.toNat) = 0) :
  (h % 18446744073709551616) % 2 ^ (min 64 (64 - b).toNat) = 0 ∧ (l % 18446744073709551616) % 2 ^ (min 64 (128 - b).toNat) = 0 := by
 simp only [aval, if_true] at hz
 obtain ⟨H, hH⟩ := Int.eq_ofNat_of_zero_le (show 0 ≤ h % 18446744073709551616 by omega)
 obtain ⟨L, hL⟩ := Int.eq_ofNat_of_zero_le (show 0 ≤ l % 18446744073709551616 by omega)
 have hHb : H < 18446744073709551616 := by omega
 have hLb : L < 18446744073709551616 := by omega
 rw [hH, hL] at hz ⊢
 simp only [Int.toNat_natCast] at hz
 by_cases hb : b ≤ 64
 ·rw [show 128 - b.toNat = 64 + (64 - b.toNat) by omega, mod_hi H L _ hLb] at hz
  have h1 : H % 2 ^ (64 - b.toNat) = 0 := by omega
  have h2 : L = 0 := by omega
  subst h2
  rw [show min 64 (64 - b).toNat = 64 - b.toNat by omega]
  exact ⟨by rw [← pow_cast, ← Int.natCast_emod, h1]; rfl, by simp⟩
 ·rw [mod_lo H L _ (by omega)] at hz
  rw [show min 64 (64 - b).toNat = 0 by omega, show min 64 (128 - b).toNat = 128 - b.toNat by omega]
  exact ⟨by simp, by rw [← pow_cast, ← Int.natCast_emod, hz]; rfl⟩
theorem split_two (a r : Nat) (h : r < 18446744073709551616) : (a * 18446744073709551616 + r) / 18446744073709551616 = a ∧ (a * 18446744073709551616 + r) % 18446744073709551616 = r := by omega
theorem fill_val (h l b : Int) (hb0 : 0 ≤ b) (hb1 : b ≤ 128) (hz : aval true h l % 2 ^ (128 - b.toNat) = 0) :
  mkA true (lastV true (aval true h l) b) = (true, wrap64 (h % 18446744073709551616 + ((2 ^ (min 64 (64 - b).toNat) - 1 : Nat) : Int)), wrap64 (l % 18446744073709551616 + ((2 ^ (min 64 (128 - b).toNat) - 1 : Nat) : Int))) := by
 have hpp := pref_parts h l b hb0 hb1 hz
 simp only [mkA, lastV, aval, if_true, wd_six] at hz ⊢
 obtain ⟨H, hH⟩ := Int.eq_ofNat_of_zero_le (show 0 ≤ h % 18446744073709551616 by omega)
 obtain ⟨L, hL⟩ := Int.eq_ofNat_of_zero_le (show 0 ≤ l % 18446744073709551616 by omega)
 have hHb : H < 18446744073709551616 := by omega
 have hLb : L < 18446744073709551616 := by omega
 rw [hH, hL] at hpp ⊢
 simp only [Int.toNat_natCast]
 by_cases hb : b ≤ 64
 ·rw [show min 64 (128 - b).toNat = 64 by omega] at hpp ⊢
  rw [two64]
  have hL0 : L = 0 := by
   have h2 := hpp.2
   rw [show ((2 : Int) ^ 64) = 18446744073709551616 by decide] at h2
   omega
  subst hL0
  rw [show min 64 (64 - b).toNat = 64 - b.toNat by omega, show 128 - b.toNat = (64 - b.toNat) + 64 by omega, Nat.pow_add, two64]
  have hp := pow_le64 (64 - b.toNat) (by omega)
  generalize 2 ^ (64 - b.toNat) = K at hp ⊢
  have e0 : H * 18446744073709551616 + 0 + (K * 18446744073709551616 - 1) = (H + (K - 1)) * 18446744073709551616 + (0 + (18446744073709551616 - 1)) := by omega
  obtain ⟨e1, e2⟩ := split_two (H + (K - 1)) (0 + (18446744073709551616 - 1)) (by decide)
  rw [e0]
  rw [e1, e2]
  rfl
 ·rw [show min 64 (64 - b).toNat = 0 by omega, show min 64 (128 - b).toNat = 128 - b.toNat by omega] at hpp ⊢
  have hp := pow_le64 (128 - b.toNat) (by omega)
  have hm : L % 2 ^ (128 - b.toNat) = 0 := by
   have h2 := hpp.2
   rw [← pow_cast, ← Int.natCast_emod] at h2
   exact_mod_cast h2
  have hlt : L + (2 ^ (128 - b.toNat) - 1) < 18446744073709551616 := by
   have e : 18446744073709551616 = 2 ^ (128 - b.toNat) * 2 ^ (64 - (128 - b.toNat)) := by rw [← Nat.pow_add, show (128 - b.toNat) + (64 - (128 - b.toNat)) = 64 by omega, two64]
   have hq : L = 2 ^ (128 - b.toNat) * (L / 2 ^ (128 - b.toNat)) := by
    have := Nat.div_add_mod L (2 ^ (128 - b.toNat))
    omega
   have hlt2 : L / 2 ^ (128 - b.toNat) < 2 ^ (64 - (128 - b.toNat)) := by
    rw [Nat.div_lt_iff_lt_mul (by omega), Nat.mul_comm, ← e]
    exact hLb
   have hm2 : 2 ^ (128 - b.toNat) * (L / 2 ^ (128 - b.toNat) + 1) ≤ 2 ^ (128 - b.toNat) * 2 ^ (64 - (128 - b.toNat)) := Nat.mul_le_mul_left _ hlt2
   rw [← e, Nat.mul_add, ← hq] at hm2
   omega
  obtain ⟨e1, e2⟩ := split_two H (L + (2 ^ (128 - b.toNat) - 1)) hlt
  rw [Nat.add_assoc]
  rw [e1, e2]
  rfl
theorem spec_l2Last_e (x : Bool) (h l b : Int) (hh : in64 h) (hl : in64 l) (hp : prefOk x h l b = true) : spec_l2Last.f x h l b = some (mkA x (lastV x (aval x h l) b)) := by
 obtain ⟨ha, hb0, hb1, hz⟩ := (prefOk_val x h l b hh hl).1 hp
 unfold spec_l2Last.f
 cases x
 ·rw [wd_four] at hb1 hz
  simp [addrOk] at ha
  obtain ⟨L, rfl⟩ := Int.eq_ofNat_of_zero_le ha.2.1
  simp only [Bool.false_eq_true, if_false]
  have hp64 := pow_le64 (64 - b.toNat) (by omega)
  have hp32 := pow_le32 (32 - b.toNat) (by omega)
  rw [spec_l2High_e b (by omega) (by omega)]
  simp only [Option.bind_some]
  rw [show min 64 (64 - b).toNat = 64 - b.toNat by omega, not64 _ (by omega), high_compl _ (by omega)]
  rw [show (((2 ^ (64 - b.toNat) - 1 : Nat) : Int) / 4294967296) = (((2 ^ (64 - b.toNat) - 1) / 4294967296 : Nat) : Int) from rfl, fill_div b.toNat (by omega), w64 (by omega) (by omega)]
  have hz2 : L % 2 ^ (32 - b.toNat) = 0 := by simpa [aval] using hz
  rw [i64or_fill (L : Int) (32 - b.toNat) (by omega) (by omega) (by omega) (by rw [← pow_cast, ← Int.natCast_emod, hz2]; rfl) _ rfl]
  simp [mkA, lastV, aval, wd_four]
 ·rw [wd_six] at hb1 hz
  simp only [if_true]
  have hpp := pref_parts h l b hb0 hb1 hz
  rw [spec_l2High_e b (by omega) (by omega), w64 (by omega) (by omega), spec_l2High_e (b - 64) (by omega) (by omega)]
  simp only [Option.bind_some]
  rw [show (64 - (b - 64)).toNat = (128 - b).toNat by omega]
  have p1 := pow_le64 (min 64 (64 - b).toNat) (by omega)
  have p2 := pow_le64 (min 64 (128 - b).toNat) (by omega)
  rw [not64 _ (by omega), not64 _ (by omega), high_compl _ (by omega), high_compl _ (by omega), u64w, u64w]
  rw [or_fill _ _ (by omega) (by omega) (by omega) hpp.1 _ rfl, or_fill _ _ (by omega) (by omega) (by omega) hpp.2 _ rfl, fill_val h l b hb0 hb1 hz]
/-- Bit n (from 1 on, of x's width) of v the other way, where the bits behind it are 0. -/
def flipV (x : Bool) (v : Nat) (n : Int) : Nat := if (v / 2 ^ (wd x - n.toNat)) % 2 = 0 then v + 2 ^ (wd x - n.toNat) else v - 2 ^ (wd x - n.toNat)
theorem xor_one (q : Nat) : q ^^^ 1 = if q % 2 = 0 then q + 1 else q - 1 := by
 apply Nat.eq_of_testBit_eq
 intro i
 cases i with
 | zero =>
  rw [Nat.testBit_xor, Nat.testBit_zero, Nat.testBit_zero, Nat.testBit_zero]
  split
  ·have e1 : decide (q % 2 = 1) = false := decide_eq_false (by omega)
   have e2 : decide ((q + 1) % 2 = 1) = true := decide_eq_true (by omega)
   rw [e1, e2]; rfl
  ·have e1 : decide (q % 2 = 1) = true := decide_eq_true (by omega)
   have e2 : decide ((q - 1) % 2 = 1) = false := decide_eq_false (by omega)
   rw [e1, e2]; rfl
 | succ i =>
  rw [Nat.testBit_xor, Nat.testBit_succ, Nat.testBit_succ, Nat.testBit_succ]
  rw [show (1 : Nat) / 2 = 0 by decide, Nat.zero_testBit, Bool.xor_false]
  congr 1
  split <;> omega
theorem xor_pow (a k : Nat) (hz : a % 2 ^ k = 0) : a ^^^ 2 ^ k = if (a / 2 ^ k) % 2 = 0 then a + 2 ^ k else a - 2 ^ k := by
 have hp : 0 < 2 ^ k := Nat.two_pow_pos k
 have hq : a = 2 ^ k * (a / 2 ^ k) := by
  have := Nat.div_add_mod a (2 ^ k)
  omega
 have h1 : a ^^^ 2 ^ k = 2 ^ k * ((a / 2 ^ k) ^^^ 1) := by
  apply Nat.eq_of_testBit_eq
  intro i
  conv => lhs; rw [hq]
  rw [Nat.testBit_xor, Nat.testBit_two_pow_mul, Nat.testBit_two_pow_mul, Nat.testBit_xor]
  by_cases hi : k ≤ i
  ·have : (2 ^ k).testBit i = Nat.testBit 1 (i - k) := by
    conv => lhs; rw [← Nat.mul_one (2 ^ k)]
    rw [Nat.testBit_two_pow_mul]
    simp [hi]
   simp [hi, this]
  ·have : (2 ^ k).testBit i = false := Nat.testBit_two_pow_of_ne (by omega)
   simp [hi, this]
 rw [h1, xor_one]
 split
 ·rw [Nat.mul_add, ← hq, Nat.mul_one]
 ·rw [Nat.mul_sub, ← hq, Nat.mul_one]
theorem xor64 (a b : Int) : Go.bits .xor .i64 a b = wrap64 (((a % 18446744073709551616).toNat ^^^ (b % 18446744073709551616).toNat : Nat) : Int) := by
 show IntKind.i64.wrap (((BitVec.ofInt 64 a ^^^ BitVec.ofInt 64 b).toNat : Nat) : Int) = _
 rw [BitVec.toNat_xor, BitVec.toNat_ofInt, BitVec.toNat_ofInt, i64w, two64]
 rfl
theorem div_hi (H L k : Nat) (hL : L < 18446744073709551616) : (H * 18446744073709551616 + L) / 2 ^ (64 + k) = H / 2 ^ k := by
 rw [Nat.pow_add, two64, ← Nat.div_div_eq_div_mul]
 congr 1
 omega
theorem div_lo (H L k : Nat) (hk : k < 64) : ((H * 18446744073709551616 + L) / 2 ^ k) % 2 = (L / 2 ^ k) % 2 := by
 have e : 18446744073709551616 = 2 ^ k * (2 * 2 ^ (63 - k)) := by rw [← Nat.pow_succ', ← Nat.pow_add, show k + (63 - k).succ = 64 by omega, two64]
 rw [e, Nat.mul_comm H, Nat.mul_assoc, Nat.mul_add_div (Nat.two_pow_pos k), Nat.mul_assoc, Nat.mul_add_mod]
theorem shl_pow (k : IntKind) (n : Int) (m : Nat) (hk : k.bits = 64) (hn : n = m) (hm : m < 63) (hw : ∀ z : Int, 0 ≤ z → z < 9223372036854775808 → k.wrap z = z) : shl k 1 n = ((2 ^ m : Nat) : Int) := by
 unfold shl
 have hlt : 2 ^ m < 9223372036854775808 := Nat.lt_of_lt_of_le (Nat.pow_lt_pow_right (by decide) hm) (by decide)
 rw [hk, hn, Int.toNat_natCast, Nat.min_eq_left (by omega), Int.one_mul, ← pow_cast]
 generalize 2 ^ m = K at hlt ⊢
 exact hw _ (by omega) (by omega)
theorem shl_pow64 (n : Int) (m : Nat) (hn : n = m) (hm : m ≤ 63) : shl .u64 1 n = ((2 ^ m : Nat) : Int) := by
 unfold shl
 have hlt : 2 ^ m < 18446744073709551616 := Nat.lt_of_lt_of_le (Nat.pow_lt_pow_right (by decide) (show m < 64 by omega)) (by decide)
 have hb : IntKind.u64.bits = 64 := rfl
 rw [hb, hn, Int.toNat_natCast, Nat.min_eq_left (by omega), Int.one_mul, ← pow_cast]
 generalize 2 ^ m = K at hlt ⊢
 exact u64in (by omega) (by omega)
theorem toNat_u {H : Nat} {h : Int} (hH : h % 18446744073709551616 = H) : (h % 18446744073709551616).toNat = H := by rw [hH]; rfl
theorem impl_flipped_e (x : Bool) (h l n : Int) (ha : addrOk x h l = true) (hh : in64 h) (hl : in64 l) (hn0 : 1 ≤ n) (hn1 : n ≤ wd x) (hz : aval x h l % 2 ^ (wd x - n.toNat) = 0) : impl_flipped.f x h l n = some (mkA x (flipV x (aval x h l) n)) := by
 unfold impl_flipped.f impl_lastBit.f
 cases x
 ·rw [wd_four] at hn1 hz
  simp [addrOk] at ha
  obtain ⟨rfl, ha0, ha1⟩ := ha
  obtain ⟨L, rfl⟩ := Int.eq_ofNat_of_zero_le ha0
  simp only [Bool.false_eq_true, if_false]
  rw [w64 (by omega) (by omega), if_pos (by omega), shl_pow .i64 (32 - n) (32 - n.toNat) rfl (by omega) (by omega) (fun z h0 h1 => by rw [i64w]; exact w64 (by omega) (by omega))]
  simp only [Option.bind_some, xor64]
  have hlt : 2 ^ (32 - n.toNat) < 4294967296 := Nat.lt_of_lt_of_le (Nat.pow_lt_pow_right (by decide) (show 32 - n.toNat < 32 by omega)) (by decide)
  have e1 : (((L : Int)) % 18446744073709551616).toNat = L := by omega
  have e2 : (((2 ^ (32 - n.toNat) : Nat) : Int) % 18446744073709551616).toNat = 2 ^ (32 - n.toNat) := by omega
  have hz2 : L % 2 ^ (32 - n.toNat) = 0 := by simpa [aval] using hz
  rw [e1, e2, xor_pow L _ hz2]
  simp only [mkA, flipV, aval, wd_four, Bool.false_eq_true, if_false, Int.toNat_natCast]
  have e3 : wrap64 ((((0 : Int) % 18446744073709551616).toNat ^^^ ((0 : Int) % 18446744073709551616).toNat : Nat) : Int) = 0 := by rw [Nat.xor_self]; exact w64 (x := ((0 : Nat) : Int)) (by decide) (by decide)
  rw [e3]
  congr 3
  split
  ·rw [w64 (by omega) (by omega)]
  ·rw [w64 (by omega) (by omega)]
 ·rw [wd_six] at hn1 hz
  simp only [if_true]
  have hpp := pref_parts h l n (by omega) hn1 hz
  simp only [aval, if_true] at hz
  obtain ⟨H, hH⟩ := Int.eq_ofNat_of_zero_le (show 0 ≤ h % 18446744073709551616 by omega)
  obtain ⟨L, hL⟩ := Int.eq_ofNat_of_zero_le (show 0 ≤ l % 18446744073709551616 by omega)
  have hHb : H < 18446744073709551616 := by omega
  have hLb : L < 18446744073709551616 := by omega
  have uH := toNat_u hH
  have uL := toNat_u hL
  have u0 : ((0 : Int) % 18446744073709551616).toNat = 0 := by decide
  rw [hH, hL] at hpp
  simp only [mkA, flipV, aval, wd_six, if_true, uH, uL]
  by_cases hb : n ≤ 64
  ·rw [if_pos hb, w64 (x := 64 - n) (by omega) (by omega), if_pos (by omega), shl_pow64 (64 - n) (64 - n.toNat) (by omega) (by omega)]
   simp only [Option.bind_some, xor64, uH, uL, u0, Nat.xor_zero]
   have hlt : 2 ^ (64 - n.toNat) < 18446744073709551616 := Nat.lt_of_lt_of_le (Nat.pow_lt_pow_right (by decide) (show 64 - n.toNat < 64 by omega)) (by decide)
   have e2 : (wrap64 ((2 ^ (64 - n.toNat) : Nat) : Int) % 18446744073709551616).toNat = 2 ^ (64 - n.toNat) := wrap_mod64 _ hlt
   have hz1 : H % 2 ^ (64 - n.toNat) = 0 := by
    have h2 := hpp.1
    rw [show min 64 (64 - n).toNat = 64 - n.toNat by omega, ← pow_cast, ← Int.natCast_emod] at h2
    exact_mod_cast h2
   have hz2 : L = 0 := by
    have h2 := hpp.2
    rw [show min 64 (128 - n).toNat = 64 by omega, show ((2 : Int) ^ 64) = 18446744073709551616 by decide] at h2
    omega
   subst hz2
   rw [e2, xor_pow H _ hz1, show 128 - n.toNat = 64 + (64 - n.toNat) by omega, div_hi H 0 _ (by decide), Nat.pow_add 2 64, two64]
   generalize hK : 2 ^ (64 - n.toNat) = K at hz1 hlt ⊢
   have hKle : (H / K) % 2 ≠ 0 → K ≤ H := by
    intro hne
    rcases Nat.lt_or_ge H K with hlt2 | hge
    ·rw [Nat.div_eq_of_lt hlt2] at hne
     exact absurd rfl hne
    ·exact hge
   split
   ·rw [show H * 18446744073709551616 + 0 + 18446744073709551616 * K = (H + K) * 18446744073709551616 + 0 by omega]
    obtain ⟨e3, e4⟩ := split_two (H + K) 0 (by decide)
    rw [e3, e4]
   ·rename_i hne
    have := hKle hne
    rw [show H * 18446744073709551616 + 0 - 18446744073709551616 * K = (H - K) * 18446744073709551616 + 0 by omega]
    obtain ⟨e3, e4⟩ := split_two (H - K) 0 (by decide)
    rw [e3, e4]
  ·rw [if_neg hb, w64 (x := 128 - n) (by omega) (by omega), if_pos (by omega), shl_pow64 (128 - n) (128 - n.toNat) (by omega) (by omega)]
   simp only [Option.bind_some, xor64, uH, uL, u0, Nat.xor_zero]
   have hlt : 2 ^ (128 - n.toNat) < 18446744073709551616 := Nat.lt_of_lt_of_le (Nat.pow_lt_pow_right (by decide) (show 128 - n.toNat < 64 by omega)) (by decide)
   have e2 : (wrap64 ((2 ^ (128 - n.toNat) : Nat) : Int) % 18446744073709551616).toNat = 2 ^ (128 - n.toNat) := wrap_mod64 _ hlt
   have hz1 : L % 2 ^ (128 - n.toNat) = 0 := by
    have h2 := hpp.2
    rw [show min 64 (128 - n).toNat = 128 - n.toNat by omega, ← pow_cast, ← Int.natCast_emod] at h2
    exact_mod_cast h2
   have hxl : L ^^^ 2 ^ (128 - n.toNat) < 18446744073709551616 := by
    rw [← two64] at hLb hlt ⊢
    exact Nat.xor_lt_two_pow hLb hlt
   rw [e2]
   rw [xor_pow L _ hz1] at hxl ⊢
   rw [div_lo H L _ (by omega)]
   generalize hK : 2 ^ (128 - n.toNat) = K at hz1 hlt hxl ⊢
   have hKle : (L / K) % 2 ≠ 0 → K ≤ L := by
    intro hne
    rcases Nat.lt_or_ge L K with hlt2 | hge
    ·rw [Nat.div_eq_of_lt hlt2] at hne
     exact absurd rfl hne
    ·exact hge
   by_cases hev : (L / K) % 2 = 0
   ·rw [if_pos hev] at hxl
    rw [if_pos hev, if_pos hev, show H * 18446744073709551616 + L + K = H * 18446744073709551616 + (L + K) by omega]
    obtain ⟨e3, e4⟩ := split_two H (L + K) hxl
    rw [e3, e4]
   ·have := hKle hev
    rw [if_neg hev, if_neg hev, show H * 18446744073709551616 + L - K = H * 18446744073709551616 + (L - K) by omega]
    obtain ⟨e3, e4⟩ := split_two H (L - K) (Nat.lt_of_le_of_lt (Nat.sub_le _ _) hLb)
    rw [e3, e4]

theorem half_arith (v k : Nat) (hz : v % (2 ^ (k + 1)) = 0) : (v + (2 ^ (k + 1) - 1)) - (v + (2 ^ (k + 1) - 1)) % 2 ^ k = v + 2 ^ k ∧ v % 2 ^ k = 0 ∧ (v / 2 ^ k) % 2 = 0 := by
 have hp : 0 < 2 ^ k := Nat.two_pow_pos k
 rw [Nat.pow_succ] at hz ⊢
 have h1 := Nat.div_add_mod v (2 ^ k * 2)
 rw [hz, Nat.mul_assoc] at h1
 generalize v / (2 ^ k * 2) = q at h1
 generalize 2 ^ k = K at *
 have e0 : v = K * (2 * q) := by omega
 have e1 : v + (K * 2 - 1) = K * (2 * q + 1) + (K - 1) := by rw [Nat.mul_add]; omega
 refine ⟨?_, by rw [e0, Nat.mul_mod_right], by rw [e0, Nat.mul_div_cancel_left _ hp]; omega⟩
 rw [e1, Nat.mul_add_mod, Nat.mod_eq_of_lt (show K - 1 < K by omega)]
 rw [Nat.mul_add]
 omega
theorem fit_half (v k w : Nat) (hk : k < w) (hz : v % (2 ^ (k + 1)) = 0) (hv : v < 2 ^ w) : v + 2 ^ (k + 1) ≤ 2 ^ w := by
 have e : (2 : Nat) ^ w = 2 ^ (k + 1) * 2 ^ (w - (k + 1)) := by rw [← Nat.pow_add]; congr 1; omega
 rw [e] at hv ⊢
 have h1 := Nat.div_add_mod v (2 ^ (k + 1))
 rw [hz] at h1
 have h2 : v / 2 ^ (k + 1) < 2 ^ (w - (k + 1)) := Nat.div_lt_of_lt_mul hv
 have h3 := Nat.mul_le_mul_left (2 ^ (k + 1)) (Nat.succ_le_of_lt h2)
 rw [Nat.mul_succ] at h3
 omega
def halfV (x : Bool) (v : Nat) (b : Int) : Nat := v + 2 ^ (wd x - (b + 1).toNat)
/-- What is known of a prefix with halves. -/
theorem half_facts (x : Bool) (h l b : Int) (hh : in64 h) (hl : in64 l) (hp : prefOk x h l b = true) (hb : b ≠ wd x) :
  addrOk x h l = true ∧ 0 ≤ b ∧ b < wd x ∧ aval x h l % 2 ^ (wd x - (b + 1).toNat) = 0 ∧ flipV x (aval x h l) (b + 1) = halfV x (aval x h l) b ∧
  lastV x (aval x h l) b < 2 ^ wd x ∧ clr x (lastV x (aval x h l) b) (b + 1) = halfV x (aval x h l) b := by
 obtain ⟨ha, hb0, hb1, hz⟩ := (prefOk_val x h l b hh hl).mp hp
 have hk : wd x - b.toNat = (wd x - (b + 1).toNat) + 1 := by omega
 have hlt := aval_lt x h l ha
 rw [hk] at hz
 obtain ⟨e1, e2, e3⟩ := half_arith _ _ hz
 have hf := fit_half _ _ (wd x) (by omega) hz hlt
 have hpp : 0 < 2 ^ (wd x - (b + 1).toNat + 1) := Nat.two_pow_pos _
 refine ⟨ha, hb0, by omega, e2, ?_, ?_, ?_⟩
 ·unfold flipV halfV; rw [if_pos e3]
 ·unfold lastV; rw [hk]; omega
 ·unfold clr lastV halfV; rw [hk, e1]
theorem spec_l2Halves_e (x : Bool) (h l b : Int) (hh : in64 h) (hl : in64 l) (hp : prefOk x h l b = true) (hb : b ≠ wd x) :
  spec_l2Halves.f x h l b = some (x, h, l, b + 1, (mkA x (halfV x (aval x h l) b)).1, (mkA x (halfV x (aval x h l) b)).2.1, (mkA x (halfV x (aval x h l) b)).2.2, b + 1) := by
 obtain ⟨ha, hb0, hb1, hz, hfl, hlast, hclr⟩ := half_facts x h l b hh hl hp hb
 have hw : (wd x : Int) ≤ 128 := by cases x <;> decide
 have hw2 : ((if x = true then 128 else 32 : Int)) = (wd x : Int) := by cases x <;> rfl
 have hok := mkA_ok x _ hlast
 unfold spec_l2Halves.f
 rw [spec_l2Last_e x h l b hh hl hp]
 simp only [Option.bind_some]
 have hmk : (mkA x (lastV x (aval x h l) b)).1 = x := mkA_fst x _
 have hav := aval_mkA x _ hlast
 rw [hmk] at hok hav ⊢
 rw [w64 (x := b + 1) (by omega) (by omega), spec_l2Mask_e x _ _ (b + 1) (by omega) (by omega) (fun hx => (addrOk_four hok hx).2), maskA_val x _ _ (b + 1) hok (by omega) (by omega), hav, hclr]
 rfl
def halvesOf (x : Bool) (h l b : Int) : Bool × Int × Int × Int × Bool × Int × Int × Int × Bool :=
 if prefOk x h l b = true ∧ b ≠ wd x then (x, h, l, b + 1, (mkA x (halfV x (aval x h l) b)).1, (mkA x (halfV x (aval x h l) b)).2.1, (mkA x (halfV x (aval x h l) b)).2.2, b + 1, true) else (false, 0, 0, 0, false, 0, 0, 0, false)
theorem wdI (x : Bool) : ((if x = true then 128 else 32 : Int)) = (wd x : Int) := by cases x <;> rfl
theorem impl_Halves_e (x : Bool) (h l b : Int) (hh : in64 h) (hl : in64 l) : impl_Halves.f x h l b = some (halvesOf x h l b) := by
 unfold impl_Halves.f halvesOf
 rw [impl_PrefixOk_e, impl_width_e, wdI]
 simp only [Option.bind_some]
 by_cases hp : prefOk x h l b = true
 ·by_cases hb : b = wd x
  ·rw [if_pos hp, if_pos hb, if_neg (by simp [hb])]
  ·obtain ⟨ha, hb0, hb1, hz, hfl, hlast, hclr⟩ := half_facts x h l b hh hl hp hb
   have hw : (wd x : Int) ≤ 128 := by cases x <;> decide
   rw [if_pos hp, if_neg hb, if_pos ⟨hp, hb⟩, w64 (x := b + 1) (by omega) (by omega), impl_flipped_e x h l (b + 1) ha hh hl (by omega) (by omega) hz, hfl]; rfl
 ·rw [if_neg hp, if_neg (by simp [hp])]

theorem within_val (x : Bool) (h l b : Int) (y : Bool) (g m c : Int) (hh : in64 h) (hl : in64 l) (hg : in64 g) (hm : in64 m) :
  within x h l b y g m c = true ↔ prefOk x h l b = true ∧ prefOk y g m c = true ∧ x = y ∧ c ≤ b ∧ clr x (aval x h l) c = aval y g m := by
 unfold within hasA
 simp only [Bool.and_eq_true, beq_iff_eq, decide_eq_true_eq]
 constructor
 ·rintro ⟨hp, ⟨hq, ha, hxy, hmk⟩, hle⟩
  subst hxy
  obtain ⟨hqa, hc0, hc1, _⟩ := prefOk_bits hq
  refine ⟨hp, hq, rfl, hle, ?_⟩
  rw [maskA_val x h l c ha hc0 hc1, ← mkA_aval x g m hqa hg hm] at hmk
  exact mkA_inj x (Nat.lt_of_le_of_lt (clr_le _ _ _) (aval_lt x h l ha)) (aval_lt x g m hqa) hmk
 ·rintro ⟨hp, hq, hxy, hle, hv⟩
  subst hxy
  obtain ⟨hqa, hc0, hc1, _⟩ := prefOk_bits hq
  obtain ⟨ha, _⟩ := prefOk_bits hp
  refine ⟨hp, ⟨hq, ha, rfl, ?_⟩, hle⟩
  rw [maskA_val x h l c ha hc0 hc1, hv, mkA_aval x g m hqa hg hm]
/-- The lower and the upper half's numbers. -/
def upQ (x : Bool) (h lo b : Int) : Bool × Int × Int := mkA x (halfV x (aval x h lo) b)
theorem half_lt (x : Bool) (h l b : Int) (hh : in64 h) (hl : in64 l) (hp : prefOk x h l b = true) (hb : b ≠ wd x) : halfV x (aval x h l) b < 2 ^ wd x := by
 obtain ⟨_, _, _, _, _, h1, h2⟩ := half_facts x h l b hh hl hp hb
 rw [← h2]
 exact Nat.lt_of_le_of_lt (clr_le _ _ _) h1
theorem half_low_ok (x : Bool) (h l b : Int) (hh : in64 h) (hl : in64 l) (hp : prefOk x h l b = true) (hb : b ≠ wd x) : prefOk x h l (b + 1) = true := by
 obtain ⟨ha, hb0, hb1, hz, _⟩ := half_facts x h l b hh hl hp hb
 exact (prefOk_val x h l (b + 1) hh hl).mpr ⟨ha, by omega, by omega, hz⟩
theorem half_up_ok (x : Bool) (h l b : Int) (hh : in64 h) (hl : in64 l) (hp : prefOk x h l b = true) (hb : b ≠ wd x) :
  (upQ x h l b).1 = x ∧ in64 (upQ x h l b).2.1 ∧ in64 (upQ x h l b).2.2 ∧ aval x (upQ x h l b).2.1 (upQ x h l b).2.2 = halfV x (aval x h l) b ∧ prefOk x (upQ x h l b).2.1 (upQ x h l b).2.2 (b + 1) = true := by
 obtain ⟨ha, hb0, hb1, hz, _⟩ := half_facts x h l b hh hl hp hb
 have hlt := half_lt x h l b hh hl hp hb
 have hin := mkA_in x _ hlt
 have hf : (upQ x h l b).1 = x := mkA_fst x _
 have hav := aval_mkA x _ hlt
 have hok := mkA_ok x _ hlt
 rw [mkA_fst] at hav hok
 refine ⟨hf, hin.1, hin.2, hav, (prefOk_val x _ _ (b + 1) hin.1 hin.2).mpr ⟨hok, by omega, by omega, ?_⟩⟩
 rw [hav]
 unfold halfV
 rw [Nat.add_mod, hz, Nat.mod_self, Nat.add_zero, Nat.zero_mod]

/-- p lies in q; q lies in p. -/
def inQ (x : Bool) (h lo b : Int) (q : S32) : Bool := within x h lo b q.f0.f0 q.f0.f1 q.f0.f2 q.f1
def ofP (x : Bool) (h lo b : Int) (q : S32) : Bool := within q.f0.f0 q.f0.f1 q.f0.f2 q.f1 x h lo b
/-- The recursion, by depth. -/
def leftP : Nat → Bool → Int → Int → Int → List S32 → List S32
 | 0, _, _, _, _, _ => []
 | d + 1, x, h, lo, b, l =>
  if l.any (inQ x h lo b) = true then [] else
  if l.filter (ofP x h lo b) = [] then [⟨⟨x, h, lo⟩, b⟩] else
  leftP d x h lo (b + 1) (l.filter (ofP x h lo b)) ++ leftP d x (upQ x h lo b).2.1 (upQ x h lo b).2.2 (b + 1) (l.filter (ofP x h lo b))
def inP (q : S32) : Prop := in64 q.f0.f1 ∧ in64 q.f0.f2
theorem apart (x : Bool) (h lo b : Int) (hh : in64 h) (hl : in64 lo) (hp : prefOk x h lo b = true) (hb : b ≠ wd x) (q : S32) (hq : inP q) (h1 : ofP x h lo (b + 1) q = true) (h2 : ofP x (upQ x h lo b).2.1 (upQ x h lo b).2.2 (b + 1) q = true) : False := by
 obtain ⟨_, hu1, hu2, hav, _⟩ := half_up_ok x h lo b hh hl hp hb
 have a1 := (within_val _ _ _ _ _ _ _ _ hq.1 hq.2 hh hl).mp h1
 have a2 := (within_val _ _ _ _ _ _ _ _ hq.1 hq.2 hu1 hu2).mp h2
 have e := a1.2.2.2.2.symm.trans a2.2.2.2.2
 rw [hav] at e
 unfold halfV at e
 have := Nat.two_pow_pos (wd x - (b + 1).toNat)
 omega
theorem filter_apart {α : Type} (p r : α → Bool) : ∀ l : List α, (∀ a ∈ l, p a = true → r a = true → False) → (l.filter p).length + (l.filter r).length ≤ l.length
 | [], _ => by simp
 | a :: l, h => by
  have ih := filter_apart p r l (fun b hb => h b (List.mem_cons_of_mem _ hb))
  have h0 := h a List.mem_cons_self
  rw [List.filter_cons, List.filter_cons, List.length_cons]
  cases hp : p a <;> cases hr : r a <;> simp [hp, hr] at h0 ⊢ <;> omega
/-- A prefix of all bits in which another one lies lies in that one. -/
theorem full_in (x : Bool) (h lo b : Int) (hh : in64 h) (hl : in64 lo) (hb : b = wd x) (q : S32) (hq : inP q) (h1 : ofP x h lo b q = true) : inQ x h lo b q = true := by
 obtain ⟨c1, c2, c3, c4, c5⟩ := (within_val _ _ _ _ _ _ _ _ hq.1 hq.2 hh hl).mp h1
 have o1 := prefOk_bits c1
 have hqb : q.f1 = b := by
  have := o1.2.2.1
  rw [wdI, c3, ← hb] at this
  omega
 refine (within_val _ _ _ _ _ _ _ _ hh hl hq.1 hq.2).mpr ⟨c2, c1, c3.symm, by omega, ?_⟩
 have hz : ∀ v, clr x v b = v := fun v => by unfold clr; rw [hb]; simp [Nat.mod_one]
 rw [hqb, hz]
 rw [c3, hz] at c5
 rw [← c5, c3]
theorem leftP_len (n : Nat) : ∀ (x : Bool) (h lo b : Int) (l : List S32), in64 h → in64 lo → prefOk x h lo b = true → b + n = wd x → (∀ q ∈ l, inP q) →
  (leftP (n + 1) x h lo b l).length ≤ 1 + (l.filter (ofP x h lo b)).length * n := by
 induction n with
 | zero =>
  intro x h lo b l hh hl hp hb hq
  unfold leftP
  split
  ·simp
  ·rename_i hany
   split
   ·simp
   ·rename_i hf
    exfalso
    refine hf (List.filter_eq_nil_iff.mpr fun q hql hof => hany ?_)
    exact List.any_eq_true.mpr ⟨q, hql, full_in x h lo b hh hl (by simpa using hb) q (hq q hql) hof⟩
 | succ n ih =>
  intro x h lo b l hh hl hp hb hq
  have hne : b ≠ wd x := by omega
  rw [leftP]
  split
  ·simp
  split
  ·simp
  rename_i hf
  obtain ⟨hx, hu1, hu2, hav, hpu⟩ := half_up_ok x h lo b hh hl hp hne
  have hq' : ∀ q ∈ l.filter (ofP x h lo b), inP q := fun q hm => hq q (List.mem_filter.mp hm).1
  have e1 := ih x h lo (b + 1) (l.filter (ofP x h lo b)) hh hl (half_low_ok x h lo b hh hl hp hne) (by omega) hq'
  have e2 := ih x (upQ x h lo b).2.1 (upQ x h lo b).2.2 (b + 1) (l.filter (ofP x h lo b)) hu1 hu2 hpu (by omega) hq'
  have e3 := filter_apart (ofP x h lo (b + 1)) (ofP x (upQ x h lo b).2.1 (upQ x h lo b).2.2 (b + 1)) (l.filter (ofP x h lo b)) (fun q hm a1 a2 => apart x h lo b hh hl hp hne q (hq' q hm) a1 a2)
  have e4 : 0 < (l.filter (ofP x h lo b)).length := List.length_pos_iff.mpr hf
  rw [List.length_append]
  generalize ((l.filter (ofP x h lo b)).filter (ofP x h lo (b + 1))).length = u at e1 e3
  generalize ((l.filter (ofP x h lo b)).filter (ofP x (upQ x h lo b).2.1 (upQ x h lo b).2.2 (b + 1))).length = v at e2 e3
  generalize (l.filter (ofP x h lo b)).length = m at *
  have e5 : (u + v) * n ≤ m * n := Nat.mul_le_mul_right n e3
  rw [Nat.add_mul] at e5
  rw [Nat.mul_succ]
  omega
theorem leftP_small (n : Nat) (x : Bool) (h lo b : Int) (l : List S32) (hh : in64 h) (hl : in64 lo) (hp : prefOk x h lo b = true) (hb : b + n = wd x) (hq : ∀ q ∈ l, inP q) (hs : l.length ≤ 300) : (leftP (n + 1) x h lo b l).length ≤ 38401 := by
 have h1 := leftP_len n x h lo b l hh hl hp hb hq
 have h2 : (l.filter (ofP x h lo b)).length ≤ 300 := Nat.le_trans (List.length_filter_le _ _) hs
 have h3 : n ≤ 128 := by
  have : (wd x : Int) ≤ 128 := by cases x <;> decide
  have := (prefOk_bits hp).2.1
  omega
 have h4 : (l.filter (ofP x h lo b)).length * n ≤ 300 * 128 := Nat.mul_le_mul h2 h3
 omega
theorem spec_left_l0 (l : List S32) (hlen : l.length ≤ 300) (x : Bool) (h lo b : Int) (R : List S32) (hT : l.any (inQ x h lo b) = true → R = [])
  (hF : l.any (inQ x h lo b) = false → Ev (fun k => spec_l2Left.l0 k l (l.filter (ofP x h lo b)) (l.length : Int) x h lo b) R) (d : Nat) : ∀ (i : Nat), i + d = l.length → (l.take i).any (inQ x h lo b) = false →
  Ev (fun k => spec_l2Left.l0 k l ((l.take i).filter (ofP x h lo b)) (i : Int) x h lo b) R := by
 induction d with
 | zero =>
  intro i hi hn
  obtain rfl : i = l.length := by omega
  rw [List.take_length] at hn ⊢
  exact hF hn
 | succ d ih =>
  intro i hi hn
  have hlt : i < l.length := by omega
  have hf : ((l.take i).filter (ofP x h lo b)).length ≤ 300 := Nat.le_trans (List.length_filter_le _ _) (by rw [List.length_take]; omega)
  by_cases hin : inQ x h lo b l[i] = true
  ·rw [hT (List.any_eq_true.mpr ⟨_, List.getElem_mem hlt, hin⟩)]
   refine Ev.step (f := fun _ => some _) (fun k => ?_) (Ev.now _)
   rw [spec_l2Left.l0, if_pos (by omega), if_pos (by omega), rd_P l i hlt, spec_Within_e, Option.bind_some, if_pos (show within _ _ _ _ _ _ _ _ = true from hin)]
  ·have hn' : (l.take (i + 1)).any (inQ x h lo b) = false := by
    rw [List.take_succ_eq_append_getElem hlt, List.any_append, hn, Bool.false_or]
    simpa using hin
   refine Ev.step (fun k => ?_) (ih (i + 1) (by omega) hn')
   rw [spec_l2Left.l0, if_pos (by omega), if_pos (by omega), rd_P l i hlt, spec_Within_e, Option.bind_some, if_neg (show ¬ within _ _ _ _ _ _ _ _ = true from hin), spec_Within_e, Option.bind_some, w64 (by omega) (by omega), List.take_succ_eq_append_getElem hlt, List.filter_append]
   by_cases hof : ofP x h lo b l[i] = true
   ·rw [if_pos (show within _ _ _ _ _ _ _ _ = true from hof), if_pos (by omega), List.filter_cons_of_pos hof]; rfl
   ·rw [if_neg (show ¬ within _ _ _ _ _ _ _ _ = true from hof), List.filter_cons_of_neg hof, List.filter_nil, List.append_nil]; rfl
theorem spec_l2Left_ev (n : Nat) : ∀ (x : Bool) (h lo b : Int) (l : List S32), in64 h → in64 lo → prefOk x h lo b = true → b + n = wd x → (∀ q ∈ l, inP q) → l.length ≤ 300 →
  Ev (fun k => spec_l2Left.f k x h lo b l) (leftP (n + 1) x h lo b l) := by
 induction n with
 | zero =>
  intro x h lo b l hh hl hp hb hq hs
  refine Ev.step (fun k => by rw [spec_l2Left.f]; rfl) (spec_left_l0 l hs x h lo b _ (fun ht => by rw [leftP, if_pos ht]) (fun hf => ?_) l.length 0 (by omega) (by simp))
  have he : l.filter (ofP x h lo b) = [] := List.filter_eq_nil_iff.mpr fun q hql hof => by
   rw [List.any_eq_false] at hf
   exact hf q hql (full_in x h lo b hh hl (by simpa using hb) q (hq q hql) hof)
  rw [leftP, if_neg (by rw [hf]; decide), if_pos he, he]
  refine Ev.step (f := fun _ => some _) (fun k => ?_) (Ev.now _)
  rw [spec_l2Left.l0, if_neg (by omega), if_pos (by simp)]
 | succ n ih =>
  intro x h lo b l hh hl hp hb hq hs
  refine Ev.step (fun k => by rw [spec_l2Left.f]; rfl) (spec_left_l0 l hs x h lo b _ (fun ht => by rw [leftP, if_pos ht]) (fun hf => ?_) l.length 0 (by omega) (by simp))
  rw [leftP, if_neg (by rw [hf]; decide)]
  by_cases he : l.filter (ofP x h lo b) = []
  ·rw [if_pos he, he]
   refine Ev.step (f := fun _ => some _) (fun k => ?_) (Ev.now _)
   rw [spec_l2Left.l0, if_neg (by omega), if_pos (by simp)]
  ·rw [if_neg he]
   have hne : b ≠ wd x := by omega
   obtain ⟨hx, hu1, hu2, hav, hpu⟩ := half_up_ok x h lo b hh hl hp hne
   have hq' : ∀ q ∈ l.filter (ofP x h lo b), inP q := fun q hm => hq q (List.mem_filter.mp hm).1
   have hs' : (l.filter (ofP x h lo b)).length ≤ 300 := Nat.le_trans (List.length_filter_le _ _) hs
   have e1 := ih x h lo (b + 1) (l.filter (ofP x h lo b)) hh hl (half_low_ok x h lo b hh hl hp hne) (by omega) hq' hs'
   have e2 := ih x (upQ x h lo b).2.1 (upQ x h lo b).2.2 (b + 1) (l.filter (ofP x h lo b)) hu1 hu2 hpu (by omega) hq' hs'
   have s1 := leftP_small n x h lo (b + 1) _ hh hl (half_low_ok x h lo b hh hl hp hne) (by omega) hq' hs'
   have s2 := leftP_small n x (upQ x h lo b).2.1 (upQ x h lo b).2.2 (b + 1) _ hu1 hu2 hpu (by omega) hq' hs'
   refine Ev.step (fun k => by rw [spec_l2Left.l0, if_neg (by omega), if_neg (by simpa using he), spec_l2Halves_e x h lo b hh hl hp hne, Option.bind_some]) ?_
   refine Ev.bind e1 ?_
   have hx' : (mkA x (halfV x (aval x h lo) b)).1 = x := hx
   simp only [hx']
   refine Ev.bind e2 ?_
   exact Ev.ite_pos (by omega) (Ev.now _)
theorem impl_left_l0 (l : List S32) (hlen : l.length ≤ 300) (x : Bool) (h lo b : Int) (R : List S32) (hT : l.any (inQ x h lo b) = true → R = [])
  (hF : l.any (inQ x h lo b) = false → Ev (fun k => impl_without.l0 k (l.filter (ofP x h lo b)) l (l.length : Int) (l.length : Int) x h lo b) R) (d : Nat) : ∀ (i : Nat), i + d = l.length → (l.take i).any (inQ x h lo b) = false →
  Ev (fun k => impl_without.l0 k ((l.take i).filter (ofP x h lo b)) l (l.length : Int) (i : Int) x h lo b) R := by
 induction d with
 | zero =>
  intro i hi hn
  obtain rfl : i = l.length := by omega
  rw [List.take_length] at hn ⊢
  exact hF hn
 | succ d ih =>
  intro i hi hn
  have hlt : i < l.length := by omega
  have hf : ((l.take i).filter (ofP x h lo b)).length ≤ 300 := Nat.le_trans (List.length_filter_le _ _) (by rw [List.length_take]; omega)
  by_cases hin : inQ x h lo b l[i] = true
  ·rw [hT (List.any_eq_true.mpr ⟨_, List.getElem_mem hlt, hin⟩)]
   refine Ev.step (f := fun _ => some _) (fun k => ?_) (Ev.now _)
   rw [impl_without.l0, if_pos (by omega), if_pos (by omega), if_pos (by omega), rd_P l i hlt, impl_Within_e, Option.bind_some, if_pos (show within _ _ _ _ _ _ _ _ = true from hin)]
  ·have hn' : (l.take (i + 1)).any (inQ x h lo b) = false := by
    rw [List.take_succ_eq_append_getElem hlt, List.any_append, hn, Bool.false_or]
    simpa using hin
   refine Ev.step (fun k => ?_) (ih (i + 1) (by omega) hn')
   rw [impl_without.l0, if_pos (by omega), if_pos (by omega), if_pos (by omega), rd_P l i hlt, impl_Within_e, Option.bind_some, if_neg (show ¬ within _ _ _ _ _ _ _ _ = true from hin), impl_Within_e, Option.bind_some, w64 (by omega) (by omega), List.take_succ_eq_append_getElem hlt, List.filter_append]
   by_cases hof : ofP x h lo b l[i] = true
   ·rw [if_pos (show within _ _ _ _ _ _ _ _ = true from hof), if_pos (by omega), List.filter_cons_of_pos hof]; rfl
   ·rw [if_neg (show ¬ within _ _ _ _ _ _ _ _ = true from hof), List.filter_cons_of_neg hof, List.filter_nil, List.append_nil]; rfl
theorem impl_without_ev (n : Nat) : ∀ (x : Bool) (h lo b : Int) (l : List S32), in64 h → in64 lo → prefOk x h lo b = true → b + n = wd x → (∀ q ∈ l, inP q) → l.length ≤ 300 →
  Ev (fun k => impl_without.f k x h lo b l) (leftP (n + 1) x h lo b l) := by
 induction n with
 | zero =>
  intro x h lo b l hh hl hp hb hq hs
  refine Ev.step (fun k => by rw [impl_without.f]; rfl) (impl_left_l0 l hs x h lo b _ (fun ht => by rw [leftP, if_pos ht]) (fun hf => ?_) l.length 0 (by omega) (by simp))
  have he : l.filter (ofP x h lo b) = [] := List.filter_eq_nil_iff.mpr fun q hql hof => by
   rw [List.any_eq_false] at hf
   exact hf q hql (full_in x h lo b hh hl (by simpa using hb) q (hq q hql) hof)
  rw [leftP, if_neg (by rw [hf]; decide), if_pos he, he]
  refine Ev.step (f := fun _ => some _) (fun k => ?_) (Ev.now _)
  rw [impl_without.l0, if_neg (by omega), if_pos (by simp)]
 | succ n ih =>
  intro x h lo b l hh hl hp hb hq hs
  refine Ev.step (fun k => by rw [impl_without.f]; rfl) (impl_left_l0 l hs x h lo b _ (fun ht => by rw [leftP, if_pos ht]) (fun hf => ?_) l.length 0 (by omega) (by simp))
  rw [leftP, if_neg (by rw [hf]; decide)]
  by_cases he : l.filter (ofP x h lo b) = []
  ·rw [if_pos he, he]
   refine Ev.step (f := fun _ => some _) (fun k => ?_) (Ev.now _)
   rw [impl_without.l0, if_neg (by omega), if_pos (by simp)]
  ·rw [if_neg he]
   have hne : b ≠ wd x := by omega
   obtain ⟨hx, hu1, hu2, hav, hpu⟩ := half_up_ok x h lo b hh hl hp hne
   have hq' : ∀ q ∈ l.filter (ofP x h lo b), inP q := fun q hm => hq q (List.mem_filter.mp hm).1
   have hs' : (l.filter (ofP x h lo b)).length ≤ 300 := Nat.le_trans (List.length_filter_le _ _) hs
   have e1 := ih x h lo (b + 1) (l.filter (ofP x h lo b)) hh hl (half_low_ok x h lo b hh hl hp hne) (by omega) hq' hs'
   have e2 := ih x (upQ x h lo b).2.1 (upQ x h lo b).2.2 (b + 1) (l.filter (ofP x h lo b)) hu1 hu2 hpu (by omega) hq' hs'
   have s1 := leftP_small n x h lo (b + 1) _ hh hl (half_low_ok x h lo b hh hl hp hne) (by omega) hq' hs'
   have s2 := leftP_small n x (upQ x h lo b).2.1 (upQ x h lo b).2.2 (b + 1) _ hu1 hu2 hpu (by omega) hq' hs'
   have hH : halvesOf x h lo b = (x, h, lo, b + 1, x, (upQ x h lo b).2.1, (upQ x h lo b).2.2, b + 1, true) := by
    unfold halvesOf
    rw [if_pos ⟨hp, hne⟩]
    have hx' : (mkA x (halfV x (aval x h lo) b)).1 = x := hx
    rw [hx']; rfl
   refine Ev.step (fun k => by rw [impl_without.l0, if_neg (by omega), if_neg (by simpa using he), impl_Halves_e x h lo b hh hl, hH, Option.bind_some]) ?_
   refine Ev.bind e1 ?_
   refine Ev.bind e2 ?_
   exact Ev.ite_pos (by omega) (Ev.now _)

theorem eqAddr_refl (x : Bool) (h l : Int) : laws_eqAddr.f x h l x h l = some true := by simp [laws_eqAddr.f]
theorem eqPrefix_refl (x : Bool) (h l b : Int) : laws_eqPrefix.f x h l b x h l b = some true := by simp [laws_eqPrefix.f, eqAddr_refl]

def upP (e : S30) : S32 := ⟨⟨e.f0.f0, e.f0.f1, e.f0.f2⟩, e.f1⟩
theorem toPrefixS_l0 (a : List S30) (hn : a.length ≤ 4611686018427387904) (d : Nat) : ∀ (i : Nat), i + d = a.length → Ev (fun k => laws_toPrefixS.l0 k a ((a.take i).map upP ++ List.replicate d z32) (i : Int)) (a.map upP) := by
 induction d with
 | zero =>
  intro i h
  refine Ev.step (f := fun _ => some (a.map upP)) (fun k => ?_) (Ev.now _)
  rw [laws_toPrefixS.l0, if_neg (by omega)]
  simp [List.take_of_length_le (show a.length ≤ i by omega)]
 | succ d ih =>
  intro i h
  refine Ev.step (fun k => ?_) (ih (i + 1) (by omega))
  have hi : i < a.length := by omega
  have hr : rd_T30 a (i : Int) = a[i] := by simp [rd_T30, List.getD, List.getElem?_eq_getElem hi]
  rw [laws_toPrefixS.l0, if_pos (by omega), if_pos (by omega), hr]
  simp only [laws_toPrefix.f, laws_toAddr.f, Option.bind_some]
  rw [if_pos (by simp; omega), w64 (by omega) (by omega)]
  have e : ((a.take i).map upP ++ List.replicate (d + 1) z32).set (i : Int).toNat ⟨⟨a[i].f0.f0, a[i].f0.f1, a[i].f0.f2⟩, a[i].f1⟩ = (a.take (i + 1)).map upP ++ List.replicate d z32 := by
   have hl : ((a.take i).map upP).length = i := by simp; omega
   rw [List.take_succ_eq_append_getElem hi, List.set_append_right _ _ (by rw [hl]; simp), hl, List.map_append, List.append_assoc]
   simp [List.replicate_succ, upP]
  rw [e]
  rfl
theorem toPrefixS_ev (a : List S30) (hn : a.length ≤ 1048576) : Ev (fun k => laws_toPrefixS.f k a) (a.map upP) := by
 refine Ev.congr (fun k => ?_) (toPrefixS_l0 a (by omega) a.length 0 (by omega))
 rw [laws_toPrefixS.f, if_pos (by omega), if_pos (by omega)]
 simp
theorem eqPrefixS_l0 (a : List S32) (hn : a.length ≤ 4611686018427387904) (d : Nat) : ∀ (i : Nat), i + d = a.length → Ev (fun k => laws_eqPrefixS.l0 k a a (i : Int)) true := by
 induction d with
 | zero =>
  intro i h
  exact Ev.step (f := fun _ => some true) (fun k => by rw [laws_eqPrefixS.l0, if_neg (by omega)]) (Ev.now true)
 | succ d ih =>
  intro i h
  refine Ev.step (fun k => ?_) (ih (i + 1) (by omega))
  rw [laws_eqPrefixS.l0, if_pos (by omega), if_pos (by omega), if_pos (by omega), eqPrefix_refl]
  simp only [Option.bind_some, if_true]
  rw [w64 (by omega) (by omega)]
  rfl
theorem eqPrefixS_ev (a : List S32) (hn : a.length ≤ 4611686018427387904) : Ev (fun k => laws_eqPrefixS.f k a a) true := by
 refine Ev.congr (fun k => ?_) (eqPrefixS_l0 a hn a.length 0 (by omega))
 rw [laws_eqPrefixS.f, if_pos rfl]
 rfl

/-- What is left of a prefix that is right. -/
def leftOf (x : Bool) (h lo b : Int) (l : List S32) : List S32 := leftP (wd x - b.toNat + 1) x h lo b l
theorem prefOk_n {x : Bool} {h lo b : Int} (hp : prefOk x h lo b = true) : b + ((wd x - b.toNat : Nat) : Int) = wd x := by
 have h1 := prefOk_bits hp
 rw [wdI] at h1
 omega
theorem leftOf_small (x : Bool) (h lo b : Int) (l : List S32) (hh : in64 h) (hl : in64 lo) (hp : prefOk x h lo b = true) (hq : ∀ q ∈ l, inP q) (hs : l.length ≤ 300) : (leftOf x h lo b l).length ≤ 38401 :=
 leftP_small _ x h lo b l hh hl hp (prefOk_n hp) hq hs
def leftAll (x : Bool) (h lo b : Int) (l : List S32) : List S32 := if prefOk x h lo b = true ∧ listOkP l = true then leftOf x h lo b l else []
theorem listOk_len {l : List S32} (h : listOkP l = true) : l.length ≤ 300 := by
 unfold listOkP at h
 simp only [Bool.and_eq_true, decide_eq_true_eq] at h
 exact h.1
theorem leftAll_small (x : Bool) (h lo b : Int) (l : List S32) (hh : in64 h) (hl : in64 lo) (hq : ∀ q ∈ l, inP q) : (leftAll x h lo b l).length ≤ 38401 := by
 unfold leftAll
 split
 ·rename_i hc
  exact leftOf_small x h lo b l hh hl hc.1 hq (listOk_len hc.2)
 ·simp
theorem spec_Without_ev (x : Bool) (h lo b : Int) (l : List S32) (hh : in64 h) (hl : in64 lo) (hq : ∀ q ∈ l, inP q) (hs : l.length ≤ 4611686018427387904) :
  Ev (fun k => spec_Without.f k x h lo b l) (leftAll x h lo b l) := by
 refine Ev.val (spec_PrefixOk_e x h lo b) ?_
 unfold leftAll
 by_cases hp : prefOk x h lo b = true
 ·refine Ev.ite_pos hp (Ev.bind (spec_l2Right_ev l hs) ?_)
  by_cases hr : listOkP l = true
  ·rw [if_pos ⟨hp, hr⟩]
   exact Ev.ite_pos hr (Ev.bind (spec_l2Left_ev _ x h lo b l hh hl hp (prefOk_n hp) hq (listOk_len hr)) (Ev.now _))
  ·rw [if_neg (fun hc => hr hc.2)]
   exact Ev.ite_neg hr (Ev.now _)
 ·rw [if_neg (fun hc => hp hc.1)]
  exact Ev.ite_neg hp (Ev.now _)
theorem impl_Without_ev (x : Bool) (h lo b : Int) (l : List S32) (hh : in64 h) (hl : in64 lo) (hq : ∀ q ∈ l, inP q) :
  Ev (fun k => impl_Without.f k x h lo b l) (leftAll x h lo b l) := by
 refine Ev.val (impl_PrefixOk_e x h lo b) ?_
 unfold leftAll
 by_cases hp : prefOk x h lo b = true
 ·refine Ev.ite_pos hp (Ev.val (impl_listOk_e l) ?_)
  by_cases hr : listOkP l = true
  ·rw [if_pos ⟨hp, hr⟩]
   exact Ev.ite_pos hr (Ev.bind (impl_without_ev _ x h lo b l hh hl hp (prefOk_n hp) hq (listOk_len hr)) (Ev.now _))
  ·rw [if_neg (fun hc => hr hc.2)]
   exact Ev.ite_neg hr (Ev.now _)
 ·rw [if_neg (fun hc => hp hc.1)]
  exact Ev.ite_neg hp (Ev.now _)

def bestP (q : S32) : List S32 → S32
 | [] => q
 | e :: l => if e.f1 < q.f1 then bestP e l else bestP q l
def outP (q : S32) : Bool × Int × Int × Int × Bool := (q.f0.f0, q.f0.f1, q.f0.f2, q.f1, true)
theorem spec_Largest_l0 (l : List S32) (hn : l.length ≤ 4611686018427387904) (d : Nat) : ∀ (i : Nat) (q : S32), i + d = l.length → Ev (fun k => spec_Largest.l0 k l (i : Int) q.f0.f0 q.f0.f1 q.f0.f2 q.f1) (outP (bestP q (l.drop i))) := by
 induction d with
 | zero =>
  intro i q hi
  refine Ev.step (f := fun _ => some _) (fun k => ?_) (Ev.now _)
  rw [spec_Largest.l0, if_neg (by omega), List.drop_eq_nil_of_le (by omega)]; rfl
 | succ d ih =>
  intro i q hi
  have hlt : i < l.length := by omega
  rw [List.drop_eq_getElem_cons hlt, bestP]
  by_cases hc : l[i].f1 < q.f1
  ·rw [if_pos hc]
   refine Ev.step (fun k => ?_) (ih (i + 1) l[i] (by omega))
   rw [spec_Largest.l0, if_pos (by omega), if_pos (by omega), rd_P l i hlt, if_pos hc, w64 (by omega) (by omega)]; rfl
  ·rw [if_neg hc]
   refine Ev.step (fun k => ?_) (ih (i + 1) q (by omega))
   rw [spec_Largest.l0, if_pos (by omega), if_pos (by omega), rd_P l i hlt, if_neg hc, w64 (by omega) (by omega)]; rfl
def largestA (x : Bool) (h lo b : Int) (l : List S32) : Bool × Int × Int × Int × Bool := match leftAll x h lo b l with
 | [] => (false, 0, 0, 0, false)
 | q :: r => outP (bestP q r)
theorem spec_Largest_ev (x : Bool) (h lo b : Int) (l : List S32) (hh : in64 h) (hl : in64 lo) (hq : ∀ q ∈ l, inP q) (hs : l.length ≤ 4611686018427387904) :
  Ev (fun k => spec_Largest.f k x h lo b l) (largestA x h lo b l) := by
 refine Ev.bind (spec_Without_ev x h lo b l hh hl hq hs) ?_
 have hsm := leftAll_small x h lo b l hh hl hq
 unfold largestA
 generalize leftAll x h lo b l = r at hsm ⊢
 cases r with
 | nil => exact Ev.ite_pos rfl (Ev.now _)
 | cons q r =>
  refine Ev.ite_neg (by simp <;> omega) (Ev.ite_pos (by simp <;> omega) ?_)
  exact spec_Largest_l0 (q :: r) (by omega) r.length 1 q (by simp; omega)
theorem impl_Largest_l0 (l : List S32) (hn : l.length ≤ 4611686018427387904) (d : Nat) : ∀ (i : Nat) (q : S32), i + d = l.length → Ev (fun k => impl_Largest.l0 k l (l.length : Int) (i : Int) q.f0.f0 q.f0.f1 q.f0.f2 q.f1) (outP (bestP q (l.drop i))) := by
 induction d with
 | zero =>
  intro i q hi
  refine Ev.step (f := fun _ => some _) (fun k => ?_) (Ev.now _)
  rw [impl_Largest.l0, if_neg (by omega), List.drop_eq_nil_of_le (by omega)]; rfl
 | succ d ih =>
  intro i q hi
  have hlt : i < l.length := by omega
  rw [List.drop_eq_getElem_cons hlt, bestP]
  by_cases hc : l[i].f1 < q.f1
  ·rw [if_pos hc]
   refine Ev.step (fun k => ?_) (ih (i + 1) l[i] (by omega))
   rw [impl_Largest.l0, if_pos (by omega), if_pos (by omega), if_pos (by omega), rd_P l i hlt, if_pos hc, w64 (by omega) (by omega)]; rfl
  ·rw [if_neg hc]
   refine Ev.step (fun k => ?_) (ih (i + 1) q (by omega))
   rw [impl_Largest.l0, if_pos (by omega), if_pos (by omega), if_pos (by omega), rd_P l i hlt, if_neg hc, w64 (by omega) (by omega)]; rfl
theorem impl_Largest_ev (x : Bool) (h lo b : Int) (l : List S32) (hh : in64 h) (hl : in64 lo) (hq : ∀ q ∈ l, inP q) :
  Ev (fun k => impl_Largest.f k x h lo b l) (largestA x h lo b l) := by
 refine Ev.bind (impl_Without_ev x h lo b l hh hl hq) ?_
 have hsm := leftAll_small x h lo b l hh hl hq
 unfold largestA
 generalize leftAll x h lo b l = r at hsm ⊢
 cases r with
 | nil => exact Ev.ite_pos rfl (Ev.now _)
 | cons q r =>
  refine Ev.ite_neg (by simp <;> omega) (Ev.ite_pos (by simp <;> omega) ?_)
  have := impl_Largest_l0 (q :: r) (by omega) (q :: r).length 0 q (by simp)
  rw [List.drop_zero, bestP, if_neg (Int.lt_irrefl _)] at this
  exact this

theorem FnExactLargest (x : Bool) (h lo b : Int) (l : List S30) (hh : (Lit.int .i64 h).wf = true) (hl : (Lit.int .i64 lo).wf = true) (_ : (Lit.int .i64 b).wf = true) (hb : ∀ y ∈ l, (Lit.int .i64 y.f0.f1).wf = true ∧ (Lit.int .i64 y.f0.f2).wf = true ∧ (Lit.int .i64 y.f1).wf = true) (hlen : l.length ≤ 9223372036854775807) : ∃ k, laws_FnExactLargest.f k x h lo b l = some true := by
 refine Ev.rounds ?_
 by_cases hbig : l.length > 1048576
 ·refine Ev.val (a := -1) ?_ (Ev.ite_pos (by decide) (Ev.now true))
  unfold laws_szPrefixS.f
  rw [w64 (by omega) (by omega), if_pos (by omega)]
 refine Ev.val (a := 1048576 - (l.length : Int)) ?_ (Ev.ite_neg (by omega) ?_)
 ·unfold laws_szPrefixS.f
  rw [w64 (by omega) (by omega), if_neg (by omega)]
 refine Ev.val (a := (x, h, lo, b)) rfl ?_
 have hw : ∀ e ∈ l.map upP, inP e := by
  intro e he
  obtain ⟨y, hy, rfl⟩ := List.mem_map.1 he
  exact ⟨wf_in (hb y hy).1, wf_in (hb y hy).2.1⟩
 refine Ev.bind (toPrefixS_ev l (by omega)) ?_
 refine Ev.bind (spec_Largest_ev x h lo b (l.map upP) (wf_in hh) (wf_in hl) hw (by simp; omega)) ?_
 refine Ev.bind (toPrefixS_ev l (by omega)) ?_
 refine Ev.val (a := (x, h, lo, b)) rfl ?_
 refine Ev.bind (impl_Largest_ev x h lo b (l.map upP) (wf_in hh) (wf_in hl) hw) ?_
 refine Ev.val (eqPrefix_refl _ _ _ _) (Ev.ite_pos rfl ?_)
 rw [show ((largestA x h lo b (l.map upP)).2.2.2.2 != (largestA x h lo b (l.map upP)).2.2.2.2) = false by simp]
 refine Ev.step (fun k => by rw [laws_FnExactLargest.j0, if_neg (by decide)]) ?_
 refine Ev.bind (toPrefixS_ev l (by omega)) ?_
 exact Ev.bind (eqPrefixS_ev _ (by simp; omega)) (Ev.ite_pos rfl (Ev.now true))

end Go.Proofs.Ytigmadccchofiaa.Pure
