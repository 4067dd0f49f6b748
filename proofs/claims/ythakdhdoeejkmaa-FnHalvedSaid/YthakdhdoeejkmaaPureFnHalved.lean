/-
The pure part of the statement FnHalved: what the printed functions answer is true at every input.
Conditions: none but the kinds' own bounds, as the printed statement has them.
-/
import Derived.Test.YthakdhdoeejkmaaQFnHalvedx0
import Derived.Test.YthakdhdoeejkmaaQFnHalvedx1
import Derived.Test.YthakdhdoeejkmaaQFnHalvedx2
import Derived.Test.YthakdhdoeejkmaaQFnHalvedx3
import Derived.Test.YthakdhdoeejkmaaQFnHalvedx4
import Derived.Test.YthakdhdoeejkmaaQFnHalvedx5
import Derived.Test.YthakdhdoeejkmaaQFnHalvedx6
import Derived.Test.YthakdhdoeejkmaaQFnHalvedx7
import Derived.Test.YthakdhdoeejkmaaQFnHalvedx8
import Derived.Test.YthakdhdoeejkmaaQFnHalvedx9
import Derived.Test.YthakdhdoeejkmaaQFnHalvedx10
import Derived.Test.YthakdhdoeejkmaaQFnHalvedx11
import Derived.Test.YthakdhdoeejkmaaQFnHalvedx12
import Derived.Test.YthakdhdoeejkmaaQFnHalvedx13
import Derived.Test.YthakdhdoeejkmaaQFnHalvedx14
namespace Go.Proofs.Ythakdhdoeejkmaa.Pure
open Go.RowKit Go.Proofs.Ythakdhdoeejkmaa.QFnHalved Go.Proofs.YthakdhdoeejkmaaW.PrintWords Go.Proofs.YthakdhdoeejkmaaW.PrintLast Go.Proofs.YthakdhdoeejkmaaW.PrintMore
set_option linter.unusedVariables false
set_option linter.unusedSimpArgs false

theorem wf8 {x : Int} (h : (Lit.int .u8 x).wf = true) : 0 ≤ x ∧ x ≤ 255 := by
 simpa [Lit.wf, IntKind.min, IntKind.max, IntKind.signed, IntKind.bits] using h
theorem w64 {x : Int} (h0 : -9223372036854775808 ≤ x) (h1 : x ≤ 9223372036854775807) : wrap64 x = x := by unfold wrap64; omega
theorem u64w (n : Int) : IntKind.u64.wrap n = n % 18446744073709551616 := by simp [IntKind.wrap, IntKind.bits, IntKind.signed]
theorem u64in {x : Int} (h0 : 0 ≤ x) (h1 : x < 18446744073709551616) : IntKind.u64.wrap x = x := by rw [u64w]; omega
theorem rd_get (xs : List Int) (i : Int) (j : Nat) (x : Int) (hi : i = j) (h : xs[j]? = some x) : rd xs i = x := by
 subst hi
 simp [rd, List.getD, h]
theorem Ev.mid {α : Type} {g : Nat → Option α} {a b : α} (h : a = b) (e : Ev g a) : Ev g b := h ▸ e
theorem Ev.ite_pos {α : Type} {c : Prop} [Decidable c] {g f : Nat → Option α} {r : α} (hc : c) (h : Ev g r) : Ev (fun k => if c then g k else f k) r := by
 simp only [if_pos hc]
 exact h
theorem Ev.ite_neg {α : Type} {c : Prop} [Decidable c] {g f : Nat → Option α} {r : α} (hc : ¬ c) (h : Ev f r) : Ev (fun k => if c then g k else f k) r := by
 simp only [if_neg hc]
 exact h
/-- A part that has no rounds. -/
theorem Ev.val {α β : Type} {o : Option α} {f : Nat → α → Option β} {a : α} {r : β} (h : o = some a) (k : Ev (fun n => f n a) r) : Ev (fun n => o.bind (f n)) r := by
 subst h
 exact k

theorem u64or (a b : Nat) (ha : a < 18446744073709551616) (hb : b < 18446744073709551616) : Go.bits .or .u64 (a : Int) (b : Int) = ((a ||| b : Nat) : Int) :=
 (Go.bits_nat .u64 64 (by decide) (fun n h0 h1 => by rw [u64w]; omega) a b ha hb).2
/-- Bits that stand apart: 'or' is the sum. -/
theorem u64or_low (x y : Int) (i : Nat) (hx0 : 0 ≤ x) (hx : x < 2 ^ i) (hy0 : 0 ≤ y) (hy : y % 2 ^ i = 0) (hy1 : y < 18446744073709551616) (hi : i ≤ 64) : Go.bits .or .u64 x y = x + y := by
 obtain ⟨a, rfl⟩ := Int.eq_ofNat_of_zero_le hx0
 obtain ⟨b, rfl⟩ := Int.eq_ofNat_of_zero_le hy0
 have ha : a < 2 ^ i := by exact_mod_cast hx
 have hb : b % 2 ^ i = 0 := by exact_mod_cast hy
 have h2 : (2 : Nat) ^ i ≤ 18446744073709551616 := by
  have := Nat.pow_le_pow_right (show 0 < 2 by decide) hi
  exact Nat.le_trans this (by decide)
 rw [u64or a b (by omega) (by omega), Nat.or_comm]
 have hq : b = 2 ^ i * (b / 2 ^ i) := by
  have := Nat.div_add_mod b (2 ^ i)
  omega
 rw [hq, ← Nat.two_pow_add_eq_or_of_lt ha (b / 2 ^ i)]
 omega
theorem u64or_high (x y : Int) (i : Nat) (hx0 : 0 ≤ x) (hx : x % 2 ^ i = 0) (hx1 : x < 18446744073709551616) (hy0 : 0 ≤ y) (hy : y < 2 ^ i) (hi : i ≤ 64) : Go.bits .or .u64 x y = x + y := by
 have e : Go.bits .or .u64 x y = Go.bits .or .u64 y x := by
  obtain ⟨a, rfl⟩ := Int.eq_ofNat_of_zero_le hx0
  obtain ⟨b, rfl⟩ := Int.eq_ofNat_of_zero_le hy0
  have hb : b < 2 ^ i := by exact_mod_cast hy
  have h2 : (2 : Nat) ^ i ≤ 18446744073709551616 := by
   have := Nat.pow_le_pow_right (show 0 < 2 by decide) hi
   exact Nat.le_trans this (by decide)
  rw [u64or a b (by omega) (by omega), u64or b a (by omega) (by omega), Nat.or_comm]
 rw [e, u64or_low y x i hy0 hy hx0 hx hx1 hi]
 omega

theorem l1In_e (a b c : Int) : spec_l1In.f a b c = some (decide (b ≤ a ∧ a ≤ c)) := by
 unfold spec_l1In.f
 by_cases h : a ≥ b
 ·simp [if_pos h, h]
 ·simp [if_neg h]; omega
theorem from_e (a b c : Int) : impl_from.f a b c = some (decide (b ≤ a ∧ a ≤ c)) := by
 unfold impl_from.f
 by_cases h : a ≥ b
 ·simp [if_pos h, h]
 ·simp [if_neg h]; omega
/-- An address is right. -/
def addrOk (x : Bool) (h l : Int) : Bool := x || (decide (h = 0) && decide (0 ≤ l ∧ l ≤ 4294967295))
theorem spec_AddrOk_e (x : Bool) (h l : Int) : spec_AddrOk.f x h l = some (addrOk x h l) := by
 unfold spec_AddrOk.f addrOk
 cases x
 ·by_cases hh : h = 0
  ·simp [hh, l1In_e]
  ·simp [hh]
 ·rfl
theorem impl_AddrOk_e (x : Bool) (h l : Int) : impl_AddrOk.f x h l = some (addrOk x h l) := by
 unfold impl_AddrOk.f addrOk
 cases x
 ·by_cases hh : h = 0
  ·simp [hh, from_e]
  ·simp [hh]
 ·rfl

theorem high_tab (n : Nat) (h : n ≤ 64) : 18446744073709551615 / 2 ^ n = 2 ^ (64 - n) - 1 ∧ (18446744073709551615 * 2 ^ n) % 18446744073709551616 = 18446744073709551616 - 2 ^ n := by
 have t : ∀ n : Fin 65, 18446744073709551615 / 2 ^ n.1 = 2 ^ (64 - n.1) - 1 ∧ (18446744073709551615 * 2 ^ n.1) % 18446744073709551616 = 18446744073709551616 - 2 ^ n.1 := by decide +kernel
 exact t ⟨n, by omega⟩
theorem four_tab (n : Nat) (h : n ≤ 32) : 4294967295 / 2 ^ n = 2 ^ (32 - n) - 1 ∧ (18446744073709551616 - 2 ^ (64 - n)) / 4294967296 = 4294967296 - 2 ^ (32 - n) := by
 have t : ∀ n : Fin 33, 4294967295 / 2 ^ n.1 = 2 ^ (32 - n.1) - 1 ∧ (18446744073709551616 - 2 ^ (64 - n.1)) / 4294967296 = 4294967296 - 2 ^ (32 - n.1) := by decide +kernel
 exact t ⟨n, by omega⟩
theorem pow_le64 (k : Nat) (h : k ≤ 64) : 1 ≤ 2 ^ k ∧ 2 ^ k ≤ 18446744073709551616 := ⟨Nat.one_le_two_pow, Nat.le_trans (Nat.pow_le_pow_right (by decide) h) (by decide)⟩
theorem pow_le32 (k : Nat) (h : k ≤ 32) : 1 ≤ 2 ^ k ∧ 2 ^ k ≤ 4294967296 := ⟨Nat.one_le_two_pow, Nat.le_trans (Nat.pow_le_pow_right (by decide) h) (by decide)⟩
/-- The bits from k on. -/
theorem nat_and_high (a k w : Nat) (hk : k ≤ w) (ha : a < 2 ^ w) : a &&& (2 ^ w - 2 ^ k) = a - a % 2 ^ k := by
 have e1 : 2 ^ w - 2 ^ k = 2 ^ k * (2 ^ (w - k) - 1) := by
  rw [Nat.mul_sub, ← Nat.pow_add, Nat.add_sub_cancel' hk, Nat.mul_one]
 have e2 : a - a % 2 ^ k = 2 ^ k * (a / 2 ^ k) := by
  have := Nat.div_add_mod a (2 ^ k)
  omega
 rw [e1, e2]
 apply Nat.eq_of_testBit_eq
 intro i
 rw [Nat.testBit_and, Nat.testBit_two_pow_mul, Nat.testBit_two_pow_mul, Nat.testBit_two_pow_sub_one, Nat.testBit_div_two_pow]
 by_cases hi : k ≤ i
 ·by_cases hw : i < w
  ·simp [hi, Nat.sub_add_cancel hi, show i - k < w - k by omega]
  ·have : a.testBit i = false := Nat.testBit_lt_two_pow (Nat.lt_of_lt_of_le ha (Nat.pow_le_pow_right (by decide) (by omega)))
   simp [hi, Nat.sub_add_cancel hi, this]
 ·simp [hi]
theorem u64and (a b : Nat) (ha : a < 18446744073709551616) (hb : b < 18446744073709551616) : Go.bits .and .u64 (a : Int) (b : Int) = ((a &&& b : Nat) : Int) :=
 (Go.bits_nat .u64 64 (by decide) (fun n h0 h1 => by rw [u64w]; omega) a b ha hb).1
theorem i64w (n : Int) : IntKind.i64.wrap n = wrap64 n := IntWalk.i64_left n
theorem i64and (a b : Nat) (ha : a < 9223372036854775808) (hb : b < 9223372036854775808) : Go.bits .and .i64 (a : Int) (b : Int) = ((a &&& b : Nat) : Int) :=
 (Go.bits_nat .i64 63 (by decide) (fun n h0 h1 => by rw [i64w]; exact w64 (by omega) (by omega)) a b ha hb).1
theorem u64andNot (a b : Nat) (ha : a < 18446744073709551616) (hb : b < 18446744073709551616) : Go.bits .andNot .u64 (a : Int) (b : Int) = ((a &&& (18446744073709551615 - b) : Nat) : Int) := by
 have ha' : a % 2 ^ 64 = a := Nat.mod_eq_of_lt ha
 have hb' : b % 2 ^ 64 = b := Nat.mod_eq_of_lt hb
 have e : IntKind.u64.bits = 64 := rfl
 simp only [Go.bits, e, BitVec.ofInt_natCast, BitVec.toNat_and, BitVec.toNat_not, BitVec.toNat_ofNat, ha', hb']
 have h : a &&& (2 ^ 64 - 1 - b) < 2 ^ 64 := Nat.lt_of_le_of_lt Nat.and_le_left ha
 rw [u64w]
 have e2 : (2 : Nat) ^ 64 - 1 - b = 18446744073709551615 - b := rfl
 rw [e2] at h ⊢
 omega
theorem and_high (u : Int) (k : Nat) (hk : k ≤ 64) (h0 : 0 ≤ u) (h1 : u < 18446744073709551616) (m : Int) (hm : m = ((18446744073709551616 - 2 ^ k : Nat) : Int)) : Go.bits .and .u64 u m = u - u % 2 ^ k := by
 obtain ⟨a, rfl⟩ := Int.eq_ofNat_of_zero_le h0
 have hp := pow_le64 k hk
 rw [hm, u64and a _ (by omega) (by omega)]
 have e := nat_and_high a k 64 hk (by omega)
 have e64 : (2 : Nat) ^ 64 = 18446744073709551616 := rfl
 rw [e64] at e
 rw [e]
 have hle : a % 2 ^ k ≤ a := Nat.mod_le _ _
 rw [Int.natCast_sub hle, Int.natCast_emod, Int.natCast_pow]
 rfl
theorem andNot_low (u : Int) (k : Nat) (hk : k ≤ 64) (h0 : 0 ≤ u) (h1 : u < 18446744073709551616) (m : Int) (hm : m = ((2 ^ k - 1 : Nat) : Int)) : Go.bits .andNot .u64 u m = u - u % 2 ^ k := by
 have hp := pow_le64 k hk
 obtain ⟨a, rfl⟩ := Int.eq_ofNat_of_zero_le h0
 have e : Go.bits .andNot .u64 (a : Int) m = Go.bits .and .u64 (a : Int) ((18446744073709551616 - 2 ^ k : Nat) : Int) := by
  rw [hm, u64andNot a _ (by omega) (by omega), u64and a _ (by omega) (by omega)]
  congr 2
  omega
 rw [e]
 exact and_high _ k hk h0 h1 _ rfl
theorem and_four (u : Int) (k : Nat) (hk : k ≤ 32) (h0 : 0 ≤ u) (h1 : u < 4294967296) (m : Int) (hm : m = ((4294967296 - 2 ^ k : Nat) : Int)) : Go.bits .and .i64 u m = u - u % 2 ^ k := by
 obtain ⟨a, rfl⟩ := Int.eq_ofNat_of_zero_le h0
 have hp := pow_le32 k hk
 rw [hm, i64and a _ (by omega) (by omega)]
 have e := nat_and_high a k 32 hk (by omega)
 have e32 : (2 : Nat) ^ 32 = 4294967296 := rfl
 rw [e32] at e
 rw [e]
 have hle : a % 2 ^ k ≤ a := Nat.mod_le _ _
 rw [Int.natCast_sub hle, Int.natCast_emod, Int.natCast_pow]
 rfl
/-- How many bits behind the first b are in the upper, the lower half; of 32. -/
def kHi (b : Int) : Nat := min 64 (64 - b).toNat
def kLo (b : Int) : Nat := min 64 (128 - b).toNat
def kFo (b : Int) : Nat := (32 - b).toNat
def keep (u : Int) (k : Nat) : Int := u - u % 2 ^ k
theorem pow_cast (k : Nat) : ((2 ^ k : Nat) : Int) = 2 ^ k := by simp
theorem keep_mul (u : Int) (k : Nat) : keep u k = 2 ^ k * (u / 2 ^ k) := by
 have := Int.emod_add_mul_ediv u (2 ^ k)
 unfold keep
 omega
theorem keep_bd (u : Int) (k : Nat) (h : 0 ≤ u) : 0 ≤ keep u k ∧ keep u k ≤ u ∧ u < keep u k + 2 ^ k := by
 have hk2 : (0 : Int) < 2 ^ k := Int.pow_pos (by decide)
 have h1 := Int.emod_nonneg u (show (2 : Int) ^ k ≠ 0 by omega)
 have h2 := Int.emod_lt_of_pos u hk2
 have h3 : 0 ≤ u / 2 ^ k := Int.ediv_nonneg h (by omega)
 have h4 : 0 ≤ 2 ^ k * (u / 2 ^ k) := Int.mul_nonneg (by omega) h3
 have h5 := keep_mul u k
 unfold keep at h5 ⊢
 omega
def maskA (x : Bool) (h l b : Int) : Bool × Int × Int :=
 if x = true then (true, wrap64 (keep (h % 18446744073709551616) (kHi b)), wrap64 (keep (l % 18446744073709551616) (kLo b))) else (false, 0, keep l (kFo b))
theorem spec_l2High_e (c : Int) (h0 : -64 ≤ c) (h1 : c ≤ 128) : spec_l2High.f c = some ((18446744073709551616 - 2 ^ (min 64 (64 - c).toNat) : Nat) : Int) := by
 unfold spec_l2High.f
 by_cases h : c ≤ 0
 ·rw [if_pos h, Nat.min_eq_left (by omega)]; rfl
 ·rw [if_neg h]
  by_cases h2 : c ≥ 64
  ·rw [if_pos h2, show (64 - c).toNat = 0 by omega]; rfl
  ·have e := (high_tab (64 - c).toNat (by omega)).2
   have hb : IntKind.u64.bits = 64 := rfl
   rw [if_neg h2, w64 (by omega) (by omega), u64in (by omega) (by omega), if_pos (by omega), shl, u64w, hb, Nat.min_eq_left (show (64 - c).toNat ≤ 64 by omega), Nat.min_eq_right (by omega), ← e]
   simp
theorem spec_l2Mask_e (x : Bool) (h l b : Int) (hb0 : 0 ≤ b) (hb1 : b ≤ if x = true then 128 else 32) (hf : x = false → 0 ≤ l ∧ l < 4294967296) : spec_l2Mask.f x h l b = some (maskA x h l b) := by
 unfold spec_l2Mask.f maskA
 cases x
 ·simp only [Bool.false_eq_true, if_false] at hb1 ⊢
  obtain ⟨hl0, hl1⟩ := hf rfl
  have e := (four_tab b.toNat (by omega)).2
  have hp := pow_le32 (32 - b.toNat) (by omega)
  rw [spec_l2High_e b (by omega) (by omega)]
  simp only [Option.bind_some]
  rw [show min 64 (64 - b).toNat = 64 - b.toNat by omega]
  have hw : wrap64 (((18446744073709551616 - 2 ^ (64 - b.toNat) : Nat) : Int) / 4294967296) = ((4294967296 - 2 ^ (32 - b.toNat) : Nat) : Int) := by
   rw [show (((18446744073709551616 - 2 ^ (64 - b.toNat) : Nat) : Int) / 4294967296) = (((18446744073709551616 - 2 ^ (64 - b.toNat)) / 4294967296 : Nat) : Int) from rfl, e]
   exact w64 (by omega) (by omega)
  rw [hw, and_four l (32 - b.toNat) (by omega) hl0 hl1 _ rfl]
  unfold keep kFo
  rw [show 32 - b.toNat = (32 - b).toNat by omega]
 ·simp only [if_true] at hb1 ⊢
  rw [spec_l2High_e b (by omega) (by omega), w64 (by omega) (by omega), spec_l2High_e (b - 64) (by omega) (by omega)]
  simp only [Option.bind_some]
  rw [u64w, u64w, and_high _ (min 64 (64 - b).toNat) (by omega) (by omega) (by omega) _ rfl, and_high _ (min 64 (64 - (b - 64)).toNat) (by omega) (by omega) (by omega) _ rfl]
  unfold keep kHi kLo
  rw [show (64 - (b - 64)).toNat = (128 - b).toNat by omega]
theorem spec_l2Width_e (x : Bool) (h l : Int) : spec_l2Width.f x h l = some (if x = true then 128 else 32) := by
 unfold spec_l2Width.f
 cases x <;> rfl
theorem impl_masked_e (x : Bool) (h l b : Int) (hb0 : 0 ≤ b) (hb1 : b ≤ if x = true then 128 else 32) (hf : x = false → 0 ≤ l ∧ l < 4294967296) : impl_masked.f x h l b false = some (maskA x h l b) := by
 unfold impl_masked.f maskA
 have hbits : IntKind.u64.bits = 64 := rfl
 cases x
 ·simp only [Bool.false_eq_true, if_false] at hb1 ⊢
  obtain ⟨hl0, hl1⟩ := hf rfl
  have e := (four_tab b.toNat (by omega)).1
  have hp := pow_le32 (32 - b.toNat) (by omega)
  have hs : shr .u64 4294967295 b = ((2 ^ (32 - b.toNat) - 1 : Nat) : Int) := by
   unfold shr
   rw [hbits, Nat.min_eq_left (show b.toNat ≤ 64 by omega), ← e]
   simp
  rw [if_pos hb0, hs, u64in hl0 (by omega), andNot_low l (32 - b.toNat) (by omega) hl0 (by omega) _ rfl]
  have hb := keep_bd l (32 - b.toNat) hl0
  unfold keep at hb
  rw [w64 (by omega) (by omega)]
  unfold keep kFo
  rw [show 32 - b.toNat = (32 - b).toNat by omega]
 ·simp only [if_true, Bool.false_eq_true, if_false] at hb1 ⊢
  by_cases h64 : b < 64
  ·have e := (high_tab b.toNat (by omega)).1
   have hs : shr .u64 18446744073709551615 b = ((2 ^ (64 - b.toNat) - 1 : Nat) : Int) := by
    unfold shr
    rw [hbits, Nat.min_eq_left (show b.toNat ≤ 64 by omega), ← e]
    simp
   rw [if_pos h64, if_pos hb0, hs, u64w, u64w, andNot_low _ (64 - b.toNat) (by omega) (by omega) (by omega) _ rfl, andNot_low _ 64 (by omega) (by omega) (by omega) 18446744073709551615 (by decide)]
   unfold keep kHi kLo
   rw [show min 64 (64 - b).toNat = 64 - b.toNat by omega, show min 64 (128 - b).toNat = 64 by omega]
  ·have e := (high_tab (b - 64).toNat (by omega)).1
   have hs : shr .u64 18446744073709551615 (b - 64) = ((2 ^ (64 - (b - 64).toNat) - 1 : Nat) : Int) := by
    unfold shr
    rw [hbits, Nat.min_eq_left (show (b - 64).toNat ≤ 64 by omega), ← e]
    simp
   rw [if_neg h64, w64 (x := b - 64) (by omega) (by omega), if_pos (by omega), hs, u64w, u64w, andNot_low _ 0 (by omega) (by omega) (by omega) 0 (by decide), andNot_low _ (64 - (b - 64).toNat) (by omega) (by omega) (by omega) _ rfl]
   unfold keep kHi kLo
   rw [show min 64 (64 - b).toNat = 0 by omega, show min 64 (128 - b).toNat = 64 - (b - 64).toNat by omega]
theorem impl_width_e (x : Bool) (h l : Int) : impl_width.f x h l = some (if x = true then 128 else 32) := by
 unfold impl_width.f
 cases x <;> rfl
/-- A prefix is right. -/
def prefOk (x : Bool) (h l b : Int) : Bool := addrOk x h l && decide (0 ≤ b ∧ b ≤ if x = true then 128 else 32) && (maskA x h l b == (x, h, l))
theorem addrOk_four {x : Bool} {h l : Int} (hk : addrOk x h l = true) : x = false → h = 0 ∧ 0 ≤ l ∧ l < 4294967296 := by
 intro hx
 subst hx
 simp [addrOk] at hk
 omega
theorem eq3 (p : Bool × Int × Int) (x : Bool) (h l : Int) : (p.1 == x && (p.2.1 == h && (p.2.2 == l))) = (p == (x, h, l)) := by
 obtain ⟨a, b, c⟩ := p
 rfl
theorem spec_PrefixOk_e (x : Bool) (h l b : Int) : spec_PrefixOk.f x h l b = some (prefOk x h l b) := by
 unfold spec_PrefixOk.f prefOk
 rw [spec_AddrOk_e]
 simp only [Option.bind_some]
 by_cases ha : addrOk x h l = true
 ·rw [if_pos ha, ha, spec_l2Width_e]
  simp only [Option.bind_some, l1In_e, decide_eq_true_eq]
  by_cases hb : 0 ≤ b ∧ b ≤ if x = true then 128 else 32
  ·rw [if_pos hb, decide_eq_true hb, spec_l2Mask_e x h l b hb.1 hb.2 (fun hx => (addrOk_four ha hx).2)]
   simp only [Option.bind_some, eq3, Bool.true_and]
  ·rw [if_neg hb, decide_eq_false hb]; simp
 ·rw [if_neg ha, Bool.eq_false_iff.mpr ha]; simp
theorem impl_PrefixOk_e (x : Bool) (h l b : Int) : impl_PrefixOk.f x h l b = some (prefOk x h l b) := by
 unfold impl_PrefixOk.f prefOk
 rw [impl_AddrOk_e]
 simp only [Option.bind_some]
 by_cases ha : addrOk x h l = true
 ·rw [if_pos ha, ha, impl_width_e]
  simp only [Option.bind_some, from_e, decide_eq_true_eq]
  by_cases hb : 0 ≤ b ∧ b ≤ if x = true then 128 else 32
  ·rw [if_pos hb, decide_eq_true hb, impl_masked_e x h l b hb.1 hb.2 (fun hx => (addrOk_four ha hx).2)]
   simp only [Option.bind_some, eq3, Bool.true_and]
  ·rw [if_neg hb, decide_eq_false hb]; simp
 ·rw [if_neg ha, Bool.eq_false_iff.mpr ha]; simp

/-- A prefix has an address. -/
def hasA (x : Bool) (h l b : Int) (y : Bool) (g m : Int) : Bool := prefOk x h l b && (addrOk y g m && ((y == x) && (maskA y g m b == (x, h, l))))
theorem prefOk_bits {x : Bool} {h l b : Int} (hp : prefOk x h l b = true) : addrOk x h l = true ∧ 0 ≤ b ∧ (b ≤ if x = true then 128 else 32) ∧ maskA x h l b = (x, h, l) := by
 simp only [prefOk, Bool.and_eq_true, decide_eq_true_eq, beq_iff_eq] at hp
 exact ⟨hp.1.1, hp.1.2.1, hp.1.2.2, hp.2⟩
theorem impl_HasAddr_e (x : Bool) (h l b : Int) (y : Bool) (g m : Int) : impl_HasAddr.f x h l b y g m = some (hasA x h l b y g m) := by
 unfold impl_HasAddr.f hasA
 rw [impl_PrefixOk_e]
 simp only [Option.bind_some]
 by_cases hp : prefOk x h l b = true
 ·obtain ⟨_, hb0, hb1, _⟩ := prefOk_bits hp
  rw [if_pos hp, hp, impl_AddrOk_e]
  simp only [Option.bind_some]
  by_cases ha : addrOk y g m = true
  ·rw [if_pos ha, ha]
   by_cases hy : (y == x) = true
   ·have hyx : y = x := by simpa using hy
    rw [if_pos hy, hy, impl_masked_e y g m b hb0 (by rw [hyx]; exact hb1) (fun hx => (addrOk_four ha hx).2)]
    simp only [Option.bind_some, eq3, Bool.true_and]
   ·rw [if_neg hy, Bool.eq_false_iff.mpr hy]; simp
  ·rw [if_neg ha, Bool.eq_false_iff.mpr ha]; simp
 ·rw [if_neg hp, Bool.eq_false_iff.mpr hp]; simp

/-- All of p's addresses are q's. -/
def within (x : Bool) (h l b : Int) (y : Bool) (g m c : Int) : Bool := prefOk x h l b && (hasA y g m c x h l && decide (c ≤ b))
theorem impl_Within_e (x : Bool) (h l b : Int) (y : Bool) (g m c : Int) : impl_Within.f x h l b y g m c = some (within x h l b y g m c) := by
 unfold impl_Within.f within
 rw [impl_PrefixOk_e]
 simp only [Option.bind_some]
 by_cases hp : prefOk x h l b = true
 ·rw [if_pos hp, hp, impl_HasAddr_e]
  simp only [Option.bind_some]
  by_cases hq : hasA y g m c x h l = true
  ·rw [if_pos hq, hq]
   simp
  ·rw [if_neg hq, Bool.eq_false_iff.mpr hq]; simp
 ·rw [if_neg hp, Bool.eq_false_iff.mpr hp]; simp

def in64 (z : Int) : Prop := -9223372036854775808 ≤ z ∧ z ≤ 9223372036854775807
theorem in64_zero : in64 0 := by unfold in64; omega
theorem wrap_in {z : Int} (h : in64 z) : wrap64 (z % 18446744073709551616) = z := by unfold in64 at h; unfold wrap64; omega
theorem wrap_is (z : Int) : in64 (wrap64 z) := by unfold wrap64 in64; omega
/-- An address, or the zero one of what is none. -/
def rightA (x : Bool) (h l : Int) : Bool × Int × Int := if addrOk x h l = true then (x, h, l) else (false, 0, 0)
/-- What is right: of 32 bits its upper half is 0, its lower one below 2^32. -/
structure Right (p : Bool × Int × Int) : Prop where
 four : p.1 = false → p.2.1 = 0 ∧ 0 ≤ p.2.2 ∧ p.2.2 ≤ 4294967295
 hi : in64 p.2.1
 lo : in64 p.2.2
theorem rightA_right (x : Bool) (h l : Int) (hh : in64 h) (hl : in64 l) : Right (rightA x h l) := by
 unfold rightA
 by_cases ha : addrOk x h l = true
 ·rw [if_pos ha]
  refine ⟨fun hx => ?_, hh, hl⟩
  simp only at hx
  subst hx
  simpa [addrOk] using ha
 ·rw [if_neg ha]
  exact ⟨fun _ => ⟨rfl, by simp⟩, in64_zero, in64_zero⟩
theorem rightA_ok {x : Bool} {h l : Int} (ha : addrOk x h l = true) : rightA x h l = (x, h, l) := if_pos ha
theorem impl_right_e (x : Bool) (h l : Int) : impl_right.f x h l = some (rightA x h l) := by
 unfold impl_right.f rightA
 rw [impl_AddrOk_e]
 simp only [Option.bind_some]
 by_cases ha : addrOk x h l = true
 ·rw [if_pos ha, if_pos ha]
 ·rw [if_neg ha, if_neg ha]

/-- Addresses as numbers. -/
def wd (x : Bool) : Nat := if x = true then 128 else 32
def aval (x : Bool) (h l : Int) : Nat := if x = true then (h % 18446744073709551616).toNat * 18446744073709551616 + (l % 18446744073709551616).toNat else l.toNat
def mkA (x : Bool) (v : Nat) : Bool × Int × Int := if x = true then (true, wrap64 ((v / 18446744073709551616 : Nat) : Int), wrap64 ((v % 18446744073709551616 : Nat) : Int)) else (false, 0, (v : Int))
theorem two64 : (2 : Nat) ^ 64 = 18446744073709551616 := by decide
theorem two128 : (2 : Nat) ^ 128 = 340282366920938463463374607431768211456 := by decide
theorem two32 : (2 : Nat) ^ 32 = 4294967296 := by decide
theorem wd_six : wd true = 128 := rfl
theorem wd_four : wd false = 32 := rfl
theorem wrap_mod64 (n : Nat) (h : n < 18446744073709551616) : (wrap64 (n : Int) % 18446744073709551616).toNat = n := by unfold wrap64; omega
theorem aval_mkA (x : Bool) (v : Nat) (h : v < 2 ^ wd x) : aval (mkA x v).1 (mkA x v).2.1 (mkA x v).2.2 = v := by
 cases x
 ·simp [mkA, aval]
 ·rw [wd_six, two128] at h
  simp only [mkA, aval, if_true]
  rw [wrap_mod64 _ (by omega), wrap_mod64 _ (by omega)]
  omega
theorem mkA_fst (x : Bool) (v : Nat) : (mkA x v).1 = x := by cases x <;> rfl
theorem mkA_ok (x : Bool) (v : Nat) (h : v < 2 ^ wd x) : addrOk (mkA x v).1 (mkA x v).2.1 (mkA x v).2.2 = true := by
 cases x
 ·rw [wd_four, two32] at h
  simp [mkA, addrOk]; omega
 ·rfl
theorem aval_lt (x : Bool) (h l : Int) (ha : addrOk x h l = true) : aval x h l < 2 ^ wd x := by
 cases x
 ·rw [wd_four, two32]
  simp [addrOk] at ha
  simp [aval]; omega
 ·rw [wd_six, two128]
  simp only [aval, if_true]
  omega
theorem mkA_aval (x : Bool) (h l : Int) (ha : addrOk x h l = true) (hh : in64 h) (hl : in64 l) : mkA x (aval x h l) = (x, h, l) := by
 cases x
 ·simp [addrOk] at ha
  simp [mkA, aval, ha.1]; omega
 ·simp only [mkA, aval, if_true]
  have e1 : (h % 18446744073709551616).toNat * 18446744073709551616 + (l % 18446744073709551616).toNat = (h % 18446744073709551616).toNat * 18446744073709551616 + (l % 18446744073709551616).toNat := rfl
  have d : ((h % 18446744073709551616).toNat * 18446744073709551616 + (l % 18446744073709551616).toNat) / 18446744073709551616 = (h % 18446744073709551616).toNat := by omega
  have m : ((h % 18446744073709551616).toNat * 18446744073709551616 + (l % 18446744073709551616).toNat) % 18446744073709551616 = (l % 18446744073709551616).toNat := by omega
  rw [d, m, Int.toNat_of_nonneg (by omega), Int.toNat_of_nonneg (by omega), wrap_in hh, wrap_in hl]
theorem mkA_inj (x : Bool) {v u : Nat} (hv : v < 2 ^ wd x) (hu : u < 2 ^ wd x) (e : mkA x v = mkA x u) : v = u := by
 rw [← aval_mkA x v hv, ← aval_mkA x u hu, e]
/-- Numbers of two halves, below a power. -/
theorem mod_hi (H L k : Nat) (hL : L < 18446744073709551616) : (H * 18446744073709551616 + L) % 2 ^ (64 + k) = (H % 2 ^ k) * 18446744073709551616 + L := by
 rw [Nat.pow_add, two64, Nat.mod_mul]
 have d : (H * 18446744073709551616 + L) / 18446744073709551616 = H := by omega
 have m : (H * 18446744073709551616 + L) % 18446744073709551616 = L := by omega
 rw [d, m]
 omega
theorem mod_lo (H L k : Nat) (hk : k ≤ 64) : (H * 18446744073709551616 + L) % 2 ^ k = L % 2 ^ k := by
 have e : 18446744073709551616 = 2 ^ k * 2 ^ (64 - k) := by rw [← Nat.pow_add, show k + (64 - k) = 64 by omega, two64]
 rw [e, Nat.mul_comm H, Nat.mul_assoc, Nat.mul_add_mod]
theorem keep_nat (a k : Nat) : keep (a : Int) k = ((a - a % 2 ^ k : Nat) : Int) := by
 unfold keep
 have : a % 2 ^ k ≤ a := Nat.mod_le _ _
 rw [Int.natCast_sub this, Int.natCast_emod, Int.natCast_pow]
 rfl
/-- The first b bits. -/
def clr (x : Bool) (v : Nat) (b : Int) : Nat := v - v % 2 ^ (wd x - b.toNat)
theorem clr_le (x : Bool) (v : Nat) (b : Int) : clr x v b ≤ v := Nat.sub_le _ _
theorem maskA_val (x : Bool) (h l b : Int) (ha : addrOk x h l = true) (hb0 : 0 ≤ b) (hb1 : b ≤ if x = true then 128 else 32) : maskA x h l b = mkA x (clr x (aval x h l) b) := by
 cases x
 ·simp only [Bool.false_eq_true, if_false] at hb1
  simp only [maskA, mkA, clr, aval, Bool.false_eq_true, if_false, wd_four]
  simp [addrOk] at ha
  obtain ⟨L, hL⟩ := Int.eq_ofNat_of_zero_le ha.2.1
  subst hL
  rw [show kFo b = 32 - b.toNat by unfold kFo; omega]
  rw [keep_nat]
  simp
 ·simp only [if_true] at hb1
  simp only [maskA, mkA, clr, aval, if_true, wd_six]
  obtain ⟨H, hH⟩ := Int.eq_ofNat_of_zero_le (show 0 ≤ h % 18446744073709551616 by omega)
  obtain ⟨L, hL⟩ := Int.eq_ofNat_of_zero_le (show 0 ≤ l % 18446744073709551616 by omega)
  have hHb : H < 18446744073709551616 := by omega
  have hLb : L < 18446744073709551616 := by omega
  rw [hH, hL]
  rw [keep_nat, keep_nat]
  simp only [Int.toNat_natCast]
  by_cases hb : b ≤ 64
  ·rw [show kHi b = 64 - b.toNat by unfold kHi; omega, show kLo b = 64 by unfold kLo; omega, show 128 - b.toNat = 64 + (64 - b.toNat) by omega, mod_hi H L _ hLb]
   have hm := Nat.mod_le H (2 ^ (64 - b.toNat))
   rw [show L % 2 ^ 64 = L by rw [two64]; omega]
   have e1 : (H * 18446744073709551616 + L - (H % 2 ^ (64 - b.toNat) * 18446744073709551616 + L)) / 18446744073709551616 = H - H % 2 ^ (64 - b.toNat) := by omega
   have e2 : (H * 18446744073709551616 + L - (H % 2 ^ (64 - b.toNat) * 18446744073709551616 + L)) % 18446744073709551616 = L - L := by omega
   rw [e1, e2]
  ·rw [show kHi b = 0 by unfold kHi; omega, show kLo b = 128 - b.toNat by unfold kLo; omega, mod_lo H L _ (by omega)]
   have hm := Nat.mod_le L (2 ^ (128 - b.toNat))
   have e1 : (H * 18446744073709551616 + L - L % 2 ^ (128 - b.toNat)) / 18446744073709551616 = H - H % 2 ^ 0 := by
    rw [Nat.pow_zero, Nat.mod_one]
    omega
   have e2 : (H * 18446744073709551616 + L - L % 2 ^ (128 - b.toNat)) % 18446744073709551616 = L - L % 2 ^ (128 - b.toNat) := by omega
   rw [e1, e2]
/-- A prefix's form: its address is a multiple of its size. -/
theorem prefOk_val (x : Bool) (h l b : Int) (hh : in64 h) (hl : in64 l) : prefOk x h l b = true ↔ addrOk x h l = true ∧ 0 ≤ b ∧ b ≤ wd x ∧ aval x h l % 2 ^ (wd x - b.toNat) = 0 := by
 have hw : ((if x = true then 128 else 32 : Int)) = (wd x : Int) := by cases x <;> rfl
 constructor
 ·intro hp
  simp only [prefOk, Bool.and_eq_true, decide_eq_true_eq, beq_iff_eq] at hp
  obtain ⟨⟨ha, hb0, hb1⟩, hm⟩ := hp
  refine ⟨ha, hb0, by omega, ?_⟩
  rw [maskA_val x h l b ha hb0 hb1, ← mkA_aval x h l ha hh hl] at hm
  have hlt := aval_lt x h l ha
  have this := mkA_inj x (Nat.lt_of_le_of_lt (clr_le x (aval x h l) b) hlt) hlt hm
  unfold clr at this
  have := Nat.mod_le (aval x h l) (2 ^ (wd x - b.toNat))
  omega
 ·rintro ⟨ha, hb0, hb1, hz⟩
  simp only [prefOk, Bool.and_eq_true, decide_eq_true_eq, beq_iff_eq]
  refine ⟨⟨ha, hb0, by omega⟩, ?_⟩
  rw [maskA_val x h l b ha hb0 (by omega), clr, hz, Nat.sub_zero, mkA_aval x h l ha hh hl]

theorem mkA_in (x : Bool) (v : Nat) (h : v < 2 ^ wd x) : in64 (mkA x v).2.1 ∧ in64 (mkA x v).2.2 := by
 cases x
 ·rw [wd_four, two32] at h
  simp only [mkA, Bool.false_eq_true, if_false]
  exact ⟨in64_zero, by unfold in64; omega⟩
 ·simp only [mkA, if_true]
  exact ⟨wrap_is _, wrap_is _⟩

/-- The last address of a prefix, as a number. -/
def lastV (x : Bool) (v : Nat) (b : Int) : Nat := v + (2 ^ (wd x - b.toNat) - 1)
theorem not64 (t : Nat) (h : t < 18446744073709551616) : Go.bits BinOp.xor IntKind.u64 (if IntKind.u64.signed = true then -1 else IntKind.u64.max) (t : Int) = ((18446744073709551615 - t : Nat) : Int) := by
 have e1 : (if IntKind.u64.signed = true then (-1 : Int) else IntKind.u64.max) = 18446744073709551615 := by decide
 have e : IntKind.u64.bits = 64 := rfl
 have e2 : BitVec.ofInt 64 18446744073709551615 = BitVec.allOnes 64 := by decide
 have ht : t % 2 ^ 64 = t := Nat.mod_eq_of_lt h
 rw [e1]
 show IntKind.u64.wrap (((BitVec.ofInt 64 18446744073709551615 ^^^ BitVec.ofInt 64 (t : Int)).toNat : Nat) : Int) = _
 rw [e2, BitVec.allOnes_xor, BitVec.ofInt_natCast, BitVec.toNat_not, BitVec.toNat_ofNat, ht, u64w, two64]
 omega
theorem or_fill (u : Int) (k : Nat) (hk : k ≤ 64) (h0 : 0 ≤ u) (h1 : u < 18446744073709551616) (hz : u % 2 ^ k = 0) (m : Int) (hm : m = ((2 ^ k - 1 : Nat) : Int)) : Go.bits .or .u64 u m = u + m := by
 have hp := pow_le64 k hk
 exact u64or_high _ m k h0 hz h1 (by omega) (by rw [hm, ← pow_cast]; omega) hk
theorem i64or_fill (u : Int) (k : Nat) (hk : k ≤ 32) (h0 : 0 ≤ u) (h1 : u < 4294967296) (hz : u % 2 ^ k = 0) (m : Int) (hm : m = ((2 ^ k - 1 : Nat) : Int)) : Go.bits .or .i64 u m = u + m := by
 have hp := pow_le32 k hk
 refine Go.bits_join .i64 63 (by decide) (fun n h0 h1 => by rw [i64w]; exact w64 (by omega) (by omega)) k u m h0 hz (by omega) (by omega) (by rw [hm, ← pow_cast]; omega) (by omega)
theorem high_compl (k : Nat) (hk : k ≤ 64) : 18446744073709551615 - (18446744073709551616 - 2 ^ k) = 2 ^ k - 1 := by
 have := pow_le64 k hk
 omega
theorem fill_div (b : Nat) (hb : b ≤ 32) : (2 ^ (64 - b) - 1) / 4294967296 = 2 ^ (32 - b) - 1 := by
 have t : ∀ n : Fin 33, (2 ^ (64 - n.1) - 1) / 4294967296 = 2 ^ (32 - n.1) - 1 := by decide +kernel
 exact t ⟨b, by omega⟩
/-- What a prefix's form says of its halves. -/
theorem pref_parts (h l b : Int) (hb0 : 0 ≤ b) (hb1 : b ≤ 128) (hz : aval true h l % 2 ^ (128 - b.toNat) = 0) :
  (h % 18446744073709551616) % 2 ^ (min 64 (64 - b).toNat) = 0 ∧ (l % 18446744073709551616) % 2 ^ (min 64 (128 - b).toNat) = 0 := by
 simp only [aval, if_true] at hz
 obtain ⟨H, hH⟩ := Int.eq_ofNat_of_zero_le (show 0 ≤ h % 18446744073709551616 by omega)
 obtain ⟨L, hL⟩ := Int.eq_ofNat_of_zero_le (show 0 ≤ l % 18446744073709551616 by omega)
 have hHb : H < 18446744073709551616 := by omega
 have hLb : L < 18446744073709551616 := by omega
 rw [hH, hL] at hz ⊢
 simp only [Int.toNat_natCast] at hz
 by_cases hb : b ≤ 64
 ·rw [show 128 - b.toNat = 64 + (64 - b.toNat) by omega, mod_hi H L _ hLb] at hz
  have h1 : H % 2 ^ (64 - b.toNat) = 0 := by omega
  have h2 : L = 0 := by omega
  subst h2
  rw [show min 64 (64 - b).toNat = 64 - b.toNat by omega]
  exact ⟨by rw [← pow_cast, ← Int.natCast_emod, h1]; rfl, by simp⟩
 ·rw [mod_lo H L _ (by omega)] at hz
  rw [show min 64 (64 - b).toNat = 0 by omega, show min 64 (128 - b).toNat = 128 - b.toNat by omega]
  exact ⟨by simp, by rw [← pow_cast, ← Int.natCast_emod, hz]; rfl⟩
theorem split_two (a r : Nat) (h : r < 18446744073709551616) : (a * 18446744073709551616 + r) / 18446744073709551616 = a ∧ (a * 18446744073709551616 + r) % 18446744073709551616 = r := by omega
theorem fill_val (h l b : Int) (hb0 : 0 ≤ b) (hb1 : b ≤ 128) (hz : aval true h l % 2 ^ (128 - b.toNat) = 0) :
  mkA true (lastV true (aval true h l) b) = (true, wrap64 (h % 18446744073709551616 + ((2 ^ (min 64 (64 - b).toNat) - 1 : Nat) : Int)), wrap64 (l % 18446744073709551616 + ((2 ^ (min 64 (128 - b).toNat) - 1 : Nat) : Int))) := by
 have hpp := pref_parts h l b hb0 hb1 hz
 simp only [mkA, lastV, aval, if_true, wd_six] at hz ⊢
 obtain ⟨H, hH⟩ := Int.eq_ofNat_of_zero_le (show 0 ≤ h % 18446744073709551616 by omega)
 obtain ⟨L, hL⟩ := Int.eq_ofNat_of_zero_le (show 0 ≤ l % 18446744073709551616 by omega)
 have hHb : H < 18446744073709551616 := by omega
 have hLb : L < 18446744073709551616 := by omega
 rw [hH, hL] at hpp ⊢
 simp only [Int.toNat_natCast]
 by_cases hb : b ≤ 64
 ·rw [show min 64 (128 - b).toNat = 64 by omega] at hpp ⊢
  rw [two64]
  have hL0 : L = 0 := by
   have h2 := hpp.2
   rw [show ((2 : Int) ^ 64) = 18446744073709551616 by decide] at h2
   omega
  subst hL0
  rw [show min 64 (64 - b).toNat = 64 - b.toNat by omega, show 128 - b.toNat = (64 - b.toNat) + 64 by omega, Nat.pow_add, two64]
  have hp := pow_le64 (64 - b.toNat) (by omega)
  generalize 2 ^ (64 - b.toNat) = K at hp ⊢
  have e0 : H * 18446744073709551616 + 0 + (K * 18446744073709551616 - 1) = (H + (K - 1)) * 18446744073709551616 + (0 + (18446744073709551616 - 1)) := by omega
  obtain ⟨e1, e2⟩ := split_two (H + (K - 1)) (0 + (18446744073709551616 - 1)) (by decide)
  rw [e0]
  rw [e1, e2]
  rfl
 ·rw [show min 64 (64 - b).toNat = 0 by omega, show min 64 (128 - b).toNat = 128 - b.toNat by omega] at hpp ⊢
  have hp := pow_le64 (128 - b.toNat) (by omega)
  have hm : L % 2 ^ (128 - b.toNat) = 0 := by
   have h2 := hpp.2
   rw [← pow_cast, ← Int.natCast_emod] at h2
   exact_mod_cast h2
  have hlt : L + (2 ^ (128 - b.toNat) - 1) < 18446744073709551616 := by
   have e : 18446744073709551616 = 2 ^ (128 - b.toNat) * 2 ^ (64 - (128 - b.toNat)) := by rw [← Nat.pow_add, show (128 - b.toNat) + (64 - (128 - b.toNat)) = 64 by omega, two64]
   have hq : L = 2 ^ (128 - b.toNat) * (L / 2 ^ (128 - b.toNat)) := by
    have := Nat.div_add_mod L (2 ^ (128 - b.toNat))
    omega
   have hlt2 : L / 2 ^ (128 - b.toNat) < 2 ^ (64 - (128 - b.toNat)) := by
    rw [Nat.div_lt_iff_lt_mul (by omega), Nat.mul_comm, ← e]
    exact hLb
   have hm2 : 2 ^ (128 - b.toNat) * (L / 2 ^ (128 - b.toNat) + 1) ≤ 2 ^ (128 - b.toNat) * 2 ^ (64 - (128 - b.toNat)) := Nat.mul_le_mul_left _ hlt2
   rw [← e, Nat.mul_add, ← hq] at hm2
   omega
  obtain ⟨e1, e2⟩ := split_two H (L + (2 ^ (128 - b.toNat) - 1)) hlt
  rw [Nat.add_assoc]
  rw [e1, e2]
  rfl
theorem spec_l2Last_e (x : Bool) (h l b : Int) (hh : in64 h) (hl : in64 l) (hp : prefOk x h l b = true) : spec_l2Last.f x h l b = some (mkA x (lastV x (aval x h l) b)) := by
 obtain ⟨ha, hb0, hb1, hz⟩ := (prefOk_val x h l b hh hl).1 hp
 unfold spec_l2Last.f
 cases x
 ·rw [wd_four] at hb1 hz
  simp [addrOk] at ha
  obtain ⟨L, rfl⟩ := Int.eq_ofNat_of_zero_le ha.2.1
  simp only [Bool.false_eq_true, if_false]
  have hp64 := pow_le64 (64 - b.toNat) (by omega)
  have hp32 := pow_le32 (32 - b.toNat) (by omega)
  rw [spec_l2High_e b (by omega) (by omega)]
  simp only [Option.bind_some]
  rw [show min 64 (64 - b).toNat = 64 - b.toNat by omega, not64 _ (by omega), high_compl _ (by omega)]
  rw [show (((2 ^ (64 - b.toNat) - 1 : Nat) : Int) / 4294967296) = (((2 ^ (64 - b.toNat) - 1) / 4294967296 : Nat) : Int) from rfl, fill_div b.toNat (by omega), w64 (by omega) (by omega)]
  have hz2 : L % 2 ^ (32 - b.toNat) = 0 := by simpa [aval] using hz
  rw [i64or_fill (L : Int) (32 - b.toNat) (by omega) (by omega) (by omega) (by rw [← pow_cast, ← Int.natCast_emod, hz2]; rfl) _ rfl]
  simp [mkA, lastV, aval, wd_four]
 ·rw [wd_six] at hb1 hz
  simp only [if_true]
  have hpp := pref_parts h l b hb0 hb1 hz
  rw [spec_l2High_e b (by omega) (by omega), w64 (by omega) (by omega), spec_l2High_e (b - 64) (by omega) (by omega)]
  simp only [Option.bind_some]
  rw [show (64 - (b - 64)).toNat = (128 - b).toNat by omega]
  have p1 := pow_le64 (min 64 (64 - b).toNat) (by omega)
  have p2 := pow_le64 (min 64 (128 - b).toNat) (by omega)
  rw [not64 _ (by omega), not64 _ (by omega), high_compl _ (by omega), high_compl _ (by omega), u64w, u64w]
  rw [or_fill _ _ (by omega) (by omega) (by omega) hpp.1 _ rfl, or_fill _ _ (by omega) (by omega) (by omega) hpp.2 _ rfl, fill_val h l b hb0 hb1 hz]
theorem impl_fill_e (x : Bool) (h l b : Int) (hh : in64 h) (hl : in64 l) (hp : prefOk x h l b = true) : impl_masked.f x h l b true = some (mkA x (lastV x (aval x h l) b)) := by
 obtain ⟨ha, hb0, hb1, hz⟩ := (prefOk_val x h l b hh hl).1 hp
 unfold impl_masked.f
 have hbits : IntKind.u64.bits = 64 := rfl
 cases x
 ·rw [wd_four] at hb1 hz
  simp [addrOk] at ha
  obtain ⟨L, rfl⟩ := Int.eq_ofNat_of_zero_le ha.2.1
  simp only [Bool.false_eq_true, if_false, if_true]
  have e := (four_tab b.toNat (by omega)).1
  have hp32 := pow_le32 (32 - b.toNat) (by omega)
  have hz2 : L % 2 ^ (32 - b.toNat) = 0 := by simpa [aval] using hz
  have hz3 : (L : Int) % 2 ^ (32 - b.toNat) = 0 := by rw [← pow_cast, ← Int.natCast_emod, hz2]; rfl
  have hs : shr .u64 4294967295 b = ((2 ^ (32 - b.toNat) - 1 : Nat) : Int) := by
   unfold shr
   rw [hbits, Nat.min_eq_left (show b.toNat ≤ 64 by omega), ← e]
   simp
  rw [if_pos hb0, hs, u64in (by omega) (by omega), andNot_low (L : Int) (32 - b.toNat) (by omega) (by omega) (by omega) _ rfl, hz3, Int.sub_zero]
  rw [or_fill (L : Int) (32 - b.toNat) (by omega) (by omega) (by omega) hz3 _ rfl, w64 (by omega) (by omega)]
  simp [mkA, lastV, aval, wd_four]
 ·rw [wd_six] at hb1 hz
  simp only [if_true]
  have hpp := pref_parts h l b hb0 hb1 hz
  rw [fill_val h l b hb0 hb1 hz]
  by_cases h64 : b < 64
  ·have e := (high_tab b.toNat (by omega)).1
   have hs : shr .u64 18446744073709551615 b = ((2 ^ (64 - b.toNat) - 1 : Nat) : Int) := by
    unfold shr
    rw [hbits, Nat.min_eq_left (show b.toNat ≤ 64 by omega), ← e]
    simp
   rw [show min 64 (64 - b).toNat = 64 - b.toNat by omega, show min 64 (128 - b).toNat = 64 by omega] at hpp ⊢
   rw [if_pos h64, if_pos hb0, hs, u64w, u64w, andNot_low _ (64 - b.toNat) (by omega) (by omega) (by omega) _ rfl, andNot_low _ 64 (by omega) (by omega) (by omega) 18446744073709551615 (by decide), hpp.1, hpp.2, Int.sub_zero, Int.sub_zero]
   rw [or_fill _ (64 - b.toNat) (by omega) (by omega) (by omega) hpp.1 _ rfl, or_fill _ 64 (by omega) (by omega) (by omega) hpp.2 18446744073709551615 (by decide)]
   rfl
  ·have e := (high_tab (b - 64).toNat (by omega)).1
   have hs : shr .u64 18446744073709551615 (b - 64) = ((2 ^ (64 - (b - 64).toNat) - 1 : Nat) : Int) := by
    unfold shr
    rw [hbits, Nat.min_eq_left (show (b - 64).toNat ≤ 64 by omega), ← e]
    simp
   rw [show min 64 (64 - b).toNat = 0 by omega, show min 64 (128 - b).toNat = 64 - (b - 64).toNat by omega] at hpp ⊢
   rw [if_neg h64, w64 (x := b - 64) (by omega) (by omega), if_pos (by omega), hs, u64w, u64w, andNot_low _ 0 (by omega) (by omega) (by omega) 0 (by decide), andNot_low _ (64 - (b - 64).toNat) (by omega) (by omega) (by omega) _ rfl, hpp.1, hpp.2, Int.sub_zero, Int.sub_zero]
   rw [or_fill _ 0 (by omega) (by omega) (by omega) hpp.1 0 (by decide), or_fill _ (64 - (b - 64).toNat) (by omega) (by omega) (by omega) hpp.2 _ rfl]
   rfl
def lastOf (x : Bool) (h l b : Int) : Bool × Int × Int × Bool := if prefOk x h l b = true then ((mkA x (lastV x (aval x h l) b)).1, (mkA x (lastV x (aval x h l) b)).2.1, (mkA x (lastV x (aval x h l) b)).2.2, true) else (false, 0, 0, false)
theorem impl_LastOf_e (x : Bool) (h l b : Int) (hh : in64 h) (hl : in64 l) : impl_LastOf.f x h l b = some (lastOf x h l b) := by
 unfold impl_LastOf.f lastOf
 rw [impl_PrefixOk_e]
 simp only [Option.bind_some]
 by_cases hp : prefOk x h l b = true
 ·rw [if_pos hp, if_pos hp, impl_fill_e x h l b hh hl hp]; rfl
 ·rw [if_neg hp, if_neg hp]

/-- Bit n (from 1 on, of x's width) of v the other way, where the bits behind it are 0. -/
def flipV (x : Bool) (v : Nat) (n : Int) : Nat := if (v / 2 ^ (wd x - n.toNat)) % 2 = 0 then v + 2 ^ (wd x - n.toNat) else v - 2 ^ (wd x - n.toNat)
theorem xor_one (q : Nat) : q ^^^ 1 = if q % 2 = 0 then q + 1 else q - 1 := by
 apply Nat.eq_of_testBit_eq
 intro i
 cases i with
 | zero =>
  rw [Nat.testBit_xor, Nat.testBit_zero, Nat.testBit_zero, Nat.testBit_zero]
  split
  ·have e1 : decide (q % 2 = 1) = false := decide_eq_false (by omega)
   have e2 : decide ((q + 1) % 2 = 1) = true := decide_eq_true (by omega)
   rw [e1, e2]; rfl
  ·have e1 : decide (q % 2 = 1) = true := decide_eq_true (by omega)
   have e2 : decide ((q - 1) % 2 = 1) = false := decide_eq_false (by omega)
   rw [e1, e2]; rfl
 | succ i =>
  rw [Nat.testBit_xor, Nat.testBit_succ, Nat.testBit_succ, Nat.testBit_succ]
  rw [show (1 : Nat) / 2 = 0 by decide, Nat.zero_testBit, Bool.xor_false]
  congr 1
  split <;> omega
theorem xor_pow (a k : Nat) (hz : a % 2 ^ k = 0) : a ^^^ 2 ^ k = if (a / 2 ^ k) % 2 = 0 then a + 2 ^ k else a - 2 ^ k := by
 have hp : 0 < 2 ^ k := Nat.two_pow_pos k
 have hq : a = 2 ^ k * (a / 2 ^ k) := by
  have := Nat.div_add_mod a (2 ^ k)
  omega
 have h1 : a ^^^ 2 ^ k = 2 ^ k * ((a / 2 ^ k) ^^^ 1) := by
  apply Nat.eq_of_testBit_eq
  intro i
  conv => lhs; rw [hq]
  rw [Nat.testBit_xor, Nat.testBit_two_pow_mul, Nat.testBit_two_pow_mul, Nat.testBit_xor]
  by_cases hi : k ≤ i
  ·have : (2 ^ k).testBit i = Nat.testBit 1 (i - k) := by
    conv => lhs; rw [← Nat.mul_one (2 ^ k)]
    rw [Nat.testBit_two_pow_mul]
    simp [hi]
   simp [hi, this]
  ·have : (2 ^ k).testBit i = false := Nat.testBit_two_pow_of_ne (by omega)
   simp [hi, this]
 rw [h1, xor_one]
 split
 ·rw [Nat.mul_add, ← hq, Nat.mul_one]
 ·rw [Nat.mul_sub, ← hq, Nat.mul_one]
theorem xor64 (a b : Int) : Go.bits .xor .i64 a b = wrap64 (((a % 18446744073709551616).toNat ^^^ (b % 18446744073709551616).toNat : Nat) : Int) := by
 show IntKind.i64.wrap (((BitVec.ofInt 64 a ^^^ BitVec.ofInt 64 b).toNat : Nat) : Int) = _
 rw [BitVec.toNat_xor, BitVec.toNat_ofInt, BitVec.toNat_ofInt, i64w, two64]
 rfl
theorem div_hi (H L k : Nat) (hL : L < 18446744073709551616) : (H * 18446744073709551616 + L) / 2 ^ (64 + k) = H / 2 ^ k := by
 rw [Nat.pow_add, two64, ← Nat.div_div_eq_div_mul]
 congr 1
 omega
theorem div_lo (H L k : Nat) (hk : k < 64) : ((H * 18446744073709551616 + L) / 2 ^ k) % 2 = (L / 2 ^ k) % 2 := by
 have e : 18446744073709551616 = 2 ^ k * (2 * 2 ^ (63 - k)) := by rw [← Nat.pow_succ', ← Nat.pow_add, show k + (63 - k).succ = 64 by omega, two64]
 rw [e, Nat.mul_comm H, Nat.mul_assoc, Nat.mul_add_div (Nat.two_pow_pos k), Nat.mul_assoc, Nat.mul_add_mod]
theorem shl_pow (k : IntKind) (n : Int) (m : Nat) (hk : k.bits = 64) (hn : n = m) (hm : m < 63) (hw : ∀ z : Int, 0 ≤ z → z < 9223372036854775808 → k.wrap z = z) : shl k 1 n = ((2 ^ m : Nat) : Int) := by
 unfold shl
 have hlt : 2 ^ m < 9223372036854775808 := Nat.lt_of_lt_of_le (Nat.pow_lt_pow_right (by decide) hm) (by decide)
 rw [hk, hn, Int.toNat_natCast, Nat.min_eq_left (by omega), Int.one_mul, ← pow_cast]
 generalize 2 ^ m = K at hlt ⊢
 exact hw _ (by omega) (by omega)
theorem shl_pow64 (n : Int) (m : Nat) (hn : n = m) (hm : m ≤ 63) : shl .u64 1 n = ((2 ^ m : Nat) : Int) := by
 unfold shl
 have hlt : 2 ^ m < 18446744073709551616 := Nat.lt_of_lt_of_le (Nat.pow_lt_pow_right (by decide) (show m < 64 by omega)) (by decide)
 have hb : IntKind.u64.bits = 64 := rfl
 rw [hb, hn, Int.toNat_natCast, Nat.min_eq_left (by omega), Int.one_mul, ← pow_cast]
 generalize 2 ^ m = K at hlt ⊢
 exact u64in (by omega) (by omega)
theorem toNat_u {H : Nat} {h : Int} (hH : h % 18446744073709551616 = H) : (h % 18446744073709551616).toNat = H := by rw [hH]; rfl
theorem impl_flipped_e (x : Bool) (h l n : Int) (ha : addrOk x h l = true) (hh : in64 h) (hl : in64 l) (hn0 : 1 ≤ n) (hn1 : n ≤ wd x) (hz : aval x h l % 2 ^ (wd x - n.toNat) = 0) : impl_flipped.f x h l n = some (mkA x (flipV x (aval x h l) n)) := by
 unfold impl_flipped.f impl_lastBit.f
 cases x
 ·rw [wd_four] at hn1 hz
  simp [addrOk] at ha
  obtain ⟨rfl, ha0, ha1⟩ := ha
  obtain ⟨L, rfl⟩ := Int.eq_ofNat_of_zero_le ha0
  simp only [Bool.false_eq_true, if_false]
  rw [w64 (by omega) (by omega), if_pos (by omega), shl_pow .i64 (32 - n) (32 - n.toNat) rfl (by omega) (by omega) (fun z h0 h1 => by rw [i64w]; exact w64 (by omega) (by omega))]
  simp only [Option.bind_some, xor64]
  have hlt : 2 ^ (32 - n.toNat) < 4294967296 := Nat.lt_of_lt_of_le (Nat.pow_lt_pow_right (by decide) (show 32 - n.toNat < 32 by omega)) (by decide)
  have e1 : (((L : Int)) % 18446744073709551616).toNat = L := by omega
  have e2 : (((2 ^ (32 - n.toNat) : Nat) : Int) % 18446744073709551616).toNat = 2 ^ (32 - n.toNat) := by omega
  have hz2 : L % 2 ^ (32 - n.toNat) = 0 := by simpa [aval] using hz
  rw [e1, e2, xor_pow L _ hz2]
  simp only [mkA, flipV, aval, wd_four, Bool.false_eq_true, if_false, Int.toNat_natCast]
  have e3 : wrap64 ((((0 : Int) % 18446744073709551616).toNat ^^^ ((0 : Int) % 18446744073709551616).toNat : Nat) : Int) = 0 := by rw [Nat.xor_self]; exact w64 (x := ((0 : Nat) : Int)) (by decide) (by decide)
  rw [e3]
  congr 3
  split
  ·rw [w64 (by omega) (by omega)]
  ·rw [w64 (by omega) (by omega)]
 ·rw [wd_six] at hn1 hz
  simp only [if_true]
  have hpp := pref_parts h l n (by omega) hn1 hz
  simp only [aval, if_true] at hz
  obtain ⟨H, hH⟩ := Int.eq_ofNat_of_zero_le (show 0 ≤ h % 18446744073709551616 by omega)
  obtain ⟨L, hL⟩ := Int.eq_ofNat_of_zero_le (show 0 ≤ l % 18446744073709551616 by omega)
  have hHb : H < 18446744073709551616 := by omega
  have hLb : L < 18446744073709551616 := by omega
  have uH := toNat_u hH
  have uL := toNat_u hL
  have u0 : ((0 : Int) % 18446744073709551616).toNat = 0 := by decide
  rw [hH, hL] at hpp
  simp only [mkA, flipV, aval, wd_six, if_true, uH, uL]
  by_cases hb : n ≤ 64
  ·rw [if_pos hb, w64 (x := 64 - n) (by omega) (by omega), if_pos (by omega), shl_pow64 (64 - n) (64 - n.toNat) (by omega) (by omega)]
   simp only [Option.bind_some, xor64, uH, uL, u0, Nat.xor_zero]
   have hlt : 2 ^ (64 - n.toNat) < 18446744073709551616 := Nat.lt_of_lt_of_le (Nat.pow_lt_pow_right (by decide) (show 64 - n.toNat < 64 by omega)) (by decide)
   have e2 : (wrap64 ((2 ^ (64 - n.toNat) : Nat) : Int) % 18446744073709551616).toNat = 2 ^ (64 - n.toNat) := wrap_mod64 _ hlt
   have hz1 : H % 2 ^ (64 - n.toNat) = 0 := by
    have h2 := hpp.1
    rw [show min 64 (64 - n).toNat = 64 - n.toNat by omega, ← pow_cast, ← Int.natCast_emod] at h2
    exact_mod_cast h2
   have hz2 : L = 0 := by
    have h2 := hpp.2
    rw [show min 64 (128 - n).toNat = 64 by omega, show ((2 : Int) ^ 64) = 18446744073709551616 by decide] at h2
    omega
   subst hz2
   rw [e2, xor_pow H _ hz1, show 128 - n.toNat = 64 + (64 - n.toNat) by omega, div_hi H 0 _ (by decide), Nat.pow_add 2 64, two64]
   generalize hK : 2 ^ (64 - n.toNat) = K at hz1 hlt ⊢
   have hKle : (H / K) % 2 ≠ 0 → K ≤ H := by
    intro hne
    rcases Nat.lt_or_ge H K with hlt2 | hge
    ·rw [Nat.div_eq_of_lt hlt2] at hne
     exact absurd rfl hne
    ·exact hge
   split
   ·rw [show H * 18446744073709551616 + 0 + 18446744073709551616 * K = (H + K) * 18446744073709551616 + 0 by omega]
    obtain ⟨e3, e4⟩ := split_two (H + K) 0 (by decide)
    rw [e3, e4]
   ·rename_i hne
    have := hKle hne
    rw [show H * 18446744073709551616 + 0 - 18446744073709551616 * K = (H - K) * 18446744073709551616 + 0 by omega]
    obtain ⟨e3, e4⟩ := split_two (H - K) 0 (by decide)
    rw [e3, e4]
  ·rw [if_neg hb, w64 (x := 128 - n) (by omega) (by omega), if_pos (by omega), shl_pow64 (128 - n) (128 - n.toNat) (by omega) (by omega)]
   simp only [Option.bind_some, xor64, uH, uL, u0, Nat.xor_zero]
   have hlt : 2 ^ (128 - n.toNat) < 18446744073709551616 := Nat.lt_of_lt_of_le (Nat.pow_lt_pow_right (by decide) (show 128 - n.toNat < 64 by omega)) (by decide)
   have e2 : (wrap64 ((2 ^ (128 - n.toNat) : Nat) : Int) % 18446744073709551616).toNat = 2 ^ (128 - n.toNat) := wrap_mod64 _ hlt
   have hz1 : L % 2 ^ (128 - n.toNat) = 0 := by
    have h2 := hpp.2
    rw [show min 64 (128 - n).toNat = 128 - n.toNat by omega, ← pow_cast, ← Int.natCast_emod] at h2
    exact_mod_cast h2
   have hxl : L ^^^ 2 ^ (128 - n.toNat) < 18446744073709551616 := by
    rw [← two64] at hLb hlt ⊢
    exact Nat.xor_lt_two_pow hLb hlt
   rw [e2]
   rw [xor_pow L _ hz1] at hxl ⊢
   rw [div_lo H L _ (by omega)]
   generalize hK : 2 ^ (128 - n.toNat) = K at hz1 hlt hxl ⊢
   have hKle : (L / K) % 2 ≠ 0 → K ≤ L := by
    intro hne
    rcases Nat.lt_or_ge L K with hlt2 | hge
    ·rw [Nat.div_eq_of_lt hlt2] at hne
     exact absurd rfl hne
    ·exact hge
   by_cases hev : (L / K) % 2 = 0
   ·rw [if_pos hev] at hxl
    rw [if_pos hev, if_pos hev, show H * 18446744073709551616 + L + K = H * 18446744073709551616 + (L + K) by omega]
    obtain ⟨e3, e4⟩ := split_two H (L + K) hxl
    rw [e3, e4]
   ·have := hKle hev
    rw [if_neg hev, if_neg hev, show H * 18446744073709551616 + L - K = H * 18446744073709551616 + (L - K) by omega]
    obtain ⟨e3, e4⟩ := split_two H (L - K) (Nat.lt_of_le_of_lt (Nat.sub_le _ _) hLb)
    rw [e3, e4]

/-- The prefix of so many bits that has an address. -/
def prefixOf (x : Bool) (h l b : Int) : Bool × Int × Int × Int × Bool :=
 if addrOk x h l = true ∧ 0 ≤ b ∧ (b ≤ if x = true then 128 else 32) then ((maskA x h l b).1, (maskA x h l b).2.1, (maskA x h l b).2.2, b, true) else (false, 0, 0, 0, false)
theorem spec_PrefixOf_e (x : Bool) (h l b : Int) : spec_PrefixOf.f x h l b = some (prefixOf x h l b) := by
 unfold spec_PrefixOf.f prefixOf
 simp only [spec_AddrOk_e, Option.bind_some, spec_l2Width_e, l1In_e]
 by_cases ha : addrOk x h l = true
 ·simp only [ha, Bool.not_true, true_and]
  by_cases hb : 0 ≤ b ∧ b ≤ if x = true then 128 else 32
  ·simp only [decide_eq_true hb, if_pos hb, spec_l2Mask_e x h l b hb.1 hb.2 (fun hx => (addrOk_four ha hx).2)]
   simp
  ·simp only [decide_eq_false hb, if_neg hb]
   simp
 ·simp [Bool.eq_false_iff.mpr ha]
theorem impl_PrefixOf_e (x : Bool) (h l b : Int) : impl_PrefixOf.f x h l b = some (prefixOf x h l b) := by
 unfold impl_PrefixOf.f prefixOf
 simp only [impl_AddrOk_e, Option.bind_some, impl_width_e, from_e]
 by_cases ha : addrOk x h l = true
 ·simp only [ha, Bool.not_true, true_and]
  by_cases hb : 0 ≤ b ∧ b ≤ if x = true then 128 else 32
  ·simp only [decide_eq_true hb, if_pos hb, impl_masked_e x h l b hb.1 hb.2 (fun hx => (addrOk_four ha hx).2)]
   simp
  ·simp only [decide_eq_false hb, if_neg hb]
   simp
 ·simp [Bool.eq_false_iff.mpr ha]

def aboveP (x : Bool) (h l b : Int) : Bool × Int × Int × Int × Bool := if prefOk x h l b = true ∧ b ≠ 0 then prefixOf x h l (b - 1) else (false, 0, 0, 0, false)
theorem prefOk_b {x : Bool} {h l b : Int} (hp : prefOk x h l b = true) : 0 ≤ b ∧ b ≤ 128 := by
 simp only [prefOk, Bool.and_eq_true, decide_eq_true_eq] at hp
 have := hp.1.2
 split at this <;> omega
theorem impl_Above_e (x : Bool) (h l b : Int) : impl_Above.f x h l b = some (aboveP x h l b) := by
 unfold impl_Above.f aboveP
 rw [impl_PrefixOk_e]
 simp only [Option.bind_some]
 by_cases hp : prefOk x h l b = true
 ·have hb := prefOk_b hp
  rw [if_pos hp, impl_PrefixOf_e, w64 (by omega) (by omega)]
  by_cases h0 : b = 0
  ·rw [if_pos h0, if_neg (by simp [h0])]
  ·rw [if_neg h0, if_pos ⟨hp, h0⟩]; rfl
 ·rw [if_neg hp, if_neg (by simp [hp])]

theorem half_arith (v k : Nat) (hz : v % (2 ^ (k + 1)) = 0) : (v + (2 ^ (k + 1) - 1)) - (v + (2 ^ (k + 1) - 1)) % 2 ^ k = v + 2 ^ k ∧ v % 2 ^ k = 0 ∧ (v / 2 ^ k) % 2 = 0 := by
 have hp : 0 < 2 ^ k := Nat.two_pow_pos k
 rw [Nat.pow_succ] at hz ⊢
 have h1 := Nat.div_add_mod v (2 ^ k * 2)
 rw [hz, Nat.mul_assoc] at h1
 generalize v / (2 ^ k * 2) = q at h1
 generalize 2 ^ k = K at *
 have e0 : v = K * (2 * q) := by omega
 have e1 : v + (K * 2 - 1) = K * (2 * q + 1) + (K - 1) := by rw [Nat.mul_add]; omega
 refine ⟨?_, by rw [e0, Nat.mul_mod_right], by rw [e0, Nat.mul_div_cancel_left _ hp]; omega⟩
 rw [e1, Nat.mul_add_mod, Nat.mod_eq_of_lt (show K - 1 < K by omega)]
 rw [Nat.mul_add]
 omega
theorem fit_half (v k w : Nat) (hk : k < w) (hz : v % (2 ^ (k + 1)) = 0) (hv : v < 2 ^ w) : v + 2 ^ (k + 1) ≤ 2 ^ w := by
 have e : (2 : Nat) ^ w = 2 ^ (k + 1) * 2 ^ (w - (k + 1)) := by rw [← Nat.pow_add]; congr 1; omega
 rw [e] at hv ⊢
 have h1 := Nat.div_add_mod v (2 ^ (k + 1))
 rw [hz] at h1
 have h2 : v / 2 ^ (k + 1) < 2 ^ (w - (k + 1)) := Nat.div_lt_of_lt_mul hv
 have h3 := Nat.mul_le_mul_left (2 ^ (k + 1)) (Nat.succ_le_of_lt h2)
 rw [Nat.mul_succ] at h3
 omega
def halfV (x : Bool) (v : Nat) (b : Int) : Nat := v + 2 ^ (wd x - (b + 1).toNat)
/-- What is known of a prefix with halves. -/
theorem half_facts (x : Bool) (h l b : Int) (hh : in64 h) (hl : in64 l) (hp : prefOk x h l b = true) (hb : b ≠ wd x) :
  addrOk x h l = true ∧ 0 ≤ b ∧ b < wd x ∧ aval x h l % 2 ^ (wd x - (b + 1).toNat) = 0 ∧ flipV x (aval x h l) (b + 1) = halfV x (aval x h l) b ∧
  lastV x (aval x h l) b < 2 ^ wd x ∧ clr x (lastV x (aval x h l) b) (b + 1) = halfV x (aval x h l) b := by
 obtain ⟨ha, hb0, hb1, hz⟩ := (prefOk_val x h l b hh hl).mp hp
 have hk : wd x - b.toNat = (wd x - (b + 1).toNat) + 1 := by omega
 have hlt := aval_lt x h l ha
 rw [hk] at hz
 obtain ⟨e1, e2, e3⟩ := half_arith _ _ hz
 have hf := fit_half _ _ (wd x) (by omega) hz hlt
 have hpp : 0 < 2 ^ (wd x - (b + 1).toNat + 1) := Nat.two_pow_pos _
 refine ⟨ha, hb0, by omega, e2, ?_, ?_, ?_⟩
 ·unfold flipV halfV; rw [if_pos e3]
 ·unfold lastV; rw [hk]; omega
 ·unfold clr lastV halfV; rw [hk, e1]
theorem spec_l2Halves_e (x : Bool) (h l b : Int) (hh : in64 h) (hl : in64 l) (hp : prefOk x h l b = true) (hb : b ≠ wd x) :
  spec_l2Halves.f x h l b = some (x, h, l, b + 1, (mkA x (halfV x (aval x h l) b)).1, (mkA x (halfV x (aval x h l) b)).2.1, (mkA x (halfV x (aval x h l) b)).2.2, b + 1) := by
 obtain ⟨ha, hb0, hb1, hz, hfl, hlast, hclr⟩ := half_facts x h l b hh hl hp hb
 have hw : (wd x : Int) ≤ 128 := by cases x <;> decide
 have hw2 : ((if x = true then 128 else 32 : Int)) = (wd x : Int) := by cases x <;> rfl
 have hok := mkA_ok x _ hlast
 unfold spec_l2Halves.f
 rw [spec_l2Last_e x h l b hh hl hp]
 simp only [Option.bind_some]
 have hmk : (mkA x (lastV x (aval x h l) b)).1 = x := mkA_fst x _
 have hav := aval_mkA x _ hlast
 rw [hmk] at hok hav ⊢
 rw [w64 (x := b + 1) (by omega) (by omega), spec_l2Mask_e x _ _ (b + 1) (by omega) (by omega) (fun hx => (addrOk_four hok hx).2), maskA_val x _ _ (b + 1) hok (by omega) (by omega), hav, hclr]
 rfl
def halvesOf (x : Bool) (h l b : Int) : Bool × Int × Int × Int × Bool × Int × Int × Int × Bool :=
 if prefOk x h l b = true ∧ b ≠ wd x then (x, h, l, b + 1, (mkA x (halfV x (aval x h l) b)).1, (mkA x (halfV x (aval x h l) b)).2.1, (mkA x (halfV x (aval x h l) b)).2.2, b + 1, true) else (false, 0, 0, 0, false, 0, 0, 0, false)
theorem wdI (x : Bool) : ((if x = true then 128 else 32 : Int)) = (wd x : Int) := by cases x <;> rfl
theorem spec_Halves_e (x : Bool) (h l b : Int) (hh : in64 h) (hl : in64 l) : spec_Halves.f x h l b = some (halvesOf x h l b) := by
 unfold spec_Halves.f halvesOf
 rw [spec_PrefixOk_e, spec_l2Width_e, wdI]
 simp only [Option.bind_some]
 by_cases hp : prefOk x h l b = true
 ·by_cases hb : b = wd x
  ·rw [if_pos hp, if_pos hb, if_neg (by simp [hb])]
  ·rw [if_pos hp, if_neg hb, if_pos ⟨hp, hb⟩, spec_l2Halves_e x h l b hh hl hp hb]; rfl
 ·rw [if_neg hp, if_neg (by simp [hp])]
theorem impl_Halves_e (x : Bool) (h l b : Int) (hh : in64 h) (hl : in64 l) : impl_Halves.f x h l b = some (halvesOf x h l b) := by
 unfold impl_Halves.f halvesOf
 rw [impl_PrefixOk_e, impl_width_e, wdI]
 simp only [Option.bind_some]
 by_cases hp : prefOk x h l b = true
 ·by_cases hb : b = wd x
  ·rw [if_pos hp, if_pos hb, if_neg (by simp [hb])]
  ·obtain ⟨ha, hb0, hb1, hz, hfl, hlast, hclr⟩ := half_facts x h l b hh hl hp hb
   have hw : (wd x : Int) ≤ 128 := by cases x <;> decide
   rw [if_pos hp, if_neg hb, if_pos ⟨hp, hb⟩, w64 (x := b + 1) (by omega) (by omega), impl_flipped_e x h l (b + 1) ha hh hl (by omega) (by omega) hz, hfl]; rfl
 ·rw [if_neg hp, if_neg (by simp [hp])]

theorem within_val (x : Bool) (h l b : Int) (y : Bool) (g m c : Int) (hh : in64 h) (hl : in64 l) (hg : in64 g) (hm : in64 m) :
  within x h l b y g m c = true ↔ prefOk x h l b = true ∧ prefOk y g m c = true ∧ x = y ∧ c ≤ b ∧ clr x (aval x h l) c = aval y g m := by
 unfold within hasA
 simp only [Bool.and_eq_true, beq_iff_eq, decide_eq_true_eq]
 constructor
 ·rintro ⟨hp, ⟨hq, ha, hxy, hmk⟩, hle⟩
  subst hxy
  obtain ⟨hqa, hc0, hc1, _⟩ := prefOk_bits hq
  refine ⟨hp, hq, rfl, hle, ?_⟩
  rw [maskA_val x h l c ha hc0 hc1, ← mkA_aval x g m hqa hg hm] at hmk
  exact mkA_inj x (Nat.lt_of_le_of_lt (clr_le _ _ _) (aval_lt x h l ha)) (aval_lt x g m hqa) hmk
 ·rintro ⟨hp, hq, hxy, hle, hv⟩
  subst hxy
  obtain ⟨hqa, hc0, hc1, _⟩ := prefOk_bits hq
  obtain ⟨ha, _⟩ := prefOk_bits hp
  refine ⟨hp, ⟨hq, ha, rfl, ?_⟩, hle⟩
  rw [maskA_val x h l c ha hc0 hc1, hv, mkA_aval x g m hqa hg hm]
/-- The lower and the upper half's numbers. -/
def upQ (x : Bool) (h lo b : Int) : Bool × Int × Int := mkA x (halfV x (aval x h lo) b)
theorem half_lt (x : Bool) (h l b : Int) (hh : in64 h) (hl : in64 l) (hp : prefOk x h l b = true) (hb : b ≠ wd x) : halfV x (aval x h l) b < 2 ^ wd x := by
 obtain ⟨_, _, _, _, _, h1, h2⟩ := half_facts x h l b hh hl hp hb
 rw [← h2]
 exact Nat.lt_of_le_of_lt (clr_le _ _ _) h1
theorem half_low_ok (x : Bool) (h l b : Int) (hh : in64 h) (hl : in64 l) (hp : prefOk x h l b = true) (hb : b ≠ wd x) : prefOk x h l (b + 1) = true := by
 obtain ⟨ha, hb0, hb1, hz, _⟩ := half_facts x h l b hh hl hp hb
 exact (prefOk_val x h l (b + 1) hh hl).mpr ⟨ha, by omega, by omega, hz⟩
theorem half_up_ok (x : Bool) (h l b : Int) (hh : in64 h) (hl : in64 l) (hp : prefOk x h l b = true) (hb : b ≠ wd x) :
  (upQ x h l b).1 = x ∧ in64 (upQ x h l b).2.1 ∧ in64 (upQ x h l b).2.2 ∧ aval x (upQ x h l b).2.1 (upQ x h l b).2.2 = halfV x (aval x h l) b ∧ prefOk x (upQ x h l b).2.1 (upQ x h l b).2.2 (b + 1) = true := by
 obtain ⟨ha, hb0, hb1, hz, _⟩ := half_facts x h l b hh hl hp hb
 have hlt := half_lt x h l b hh hl hp hb
 have hin := mkA_in x _ hlt
 have hf : (upQ x h l b).1 = x := mkA_fst x _
 have hav := aval_mkA x _ hlt
 have hok := mkA_ok x _ hlt
 rw [mkA_fst] at hav hok
 refine ⟨hf, hin.1, hin.2, hav, (prefOk_val x _ _ (b + 1) hin.1 hin.2).mpr ⟨hok, by omega, by omega, ?_⟩⟩
 rw [hav]
 unfold halfV
 rw [Nat.add_mod, hz, Nat.mod_self, Nat.add_zero, Nat.zero_mod]

def sibOf (x : Bool) (h l b : Int) : Bool × Int × Int × Int × Bool :=
 if prefOk x h l b = true ∧ b ≠ 0 then ((mkA x (flipV x (aval x h l) b)).1, (mkA x (flipV x (aval x h l) b)).2.1, (mkA x (flipV x (aval x h l) b)).2.2, b, true) else (false, 0, 0, 0, false)
theorem impl_Sibling_e (x : Bool) (h l b : Int) (hh : in64 h) (hl : in64 l) : impl_Sibling.f x h l b = some (sibOf x h l b) := by
 unfold impl_Sibling.f sibOf
 rw [impl_PrefixOk_e]
 simp only [Option.bind_some]
 by_cases hp : prefOk x h l b = true
 ·by_cases hb : b = 0
  ·rw [if_pos hp, if_pos hb, if_neg (by simp [hb])]
  ·obtain ⟨ha, hb0, hb1, hz⟩ := (prefOk_val x h l b hh hl).mp hp
   rw [if_pos hp, if_neg hb, if_pos ⟨hp, hb⟩, impl_flipped_e x h l b ha hh hl (by omega) (by omega) hz]; rfl
 ·rw [if_neg hp, if_neg (by simp [hp])]

/-- The address n farther. -/
def addR (p : Bool × Int × Int) (n : Int) : Bool × Int × Int × Bool :=
 if n < 0 then (false, 0, 0, false) else
 if p.1 = true then
  (if p.2.2 % 18446744073709551616 + n < 18446744073709551616 then (true, p.2.1, wrap64 (p.2.2 % 18446744073709551616 + n), true)
  else if p.2.1 % 18446744073709551616 = 18446744073709551615 then (false, 0, 0, false) else (true, wrap64 (p.2.1 % 18446744073709551616 + 1), wrap64 (p.2.2 % 18446744073709551616 + n), true))
 else if n > 4294967295 - p.2.2 then (false, 0, 0, false) else (false, 0, p.2.2 + n, true)
def addTo (x : Bool) (h l n : Int) : Bool × Int × Int × Bool := addR (rightA x h l) n
theorem wrap_mod (a b : Int) (h : a % 18446744073709551616 = b % 18446744073709551616) : wrap64 a = wrap64 b := by unfold wrap64; omega
theorem impl_AddTo_e (x : Bool) (h l n : Int) (hh : in64 h) (hl : in64 l) (hn : in64 n) : impl_AddTo.f x h l n = some (addTo x h l n) := by
 unfold impl_AddTo.f addTo
 rw [impl_right_e]
 have r := rightA_right x h l hh hl
 generalize rightA x h l = p at r ⊢
 obtain ⟨p0, p1, p2⟩ := p
 have hr := r.hi
 have hlo := r.lo
 have hfo := r.four
 simp only [in64] at hr hlo hn hfo
 simp only [Option.bind_some, addR]
 by_cases h0 : n < 0
 ·rw [if_pos h0, if_pos h0]
 ·rw [if_neg h0, if_neg h0]
  cases p0
  ·obtain ⟨_, h4⟩ := hfo rfl
   simp only [Bool.false_eq_true, if_false]
   rw [w64 (x := 4294967295 - p2) (by omega) (by omega)]
   by_cases h1 : n > 4294967295 - p2
   ·rw [if_pos h1, if_pos h1]
   ·rw [if_neg h1, if_neg h1, w64 (by omega) (by omega)]
  ·simp only [if_true, u64w, add64s, add64c]
   have en : n % 18446744073709551616 = n := by omega
   rw [en]
   by_cases h1 : p2 % 18446744073709551616 + n < 18446744073709551616
   ·have c0 : (p2 % 18446744073709551616 + n + 0) / 18446744073709551616 = 0 := by omega
    rw [c0, if_pos (by omega), if_pos h1, wrap_mod ((p2 % 18446744073709551616 + n + 0) % 18446744073709551616) (p2 % 18446744073709551616 + n) (by omega)]
    have e : wrap64 ((p1 % 18446744073709551616 + 0 + 0) % 18446744073709551616) = p1 := by
     rw [show (p1 % 18446744073709551616 + 0 + 0) % 18446744073709551616 = p1 % 18446744073709551616 by omega]
     exact wrap_in r.hi
    rw [e]
   ·have c1 : (p2 % 18446744073709551616 + n + 0) / 18446744073709551616 = 1 := by omega
    rw [c1, if_neg h1]
    by_cases h2 : p1 % 18446744073709551616 = 18446744073709551615
    ·rw [if_pos h2, if_neg (by rw [h2]; decide)]
    ·rw [if_neg h2, if_pos (by omega), wrap_mod ((p2 % 18446744073709551616 + n + 0) % 18446744073709551616) (p2 % 18446744073709551616 + n) (by omega), wrap_mod ((p1 % 18446744073709551616 + 0 + 1) % 18446744073709551616) (p1 % 18446744073709551616 + 1) (by omega)]

def nthOf (x : Bool) (h l b n : Int) : Bool × Int × Int × Bool :=
 if prefOk x h l b = true then (if (addTo x h l n).2.2.2 = true then (if hasA x h l b (addTo x h l n).1 (addTo x h l n).2.1 (addTo x h l n).2.2.1 = true then ((addTo x h l n).1, (addTo x h l n).2.1, (addTo x h l n).2.2.1, true) else (false, 0, 0, false)) else (false, 0, 0, false)) else (false, 0, 0, false)
theorem impl_NthOf_e (x : Bool) (h l b n : Int) (hh : in64 h) (hl : in64 l) (hn : in64 n) : impl_NthOf.f x h l b n = some (nthOf x h l b n) := by
 unfold impl_NthOf.f nthOf
 rw [impl_PrefixOk_e, impl_AddTo_e x h l n hh hl hn]
 simp only [Option.bind_some, impl_HasAddr_e]
 repeat' split
 all_goals first | rfl | simp_all

def cmpI (a b : Int) : Int := if a < b then -1 else if b < a then 1 else 0
/-- Two addresses that are right, compared. -/
def cmpR (p q : Bool × Int × Int) : Int :=
 if p.1 = false ∧ q.1 = true then -1 else if p.1 = true ∧ q.1 = false then 1 else
 if p.2.1 % 18446744073709551616 < q.2.1 % 18446744073709551616 then -1 else if q.2.1 % 18446744073709551616 < p.2.1 % 18446744073709551616 then 1 else
 cmpI (p.2.2 % 18446744073709551616) (q.2.2 % 18446744073709551616)
def cmpA (x : Bool) (h l : Int) (y : Bool) (g m : Int) : Int := cmpR (rightA x h l) (rightA y g m)
theorem compare_e (a b : Int) : cmp_Compare_uint64.f a b = some (cmpI a b) := by
 unfold cmp_Compare_uint64.f cmp_isNaN_uint64.f cmpI
 simp
 split
 ·rfl
 ·split <;> rfl
theorem impl_CmpAddr_j1 (p0 : Bool) (p1 p2 : Int) (q0 : Bool) (q1 q2 : Int) (e : p0 = q0) : Ev (fun k => impl_CmpAddr.j1 k p0 p1 p2 q0 q1 q2) (cmpR (p0, p1, p2) (q0, q1, q2)) := by
 subst e
 refine Ev.step (f := fun _ => some _) (fun k => ?_) (Ev.now _)
 rw [impl_CmpAddr.j1, compare_e, compare_e]
 simp only [Option.bind_some, u64w, cmpR]
 rw [if_neg (show ¬ (p0 = false ∧ p0 = true) by rintro ⟨rfl, h⟩; cases h), if_neg (show ¬ (p0 = true ∧ p0 = false) by rintro ⟨rfl, h⟩; cases h)]
 by_cases h1 : p1 % 18446744073709551616 < q1 % 18446744073709551616
 ·rw [if_pos h1]
  simp [cmpI, h1]
 ·rw [if_neg h1]
  by_cases h2 : q1 % 18446744073709551616 < p1 % 18446744073709551616
  ·rw [if_pos h2]
   simp [cmpI, h1, h2]
  ·rw [if_neg h2]
   simp [cmpI, h1, h2]
theorem impl_CmpAddr_ev (x : Bool) (h l : Int) (y : Bool) (g m : Int) : Ev (fun k => impl_CmpAddr.f k x h l y g m) (cmpA x h l y g m) := by
 unfold cmpA
 refine Ev.val (impl_right_e x h l) ?_
 refine Ev.val (impl_right_e y g m) ?_
 generalize rightA x h l = p
 generalize rightA y g m = q
 obtain ⟨p0, p1, p2⟩ := p
 obtain ⟨q0, q1, q2⟩ := q
 cases p0
 ·refine Ev.ite_neg (by simp) ?_
  cases q0
  ·exact Ev.step (fun k => by rw [impl_CmpAddr.j0, if_neg (by simp), if_neg (by simp)]) (impl_CmpAddr_j1 false p1 p2 false q1 q2 rfl)
  ·refine Ev.step (f := fun _ => some (-1)) (fun k => by rw [impl_CmpAddr.j0, if_pos rfl]) (Ev.mid ?_ (Ev.now _))
   simp [cmpR]
 ·refine Ev.ite_pos rfl ?_
  cases q0
  ·refine Ev.step (f := fun _ => some 1) (fun k => by rw [impl_CmpAddr.j0, if_neg (by simp), if_pos rfl, if_neg (by simp)]) (Ev.mid ?_ (Ev.now _))
   simp [cmpR]
  ·exact Ev.step (fun k => by rw [impl_CmpAddr.j0, if_neg (by simp), if_pos rfl, if_pos rfl]) (impl_CmpAddr_j1 true p1 p2 true q1 q2 rfl)

def valR (p : Bool × Int × Int) : Int := (p.2.1 % 18446744073709551616) * 18446744073709551616 + p.2.2 % 18446744073709551616
theorem cmpR_neg (p q : Bool × Int × Int) (e : p.1 = q.1) : cmpR q p < 0 ↔ valR q < valR p := by
 obtain ⟨p0, p1, p2⟩ := p
 obtain ⟨q0, q1, q2⟩ := q
 simp only at e
 subst e
 simp only [cmpR, valR, cmpI]
 rw [if_neg (show ¬ (p0 = false ∧ p0 = true) by rintro ⟨rfl, h⟩; cases h), if_neg (show ¬ (p0 = true ∧ p0 = false) by rintro ⟨rfl, h⟩; cases h)]
 repeat' split
 all_goals omega

def cmpP (x : Bool) (h l b : Int) (y : Bool) (g m c : Int) : Int := if cmpA x h l y g m = 0 then cmpI b c else cmpA x h l y g m
theorem compareI_e (a b : Int) : cmp_Compare_int.f a b = some (cmpI a b) := by
 unfold cmp_Compare_int.f cmp_isNaN_int.f cmpI
 simp
 split
 ·rfl
 ·split <;> rfl
theorem impl_CmpPrefix_ev (x : Bool) (h l b : Int) (y : Bool) (g m c : Int) : Ev (fun k => impl_CmpPrefix.f k x h l b y g m c) (cmpP x h l b y g m c) := by
 refine Ev.bind (impl_CmpAddr_ev x h l y g m) ?_
 unfold cmpP
 by_cases h0 : cmpA x h l y g m = 0
 ·exact Ev.mid (if_pos h0).symm (Ev.ite_pos h0 (Ev.val (compareI_e b c) (Ev.now _)))
 ·exact Ev.mid (if_neg h0).symm (Ev.ite_neg h0 (Ev.now _))

def overlaps (x : Bool) (h l b : Int) (y : Bool) (g m c : Int) : Bool := within x h l b y g m c || within y g m c x h l b
theorem impl_Overlaps_e (x : Bool) (h l b : Int) (y : Bool) (g m c : Int) : impl_Overlaps.f x h l b y g m c = some (overlaps x h l b y g m c) := by
 unfold impl_Overlaps.f overlaps
 rw [impl_Within_e]
 simp only [Option.bind_some]
 cases hp : within x h l b y g m c
 ·simp [impl_Within_e]
 ·simp

/-- The cursor of a draw stands in the code. -/
def Cur (b : List Int) (i : Int) : Prop := 0 ≤ i ∧ i ≤ b.length
/-- What is drawn from. -/
structure Code (b : List Int) : Prop where
 bytes : ∀ c ∈ b, 0 ≤ c ∧ c ≤ 255
 len : b.length ≤ 4611686018427387904
def DrawnI (b : List Int) (o : Option (Int × Int × Int)) (P : Int → Prop) : Prop := ∃ v i h, o = some (v, i, h) ∧ Cur b i ∧ P v
theorem and255 (X : Int) : 0 ≤ Go.bits .and .i64 X 255 ∧ Go.bits .and .i64 X 255 ≤ 255 := by
 have e : Go.bits .and .i64 X 255 = IntKind.i64.wrap (((BitVec.ofInt 64 X &&& BitVec.ofInt 64 255).toNat : Nat) : Int) := rfl
 have h1 : (BitVec.ofInt 64 X &&& BitVec.ofInt 64 255).toNat ≤ 255 := by
  rw [BitVec.toNat_and, show (BitVec.ofInt 64 255).toNat = 255 by decide]
  exact Nat.and_le_right
 rw [e, show IntKind.i64.wrap _ = wrap64 _ from IntWalk.i64_left _, w64 (by omega) (by omega)]
 omega
theorem rd_mem (l : List Int) (v : Int) (h0 : 0 ≤ v) (h1 : v < l.length) : rd l v ∈ l := by
 obtain ⟨n, rfl⟩ := Int.eq_ofNat_of_zero_le h0
 have hn : n < l.length := by omega
 rw [rd_get l n n _ rfl (List.getElem?_eq_getElem hn)]
 exact List.getElem_mem hn
theorem l1Byte_ok (b : List Int) (hb : Code b) (i h : Int) (hc : Cur b i) : DrawnI b (spec_l1Byte.f b i h) (fun v => 0 ≤ v ∧ v ≤ 255) := by
 have hlen := hb.len
 obtain ⟨h0, h1⟩ := hc
 unfold spec_l1Byte.f
 by_cases hlt : i < (b.length : Int)
 ·rw [if_pos hlt, if_pos h0]
  refine ⟨_, _, _, rfl, ?_, and255 _⟩
  rw [w64 (by omega) (by omega)]
  exact ⟨by omega, by omega⟩
 ·rw [if_neg hlt]
  exact ⟨_, _, _, rfl, ⟨h0, h1⟩, and255 _⟩
theorem tmod_bd (v n : Int) (h0 : 0 ≤ v) (hn : 0 < n) : 0 ≤ Int.tmod v n ∧ Int.tmod v n < n := by
 rw [Int.tmod_eq_emod_of_nonneg h0]
 exact ⟨Int.emod_nonneg _ (by omega), Int.emod_lt_of_pos _ hn⟩
theorem l1Below_ok (b : List Int) (hb : Code b) (i h n : Int) (hc : Cur b i) : DrawnI b (spec_l1Below.f b i h n) (fun v => 0 ≤ v ∧ (0 < n → v < n)) := by
 unfold spec_l1Below.f
 by_cases h0 : n ≤ 0
 ·rw [if_pos h0]
  exact ⟨_, _, _, rfl, hc, by omega, by omega⟩
 ·rw [if_neg h0]
  by_cases h1 : n ≤ 256
  ·rw [if_pos h1]
   obtain ⟨v, i1, h1, e, c1, p1⟩ := l1Byte_ok b hb i h hc
   have ht := tmod_bd v n p1.1 (by omega)
   refine ⟨_, _, _, by rw [e, Option.bind_some, if_neg (by omega)], c1, ht.1, fun _ => ht.2⟩
  ·rw [if_neg h1]
   obtain ⟨v1, i1, k1, e1, c1, p1⟩ := l1Byte_ok b hb i h hc
   obtain ⟨v2, i2, k2, e2, c2, p2⟩ := l1Byte_ok b hb i1 k1 c1
   obtain ⟨v3, i3, k3, e3, c3, p3⟩ := l1Byte_ok b hb i2 k2 c2
   have hw : wrap64 (wrap64 (wrap64 (v1 * 65536) + wrap64 (v2 * 256)) + v3) = v1 * 65536 + v2 * 256 + v3 := by
    rw [w64 (x := v1 * 65536) (by omega) (by omega), w64 (x := v2 * 256) (by omega) (by omega), w64 (x := v1 * 65536 + v2 * 256) (by omega) (by omega), w64 (by omega) (by omega)]
   have ht := tmod_bd (v1 * 65536 + v2 * 256 + v3) n (by omega) (by omega)
   refine ⟨_, _, _, by rw [e1, Option.bind_some, e2, Option.bind_some, e3, Option.bind_some, if_neg (by omega), hw], c3, ht.1, fun _ => ht.2⟩
theorem l1Int_ok (b : List Int) (hb : Code b) (i h : Int) (hc : Cur b i) (l : List Int) (hl : 0 < l.length) : DrawnI b (spec_l1Int.f b i h l) (fun v => v ∈ l) := by
 unfold spec_l1Int.f
 obtain ⟨v, i1, h1, e, c1, p1, p2⟩ := l1Below_ok b hb i h l.length hc
 have := p2 (by omega)
 exact ⟨_, _, _, by rw [e, Option.bind_some, if_pos p1, if_pos this], c1, rd_mem l v p1 this⟩
theorem l1Int_in (b : List Int) (hb : Code b) (i h : Int) (hc : Cur b i) (l : List Int) (hl : 0 < l.length) (P : Int → Prop) (hP : ∀ z ∈ l, P z) : DrawnI b (spec_l1Int.f b i h l) P := by
 obtain ⟨v, i1, h1, e, c1, p1⟩ := l1Int_ok b hb i h hc l hl
 exact ⟨v, i1, h1, e, c1, hP v p1⟩
theorem l1Once_ok (b : List Int) (hb : Code b) (i h n : Int) (hc : Cur b i) : ∃ v i' h', spec_l1Once.f b i h n = some (v, i', h') ∧ Cur b i' := by
 unfold spec_l1Once.f
 obtain ⟨v, i1, h1, e, c1, p1⟩ := l1Below_ok b hb i h n hc
 exact ⟨_, _, _, by rw [e, Option.bind_some], c1⟩
theorem l1Odd_ok (b : List Int) (hb : Code b) (i h : Int) (hc : Cur b i) : DrawnI b (spec_l1Odd.f b i h) in64 := by
 unfold spec_l1Odd.f
 obtain ⟨v, i1, h1, e, c1, p1⟩ := l1Int_in b hb i h hc [(-1), 0, 1, 2, 255, 256, 65535, 2147483647, 2147483648, 4294967295, 4294967296, (-2147483648), 9223372036854775807, (-9223372036854775808)] (by decide) in64 (by simp [in64])
 exact ⟨_, _, _, by rw [e, Option.bind_some], c1, p1⟩
theorem l1New_l0 (b : List Int) (hb : Code b) (d : Nat) : ∀ (i : Nat) (h : Int), i + d = b.length → ∃ h', Ev (fun k => spec_l1New.l0 k b h (i : Int)) (b, 0, h') := by
 have hlen := hb.len
 induction d with
 | zero =>
  intro i h hi
  exact ⟨h, Ev.step (f := fun _ => some _) (fun k => by rw [spec_l1New.l0, if_neg (by omega)]) (Ev.now _)⟩
 | succ d ih =>
  intro i h hi
  by_cases hs : i < 4000
  ·obtain ⟨h', e⟩ := ih (i + 1) (Go.bits .and .i64 (wrap64 ((wrap64 ((wrap64 (h * 137)) + (wrap64 (rd b i)))) + 11)) 1073741823) (by omega)
   refine ⟨h', Ev.step (fun k => ?_) e⟩
   rw [spec_l1New.l0, if_pos (by omega), if_pos (by omega), if_pos (by omega), w64 (x := (i : Int) + 1) (by omega) (by omega)]
   rfl
  ·exact ⟨h, Ev.step (f := fun _ => some _) (fun k => by rw [spec_l1New.l0, if_pos (by omega), if_neg (by omega)]) (Ev.now _)⟩
theorem l1New_ev (b : List Int) (hb : Code b) : ∃ h, Ev (fun k => spec_l1New.f k b) (b, 0, h) := l1New_l0 b hb b.length 0 _ (by omega)
theorem cur0 (b : List Int) : Cur b 0 := ⟨by omega, by omega⟩

theorem prefixOf_in (x : Bool) (h l b : Int) (hh : in64 h) (hl : in64 l) : in64 (prefixOf x h l b).2.1 ∧ in64 (prefixOf x h l b).2.2.1 := by
 unfold prefixOf
 by_cases hc : addrOk x h l = true ∧ 0 ≤ b ∧ (b ≤ if x = true then 128 else 32)
 ·rw [if_pos hc, maskA_val x h l b hc.1 hc.2.1 hc.2.2]
  exact mkA_in x _ (Nat.lt_of_le_of_lt (clr_le x _ _) (aval_lt x h l hc.1))
 ·rw [if_neg hc]
  exact ⟨in64_zero, in64_zero⟩
theorem l1Draw_ok (b : List Int) (hb : Code b) (i k : Int) (hc : Cur b i) : ∃ x h l i' k', spec_l1Draw.f b i k = some (x, h, l, i', k') ∧ Cur b i' ∧ in64 h ∧ in64 l ∧ addrOk x h l = true := by
 unfold spec_l1Draw.f
 obtain ⟨v0, i0, k0, e0, c0⟩ := l1Once_ok b hb i k 2 hc
 rw [e0, Option.bind_some]
 cases v0
 ·simp only [Bool.false_eq_true, if_false]
  obtain ⟨v1, i1, k1, e1, c1, p1⟩ := l1Odd_ok b hb i0 k0 c0
  rw [e1, Option.bind_some]
  obtain ⟨v2, i2, k2, e2, c2, p2⟩ := l1Int_in b hb i1 k1 c1 [0, 2306139568115548160, (-108086391056891904), (-1), 1, 65536, v1] (by simp) in64 (by simp only [List.mem_cons, List.not_mem_nil, or_false]; intro z hz; unfold in64 at *; omega)
  rw [e2, Option.bind_some]
  obtain ⟨v3, i3, k3, e3, c3, p3, p3'⟩ := l1Below_ok b hb i2 k2 70000 c2
  have p3'' := p3' (by decide)
  rw [e3, Option.bind_some]
  obtain ⟨v4, i4, k4, e4, c4, p4⟩ := l1Odd_ok b hb i3 k3 c3
  rw [e4, Option.bind_some]
  obtain ⟨v5, i5, k5, e5, c5, p5⟩ := l1Int_in b hb i4 k4 c4 [0, 1, (-1), 65536, 4294967296, v3, v4] (by simp) in64 (by simp only [List.mem_cons, List.not_mem_nil, or_false]; intro z hz; unfold in64 at *; omega)
  rw [e5, Option.bind_some]
  exact ⟨_, _, _, _, _, rfl, c5, p2, p5, rfl⟩
 ·simp only [if_true]
  obtain ⟨v1, i1, k1, e1, c1, p1, p1'⟩ := l1Below_ok b hb i0 k0 300 c0
  have p1'' := p1' (by decide)
  rw [e1, Option.bind_some]
  obtain ⟨v2, i2, k2, e2, c2, p2, p2'⟩ := l1Below_ok b hb i1 k1 65536 c1
  have p2'' := p2' (by decide)
  rw [e2, Option.bind_some]
  obtain ⟨v3, i3, k3, e3, c3, p3, p3'⟩ := l1Below_ok b hb i2 k2 20 c2
  have p3'' := p3' (by decide)
  rw [e3, Option.bind_some]
  obtain ⟨v5, i5, k5, e5, c5, p5⟩ := l1Int_in b hb i3 k3 c3 [0, 1, 4294967295, 167772160, wrap64 (167772160 + v1), wrap64 (3232235520 + v2), wrap64 (4294967295 - v3)] (by simp) (fun z => 0 ≤ z ∧ z ≤ 4294967295) (by
   rw [w64 (x := 167772160 + v1) (by omega) (by omega), w64 (x := 3232235520 + v2) (by omega) (by omega), w64 (x := 4294967295 - v3) (by omega) (by omega)]
   simp only [List.mem_cons, List.not_mem_nil, or_false]; intro z hz; omega)
  rw [e5, Option.bind_some]
  refine ⟨_, _, _, _, _, rfl, c5, in64_zero, by unfold in64; omega, ?_⟩
  simp [addrOk, p5]
theorem l2Draw_ok (b : List Int) (hb : Code b) (i k : Int) (hc : Cur b i) : ∃ x h l n i' k', spec_l2Draw.f b i k = some (x, h, l, n, i', k') ∧ Cur b i' ∧ in64 h ∧ in64 l := by
 unfold spec_l2Draw.f
 obtain ⟨x, h, l, i0, k0, e0, c0, p0, q0, r0⟩ := l1Draw_ok b hb i k hc
 rw [e0, Option.bind_some]
 obtain ⟨v1, i1, k1, e1, c1, p1⟩ := l1Int_ok b hb i0 k0 c0 [24, 26, 28, 30, 32, 8, 16, 0, 31] (by decide)
 rw [e1, Option.bind_some]
 cases x
 ·simp only [Bool.false_eq_true, if_false]
  rw [spec_PrefixOf_e, Option.bind_some]
  have hin := prefixOf_in false h l v1 p0 q0
  exact ⟨_, _, _, _, _, _, rfl, c1, hin.1, hin.2⟩
 ·simp only [if_true]
  obtain ⟨v2, i2, k2, e2, c2, p2⟩ := l1Int_ok b hb i1 k1 c1 [64, 48, 112, 120, 126, 127, 128, 0, 63, 65, 1] (by decide)
  rw [e2, Option.bind_some, spec_PrefixOf_e, Option.bind_some]
  have hin := prefixOf_in true h l v2 p0 q0
  exact ⟨_, _, _, _, _, _, rfl, c2, hin.1, hin.2⟩
theorem l1DrawAny_ok (b : List Int) (hb : Code b) (i k : Int) (hc : Cur b i) : ∃ x h l i' k', spec_l1DrawAny.f b i k = some (x, h, l, i', k') ∧ Cur b i' ∧ in64 h ∧ in64 l := by
 unfold spec_l1DrawAny.f
 obtain ⟨x, h, l, i0, k0, e0, c0, p0, q0, r0⟩ := l1Draw_ok b hb i k hc
 rw [e0, Option.bind_some]
 obtain ⟨v1, i1, k1, e1, c1, p1⟩ := l1Below_ok b hb i0 k0 16 c0
 rw [e1, Option.bind_some]
 by_cases z0 : v1 = 0
 ·rw [if_pos z0]; exact ⟨_, _, _, _, _, rfl, c1, p0, q0⟩
 ·rw [if_neg z0]
  by_cases z1 : v1 = 1
  ·obtain ⟨v2, i2, k2, e2, c2, p2⟩ := l1Odd_ok b hb i1 k1 c1
   rw [if_pos z1, e2, Option.bind_some]
   exact ⟨_, _, _, _, _, rfl, c2, p0, p2⟩
  ·rw [if_neg z1]; exact ⟨_, _, _, _, _, rfl, c1, p0, q0⟩
theorem l2DrawAny_ok (b : List Int) (hb : Code b) (i k : Int) (hc : Cur b i) : ∃ x h l n i' k', spec_l2DrawAny.f b i k = some (x, h, l, n, i', k') ∧ Cur b i' ∧ in64 h ∧ in64 l := by
 unfold spec_l2DrawAny.f
 obtain ⟨x, h, l, n, i0, k0, e0, c0, p0, q0⟩ := l2Draw_ok b hb i k hc
 rw [e0, Option.bind_some]
 obtain ⟨v1, i1, k1, e1, c1, p1⟩ := l1Below_ok b hb i0 k0 12 c0
 rw [e1, Option.bind_some]
 by_cases z0 : v1 = 0
 ·obtain ⟨x2, h2, l2, i2, k2, e2, c2, p2, q2⟩ := l1DrawAny_ok b hb i1 k1 c1
  rw [if_pos z0, e2, Option.bind_some]
  exact ⟨_, _, _, _, _, _, rfl, c2, p2, q2⟩
 ·rw [if_neg z0]
  by_cases z1 : v1 = 1
  ·obtain ⟨v2, i2, k2, e2, c2, p2⟩ := l1Int_ok b hb i1 k1 c1 [(-1), 0, 32, 33, 128, 129] (by decide)
   rw [if_pos z1, e2, Option.bind_some]
   exact ⟨_, _, _, _, _, _, rfl, c2, p0, q0⟩
  ·rw [if_neg z1]; exact ⟨_, _, _, _, _, _, rfl, c1, p0, q0⟩

theorem aval_six (h l : Int) : ((aval true h l : Nat) : Int) = valR (true, h, l) := by
 simp only [aval, valR, if_true]
 omega
theorem aval_four (l : Int) (h0 : 0 ≤ l) (h1 : l ≤ 4294967295) : ((aval false 0 l : Nat) : Int) = valR (false, 0, l) := by
 unfold aval valR
 simp only [Bool.false_eq_true, if_false]
 omega
theorem aval_valR (x : Bool) (h l : Int) (ha : addrOk x h l = true) : ((aval x h l : Nat) : Int) = valR (x, h, l) := by
 cases x with
 | true => exact aval_six h l
 | false =>
  obtain ⟨rfl, h0, h1⟩ := addrOk_four ha rfl
  exact aval_four l h0 (by omega)
/-- One more than an address that isn't the last. -/
theorem addTo_one (x : Bool) (v : Nat) (hv : v + 1 < 2 ^ wd x) : addTo x (mkA x v).2.1 (mkA x v).2.2 1 = ((mkA x (v + 1)).1, (mkA x (v + 1)).2.1, (mkA x (v + 1)).2.2, true) := by
 have hlt : v < 2 ^ wd x := by omega
 have hok := mkA_ok x v hlt
 rw [mkA_fst] at hok
 unfold addTo
 rw [rightA_ok hok]
 unfold addR
 rw [if_neg (by decide)]
 cases x with
 | true =>
  rw [wd_six, two128] at hv
  simp only [mkA, if_true]
  have e1 : wrap64 ((v % 18446744073709551616 : Nat) : Int) % 18446744073709551616 = ((v % 18446744073709551616 : Nat) : Int) := by unfold wrap64; omega
  have e2 : wrap64 ((v / 18446744073709551616 : Nat) : Int) % 18446744073709551616 = ((v / 18446744073709551616 : Nat) : Int) := by unfold wrap64; omega
  rw [e1, e2]
  by_cases hc : (v % 18446744073709551616 : Nat) + 1 < 18446744073709551616
  ·rw [if_pos (by omega), show (v + 1) / 18446744073709551616 = v / 18446744073709551616 by omega, show ((v + 1) % 18446744073709551616 : Nat) = v % 18446744073709551616 + 1 by omega]
   rfl
  ·rw [if_neg (by omega), if_neg (by omega), show (v + 1) / 18446744073709551616 = v / 18446744073709551616 + 1 by omega, show ((v + 1) % 18446744073709551616 : Nat) = 0 by omega]
   have e3 : wrap64 (((v % 18446744073709551616 : Nat) : Int) + 1) = wrap64 ((0 : Nat) : Int) := by unfold wrap64; omega
   rw [e3]
   rfl
 | false =>
  rw [wd_four, two32] at hv
  simp only [mkA, Bool.false_eq_true, if_false]
  rw [if_neg (by omega)]
  rfl
theorem addTo_zero (x : Bool) (v : Nat) (hv : v < 2 ^ wd x) : addTo x (mkA x v).2.1 (mkA x v).2.2 0 = ((mkA x v).1, (mkA x v).2.1, (mkA x v).2.2, true) := by
 have hok := mkA_ok x v hv
 rw [mkA_fst] at hok
 have hin := mkA_in x v hv
 unfold addTo
 rw [rightA_ok hok]
 unfold addR
 rw [if_neg (by decide)]
 cases x with
 | true =>
  have i1 := hin.1
  have i2 := hin.2
  simp only [mkA, if_true] at i1 i2 ⊢
  rw [if_pos (by omega), Int.add_zero, wrap_in i2]
 | false =>
  rw [wd_four, two32] at hv
  simp only [mkA, Bool.false_eq_true, if_false]
  rw [if_neg (by omega), Int.add_zero]
theorem cmp_lt (x : Bool) (v u : Nat) (hv : v < 2 ^ wd x) (hu : u < 2 ^ wd x) (h : v < u) : cmpA x (mkA x v).2.1 (mkA x v).2.2 x (mkA x u).2.1 (mkA x u).2.2 = -1 := by
 have ov := mkA_ok x v hv
 have ou := mkA_ok x u hu
 have av := aval_mkA x v hv
 have au := aval_mkA x u hu
 rw [mkA_fst] at ov ou av au
 unfold cmpA
 rw [rightA_ok ov, rightA_ok ou]
 have hlt : cmpR (x, (mkA x v).2.1, (mkA x v).2.2) (x, (mkA x u).2.1, (mkA x u).2.2) < 0 := (cmpR_neg (x, (mkA x u).2.1, (mkA x u).2.2) (x, (mkA x v).2.1, (mkA x v).2.2) rfl).mpr (by
  rw [← aval_valR x _ _ ov, ← aval_valR x _ _ ou, av, au]; omega)
 revert hlt
 generalize (mkA x v).2.1 = a
 generalize (mkA x v).2.2 = b
 generalize (mkA x u).2.1 = c
 generalize (mkA x u).2.2 = d
 intro hlt
 simp only [cmpR, cmpI] at hlt ⊢
 repeat' split at hlt
 all_goals first | (exact absurd hlt (by decide)) | simp_all
theorem clr_low (v k w : Nat) (hz : v % 2 ^ (k + 1) = 0) : (v + 2 ^ k) - (v + 2 ^ k) % 2 ^ (k + 1) = v ∧ v - v % 2 ^ k = v ∧ (v + 2 ^ k) - (v + 2 ^ k) % 2 ^ k = v + 2 ^ k := by
 have hp : 0 < 2 ^ k := Nat.two_pow_pos k
 have h1 := Nat.div_add_mod v (2 ^ (k + 1))
 rw [hz] at h1
 rw [Nat.pow_succ] at h1 ⊢
 rw [Nat.mul_assoc] at h1
 generalize v / (2 ^ k * 2) = q at h1
 generalize 2 ^ k = K at *
 have e0 : v = K * (2 * q) := by omega
 have e1 : v % K = 0 := by rw [e0, Nat.mul_mod_right]
 have e2 : (v + K) % K = 0 := by rw [Nat.add_mod, e1, Nat.mod_self]; simp
 have e3 : (v + K) % (K * 2) = K := by
  rw [show v + K = (K * 2) * q + K by rw [e0, Nat.mul_assoc], Nat.mul_add_mod, Nat.mod_eq_of_lt (by omega)]
 omega
theorem FnHalved_j0 (x : Bool) (h l b : Int) (hh : in64 h) (hl : in64 l) (hp : prefOk x h l b = true) (hb : b ≠ wd x) :
  Ev (fun k => laws_FnHalved.j0 k true true false x h l b x h l (b + 1) x (upQ x h l b).2.1 (upQ x h l b).2.2 (b + 1)) true := by
 obtain ⟨ha, hb0, hb1, hz2, hfl, hlast, hclr⟩ := half_facts x h l b hh hl hp hb
 obtain ⟨_, _, hbw, hz⟩ := (prefOk_val x h l b hh hl).mp hp
 have hw : (wd x : Int) ≤ 128 := by cases x <;> decide
 have hlow := half_low_ok x h l b hh hl hp hb
 obtain ⟨_, hu1, hu2, hau, hup⟩ := half_up_ok x h l b hh hl hp hb
 have hult := half_lt x h l b hh hl hp hb
 have hvlt := aval_lt x h l ha
 have hme := mkA_aval x h l ha hh hl
 have hk : wd x - b.toNat = (wd x - (b + 1).toNat) + 1 := by omega
 have hk2 : (b + 1).toNat ≤ wd x := by omega
 rw [hk] at hz
 obtain ⟨c1, c2, c3⟩ := clr_low (aval x h l) (wd x - (b + 1).toNat) (wd x) hz
 have hpp : 0 < 2 ^ (wd x - (b + 1).toNat) := Nat.two_pow_pos _
 have hhv : halfV x (aval x h l) b = aval x h l + 2 ^ (wd x - (b + 1).toNat) := rfl
 have hua : addrOk x (upQ x h l b).2.1 (upQ x h l b).2.2 = true := (prefOk_bits hup).1
 have hum : mkA x (aval x h l + 2 ^ (wd x - (b + 1).toNat)) = (x, (upQ x h l b).2.1, (upQ x h l b).2.2) := by
  have := mkA_aval x _ _ hua hu1 hu2
  rw [hau] at this
  exact this
 -- above
 have a1 : aboveP x h l (b + 1) = (x, h, l, b, true) := by
  unfold aboveP
  rw [if_pos ⟨hlow, by omega⟩, show b + 1 - 1 = b by omega]
  unfold prefixOf
  rw [wdI, if_pos ⟨ha, hb0, by omega⟩, (prefOk_bits hp).2.2.2]
 have a2 : aboveP x (upQ x h l b).2.1 (upQ x h l b).2.2 (b + 1) = (x, h, l, b, true) := by
  unfold aboveP
  rw [if_pos ⟨hup, by omega⟩, show b + 1 - 1 = b by omega]
  unfold prefixOf
  rw [wdI, if_pos ⟨hua, hb0, by omega⟩, maskA_val x _ _ b hua hb0 (by rw [wdI]; omega), hau, hhv]
  have : clr x (aval x h l + 2 ^ (wd x - (b + 1).toNat)) b = aval x h l := by unfold clr; rw [hk]; exact c1
  rw [this, hme]
 -- sibling
 have s1 : sibOf x h l (b + 1) = (x, (upQ x h l b).2.1, (upQ x h l b).2.2, b + 1, true) := by
  unfold sibOf
  rw [if_pos ⟨hlow, by omega⟩, hfl, hhv, hum]
 -- the first of the upper half, one behind the last of the lower
 have n1 : nthOf x (upQ x h l b).2.1 (upQ x h l b).2.2 (b + 1) 0 = (x, (upQ x h l b).2.1, (upQ x h l b).2.2, true) := by
  have e := addTo_zero x _ hult
  rw [hhv, hum] at e
  unfold nthOf
  rw [if_pos hup]
  simp only at e
  rw [e]
  have hH : hasA x (upQ x h l b).2.1 (upQ x h l b).2.2 (b + 1) x (upQ x h l b).2.1 (upQ x h l b).2.2 = true := by
   unfold hasA
   rw [hup, hua, (prefOk_bits hup).2.2.2]
   simp
  rw [if_pos rfl, if_pos hH]
 have v1 : lastV x (aval x h l) (b + 1) + 1 = aval x h l + 2 ^ (wd x - (b + 1).toNat) := by unfold lastV; omega
 have l1 : lastOf x h l (b + 1) = ((mkA x (lastV x (aval x h l) (b + 1))).1, (mkA x (lastV x (aval x h l) (b + 1))).2.1, (mkA x (lastV x (aval x h l) (b + 1))).2.2, true) := by unfold lastOf; rw [if_pos hlow]
 have t1 : addTo x (mkA x (lastV x (aval x h l) (b + 1))).2.1 (mkA x (lastV x (aval x h l) (b + 1))).2.2 1 = (x, (upQ x h l b).2.1, (upQ x h l b).2.2, true) := by
  rw [addTo_one x _ (by rw [v1, ← hhv]; exact hult), v1, hum]
 have l2 : lastOf x h l b = ((mkA x (lastV x (aval x h l) b)).1, (mkA x (lastV x (aval x h l) b)).2.1, (mkA x (lastV x (aval x h l) b)).2.2, true) := by unfold lastOf; rw [if_pos hp]
 have v2 : lastV x (aval x (upQ x h l b).2.1 (upQ x h l b).2.2) (b + 1) = lastV x (aval x h l) b := by
  rw [hau, hhv]; unfold lastV; rw [hk, Nat.pow_succ]; omega
 have l3 : lastOf x (upQ x h l b).2.1 (upQ x h l b).2.2 (b + 1) = ((mkA x (lastV x (aval x h l) b)).1, (mkA x (lastV x (aval x h l) b)).2.1, (mkA x (lastV x (aval x h l) b)).2.2, true) := by unfold lastOf; rw [if_pos hup, v2]
 have i1 := mkA_in x (lastV x (aval x h l) (b + 1)) (by have := hult; rw [hhv] at this; omega)
 -- what lies in what
 have w1 : within x h l (b + 1) x h l b = true := (within_val _ _ _ _ _ _ _ _ hh hl hh hl).mpr ⟨hlow, hp, rfl, by omega, by unfold clr; rw [hk]; omega⟩
 have w2 : within x (upQ x h l b).2.1 (upQ x h l b).2.2 (b + 1) x h l b = true := (within_val _ _ _ _ _ _ _ _ hu1 hu2 hh hl).mpr ⟨hup, hp, rfl, by omega, by rw [hau, hhv]; unfold clr; rw [hk]; exact c1⟩
 have w3 : within x h l (b + 1) x (upQ x h l b).2.1 (upQ x h l b).2.2 (b + 1) = false := Bool.eq_false_iff.mpr fun hc => by
  have := ((within_val _ _ _ _ _ _ _ _ hh hl hu1 hu2).mp hc).2.2.2.2
  rw [hau, hhv] at this
  unfold clr at this
  omega
 have w4 : within x (upQ x h l b).2.1 (upQ x h l b).2.2 (b + 1) x h l (b + 1) = false := Bool.eq_false_iff.mpr fun hc => by
  have := ((within_val _ _ _ _ _ _ _ _ hu1 hu2 hh hl).mp hc).2.2.2.2
  rw [hau, hhv] at this
  unfold clr at this
  omega
 have o1 : overlaps x h l (b + 1) x (upQ x h l b).2.1 (upQ x h l b).2.2 (b + 1) = false := by unfold overlaps; rw [w3, w4]; rfl
 have o2 : overlaps x h l (b + 1) x h l b = true := by unfold overlaps; rw [w1]; rfl
 have p1 : cmpP x h l (b + 1) x (upQ x h l b).2.1 (upQ x h l b).2.2 (b + 1) = -1 := by
  have e := cmp_lt x (aval x h l) (aval x h l + 2 ^ (wd x - (b + 1).toNat)) hvlt hult (by omega)
  rw [hme, hum] at e
  unfold cmpP
  simp only at e
  rw [e]; rfl
 refine Ev.step (fun k => by rw [laws_FnHalved.j0, if_neg (by decide)]) ?_
 refine Ev.val (impl_Above_e x h l (b + 1)) (Ev.val (impl_Above_e x _ _ (b + 1)) (Ev.val (impl_Sibling_e x h l (b + 1) hh hl) (Ev.val (impl_NthOf_e x _ _ (b + 1) 0 hu1 hu2 in64_zero) (Ev.val (impl_LastOf_e x h l (b + 1) hh hl) ?_))))
 rw [l1]
 simp only [mkA_fst]
 refine Ev.val (impl_AddTo_e x _ _ 1 i1.1 i1.2 (by unfold in64; omega)) (Ev.val (impl_LastOf_e x h l b hh hl) (Ev.val (impl_LastOf_e x _ _ (b + 1) hu1 hu2) ?_))
 rw [t1, l2, l3, a1, a2, s1, n1]
 refine Ev.val (impl_Within_e _ _ _ _ _ _ _ _) (Ev.ite_pos w1 (Ev.val (impl_Within_e _ _ _ _ _ _ _ _) (Ev.ite_pos w2 (Ev.val (impl_Overlaps_e _ _ _ _ _ _ _ _) (Ev.ite_neg (by rw [o1]; decide) (Ev.val (impl_Overlaps_e _ _ _ _ _ _ _ _) (Ev.ite_pos o2 ?_)))))))
 refine Ev.ite_pos (by simp) (Ev.ite_pos (by simp) (Ev.ite_pos (by simp) (Ev.ite_pos (by simp) (Ev.ite_pos (by simp) (Ev.bind (impl_CmpPrefix_ev _ _ _ _ _ _ _ _) (Ev.mid ?_ (Ev.now _)))))))
 rw [p1]; rfl
theorem FnHalved (c : List Int) (hb : ∀ x ∈ c, (Lit.int .u8 x).wf = true) : ∃ k, laws_FnHalved.f k c = some true := by
 refine Ev.rounds ?_
 by_cases hbig : (c.length : Int) > 1048576
 ·exact Ev.val (a := true) (by unfold laws_big.f; rw [decide_eq_true hbig]) (Ev.ite_pos rfl (Ev.now true))
 refine Ev.val (a := false) (by unfold laws_big.f; rw [decide_eq_false hbig]) (Ev.ite_neg (by decide) ?_)
 have hc : Code c := ⟨fun y hy => wf8 (hb y hy), by omega⟩
 obtain ⟨s, hn⟩ := l1New_ev c hc
 obtain ⟨x, h, l, b, i', k', hd, _, hh, hl⟩ := l2DrawAny_ok c hc 0 s (cur0 c)
 refine Ev.bind (Ev.bind hn (Ev.val hd (Ev.now (x, h, l, b)))) ?_
 refine Ev.val (impl_Halves_e x h l b hh hl) (Ev.val (spec_Halves_e x h l b hh hl) ?_)
 rw [show ((halvesOf x h l b).2.2.2.2.2.2.2.2 != (halvesOf x h l b).2.2.2.2.2.2.2.2) = false by simp]
 refine Ev.ite_neg (by decide) ?_
 by_cases hk : prefOk x h l b = true ∧ b ≠ wd x
 ·have e : halvesOf x h l b = (x, h, l, b + 1, x, (upQ x h l b).2.1, (upQ x h l b).2.2, b + 1, true) := by
   unfold halvesOf
   rw [if_pos hk]
   have hx : (mkA x (halfV x (aval x h l) b)).1 = x := mkA_fst x _
   rw [hx]; rfl
  rw [e]
  exact FnHalved_j0 x h l b hh hl hk.1 hk.2
 ·have e : halvesOf x h l b = (false, 0, 0, 0, false, 0, 0, 0, false) := if_neg hk
  rw [e]
  refine Ev.step (fun k => by rw [laws_FnHalved.j0, if_pos (by rfl), if_pos (by rfl)]) (Ev.val (spec_PrefixOk_e x h l b) ?_)
  by_cases hp : prefOk x h l b = true
  ·exact Ev.ite_pos hp (Ev.val (impl_PrefixOk_e x h l b) (Ev.mid hp.symm.symm (Ev.now _)))
  ·exact Ev.ite_neg hp (Ev.now _)

end Go.Proofs.Ythakdhdoeejkmaa.Pure
