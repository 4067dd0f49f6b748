/-
The pure part of the statement FnExactNthOf: what the printed functions answer is true at every input.
Conditions: none but the kinds' own bounds, as the printed statement has them.
-/
import Derived.Test.YtigmadccchofiaaQFnExactNthOfx0
import Derived.Test.YtigmadccchofiaaQFnExactNthOfx1
import Derived.Test.YtigmadccchofiaaQFnExactNthOfx2
import Derived.Test.YtigmadccchofiaaQFnExactNthOfx3
import Derived.Test.YtigmadccchofiaaQFnExactNthOfx4
import Derived.Test.YtigmadccchofiaaQFnExactNthOfx5
import Derived.Test.YtigmadccchofiaaQFnExactNthOfx6
import Derived.Test.YtigmadccchofiaaQFnExactNthOfx7
import Derived.Test.YtigmadccchofiaaQFnExactNthOfx8
namespace Go.Proofs.Ytigmadccchofiaa.Pure
open Go.RowKit Go.Proofs.Ytigmadccchofiaa.QFnExactNthOf Go.Proofs.YtigmadccchofiaaW.PrintWords Go.Proofs.YtigmadccchofiaaW.PrintLast Go.Proofs.YtigmadccchofiaaW.PrintMore
set_option linter.unusedVariables false
set_option linter.unusedSimpArgs false

theorem wf64 {x : Int} (h : (Lit.int .i64 x).wf = true) : -9223372036854775808 ≤ x ∧ x ≤ 9223372036854775807 := by
  simpa [Lit.wf, IntKind.min, IntKind.max, IntKind.signed, IntKind.bits] using h
theorem wf8 {x : Int} (h : (Lit.int .u8 x).wf = true) : 0 ≤ x ∧ x ≤ 255 := by
  simpa [Lit.wf, IntKind.min, IntKind.max, IntKind.signed, IntKind.bits] using h
theorem w64 {x : Int} (h0 : -9223372036854775808 ≤ x) (h1 : x ≤ 9223372036854775807) : wrap64 x = x := by unfold wrap64; omega
theorem u64w (n : Int) : IntKind.u64.wrap n = n % 18446744073709551616 := by simp [IntKind.wrap, IntKind.bits, IntKind.signed]
theorem u64in {x : Int} (h0 : 0 ≤ x) (h1 : x < 18446744073709551616) : IntKind.u64.wrap x = x := by rw [u64w]; omega
theorem rd_get (xs : List Int) (i : Int) (j : Nat) (x : Int) (hi : i = j) (h : xs[j]? = some x) : rd xs i = x := by
  subst hi
  simp [rd, List.getD, h]
theorem Ev.mid {α : Type} {g : Nat → Option α} {a b : α} (h : a = b) (e : Ev g a) : Ev g b := h ▸ e
theorem Ev.const {α : Type} {g : Nat → Option α} {a : α} (h : ∀ k, g k = some a) : Ev g a := ⟨0, fun k _ => h k⟩
theorem Ev.ite_pos {α : Type} {c : Prop} [Decidable c] {g f : Nat → Option α} {r : α} (hc : c) (h : Ev g r) : Ev (fun k => if c then g k else f k) r := by
  simp only [if_pos hc]
  exact h
theorem Ev.ite_neg {α : Type} {c : Prop} [Decidable c] {g f : Nat → Option α} {r : α} (hc : ¬ c) (h : Ev f r) : Ev (fun k => if c then g k else f k) r := by
  simp only [if_neg hc]
  exact h
/-- A part that has no rounds. -/
theorem Ev.val {α β : Type} {o : Option α} {f : Nat → α → Option β} {a : α} {r : β} (h : o = some a) (k : Ev (fun n => f n a) r) : Ev (fun n => o.bind (f n)) r := by
  subst h
  exact k

theorem u64or (a b : Nat) (ha : a < 18446744073709551616) (hb : b < 18446744073709551616) : Go.bits .or .u64 (a : Int) (b : Int) = ((a ||| b : Nat) : Int) :=
  (Go.bits_nat .u64 64 (by decide) (fun n h0 h1 => by rw [u64w]; omega) a b ha hb).2
/-- Bits that stand apart: 'or' is the sum. -/
theorem u64or_low (x y : Int) (i : Nat) (hx0 : 0 ≤ x) (hx : x < 2 ^ i) (hy0 : 0 ≤ y) (hy : y % 2 ^ i = 0) (hy1 : y < 18446744073709551616) (hi : i ≤ 64) : Go.bits .or .u64 x y = x + y := by
  obtain ⟨a, rfl⟩ := Int.eq_ofNat_of_zero_le hx0
  obtain ⟨b, rfl⟩ := Int.eq_ofNat_of_zero_le hy0
  have ha : a < 2 ^ i := by exact_mod_cast hx
  have hb : b % 2 ^ i = 0 := by exact_mod_cast hy
  have h2 : (2 : Nat) ^ i ≤ 18446744073709551616 := by
    have := Nat.pow_le_pow_right (show 0 < 2 by decide) hi
    exact Nat.le_trans this (by decide)
  rw [u64or a b (by omega) (by omega), Nat.or_comm]
  have hq : b = 2 ^ i * (b / 2 ^ i) := by
    have := Nat.div_add_mod b (2 ^ i)
    omega
  rw [hq, ← Nat.two_pow_add_eq_or_of_lt ha (b / 2 ^ i)]
  omega
theorem u64or_high (x y : Int) (i : Nat) (hx0 : 0 ≤ x) (hx : x % 2 ^ i = 0) (hx1 : x < 18446744073709551616) (hy0 : 0 ≤ y) (hy : y < 2 ^ i) (hi : i ≤ 64) : Go.bits .or .u64 x y = x + y := by
  have e : Go.bits .or .u64 x y = Go.bits .or .u64 y x := by
    obtain ⟨a, rfl⟩ := Int.eq_ofNat_of_zero_le hx0
    obtain ⟨b, rfl⟩ := Int.eq_ofNat_of_zero_le hy0
    have hb : b < 2 ^ i := by exact_mod_cast hy
    have h2 : (2 : Nat) ^ i ≤ 18446744073709551616 := by
      have := Nat.pow_le_pow_right (show 0 < 2 by decide) hi
      exact Nat.le_trans this (by decide)
    rw [u64or a b (by omega) (by omega), u64or b a (by omega) (by omega), Nat.or_comm]
  rw [e, u64or_low y x i hy0 hy hx0 hx hx1 hi]
  omega

theorem l1In_e (a b c : Int) : spec_l1In.f a b c = some (decide (b ≤ a ∧ a ≤ c)) := by
  unfold spec_l1In.f
  by_cases h : a ≥ b
  · simp [if_pos h, h]
  · simp [if_neg h]; omega
theorem from_e (a b c : Int) : impl_from.f a b c = some (decide (b ≤ a ∧ a ≤ c)) := by
  unfold impl_from.f
  by_cases h : a ≥ b
  · simp [if_pos h, h]
  · simp [if_neg h]; omega
/-- An address is right. -/
def addrOk (x : Bool) (h l : Int) : Bool := x || (decide (h = 0) && decide (0 ≤ l ∧ l ≤ 4294967295))
theorem spec_AddrOk_e (x : Bool) (h l : Int) : spec_AddrOk.f x h l = some (addrOk x h l) := by
  unfold spec_AddrOk.f addrOk
  cases x
  · by_cases hh : h = 0
    · simp [hh, l1In_e]
    · simp [hh]
  · rfl
theorem impl_AddrOk_e (x : Bool) (h l : Int) : impl_AddrOk.f x h l = some (addrOk x h l) := by
  unfold impl_AddrOk.f addrOk
  cases x
  · by_cases hh : h = 0
    · simp [hh, from_e]
    · simp [hh]
  · rfl

theorem high_tab (n : Nat) (h : n ≤ 64) : 18446744073709551615 / 2 ^ n = 2 ^ (64 - n) - 1 ∧ (18446744073709551615 * 2 ^ n) % 18446744073709551616 = 18446744073709551616 - 2 ^ n := by
  have t : ∀ n : Fin 65, 18446744073709551615 / 2 ^ n.1 = 2 ^ (64 - n.1) - 1 ∧ (18446744073709551615 * 2 ^ n.1) % 18446744073709551616 = 18446744073709551616 - 2 ^ n.1 := by decide +kernel
  exact t ⟨n, by omega⟩
theorem four_tab (n : Nat) (h : n ≤ 32) : 4294967295 / 2 ^ n = 2 ^ (32 - n) - 1 ∧ (18446744073709551616 - 2 ^ (64 - n)) / 4294967296 = 4294967296 - 2 ^ (32 - n) := by
  have t : ∀ n : Fin 33, 4294967295 / 2 ^ n.1 = 2 ^ (32 - n.1) - 1 ∧ (18446744073709551616 - 2 ^ (64 - n.1)) / 4294967296 = 4294967296 - 2 ^ (32 - n.1) := by decide +kernel
  exact t ⟨n, by omega⟩
theorem pow_le64 (k : Nat) (h : k ≤ 64) : 1 ≤ 2 ^ k ∧ 2 ^ k ≤ 18446744073709551616 := ⟨Nat.one_le_two_pow, Nat.le_trans (Nat.pow_le_pow_right (by decide) h) (by decide)⟩
theorem pow_le32 (k : Nat) (h : k ≤ 32) : 1 ≤ 2 ^ k ∧ 2 ^ k ≤ 4294967296 := ⟨Nat.one_le_two_pow, Nat.le_trans (Nat.pow_le_pow_right (by decide) h) (by decide)⟩
/-- The bits from k on. -/
theorem nat_and_high (a k w : Nat) (hk : k ≤ w) (ha : a < 2 ^ w) : a &&& (2 ^ w - 2 ^ k) = a - a % 2 ^ k := by
  have e1 : 2 ^ w - 2 ^ k = 2 ^ k * (2 ^ (w - k) - 1) := by
    rw [Nat.mul_sub, ← Nat.pow_add, Nat.add_sub_cancel' hk, Nat.mul_one]
  have e2 : a - a % 2 ^ k = 2 ^ k * (a / 2 ^ k) := by
    have := Nat.div_add_mod a (2 ^ k)
    omega
  rw [e1, e2]
  apply Nat.eq_of_testBit_eq
  intro i
  rw [Nat.testBit_and, Nat.testBit_two_pow_mul, Nat.testBit_two_pow_mul, Nat.testBit_two_pow_sub_one, Nat.testBit_div_two_pow]
  by_cases hi : k ≤ i
  · by_cases hw : i < w
    · simp [hi, Nat.sub_add_cancel hi, show i - k < w - k by omega]
    · have : a.testBit i = false := Nat.testBit_lt_two_pow (Nat.lt_of_lt_of_le ha (Nat.pow_le_pow_right (by decide) (by omega)))
      simp [hi, Nat.sub_add_cancel hi, this]
  · simp [hi]
theorem u64and (a b : Nat) (ha : a < 18446744073709551616) (hb : b < 18446744073709551616) : Go.bits .and .u64 (a : Int) (b : Int) = ((a &&& b : Nat) : Int) :=
  (Go.bits_nat .u64 64 (by decide) (fun n h0 h1 => by rw [u64w]; omega) a b ha hb).1
theorem i64w (n : Int) : IntKind.i64.wrap n = wrap64 n := IntWalk.i64_left n
theorem i64and (a b : Nat) (ha : a < 9223372036854775808) (hb : b < 9223372036854775808) : Go.bits .and .i64 (a : Int) (b : Int) = ((a &&& b : Nat) : Int) :=
  (Go.bits_nat .i64 63 (by decide) (fun n h0 h1 => by rw [i64w]; exact w64 (by omega) (by omega)) a b ha hb).1
theorem u64andNot (a b : Nat) (ha : a < 18446744073709551616) (hb : b < 18446744073709551616) : Go.bits .andNot .u64 (a : Int) (b : Int) = ((a &&& (18446744073709551615 - b) : Nat) : Int) := by
  have ha' : a % 2 ^ 64 = a := Nat.mod_eq_of_lt ha
  have hb' : b % 2 ^ 64 = b := Nat.mod_eq_of_lt hb
  have e : IntKind.u64.bits = 64 := rfl
  simp only [Go.bits, e, BitVec.ofInt_natCast, BitVec.toNat_and, BitVec.toNat_not, BitVec.toNat_ofNat, ha', hb']
  have h : a &&& (2 ^ 64 - 1 - b) < 2 ^ 64 := Nat.lt_of_le_of_lt Nat.and_le_left ha
  rw [u64w]
  have e2 : (2 : Nat) ^ 64 - 1 - b = 18446744073709551615 - b := rfl
  rw [e2] at h ⊢
  omega
theorem and_high (u : Int) (k : Nat) (hk : k ≤ 64) (h0 : 0 ≤ u) (h1 : u < 18446744073709551616) (m : Int) (hm : m = ((18446744073709551616 - 2 ^ k : Nat) : Int)) : Go.bits .and .u64 u m = u - u % 2 ^ k := by
  obtain ⟨a, rfl⟩ := Int.eq_ofNat_of_zero_le h0
  have hp := pow_le64 k hk
  rw [hm, u64and a _ (by omega) (by omega)]
  have e := nat_and_high a k 64 hk (by omega)
  have e64 : (2 : Nat) ^ 64 = 18446744073709551616 := rfl
  rw [e64] at e
  rw [e]
  have hle : a % 2 ^ k ≤ a := Nat.mod_le _ _
  rw [Int.natCast_sub hle, Int.natCast_emod, Int.natCast_pow]
  rfl
theorem andNot_low (u : Int) (k : Nat) (hk : k ≤ 64) (h0 : 0 ≤ u) (h1 : u < 18446744073709551616) (m : Int) (hm : m = ((2 ^ k - 1 : Nat) : Int)) : Go.bits .andNot .u64 u m = u - u % 2 ^ k := by
  have hp := pow_le64 k hk
  obtain ⟨a, rfl⟩ := Int.eq_ofNat_of_zero_le h0
  have e : Go.bits .andNot .u64 (a : Int) m = Go.bits .and .u64 (a : Int) ((18446744073709551616 - 2 ^ k : Nat) : Int) := by
    rw [hm, u64andNot a _ (by omega) (by omega), u64and a _ (by omega) (by omega)]
    congr 2
    omega
  rw [e]
  exact and_high _ k hk h0 h1 _ rfl
theorem and_four (u : Int) (k : Nat) (hk : k ≤ 32) (h0 : 0 ≤ u) (h1 : u < 4294967296) (m : Int) (hm : m = ((4294967296 - 2 ^ k : Nat) : Int)) : Go.bits .and .i64 u m = u - u % 2 ^ k := by
  obtain ⟨a, rfl⟩ := Int.eq_ofNat_of_zero_le h0
  have hp := pow_le32 k hk
  rw [hm, i64and a _ (by omega) (by omega)]
  have e := nat_and_high a k 32 hk (by omega)
  have e32 : (2 : Nat) ^ 32 = 4294967296 := rfl
  rw [e32] at e
  rw [e]
  have hle : a % 2 ^ k ≤ a := Nat.mod_le _ _
  rw [Int.natCast_sub hle, Int.natCast_emod, Int.natCast_pow]
  rfl
/-- How many bits behind the first b are in the upper, the lower half; of 32. -/
def kHi (b : Int) : Nat := min 64 (64 - b).toNat
def kLo (b : Int) : Nat := min 64 (128 - b).toNat
def kFo (b : Int) : Nat := (32 - b).toNat
def keep (u : Int) (k : Nat) : Int := u - u % 2 ^ k
theorem pow_cast (k : Nat) : ((2 ^ k : Nat) : Int) = 2 ^ k := by simp
theorem keep_mul (u : Int) (k : Nat) : keep u k = 2 ^ k * (u / 2 ^ k) := by
  have := Int.emod_add_mul_ediv u (2 ^ k)
  unfold keep
  omega
theorem keep_mod (u : Int) (k : Nat) : keep u k % 2 ^ k = 0 := by rw [keep_mul, Int.mul_emod_right]
theorem keep_bd (u : Int) (k : Nat) (h : 0 ≤ u) : 0 ≤ keep u k ∧ keep u k ≤ u ∧ u < keep u k + 2 ^ k := by
  have hk2 : (0 : Int) < 2 ^ k := Int.pow_pos (by decide)
  have h1 := Int.emod_nonneg u (show (2 : Int) ^ k ≠ 0 by omega)
  have h2 := Int.emod_lt_of_pos u hk2
  have h3 : 0 ≤ u / 2 ^ k := Int.ediv_nonneg h (by omega)
  have h4 : 0 ≤ 2 ^ k * (u / 2 ^ k) := Int.mul_nonneg (by omega) h3
  have h5 := keep_mul u k
  unfold keep at h5 ⊢
  omega
def maskA (x : Bool) (h l b : Int) : Bool × Int × Int :=
  if x = true then (true, wrap64 (keep (h % 18446744073709551616) (kHi b)), wrap64 (keep (l % 18446744073709551616) (kLo b))) else (false, 0, keep l (kFo b))
theorem spec_l2High_e (c : Int) (h0 : -64 ≤ c) (h1 : c ≤ 128) : spec_l2High.f c = some ((18446744073709551616 - 2 ^ (min 64 (64 - c).toNat) : Nat) : Int) := by
  unfold spec_l2High.f
  by_cases h : c ≤ 0
  · rw [if_pos h, Nat.min_eq_left (by omega)]; rfl
  · rw [if_neg h]
    by_cases h2 : c ≥ 64
    · rw [if_pos h2, show (64 - c).toNat = 0 by omega]; rfl
    · have e := (high_tab (64 - c).toNat (by omega)).2
      have hb : IntKind.u64.bits = 64 := rfl
      rw [if_neg h2, w64 (by omega) (by omega), u64in (by omega) (by omega), if_pos (by omega), shl, u64w, hb, Nat.min_eq_left (show (64 - c).toNat ≤ 64 by omega), Nat.min_eq_right (by omega), ← e]
      simp
theorem spec_l2Mask_e (x : Bool) (h l b : Int) (hb0 : 0 ≤ b) (hb1 : b ≤ if x = true then 128 else 32) (hf : x = false → 0 ≤ l ∧ l < 4294967296) : spec_l2Mask.f x h l b = some (maskA x h l b) := by
  unfold spec_l2Mask.f maskA
  cases x
  · simp only [Bool.false_eq_true, if_false] at hb1 ⊢
    obtain ⟨hl0, hl1⟩ := hf rfl
    have e := (four_tab b.toNat (by omega)).2
    have hp := pow_le32 (32 - b.toNat) (by omega)
    rw [spec_l2High_e b (by omega) (by omega)]
    simp only [Option.bind_some]
    rw [show min 64 (64 - b).toNat = 64 - b.toNat by omega]
    have hw : wrap64 (((18446744073709551616 - 2 ^ (64 - b.toNat) : Nat) : Int) / 4294967296) = ((4294967296 - 2 ^ (32 - b.toNat) : Nat) : Int) := by
      rw [show (((18446744073709551616 - 2 ^ (64 - b.toNat) : Nat) : Int) / 4294967296) = (((18446744073709551616 - 2 ^ (64 - b.toNat)) / 4294967296 : Nat) : Int) from rfl, e]
      exact w64 (by omega) (by omega)
    rw [hw, and_four l (32 - b.toNat) (by omega) hl0 hl1 _ rfl]
    unfold keep kFo
    rw [show 32 - b.toNat = (32 - b).toNat by omega]
  · simp only [if_true] at hb1 ⊢
    rw [spec_l2High_e b (by omega) (by omega), w64 (by omega) (by omega), spec_l2High_e (b - 64) (by omega) (by omega)]
    simp only [Option.bind_some]
    rw [u64w, u64w, and_high _ (min 64 (64 - b).toNat) (by omega) (by omega) (by omega) _ rfl, and_high _ (min 64 (64 - (b - 64)).toNat) (by omega) (by omega) (by omega) _ rfl]
    unfold keep kHi kLo
    rw [show (64 - (b - 64)).toNat = (128 - b).toNat by omega]
theorem spec_l2Width_e (x : Bool) (h l : Int) : spec_l2Width.f x h l = some (if x = true then 128 else 32) := by
  unfold spec_l2Width.f
  cases x <;> rfl
theorem or_low (u : Int) (k : Nat) (hk : k ≤ 64) (h0 : 0 ≤ u) (h1 : u < 18446744073709551616) (m : Int) (hm : m = ((2 ^ k - 1 : Nat) : Int)) : Go.bits .or .u64 (keep u k) m = keep u k + m := by
  have hp := pow_le64 k hk
  have hb := keep_bd u k h0
  exact u64or_high _ m k hb.1 (keep_mod u k) (by omega) (by omega) (by rw [hm, ← pow_cast]; omega) hk
def fillA (x : Bool) (h l b : Int) : Bool × Int × Int :=
  if x = true then (true, wrap64 (keep (h % 18446744073709551616) (kHi b) + (2 ^ kHi b - 1)), wrap64 (keep (l % 18446744073709551616) (kLo b) + (2 ^ kLo b - 1))) else (false, 0, keep l (kFo b) + (2 ^ kFo b - 1))
theorem impl_masked_e (x : Bool) (h l b : Int) (hb0 : 0 ≤ b) (hb1 : b ≤ if x = true then 128 else 32) (hf : x = false → 0 ≤ l ∧ l < 4294967296) : impl_masked.f x h l b false = some (maskA x h l b) := by
  unfold impl_masked.f maskA
  have hbits : IntKind.u64.bits = 64 := rfl
  cases x
  · simp only [Bool.false_eq_true, if_false] at hb1 ⊢
    obtain ⟨hl0, hl1⟩ := hf rfl
    have e := (four_tab b.toNat (by omega)).1
    have hp := pow_le32 (32 - b.toNat) (by omega)
    have hs : shr .u64 4294967295 b = ((2 ^ (32 - b.toNat) - 1 : Nat) : Int) := by
      unfold shr
      rw [hbits, Nat.min_eq_left (show b.toNat ≤ 64 by omega), ← e]
      simp
    rw [if_pos hb0, hs, u64in hl0 (by omega), andNot_low l (32 - b.toNat) (by omega) hl0 (by omega) _ rfl]
    have hb := keep_bd l (32 - b.toNat) hl0
    unfold keep at hb
    rw [w64 (by omega) (by omega)]
    unfold keep kFo
    rw [show 32 - b.toNat = (32 - b).toNat by omega]
  · simp only [if_true, Bool.false_eq_true, if_false] at hb1 ⊢
    by_cases h64 : b < 64
    · have e := (high_tab b.toNat (by omega)).1
      have hs : shr .u64 18446744073709551615 b = ((2 ^ (64 - b.toNat) - 1 : Nat) : Int) := by
        unfold shr
        rw [hbits, Nat.min_eq_left (show b.toNat ≤ 64 by omega), ← e]
        simp
      rw [if_pos h64, if_pos hb0, hs, u64w, u64w, andNot_low _ (64 - b.toNat) (by omega) (by omega) (by omega) _ rfl, andNot_low _ 64 (by omega) (by omega) (by omega) 18446744073709551615 (by decide)]
      unfold keep kHi kLo
      rw [show min 64 (64 - b).toNat = 64 - b.toNat by omega, show min 64 (128 - b).toNat = 64 by omega]
    · have e := (high_tab (b - 64).toNat (by omega)).1
      have hs : shr .u64 18446744073709551615 (b - 64) = ((2 ^ (64 - (b - 64).toNat) - 1 : Nat) : Int) := by
        unfold shr
        rw [hbits, Nat.min_eq_left (show (b - 64).toNat ≤ 64 by omega), ← e]
        simp
      rw [if_neg h64, w64 (x := b - 64) (by omega) (by omega), if_pos (by omega), hs, u64w, u64w, andNot_low _ 0 (by omega) (by omega) (by omega) 0 (by decide), andNot_low _ (64 - (b - 64).toNat) (by omega) (by omega) (by omega) _ rfl]
      unfold keep kHi kLo
      rw [show min 64 (64 - b).toNat = 0 by omega, show min 64 (128 - b).toNat = 64 - (b - 64).toNat by omega]
theorem impl_width_e (x : Bool) (h l : Int) : impl_width.f x h l = some (if x = true then 128 else 32) := by
  unfold impl_width.f
  cases x <;> rfl
/-- A prefix is right. -/
def prefOk (x : Bool) (h l b : Int) : Bool := addrOk x h l && decide (0 ≤ b ∧ b ≤ if x = true then 128 else 32) && (maskA x h l b == (x, h, l))
theorem addrOk_four {x : Bool} {h l : Int} (hk : addrOk x h l = true) : x = false → h = 0 ∧ 0 ≤ l ∧ l < 4294967296 := by
  intro hx
  subst hx
  simp [addrOk] at hk
  omega
theorem eq3 (p : Bool × Int × Int) (x : Bool) (h l : Int) : (p.1 == x && (p.2.1 == h && (p.2.2 == l))) = (p == (x, h, l)) := by
  obtain ⟨a, b, c⟩ := p
  rfl
theorem spec_PrefixOk_e (x : Bool) (h l b : Int) : spec_PrefixOk.f x h l b = some (prefOk x h l b) := by
  unfold spec_PrefixOk.f prefOk
  rw [spec_AddrOk_e]
  simp only [Option.bind_some]
  by_cases ha : addrOk x h l = true
  · rw [if_pos ha, ha, spec_l2Width_e]
    simp only [Option.bind_some, l1In_e, decide_eq_true_eq]
    by_cases hb : 0 ≤ b ∧ b ≤ if x = true then 128 else 32
    · rw [if_pos hb, decide_eq_true hb, spec_l2Mask_e x h l b hb.1 hb.2 (fun hx => (addrOk_four ha hx).2)]
      simp only [Option.bind_some, eq3, Bool.true_and]
    · rw [if_neg hb, decide_eq_false hb]; simp
  · rw [if_neg ha, Bool.eq_false_iff.mpr ha]; simp
theorem impl_PrefixOk_e (x : Bool) (h l b : Int) : impl_PrefixOk.f x h l b = some (prefOk x h l b) := by
  unfold impl_PrefixOk.f prefOk
  rw [impl_AddrOk_e]
  simp only [Option.bind_some]
  by_cases ha : addrOk x h l = true
  · rw [if_pos ha, ha, impl_width_e]
    simp only [Option.bind_some, from_e, decide_eq_true_eq]
    by_cases hb : 0 ≤ b ∧ b ≤ if x = true then 128 else 32
    · rw [if_pos hb, decide_eq_true hb, impl_masked_e x h l b hb.1 hb.2 (fun hx => (addrOk_four ha hx).2)]
      simp only [Option.bind_some, eq3, Bool.true_and]
    · rw [if_neg hb, decide_eq_false hb]; simp
  · rw [if_neg ha, Bool.eq_false_iff.mpr ha]; simp

/-- A prefix has an address. -/
def hasA (x : Bool) (h l b : Int) (y : Bool) (g m : Int) : Bool := prefOk x h l b && (addrOk y g m && ((y == x) && (maskA y g m b == (x, h, l))))
theorem prefOk_bits {x : Bool} {h l b : Int} (hp : prefOk x h l b = true) : addrOk x h l = true ∧ 0 ≤ b ∧ (b ≤ if x = true then 128 else 32) ∧ maskA x h l b = (x, h, l) := by
  simp only [prefOk, Bool.and_eq_true, decide_eq_true_eq, beq_iff_eq] at hp
  exact ⟨hp.1.1, hp.1.2.1, hp.1.2.2, hp.2⟩
theorem spec_HasAddr_e (x : Bool) (h l b : Int) (y : Bool) (g m : Int) : spec_HasAddr.f x h l b y g m = some (hasA x h l b y g m) := by
  unfold spec_HasAddr.f hasA
  rw [spec_PrefixOk_e]
  simp only [Option.bind_some]
  by_cases hp : prefOk x h l b = true
  · obtain ⟨_, hb0, hb1, _⟩ := prefOk_bits hp
    rw [if_pos hp, hp, spec_AddrOk_e]
    simp only [Option.bind_some]
    by_cases ha : addrOk y g m = true
    · rw [if_pos ha, ha]
      by_cases hy : (y == x) = true
      · have hyx : y = x := by simpa using hy
        rw [if_pos hy, hy, spec_l2Mask_e y g m b hb0 (by rw [hyx]; exact hb1) (fun hx => (addrOk_four ha hx).2)]
        simp only [Option.bind_some, eq3, Bool.true_and]
      · rw [if_neg hy, Bool.eq_false_iff.mpr hy]; simp
    · rw [if_neg ha, Bool.eq_false_iff.mpr ha]; simp
  · rw [if_neg hp, Bool.eq_false_iff.mpr hp]; simp
theorem impl_HasAddr_e (x : Bool) (h l b : Int) (y : Bool) (g m : Int) : impl_HasAddr.f x h l b y g m = some (hasA x h l b y g m) := by
  unfold impl_HasAddr.f hasA
  rw [impl_PrefixOk_e]
  simp only [Option.bind_some]
  by_cases hp : prefOk x h l b = true
  · obtain ⟨_, hb0, hb1, _⟩ := prefOk_bits hp
    rw [if_pos hp, hp, impl_AddrOk_e]
    simp only [Option.bind_some]
    by_cases ha : addrOk y g m = true
    · rw [if_pos ha, ha]
      by_cases hy : (y == x) = true
      · have hyx : y = x := by simpa using hy
        rw [if_pos hy, hy, impl_masked_e y g m b hb0 (by rw [hyx]; exact hb1) (fun hx => (addrOk_four ha hx).2)]
        simp only [Option.bind_some, eq3, Bool.true_and]
      · rw [if_neg hy, Bool.eq_false_iff.mpr hy]; simp
    · rw [if_neg ha, Bool.eq_false_iff.mpr ha]; simp
  · rw [if_neg hp, Bool.eq_false_iff.mpr hp]; simp

def in64 (z : Int) : Prop := -9223372036854775808 ≤ z ∧ z ≤ 9223372036854775807
theorem wf_in {z : Int} (h : (Lit.int .i64 z).wf = true) : in64 z := wf64 h
theorem in64_zero : in64 0 := by unfold in64; omega
theorem wrap_in {z : Int} (h : in64 z) : wrap64 (z % 18446744073709551616) = z := by unfold in64 at h; unfold wrap64; omega
theorem wrap_is (z : Int) : in64 (wrap64 z) := by unfold wrap64 in64; omega
theorem u_inj {a b : Int} (ha : in64 a) (hb : in64 b) (h : a % 18446744073709551616 = b % 18446744073709551616) : a = b := by unfold in64 at ha hb; omega

/-- An address, or the zero one of what is none. -/
def rightA (x : Bool) (h l : Int) : Bool × Int × Int := if addrOk x h l = true then (x, h, l) else (false, 0, 0)
/-- What is right: of 32 bits its upper half is 0, its lower one below 2^32. -/
structure Right (p : Bool × Int × Int) : Prop where
  four : p.1 = false → p.2.1 = 0 ∧ 0 ≤ p.2.2 ∧ p.2.2 ≤ 4294967295
  hi : in64 p.2.1
  lo : in64 p.2.2
theorem rightA_right (x : Bool) (h l : Int) (hh : in64 h) (hl : in64 l) : Right (rightA x h l) := by
  unfold rightA
  by_cases ha : addrOk x h l = true
  · rw [if_pos ha]
    refine ⟨fun hx => ?_, hh, hl⟩
    simp only at hx
    subst hx
    simpa [addrOk] using ha
  · rw [if_neg ha]
    exact ⟨fun _ => ⟨rfl, by simp⟩, in64_zero, in64_zero⟩
theorem rightA_ok {x : Bool} {h l : Int} (ha : addrOk x h l = true) : rightA x h l = (x, h, l) := if_pos ha
theorem spec_l1Addr_e (x : Bool) (h l : Int) : spec_l1Addr.f x h l = some (rightA x h l) := by
  unfold spec_l1Addr.f rightA
  rw [spec_AddrOk_e]
  simp only [Option.bind_some]
  by_cases ha : addrOk x h l = true
  · rw [if_pos ha, if_pos ha]
  · rw [if_neg ha, if_neg ha]
theorem impl_right_e (x : Bool) (h l : Int) : impl_right.f x h l = some (rightA x h l) := by
  unfold impl_right.f rightA
  rw [impl_AddrOk_e]
  simp only [Option.bind_some]
  by_cases ha : addrOk x h l = true
  · rw [if_pos ha, if_pos ha]
  · rw [if_neg ha, if_neg ha]

/-- The address n farther. -/
def addR (p : Bool × Int × Int) (n : Int) : Bool × Int × Int × Bool :=
  if n < 0 then (false, 0, 0, false) else
  if p.1 = true then
    (if p.2.2 % 18446744073709551616 + n < 18446744073709551616 then (true, p.2.1, wrap64 (p.2.2 % 18446744073709551616 + n), true)
    else if p.2.1 % 18446744073709551616 = 18446744073709551615 then (false, 0, 0, false) else (true, wrap64 (p.2.1 % 18446744073709551616 + 1), wrap64 (p.2.2 % 18446744073709551616 + n), true))
  else if n > 4294967295 - p.2.2 then (false, 0, 0, false) else (false, 0, p.2.2 + n, true)
def addTo (x : Bool) (h l n : Int) : Bool × Int × Int × Bool := addR (rightA x h l) n
theorem wrap_mod (a b : Int) (h : a % 18446744073709551616 = b % 18446744073709551616) : wrap64 a = wrap64 b := by unfold wrap64; omega
theorem spec_l1Less_a (a b : Int) : spec_l1Less.f a b = some (decide (a % 18446744073709551616 < b % 18446744073709551616)) := by
  unfold spec_l1Less.f
  rw [u64w, u64w]
theorem spec_AddTo_e (x : Bool) (h l n : Int) (hh : in64 h) (hl : in64 l) (hn : in64 n) : spec_AddTo.f x h l n = some (addTo x h l n) := by
  unfold spec_AddTo.f addTo
  rw [spec_l1Addr_e]
  have r := rightA_right x h l hh hl
  generalize rightA x h l = p at r ⊢
  obtain ⟨p0, p1, p2⟩ := p
  have hr := r.hi
  have hlo := r.lo
  have hfo := r.four
  simp only [in64] at hr hlo hn hfo
  simp only [Option.bind_some, addR]
  by_cases h0 : n < 0
  · rw [if_pos h0, if_pos h0]
  · rw [if_neg h0, if_neg h0]
    cases p0
    · obtain ⟨_, h4⟩ := hfo rfl
      simp only [Bool.false_eq_true, if_false]
      rw [w64 (x := 4294967295 - p2) (by omega) (by omega)]
      by_cases h1 : n > 4294967295 - p2
      · rw [if_pos h1, if_pos h1]
      · rw [if_neg h1, if_neg h1]
        simp only [u64w]
        obtain ⟨rfl, h5⟩ := hfo rfl
        have e : wrap64 ((p2 % 18446744073709551616 + n % 18446744073709551616) % 18446744073709551616) = p2 + n := by rw [show (p2 % 18446744073709551616 + n % 18446744073709551616) % 18446744073709551616 = p2 + n by omega]; exact w64 (by omega) (by omega)
        rw [e]
    · simp only [if_true, u64w, spec_l1Less_a, Option.bind_some, decide_eq_true_eq]
      have e : wrap64 ((p2 % 18446744073709551616 + n % 18446744073709551616) % 18446744073709551616) % 18446744073709551616 = (p2 % 18446744073709551616 + n) % 18446744073709551616 := by unfold wrap64; omega
      rw [e]
      by_cases h1 : p2 % 18446744073709551616 + n < 18446744073709551616
      · rw [if_neg (by omega), if_pos h1, wrap_mod ((p2 % 18446744073709551616 + n % 18446744073709551616) % 18446744073709551616) (p2 % 18446744073709551616 + n) (by omega)]
      · rw [if_pos (by omega), if_neg h1]
        by_cases h2 : p1 % 18446744073709551616 = 18446744073709551615
        · rw [if_pos h2, if_pos (by unfold wrap64; omega)]
        · rw [if_neg h2, if_neg (by unfold wrap64; omega), wrap_mod ((p2 % 18446744073709551616 + n % 18446744073709551616) % 18446744073709551616) (p2 % 18446744073709551616 + n) (by omega), wrap_mod ((p1 % 18446744073709551616 + 1) % 18446744073709551616) (p1 % 18446744073709551616 + 1) (by omega)]
theorem impl_AddTo_e (x : Bool) (h l n : Int) (hh : in64 h) (hl : in64 l) (hn : in64 n) : impl_AddTo.f x h l n = some (addTo x h l n) := by
  unfold impl_AddTo.f addTo
  rw [impl_right_e]
  have r := rightA_right x h l hh hl
  generalize rightA x h l = p at r ⊢
  obtain ⟨p0, p1, p2⟩ := p
  have hr := r.hi
  have hlo := r.lo
  have hfo := r.four
  simp only [in64] at hr hlo hn hfo
  simp only [Option.bind_some, addR]
  by_cases h0 : n < 0
  · rw [if_pos h0, if_pos h0]
  · rw [if_neg h0, if_neg h0]
    cases p0
    · obtain ⟨_, h4⟩ := hfo rfl
      simp only [Bool.false_eq_true, if_false]
      rw [w64 (x := 4294967295 - p2) (by omega) (by omega)]
      by_cases h1 : n > 4294967295 - p2
      · rw [if_pos h1, if_pos h1]
      · rw [if_neg h1, if_neg h1, w64 (by omega) (by omega)]
    · simp only [if_true, u64w, add64s, add64c]
      have en : n % 18446744073709551616 = n := by omega
      rw [en]
      by_cases h1 : p2 % 18446744073709551616 + n < 18446744073709551616
      · have c0 : (p2 % 18446744073709551616 + n + 0) / 18446744073709551616 = 0 := by omega
        rw [c0, if_pos (by omega), if_pos h1, wrap_mod ((p2 % 18446744073709551616 + n + 0) % 18446744073709551616) (p2 % 18446744073709551616 + n) (by omega)]
        have e : wrap64 ((p1 % 18446744073709551616 + 0 + 0) % 18446744073709551616) = p1 := by
          rw [show (p1 % 18446744073709551616 + 0 + 0) % 18446744073709551616 = p1 % 18446744073709551616 by omega]
          exact wrap_in r.hi
        rw [e]
      · have c1 : (p2 % 18446744073709551616 + n + 0) / 18446744073709551616 = 1 := by omega
        rw [c1, if_neg h1]
        by_cases h2 : p1 % 18446744073709551616 = 18446744073709551615
        · rw [if_pos h2, if_neg (by rw [h2]; decide)]
        · rw [if_neg h2, if_pos (by omega), wrap_mod ((p2 % 18446744073709551616 + n + 0) % 18446744073709551616) (p2 % 18446744073709551616 + n) (by omega), wrap_mod ((p1 % 18446744073709551616 + 0 + 1) % 18446744073709551616) (p1 % 18446744073709551616 + 1) (by omega)]

def nthOf (x : Bool) (h l b n : Int) : Bool × Int × Int × Bool :=
  if prefOk x h l b = true then (if (addTo x h l n).2.2.2 = true then (if hasA x h l b (addTo x h l n).1 (addTo x h l n).2.1 (addTo x h l n).2.2.1 = true then ((addTo x h l n).1, (addTo x h l n).2.1, (addTo x h l n).2.2.1, true) else (false, 0, 0, false)) else (false, 0, 0, false)) else (false, 0, 0, false)
theorem spec_NthOf_e (x : Bool) (h l b n : Int) (hh : in64 h) (hl : in64 l) (hn : in64 n) : spec_NthOf.f x h l b n = some (nthOf x h l b n) := by
  unfold spec_NthOf.f nthOf
  rw [spec_PrefixOk_e, spec_AddTo_e x h l n hh hl hn]
  simp only [Option.bind_some, spec_HasAddr_e]
  repeat' split
  all_goals first | rfl | simp_all
theorem impl_NthOf_e (x : Bool) (h l b n : Int) (hh : in64 h) (hl : in64 l) (hn : in64 n) : impl_NthOf.f x h l b n = some (nthOf x h l b n) := by
  unfold impl_NthOf.f nthOf
  rw [impl_PrefixOk_e, impl_AddTo_e x h l n hh hl hn]
  simp only [Option.bind_some, impl_HasAddr_e]
  repeat' split
  all_goals first | rfl | simp_all

theorem eqAddr_refl (x : Bool) (h l : Int) : laws_eqAddr.f x h l x h l = some true := by simp [laws_eqAddr.f]

theorem FnExactNthOf (x : Bool) (h l b n : Int) (hh : (Lit.int .i64 h).wf = true) (hl : (Lit.int .i64 l).wf = true) (_ : (Lit.int .i64 b).wf = true) (hn : (Lit.int .i64 n).wf = true) : laws_FnExactNthOf.f x h l b n = some true := by
  simp [laws_FnExactNthOf.f, laws_toPrefix.f, laws_toAddr.f, spec_NthOf_e x h l b n (wf_in hh) (wf_in hl) (wf_in hn), impl_NthOf_e x h l b n (wf_in hh) (wf_in hl) (wf_in hn), eqAddr_refl]

end Go.Proofs.Ytigmadccchofiaa.Pure
