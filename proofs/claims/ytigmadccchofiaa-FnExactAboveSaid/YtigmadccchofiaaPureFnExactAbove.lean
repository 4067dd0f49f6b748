/-
The pure part of the statement FnExactAbove: what the printed functions answer is true at every input.
Conditions: none but the kinds' own bounds, as the printed statement has them.
-/
import Derived.Test.YtigmadccchofiaaQFnExactAbovex0
import Derived.Test.YtigmadccchofiaaQFnExactAbovex1
import Derived.Test.YtigmadccchofiaaQFnExactAbovex2
import Derived.Test.YtigmadccchofiaaQFnExactAbovex3
import Derived.Test.YtigmadccchofiaaQFnExactAbovex4
import Derived.Test.YtigmadccchofiaaQFnExactAbovex5
namespace Go.Proofs.Ytigmadccchofiaa.Pure
open Go.RowKit Go.Proofs.Ytigmadccchofiaa.QFnExactAbove Go.Proofs.YtigmadccchofiaaW.PrintWords Go.Proofs.YtigmadccchofiaaW.PrintLast Go.Proofs.YtigmadccchofiaaW.PrintMore
set_option linter.unusedVariables false
set_option linter.unusedSimpArgs false

theorem wf64 {x : Int} (h : (Lit.int .i64 x).wf = true) : -9223372036854775808 ≤ x ∧ x ≤ 9223372036854775807 := by
  simpa [Lit.wf, IntKind.min, IntKind.max, IntKind.signed, IntKind.bits] using h
theorem wf8 {x : Int} (h : (Lit.int .u8 x).wf = true) : 0 ≤ x ∧ x ≤ 255 := by
  simpa [Lit.wf, IntKind.min, IntKind.max, IntKind.signed, IntKind.bits] using h
theorem w64 {x : Int} (h0 : -9223372036854775808 ≤ x) (h1 : x ≤ 9223372036854775807) : wrap64 x = x := by unfold wrap64; omega
theorem u64w (n : Int) : IntKind.u64.wrap n = n % 18446744073709551616 := by simp [IntKind.wrap, IntKind.bits, IntKind.signed]
theorem u64in {x : Int} (h0 : 0 ≤ x) (h1 : x < 18446744073709551616) : IntKind.u64.wrap x = x := by rw [u64w]; omega
theorem rd_get (xs : List Int) (i : Int) (j : Nat) (x : Int) (hi : i = j) (h : xs[j]? = some x) : rd xs i = x := by
  subst hi
  simp [rd, List.getD, h]
theorem Ev.mid {α : Type} {g : Nat → Option α} {a b : α} (h : a = b) (e : Ev g a) : Ev g b := h ▸ e
theorem Ev.const {α : Type} {g : Nat → Option α} {a : α} (h : ∀ k, g k = some a) : Ev g a := ⟨0, fun k _ => h k⟩
theorem Ev.ite_pos {α : Type} {c : Prop} [Decidable c] {g f : Nat → Option α} {r : α} (hc : c) (h : Ev g r) : Ev (fun k => if c then g k else f k) r := by
  simp only [if_pos hc]
  exact h
theorem Ev.ite_neg {α : Type} {c : Prop} [Decidable c] {g f : Nat → Option α} {r : α} (hc : ¬ c) (h : Ev f r) : Ev (fun k => if c then g k else f k) r := by
  simp only [if_neg hc]
  exact h
/-- A part that has no rounds. -/
theorem Ev.val {α β : Type} {o : Option α} {f : Nat → α → Option β} {a : α} {r : β} (h : o = some a) (k : Ev (fun n => f n a) r) : Ev (fun n => o.bind (f n)) r := by
  subst h
  exact k

theorem u64or (a b : Nat) (ha : a < 18446744073709551616) (hb : b < 18446744073709551616) : Go.bits .or .u64 (a : Int) (b : Int) = ((a ||| b : Nat) : Int) :=
  (Go.bits_nat .u64 64 (by decide) (fun n h0 h1 => by rw [u64w]; omega) a b ha hb).2
/-- Bits that stand apart: 'or' is the sum. -/
theorem u64or_low (x y : Int) (i : Nat) (hx0 : 0 ≤ x) (hx : x < 2 ^ i) (hy0 : 0 ≤ y) (hy : y % 2 ^ i = 0) (hy1 : y < 18446744073709551616) (hi : i ≤ 64) : Go.bits .or .u64 x y = x + y := by
  obtain ⟨a, rfl⟩ := Int.eq_ofNat_of_zero_le hx0
  obtain ⟨b, rfl⟩ := Int.eq_ofNat_of_zero_le hy0
  have ha : a < 2 ^ i := by exact_mod_cast hx
  have hb : b % 2 ^ i = 0 := by exact_mod_cast hy
  have h2 : (2 : Nat) ^ i ≤ 18446744073709551616 := by
    have := Nat.pow_le_pow_right (show 0 < 2 by decide) hi
    exact Nat.le_trans this (by decide)
  rw [u64or a b (by omega) (by omega), Nat.or_comm]
  have hq : b = 2 ^ i * (b / 2 ^ i) := by
    have := Nat.div_add_mod b (2 ^ i)
    omega
  rw [hq, ← Nat.two_pow_add_eq_or_of_lt ha (b / 2 ^ i)]
  omega
theorem u64or_high (x y : Int) (i : Nat) (hx0 : 0 ≤ x) (hx : x % 2 ^ i = 0) (hx1 : x < 18446744073709551616) (hy0 : 0 ≤ y) (hy : y < 2 ^ i) (hi : i ≤ 64) : Go.bits .or .u64 x y = x + y := by
  have e : Go.bits .or .u64 x y = Go.bits .or .u64 y x := by
    obtain ⟨a, rfl⟩ := Int.eq_ofNat_of_zero_le hx0
    obtain ⟨b, rfl⟩ := Int.eq_ofNat_of_zero_le hy0
    have hb : b < 2 ^ i := by exact_mod_cast hy
    have h2 : (2 : Nat) ^ i ≤ 18446744073709551616 := by
      have := Nat.pow_le_pow_right (show 0 < 2 by decide) hi
      exact Nat.le_trans this (by decide)
    rw [u64or a b (by omega) (by omega), u64or b a (by omega) (by omega), Nat.or_comm]
  rw [e, u64or_low y x i hy0 hy hx0 hx hx1 hi]
  omega

theorem l1In_e (a b c : Int) : spec_l1In.f a b c = some (decide (b ≤ a ∧ a ≤ c)) := by
  unfold spec_l1In.f
  by_cases h : a ≥ b
  · simp [if_pos h, h]
  · simp [if_neg h]; omega
theorem from_e (a b c : Int) : impl_from.f a b c = some (decide (b ≤ a ∧ a ≤ c)) := by
  unfold impl_from.f
  by_cases h : a ≥ b
  · simp [if_pos h, h]
  · simp [if_neg h]; omega
/-- An address is right. -/
def addrOk (x : Bool) (h l : Int) : Bool := x || (decide (h = 0) && decide (0 ≤ l ∧ l ≤ 4294967295))
theorem spec_AddrOk_e (x : Bool) (h l : Int) : spec_AddrOk.f x h l = some (addrOk x h l) := by
  unfold spec_AddrOk.f addrOk
  cases x
  · by_cases hh : h = 0
    · simp [hh, l1In_e]
    · simp [hh]
  · rfl
theorem impl_AddrOk_e (x : Bool) (h l : Int) : impl_AddrOk.f x h l = some (addrOk x h l) := by
  unfold impl_AddrOk.f addrOk
  cases x
  · by_cases hh : h = 0
    · simp [hh, from_e]
    · simp [hh]
  · rfl

theorem high_tab (n : Nat) (h : n ≤ 64) : 18446744073709551615 / 2 ^ n = 2 ^ (64 - n) - 1 ∧ (18446744073709551615 * 2 ^ n) % 18446744073709551616 = 18446744073709551616 - 2 ^ n := by
  have t : ∀ n : Fin 65, 18446744073709551615 / 2 ^ n.1 = 2 ^ (64 - n.1) - 1 ∧ (18446744073709551615 * 2 ^ n.1) % 18446744073709551616 = 18446744073709551616 - 2 ^ n.1 := by decide +kernel
  exact t ⟨n, by omega⟩
theorem four_tab (n : Nat) (h : n ≤ 32) : 4294967295 / 2 ^ n = 2 ^ (32 - n) - 1 ∧ (18446744073709551616 - 2 ^ (64 - n)) / 4294967296 = 4294967296 - 2 ^ (32 - n) := by
  have t : ∀ n : Fin 33, 4294967295 / 2 ^ n.1 = 2 ^ (32 - n.1) - 1 ∧ (18446744073709551616 - 2 ^ (64 - n.1)) / 4294967296 = 4294967296 - 2 ^ (32 - n.1) := by decide +kernel
  exact t ⟨n, by omega⟩
theorem pow_le64 (k : Nat) (h : k ≤ 64) : 1 ≤ 2 ^ k ∧ 2 ^ k ≤ 18446744073709551616 := ⟨Nat.one_le_two_pow, Nat.le_trans (Nat.pow_le_pow_right (by decide) h) (by decide)⟩
theorem pow_le32 (k : Nat) (h : k ≤ 32) : 1 ≤ 2 ^ k ∧ 2 ^ k ≤ 4294967296 := ⟨Nat.one_le_two_pow, Nat.le_trans (Nat.pow_le_pow_right (by decide) h) (by decide)⟩
/-- The bits from k on. -/
theorem nat_and_high (a k w : Nat) (hk : k ≤ w) (ha : a < 2 ^ w) : a &&& (2 ^ w - 2 ^ k) = a - a % 2 ^ k := by
  have e1 : 2 ^ w - 2 ^ k = 2 ^ k * (2 ^ (w - k) - 1) := by
    rw [Nat.mul_sub, ← Nat.pow_add, Nat.add_sub_cancel' hk, Nat.mul_one]
  have e2 : a - a % 2 ^ k = 2 ^ k * (a / 2 ^ k) := by
    have := Nat.div_add_mod a (2 ^ k)
    omega
  rw [e1, e2]
  apply Nat.eq_of_testBit_eq
  intro i
  rw [Nat.testBit_and, Nat.testBit_two_pow_mul, Nat.testBit_two_pow_mul, Nat.testBit_two_pow_sub_one, Nat.testBit_div_two_pow]
  by_cases hi : k ≤ i
  · by_cases hw : i < w
    · simp [hi, Nat.sub_add_cancel hi, show i - k < w - k by omega]
    · have : a.testBit i = false := Nat.testBit_lt_two_pow (Nat.lt_of_lt_of_le ha (Nat.pow_le_pow_right (by decide) (by omega)))
      simp [hi, Nat.sub_add_cancel hi, this]
  · simp [hi]
theorem u64and (a b : Nat) (ha : a < 18446744073709551616) (hb : b < 18446744073709551616) : Go.bits .and .u64 (a : Int) (b : Int) = ((a &&& b : Nat) : Int) :=
  (Go.bits_nat .u64 64 (by decide) (fun n h0 h1 => by rw [u64w]; omega) a b ha hb).1
theorem i64w (n : Int) : IntKind.i64.wrap n = wrap64 n := IntWalk.i64_left n
theorem i64and (a b : Nat) (ha : a < 9223372036854775808) (hb : b < 9223372036854775808) : Go.bits .and .i64 (a : Int) (b : Int) = ((a &&& b : Nat) : Int) :=
  (Go.bits_nat .i64 63 (by decide) (fun n h0 h1 => by rw [i64w]; exact w64 (by omega) (by omega)) a b ha hb).1
theorem u64andNot (a b : Nat) (ha : a < 18446744073709551616) (hb : b < 18446744073709551616) : Go.bits .andNot .u64 (a : Int) (b : Int) = ((a &&& (18446744073709551615 - b) : Nat) : Int) := by
  have ha' : a % 2 ^ 64 = a := Nat.mod_eq_of_lt ha
  have hb' : b % 2 ^ 64 = b := Nat.mod_eq_of_lt hb
  have e : IntKind.u64.bits = 64 := rfl
  simp only [Go.bits, e, BitVec.ofInt_natCast, BitVec.toNat_and, BitVec.toNat_not, BitVec.toNat_ofNat, ha', hb']
  have h : a &&& (2 ^ 64 - 1 - b) < 2 ^ 64 := Nat.lt_of_le_of_lt Nat.and_le_left ha
  rw [u64w]
  have e2 : (2 : Nat) ^ 64 - 1 - b = 18446744073709551615 - b := rfl
  rw [e2] at h ⊢
  omega
theorem and_high (u : Int) (k : Nat) (hk : k ≤ 64) (h0 : 0 ≤ u) (h1 : u < 18446744073709551616) (m : Int) (hm : m = ((18446744073709551616 - 2 ^ k : Nat) : Int)) : Go.bits .and .u64 u m = u - u % 2 ^ k := by
  obtain ⟨a, rfl⟩ := Int.eq_ofNat_of_zero_le h0
  have hp := pow_le64 k hk
  rw [hm, u64and a _ (by omega) (by omega)]
  have e := nat_and_high a k 64 hk (by omega)
  have e64 : (2 : Nat) ^ 64 = 18446744073709551616 := rfl
  rw [e64] at e
  rw [e]
  have hle : a % 2 ^ k ≤ a := Nat.mod_le _ _
  rw [Int.natCast_sub hle, Int.natCast_emod, Int.natCast_pow]
  rfl
theorem andNot_low (u : Int) (k : Nat) (hk : k ≤ 64) (h0 : 0 ≤ u) (h1 : u < 18446744073709551616) (m : Int) (hm : m = ((2 ^ k - 1 : Nat) : Int)) : Go.bits .andNot .u64 u m = u - u % 2 ^ k := by
  have hp := pow_le64 k hk
  obtain ⟨a, rfl⟩ := Int.eq_ofNat_of_zero_le h0
  have e : Go.bits .andNot .u64 (a : Int) m = Go.bits .and .u64 (a : Int) ((18446744073709551616 - 2 ^ k : Nat) : Int) := by
    rw [hm, u64andNot a _ (by omega) (by omega), u64and a _ (by omega) (by omega)]
    congr 2
    omega
  rw [e]
  exact and_high _ k hk h0 h1 _ rfl
theorem and_four (u : Int) (k : Nat) (hk : k ≤ 32) (h0 : 0 ≤ u) (h1 : u < 4294967296) (m : Int) (hm : m = ((4294967296 - 2 ^ k : Nat) : Int)) : Go.bits .and .i64 u m = u - u % 2 ^ k := by
  obtain ⟨a, rfl⟩ := Int.eq_ofNat_of_zero_le h0
  have hp := pow_le32 k hk
  rw [hm, i64and a _ (by omega) (by omega)]
  have e := nat_and_high a k 32 hk (by omega)
  have e32 : (2 : Nat) ^ 32 = 4294967296 := rfl
  rw [e32] at e
  rw [e]
  have hle : a % 2 ^ k ≤ a := Nat.mod_le _ _
  rw [Int.natCast_sub hle, Int.natCast_emod, Int.natCast_pow]
  rfl
/-- How many bits behind the first b are in the upper, the lower half; of 32. -/
def kHi (b : Int) : Nat := min 64 (64 - b).toNat
def kLo (b : Int) : Nat := min 64 (128 - b).toNat
def kFo (b : Int) : Nat := (32 - b).toNat
def keep (u : Int) (k : Nat) : Int := u - u % 2 ^ k
theorem pow_cast (k : Nat) : ((2 ^ k : Nat) : Int) = 2 ^ k := by simp
theorem keep_mul (u : Int) (k : Nat) : keep u k = 2 ^ k * (u / 2 ^ k) := by
  have := Int.emod_add_mul_ediv u (2 ^ k)
  unfold keep
  omega
theorem keep_mod (u : Int) (k : Nat) : keep u k % 2 ^ k = 0 := by rw [keep_mul, Int.mul_emod_right]
theorem keep_bd (u : Int) (k : Nat) (h : 0 ≤ u) : 0 ≤ keep u k ∧ keep u k ≤ u ∧ u < keep u k + 2 ^ k := by
  have hk2 : (0 : Int) < 2 ^ k := Int.pow_pos (by decide)
  have h1 := Int.emod_nonneg u (show (2 : Int) ^ k ≠ 0 by omega)
  have h2 := Int.emod_lt_of_pos u hk2
  have h3 : 0 ≤ u / 2 ^ k := Int.ediv_nonneg h (by omega)
  have h4 : 0 ≤ 2 ^ k * (u / 2 ^ k) := Int.mul_nonneg (by omega) h3
  have h5 := keep_mul u k
  unfold keep at h5 ⊢
  omega
def maskA (x : Bool) (h l b : Int) : Bool × Int × Int :=
  if x = true then (true, wrap64 (keep (h % 18446744073709551616) (kHi b)), wrap64 (keep (l % 18446744073709551616) (kLo b))) else (false, 0, keep l (kFo b))
theorem spec_l2High_e (c : Int) (h0 : -64 ≤ c) (h1 : c ≤ 128) : spec_l2High.f c = some ((18446744073709551616 - 2 ^ (min 64 (64 - c).toNat) : Nat) : Int) := by
  unfold spec_l2High.f
  by_cases h : c ≤ 0
  · rw [if_pos h, Nat.min_eq_left (by omega)]; rfl
  · rw [if_neg h]
    by_cases h2 : c ≥ 64
    · rw [if_pos h2, show (64 - c).toNat = 0 by omega]; rfl
    · have e := (high_tab (64 - c).toNat (by omega)).2
      have hb : IntKind.u64.bits = 64 := rfl
      rw [if_neg h2, w64 (by omega) (by omega), u64in (by omega) (by omega), if_pos (by omega), shl, u64w, hb, Nat.min_eq_left (show (64 - c).toNat ≤ 64 by omega), Nat.min_eq_right (by omega), ← e]
      simp
theorem spec_l2Mask_e (x : Bool) (h l b : Int) (hb0 : 0 ≤ b) (hb1 : b ≤ if x = true then 128 else 32) (hf : x = false → 0 ≤ l ∧ l < 4294967296) : spec_l2Mask.f x h l b = some (maskA x h l b) := by
  unfold spec_l2Mask.f maskA
  cases x
  · simp only [Bool.false_eq_true, if_false] at hb1 ⊢
    obtain ⟨hl0, hl1⟩ := hf rfl
    have e := (four_tab b.toNat (by omega)).2
    have hp := pow_le32 (32 - b.toNat) (by omega)
    rw [spec_l2High_e b (by omega) (by omega)]
    simp only [Option.bind_some]
    rw [show min 64 (64 - b).toNat = 64 - b.toNat by omega]
    have hw : wrap64 (((18446744073709551616 - 2 ^ (64 - b.toNat) : Nat) : Int) / 4294967296) = ((4294967296 - 2 ^ (32 - b.toNat) : Nat) : Int) := by
      rw [show (((18446744073709551616 - 2 ^ (64 - b.toNat) : Nat) : Int) / 4294967296) = (((18446744073709551616 - 2 ^ (64 - b.toNat)) / 4294967296 : Nat) : Int) from rfl, e]
      exact w64 (by omega) (by omega)
    rw [hw, and_four l (32 - b.toNat) (by omega) hl0 hl1 _ rfl]
    unfold keep kFo
    rw [show 32 - b.toNat = (32 - b).toNat by omega]
  · simp only [if_true] at hb1 ⊢
    rw [spec_l2High_e b (by omega) (by omega), w64 (by omega) (by omega), spec_l2High_e (b - 64) (by omega) (by omega)]
    simp only [Option.bind_some]
    rw [u64w, u64w, and_high _ (min 64 (64 - b).toNat) (by omega) (by omega) (by omega) _ rfl, and_high _ (min 64 (64 - (b - 64)).toNat) (by omega) (by omega) (by omega) _ rfl]
    unfold keep kHi kLo
    rw [show (64 - (b - 64)).toNat = (128 - b).toNat by omega]
theorem spec_l2Width_e (x : Bool) (h l : Int) : spec_l2Width.f x h l = some (if x = true then 128 else 32) := by
  unfold spec_l2Width.f
  cases x <;> rfl
theorem or_low (u : Int) (k : Nat) (hk : k ≤ 64) (h0 : 0 ≤ u) (h1 : u < 18446744073709551616) (m : Int) (hm : m = ((2 ^ k - 1 : Nat) : Int)) : Go.bits .or .u64 (keep u k) m = keep u k + m := by
  have hp := pow_le64 k hk
  have hb := keep_bd u k h0
  exact u64or_high _ m k hb.1 (keep_mod u k) (by omega) (by omega) (by rw [hm, ← pow_cast]; omega) hk
def fillA (x : Bool) (h l b : Int) : Bool × Int × Int :=
  if x = true then (true, wrap64 (keep (h % 18446744073709551616) (kHi b) + (2 ^ kHi b - 1)), wrap64 (keep (l % 18446744073709551616) (kLo b) + (2 ^ kLo b - 1))) else (false, 0, keep l (kFo b) + (2 ^ kFo b - 1))
theorem impl_masked_e (x : Bool) (h l b : Int) (hb0 : 0 ≤ b) (hb1 : b ≤ if x = true then 128 else 32) (hf : x = false → 0 ≤ l ∧ l < 4294967296) : impl_masked.f x h l b false = some (maskA x h l b) := by
  unfold impl_masked.f maskA
  have hbits : IntKind.u64.bits = 64 := rfl
  cases x
  · simp only [Bool.false_eq_true, if_false] at hb1 ⊢
    obtain ⟨hl0, hl1⟩ := hf rfl
    have e := (four_tab b.toNat (by omega)).1
    have hp := pow_le32 (32 - b.toNat) (by omega)
    have hs : shr .u64 4294967295 b = ((2 ^ (32 - b.toNat) - 1 : Nat) : Int) := by
      unfold shr
      rw [hbits, Nat.min_eq_left (show b.toNat ≤ 64 by omega), ← e]
      simp
    rw [if_pos hb0, hs, u64in hl0 (by omega), andNot_low l (32 - b.toNat) (by omega) hl0 (by omega) _ rfl]
    have hb := keep_bd l (32 - b.toNat) hl0
    unfold keep at hb
    rw [w64 (by omega) (by omega)]
    unfold keep kFo
    rw [show 32 - b.toNat = (32 - b).toNat by omega]
  · simp only [if_true, Bool.false_eq_true, if_false] at hb1 ⊢
    by_cases h64 : b < 64
    · have e := (high_tab b.toNat (by omega)).1
      have hs : shr .u64 18446744073709551615 b = ((2 ^ (64 - b.toNat) - 1 : Nat) : Int) := by
        unfold shr
        rw [hbits, Nat.min_eq_left (show b.toNat ≤ 64 by omega), ← e]
        simp
      rw [if_pos h64, if_pos hb0, hs, u64w, u64w, andNot_low _ (64 - b.toNat) (by omega) (by omega) (by omega) _ rfl, andNot_low _ 64 (by omega) (by omega) (by omega) 18446744073709551615 (by decide)]
      unfold keep kHi kLo
      rw [show min 64 (64 - b).toNat = 64 - b.toNat by omega, show min 64 (128 - b).toNat = 64 by omega]
    · have e := (high_tab (b - 64).toNat (by omega)).1
      have hs : shr .u64 18446744073709551615 (b - 64) = ((2 ^ (64 - (b - 64).toNat) - 1 : Nat) : Int) := by
        unfold shr
        rw [hbits, Nat.min_eq_left (show (b - 64).toNat ≤ 64 by omega), ← e]
        simp
      rw [if_neg h64, w64 (x := b - 64) (by omega) (by omega), if_pos (by omega), hs, u64w, u64w, andNot_low _ 0 (by omega) (by omega) (by omega) 0 (by decide), andNot_low _ (64 - (b - 64).toNat) (by omega) (by omega) (by omega) _ rfl]
      unfold keep kHi kLo
      rw [show min 64 (64 - b).toNat = 0 by omega, show min 64 (128 - b).toNat = 64 - (b - 64).toNat by omega]
theorem impl_width_e (x : Bool) (h l : Int) : impl_width.f x h l = some (if x = true then 128 else 32) := by
  unfold impl_width.f
  cases x <;> rfl
/-- A prefix is right. -/
def prefOk (x : Bool) (h l b : Int) : Bool := addrOk x h l && decide (0 ≤ b ∧ b ≤ if x = true then 128 else 32) && (maskA x h l b == (x, h, l))
theorem addrOk_four {x : Bool} {h l : Int} (hk : addrOk x h l = true) : x = false → h = 0 ∧ 0 ≤ l ∧ l < 4294967296 := by
  intro hx
  subst hx
  simp [addrOk] at hk
  omega
theorem eq3 (p : Bool × Int × Int) (x : Bool) (h l : Int) : (p.1 == x && (p.2.1 == h && (p.2.2 == l))) = (p == (x, h, l)) := by
  obtain ⟨a, b, c⟩ := p
  rfl
theorem spec_PrefixOk_e (x : Bool) (h l b : Int) : spec_PrefixOk.f x h l b = some (prefOk x h l b) := by
  unfold spec_PrefixOk.f prefOk
  rw [spec_AddrOk_e]
  simp only [Option.bind_some]
  by_cases ha : addrOk x h l = true
  · rw [if_pos ha, ha, spec_l2Width_e]
    simp only [Option.bind_some, l1In_e, decide_eq_true_eq]
    by_cases hb : 0 ≤ b ∧ b ≤ if x = true then 128 else 32
    · rw [if_pos hb, decide_eq_true hb, spec_l2Mask_e x h l b hb.1 hb.2 (fun hx => (addrOk_four ha hx).2)]
      simp only [Option.bind_some, eq3, Bool.true_and]
    · rw [if_neg hb, decide_eq_false hb]; simp
  · rw [if_neg ha, Bool.eq_false_iff.mpr ha]; simp
theorem impl_PrefixOk_e (x : Bool) (h l b : Int) : impl_PrefixOk.f x h l b = some (prefOk x h l b) := by
  unfold impl_PrefixOk.f prefOk
  rw [impl_AddrOk_e]
  simp only [Option.bind_some]
  by_cases ha : addrOk x h l = true
  · rw [if_pos ha, ha, impl_width_e]
    simp only [Option.bind_some, from_e, decide_eq_true_eq]
    by_cases hb : 0 ≤ b ∧ b ≤ if x = true then 128 else 32
    · rw [if_pos hb, decide_eq_true hb, impl_masked_e x h l b hb.1 hb.2 (fun hx => (addrOk_four ha hx).2)]
      simp only [Option.bind_some, eq3, Bool.true_and]
    · rw [if_neg hb, decide_eq_false hb]; simp
  · rw [if_neg ha, Bool.eq_false_iff.mpr ha]; simp

/-- The prefix of so many bits that has an address. -/
def prefixOf (x : Bool) (h l b : Int) : Bool × Int × Int × Int × Bool :=
  if addrOk x h l = true ∧ 0 ≤ b ∧ (b ≤ if x = true then 128 else 32) then ((maskA x h l b).1, (maskA x h l b).2.1, (maskA x h l b).2.2, b, true) else (false, 0, 0, 0, false)
theorem spec_PrefixOf_e (x : Bool) (h l b : Int) : spec_PrefixOf.f x h l b = some (prefixOf x h l b) := by
  unfold spec_PrefixOf.f prefixOf
  simp only [spec_AddrOk_e, Option.bind_some, spec_l2Width_e, l1In_e]
  by_cases ha : addrOk x h l = true
  · simp only [ha, Bool.not_true, true_and]
    by_cases hb : 0 ≤ b ∧ b ≤ if x = true then 128 else 32
    · simp only [decide_eq_true hb, if_pos hb, spec_l2Mask_e x h l b hb.1 hb.2 (fun hx => (addrOk_four ha hx).2)]
      simp
    · simp only [decide_eq_false hb, if_neg hb]
      simp
  · simp [Bool.eq_false_iff.mpr ha]
theorem impl_PrefixOf_e (x : Bool) (h l b : Int) : impl_PrefixOf.f x h l b = some (prefixOf x h l b) := by
  unfold impl_PrefixOf.f prefixOf
  simp only [impl_AddrOk_e, Option.bind_some, impl_width_e, from_e]
  by_cases ha : addrOk x h l = true
  · simp only [ha, Bool.not_true, true_and]
    by_cases hb : 0 ≤ b ∧ b ≤ if x = true then 128 else 32
    · simp only [decide_eq_true hb, if_pos hb, impl_masked_e x h l b hb.1 hb.2 (fun hx => (addrOk_four ha hx).2)]
      simp
    · simp only [decide_eq_false hb, if_neg hb]
      simp
  · simp [Bool.eq_false_iff.mpr ha]

def aboveP (x : Bool) (h l b : Int) : Bool × Int × Int × Int × Bool := if prefOk x h l b = true ∧ b ≠ 0 then prefixOf x h l (b - 1) else (false, 0, 0, 0, false)
theorem prefOk_b {x : Bool} {h l b : Int} (hp : prefOk x h l b = true) : 0 ≤ b ∧ b ≤ 128 := by
  simp only [prefOk, Bool.and_eq_true, decide_eq_true_eq] at hp
  have := hp.1.2
  split at this <;> omega
theorem spec_Above_e (x : Bool) (h l b : Int) : spec_Above.f x h l b = some (aboveP x h l b) := by
  unfold spec_Above.f aboveP
  rw [spec_PrefixOk_e]
  simp only [Option.bind_some]
  by_cases hp : prefOk x h l b = true
  · have hb := prefOk_b hp
    rw [if_pos hp, spec_PrefixOf_e, w64 (by omega) (by omega)]
    by_cases h0 : b = 0
    · rw [if_pos h0, if_neg (by simp [h0])]
    · rw [if_neg h0, if_pos ⟨hp, h0⟩]; rfl
  · rw [if_neg hp, if_neg (by simp [hp])]
theorem impl_Above_e (x : Bool) (h l b : Int) : impl_Above.f x h l b = some (aboveP x h l b) := by
  unfold impl_Above.f aboveP
  rw [impl_PrefixOk_e]
  simp only [Option.bind_some]
  by_cases hp : prefOk x h l b = true
  · have hb := prefOk_b hp
    rw [if_pos hp, impl_PrefixOf_e, w64 (by omega) (by omega)]
    by_cases h0 : b = 0
    · rw [if_pos h0, if_neg (by simp [h0])]
    · rw [if_neg h0, if_pos ⟨hp, h0⟩]; rfl
  · rw [if_neg hp, if_neg (by simp [hp])]

theorem eqAddr_refl (x : Bool) (h l : Int) : laws_eqAddr.f x h l x h l = some true := by simp [laws_eqAddr.f]
theorem eqPrefix_refl (x : Bool) (h l b : Int) : laws_eqPrefix.f x h l b x h l b = some true := by simp [laws_eqPrefix.f, eqAddr_refl]

theorem FnExactAbove (x : Bool) (h l b : Int) (_ : (Lit.int .i64 h).wf = true) (_ : (Lit.int .i64 l).wf = true) (_ : (Lit.int .i64 b).wf = true) : laws_FnExactAbove.f x h l b = some true := by
  simp [laws_FnExactAbove.f, laws_toPrefix.f, laws_toAddr.f, spec_Above_e, impl_Above_e, eqPrefix_refl]

end Go.Proofs.Ytigmadccchofiaa.Pure
