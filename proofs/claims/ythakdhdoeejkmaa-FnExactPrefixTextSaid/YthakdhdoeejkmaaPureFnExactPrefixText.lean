/-
The pure part of the statement FnExactPrefixText: what the printed functions answer is true at every input.
Conditions: none but the kinds' own bounds, as the printed statement has them.
-/
import Derived.Test.YthakdhdoeejkmaaQFnExactPrefixTextx0
import Derived.Test.YthakdhdoeejkmaaQFnExactPrefixTextx1
import Derived.Test.YthakdhdoeejkmaaQFnExactPrefixTextx2
import Derived.Test.YthakdhdoeejkmaaQFnExactPrefixTextx3
import Derived.Test.YthakdhdoeejkmaaQFnExactPrefixTextx4
import Derived.Test.YthakdhdoeejkmaaQFnExactPrefixTextx5
import Derived.Test.YthakdhdoeejkmaaQFnExactPrefixTextx6
import Derived.Test.YthakdhdoeejkmaaQFnExactPrefixTextx7
import Derived.Test.YthakdhdoeejkmaaQFnExactPrefixTextx8
import Derived.Test.YthakdhdoeejkmaaQFnExactPrefixTextx9
namespace Go.Proofs.Ythakdhdoeejkmaa.Pure
open Go.RowKit Go.Proofs.Ythakdhdoeejkmaa.QFnExactPrefixText Go.Proofs.YthakdhdoeejkmaaW.PrintWords Go.Proofs.YthakdhdoeejkmaaW.PrintLast Go.Proofs.YthakdhdoeejkmaaW.PrintMore
set_option linter.unusedVariables false
set_option linter.unusedSimpArgs false

theorem wf64 {x : Int} (h : (Lit.int .i64 x).wf = true) : -9223372036854775808 ≤ x ∧ x ≤ 9223372036854775807 := by
  simpa [Lit.wf, IntKind.min, IntKind.max, IntKind.signed, IntKind.bits] using h
theorem wf8 {x : Int} (h : (Lit.int .u8 x).wf = true) : 0 ≤ x ∧ x ≤ 255 := by
  simpa [Lit.wf, IntKind.min, IntKind.max, IntKind.signed, IntKind.bits] using h
theorem w64 {x : Int} (h0 : -9223372036854775808 ≤ x) (h1 : x ≤ 9223372036854775807) : wrap64 x = x := by unfold wrap64; omega
theorem u64w (n : Int) : IntKind.u64.wrap n = n % 18446744073709551616 := by simp [IntKind.wrap, IntKind.bits, IntKind.signed]
theorem u64in {x : Int} (h0 : 0 ≤ x) (h1 : x < 18446744073709551616) : IntKind.u64.wrap x = x := by rw [u64w]; omega
theorem rd_get (xs : List Int) (i : Int) (j : Nat) (x : Int) (hi : i = j) (h : xs[j]? = some x) : rd xs i = x := by
  subst hi
  simp [rd, List.getD, h]
theorem Ev.mid {α : Type} {g : Nat → Option α} {a b : α} (h : a = b) (e : Ev g a) : Ev g b := h ▸ e
theorem Ev.const {α : Type} {g : Nat → Option α} {a : α} (h : ∀ k, g k = some a) : Ev g a := ⟨0, fun k _ => h k⟩
theorem Ev.ite_pos {α : Type} {c : Prop} [Decidable c] {g f : Nat → Option α} {r : α} (hc : c) (h : Ev g r) : Ev (fun k => if c then g k else f k) r := by
  simp only [if_pos hc]
  exact h
theorem Ev.ite_neg {α : Type} {c : Prop} [Decidable c] {g f : Nat → Option α} {r : α} (hc : ¬ c) (h : Ev f r) : Ev (fun k => if c then g k else f k) r := by
  simp only [if_neg hc]
  exact h
/-- A part that has no rounds. -/
theorem Ev.val {α β : Type} {o : Option α} {f : Nat → α → Option β} {a : α} {r : β} (h : o = some a) (k : Ev (fun n => f n a) r) : Ev (fun n => o.bind (f n)) r := by
  subst h
  exact k

def in64 (z : Int) : Prop := -9223372036854775808 ≤ z ∧ z ≤ 9223372036854775807
theorem wf_in {z : Int} (h : (Lit.int .i64 z).wf = true) : in64 z := wf64 h
theorem in64_zero : in64 0 := by unfold in64; omega
theorem wrap_in {z : Int} (h : in64 z) : wrap64 (z % 18446744073709551616) = z := by unfold in64 at h; unfold wrap64; omega
theorem wrap_is (z : Int) : in64 (wrap64 z) := by unfold wrap64 in64; omega
theorem u_inj {a b : Int} (ha : in64 a) (hb : in64 b) (h : a % 18446744073709551616 = b % 18446744073709551616) : a = b := by unfold in64 at ha hb; omega

theorem l1In_e (a b c : Int) : spec_l1In.f a b c = some (decide (b ≤ a ∧ a ≤ c)) := by
  unfold spec_l1In.f
  by_cases h : a ≥ b
  · simp [if_pos h, h]
  · simp [if_neg h]; omega
theorem from_e (a b c : Int) : impl_from.f a b c = some (decide (b ≤ a ∧ a ≤ c)) := by
  unfold impl_from.f
  by_cases h : a ≥ b
  · simp [if_pos h, h]
  · simp [if_neg h]; omega
/-- An address is right. -/
def addrOk (x : Bool) (h l : Int) : Bool := x || (decide (h = 0) && decide (0 ≤ l ∧ l ≤ 4294967295))
theorem spec_AddrOk_e (x : Bool) (h l : Int) : spec_AddrOk.f x h l = some (addrOk x h l) := by
  unfold spec_AddrOk.f addrOk
  cases x
  · by_cases hh : h = 0
    · simp [hh, l1In_e]
    · simp [hh]
  · rfl
theorem impl_AddrOk_e (x : Bool) (h l : Int) : impl_AddrOk.f x h l = some (addrOk x h l) := by
  unfold impl_AddrOk.f addrOk
  cases x
  · by_cases hh : h = 0
    · simp [hh, from_e]
    · simp [hh]
  · rfl

/-- An address, or the zero one of what is none. -/
def rightA (x : Bool) (h l : Int) : Bool × Int × Int := if addrOk x h l = true then (x, h, l) else (false, 0, 0)
/-- What is right: of 32 bits its upper half is 0, its lower one below 2^32. -/
structure Right (p : Bool × Int × Int) : Prop where
  four : p.1 = false → p.2.1 = 0 ∧ 0 ≤ p.2.2 ∧ p.2.2 ≤ 4294967295
  hi : in64 p.2.1
  lo : in64 p.2.2
theorem rightA_right (x : Bool) (h l : Int) (hh : in64 h) (hl : in64 l) : Right (rightA x h l) := by
  unfold rightA
  by_cases ha : addrOk x h l = true
  · rw [if_pos ha]
    refine ⟨fun hx => ?_, hh, hl⟩
    simp only at hx
    subst hx
    simpa [addrOk] using ha
  · rw [if_neg ha]
    exact ⟨fun _ => ⟨rfl, by simp⟩, in64_zero, in64_zero⟩
theorem rightA_ok {x : Bool} {h l : Int} (ha : addrOk x h l = true) : rightA x h l = (x, h, l) := if_pos ha
theorem spec_l1Addr_e (x : Bool) (h l : Int) : spec_l1Addr.f x h l = some (rightA x h l) := by
  unfold spec_l1Addr.f rightA
  rw [spec_AddrOk_e]
  simp only [Option.bind_some]
  by_cases ha : addrOk x h l = true
  · rw [if_pos ha, if_pos ha]
  · rw [if_neg ha, if_neg ha]
theorem impl_right_e (x : Bool) (h l : Int) : impl_right.f x h l = some (rightA x h l) := by
  unfold impl_right.f rightA
  rw [impl_AddrOk_e]
  simp only [Option.bind_some]
  by_cases ha : addrOk x h l = true
  · rw [if_pos ha, if_pos ha]
  · rw [if_neg ha, if_neg ha]

theorem u64or (a b : Nat) (ha : a < 18446744073709551616) (hb : b < 18446744073709551616) : Go.bits .or .u64 (a : Int) (b : Int) = ((a ||| b : Nat) : Int) :=
  (Go.bits_nat .u64 64 (by decide) (fun n h0 h1 => by rw [u64w]; omega) a b ha hb).2
/-- Bits that stand apart: 'or' is the sum. -/
theorem u64or_low (x y : Int) (i : Nat) (hx0 : 0 ≤ x) (hx : x < 2 ^ i) (hy0 : 0 ≤ y) (hy : y % 2 ^ i = 0) (hy1 : y < 18446744073709551616) (hi : i ≤ 64) : Go.bits .or .u64 x y = x + y := by
  obtain ⟨a, rfl⟩ := Int.eq_ofNat_of_zero_le hx0
  obtain ⟨b, rfl⟩ := Int.eq_ofNat_of_zero_le hy0
  have ha : a < 2 ^ i := by exact_mod_cast hx
  have hb : b % 2 ^ i = 0 := by exact_mod_cast hy
  have h2 : (2 : Nat) ^ i ≤ 18446744073709551616 := by
    have := Nat.pow_le_pow_right (show 0 < 2 by decide) hi
    exact Nat.le_trans this (by decide)
  rw [u64or a b (by omega) (by omega), Nat.or_comm]
  have hq : b = 2 ^ i * (b / 2 ^ i) := by
    have := Nat.div_add_mod b (2 ^ i)
    omega
  rw [hq, ← Nat.two_pow_add_eq_or_of_lt ha (b / 2 ^ i)]
  omega
theorem u64or_high (x y : Int) (i : Nat) (hx0 : 0 ≤ x) (hx : x % 2 ^ i = 0) (hx1 : x < 18446744073709551616) (hy0 : 0 ≤ y) (hy : y < 2 ^ i) (hi : i ≤ 64) : Go.bits .or .u64 x y = x + y := by
  have e : Go.bits .or .u64 x y = Go.bits .or .u64 y x := by
    obtain ⟨a, rfl⟩ := Int.eq_ofNat_of_zero_le hx0
    obtain ⟨b, rfl⟩ := Int.eq_ofNat_of_zero_le hy0
    have hb : b < 2 ^ i := by exact_mod_cast hy
    have h2 : (2 : Nat) ^ i ≤ 18446744073709551616 := by
      have := Nat.pow_le_pow_right (show 0 < 2 by decide) hi
      exact Nat.le_trans this (by decide)
    rw [u64or a b (by omega) (by omega), u64or b a (by omega) (by omega), Nat.or_comm]
  rw [e, u64or_low y x i hy0 hy hx0 hx hx1 hi]
  omega

theorem high_tab (n : Nat) (h : n ≤ 64) : 18446744073709551615 / 2 ^ n = 2 ^ (64 - n) - 1 ∧ (18446744073709551615 * 2 ^ n) % 18446744073709551616 = 18446744073709551616 - 2 ^ n := by
  have t : ∀ n : Fin 65, 18446744073709551615 / 2 ^ n.1 = 2 ^ (64 - n.1) - 1 ∧ (18446744073709551615 * 2 ^ n.1) % 18446744073709551616 = 18446744073709551616 - 2 ^ n.1 := by decide +kernel
  exact t ⟨n, by omega⟩
theorem four_tab (n : Nat) (h : n ≤ 32) : 4294967295 / 2 ^ n = 2 ^ (32 - n) - 1 ∧ (18446744073709551616 - 2 ^ (64 - n)) / 4294967296 = 4294967296 - 2 ^ (32 - n) := by
  have t : ∀ n : Fin 33, 4294967295 / 2 ^ n.1 = 2 ^ (32 - n.1) - 1 ∧ (18446744073709551616 - 2 ^ (64 - n.1)) / 4294967296 = 4294967296 - 2 ^ (32 - n.1) := by decide +kernel
  exact t ⟨n, by omega⟩
theorem pow_le64 (k : Nat) (h : k ≤ 64) : 1 ≤ 2 ^ k ∧ 2 ^ k ≤ 18446744073709551616 := ⟨Nat.one_le_two_pow, Nat.le_trans (Nat.pow_le_pow_right (by decide) h) (by decide)⟩
theorem pow_le32 (k : Nat) (h : k ≤ 32) : 1 ≤ 2 ^ k ∧ 2 ^ k ≤ 4294967296 := ⟨Nat.one_le_two_pow, Nat.le_trans (Nat.pow_le_pow_right (by decide) h) (by decide)⟩
/-- The bits from k on. -/
theorem nat_and_high (a k w : Nat) (hk : k ≤ w) (ha : a < 2 ^ w) : a &&& (2 ^ w - 2 ^ k) = a - a % 2 ^ k := by
  have e1 : 2 ^ w - 2 ^ k = 2 ^ k * (2 ^ (w - k) - 1) := by
    rw [Nat.mul_sub, ← Nat.pow_add, Nat.add_sub_cancel' hk, Nat.mul_one]
  have e2 : a - a % 2 ^ k = 2 ^ k * (a / 2 ^ k) := by
    have := Nat.div_add_mod a (2 ^ k)
    omega
  rw [e1, e2]
  apply Nat.eq_of_testBit_eq
  intro i
  rw [Nat.testBit_and, Nat.testBit_two_pow_mul, Nat.testBit_two_pow_mul, Nat.testBit_two_pow_sub_one, Nat.testBit_div_two_pow]
  by_cases hi : k ≤ i
  · by_cases hw : i < w
    · simp [hi, Nat.sub_add_cancel hi, show i - k < w - k by omega]
    · have : a.testBit i = false := Nat.testBit_lt_two_pow (Nat.lt_of_lt_of_le ha (Nat.pow_le_pow_right (by decide) (by omega)))
      simp [hi, Nat.sub_add_cancel hi, this]
  · simp [hi]
theorem u64and (a b : Nat) (ha : a < 18446744073709551616) (hb : b < 18446744073709551616) : Go.bits .and .u64 (a : Int) (b : Int) = ((a &&& b : Nat) : Int) :=
  (Go.bits_nat .u64 64 (by decide) (fun n h0 h1 => by rw [u64w]; omega) a b ha hb).1
theorem i64w (n : Int) : IntKind.i64.wrap n = wrap64 n := IntWalk.i64_left n
theorem i64and (a b : Nat) (ha : a < 9223372036854775808) (hb : b < 9223372036854775808) : Go.bits .and .i64 (a : Int) (b : Int) = ((a &&& b : Nat) : Int) :=
  (Go.bits_nat .i64 63 (by decide) (fun n h0 h1 => by rw [i64w]; exact w64 (by omega) (by omega)) a b ha hb).1
theorem u64andNot (a b : Nat) (ha : a < 18446744073709551616) (hb : b < 18446744073709551616) : Go.bits .andNot .u64 (a : Int) (b : Int) = ((a &&& (18446744073709551615 - b) : Nat) : Int) := by
  have ha' : a % 2 ^ 64 = a := Nat.mod_eq_of_lt ha
  have hb' : b % 2 ^ 64 = b := Nat.mod_eq_of_lt hb
  have e : IntKind.u64.bits = 64 := rfl
  simp only [Go.bits, e, BitVec.ofInt_natCast, BitVec.toNat_and, BitVec.toNat_not, BitVec.toNat_ofNat, ha', hb']
  have h : a &&& (2 ^ 64 - 1 - b) < 2 ^ 64 := Nat.lt_of_le_of_lt Nat.and_le_left ha
  rw [u64w]
  have e2 : (2 : Nat) ^ 64 - 1 - b = 18446744073709551615 - b := rfl
  rw [e2] at h ⊢
  omega
theorem and_high (u : Int) (k : Nat) (hk : k ≤ 64) (h0 : 0 ≤ u) (h1 : u < 18446744073709551616) (m : Int) (hm : m = ((18446744073709551616 - 2 ^ k : Nat) : Int)) : Go.bits .and .u64 u m = u - u % 2 ^ k := by
  obtain ⟨a, rfl⟩ := Int.eq_ofNat_of_zero_le h0
  have hp := pow_le64 k hk
  rw [hm, u64and a _ (by omega) (by omega)]
  have e := nat_and_high a k 64 hk (by omega)
  have e64 : (2 : Nat) ^ 64 = 18446744073709551616 := rfl
  rw [e64] at e
  rw [e]
  have hle : a % 2 ^ k ≤ a := Nat.mod_le _ _
  rw [Int.natCast_sub hle, Int.natCast_emod, Int.natCast_pow]
  rfl
theorem andNot_low (u : Int) (k : Nat) (hk : k ≤ 64) (h0 : 0 ≤ u) (h1 : u < 18446744073709551616) (m : Int) (hm : m = ((2 ^ k - 1 : Nat) : Int)) : Go.bits .andNot .u64 u m = u - u % 2 ^ k := by
  have hp := pow_le64 k hk
  obtain ⟨a, rfl⟩ := Int.eq_ofNat_of_zero_le h0
  have e : Go.bits .andNot .u64 (a : Int) m = Go.bits .and .u64 (a : Int) ((18446744073709551616 - 2 ^ k : Nat) : Int) := by
    rw [hm, u64andNot a _ (by omega) (by omega), u64and a _ (by omega) (by omega)]
    congr 2
    omega
  rw [e]
  exact and_high _ k hk h0 h1 _ rfl
theorem and_four (u : Int) (k : Nat) (hk : k ≤ 32) (h0 : 0 ≤ u) (h1 : u < 4294967296) (m : Int) (hm : m = ((4294967296 - 2 ^ k : Nat) : Int)) : Go.bits .and .i64 u m = u - u % 2 ^ k := by
  obtain ⟨a, rfl⟩ := Int.eq_ofNat_of_zero_le h0
  have hp := pow_le32 k hk
  rw [hm, i64and a _ (by omega) (by omega)]
  have e := nat_and_high a k 32 hk (by omega)
  have e32 : (2 : Nat) ^ 32 = 4294967296 := rfl
  rw [e32] at e
  rw [e]
  have hle : a % 2 ^ k ≤ a := Nat.mod_le _ _
  rw [Int.natCast_sub hle, Int.natCast_emod, Int.natCast_pow]
  rfl
/-- How many bits behind the first b are in the upper, the lower half; of 32. -/
def kHi (b : Int) : Nat := min 64 (64 - b).toNat
def kLo (b : Int) : Nat := min 64 (128 - b).toNat
def kFo (b : Int) : Nat := (32 - b).toNat
def keep (u : Int) (k : Nat) : Int := u - u % 2 ^ k
theorem pow_cast (k : Nat) : ((2 ^ k : Nat) : Int) = 2 ^ k := by simp
theorem keep_mul (u : Int) (k : Nat) : keep u k = 2 ^ k * (u / 2 ^ k) := by
  have := Int.emod_add_mul_ediv u (2 ^ k)
  unfold keep
  omega
theorem keep_mod (u : Int) (k : Nat) : keep u k % 2 ^ k = 0 := by rw [keep_mul, Int.mul_emod_right]
theorem keep_bd (u : Int) (k : Nat) (h : 0 ≤ u) : 0 ≤ keep u k ∧ keep u k ≤ u ∧ u < keep u k + 2 ^ k := by
  have hk2 : (0 : Int) < 2 ^ k := Int.pow_pos (by decide)
  have h1 := Int.emod_nonneg u (show (2 : Int) ^ k ≠ 0 by omega)
  have h2 := Int.emod_lt_of_pos u hk2
  have h3 : 0 ≤ u / 2 ^ k := Int.ediv_nonneg h (by omega)
  have h4 : 0 ≤ 2 ^ k * (u / 2 ^ k) := Int.mul_nonneg (by omega) h3
  have h5 := keep_mul u k
  unfold keep at h5 ⊢
  omega
def maskA (x : Bool) (h l b : Int) : Bool × Int × Int :=
  if x = true then (true, wrap64 (keep (h % 18446744073709551616) (kHi b)), wrap64 (keep (l % 18446744073709551616) (kLo b))) else (false, 0, keep l (kFo b))
theorem spec_l2High_e (c : Int) (h0 : -64 ≤ c) (h1 : c ≤ 128) : spec_l2High.f c = some ((18446744073709551616 - 2 ^ (min 64 (64 - c).toNat) : Nat) : Int) := by
  unfold spec_l2High.f
  by_cases h : c ≤ 0
  · rw [if_pos h, Nat.min_eq_left (by omega)]; rfl
  · rw [if_neg h]
    by_cases h2 : c ≥ 64
    · rw [if_pos h2, show (64 - c).toNat = 0 by omega]; rfl
    · have e := (high_tab (64 - c).toNat (by omega)).2
      have hb : IntKind.u64.bits = 64 := rfl
      rw [if_neg h2, w64 (by omega) (by omega), u64in (by omega) (by omega), if_pos (by omega), shl, u64w, hb, Nat.min_eq_left (show (64 - c).toNat ≤ 64 by omega), Nat.min_eq_right (by omega), ← e]
      simp
theorem spec_l2Mask_e (x : Bool) (h l b : Int) (hb0 : 0 ≤ b) (hb1 : b ≤ if x = true then 128 else 32) (hf : x = false → 0 ≤ l ∧ l < 4294967296) : spec_l2Mask.f x h l b = some (maskA x h l b) := by
  unfold spec_l2Mask.f maskA
  cases x
  · simp only [Bool.false_eq_true, if_false] at hb1 ⊢
    obtain ⟨hl0, hl1⟩ := hf rfl
    have e := (four_tab b.toNat (by omega)).2
    have hp := pow_le32 (32 - b.toNat) (by omega)
    rw [spec_l2High_e b (by omega) (by omega)]
    simp only [Option.bind_some]
    rw [show min 64 (64 - b).toNat = 64 - b.toNat by omega]
    have hw : wrap64 (((18446744073709551616 - 2 ^ (64 - b.toNat) : Nat) : Int) / 4294967296) = ((4294967296 - 2 ^ (32 - b.toNat) : Nat) : Int) := by
      rw [show (((18446744073709551616 - 2 ^ (64 - b.toNat) : Nat) : Int) / 4294967296) = (((18446744073709551616 - 2 ^ (64 - b.toNat)) / 4294967296 : Nat) : Int) from rfl, e]
      exact w64 (by omega) (by omega)
    rw [hw, and_four l (32 - b.toNat) (by omega) hl0 hl1 _ rfl]
    unfold keep kFo
    rw [show 32 - b.toNat = (32 - b).toNat by omega]
  · simp only [if_true] at hb1 ⊢
    rw [spec_l2High_e b (by omega) (by omega), w64 (by omega) (by omega), spec_l2High_e (b - 64) (by omega) (by omega)]
    simp only [Option.bind_some]
    rw [u64w, u64w, and_high _ (min 64 (64 - b).toNat) (by omega) (by omega) (by omega) _ rfl, and_high _ (min 64 (64 - (b - 64)).toNat) (by omega) (by omega) (by omega) _ rfl]
    unfold keep kHi kLo
    rw [show (64 - (b - 64)).toNat = (128 - b).toNat by omega]
theorem spec_l2Width_e (x : Bool) (h l : Int) : spec_l2Width.f x h l = some (if x = true then 128 else 32) := by
  unfold spec_l2Width.f
  cases x <;> rfl
theorem or_low (u : Int) (k : Nat) (hk : k ≤ 64) (h0 : 0 ≤ u) (h1 : u < 18446744073709551616) (m : Int) (hm : m = ((2 ^ k - 1 : Nat) : Int)) : Go.bits .or .u64 (keep u k) m = keep u k + m := by
  have hp := pow_le64 k hk
  have hb := keep_bd u k h0
  exact u64or_high _ m k hb.1 (keep_mod u k) (by omega) (by omega) (by rw [hm, ← pow_cast]; omega) hk
def fillA (x : Bool) (h l b : Int) : Bool × Int × Int :=
  if x = true then (true, wrap64 (keep (h % 18446744073709551616) (kHi b) + (2 ^ kHi b - 1)), wrap64 (keep (l % 18446744073709551616) (kLo b) + (2 ^ kLo b - 1))) else (false, 0, keep l (kFo b) + (2 ^ kFo b - 1))
theorem impl_masked_e (x : Bool) (h l b : Int) (hb0 : 0 ≤ b) (hb1 : b ≤ if x = true then 128 else 32) (hf : x = false → 0 ≤ l ∧ l < 4294967296) : impl_masked.f x h l b false = some (maskA x h l b) := by
  unfold impl_masked.f maskA
  have hbits : IntKind.u64.bits = 64 := rfl
  cases x
  · simp only [Bool.false_eq_true, if_false] at hb1 ⊢
    obtain ⟨hl0, hl1⟩ := hf rfl
    have e := (four_tab b.toNat (by omega)).1
    have hp := pow_le32 (32 - b.toNat) (by omega)
    have hs : shr .u64 4294967295 b = ((2 ^ (32 - b.toNat) - 1 : Nat) : Int) := by
      unfold shr
      rw [hbits, Nat.min_eq_left (show b.toNat ≤ 64 by omega), ← e]
      simp
    rw [if_pos hb0, hs, u64in hl0 (by omega), andNot_low l (32 - b.toNat) (by omega) hl0 (by omega) _ rfl]
    have hb := keep_bd l (32 - b.toNat) hl0
    unfold keep at hb
    rw [w64 (by omega) (by omega)]
    unfold keep kFo
    rw [show 32 - b.toNat = (32 - b).toNat by omega]
  · simp only [if_true, Bool.false_eq_true, if_false] at hb1 ⊢
    by_cases h64 : b < 64
    · have e := (high_tab b.toNat (by omega)).1
      have hs : shr .u64 18446744073709551615 b = ((2 ^ (64 - b.toNat) - 1 : Nat) : Int) := by
        unfold shr
        rw [hbits, Nat.min_eq_left (show b.toNat ≤ 64 by omega), ← e]
        simp
      rw [if_pos h64, if_pos hb0, hs, u64w, u64w, andNot_low _ (64 - b.toNat) (by omega) (by omega) (by omega) _ rfl, andNot_low _ 64 (by omega) (by omega) (by omega) 18446744073709551615 (by decide)]
      unfold keep kHi kLo
      rw [show min 64 (64 - b).toNat = 64 - b.toNat by omega, show min 64 (128 - b).toNat = 64 by omega]
    · have e := (high_tab (b - 64).toNat (by omega)).1
      have hs : shr .u64 18446744073709551615 (b - 64) = ((2 ^ (64 - (b - 64).toNat) - 1 : Nat) : Int) := by
        unfold shr
        rw [hbits, Nat.min_eq_left (show (b - 64).toNat ≤ 64 by omega), ← e]
        simp
      rw [if_neg h64, w64 (x := b - 64) (by omega) (by omega), if_pos (by omega), hs, u64w, u64w, andNot_low _ 0 (by omega) (by omega) (by omega) 0 (by decide), andNot_low _ (64 - (b - 64).toNat) (by omega) (by omega) (by omega) _ rfl]
      unfold keep kHi kLo
      rw [show min 64 (64 - b).toNat = 0 by omega, show min 64 (128 - b).toNat = 64 - (b - 64).toNat by omega]
theorem impl_width_e (x : Bool) (h l : Int) : impl_width.f x h l = some (if x = true then 128 else 32) := by
  unfold impl_width.f
  cases x <;> rfl
/-- A prefix is right. -/
def prefOk (x : Bool) (h l b : Int) : Bool := addrOk x h l && decide (0 ≤ b ∧ b ≤ if x = true then 128 else 32) && (maskA x h l b == (x, h, l))
theorem addrOk_four {x : Bool} {h l : Int} (hk : addrOk x h l = true) : x = false → h = 0 ∧ 0 ≤ l ∧ l < 4294967296 := by
  intro hx
  subst hx
  simp [addrOk] at hk
  omega
theorem eq3 (p : Bool × Int × Int) (x : Bool) (h l : Int) : (p.1 == x && (p.2.1 == h && (p.2.2 == l))) = (p == (x, h, l)) := by
  obtain ⟨a, b, c⟩ := p
  rfl
theorem spec_PrefixOk_e (x : Bool) (h l b : Int) : spec_PrefixOk.f x h l b = some (prefOk x h l b) := by
  unfold spec_PrefixOk.f prefOk
  rw [spec_AddrOk_e]
  simp only [Option.bind_some]
  by_cases ha : addrOk x h l = true
  · rw [if_pos ha, ha, spec_l2Width_e]
    simp only [Option.bind_some, l1In_e, decide_eq_true_eq]
    by_cases hb : 0 ≤ b ∧ b ≤ if x = true then 128 else 32
    · rw [if_pos hb, decide_eq_true hb, spec_l2Mask_e x h l b hb.1 hb.2 (fun hx => (addrOk_four ha hx).2)]
      simp only [Option.bind_some, eq3, Bool.true_and]
    · rw [if_neg hb, decide_eq_false hb]; simp
  · rw [if_neg ha, Bool.eq_false_iff.mpr ha]; simp
theorem impl_PrefixOk_e (x : Bool) (h l b : Int) : impl_PrefixOk.f x h l b = some (prefOk x h l b) := by
  unfold impl_PrefixOk.f prefOk
  rw [impl_AddrOk_e]
  simp only [Option.bind_some]
  by_cases ha : addrOk x h l = true
  · rw [if_pos ha, ha, impl_width_e]
    simp only [Option.bind_some, from_e, decide_eq_true_eq]
    by_cases hb : 0 ≤ b ∧ b ≤ if x = true then 128 else 32
    · rw [if_pos hb, decide_eq_true hb, impl_masked_e x h l b hb.1 hb.2 (fun hx => (addrOk_four ha hx).2)]
      simp only [Option.bind_some, eq3, Bool.true_and]
    · rw [if_neg hb, decide_eq_false hb]; simp
  · rw [if_neg ha, Bool.eq_false_iff.mpr ha]; simp

theorem tdivN (a b : Nat) : Int.tdiv (a : Int) (b : Int) = ((a / b : Nat) : Int) := by rw [Int.tdiv_eq_ediv_of_nonneg (by omega)]; omega
theorem tmodN (a b : Nat) : Int.tmod (a : Int) (b : Int) = ((a % b : Nat) : Int) := by rw [Int.tmod_eq_emod_of_nonneg (by omega)]; omega
def digs : ByteArray := ⟨#[48, 49, 50, 51, 52, 53, 54, 55, 56, 57, 97, 98, 99, 100, 101, 102]⟩
def ext (m : Nat) : ByteArray := digs.extract m (m + 1)
theorem ext_size (m : Nat) (h : m < 16) : (ext m).size = 1 := by
  unfold ext
  rw [ByteArray.size_extract]
  have : digs.size = 16 := rfl
  omega
def figB (b : Nat) : Nat → Nat → ByteArray
  | 0, n => ext n
  | d + 1, n => if n < b then ext n else figB b d (n / b) ++ ext (n % b)
theorem figB_size (b : Nat) (hb : 0 < b) (hb2 : b ≤ 16) (d : Nat) : ∀ n, n < b ^ (d + 1) → (figB b d n).size ≤ d + 1 := by
  induction d with
  | zero =>
    intro n hn
    have hn' : n < b := by simpa using hn
    rw [figB, ext_size n (by omega)]
    exact Nat.le_refl _
  | succ d ih =>
    intro n hn
    rw [figB]
    split
    · rw [ext_size n (by omega)]; omega
    · have h1 : n / b < b ^ (d + 1) := Nat.div_lt_of_lt_mul (by rw [Nat.mul_comm, ← Nat.pow_succ]; exact hn)
      have h2 := Nat.mod_lt n hb
      rw [ByteArray.size_append, ext_size _ (by omega)]
      have := ih _ h1
      omega
theorem ext_one (n : Nat) (hn : n < 16) (z : Int) (hz : z = ((n + 1 : Nat) : Int)) : (⟨#[48, 49, 50, 51, 52, 53, 54, 55, 56, 57, 97, 98, 99, 100, 101, 102]⟩ : ByteArray).extract ((n : Int)).toNat (z : Int).toNat = ext n := by
  subst hz
  rfl
theorem fig_ev (b : Nat) (hb : 0 < b) (hb2 : b ≤ 16) (d : Nat) : ∀ n, n < b ^ (d + 1) → n < 1000000 → d ≤ 100 → Ev (fun k => spec_l1Figures.f k (n : Int) (b : Int)) (figB b d n) := by
  have one : ∀ n : Nat, n < b → Ev (fun k => spec_l1Figures.f k (n : Int) (b : Int)) (ext n) := by
    intro n hn
    refine Ev.step (f := fun _ => some _) (fun k => ?_) (Ev.now _)
    have e : IntKind.u64.wrap ((n : Int) + 1) = ((n + 1 : Nat) : Int) := by rw [u64in (by omega) (by omega)]; omega
    rw [spec_l1Figures.f, if_pos (by omega), if_pos (by omega), e, if_pos (by omega), if_pos (by omega), ext_one n (by omega) _ rfl]
  induction d with
  | zero => intro n hn _ _; exact one n (by simpa using hn)
  | succ d ih =>
    intro n hn hs hd
    rw [figB]
    by_cases hc : n < b
    · rw [if_pos hc]; exact one n hc
    · rw [if_neg hc]
      have h1 : n / b < b ^ (d + 1) := Nat.div_lt_of_lt_mul (by rw [Nat.mul_comm, ← Nat.pow_succ]; exact hn)
      have h2 := Nat.mod_lt n hb
      have h3 := Nat.div_le_self n b
      have e1 : IntKind.u64.wrap (Int.tdiv (n : Int) (b : Int)) = ((n / b : Nat) : Int) := by rw [tdivN, u64in (Int.natCast_nonneg _) (by have := Int.ofNat_le.mpr h3; omega)]
      have e2 : IntKind.u64.wrap (((n % b : Nat) : Int) + 1) = ((n % b + 1 : Nat) : Int) := by rw [u64in (by omega) (by omega)]; omega
      have hsz := figB_size b hb hb2 d _ h1
      refine Ev.step (fun k => by rw [spec_l1Figures.f, if_neg (by omega), if_neg (by omega), e1, tmodN, e2]) (Ev.bind (ih _ h1 (by omega) (by omega)) ?_)
      refine Ev.ite_pos (by omega) (Ev.ite_pos (by omega) (Ev.ite_pos (by omega) ?_))
      rw [ext_one (n % b) (by omega) _ rfl]
      exact Ev.ite_pos (by rw [ext_size _ (by omega)]; omega) (Ev.now _)
theorem enc_tab : ∀ m : Fin 10, Utf8.encode (wrap32 (wrap64 (48 + (m.1 : Int)))) = ext m.1 := by decide +kernel
theorem dec_ev (d : Nat) : ∀ n : Nat, n < 10 ^ (d + 1) → n < 1000000 → d ≤ 100 → Ev (fun k => impl_decimal.f k (n : Int)) (figB 10 d n) := by
  have one : ∀ n : Nat, n < 10 → Ev (fun k => impl_decimal.f k (n : Int)) (ext n) := by
    intro n hn
    refine Ev.step (fun k => by rw [impl_decimal.f, if_neg (by omega)]) (Ev.step (f := fun _ => some _) (fun k => ?_) (Ev.now _))
    rw [impl_decimal.j0, if_neg (by decide), if_neg (by omega), if_pos (by omega), enc_tab ⟨n, hn⟩]
  induction d with
  | zero => intro n hn _ _; exact one n (by simpa using hn)
  | succ d ih =>
    intro n hn hs hd
    rw [figB]
    by_cases hc : n < 10
    · rw [if_pos hc]; exact one n hc
    · rw [if_neg hc]
      have h1 : n / 10 < 10 ^ (d + 1) := Nat.div_lt_of_lt_mul (by rw [Nat.mul_comm, ← Nat.pow_succ]; exact hn)
      have h2 := Nat.mod_lt n (show 0 < 10 by decide)
      have e1 : wrap64 (Int.tdiv (n : Int) 10) = ((n / 10 : Nat) : Int) := by rw [show (10 : Int) = ((10 : Nat) : Int) from rfl, tdivN, w64 (by omega) (by omega)]
      have e2 : Int.tmod (n : Int) 10 = ((n % 10 : Nat) : Int) := by rw [show (10 : Int) = ((10 : Nat) : Int) from rfl, tmodN]
      have hsz := figB_size 10 (by decide) (by decide) d _ h1
      refine Ev.step (fun k => by rw [impl_decimal.f, if_neg (by omega)]) (Ev.step (fun k => by rw [impl_decimal.j0, if_neg (by decide), if_neg (by omega), if_neg (by omega), e1, e2, enc_tab ⟨n % 10, h2⟩]) (Ev.bind (ih _ h1 (by omega) (by omega)) ?_))
      exact Ev.ite_pos (by rw [ext_size _ (by omega)]; omega) (Ev.now _)
theorem hex_ev (d : Nat) : ∀ n : Nat, n < 16 ^ (d + 1) → n < 1000000 → d ≤ 100 → Ev (fun k => impl_hexText.f k (n : Int)) (figB 16 d n) := by
  have one : ∀ n : Nat, n < 16 → Ev (fun k => impl_hexText.f k (n : Int)) (ext n) := by
    intro n hn
    refine Ev.step (f := fun _ => some _) (fun k => ?_) (Ev.now _)
    have e : wrap64 ((n : Int) + 1) = ((n + 1 : Nat) : Int) := by rw [w64 (by omega) (by omega)]; omega
    rw [impl_hexText.f, if_pos (by omega), if_pos (by omega), e, if_pos (by omega), if_pos (by omega), ext_one n (by omega) _ rfl]
  induction d with
  | zero => intro n hn _ _; exact one n (by simpa using hn)
  | succ d ih =>
    intro n hn hs hd
    rw [figB]
    by_cases hc : n < 16
    · rw [if_pos hc]; exact one n hc
    · rw [if_neg hc]
      have h1 : n / 16 < 16 ^ (d + 1) := Nat.div_lt_of_lt_mul (by rw [Nat.mul_comm, ← Nat.pow_succ]; exact hn)
      have h2 := Nat.mod_lt n (show 0 < 16 by decide)
      have e1 : wrap64 (Int.tdiv (n : Int) 16) = ((n / 16 : Nat) : Int) := by rw [show (16 : Int) = ((16 : Nat) : Int) from rfl, tdivN, w64 (by omega) (by omega)]
      have e3 : Int.tmod (n : Int) 16 = ((n % 16 : Nat) : Int) := by rw [show (16 : Int) = ((16 : Nat) : Int) from rfl, tmodN]
      have e2 : wrap64 (((n % 16 : Nat) : Int) + 1) = ((n % 16 + 1 : Nat) : Int) := by rw [w64 (by omega) (by omega)]; omega
      have hsz := figB_size 16 (by decide) (by decide) d _ h1
      refine Ev.step (fun k => by rw [impl_hexText.f, if_neg (by omega), e1, e3, e2]) (Ev.bind (ih _ h1 (by omega) (by omega)) ?_)
      refine Ev.ite_pos (by omega) (Ev.ite_pos (by omega) (Ev.ite_pos (by omega) ?_))
      rw [ext_one (n % 16) (by omega) _ rfl]
      exact Ev.ite_pos (by rw [ext_size _ (by omega)]; omega) (Ev.now _)
/-! bytes in a list -/
def B (l : List UInt8) : ByteArray := ⟨l.toArray⟩
theorem B_app (a b : List UInt8) : B a ++ B b = B (a ++ b) := by
  apply ByteArray.ext
  simp [B, ByteArray.data_append]
theorem B_size (l : List UInt8) : (B l).size = l.length := by simp [B, ByteArray.size]
theorem B_list (x : ByteArray) : B x.data.toList = x := by
  apply ByteArray.ext
  simp [B]
def hxL (z : Int) : List UInt8 := (figB 16 3 z.toNat).data.toList
theorem hxL_len (z : Int) (h0 : 0 ≤ z) (h1 : z < 65536) : (hxL z).length ≤ 4 := by
  have := figB_size 16 (by decide) (by decide) 3 z.toNat (by omega)
  unfold hxL
  rw [Array.length_toList]
  exact this
def okG (gl : List Int) : Prop := ∀ z ∈ gl, 0 ≤ z ∧ z < 65536
theorem hexI_ev (z : Int) (h0 : 0 ≤ z) (h1 : z < 65536) : Ev (fun k => impl_hexText.f k z) (B (hxL z)) := by
  obtain ⟨n, rfl⟩ := Int.eq_ofNat_of_zero_le h0
  unfold hxL
  rw [B_list, Int.toNat_natCast]
  exact hex_ev 3 n (by omega) (by omega) (by decide)
theorem figH_ev (z : Int) (h0 : 0 ≤ z) (h1 : z < 65536) : Ev (fun k => spec_l1Figures.f k z 16) (B (hxL z)) := by
  obtain ⟨n, rfl⟩ := Int.eq_ofNat_of_zero_le h0
  unfold hxL
  rw [B_list, Int.toNat_natCast]
  exact fig_ev 16 (by decide) (by decide) 3 n (by omega) (by omega) (by decide)
/-! groups of 16 bits -/
def grpsL (u : Int) : Nat → List Int
  | 0 => []
  | j + 1 => ((u % 18446744073709551616) / 2 ^ (16 * j)) % 65536 :: grpsL u j
theorem grpsL_ok (u : Int) : ∀ j, okG (grpsL u j)
  | 0, z, h => by simp [grpsL] at h
  | j + 1, z, h => by
    rw [grpsL, List.mem_cons] at h
    rcases h with rfl | h
    · omega
    · exact grpsL_ok u j z h
theorem grpsL_len (u : Int) : ∀ j, (grpsL u j).length = j
  | 0 => rfl
  | j + 1 => by rw [grpsL, List.length_cons, grpsL_len]
def glist (h l : Int) : List Int := grpsL h 4 ++ grpsL l 4
theorem glist_len (h l : Int) : (glist h l).length = 8 := by rw [glist, List.length_append, grpsL_len, grpsL_len]
theorem glist_ok (h l : Int) : okG (glist h l) := fun z hz => (List.mem_append.1 hz).elim (grpsL_ok h 4 z) (grpsL_ok l 4 z)
theorem and16 (u : Int) (h0 : 0 ≤ u) (h1 : u < 18446744073709551616) : Go.bits .and .u64 u 65535 = u % 65536 := by
  obtain ⟨n, rfl⟩ := Int.eq_ofNat_of_zero_le h0
  have := u64and n 65535 (by omega) (by decide)
  rw [show ((65535 : Nat) : Int) = 65535 from rfl] at this
  rw [this, show (65535 : Nat) = 2 ^ 16 - 1 from rfl, Nat.and_two_pow_sub_one_eq_mod]
  omega
theorem shr16 (u : Int) (j : Nat) (hj : j ≤ 4) (s : Int) (hs : s = 16 * (j : Int)) : Go.bits .and .u64 (shr .u64 (IntKind.u64.wrap u) s) 65535 = ((u % 18446744073709551616) / 2 ^ (16 * j)) % 65536 := by
  subst hs
  have e : shr .u64 (IntKind.u64.wrap u) (16 * (j : Int)) = (u % 18446744073709551616) / 2 ^ (16 * j) := by
    unfold shr
    rw [u64w, show IntKind.u64.bits = 64 from rfl, show (16 * (j : Int)).toNat = 16 * j by omega, Nat.min_eq_left (by omega)]
  rw [e]
  have hu : 0 ≤ u % 18446744073709551616 ∧ u % 18446744073709551616 < 18446744073709551616 := by omega
  generalize u % 18446744073709551616 = v at hu
  have hp : (0 : Int) < 2 ^ (16 * j) := Int.pow_pos (by decide)
  have h1 : 0 ≤ v / 2 ^ (16 * j) := Int.ediv_nonneg hu.1 (by omega)
  have h2 : v / 2 ^ (16 * j) ≤ v := Int.ediv_le_self _ hu.1
  exact and16 _ h1 (by omega)
theorem spec_l1Group_e (x : Bool) (h l : Int) (i : Nat) (hi : i < 8) : spec_l1Group.f x h l (i : Int) = some (rd (glist h l) (i : Int)) := by
  have key : ∀ (u : Int) (j : Nat) (s : Int), j ≤ 4 → s = 16 * (j : Int) → (if 0 ≤ IntKind.u64.wrap s then some (Go.bits .and .u64 (shr .u64 (IntKind.u64.wrap u) (IntKind.u64.wrap s)) 65535) else none) = some (((u % 18446744073709551616) / 2 ^ (16 * j)) % 65536) := by
    intro u j s hj hs
    rw [u64in (x := s) (by omega) (by omega), if_pos (by omega), shr16 u j hj s hs]
  unfold spec_l1Group.f
  match i, hi with
  | 0, _ => rw [if_pos (by decide), w64 (x := 3 - ((0 : Nat) : Int)) (by omega) (by omega), w64 (by omega) (by omega), key h 3 _ (by decide) (by omega)]; rfl
  | 1, _ => rw [if_pos (by decide), w64 (x := 3 - ((1 : Nat) : Int)) (by omega) (by omega), w64 (by omega) (by omega), key h 2 _ (by decide) (by omega)]; rfl
  | 2, _ => rw [if_pos (by decide), w64 (x := 3 - ((2 : Nat) : Int)) (by omega) (by omega), w64 (by omega) (by omega), key h 1 _ (by decide) (by omega)]; rfl
  | 3, _ => rw [if_pos (by decide), w64 (x := 3 - ((3 : Nat) : Int)) (by omega) (by omega), w64 (by omega) (by omega), key h 0 _ (by decide) (by omega)]; rfl
  | 4, _ => rw [if_neg (by decide), w64 (x := 7 - ((4 : Nat) : Int)) (by omega) (by omega), w64 (by omega) (by omega), key l 3 _ (by decide) (by omega)]; rfl
  | 5, _ => rw [if_neg (by decide), w64 (x := 7 - ((5 : Nat) : Int)) (by omega) (by omega), w64 (by omega) (by omega), key l 2 _ (by decide) (by omega)]; rfl
  | 6, _ => rw [if_neg (by decide), w64 (x := 7 - ((6 : Nat) : Int)) (by omega) (by omega), w64 (by omega) (by omega), key l 1 _ (by decide) (by omega)]; rfl
  | 7, _ => rw [if_neg (by decide), w64 (x := 7 - ((7 : Nat) : Int)) (by omega) (by omega), w64 (by omega) (by omega), key l 0 _ (by decide) (by omega)]; rfl
theorem groupsOf_l1 (u : Int) (L : List Int) (i : Int) (R : List Int) (j : Nat) : ∀ acc : List Int, j ≤ 4 → acc.length + j ≤ 100 → Ev (fun k => impl_groupsOf.l0 k (acc ++ grpsL u j) L 2 (wrap64 (i + 1))) R →
    Ev (fun k => impl_groupsOf.l1 k acc u (16 * (j : Int) - 16) L 2 i) R := by
  induction j with
  | zero =>
    intro acc _ _ hR
    rw [grpsL, List.append_nil] at hR
    exact Ev.step (fun k => by rw [impl_groupsOf.l1, if_neg (by omega)]) hR
  | succ j ih =>
    intro acc hj hl hR
    have e : wrap64 (((u % 18446744073709551616) / 2 ^ (16 * j)) % 65536) = ((u % 18446744073709551616) / 2 ^ (16 * j)) % 65536 := w64 (by omega) (by omega)
    have e1 : 16 * ((j + 1 : Nat) : Int) - 16 = 16 * (j : Int) := by omega
    refine Ev.step (fun k => ?_) (ih (acc ++ [((u % 18446744073709551616) / 2 ^ (16 * j)) % 65536]) (by omega) (by simp; omega) (by rw [grpsL] at hR; simpa using hR))
    rw [e1, impl_groupsOf.l1, if_pos (by omega), if_pos (by omega), if_pos (by omega), shr16 u j (by omega) _ rfl, e, w64 (x := 16 * (j : Int) - 16) (by omega) (by omega)]
theorem groupsOf_ev (x : Bool) (h l : Int) : Ev (fun k => impl_groupsOf.f k x h l) (glist h l) := by
  have w0 : wrap64 ((0 : Int) + 1) = 1 := w64 (by omega) (by omega)
  have w1 : wrap64 ((1 : Int) + 1) = 2 := w64 (by omega) (by omega)
  have r2 : Ev (fun k => impl_groupsOf.l0 k (glist h l) [h, l] 2 2) (glist h l) := Ev.step (f := fun _ => some _) (fun k => by rw [impl_groupsOf.l0, if_neg (by decide)]) (Ev.now _)
  have r1 : Ev (fun k => impl_groupsOf.l0 k (grpsL h 4) [h, l] 2 1) (glist h l) := Ev.step (fun k => by rw [impl_groupsOf.l0, if_pos (by decide), if_pos (by decide), if_pos (by simp)]; rfl) (groupsOf_l1 l [h, l] 1 _ 4 (grpsL h 4) (by decide) (by rw [grpsL_len]; decide) (by rw [w1]; exact r2))
  have r0 : Ev (fun k => impl_groupsOf.l0 k [] [h, l] 2 0) (glist h l) := Ev.step (fun k => by rw [impl_groupsOf.l0, if_pos (by decide), if_pos (by decide), if_pos (by simp)]; rfl) (groupsOf_l1 h [h, l] 0 _ 4 [] (by decide) (by decide) (by rw [w0, List.nil_append]; exact r1))
  exact Ev.val (a := [h, l]) rfl r0

/-! the longest row of zeros -/
def zrun (l : List Int) : Nat := (l.takeWhile (· == 0)).length
theorem zrun_le (l : List Int) : zrun l ≤ l.length := by
  unfold zrun
  exact (List.takeWhile_sublist _).length_le
theorem zrun_cons (z : Int) (l : List Int) : zrun (z :: l) = if z = 0 then zrun l + 1 else 0 := by
  unfold zrun
  by_cases h : z = 0
  · simp [List.takeWhile_cons, h]
  · simp [List.takeWhile_cons, h]
theorem zrun_at (l : List Int) : ∀ n, n ≤ zrun l → ((n < l.length ∧ rd l (n : Int) = 0) ↔ n < zrun l) := by
  induction l with
  | nil => intro n hn; simp [zrun] at hn ⊢
  | cons z l ih =>
    intro n hn
    rw [zrun_cons] at hn ⊢
    by_cases hz : z = 0
    · rw [if_pos hz] at hn ⊢
      cases n with
      | zero => simp [rd, hz]
      | succ n =>
        have := ih n (by omega)
        have e : rd (z :: l) ((n + 1 : Nat) : Int) = rd l (n : Int) := by simp [rd]
        rw [e, List.length_cons]
        constructor
        · rintro ⟨h1, h2⟩
          have := this.mp ⟨by omega, h2⟩
          omega
        · intro h1
          have := this.mpr (by omega)
          exact ⟨by omega, this.2⟩
    · rw [if_neg hz] at hn ⊢
      obtain rfl : n = 0 := by omega
      simp [rd, hz]
theorem rd_drop (l : List Int) (i n : Nat) : rd (l.drop i) (n : Int) = rd l ((i + n : Nat) : Int) := by
  unfold rd
  rw [Int.toNat_natCast, Int.toNat_natCast]
  simp [List.getD, List.getElem?_drop]
def zat (gl : List Int) (i : Nat) : Nat := zrun (gl.drop i)
theorem zat_le (gl : List Int) (i : Nat) : zat gl i ≤ gl.length - i := by
  have := zrun_le (gl.drop i)
  rw [List.length_drop] at this
  exact this
theorem zat_at (gl : List Int) (hl : gl.length = 8) (i n : Nat) (hn : n ≤ zat gl i) : ((i + n < 8 ∧ rd gl ((i + n : Nat) : Int) = 0) ↔ n < zat gl i) := by
  have := zrun_at (gl.drop i) n hn
  rw [rd_drop, List.length_drop, hl] at this
  rw [← show (n < 8 - i ∧ rd gl ((i + n : Nat) : Int) = 0 ↔ n < zrun (gl.drop i)) = (i + n < 8 ∧ rd gl ((i + n : Nat) : Int) = 0 ↔ n < zat gl i) from by
    have e : (n < 8 - i) = (i + n < 8) := propext ⟨fun h => by omega, fun h => by omega⟩
    rw [e]; rfl]
  exact this
theorem nat8 {i n d q L : Nat} (hn : n + (d + 1) = q) (hz : q ≤ L - i) (hl : L = 8) : ((i + n : Nat) : Int) < ((8 : Nat) : Int) := by omega
def lz (gl : List Int) : Nat → Nat → Nat × Nat → Nat × Nat
  | 0, _, s => s
  | d + 1, i, s => lz gl d (i + 1) (if s.2 < zat gl i then (i, zat gl i) else s)
theorem lz_rel (gl : List Int) (d : Nat) : ∀ (i : Nat) (s t : Nat × Nat), ((s.2 ≤ 1 ∧ t = (8, 1)) ∨ (s = t ∧ 2 ≤ s.2)) → (((lz gl d i s).2 ≤ 1 ∧ lz gl d i t = (8, 1)) ∨ (lz gl d i s = lz gl d i t ∧ 2 ≤ (lz gl d i s).2)) := by
  induction d with
  | zero => intro i s t h; exact h
  | succ d ih =>
    intro i s t h
    rw [lz, lz]
    apply ih
    rcases h with ⟨h1, rfl⟩ | ⟨rfl, h2⟩
    · by_cases hz : 1 < zat gl i
      · right
        rw [if_pos (by omega), if_pos (by simpa using hz)]
        exact ⟨rfl, hz⟩
      · left
        rw [if_neg (show ¬ ((8, 1) : Nat × Nat).2 < zat gl i by simpa using hz)]
        refine ⟨?_, rfl⟩
        split
        · simp only; omega
        · exact h1
    · right
      refine ⟨rfl, ?_⟩
      split
      · simp only; omega
      · exact h2
theorem lz_in (gl : List Int) (hl : gl.length = 8) (d : Nat) : ∀ (i : Nat) (s : Nat × Nat), s.1 + s.2 ≤ 8 → i + d ≤ 8 → (lz gl d i s).1 + (lz gl d i s).2 ≤ 8 := by
  induction d with
  | zero => intro i s h _; exact h
  | succ d ih =>
    intro i s h hd
    rw [lz]
    apply ih _ _ _ (by omega)
    have := zat_le gl i
    split
    · simp only; omega
    · exact h
theorem longest_l1 (gl : List Int) (hl : gl.length = 8) (s : Nat × Nat) (i : Nat) (hi : i < 8) (R : Int × Int) (hs : s.1 ≤ 100 ∧ s.2 ≤ 100)
    (hR : Ev (fun k => impl_longestZeros.l0 k gl (((if s.2 < zat gl i then (i, zat gl i) else s).1 : Nat) : Int) (((if s.2 < zat gl i then (i, zat gl i) else s).2 : Nat) : Int) 8 ((i + 1 : Nat) : Int)) R) (d : Nat) :
    ∀ n, n + d = zat gl i → Ev (fun k => impl_longestZeros.l1 k gl (s.1 : Int) (s.2 : Int) (i : Int) (n : Int) 8 (i : Int)) R := by
  have hz := zat_le gl i
  have e3 : wrap64 ((i : Int) + 1) = ((i + 1 : Nat) : Int) := by rw [w64 (by omega) (by omega)]; omega
  induction d with
  | zero =>
    intro n hn
    have hat := zat_at gl hl i n (by omega)
    have hno : ¬ (i + n < 8 ∧ rd gl ((i + n : Nat) : Int) = 0) := fun h => by have := hat.mp h; omega
    have e1 : wrap64 ((i : Int) + (n : Int)) = ((i + n : Nat) : Int) := by rw [w64 (by omega) (by omega)]; omega
    have fin : Ev (fun k => if (n : Int) > (s.2 : Int) then impl_longestZeros.l0 k gl (i : Int) (n : Int) 8 (wrap64 ((i : Int) + 1)) else impl_longestZeros.l0 k gl (s.1 : Int) (s.2 : Int) 8 (wrap64 ((i : Int) + 1))) R := by
      rw [e3]
      by_cases hc : s.2 < zat gl i
      · rw [if_pos hc] at hR
        obtain rfl : n = zat gl i := by omega
        exact Ev.ite_pos (by omega) hR
      · rw [if_neg hc] at hR
        exact Ev.ite_neg (by omega) hR
    by_cases h8 : i + n < 8
    · exact Ev.step (fun k => by rw [impl_longestZeros.l1, e1, hl, if_pos (by omega), if_pos (by omega), if_neg (fun h => hno ⟨h8, h⟩)]) fin
    · exact Ev.step (fun k => by rw [impl_longestZeros.l1, e1, hl, if_neg (by omega)]) fin
  | succ d ih =>
    intro n hn
    have e1 : wrap64 ((i : Int) + (n : Int)) = ((i + n : Nat) : Int) := by rw [w64 (by omega) (by omega)]; omega
    have e2 : wrap64 ((n : Int) + 1) = ((n + 1 : Nat) : Int) := by rw [w64 (by omega) (by omega)]; omega
    have b1 : ((i + n : Nat) : Int) < ((8 : Nat) : Int) := nat8 hn hz hl
    have b2 : (0 : Int) ≤ ((i + n : Nat) : Int) := Int.natCast_nonneg _
    have b3 := ih (n + 1) ((show n + 1 + d = n + (d + 1) by omega).trans hn)
    have hat := (zat_at gl hl i n (by rw [← hn]; exact Nat.le_add_right _ _)).mpr (by rw [← hn]; exact Nat.lt_add_of_pos_right (Nat.succ_pos d))
    exact Ev.step (fun k => by rw [impl_longestZeros.l1, e1, hl, if_pos b1, if_pos b2, if_pos hat.2, e2]) b3
theorem longest_l0 (gl : List Int) (hl : gl.length = 8) (d : Nat) : ∀ (i : Nat) (s : Nat × Nat), i + d = 8 → s.1 ≤ 100 ∧ s.2 ≤ 100 →
    Ev (fun k => impl_longestZeros.l0 k gl (s.1 : Int) (s.2 : Int) 8 (i : Int)) (((lz gl d i s).1 : Int), ((lz gl d i s).2 : Int)) := by
  induction d with
  | zero =>
    intro i s hi _
    refine Ev.step (f := fun _ => some _) (fun k => ?_) (Ev.now _)
    rw [impl_longestZeros.l0, if_neg (by omega)]; rfl
  | succ d ih =>
    intro i s hi hs
    have hz := zat_le gl i
    refine Ev.step (fun k => by rw [impl_longestZeros.l0, if_pos (by omega)]; rfl) (longest_l1 gl hl s i (by omega) _ hs (ih (i + 1) _ (by omega) ?_) (zat gl i) 0 (by omega))
    split
    · simp only; omega
    · exact hs
theorem longest_ev (gl : List Int) (hl : gl.length = 8) : Ev (fun k => impl_longestZeros.f k gl) (((lz gl 8 0 (0, 0)).1 : Int), ((lz gl 8 0 (0, 0)).2 : Int)) := by
  refine Ev.congr (fun k => ?_) (longest_l0 gl hl 8 0 (0, 0) rfl (by decide))
  rw [impl_longestZeros.f, hl]
  rfl
theorem spec_l2 (x : Bool) (h l : Int) (s : Nat × Nat) (i : Nat) (hi : i < 8) (R : ByteArray) (hs : s.1 ≤ 100 ∧ s.2 ≤ 100)
    (hR : Ev (fun k => spec_AddrText.l1 k (((if s.2 < zat (glist h l) i then (i, zat (glist h l) i) else s).1 : Nat) : Int) (((if s.2 < zat (glist h l) i then (i, zat (glist h l) i) else s).2 : Nat) : Int) ((i + 1 : Nat) : Int) x h l) R) (d : Nat) :
    ∀ n, n + d = zat (glist h l) i → Ev (fun k => spec_AddrText.l2 k (s.1 : Int) (s.2 : Int) (i : Int) (n : Int) x h l) R := by
  have hl := glist_len h l
  have hz := zat_le (glist h l) i
  have e3 : wrap64 ((i : Int) + 1) = ((i + 1 : Nat) : Int) := by rw [w64 (by omega) (by omega)]; omega
  induction d with
  | zero =>
    intro n hn
    have hat := zat_at (glist h l) hl i n (by omega)
    have hno : ¬ (i + n < 8 ∧ rd (glist h l) ((i + n : Nat) : Int) = 0) := fun h => by have := hat.mp h; omega
    have e1 : wrap64 ((i : Int) + (n : Int)) = ((i + n : Nat) : Int) := by rw [w64 (by omega) (by omega)]; omega
    have fin : Ev (fun k => if (n : Int) > (s.2 : Int) then spec_AddrText.l1 k (i : Int) (n : Int) (wrap64 ((i : Int) + 1)) x h l else spec_AddrText.l1 k (s.1 : Int) (s.2 : Int) (wrap64 ((i : Int) + 1)) x h l) R := by
      rw [e3]
      by_cases hc : s.2 < zat (glist h l) i
      · rw [if_pos hc] at hR
        obtain rfl : n = zat (glist h l) i := by omega
        exact Ev.ite_pos (by omega) hR
      · rw [if_neg hc] at hR
        exact Ev.ite_neg (by omega) hR
    by_cases h8 : i + n < 8
    · exact Ev.step (fun k => by rw [spec_AddrText.l2, e1, if_pos (by omega), spec_l1Group_e x h l (i + n) h8, Option.bind_some, if_neg (fun h => hno ⟨h8, h⟩)]) fin
    · exact Ev.step (fun k => by rw [spec_AddrText.l2, e1, if_neg (by omega)]) fin
  | succ d ih =>
    intro n hn
    have e1 : wrap64 ((i : Int) + (n : Int)) = ((i + n : Nat) : Int) := by rw [w64 (by omega) (by omega)]; omega
    have e2 : wrap64 ((n : Int) + 1) = ((n + 1 : Nat) : Int) := by rw [w64 (by omega) (by omega)]; omega
    have b1 : ((i + n : Nat) : Int) < ((8 : Nat) : Int) := nat8 hn hz hl
    have b2 : (0 : Int) ≤ ((i + n : Nat) : Int) := Int.natCast_nonneg _
    have b3 := ih (n + 1) ((show n + 1 + d = n + (d + 1) by omega).trans hn)
    have hat := (zat_at (glist h l) hl i n (by rw [← hn]; exact Nat.le_add_right _ _)).mpr (by rw [← hn]; exact Nat.lt_add_of_pos_right (Nat.succ_pos d))
    exact Ev.step (fun k => by rw [spec_AddrText.l2, e1, if_pos (show ((i + n : Nat) : Int) < 8 from b1), spec_l1Group_e x h l (i + n) hat.1, Option.bind_some, if_pos hat.2, e2]) b3
theorem spec_l1 (x : Bool) (h l : Int) (R : ByteArray) (d : Nat) : ∀ (i : Nat) (s : Nat × Nat), i + d = 8 → s.1 ≤ 100 ∧ s.2 ≤ 100 →
    Ev (fun k => spec_AddrText.l3 k ((lz (glist h l) d i s).1 : Int) ((lz (glist h l) d i s).2 : Int) (⟨#[]⟩ : ByteArray) 0 x h l) R → Ev (fun k => spec_AddrText.l1 k (s.1 : Int) (s.2 : Int) (i : Int) x h l) R := by
  induction d with
  | zero =>
    intro i s hi _ hR
    exact Ev.step (fun k => by rw [spec_AddrText.l1, if_neg (by omega)]; rfl) hR
  | succ d ih =>
    intro i s hi hs hR
    have hz := zat_le (glist h l) i
    refine Ev.step (fun k => by rw [spec_AddrText.l1, if_pos (by omega)]; rfl) (spec_l2 x h l s i (by omega) R hs (ih (i + 1) _ (by omega) ?_ hR) (zat (glist h l) i) 0 (by omega))
    split
    · simp only; have := glist_len h l; omega
    · exact hs
/-- The text from a group on. -/
def seg (gl : List Int) (f n : Nat) : Nat → Nat → List UInt8
  | 0, _ => []
  | d + 1, i => if 8 ≤ i then [] else if i = f then [58, 58] ++ seg gl f n d (f + n) else (if 0 < i ∧ i ≠ f + n then [58] else []) ++ hxL (rd gl (i : Int)) ++ seg gl f n d (i + 1)
theorem rd_okG {gl : List Int} (hg : okG gl) (hl : gl.length = 8) (i : Nat) (hi : i < 8) : 0 ≤ rd gl (i : Int) ∧ rd gl (i : Int) < 65536 := by
  have : rd gl (i : Int) = gl[i] := rd_get gl i i _ rfl (List.getElem?_eq_getElem (by omega))
  rw [this]
  exact hg _ (List.getElem_mem _)
theorem spec_l3 (x : Bool) (h l : Int) (f n : Nat) (hf : f ≤ 8) (hn0 : 1 ≤ n) (hn : n ≤ 8) (d : Nat) : ∀ (i : Nat) (acc : List UInt8), 8 < i + d → i ≤ 16 → acc.length + 10 * d ≤ 1000 →
    Ev (fun k => spec_AddrText.l3 k (f : Int) (n : Int) (B acc) (i : Int) x h l) (B (acc ++ seg (glist h l) f n d i)) := by
  induction d with
  | zero =>
    intro i acc hd _ _
    refine Ev.step (f := fun _ => some _) (fun k => ?_) (Ev.now _)
    rw [spec_AddrText.l3, if_neg (by omega), seg, List.append_nil]
  | succ d ih =>
    intro i acc hd hi hacc
    rw [seg]
    by_cases h8 : 8 ≤ i
    · rw [if_pos h8]
      refine Ev.step (f := fun _ => some _) (fun k => ?_) (Ev.now _)
      rw [spec_AddrText.l3, if_neg (by omega), List.append_nil]
    rw [if_neg h8]
    by_cases hif : i = f
    · subst hif
      rw [if_pos rfl, ← List.append_assoc]
      have e : wrap64 (wrap64 (wrap64 ((i : Int) + (n : Int)) - 1) + 1) = ((i + n : Nat) : Int) := by
        rw [w64 (x := (i : Int) + (n : Int)) (by omega) (by omega), w64 (x := (i : Int) + (n : Int) - 1) (by omega) (by omega), w64 (by omega) (by omega)]; omega
      refine Ev.step (fun k => ?_) (ih (i + n) (acc ++ [58, 58]) (by omega) (by omega) (by simp; omega))
      rw [spec_AddrText.l3, if_pos (by omega), if_pos rfl, if_pos (by rw [B_size]; omega), e]
      rw [show (⟨#[58, 58]⟩ : ByteArray) = B [58, 58] from rfl, B_app]
    · rw [if_neg hif]
      have hg := rd_okG (glist_ok h l) (glist_len h l) i (by omega)
      have hlen := hxL_len _ hg.1 hg.2
      have e1 : wrap64 ((i : Int) + 1) = ((i + 1 : Nat) : Int) := by rw [w64 (by omega) (by omega)]; omega
      have e2 : wrap64 ((f : Int) + (n : Int)) = ((f + n : Nat) : Int) := by rw [w64 (by omega) (by omega)]; omega
      by_cases hc : 0 < i ∧ i ≠ f + n
      · rw [if_pos hc]
        have hb : ((i : Int) != wrap64 ((f : Int) + (n : Int))) = true := by rw [e2]; simp; omega
        refine Ev.step (fun k => by rw [spec_AddrText.l3, if_pos (by omega), if_neg (by omega), if_pos (by omega), hb]) (Ev.step (fun k => by rw [spec_AddrText.j4, if_pos rfl]) ?_)
        refine Ev.ite_pos (by rw [B_size]; omega) (Ev.val (spec_l1Group_e x h l i (by omega)) (Ev.bind (figH_ev _ hg.1 hg.2) ?_))
        rw [show (⟨#[58]⟩ : ByteArray) = B [58] from rfl, B_app]
        refine Ev.ite_pos (by rw [B_size, B_size]; simp; omega) ?_
        rw [B_app, e1]
        have := ih (i + 1) (acc ++ [58] ++ hxL (rd (glist h l) (i : Int))) (by omega) (by omega) (by simp; omega)
        simpa using this
      · rw [if_neg hc]
        have hj : Ev (fun k => spec_AddrText.j4 k (f : Int) (n : Int) (B acc) (i : Int) false x h l) (B (acc ++ ([] ++ hxL (rd (glist h l) (i : Int)) ++ seg (glist h l) f n d (i + 1)))) := by
          refine Ev.step (fun k => by rw [spec_AddrText.j4, if_neg (by decide)]) (Ev.val (spec_l1Group_e x h l i (by omega)) (Ev.bind (figH_ev _ hg.1 hg.2) ?_))
          refine Ev.ite_pos (by rw [B_size, B_size]; omega) ?_
          rw [B_app, e1]
          have := ih (i + 1) (acc ++ hxL (rd (glist h l) (i : Int))) (by omega) (by omega) (by simp; omega)
          simpa using this
        by_cases h0 : 0 < i
        · have hb : ((i : Int) != wrap64 ((f : Int) + (n : Int))) = false := by
            rw [e2]
            have : i = f + n := by omega
            simp [this]
          exact Ev.step (fun k => by rw [spec_AddrText.l3, if_pos (by omega), if_neg (by omega), if_pos (by omega), hb]) hj
        · exact Ev.step (fun k => by rw [spec_AddrText.l3, if_pos (by omega), if_neg (by omega), if_neg (by omega)]) hj
/-! the same as rows that are joined -/
def jn (l : List Int) : List UInt8 := Lib.join (l.map hxL) [58]
theorem jt_cons (x : List UInt8) (r : List (List UInt8)) : Lib.joinTail [58] (x :: r) = [58] ++ x ++ Lib.joinTail [58] r := by simp [Lib.joinTail]
theorem seg_tail (gl : List Int) (hl : gl.length = 8) (f n : Nat) (hn0 : 1 ≤ n) (d : Nat) : ∀ i, 8 < i + d → 0 < i → (f + n < i ∨ f = 8 ∧ n = 1) → seg gl f n d i = Lib.joinTail [58] ((gl.drop i).map hxL) := by
  induction d with
  | zero => intro i hi _ _; rw [seg, List.drop_eq_nil_of_le (by omega)]; rfl
  | succ d ih =>
    intro i hi h0 hc
    rw [seg]
    by_cases h8 : 8 ≤ i
    · rw [if_pos h8, List.drop_eq_nil_of_le (by omega)]; rfl
    · have hlt : i < gl.length := by omega
      have hr : rd gl (i : Int) = gl[i] := rd_get gl i i _ rfl (List.getElem?_eq_getElem hlt)
      rw [if_neg h8, if_neg (by omega), if_pos (by omega), ih (i + 1) (by omega) (by omega) (by omega), List.drop_eq_getElem_cons hlt, List.map_cons, jt_cons, hr]
theorem seg_start (gl : List Int) (hl : gl.length = 8) (f n : Nat) (hn0 : 1 ≤ n) (hf : f + n ≤ 8) (d : Nat) (hd : 8 < f + n + d) : seg gl f n d (f + n) = jn (gl.drop (f + n)) := by
  cases d with
  | zero => omega
  | succ d =>
    rw [seg]
    by_cases h8 : 8 ≤ f + n
    · rw [if_pos h8, List.drop_eq_nil_of_le (by omega)]; rfl
    · have hlt : f + n < gl.length := by omega
      have hr : rd gl ((f + n : Nat) : Int) = gl[f + n] := rd_get gl _ (f + n) _ rfl (List.getElem?_eq_getElem hlt)
      rw [if_neg h8, if_neg (by omega), if_neg (by omega), seg_tail gl hl f n hn0 d (f + n + 1) (by omega) (by omega) (by omega), List.drop_eq_getElem_cons hlt, jn, List.map_cons, Lib.join_cons, hr, List.nil_append]
theorem seg_mid (gl : List Int) (hl : gl.length = 8) (f n : Nat) (hn0 : 1 ≤ n) (hf : f + n ≤ 8) (d : Nat) : ∀ i, 8 < i + d → 0 < i → i ≤ f → seg gl f n d i = Lib.joinTail [58] (((gl.take f).drop i).map hxL) ++ [58, 58] ++ jn (gl.drop (f + n)) := by
  induction d with
  | zero => intro i h1 _ h2; omega
  | succ d ih =>
    intro i hi h0 hif
    rw [seg, if_neg (by omega)]
    by_cases he : i = f
    · subst he
      have e : (gl.take i).drop i = [] := List.drop_eq_nil_of_le (by rw [List.length_take]; omega)
      rw [if_pos rfl, seg_start gl hl i n hn0 hf d (by omega), e]
      rfl
    · have hlt : i < (gl.take f).length := by simp; omega
      have hlt2 : i < gl.length := by omega
      have hr : rd gl (i : Int) = (gl.take f)[i] := by
        rw [rd_get gl i i _ rfl (List.getElem?_eq_getElem hlt2), List.getElem_take]
      rw [if_neg he, if_pos (by omega), ih (i + 1) (by omega) (by omega) (by omega), List.drop_eq_getElem_cons hlt, List.map_cons, jt_cons, hr]
      simp
theorem seg_all (gl : List Int) (hl : gl.length = 8) (f n : Nat) (hn0 : 1 ≤ n) (hf : f + n ≤ 8) : seg gl f n 9 0 = jn (gl.take f) ++ [58, 58] ++ jn (gl.drop (f + n)) := by
  rw [seg, if_neg (by decide)]
  by_cases h0 : 0 = f
  · subst h0
    rw [if_pos rfl, seg_start gl hl 0 n hn0 hf 8 (by omega)]
    rfl
  · have hlt : 0 < (gl.take f).length := by simp; omega
    have hlt2 : 0 < gl.length := by omega
    have hr : rd gl ((0 : Nat) : Int) = (gl.take f)[0] := by
      rw [rd_get gl _ 0 _ rfl (List.getElem?_eq_getElem hlt2), List.getElem_take]
    rw [if_neg h0, if_neg (by omega), seg_mid gl hl f n hn0 hf 8 1 (by omega) (by omega) (by omega), hr]
    have : gl.take f = (gl.take f)[0] :: (gl.take f).drop 1 := by
      have := List.drop_eq_getElem_cons hlt
      rw [List.drop_zero] at this
      exact this
    conv => rhs; rw [jn, this, List.map_cons, Lib.join_cons]
    simp
theorem seg_none (gl : List Int) (hl : gl.length = 8) : seg gl 8 1 9 0 = jn gl := by
  have hlt : 0 < gl.length := by omega
  have hr : rd gl ((0 : Nat) : Int) = gl[0] := rd_get gl _ 0 _ rfl (List.getElem?_eq_getElem hlt)
  rw [seg, if_neg (by decide), if_neg (by decide), if_neg (by decide), seg_tail gl hl 8 1 (by decide) 8 1 (by decide) (by decide) (Or.inr ⟨rfl, rfl⟩), hr]
  have : gl = gl[0] :: gl.drop 1 := by
    have := List.drop_eq_getElem_cons hlt
    rw [List.drop_zero] at this
    exact this
  conv => rhs; rw [jn, this, List.map_cons, Lib.join_cons]
  simp

theorem jt_len (c : UInt8) (q : Nat) : ∀ ls : List (List UInt8), (∀ x ∈ ls, x.length ≤ q) → (Lib.joinTail [c] ls).length ≤ ls.length * (q + 1)
  | [], _ => by simp [Lib.joinTail]
  | x :: r, h => by
    have ih := jt_len c q r (fun y hy => h y (List.mem_cons_of_mem _ hy))
    have hx := h x List.mem_cons_self
    have e : Lib.joinTail [c] (x :: r) = [c] ++ x ++ Lib.joinTail [c] r := by simp [Lib.joinTail]
    rw [e]
    simp only [List.length_append, List.length_cons, List.length_nil, Nat.add_mul]
    omega
theorem join_len (c : UInt8) (q : Nat) (ls : List (List UInt8)) (h : ∀ x ∈ ls, x.length ≤ q) : (Lib.join ls [c]).length ≤ ls.length * (q + 1) := by
  cases ls with
  | nil => simp [Lib.join, List.intercalate]
  | cons x r =>
    have ih := jt_len c q r (fun y hy => h y (List.mem_cons_of_mem _ hy))
    have hx := h x List.mem_cons_self
    rw [Lib.join_cons]
    simp only [List.length_append, List.length_cons, Nat.add_mul]
    omega
theorem Join_e (c : UInt8) (l : List (List UInt8)) (h : ∀ x ∈ l, x.length ≤ 10) (hl : l.length ≤ 100) : strings_Join.f (l.map B) (⟨#[c]⟩ : ByteArray) = some (B (Lib.join l [c])) := by
  have e : (l.map B).map (·.data.toList) = l := by
    rw [List.map_map]
    conv => rhs; rw [← List.map_id l]
    refine List.map_congr_left (fun x _ => ?_)
    simp [B]
  have hj := join_len c 10 l h
  unfold strings_Join.f
  rw [e, if_pos ⟨by rw [List.length_map]; omega, by
    show (Lib.join l [c]).length ≤ _
    omega⟩]
  rfl
theorem joined_l0 (l : List Int) (hg : okG l) (hl : l.length ≤ 8) (d : Nat) : ∀ i, i + d = l.length → Ev (fun k => impl_joined.l0 k (((l.take i).map hxL).map B) l (l.length : Int) (i : Int)) (B (jn l)) := by
  induction d with
  | zero =>
    intro i hi
    have hlen : ∀ x ∈ l.map hxL, x.length ≤ 10 := by
      intro x hx
      obtain ⟨z, hz, rfl⟩ := List.mem_map.1 hx
      have := hxL_len z (hg z hz).1 (hg z hz).2
      omega
    refine Ev.step (f := fun _ => some _) (fun k => ?_) (Ev.now _)
    rw [impl_joined.l0, if_neg (by omega), List.take_of_length_le (by omega), Join_e 58 (l.map hxL) hlen (by rw [List.length_map]; omega), Option.bind_some]; rfl
  | succ d ih =>
    intro i hi
    have hlt : i < l.length := by omega
    have hr : rd l (i : Int) = l[i] := rd_get l i i _ rfl (List.getElem?_eq_getElem hlt)
    have hz := hg _ (List.getElem_mem hlt)
    have e1 : wrap64 ((i : Int) + 1) = ((i + 1 : Nat) : Int) := by rw [w64 (by omega) (by omega)]; omega
    refine Ev.step (fun k => by rw [impl_joined.l0, if_pos (by omega), if_pos (by omega), if_pos (by omega), hr]) (Ev.bind (hexI_ev _ hz.1 hz.2) ?_)
    refine Ev.ite_pos (by rw [List.length_map, List.length_map, List.length_take]; omega) ?_
    have e : ((l.take i).map hxL).map B ++ [B (hxL l[i])] = ((l.take (i + 1)).map hxL).map B := by rw [List.take_succ_eq_append_getElem hlt, List.map_append, List.map_append]; rfl
    rw [e1, e]
    exact ih (i + 1) (by omega)
theorem joined_ev (l : List Int) (hg : okG l) (hl : l.length ≤ 8) : Ev (fun k => impl_joined.f k l) (B (jn l)) := joined_l0 l hg hl l.length 0 (by omega)
theorem jn_len (l : List Int) (hg : okG l) (hl : l.length ≤ 8) : (jn l).length ≤ 100 := by
  have := join_len 58 4 (l.map hxL) (fun x hx => by
    obtain ⟨z, hz, rfl⟩ := List.mem_map.1 hx
    exact hxL_len z (hg z hz).1 (hg z hz).2)
  rw [List.length_map] at this
  unfold jn
  omega
/-! four bytes -/
def dL (m : Nat) : List UInt8 := (figB 10 2 m).data.toList
theorem dL_len (m : Nat) (h : m < 256) : (dL m).length ≤ 3 := by
  have := figB_size 10 (by decide) (by decide) 2 m (by omega)
  unfold dL
  rw [Array.length_toList]
  exact this
def byt (n j : Nat) : Nat := n / 2 ^ (8 * j) % 256
theorem byt_lt (n j : Nat) : byt n j < 256 := Nat.mod_lt _ (by decide)
theorem and8u (a : Nat) (h : a < 18446744073709551616) : Go.bits .and .u64 (a : Int) 255 = ((a % 256 : Nat) : Int) := by
  have := u64and a 255 h (by decide)
  rw [show ((255 : Nat) : Int) = 255 from rfl] at this
  rw [this, show (255 : Nat) = 2 ^ 8 - 1 from rfl, Nat.and_two_pow_sub_one_eq_mod]
theorem and8i (a : Nat) (h : a < 9223372036854775808) : Go.bits .and .i64 (a : Int) 255 = ((a % 256 : Nat) : Int) := by
  have := i64and a 255 h (by decide)
  rw [show ((255 : Nat) : Int) = 255 from rfl] at this
  rw [this, show (255 : Nat) = 2 ^ 8 - 1 from rfl, Nat.and_two_pow_sub_one_eq_mod]
theorem shr_nat (k : IntKind) (hk : k.bits = 64) (n j : Nat) (hj : j ≤ 8) (s : Int) (hs : s = 8 * (j : Int)) : shr k (n : Int) s = ((n / 2 ^ (8 * j) : Nat) : Int) := by
  subst hs
  unfold shr
  rw [hk, show (8 * (j : Int)).toNat = 8 * j by omega, Nat.min_eq_left (by omega)]
  simp
def fs (n : Nat) : Nat → List UInt8
  | 0 => []
  | j + 1 => dL (byt n j) ++ (if 0 < j then [46] else []) ++ fs n j
def ds (n : Nat) : Nat → List (List UInt8)
  | 0 => []
  | j + 1 => dL (byt n j) :: ds n j
theorem ds_len (n : Nat) : ∀ j, (ds n j).length = j
  | 0 => rfl
  | j + 1 => by rw [ds, List.length_cons, ds_len]
theorem ds_mem (n : Nat) : ∀ j, ∀ x ∈ ds n j, x.length ≤ 3
  | 0, x, h => by simp [ds] at h
  | j + 1, x, h => by
    rw [ds, List.mem_cons] at h
    rcases h with rfl | h
    · exact dL_len _ (byt_lt n j)
    · exact ds_mem n j x h
theorem fs_ds (n : Nat) : fs n 4 = Lib.join (ds n 4) [46] := by
  simp [fs, ds, Lib.join_cons, Lib.joinTail]
theorem spec_four (x : Bool) (h : Int) (n : Nat) (hn : n < 4294967296) (j : Nat) : ∀ acc : List UInt8, j ≤ 4 → acc.length + 10 * j ≤ 1000 → Ev (fun k => spec_AddrText.l0 k (B acc) ((j : Int) - 1) x h (n : Int)) (B (acc ++ fs n j)) := by
  induction j with
  | zero =>
    intro acc _ _
    refine Ev.step (f := fun _ => some _) (fun k => ?_) (Ev.now _)
    rw [spec_AddrText.l0, if_neg (by omega), fs, List.append_nil]
  | succ j ih =>
    intro acc hj hl
    have e1 : ((j + 1 : Nat) : Int) - 1 = (j : Int) := by omega
    have e2 : IntKind.u64.wrap (wrap64 (8 * (j : Int))) = 8 * (j : Int) := by rw [w64 (by omega) (by omega), u64in (by omega) (by omega)]
    have e3 : IntKind.u64.wrap ((n : Nat) : Int) = (n : Int) := u64in (by omega) (by omega)
    have hd : n / 2 ^ (8 * j) ≤ n := Nat.div_le_self _ _
    have e4 : Go.bits .and .u64 (shr .u64 (n : Int) (8 * (j : Int))) 255 = ((byt n j : Nat) : Int) := by
      rw [shr_nat .u64 rfl n j (by omega) _ rfl, and8u _ (by omega)]; rfl
    have e5 : wrap64 ((j : Int) - 1) = (j : Int) - 1 := w64 (by omega) (by omega)
    have hf : Ev (fun k => spec_l1Figures.f k ((byt n j : Nat) : Int) 10) (figB 10 2 (byt n j)) := fig_ev 10 (by decide) (by decide) 2 (byt n j) (by have := byt_lt n j; omega) (by have := byt_lt n j; omega) (by decide)
    have hdl := dL_len _ (byt_lt n j)
    have hB : figB 10 2 (byt n j) = B (dL (byt n j)) := (B_list _).symm
    rw [hB] at hf
    refine Ev.step (fun k => by rw [e1, spec_AddrText.l0, if_pos (by omega), e2, if_pos (by omega), e3, e4]) (Ev.bind hf ?_)
    refine Ev.ite_pos (by rw [B_size, B_size]; omega) ?_
    rw [e5, B_app, fs]
    by_cases hj0 : 0 < j
    · refine Ev.ite_pos (by omega) (Ev.ite_pos (by rw [B_size]; simp; omega) ?_)
      rw [show (⟨#[46]⟩ : ByteArray) = B [46] from rfl, B_app, if_pos hj0]
      have := ih (acc ++ dL (byt n j) ++ [46]) (by omega) (by simp; omega)
      simpa using this
    · refine Ev.ite_neg (by omega) ?_
      rw [if_neg hj0]
      have := ih (acc ++ dL (byt n j)) (by omega) (by simp; omega)
      simpa using this
theorem impl_four (x : Bool) (h : Int) (n : Nat) (hn : n < 4294967296) (j : Nat) : ∀ acc : List (List UInt8), j ≤ 4 → acc.length + j ≤ 50 → (∀ y ∈ acc, y.length ≤ 3) → Ev (fun k => impl_AddrText.l0 k (acc.map B) (8 * (j : Int) - 8) x h (n : Int)) (B (Lib.join (acc ++ ds n j) [46])) := by
  induction j with
  | zero =>
    intro acc _ hl hm
    refine Ev.step (f := fun _ => some _) (fun k => ?_) (Ev.now _)
    rw [impl_AddrText.l0, if_neg (by omega), Join_e 46 acc (fun y hy => by have := hm y hy; omega) (by omega), Option.bind_some, ds, List.append_nil]
  | succ j ih =>
    intro acc hj hl hm
    have e1 : 8 * ((j + 1 : Nat) : Int) - 8 = 8 * (j : Int) := by omega
    have hd : n / 2 ^ (8 * j) ≤ n := Nat.div_le_self _ _
    have e4 : Go.bits .and .i64 (shr .i64 (n : Int) (8 * (j : Int))) 255 = ((byt n j : Nat) : Int) := by
      rw [shr_nat .i64 rfl n j (by omega) _ rfl, and8i _ (by omega)]; rfl
    have e5 : wrap64 (8 * (j : Int) - 8) = 8 * (j : Int) - 8 := w64 (by omega) (by omega)
    have hf := dec_ev 2 (byt n j) (by have := byt_lt n j; omega) (by have := byt_lt n j; omega) (by decide)
    have hdl := dL_len _ (byt_lt n j)
    have hB : figB 10 2 (byt n j) = B (dL (byt n j)) := (B_list _).symm
    rw [hB] at hf
    refine Ev.step (fun k => by rw [e1, impl_AddrText.l0, if_pos (by omega), if_pos (by omega), e4]) (Ev.bind hf ?_)
    refine Ev.ite_pos (by rw [List.length_map]; omega) ?_
    rw [e5]
    have := ih (acc ++ [dL (byt n j)]) (by omega) (by simp; omega) (fun y hy => by
      rcases List.mem_append.1 hy with hy | hy
      · exact hm y hy
      · rw [List.mem_singleton] at hy; subst hy; exact hdl)
    rw [ds]
    simpa using this
/-- An address as text. -/
def textA (p : Bool × Int × Int) : List UInt8 :=
  if p.1 = true then
    (if (lz (glist p.2.1 p.2.2) 8 0 (0, 0)).2 < 2 then jn (glist p.2.1 p.2.2)
    else jn ((glist p.2.1 p.2.2).take (lz (glist p.2.1 p.2.2) 8 0 (0, 0)).1) ++ [58, 58] ++ jn ((glist p.2.1 p.2.2).drop ((lz (glist p.2.1 p.2.2) 8 0 (0, 0)).1 + (lz (glist p.2.1 p.2.2) 8 0 (0, 0)).2)))
  else fs p.2.2.toNat 4
theorem okG_sub {l m : List Int} (h : okG l) (hs : ∀ z ∈ m, z ∈ l) : okG m := fun z hz => h z (hs z hz)
theorem spec_AddrText_ev (x : Bool) (h l : Int) (hh : in64 h) (hl : in64 l) : Ev (fun k => spec_AddrText.f k x h l) (B (textA (rightA x h l))) := by
  refine Ev.val (spec_l1Addr_e x h l) ?_
  have hr := rightA_right x h l hh hl
  generalize rightA x h l = p at hr ⊢
  obtain ⟨p0, p1, p2⟩ := p
  cases p0 with
  | true =>
    refine Ev.ite_pos rfl ?_
    simp only
    refine spec_l1 true p1 p2 _ 8 0 (8, 1) rfl (by decide) ?_
    have hgl := glist_len p1 p2
    have hrel := lz_rel (glist p1 p2) 8 0 (0, 0) (8, 1) (Or.inl ⟨by decide, rfl⟩)
    have hin := lz_in (glist p1 p2) hgl 8 0 (0, 0) (by decide) (by decide)
    unfold textA
    simp only [if_true]
    rcases hrel with ⟨h1, h2⟩ | ⟨h1, h2⟩
    · rw [h2, if_pos (by omega)]
      have := spec_l3 true p1 p2 8 1 (by decide) (by decide) (by decide) 9 0 [] (by decide) (by decide) (by decide)
      rw [seg_none _ hgl] at this
      exact this
    · rw [← h1, if_neg (by omega)]
      generalize lz (glist p1 p2) 8 0 (0, 0) = s at h2 hin
      have := spec_l3 true p1 p2 s.1 s.2 (by omega) (by omega) (by omega) 9 0 [] (by decide) (by decide) (by decide)
      rw [seg_all _ hgl s.1 s.2 (by omega) hin] at this
      exact this
  | false =>
    refine Ev.ite_neg (by simp) ?_
    obtain ⟨rfl, h1, h2⟩ := hr.four rfl
    simp only at h1 h2
    obtain ⟨n, rfl⟩ := Int.eq_ofNat_of_zero_le h1
    exact spec_four false 0 n (by omega) 4 [] (by decide) (by decide)
theorem impl_AddrText_ev (x : Bool) (h l : Int) (hh : in64 h) (hl : in64 l) : Ev (fun k => impl_AddrText.f k x h l) (B (textA (rightA x h l))) := by
  refine Ev.val (impl_right_e x h l) ?_
  have hr := rightA_right x h l hh hl
  generalize rightA x h l = p at hr ⊢
  obtain ⟨p0, p1, p2⟩ := p
  cases p0 with
  | true =>
    have hgl := glist_len p1 p2
    have hok := glist_ok p1 p2
    have hin := lz_in (glist p1 p2) hgl 8 0 (0, 0) (by decide) (by decide)
    refine Ev.ite_pos rfl (Ev.bind (groupsOf_ev true p1 p2) (Ev.bind (longest_ev _ hgl) ?_))
    unfold textA
    simp only [if_true]
    generalize lz (glist p1 p2) 8 0 (0, 0) = s at hin
    by_cases hs : s.2 < 2
    · rw [if_pos hs]
      exact Ev.ite_pos (by omega) (Ev.bind (joined_ev _ hok (by omega)) (Ev.now _))
    · rw [if_neg hs]
      have hok1 : okG ((glist p1 p2).take s.1) := okG_sub hok (fun z hz => List.mem_of_mem_take hz)
      have hok2 : okG ((glist p1 p2).drop (s.1 + s.2)) := okG_sub hok (fun z hz => List.mem_of_mem_drop hz)
      have e1 : wrap64 ((s.1 : Int) + (s.2 : Int)) = ((s.1 + s.2 : Nat) : Int) := by rw [w64 (by omega) (by omega)]; omega
      have j1 := joined_ev _ hok1 (by simp; omega)
      have j2 := joined_ev _ hok2 (by simp; omega)
      have l1 := jn_len _ hok1 (by simp; omega)
      have l2 := jn_len _ hok2 (by simp; omega)
      refine Ev.ite_neg (by omega) (Ev.ite_pos (by omega) (Ev.ite_pos (by omega) ?_))
      rw [Int.toNat_natCast, e1, Int.toNat_natCast]
      refine Ev.bind j1 (Ev.ite_pos (by rw [B_size]; omega) (Ev.ite_pos (by omega) (Ev.ite_pos (by omega) (Ev.bind j2 ?_))))
      rw [show (⟨#[58, 58]⟩ : ByteArray) = B [58, 58] from rfl, B_app]
      refine Ev.ite_pos (by rw [B_size, B_size]; simp; omega) ?_
      rw [B_app]
      exact Ev.now _
  | false =>
    refine Ev.ite_neg (by simp) ?_
    obtain ⟨rfl, h1, h2⟩ := hr.four rfl
    simp only at h1 h2
    obtain ⟨n, rfl⟩ := Int.eq_ofNat_of_zero_le h1
    have := impl_four false 0 n (by omega) 4 [] (by decide) (by decide) (by simp)
    unfold textA
    simp only [Bool.false_eq_true, if_false, Int.toNat_natCast]
    rw [fs_ds]
    exact this

theorem fs_len (n : Nat) : ∀ j, (fs n j).length ≤ 4 * j
  | 0 => by simp [fs]
  | j + 1 => by
    have h1 := fs_len n j
    have h2 := dL_len _ (byt_lt n j)
    rw [fs, List.length_append, List.length_append]
    have h3 : (if 0 < j then ([46] : List UInt8) else []).length ≤ 1 := by split <;> simp
    omega
theorem textA_len (p : Bool × Int × Int) : (textA p).length ≤ 210 := by
  unfold textA
  have hok := glist_ok p.2.1 p.2.2
  have hgl := glist_len p.2.1 p.2.2
  split
  · split
    · have := jn_len _ hok (by omega); omega
    · generalize lz (glist p.2.1 p.2.2) 8 0 (0, 0) = s
      have l1 := jn_len ((glist p.2.1 p.2.2).take s.1) (okG_sub hok (fun z hz => List.mem_of_mem_take hz)) (by simp; omega)
      have l2 := jn_len ((glist p.2.1 p.2.2).drop (s.1 + s.2)) (okG_sub hok (fun z hz => List.mem_of_mem_drop hz)) (by simp; omega)
      simp only [List.length_append, List.length_cons, List.length_nil]
      omega
  · have := fs_len p.2.2.toNat 4; omega
def prefT (x : Bool) (h l b : Int) : List UInt8 := if prefOk x h l b = true then textA (rightA x h l) ++ [47] ++ dL b.toNat else []
theorem prefOk_b2 {x : Bool} {h l b : Int} (hp : prefOk x h l b = true) : addrOk x h l = true ∧ 0 ≤ b ∧ b ≤ 128 ∧ True := by
  unfold prefOk at hp
  simp only [Bool.and_eq_true, decide_eq_true_eq] at hp
  refine ⟨hp.1.1, hp.1.2.1, ?_, trivial⟩
  have := hp.1.2.2
  split at this <;> omega
theorem bits_fig {x : Bool} {h l b : Int} (hp : prefOk x h l b = true) : ∃ n : Nat, b = n ∧ n ≤ 128 := by
  obtain ⟨_, h0, h1, _⟩ := prefOk_b2 hp
  obtain ⟨n, rfl⟩ := Int.eq_ofNat_of_zero_le h0
  exact ⟨n, rfl, by omega⟩
theorem spec_PrefixText_ev (x : Bool) (h l b : Int) (hh : in64 h) (hl : in64 l) : Ev (fun k => spec_PrefixText.f k x h l b) (B (prefT x h l b)) := by
  refine Ev.val (spec_PrefixOk_e x h l b) ?_
  unfold prefT
  by_cases hp : prefOk x h l b = true
  · rw [if_pos hp]
    obtain ⟨n, rfl, hn⟩ := bits_fig hp
    have ht := textA_len (rightA x h l)
    have hf : Ev (fun k => spec_l1Figures.f k (n : Int) 10) (figB 10 2 n) := fig_ev 10 (by decide) (by decide) 2 n (by omega) (by omega) (by decide)
    have hB : figB 10 2 n = B (dL n) := (B_list _).symm
    have hd := dL_len n (by omega)
    rw [hB] at hf
    refine Ev.ite_pos hp (Ev.bind (spec_AddrText_ev x h l hh hl) (Ev.ite_pos (by rw [B_size]; omega) ?_))
    rw [u64in (by omega) (by omega), Int.toNat_natCast]
    refine Ev.bind hf ?_
    rw [show (⟨#[47]⟩ : ByteArray) = B [47] from rfl, B_app]
    refine Ev.ite_pos (by rw [B_size, B_size]; simp; omega) ?_
    rw [B_app]
    exact Ev.now _
  · rw [if_neg hp]
    exact Ev.ite_neg hp (Ev.now _)
theorem impl_PrefixText_ev (x : Bool) (h l b : Int) (hh : in64 h) (hl : in64 l) : Ev (fun k => impl_PrefixText.f k x h l b) (B (prefT x h l b)) := by
  refine Ev.val (impl_PrefixOk_e x h l b) ?_
  unfold prefT
  by_cases hp : prefOk x h l b = true
  · rw [if_pos hp]
    obtain ⟨n, rfl, hn⟩ := bits_fig hp
    have ht := textA_len (rightA x h l)
    have hf := dec_ev 2 n (by omega) (by omega) (by decide)
    have hB : figB 10 2 n = B (dL n) := (B_list _).symm
    have hd := dL_len n (by omega)
    rw [hB] at hf
    refine Ev.ite_pos hp (Ev.bind (impl_AddrText_ev x h l hh hl) (Ev.ite_pos (by rw [B_size]; omega) ?_))
    rw [Int.toNat_natCast]
    refine Ev.bind hf ?_
    rw [show (⟨#[47]⟩ : ByteArray) = B [47] from rfl, B_app]
    refine Ev.ite_pos (by rw [B_size, B_size]; simp; omega) ?_
    rw [B_app]
    exact Ev.now _
  · rw [if_neg hp]
    exact Ev.ite_neg hp (Ev.now _)

theorem FnExactPrefixText (x : Bool) (h l b : Int) (hh : (Lit.int .i64 h).wf = true) (hl : (Lit.int .i64 l).wf = true) (_ : (Lit.int .i64 b).wf = true) : ∃ k, laws_FnExactPrefixText.f k x h l b = some true := by
  refine Ev.rounds ?_
  refine Ev.val (a := (x, h, l, b)) rfl (Ev.bind (spec_PrefixText_ev x h l b (wf_in hh) (wf_in hl)) (Ev.val (a := (x, h, l, b)) rfl (Ev.bind (impl_PrefixText_ev x h l b (wf_in hh) (wf_in hl)) ?_)))
  exact Ev.ite_pos rfl (Ev.now true)

end Go.Proofs.Ythakdhdoeejkmaa.Pure
