/-
The pure part of the statement FnFirstAddr: what the printed functions answer is true at every input.
Conditions: none but the kinds' own bounds, as the printed statement has them.
-/
import Derived.Test.YthakdhdoeejkmaaQFnFirstAddrx0
import Derived.Test.YthakdhdoeejkmaaQFnFirstAddrx1
import Derived.Test.YthakdhdoeejkmaaQFnFirstAddrx2
import Derived.Test.YthakdhdoeejkmaaQFnFirstAddrx3
import Derived.Test.YthakdhdoeejkmaaQFnFirstAddrx4
import Derived.Test.YthakdhdoeejkmaaQFnFirstAddrx5
import Derived.Test.YthakdhdoeejkmaaQFnFirstAddrx6
import Derived.Test.YthakdhdoeejkmaaQFnFirstAddrx7
import Derived.Test.YthakdhdoeejkmaaQFnFirstAddrx8
import Derived.Test.YthakdhdoeejkmaaQFnFirstAddrx9
import Derived.Test.YthakdhdoeejkmaaQFnFirstAddrx10
import Derived.Test.YthakdhdoeejkmaaQFnFirstAddrx11
import Derived.Test.YthakdhdoeejkmaaQFnFirstAddrx12
import Derived.Test.YthakdhdoeejkmaaQFnFirstAddrx13
import Derived.Test.YthakdhdoeejkmaaQFnFirstAddrx14
import Derived.Test.YthakdhdoeejkmaaQFnFirstAddrx15
namespace Go.Proofs.Ythakdhdoeejkmaa.Pure
open Go.RowKit Go.Proofs.Ythakdhdoeejkmaa.QFnFirstAddr Go.Proofs.YthakdhdoeejkmaaW.PrintWords Go.Proofs.YthakdhdoeejkmaaW.PrintLast Go.Proofs.YthakdhdoeejkmaaW.PrintMore
set_option linter.unusedVariables false
set_option linter.unusedSimpArgs false

theorem wf8 {x : Int} (h : (Lit.int .u8 x).wf = true) : 0 ≤ x ∧ x ≤ 255 := by
 simpa [Lit.wf, IntKind.min, IntKind.max, IntKind.signed, IntKind.bits] using h
theorem w64 {x : Int} (h0 : -9223372036854775808 ≤ x) (h1 : x ≤ 9223372036854775807) : wrap64 x = x := by unfold wrap64; omega
theorem u64w (n : Int) : IntKind.u64.wrap n = n % 18446744073709551616 := by simp [IntKind.wrap, IntKind.bits, IntKind.signed]
theorem u64in {x : Int} (h0 : 0 ≤ x) (h1 : x < 18446744073709551616) : IntKind.u64.wrap x = x := by rw [u64w]; omega
theorem rd_get (xs : List Int) (i : Int) (j : Nat) (x : Int) (hi : i = j) (h : xs[j]? = some x) : rd xs i = x := by
 subst hi
 simp [rd, List.getD, h]
theorem Ev.mid {α : Type} {g : Nat → Option α} {a b : α} (h : a = b) (e : Ev g a) : Ev g b := h ▸ e
theorem Ev.ite_pos {α : Type} {c : Prop} [Decidable c] {g f : Nat → Option α} {r : α} (hc : c) (h : Ev g r) : Ev (fun k => if c then g k else f k) r := by
 simp only [if_pos hc]
 exact h
theorem Ev.ite_neg {α : Type} {c : Prop} [Decidable c] {g f : Nat → Option α} {r : α} (hc : ¬ c) (h : Ev f r) : Ev (fun k => if c then g k else f k) r := by
 simp only [if_neg hc]
 exact h
/-- A part that has no rounds. -/
theorem Ev.val {α β : Type} {o : Option α} {f : Nat → α → Option β} {a : α} {r : β} (h : o = some a) (k : Ev (fun n => f n a) r) : Ev (fun n => o.bind (f n)) r := by
 subst h
 exact k

theorem l1In_e (a b c : Int) : spec_l1In.f a b c = some (decide (b ≤ a ∧ a ≤ c)) := by
 unfold spec_l1In.f
 by_cases h : a ≥ b
 ·simp [if_pos h, h]
 ·simp [if_neg h]; omega
theorem from_e (a b c : Int) : impl_from.f a b c = some (decide (b ≤ a ∧ a ≤ c)) := by
 unfold impl_from.f
 by_cases h : a ≥ b
 ·simp [if_pos h, h]
 ·simp [if_neg h]; omega
/-- An address is right. -/
def addrOk (x : Bool) (h l : Int) : Bool := x || (decide (h = 0) && decide (0 ≤ l ∧ l ≤ 4294967295))
theorem spec_AddrOk_e (x : Bool) (h l : Int) : spec_AddrOk.f x h l = some (addrOk x h l) := by
 unfold spec_AddrOk.f addrOk
 cases x
 ·by_cases hh : h = 0
  ·simp [hh, l1In_e]
  ·simp [hh]
 ·rfl
theorem impl_AddrOk_e (x : Bool) (h l : Int) : impl_AddrOk.f x h l = some (addrOk x h l) := by
 unfold impl_AddrOk.f addrOk
 cases x
 ·by_cases hh : h = 0
  ·simp [hh, from_e]
  ·simp [hh]
 ·rfl

theorem high_tab (n : Nat) (h : n ≤ 64) : 18446744073709551615 / 2 ^ n = 2 ^ (64 - n) - 1 ∧ (18446744073709551615 * 2 ^ n) % 18446744073709551616 = 18446744073709551616 - 2 ^ n := by
 have t : ∀ n : Fin 65, 18446744073709551615 / 2 ^ n.1 = 2 ^ (64 - n.1) - 1 ∧ (18446744073709551615 * 2 ^ n.1) % 18446744073709551616 = 18446744073709551616 - 2 ^ n.1 := by decide +kernel
 exact t ⟨n, by omega⟩
theorem four_tab (n : Nat) (h : n ≤ 32) : 4294967295 / 2 ^ n = 2 ^ (32 - n) - 1 ∧ (18446744073709551616 - 2 ^ (64 - n)) / 4294967296 = 4294967296 - 2 ^ (32 - n) := by
 have t : ∀ n : Fin 33, 4294967295 / 2 ^ n.1 = 2 ^ (32 - n.1) - 1 ∧ (18446744073709551616 - 2 ^ (64 - n.1)) / 4294967296 = 4294967296 - 2 ^ (32 - n.1) := by decide +kernel
 exact t ⟨n, by omega⟩
theorem pow_le64 (k : Nat) (h : k ≤ 64) : 1 ≤ 2 ^ k ∧ 2 ^ k ≤ 18446744073709551616 := ⟨Nat.one_le_two_pow, Nat.le_trans (Nat.pow_le_pow_right (by decide) h) (by decide)⟩
theorem pow_le32 (k : Nat) (h : k ≤ 32) : 1 ≤ 2 ^ k ∧ 2 ^ k ≤ 4294967296 := ⟨Nat.one_le_two_pow, Nat.le_trans (Nat.pow_le_pow_right (by decide) h) (by decide)⟩
/-- The bits from k on. -/
theorem nat_and_high (a k w : Nat) (hk : k ≤ w) (ha : a < 2 ^ w) : a &&& (2 ^ w - 2 ^ k) = a - a % 2 ^ k := by
 have e1 : 2 ^ w - 2 ^ k = 2 ^ k * (2 ^ (w - k) - 1) := by
  rw [Nat.mul_sub, ← Nat.pow_add, Nat.add_sub_cancel' hk, Nat.mul_one]
 have e2 : a - a % 2 ^ k = 2 ^ k * (a / 2 ^ k) := by
  have := Nat.div_add_mod a (2 ^ k)
  omega
 rw [e1, e2]
 apply Nat.eq_of_testBit_eq
 intro i
 rw [Nat.testBit_and, Nat.testBit_two_pow_mul, Nat.testBit_two_pow_mul, Nat.testBit_two_pow_sub_one, Nat.testBit_div_two_pow]
 by_cases hi : k ≤ i
 ·by_cases hw : i < w
  ·simp [hi, Nat.sub_add_cancel hi, show i - k < w - k by omega]
  ·have : a.testBit i = false := Nat.testBit_lt_two_pow (Nat.lt_of_lt_of_le ha (Nat.pow_le_pow_right (by decide) (by omega)))
   simp [hi, Nat.sub_add_cancel hi, this]
 ·simp [hi]
theorem u64and (a b : Nat) (ha : a < 18446744073709551616) (hb : b < 18446744073709551616) : Go.bits .and .u64 (a : Int) (b : Int) = ((a &&& b : Nat) : Int) :=
 (Go.bits_nat .u64 64 (by decide) (fun n h0 h1 => by rw [u64w]; omega) a b ha hb).1
theorem i64w (n : Int) : IntKind.i64.wrap n = wrap64 n := IntWalk.i64_left n
theorem i64and (a b : Nat) (ha : a < 9223372036854775808) (hb : b < 9223372036854775808) : Go.bits .and .i64 (a : Int) (b : Int) = ((a &&& b : Nat) : Int) :=
 (Go.bits_nat .i64 63 (by decide) (fun n h0 h1 => by rw [i64w]; exact w64 (by omega) (by omega)) a b ha hb).1
theorem u64andNot (a b : Nat) (ha : a < 18446744073709551616) (hb : b < 18446744073709551616) : Go.bits .andNot .u64 (a : Int) (b : Int) = ((a &&& (18446744073709551615 - b) : Nat) : Int) := by
 have ha' : a % 2 ^ 64 = a := Nat.mod_eq_of_lt ha
 have hb' : b % 2 ^ 64 = b := Nat.mod_eq_of_lt hb
 have e : IntKind.u64.bits = 64 := rfl
 simp only [Go.bits, e, BitVec.ofInt_natCast, BitVec.toNat_and, BitVec.toNat_not, BitVec.toNat_ofNat, ha', hb']
 have h : a &&& (2 ^ 64 - 1 - b) < 2 ^ 64 := Nat.lt_of_le_of_lt Nat.and_le_left ha
 rw [u64w]
 have e2 : (2 : Nat) ^ 64 - 1 - b = 18446744073709551615 - b := rfl
 rw [e2] at h ⊢
 omega
theorem and_high (u : Int) (k : Nat) (hk : k ≤ 64) (h0 : 0 ≤ u) (h1 : u < 18446744073709551616) (m : Int) (hm : m = ((18446744073709551616 - 2 ^ k : Nat) : Int)) : Go.bits .and .u64 u m = u - u % 2 ^ k := by
 obtain ⟨a, rfl⟩ := Int.eq_ofNat_of_zero_le h0
 have hp := pow_le64 k hk
 rw [hm, u64and a _ (by omega) (by omega)]
 have e := nat_and_high a k 64 hk (by omega)
 have e64 : (2 : Nat) ^ 64 = 18446744073709551616 := rfl
 rw [e64] at e
 rw [e]
 have hle : a % 2 ^ k ≤ a := Nat.mod_le _ _
 rw [Int.natCast_sub hle, Int.natCast_emod, Int.natCast_pow]
 rfl
theorem andNot_low (u : Int) (k : Nat) (hk : k ≤ 64) (h0 : 0 ≤ u) (h1 : u < 18446744073709551616) (m : Int) (hm : m = ((2 ^ k - 1 : Nat) : Int)) : Go.bits .andNot .u64 u m = u - u % 2 ^ k := by
 have hp := pow_le64 k hk
 obtain ⟨a, rfl⟩ := Int.eq_ofNat_of_zero_le h0
 have e : Go.bits .andNot .u64 (a : Int) m = Go.bits .and .u64 (a : Int) ((18446744073709551616 - 2 ^ k : Nat) : Int) := by
  rw [hm, u64andNot a _ (by omega) (by omega), u64and a _ (by omega) (by omega)]
  congr 2
  omega
 rw [e]
 exact and_high _ k hk h0 h1 _ rfl
theorem and_four (u : Int) (k : Nat) (hk : k ≤ 32) (h0 : 0 ≤ u) (h1 : u < 4294967296) (m : Int) (hm : m = ((4294967296 - 2 ^ k : Nat) : Int)) : Go.bits .and .i64 u m = u - u % 2 ^ k := by
 obtain ⟨a, rfl⟩ := Int.eq_ofNat_of_zero_le h0
 have hp := pow_le32 k hk
 rw [hm, i64and a _ (by omega) (by omega)]
 have e := nat_and_high a k 32 hk (by omega)
 have e32 : (2 : Nat) ^ 32 = 4294967296 := rfl
 rw [e32] at e
 rw [e]
 have hle : a % 2 ^ k ≤ a := Nat.mod_le _ _
 rw [Int.natCast_sub hle, Int.natCast_emod, Int.natCast_pow]
 rfl
/-- How many bits behind the first b are in the upper, the lower half; of 32. -/
def kHi (b : Int) : Nat := min 64 (64 - b).toNat
def kLo (b : Int) : Nat := min 64 (128 - b).toNat
def kFo (b : Int) : Nat := (32 - b).toNat
def keep (u : Int) (k : Nat) : Int := u - u % 2 ^ k
theorem keep_mul (u : Int) (k : Nat) : keep u k = 2 ^ k * (u / 2 ^ k) := by
 have := Int.emod_add_mul_ediv u (2 ^ k)
 unfold keep
 omega
theorem keep_bd (u : Int) (k : Nat) (h : 0 ≤ u) : 0 ≤ keep u k ∧ keep u k ≤ u ∧ u < keep u k + 2 ^ k := by
 have hk2 : (0 : Int) < 2 ^ k := Int.pow_pos (by decide)
 have h1 := Int.emod_nonneg u (show (2 : Int) ^ k ≠ 0 by omega)
 have h2 := Int.emod_lt_of_pos u hk2
 have h3 : 0 ≤ u / 2 ^ k := Int.ediv_nonneg h (by omega)
 have h4 : 0 ≤ 2 ^ k * (u / 2 ^ k) := Int.mul_nonneg (by omega) h3
 have h5 := keep_mul u k
 unfold keep at h5 ⊢
 omega
def maskA (x : Bool) (h l b : Int) : Bool × Int × Int :=
 if x = true then (true, wrap64 (keep (h % 18446744073709551616) (kHi b)), wrap64 (keep (l % 18446744073709551616) (kLo b))) else (false, 0, keep l (kFo b))
theorem spec_l2High_e (c : Int) (h0 : -64 ≤ c) (h1 : c ≤ 128) : spec_l2High.f c = some ((18446744073709551616 - 2 ^ (min 64 (64 - c).toNat) : Nat) : Int) := by
 unfold spec_l2High.f
 by_cases h : c ≤ 0
 ·rw [if_pos h, Nat.min_eq_left (by omega)]; rfl
 ·rw [if_neg h]
  by_cases h2 : c ≥ 64
  ·rw [if_pos h2, show (64 - c).toNat = 0 by omega]; rfl
  ·have e := (high_tab (64 - c).toNat (by omega)).2
   have hb : IntKind.u64.bits = 64 := rfl
   rw [if_neg h2, w64 (by omega) (by omega), u64in (by omega) (by omega), if_pos (by omega), shl, u64w, hb, Nat.min_eq_left (show (64 - c).toNat ≤ 64 by omega), Nat.min_eq_right (by omega), ← e]
   simp
theorem spec_l2Mask_e (x : Bool) (h l b : Int) (hb0 : 0 ≤ b) (hb1 : b ≤ if x = true then 128 else 32) (hf : x = false → 0 ≤ l ∧ l < 4294967296) : spec_l2Mask.f x h l b = some (maskA x h l b) := by
 unfold spec_l2Mask.f maskA
 cases x
 ·simp only [Bool.false_eq_true, if_false] at hb1 ⊢
  obtain ⟨hl0, hl1⟩ := hf rfl
  have e := (four_tab b.toNat (by omega)).2
  have hp := pow_le32 (32 - b.toNat) (by omega)
  rw [spec_l2High_e b (by omega) (by omega)]
  simp only [Option.bind_some]
  rw [show min 64 (64 - b).toNat = 64 - b.toNat by omega]
  have hw : wrap64 (((18446744073709551616 - 2 ^ (64 - b.toNat) : Nat) : Int) / 4294967296) = ((4294967296 - 2 ^ (32 - b.toNat) : Nat) : Int) := by
   rw [show (((18446744073709551616 - 2 ^ (64 - b.toNat) : Nat) : Int) / 4294967296) = (((18446744073709551616 - 2 ^ (64 - b.toNat)) / 4294967296 : Nat) : Int) from rfl, e]
   exact w64 (by omega) (by omega)
  rw [hw, and_four l (32 - b.toNat) (by omega) hl0 hl1 _ rfl]
  unfold keep kFo
  rw [show 32 - b.toNat = (32 - b).toNat by omega]
 ·simp only [if_true] at hb1 ⊢
  rw [spec_l2High_e b (by omega) (by omega), w64 (by omega) (by omega), spec_l2High_e (b - 64) (by omega) (by omega)]
  simp only [Option.bind_some]
  rw [u64w, u64w, and_high _ (min 64 (64 - b).toNat) (by omega) (by omega) (by omega) _ rfl, and_high _ (min 64 (64 - (b - 64)).toNat) (by omega) (by omega) (by omega) _ rfl]
  unfold keep kHi kLo
  rw [show (64 - (b - 64)).toNat = (128 - b).toNat by omega]
theorem spec_l2Width_e (x : Bool) (h l : Int) : spec_l2Width.f x h l = some (if x = true then 128 else 32) := by
 unfold spec_l2Width.f
 cases x <;> rfl
theorem impl_masked_e (x : Bool) (h l b : Int) (hb0 : 0 ≤ b) (hb1 : b ≤ if x = true then 128 else 32) (hf : x = false → 0 ≤ l ∧ l < 4294967296) : impl_masked.f x h l b false = some (maskA x h l b) := by
 unfold impl_masked.f maskA
 have hbits : IntKind.u64.bits = 64 := rfl
 cases x
 ·simp only [Bool.false_eq_true, if_false] at hb1 ⊢
  obtain ⟨hl0, hl1⟩ := hf rfl
  have e := (four_tab b.toNat (by omega)).1
  have hp := pow_le32 (32 - b.toNat) (by omega)
  have hs : shr .u64 4294967295 b = ((2 ^ (32 - b.toNat) - 1 : Nat) : Int) := by
   unfold shr
   rw [hbits, Nat.min_eq_left (show b.toNat ≤ 64 by omega), ← e]
   simp
  rw [if_pos hb0, hs, u64in hl0 (by omega), andNot_low l (32 - b.toNat) (by omega) hl0 (by omega) _ rfl]
  have hb := keep_bd l (32 - b.toNat) hl0
  unfold keep at hb
  rw [w64 (by omega) (by omega)]
  unfold keep kFo
  rw [show 32 - b.toNat = (32 - b).toNat by omega]
 ·simp only [if_true, Bool.false_eq_true, if_false] at hb1 ⊢
  by_cases h64 : b < 64
  ·have e := (high_tab b.toNat (by omega)).1
   have hs : shr .u64 18446744073709551615 b = ((2 ^ (64 - b.toNat) - 1 : Nat) : Int) := by
    unfold shr
    rw [hbits, Nat.min_eq_left (show b.toNat ≤ 64 by omega), ← e]
    simp
   rw [if_pos h64, if_pos hb0, hs, u64w, u64w, andNot_low _ (64 - b.toNat) (by omega) (by omega) (by omega) _ rfl, andNot_low _ 64 (by omega) (by omega) (by omega) 18446744073709551615 (by decide)]
   unfold keep kHi kLo
   rw [show min 64 (64 - b).toNat = 64 - b.toNat by omega, show min 64 (128 - b).toNat = 64 by omega]
  ·have e := (high_tab (b - 64).toNat (by omega)).1
   have hs : shr .u64 18446744073709551615 (b - 64) = ((2 ^ (64 - (b - 64).toNat) - 1 : Nat) : Int) := by
    unfold shr
    rw [hbits, Nat.min_eq_left (show (b - 64).toNat ≤ 64 by omega), ← e]
    simp
   rw [if_neg h64, w64 (x := b - 64) (by omega) (by omega), if_pos (by omega), hs, u64w, u64w, andNot_low _ 0 (by omega) (by omega) (by omega) 0 (by decide), andNot_low _ (64 - (b - 64).toNat) (by omega) (by omega) (by omega) _ rfl]
   unfold keep kHi kLo
   rw [show min 64 (64 - b).toNat = 0 by omega, show min 64 (128 - b).toNat = 64 - (b - 64).toNat by omega]
theorem impl_width_e (x : Bool) (h l : Int) : impl_width.f x h l = some (if x = true then 128 else 32) := by
 unfold impl_width.f
 cases x <;> rfl
/-- A prefix is right. -/
def prefOk (x : Bool) (h l b : Int) : Bool := addrOk x h l && decide (0 ≤ b ∧ b ≤ if x = true then 128 else 32) && (maskA x h l b == (x, h, l))
theorem addrOk_four {x : Bool} {h l : Int} (hk : addrOk x h l = true) : x = false → h = 0 ∧ 0 ≤ l ∧ l < 4294967296 := by
 intro hx
 subst hx
 simp [addrOk] at hk
 omega
theorem eq3 (p : Bool × Int × Int) (x : Bool) (h l : Int) : (p.1 == x && (p.2.1 == h && (p.2.2 == l))) = (p == (x, h, l)) := by
 obtain ⟨a, b, c⟩ := p
 rfl
theorem spec_PrefixOk_e (x : Bool) (h l b : Int) : spec_PrefixOk.f x h l b = some (prefOk x h l b) := by
 unfold spec_PrefixOk.f prefOk
 rw [spec_AddrOk_e]
 simp only [Option.bind_some]
 by_cases ha : addrOk x h l = true
 ·rw [if_pos ha, ha, spec_l2Width_e]
  simp only [Option.bind_some, l1In_e, decide_eq_true_eq]
  by_cases hb : 0 ≤ b ∧ b ≤ if x = true then 128 else 32
  ·rw [if_pos hb, decide_eq_true hb, spec_l2Mask_e x h l b hb.1 hb.2 (fun hx => (addrOk_four ha hx).2)]
   simp only [Option.bind_some, eq3, Bool.true_and]
  ·rw [if_neg hb, decide_eq_false hb]; simp
 ·rw [if_neg ha, Bool.eq_false_iff.mpr ha]; simp
theorem impl_PrefixOk_e (x : Bool) (h l b : Int) : impl_PrefixOk.f x h l b = some (prefOk x h l b) := by
 unfold impl_PrefixOk.f prefOk
 rw [impl_AddrOk_e]
 simp only [Option.bind_some]
 by_cases ha : addrOk x h l = true
 ·rw [if_pos ha, ha, impl_width_e]
  simp only [Option.bind_some, from_e, decide_eq_true_eq]
  by_cases hb : 0 ≤ b ∧ b ≤ if x = true then 128 else 32
  ·rw [if_pos hb, decide_eq_true hb, impl_masked_e x h l b hb.1 hb.2 (fun hx => (addrOk_four ha hx).2)]
   simp only [Option.bind_some, eq3, Bool.true_and]
  ·rw [if_neg hb, decide_eq_false hb]; simp
 ·rw [if_neg ha, Bool.eq_false_iff.mpr ha]; simp

/-- A prefix has an address. -/
def hasA (x : Bool) (h l b : Int) (y : Bool) (g m : Int) : Bool := prefOk x h l b && (addrOk y g m && ((y == x) && (maskA y g m b == (x, h, l))))
theorem prefOk_bits {x : Bool} {h l b : Int} (hp : prefOk x h l b = true) : addrOk x h l = true ∧ 0 ≤ b ∧ (b ≤ if x = true then 128 else 32) ∧ maskA x h l b = (x, h, l) := by
 simp only [prefOk, Bool.and_eq_true, decide_eq_true_eq, beq_iff_eq] at hp
 exact ⟨hp.1.1, hp.1.2.1, hp.1.2.2, hp.2⟩
theorem spec_HasAddr_e (x : Bool) (h l b : Int) (y : Bool) (g m : Int) : spec_HasAddr.f x h l b y g m = some (hasA x h l b y g m) := by
 unfold spec_HasAddr.f hasA
 rw [spec_PrefixOk_e]
 simp only [Option.bind_some]
 by_cases hp : prefOk x h l b = true
 ·obtain ⟨_, hb0, hb1, _⟩ := prefOk_bits hp
  rw [if_pos hp, hp, spec_AddrOk_e]
  simp only [Option.bind_some]
  by_cases ha : addrOk y g m = true
  ·rw [if_pos ha, ha]
   by_cases hy : (y == x) = true
   ·have hyx : y = x := by simpa using hy
    rw [if_pos hy, hy, spec_l2Mask_e y g m b hb0 (by rw [hyx]; exact hb1) (fun hx => (addrOk_four ha hx).2)]
    simp only [Option.bind_some, eq3, Bool.true_and]
   ·rw [if_neg hy, Bool.eq_false_iff.mpr hy]; simp
  ·rw [if_neg ha, Bool.eq_false_iff.mpr ha]; simp
 ·rw [if_neg hp, Bool.eq_false_iff.mpr hp]; simp
theorem impl_HasAddr_e (x : Bool) (h l b : Int) (y : Bool) (g m : Int) : impl_HasAddr.f x h l b y g m = some (hasA x h l b y g m) := by
 unfold impl_HasAddr.f hasA
 rw [impl_PrefixOk_e]
 simp only [Option.bind_some]
 by_cases hp : prefOk x h l b = true
 ·obtain ⟨_, hb0, hb1, _⟩ := prefOk_bits hp
  rw [if_pos hp, hp, impl_AddrOk_e]
  simp only [Option.bind_some]
  by_cases ha : addrOk y g m = true
  ·rw [if_pos ha, ha]
   by_cases hy : (y == x) = true
   ·have hyx : y = x := by simpa using hy
    rw [if_pos hy, hy, impl_masked_e y g m b hb0 (by rw [hyx]; exact hb1) (fun hx => (addrOk_four ha hx).2)]
    simp only [Option.bind_some, eq3, Bool.true_and]
   ·rw [if_neg hy, Bool.eq_false_iff.mpr hy]; simp
  ·rw [if_neg ha, Bool.eq_false_iff.mpr ha]; simp
 ·rw [if_neg hp, Bool.eq_false_iff.mpr hp]; simp

def in64 (z : Int) : Prop := -9223372036854775808 ≤ z ∧ z ≤ 9223372036854775807
theorem in64_zero : in64 0 := by unfold in64; omega
theorem wrap_in {z : Int} (h : in64 z) : wrap64 (z % 18446744073709551616) = z := by unfold in64 at h; unfold wrap64; omega
theorem wrap_is (z : Int) : in64 (wrap64 z) := by unfold wrap64 in64; omega
theorem u_inj {a b : Int} (ha : in64 a) (hb : in64 b) (h : a % 18446744073709551616 = b % 18446744073709551616) : a = b := by unfold in64 at ha hb; omega

/-- An address, or the zero one of what is none. -/
def rightA (x : Bool) (h l : Int) : Bool × Int × Int := if addrOk x h l = true then (x, h, l) else (false, 0, 0)
/-- What is right: of 32 bits its upper half is 0, its lower one below 2^32. -/
structure Right (p : Bool × Int × Int) : Prop where
 four : p.1 = false → p.2.1 = 0 ∧ 0 ≤ p.2.2 ∧ p.2.2 ≤ 4294967295
 hi : in64 p.2.1
 lo : in64 p.2.2
theorem rightA_right (x : Bool) (h l : Int) (hh : in64 h) (hl : in64 l) : Right (rightA x h l) := by
 unfold rightA
 by_cases ha : addrOk x h l = true
 ·rw [if_pos ha]
  refine ⟨fun hx => ?_, hh, hl⟩
  simp only at hx
  subst hx
  simpa [addrOk] using ha
 ·rw [if_neg ha]
  exact ⟨fun _ => ⟨rfl, by simp⟩, in64_zero, in64_zero⟩
theorem rightA_ok {x : Bool} {h l : Int} (ha : addrOk x h l = true) : rightA x h l = (x, h, l) := if_pos ha
theorem spec_l1Addr_e (x : Bool) (h l : Int) : spec_l1Addr.f x h l = some (rightA x h l) := by
 unfold spec_l1Addr.f rightA
 rw [spec_AddrOk_e]
 simp only [Option.bind_some]
 by_cases ha : addrOk x h l = true
 ·rw [if_pos ha, if_pos ha]
 ·rw [if_neg ha, if_neg ha]
theorem impl_right_e (x : Bool) (h l : Int) : impl_right.f x h l = some (rightA x h l) := by
 unfold impl_right.f rightA
 rw [impl_AddrOk_e]
 simp only [Option.bind_some]
 by_cases ha : addrOk x h l = true
 ·rw [if_pos ha, if_pos ha]
 ·rw [if_neg ha, if_neg ha]

/-- The address n farther. -/
def addR (p : Bool × Int × Int) (n : Int) : Bool × Int × Int × Bool :=
 if n < 0 then (false, 0, 0, false) else
 if p.1 = true then
  (if p.2.2 % 18446744073709551616 + n < 18446744073709551616 then (true, p.2.1, wrap64 (p.2.2 % 18446744073709551616 + n), true)
  else if p.2.1 % 18446744073709551616 = 18446744073709551615 then (false, 0, 0, false) else (true, wrap64 (p.2.1 % 18446744073709551616 + 1), wrap64 (p.2.2 % 18446744073709551616 + n), true))
 else if n > 4294967295 - p.2.2 then (false, 0, 0, false) else (false, 0, p.2.2 + n, true)
def addTo (x : Bool) (h l n : Int) : Bool × Int × Int × Bool := addR (rightA x h l) n
theorem wrap_mod (a b : Int) (h : a % 18446744073709551616 = b % 18446744073709551616) : wrap64 a = wrap64 b := by unfold wrap64; omega
theorem spec_l1Less_a (a b : Int) : spec_l1Less.f a b = some (decide (a % 18446744073709551616 < b % 18446744073709551616)) := by
 unfold spec_l1Less.f
 rw [u64w, u64w]
theorem spec_AddTo_e (x : Bool) (h l n : Int) (hh : in64 h) (hl : in64 l) (hn : in64 n) : spec_AddTo.f x h l n = some (addTo x h l n) := by
 unfold spec_AddTo.f addTo
 rw [spec_l1Addr_e]
 have r := rightA_right x h l hh hl
 generalize rightA x h l = p at r ⊢
 obtain ⟨p0, p1, p2⟩ := p
 have hr := r.hi
 have hlo := r.lo
 have hfo := r.four
 simp only [in64] at hr hlo hn hfo
 simp only [Option.bind_some, addR]
 by_cases h0 : n < 0
 ·rw [if_pos h0, if_pos h0]
 ·rw [if_neg h0, if_neg h0]
  cases p0
  ·obtain ⟨_, h4⟩ := hfo rfl
   simp only [Bool.false_eq_true, if_false]
   rw [w64 (x := 4294967295 - p2) (by omega) (by omega)]
   by_cases h1 : n > 4294967295 - p2
   ·rw [if_pos h1, if_pos h1]
   ·rw [if_neg h1, if_neg h1]
    simp only [u64w]
    obtain ⟨rfl, h5⟩ := hfo rfl
    have e : wrap64 ((p2 % 18446744073709551616 + n % 18446744073709551616) % 18446744073709551616) = p2 + n := by rw [show (p2 % 18446744073709551616 + n % 18446744073709551616) % 18446744073709551616 = p2 + n by omega]; exact w64 (by omega) (by omega)
    rw [e]
  ·simp only [if_true, u64w, spec_l1Less_a, Option.bind_some, decide_eq_true_eq]
   have e : wrap64 ((p2 % 18446744073709551616 + n % 18446744073709551616) % 18446744073709551616) % 18446744073709551616 = (p2 % 18446744073709551616 + n) % 18446744073709551616 := by unfold wrap64; omega
   rw [e]
   by_cases h1 : p2 % 18446744073709551616 + n < 18446744073709551616
   ·rw [if_neg (by omega), if_pos h1, wrap_mod ((p2 % 18446744073709551616 + n % 18446744073709551616) % 18446744073709551616) (p2 % 18446744073709551616 + n) (by omega)]
   ·rw [if_pos (by omega), if_neg h1]
    by_cases h2 : p1 % 18446744073709551616 = 18446744073709551615
    ·rw [if_pos h2, if_pos (by unfold wrap64; omega)]
    ·rw [if_neg h2, if_neg (by unfold wrap64; omega), wrap_mod ((p2 % 18446744073709551616 + n % 18446744073709551616) % 18446744073709551616) (p2 % 18446744073709551616 + n) (by omega), wrap_mod ((p1 % 18446744073709551616 + 1) % 18446744073709551616) (p1 % 18446744073709551616 + 1) (by omega)]
theorem impl_AddTo_e (x : Bool) (h l n : Int) (hh : in64 h) (hl : in64 l) (hn : in64 n) : impl_AddTo.f x h l n = some (addTo x h l n) := by
 unfold impl_AddTo.f addTo
 rw [impl_right_e]
 have r := rightA_right x h l hh hl
 generalize rightA x h l = p at r ⊢
 obtain ⟨p0, p1, p2⟩ := p
 have hr := r.hi
 have hlo := r.lo
 have hfo := r.four
 simp only [in64] at hr hlo hn hfo
 simp only [Option.bind_some, addR]
 by_cases h0 : n < 0
 ·rw [if_pos h0, if_pos h0]
 ·rw [if_neg h0, if_neg h0]
  cases p0
  ·obtain ⟨_, h4⟩ := hfo rfl
   simp only [Bool.false_eq_true, if_false]
   rw [w64 (x := 4294967295 - p2) (by omega) (by omega)]
   by_cases h1 : n > 4294967295 - p2
   ·rw [if_pos h1, if_pos h1]
   ·rw [if_neg h1, if_neg h1, w64 (by omega) (by omega)]
  ·simp only [if_true, u64w, add64s, add64c]
   have en : n % 18446744073709551616 = n := by omega
   rw [en]
   by_cases h1 : p2 % 18446744073709551616 + n < 18446744073709551616
   ·have c0 : (p2 % 18446744073709551616 + n + 0) / 18446744073709551616 = 0 := by omega
    rw [c0, if_pos (by omega), if_pos h1, wrap_mod ((p2 % 18446744073709551616 + n + 0) % 18446744073709551616) (p2 % 18446744073709551616 + n) (by omega)]
    have e : wrap64 ((p1 % 18446744073709551616 + 0 + 0) % 18446744073709551616) = p1 := by
     rw [show (p1 % 18446744073709551616 + 0 + 0) % 18446744073709551616 = p1 % 18446744073709551616 by omega]
     exact wrap_in r.hi
    rw [e]
   ·have c1 : (p2 % 18446744073709551616 + n + 0) / 18446744073709551616 = 1 := by omega
    rw [c1, if_neg h1]
    by_cases h2 : p1 % 18446744073709551616 = 18446744073709551615
    ·rw [if_pos h2, if_neg (by rw [h2]; decide)]
    ·rw [if_neg h2, if_pos (by omega), wrap_mod ((p2 % 18446744073709551616 + n + 0) % 18446744073709551616) (p2 % 18446744073709551616 + n) (by omega), wrap_mod ((p1 % 18446744073709551616 + 0 + 1) % 18446744073709551616) (p1 % 18446744073709551616 + 1) (by omega)]

def nthOf (x : Bool) (h l b n : Int) : Bool × Int × Int × Bool :=
 if prefOk x h l b = true then (if (addTo x h l n).2.2.2 = true then (if hasA x h l b (addTo x h l n).1 (addTo x h l n).2.1 (addTo x h l n).2.2.1 = true then ((addTo x h l n).1, (addTo x h l n).2.1, (addTo x h l n).2.2.1, true) else (false, 0, 0, false)) else (false, 0, 0, false)) else (false, 0, 0, false)
theorem spec_NthOf_e (x : Bool) (h l b n : Int) (hh : in64 h) (hl : in64 l) (hn : in64 n) : spec_NthOf.f x h l b n = some (nthOf x h l b n) := by
 unfold spec_NthOf.f nthOf
 rw [spec_PrefixOk_e, spec_AddTo_e x h l n hh hl hn]
 simp only [Option.bind_some, spec_HasAddr_e]
 repeat' split
 all_goals first | rfl | simp_all
theorem impl_NthOf_e (x : Bool) (h l b n : Int) (hh : in64 h) (hl : in64 l) (hn : in64 n) : impl_NthOf.f x h l b n = some (nthOf x h l b n) := by
 unfold impl_NthOf.f nthOf
 rw [impl_PrefixOk_e, impl_AddTo_e x h l n hh hl hn]
 simp only [Option.bind_some, impl_HasAddr_e]
 repeat' split
 all_goals first | rfl | simp_all

def cmpI (a b : Int) : Int := if a < b then -1 else if b < a then 1 else 0
/-- Two addresses that are right, compared. -/
def cmpR (p q : Bool × Int × Int) : Int :=
 if p.1 = false ∧ q.1 = true then -1 else if p.1 = true ∧ q.1 = false then 1 else
 if p.2.1 % 18446744073709551616 < q.2.1 % 18446744073709551616 then -1 else if q.2.1 % 18446744073709551616 < p.2.1 % 18446744073709551616 then 1 else
 cmpI (p.2.2 % 18446744073709551616) (q.2.2 % 18446744073709551616)
def cmpA (x : Bool) (h l : Int) (y : Bool) (g m : Int) : Int := cmpR (rightA x h l) (rightA y g m)
theorem spec_l1Less_e (a b : Int) : spec_l1Less.f a b = some (decide (a % 18446744073709551616 < b % 18446744073709551616)) := by
 unfold spec_l1Less.f
 rw [u64w, u64w]
theorem spec_CmpAddr_e (x : Bool) (h l : Int) (y : Bool) (g m : Int) (hh : in64 h) (hl : in64 l) (hg : in64 g) (hm : in64 m) : spec_CmpAddr.f x h l y g m = some (cmpA x h l y g m) := by
 unfold spec_CmpAddr.f cmpA
 rw [spec_l1Addr_e, spec_l1Addr_e]
 have r1 := rightA_right x h l hh hl
 have r2 := rightA_right y g m hg hm
 generalize rightA x h l = p at r1 ⊢
 generalize rightA y g m = q at r2 ⊢
 obtain ⟨p0, p1, p2⟩ := p
 obtain ⟨q0, q1, q2⟩ := q
 simp only [Option.bind_some, spec_l1Less_e, decide_eq_true_eq, cmpR, cmpI]
 have key : (if p1 = q1 then (if p2 = q2 then some (0 : Int) else (if p1 % 18446744073709551616 < q1 % 18446744073709551616 then some (-1) else if p2 % 18446744073709551616 < q2 % 18446744073709551616 then some (-1) else some 1)) else (if p1 % 18446744073709551616 < q1 % 18446744073709551616 then some (-1) else some 1)) =
   some (if p1 % 18446744073709551616 < q1 % 18446744073709551616 then -1 else if q1 % 18446744073709551616 < p1 % 18446744073709551616 then 1 else if p2 % 18446744073709551616 < q2 % 18446744073709551616 then -1 else if q2 % 18446744073709551616 < p2 % 18446744073709551616 then 1 else 0) := by
  by_cases h1 : p1 = q1
  ·subst h1
   rw [if_pos rfl]
   have hi : ¬ p1 % 18446744073709551616 < p1 % 18446744073709551616 := by omega
   simp only [if_neg hi]
   by_cases h2 : p2 = q2
   ·subst h2
    have hi2 : ¬ p2 % 18446744073709551616 < p2 % 18446744073709551616 := by omega
    simp only [if_neg hi2, if_true]
   ·have hne : p2 % 18446744073709551616 ≠ q2 % 18446744073709551616 := fun h => h2 (u_inj r1.lo r2.lo h)
    rw [if_neg h2]
    by_cases h3 : p2 % 18446744073709551616 < q2 % 18446744073709551616
    ·rw [if_pos h3, if_pos h3]
    ·rw [if_neg h3, if_neg h3, if_pos (by omega)]
  ·have hne : p1 % 18446744073709551616 ≠ q1 % 18446744073709551616 := fun h => h1 (u_inj r1.hi r2.hi h)
   rw [if_neg h1]
   by_cases h3 : p1 % 18446744073709551616 < q1 % 18446744073709551616
   ·rw [if_pos h3, if_pos h3]
   ·rw [if_neg h3, if_neg h3, if_pos (by omega)]
 cases p0 <;> cases q0 <;> simp [key]
theorem compare_e (a b : Int) : cmp_Compare_uint64.f a b = some (cmpI a b) := by
 unfold cmp_Compare_uint64.f cmp_isNaN_uint64.f cmpI
 simp
 split
 ·rfl
 ·split <;> rfl
theorem impl_CmpAddr_j1 (p0 : Bool) (p1 p2 : Int) (q0 : Bool) (q1 q2 : Int) (e : p0 = q0) : Ev (fun k => impl_CmpAddr.j1 k p0 p1 p2 q0 q1 q2) (cmpR (p0, p1, p2) (q0, q1, q2)) := by
 subst e
 refine Ev.step (f := fun _ => some _) (fun k => ?_) (Ev.now _)
 rw [impl_CmpAddr.j1, compare_e, compare_e]
 simp only [Option.bind_some, u64w, cmpR]
 rw [if_neg (show ¬ (p0 = false ∧ p0 = true) by rintro ⟨rfl, h⟩; cases h), if_neg (show ¬ (p0 = true ∧ p0 = false) by rintro ⟨rfl, h⟩; cases h)]
 by_cases h1 : p1 % 18446744073709551616 < q1 % 18446744073709551616
 ·rw [if_pos h1]
  simp [cmpI, h1]
 ·rw [if_neg h1]
  by_cases h2 : q1 % 18446744073709551616 < p1 % 18446744073709551616
  ·rw [if_pos h2]
   simp [cmpI, h1, h2]
  ·rw [if_neg h2]
   simp [cmpI, h1, h2]
theorem impl_CmpAddr_ev (x : Bool) (h l : Int) (y : Bool) (g m : Int) : Ev (fun k => impl_CmpAddr.f k x h l y g m) (cmpA x h l y g m) := by
 unfold cmpA
 refine Ev.val (impl_right_e x h l) ?_
 refine Ev.val (impl_right_e y g m) ?_
 generalize rightA x h l = p
 generalize rightA y g m = q
 obtain ⟨p0, p1, p2⟩ := p
 obtain ⟨q0, q1, q2⟩ := q
 cases p0
 ·refine Ev.ite_neg (by simp) ?_
  cases q0
  ·exact Ev.step (fun k => by rw [impl_CmpAddr.j0, if_neg (by simp), if_neg (by simp)]) (impl_CmpAddr_j1 false p1 p2 false q1 q2 rfl)
  ·refine Ev.step (f := fun _ => some (-1)) (fun k => by rw [impl_CmpAddr.j0, if_pos rfl]) (Ev.mid ?_ (Ev.now _))
   simp [cmpR]
 ·refine Ev.ite_pos rfl ?_
  cases q0
  ·refine Ev.step (f := fun _ => some 1) (fun k => by rw [impl_CmpAddr.j0, if_neg (by simp), if_pos rfl, if_neg (by simp)]) (Ev.mid ?_ (Ev.now _))
   simp [cmpR]
  ·exact Ev.step (fun k => by rw [impl_CmpAddr.j0, if_neg (by simp), if_pos rfl, if_pos rfl]) (impl_CmpAddr_j1 true p1 p2 true q1 q2 rfl)

def valR (p : Bool × Int × Int) : Int := (p.2.1 % 18446744073709551616) * 18446744073709551616 + p.2.2 % 18446744073709551616
/-- How far q is behind p. -/
def gapR (p q : Bool × Int × Int) : Int × Bool := if p.1 = q.1 ∧ valR p ≤ valR q ∧ valR q - valR p ≤ 9223372036854775807 then (valR q - valR p, true) else (0, false)
def gapTo (x : Bool) (h l : Int) (y : Bool) (g m : Int) : Int × Bool := gapR (rightA x h l) (rightA y g m)
theorem cmpR_neg (p q : Bool × Int × Int) (e : p.1 = q.1) : cmpR q p < 0 ↔ valR q < valR p := by
 obtain ⟨p0, p1, p2⟩ := p
 obtain ⟨q0, q1, q2⟩ := q
 simp only at e
 subst e
 simp only [cmpR, valR, cmpI]
 rw [if_neg (show ¬ (p0 = false ∧ p0 = true) by rintro ⟨rfl, h⟩; cases h), if_neg (show ¬ (p0 = true ∧ p0 = false) by rintro ⟨rfl, h⟩; cases h)]
 repeat' split
 all_goals omega
theorem impl_GapTo_j0 (p0 : Bool) (p1 p2 : Int) (q1 q2 : Int) (z : Bool) (hz : z = decide (valR (p0, q1, q2) < valR (p0, p1, p2))) : Ev (fun k => impl_GapTo.j0 k z p0 p1 p2 p0 q1 q2) (gapR (p0, p1, p2) (p0, q1, q2)) := by
 have hf : z = false ∧ ¬ valR (p0, q1, q2) < valR (p0, p1, p2) ∨ z = true ∧ valR (p0, q1, q2) < valR (p0, p1, p2) := by
  by_cases h : valR (p0, q1, q2) < valR (p0, p1, p2)
  ·exact Or.inr ⟨hz.trans (decide_eq_true h), h⟩
  ·exact Or.inl ⟨hz.trans (decide_eq_false h), h⟩
 clear hz
 refine Ev.step (f := fun _ => some _) (fun k => ?_) (Ev.now _)
 rw [impl_GapTo.j0]
 simp only [u64w, decide_eq_true_eq, gapR, valR, true_and] at hf ⊢
 have hs : ∀ (a c b : Int), 0 ≤ a → a < 18446744073709551616 → 0 ≤ c → c < 18446744073709551616 → 0 ≤ b → b ≤ 1 → sub64s a c b = (a - c - b) % 18446744073709551616 := by
  intro a c b h1 h2 h3 h4 h5 h6
  unfold sub64s
  omega
 have hc : sub64c (q2 % 18446744073709551616) (p2 % 18446744073709551616) 0 = if q2 % 18446744073709551616 < p2 % 18446744073709551616 then 1 else 0 := by
  unfold sub64c
  split <;> split <;> omega
 rw [hs (q2 % 18446744073709551616) (p2 % 18446744073709551616) 0 (by omega) (by omega) (by omega) (by omega) (by omega) (by omega), hc]
 rcases hf with ⟨rfl, h⟩ | ⟨rfl, h⟩
 rotate_left
 ·rw [if_pos rfl, if_neg (by omega)]
 ·rw [if_neg (by decide)]
  have wr : ∀ a : Int, 0 ≤ a → a < 18446744073709551616 → (wrap64 a < 0 ↔ a > 9223372036854775807) := by
   intro a h1 h2
   unfold wrap64
   omega
  have hw := wr ((q2 % 18446744073709551616 - p2 % 18446744073709551616 - 0) % 18446744073709551616) (by omega) (by omega)
  by_cases h1 : q2 % 18446744073709551616 < p2 % 18446744073709551616
  ·rw [if_pos h1, hs (q1 % 18446744073709551616) (p1 % 18446744073709551616) 1 (by omega) (by omega) (by omega) (by omega) (by omega) (by omega)]
   by_cases h2 : (q1 % 18446744073709551616 - p1 % 18446744073709551616 - 1) % 18446744073709551616 = 0
   ·rw [if_pos h2]
    by_cases h3 : (q2 % 18446744073709551616 - p2 % 18446744073709551616 - 0) % 18446744073709551616 > 9223372036854775807
    ·rw [if_pos (hw.2 h3), if_neg (by omega)]
    ·rw [if_neg (fun h => h3 (hw.1 h)), if_pos (by omega), w64 (by omega) (by omega)]
     congr 2
     omega
   ·rw [if_neg h2, if_neg (by omega)]
  ·rw [if_neg h1, hs (q1 % 18446744073709551616) (p1 % 18446744073709551616) 0 (by omega) (by omega) (by omega) (by omega) (by omega) (by omega)]
   by_cases h2 : (q1 % 18446744073709551616 - p1 % 18446744073709551616 - 0) % 18446744073709551616 = 0
   ·rw [if_pos h2]
    by_cases h3 : (q2 % 18446744073709551616 - p2 % 18446744073709551616 - 0) % 18446744073709551616 > 9223372036854775807
    ·rw [if_pos (hw.2 h3), if_neg (by omega)]
    ·rw [if_neg (fun h => h3 (hw.1 h)), if_pos (by omega), w64 (by omega) (by omega)]
     congr 2
     omega
   ·rw [if_neg h2, if_neg (by omega)]
theorem impl_GapTo_ev (x : Bool) (h l : Int) (y : Bool) (g m : Int) (hh : in64 h) (hl : in64 l) (hg : in64 g) (hm : in64 m) : Ev (fun k => impl_GapTo.f k x h l y g m) (gapTo x h l y g m) := by
 unfold gapTo
 refine Ev.val (impl_right_e x h l) (Ev.val (impl_right_e y g m) ?_)
 have r1 := rightA_right x h l hh hl
 have r2 := rightA_right y g m hg hm
 have hc : cmpA (rightA y g m).1 (rightA y g m).2.1 (rightA y g m).2.2 (rightA x h l).1 (rightA x h l).2.1 (rightA x h l).2.2 = cmpR (rightA y g m) (rightA x h l) := by
  unfold cmpA
  have idem : ∀ p : Bool × Int × Int, Right p → rightA p.1 p.2.1 p.2.2 = p := by
   intro p hp
   refine rightA_ok ?_
   obtain ⟨p0, p1, p2⟩ := p
   cases p0
   ·have := hp.four rfl
    simp [addrOk]; simp at this; omega
   ·rfl
  rw [idem _ r1, idem _ r2]
 generalize rightA x h l = p at r1 hc ⊢
 generalize rightA y g m = q at r2 hc ⊢
 obtain ⟨p0, p1, p2⟩ := p
 obtain ⟨q0, q1, q2⟩ := q
 by_cases e : p0 = q0
 ·subst e
  refine Ev.ite_neg (by simp) (Ev.bind (impl_CmpAddr_ev p0 q1 q2 p0 p1 p2) ?_)
  refine impl_GapTo_j0 p0 p1 p2 q1 q2 _ ?_
  rw [hc]
  congr 1
  exact propext (cmpR_neg (p0, p1, p2) (p0, q1, q2) rfl)
 ·refine Ev.ite_pos (by simp [e]) (Ev.step (f := fun _ => some (0, false)) (fun k => by rw [impl_GapTo.j0, if_pos rfl]) (Ev.mid ?_ (Ev.now _)))
  simp [gapR, e]

/-- What a comparison sees of an address. -/
def keyR (p : Bool × Int × Int) : Bool × Int × Int := (p.1, p.2.1 % 18446744073709551616, p.2.2 % 18446744073709551616)
theorem cmpR_zero {p q : Bool × Int × Int} (h : cmpR p q = 0) : keyR p = keyR q := by
 obtain ⟨p0, p1, p2⟩ := p
 obtain ⟨q0, q1, q2⟩ := q
 simp only [cmpR, cmpI] at h
 have h0 : p0 = q0 := by
  cases p0 <;> cases q0 <;> first | rfl | simp at h
 subst h0
 rw [if_neg (show ¬ (p0 = false ∧ p0 = true) by rintro ⟨rfl, h⟩; cases h), if_neg (show ¬ (p0 = true ∧ p0 = false) by rintro ⟨rfl, h⟩; cases h)] at h
 simp only [keyR]
 repeat' split at h
 all_goals first | omega | (congr 2 <;> omega)
theorem valR_key {p q : Bool × Int × Int} (h : keyR p = keyR q) : valR p = valR q := by
 simp only [keyR, Prod.mk.injEq] at h
 unfold valR
 rw [h.2.1, h.2.2]
theorem wrap_emod (z : Int) : wrap64 z % 18446744073709551616 = z % 18446744073709551616 := by unfold wrap64; omega
theorem addR_val (p : Bool × Int × Int) (hp : Right p) (n : Int) (hn : in64 n) (h : (addR p n).2.2.2 = true) :
  valR ((addR p n).1, (addR p n).2.1, (addR p n).2.2.1) = valR p + n ∧ Right ((addR p n).1, (addR p n).2.1, (addR p n).2.2.1) ∧ addrOk (addR p n).1 (addR p n).2.1 (addR p n).2.2.1 = true := by
 obtain ⟨p0, p1, p2⟩ := p
 have h1 := hp.hi
 have h2 := hp.lo
 have h3 := hp.four
 simp only [in64] at h1 h2 hn
 simp only [addR] at h ⊢
 by_cases n0 : n < 0
 ·rw [if_pos n0] at h; cases h
 ·rw [if_neg n0] at h ⊢
  cases p0
  ·obtain ⟨rfl, h4, h5⟩ := h3 rfl
   simp only at h4 h5
   simp only [Bool.false_eq_true, if_false] at h ⊢
   by_cases hb : n > 4294967295 - p2
   ·rw [if_pos hb] at h; cases h
   ·rw [if_neg hb]
    refine ⟨by simp only [valR]; omega, ⟨fun _ => ⟨rfl, by simp only; omega, by simp only; omega⟩, in64_zero, by simp only [in64]; omega⟩, ?_⟩
    simp [addrOk]; omega
  ·simp only [if_true] at h ⊢
   by_cases hs : p2 % 18446744073709551616 + n < 18446744073709551616
   ·rw [if_pos hs]
    refine ⟨by simp only [valR, wrap_emod]; omega, ⟨(fun hh => by cases hh), h1, wrap_is _⟩, rfl⟩
   ·rw [if_neg hs] at h ⊢
    by_cases ht : p1 % 18446744073709551616 = 18446744073709551615
    ·rw [if_pos ht] at h; cases h
    ·rw [if_neg ht]
     refine ⟨by simp only [valR, wrap_emod]; omega, ⟨(fun hh => by cases hh), wrap_is _, wrap_is _⟩, rfl⟩
/-- Of a prefix: its n-th address, if it has one, is n behind its first. -/
theorem nthOf_val (x : Bool) (h l b n : Int) (hh : in64 h) (hl : in64 l) (hn : in64 n) (ok : (nthOf x h l b n).2.2.2 = true) :
  valR ((nthOf x h l b n).1, (nthOf x h l b n).2.1, (nthOf x h l b n).2.2.1) = valR (rightA x h l) + n ∧ in64 (nthOf x h l b n).2.1 ∧ in64 (nthOf x h l b n).2.2.1 ∧ addrOk (nthOf x h l b n).1 (nthOf x h l b n).2.1 (nthOf x h l b n).2.2.1 = true := by
 unfold nthOf at ok ⊢
 by_cases h1 : prefOk x h l b = true
 ·rw [if_pos h1] at ok ⊢
  by_cases h2 : (addTo x h l n).2.2.2 = true
  ·rw [if_pos h2] at ok ⊢
   by_cases h3 : hasA x h l b (addTo x h l n).1 (addTo x h l n).2.1 (addTo x h l n).2.2.1 = true
   ·rw [if_pos h3]
    have hr := rightA_right x h l hh hl
    obtain ⟨e1, e2, e3⟩ := addR_val (rightA x h l) hr n hn h2
    exact ⟨e1, e2.hi, e2.lo, e3⟩
   ·rw [if_neg h3] at ok; cases ok
  ·rw [if_neg h2] at ok; cases ok
 ·rw [if_neg h1] at ok; cases ok
/-- Of n that differ and all lie in a list, there are no more than it is long. -/
theorem pigeon {β : Type} [DecidableEq β] (n : Nat) : ∀ (l : List β) (f : Nat → β), (∀ i, i < n → f i ∈ l) → (∀ i j, i < n → j < n → f i = f j → i = j) → n ≤ l.length := by
 induction n with
 | zero => intro l f _ _; omega
 | succ n ih =>
  intro l f hm hi
  have h1 := hm n (by omega)
  have h2 := ih (l.erase (f n)) f (fun i hlt => (List.mem_erase_of_ne (fun e => by have := hi i n (by omega) (by omega) e; omega)).2 (hm i (by omega))) (fun i j a b => hi i j (by omega) (by omega))
  have h3 := List.length_erase_of_mem h1
  have h4 := List.length_pos_of_mem h1
  omega



def takenBy (l : List S29) (q : Bool × Int × Int) : Bool := l.any fun e => decide (cmpA e.f0 e.f1 e.f2 q.1 q.2.1 q.2.2 = 0)
def nthA (x : Bool) (h lo b : Int) (i : Nat) : Bool × Int × Int := ((nthOf x h lo b (i : Int)).1, (nthOf x h lo b (i : Int)).2.1, (nthOf x h lo b (i : Int)).2.2.1)
/-- The search from the i-th address on, d of them. -/
def findA (l : List S29) (x : Bool) (h lo b : Int) : Nat → Nat → Bool × Int × Int × Bool
 | 0, _ => (false, 0, 0, false)
 | d + 1, i => if (nthOf x h lo b (i : Int)).2.2.2 = true then (if takenBy l (nthA x h lo b i) = true then findA l x h lo b d (i + 1) else ((nthA x h lo b i).1, (nthA x h lo b i).2.1, (nthA x h lo b i).2.2, true)) else (false, 0, 0, false)
def firstA (x : Bool) (h lo b : Int) (l : List S29) : Bool × Int × Int × Bool := if prefOk x h lo b = true ∧ l.length ≤ 300 then findA l x h lo b (l.length + 1) 0 else (false, 0, 0, false)
theorem rd_A (l : List S29) (i : Nat) (hi : i < l.length) : rd_T29 l (i : Int) = l[i] := by simp [rd_T29, List.getD, List.getElem?_eq_getElem hi]
/-- Not all of one more than there are can be taken. -/
theorem not_all_taken (x : Bool) (h lo b : Int) (hh : in64 h) (hl : in64 lo) (l : List S29) (hlen : l.length ≤ 300)
  (H : ∀ j, j ≤ l.length → (nthOf x h lo b (j : Int)).2.2.2 = true ∧ takenBy l (nthA x h lo b j) = true) : False := by
 have hi64 : ∀ j : Nat, j ≤ l.length → in64 (j : Int) := fun j hj => by unfold in64; omega
 have hkey : ∀ j, j ≤ l.length → keyR (nthA x h lo b j) ∈ l.map fun e => keyR (rightA e.f0 e.f1 e.f2) := by
  intro j hj
  obtain ⟨h1, h2⟩ := H j hj
  obtain ⟨e, he, hc⟩ := List.any_eq_true.1 h2
  have hv := nthOf_val x h lo b j hh hl (hi64 j hj) h1
  have hz := cmpR_zero (of_decide_eq_true hc)
  rw [show rightA (nthA x h lo b j).1 (nthA x h lo b j).2.1 (nthA x h lo b j).2.2 = nthA x h lo b j from rightA_ok hv.2.2.2] at hz
  exact List.mem_map.2 ⟨e, he, hz⟩
 have := pigeon (l.length + 1) (l.map fun e => keyR (rightA e.f0 e.f1 e.f2)) (fun j => keyR (nthA x h lo b j)) (fun j hj => hkey j (by omega)) (fun i j hi hj e => by
  have v := valR_key e
  have v1 := (nthOf_val x h lo b i hh hl (hi64 i (by omega)) (H i (by omega)).1).1
  have v2 := (nthOf_val x h lo b j hh hl (hi64 j (by omega)) (H j (by omega)).1).1
  simp only [nthA] at v
  omega)
 rw [List.length_map] at this
 omega
theorem spec_FirstAddr_l1 (l : List S29) (hlen : l.length ≤ 300) (hw : ∀ e ∈ l, in64 e.f1 ∧ in64 e.f2) (x : Bool) (h lo b : Int) (i : Int) (q : Bool × Int × Int) (hq : in64 q.2.1 ∧ in64 q.2.2) (R : Bool × Int × Int × Bool)
  (hR : Ev (fun k => spec_FirstAddr.l0 k l (wrap64 (i + 1)) x h lo b) R) (d : Nat) : ∀ (j : Nat) (u : Bool), j + d = l.length →
  Ev (fun k => spec_FirstAddr.l1 k l i u (j : Int) x h lo b q.1 q.2.1 q.2.2) (if (u || takenBy (l.drop j) q) = true then R else (q.1, q.2.1, q.2.2, true)) := by
 induction d with
 | zero =>
  intro j u hj
  rw [List.drop_eq_nil_of_le (by omega)]
  simp only [takenBy, List.any_nil, Bool.or_false]
  cases u
  ·exact Ev.step (f := fun _ => some _) (fun k => by rw [spec_FirstAddr.l1, if_neg (by omega), if_neg (by decide)]; rfl) (Ev.now _)
  ·exact Ev.step (fun k => by rw [spec_FirstAddr.l1, if_neg (by omega), if_pos rfl]) hR
 | succ d ih =>
  intro j u hj
  have hlt : j < l.length := by omega
  have hcast : wrap64 ((j : Int) + 1) = ((j + 1 : Nat) : Int) := by rw [w64 (by omega) (by omega)]; omega
  cases u
  ·have hm := hw l[j] (List.getElem_mem hlt)
   refine Ev.step (fun k => ?_) (Ev.mid ?_ (ih (j + 1) (cmpA l[j].f0 l[j].f1 l[j].f2 q.1 q.2.1 q.2.2 == 0) (by omega)))
   ·rw [spec_FirstAddr.l1, if_pos (by omega), if_neg (by decide), if_pos (by omega), rd_A l j hlt, spec_CmpAddr_e _ _ _ _ _ _ hm.1 hm.2 hq.1 hq.2, Option.bind_some, hcast]
   ·rw [List.drop_eq_getElem_cons hlt]
    simp only [takenBy, List.any_cons, Bool.false_or]
    congr 2
  ·refine Ev.step (fun k => ?_) (Ev.mid ?_ (ih (j + 1) true (by omega)))
   ·rw [spec_FirstAddr.l1, if_pos (by omega), if_pos rfl, hcast]
   ·simp
theorem spec_FirstAddr_l0 (l : List S29) (hlen : l.length ≤ 300) (hw : ∀ e ∈ l, in64 e.f1 ∧ in64 e.f2) (x : Bool) (h lo b : Int) (hh : in64 h) (hl : in64 lo) (d : Nat) : ∀ i : Nat, i + d = l.length + 1 →
  Ev (fun k => spec_FirstAddr.l0 k l (i : Int) x h lo b) (findA l x h lo b d i) := by
 induction d with
 | zero =>
  intro i hi
  exact Ev.step (f := fun _ => some _) (fun k => by rw [spec_FirstAddr.l0, if_neg (by omega)]; rfl) (Ev.now _)
 | succ d ih =>
  intro i hi
  have h64 : in64 (i : Int) := by unfold in64; omega
  have hcast : wrap64 ((i : Int) + 1) = ((i + 1 : Nat) : Int) := by rw [w64 (by omega) (by omega)]; omega
  unfold findA
  by_cases ok : (nthOf x h lo b (i : Int)).2.2.2 = true
  ·have hv := nthOf_val x h lo b i hh hl h64 ok
   have := spec_FirstAddr_l1 l hlen hw x h lo b i (nthA x h lo b i) ⟨hv.2.1, hv.2.2.1⟩ _ (by rw [hcast]; exact ih (i + 1) (by omega)) l.length 0 false (by omega)
   refine Ev.step (fun k => ?_) (Ev.mid ?_ this)
   ·rw [spec_FirstAddr.l0, if_pos (by omega), spec_NthOf_e x h lo b i hh hl h64, Option.bind_some, if_pos ok]; rfl
   ·rw [if_pos ok, List.drop_zero, Bool.false_or]
  ·refine Ev.step (f := fun _ => some _) (fun k => ?_) (Ev.now _)
   rw [spec_FirstAddr.l0, if_pos (by omega), spec_NthOf_e x h lo b i hh hl h64, Option.bind_some, if_neg ok, if_neg ok]
theorem spec_FirstAddr_ev (l : List S29) (hw : ∀ e ∈ l, in64 e.f1 ∧ in64 e.f2) (x : Bool) (h lo b : Int) (hh : in64 h) (hl : in64 lo) :
  Ev (fun k => spec_FirstAddr.f k x h lo b l) (firstA x h lo b l) := by
 refine Ev.val (spec_PrefixOk_e x h lo b) ?_
 unfold firstA
 by_cases hp : prefOk x h lo b = true
 ·refine Ev.ite_pos hp ?_
  by_cases hs : l.length ≤ 300
  ·rw [decide_eq_false (show ¬ (l.length : Int) > 300 by omega), if_pos ⟨hp, hs⟩]
   exact Ev.step (fun k => by rw [spec_FirstAddr.j0, if_neg (by decide)]; rfl) (spec_FirstAddr_l0 l hs hw x h lo b hh hl (l.length + 1) 0 (by omega))
  ·rw [decide_eq_true (show (l.length : Int) > 300 by omega), if_neg (by simp; omega)]
   exact Ev.step (f := fun _ => some _) (fun k => by rw [spec_FirstAddr.j0, if_pos rfl]) (Ev.now _)
 ·refine Ev.ite_neg hp ?_
  rw [if_neg (fun hc => hp hc.1)]
  exact Ev.step (f := fun _ => some _) (fun k => by rw [spec_FirstAddr.j0, if_pos rfl]) (Ev.now _)
theorem impl_FirstAddr_l1 (l : List S29) (hlen : l.length ≤ 300) (x : Bool) (h lo b : Int) (i : Int) (q : Bool × Int × Int) (R : Bool × Int × Int × Bool)
  (hR : takenBy l q = true → Ev (fun k => impl_FirstAddr.l0 k l (wrap64 (i + 1)) x h lo b) R) (d : Nat) : ∀ (j : Nat) (u : Bool), j + d = l.length → ((!u || takenBy (l.drop j) q) = true → takenBy l q = true) →
  Ev (fun k => impl_FirstAddr.l1 k l i u l (l.length : Int) (j : Int) x h lo b q.1 q.2.1 q.2.2) (if (!u || takenBy (l.drop j) q) = true then R else (q.1, q.2.1, q.2.2, true)) := by
 induction d with
 | zero =>
  intro j u hj ht
  rw [List.drop_eq_nil_of_le (by omega)] at ht ⊢
  simp only [takenBy, List.any_nil, Bool.or_false] at ht ⊢
  cases u
  ·exact Ev.step (fun k => by rw [impl_FirstAddr.l1, if_neg (by omega), if_neg (by decide)]) (hR (ht rfl))
  ·exact Ev.step (f := fun _ => some _) (fun k => by rw [impl_FirstAddr.l1, if_neg (by omega), if_pos rfl]; rfl) (Ev.now _)
 | succ d ih =>
  intro j u hj ht
  have hlt : j < l.length := by omega
  have hcast : wrap64 ((j : Int) + 1) = ((j + 1 : Nat) : Int) := by rw [w64 (by omega) (by omega)]; omega
  cases u
  ·refine Ev.step (fun k => ?_) (Ev.mid ?_ (ih (j + 1) false (by omega) (fun _ => ht rfl)))
   ·rw [impl_FirstAddr.l1, if_pos (by omega), if_pos (by omega), if_pos (by omega), if_neg (by decide), hcast]
   ·simp
  ·have hd : takenBy (l.drop j) q = (decide (cmpA l[j].f0 l[j].f1 l[j].f2 q.1 q.2.1 q.2.2 = 0) || takenBy (l.drop (j + 1)) q) := by
    rw [List.drop_eq_getElem_cons hlt]; rfl
   have hb : (!(cmpA l[j].f0 l[j].f1 l[j].f2 q.1 q.2.1 q.2.2 != 0)) = decide (cmpA l[j].f0 l[j].f1 l[j].f2 q.1 q.2.1 q.2.2 = 0) := by
    by_cases hz : cmpA l[j].f0 l[j].f1 l[j].f2 q.1 q.2.1 q.2.2 = 0 <;> simp [hz]
   refine Ev.step (f := fun k => (impl_CmpAddr.f k l[j].f0 l[j].f1 l[j].f2 q.1 q.2.1 q.2.2).bind fun t => impl_FirstAddr.l1 k l i (t != 0) l (l.length : Int) ((j + 1 : Nat) : Int) x h lo b q.1 q.2.1 q.2.2) (fun k => ?_) (Ev.bind (impl_CmpAddr_ev _ _ _ _ _ _) (Ev.mid ?_ (ih (j + 1) (cmpA l[j].f0 l[j].f1 l[j].f2 q.1 q.2.1 q.2.2 != 0) (by omega) ?_)))
   ·rw [impl_FirstAddr.l1, if_pos (by omega), if_pos (by omega), if_pos (by omega), if_pos rfl, rd_A l j hlt, hcast]
   ·rw [hb, hd]; rfl
   ·rw [hb, ← hd]; exact ht
theorem impl_FirstAddr_l0 (l : List S29) (hlen : l.length ≤ 300) (x : Bool) (h lo b : Int) (hh : in64 h) (hl : in64 lo) (d : Nat) : ∀ i : Nat, i + d = l.length + 1 →
  (∀ j, j < i → (nthOf x h lo b (j : Int)).2.2.2 = true ∧ takenBy l (nthA x h lo b j) = true) →
  Ev (fun k => impl_FirstAddr.l0 k l (i : Int) x h lo b) (findA l x h lo b d i) := by
 induction d with
 | zero =>
  intro i hi H
  exact (not_all_taken x h lo b hh hl l hlen (fun j hj => H j (by omega))).elim
 | succ d ih =>
  intro i hi H
  have h64 : in64 (i : Int) := by unfold in64; omega
  have hcast : wrap64 ((i : Int) + 1) = ((i + 1 : Nat) : Int) := by rw [w64 (by omega) (by omega)]; omega
  unfold findA
  by_cases ok : (nthOf x h lo b (i : Int)).2.2.2 = true
  ·have := impl_FirstAddr_l1 l hlen x h lo b i (nthA x h lo b i) (findA l x h lo b d (i + 1)) (fun ht => by
    rw [hcast]
    refine ih (i + 1) (by omega) (fun j hj => ?_)
    rcases Nat.lt_or_ge j i with h1 | h1
    ·exact H j h1
    ·obtain rfl : j = i := by omega
     exact ⟨ok, ht⟩) l.length 0 true (by omega) (fun hc => hc)
   refine Ev.step (fun k => ?_) (Ev.mid ?_ this)
   ·rw [impl_FirstAddr.l0, impl_NthOf_e x h lo b i hh hl h64, Option.bind_some, if_pos ok]; rfl
   ·rw [if_pos ok, List.drop_zero, Bool.not_true, Bool.false_or]
  ·refine Ev.step (f := fun _ => some _) (fun k => ?_) (Ev.now _)
   rw [impl_FirstAddr.l0, impl_NthOf_e x h lo b i hh hl h64, Option.bind_some, if_neg ok, if_neg ok]
theorem impl_FirstAddr_ev (l : List S29) (x : Bool) (h lo b : Int) (hh : in64 h) (hl : in64 lo) :
  Ev (fun k => impl_FirstAddr.f k x h lo b l) (firstA x h lo b l) := by
 refine Ev.val (impl_PrefixOk_e x h lo b) ?_
 unfold firstA
 by_cases hp : prefOk x h lo b = true
 ·refine Ev.ite_pos hp ?_
  by_cases hs : l.length ≤ 300
  ·rw [decide_eq_false (show ¬ (l.length : Int) > 300 by omega), if_pos ⟨hp, hs⟩]
   exact Ev.step (fun k => by rw [impl_FirstAddr.j0, if_neg (by decide)]; rfl) (impl_FirstAddr_l0 l hs x h lo b hh hl (l.length + 1) 0 (by omega) (fun j hj => by omega))
  ·rw [decide_eq_true (show (l.length : Int) > 300 by omega), if_neg (by simp; omega)]
   exact Ev.step (f := fun _ => some _) (fun k => by rw [impl_FirstAddr.j0, if_pos rfl]) (Ev.now _)
 ·refine Ev.ite_neg hp ?_
  rw [if_neg (fun hc => hp hc.1)]
  exact Ev.step (f := fun _ => some _) (fun k => by rw [impl_FirstAddr.j0, if_pos rfl]) (Ev.now _)

/-- The cursor of a draw stands in the code. -/
def Cur (b : List Int) (i : Int) : Prop := 0 ≤ i ∧ i ≤ b.length
/-- What is drawn from. -/
structure Code (b : List Int) : Prop where
 bytes : ∀ c ∈ b, 0 ≤ c ∧ c ≤ 255
 len : b.length ≤ 4611686018427387904
def DrawnI (b : List Int) (o : Option (Int × Int × Int)) (P : Int → Prop) : Prop := ∃ v i h, o = some (v, i, h) ∧ Cur b i ∧ P v
theorem and255 (X : Int) : 0 ≤ Go.bits .and .i64 X 255 ∧ Go.bits .and .i64 X 255 ≤ 255 := by
 have e : Go.bits .and .i64 X 255 = IntKind.i64.wrap (((BitVec.ofInt 64 X &&& BitVec.ofInt 64 255).toNat : Nat) : Int) := rfl
 have h1 : (BitVec.ofInt 64 X &&& BitVec.ofInt 64 255).toNat ≤ 255 := by
  rw [BitVec.toNat_and, show (BitVec.ofInt 64 255).toNat = 255 by decide]
  exact Nat.and_le_right
 rw [e, show IntKind.i64.wrap _ = wrap64 _ from IntWalk.i64_left _, w64 (by omega) (by omega)]
 omega
theorem rd_mem (l : List Int) (v : Int) (h0 : 0 ≤ v) (h1 : v < l.length) : rd l v ∈ l := by
 obtain ⟨n, rfl⟩ := Int.eq_ofNat_of_zero_le h0
 have hn : n < l.length := by omega
 rw [rd_get l n n _ rfl (List.getElem?_eq_getElem hn)]
 exact List.getElem_mem hn
theorem l1Byte_ok (b : List Int) (hb : Code b) (i h : Int) (hc : Cur b i) : DrawnI b (spec_l1Byte.f b i h) (fun v => 0 ≤ v ∧ v ≤ 255) := by
 have hlen := hb.len
 obtain ⟨h0, h1⟩ := hc
 unfold spec_l1Byte.f
 by_cases hlt : i < (b.length : Int)
 ·rw [if_pos hlt, if_pos h0]
  refine ⟨_, _, _, rfl, ?_, and255 _⟩
  rw [w64 (by omega) (by omega)]
  exact ⟨by omega, by omega⟩
 ·rw [if_neg hlt]
  exact ⟨_, _, _, rfl, ⟨h0, h1⟩, and255 _⟩
theorem tmod_bd (v n : Int) (h0 : 0 ≤ v) (hn : 0 < n) : 0 ≤ Int.tmod v n ∧ Int.tmod v n < n := by
 rw [Int.tmod_eq_emod_of_nonneg h0]
 exact ⟨Int.emod_nonneg _ (by omega), Int.emod_lt_of_pos _ hn⟩
theorem l1Below_ok (b : List Int) (hb : Code b) (i h n : Int) (hc : Cur b i) : DrawnI b (spec_l1Below.f b i h n) (fun v => 0 ≤ v ∧ (0 < n → v < n)) := by
 unfold spec_l1Below.f
 by_cases h0 : n ≤ 0
 ·rw [if_pos h0]
  exact ⟨_, _, _, rfl, hc, by omega, by omega⟩
 ·rw [if_neg h0]
  by_cases h1 : n ≤ 256
  ·rw [if_pos h1]
   obtain ⟨v, i1, h1, e, c1, p1⟩ := l1Byte_ok b hb i h hc
   have ht := tmod_bd v n p1.1 (by omega)
   refine ⟨_, _, _, by rw [e, Option.bind_some, if_neg (by omega)], c1, ht.1, fun _ => ht.2⟩
  ·rw [if_neg h1]
   obtain ⟨v1, i1, k1, e1, c1, p1⟩ := l1Byte_ok b hb i h hc
   obtain ⟨v2, i2, k2, e2, c2, p2⟩ := l1Byte_ok b hb i1 k1 c1
   obtain ⟨v3, i3, k3, e3, c3, p3⟩ := l1Byte_ok b hb i2 k2 c2
   have hw : wrap64 (wrap64 (wrap64 (v1 * 65536) + wrap64 (v2 * 256)) + v3) = v1 * 65536 + v2 * 256 + v3 := by
    rw [w64 (x := v1 * 65536) (by omega) (by omega), w64 (x := v2 * 256) (by omega) (by omega), w64 (x := v1 * 65536 + v2 * 256) (by omega) (by omega), w64 (by omega) (by omega)]
   have ht := tmod_bd (v1 * 65536 + v2 * 256 + v3) n (by omega) (by omega)
   refine ⟨_, _, _, by rw [e1, Option.bind_some, e2, Option.bind_some, e3, Option.bind_some, if_neg (by omega), hw], c3, ht.1, fun _ => ht.2⟩
theorem l1Int_ok (b : List Int) (hb : Code b) (i h : Int) (hc : Cur b i) (l : List Int) (hl : 0 < l.length) : DrawnI b (spec_l1Int.f b i h l) (fun v => v ∈ l) := by
 unfold spec_l1Int.f
 obtain ⟨v, i1, h1, e, c1, p1, p2⟩ := l1Below_ok b hb i h l.length hc
 have := p2 (by omega)
 exact ⟨_, _, _, by rw [e, Option.bind_some, if_pos p1, if_pos this], c1, rd_mem l v p1 this⟩
theorem l1Int_in (b : List Int) (hb : Code b) (i h : Int) (hc : Cur b i) (l : List Int) (hl : 0 < l.length) (P : Int → Prop) (hP : ∀ z ∈ l, P z) : DrawnI b (spec_l1Int.f b i h l) P := by
 obtain ⟨v, i1, h1, e, c1, p1⟩ := l1Int_ok b hb i h hc l hl
 exact ⟨v, i1, h1, e, c1, hP v p1⟩
theorem l1Once_ok (b : List Int) (hb : Code b) (i h n : Int) (hc : Cur b i) : ∃ v i' h', spec_l1Once.f b i h n = some (v, i', h') ∧ Cur b i' := by
 unfold spec_l1Once.f
 obtain ⟨v, i1, h1, e, c1, p1⟩ := l1Below_ok b hb i h n hc
 exact ⟨_, _, _, by rw [e, Option.bind_some], c1⟩
theorem l1Odd_ok (b : List Int) (hb : Code b) (i h : Int) (hc : Cur b i) : DrawnI b (spec_l1Odd.f b i h) in64 := by
 unfold spec_l1Odd.f
 obtain ⟨v, i1, h1, e, c1, p1⟩ := l1Int_in b hb i h hc [(-1), 0, 1, 2, 255, 256, 65535, 2147483647, 2147483648, 4294967295, 4294967296, (-2147483648), 9223372036854775807, (-9223372036854775808)] (by decide) in64 (by simp [in64])
 exact ⟨_, _, _, by rw [e, Option.bind_some], c1, p1⟩
theorem l1New_l0 (b : List Int) (hb : Code b) (d : Nat) : ∀ (i : Nat) (h : Int), i + d = b.length → ∃ h', Ev (fun k => spec_l1New.l0 k b h (i : Int)) (b, 0, h') := by
 have hlen := hb.len
 induction d with
 | zero =>
  intro i h hi
  exact ⟨h, Ev.step (f := fun _ => some _) (fun k => by rw [spec_l1New.l0, if_neg (by omega)]) (Ev.now _)⟩
 | succ d ih =>
  intro i h hi
  by_cases hs : i < 4000
  ·obtain ⟨h', e⟩ := ih (i + 1) (Go.bits .and .i64 (wrap64 ((wrap64 ((wrap64 (h * 137)) + (wrap64 (rd b i)))) + 11)) 1073741823) (by omega)
   refine ⟨h', Ev.step (fun k => ?_) e⟩
   rw [spec_l1New.l0, if_pos (by omega), if_pos (by omega), if_pos (by omega), w64 (x := (i : Int) + 1) (by omega) (by omega)]
   rfl
  ·exact ⟨h, Ev.step (f := fun _ => some _) (fun k => by rw [spec_l1New.l0, if_pos (by omega), if_neg (by omega)]) (Ev.now _)⟩
theorem l1New_ev (b : List Int) (hb : Code b) : ∃ h, Ev (fun k => spec_l1New.f k b) (b, 0, h) := l1New_l0 b hb b.length 0 _ (by omega)
theorem cur0 (b : List Int) : Cur b 0 := ⟨by omega, by omega⟩

/-- Addresses as numbers. -/
def wd (x : Bool) : Nat := if x = true then 128 else 32
def aval (x : Bool) (h l : Int) : Nat := if x = true then (h % 18446744073709551616).toNat * 18446744073709551616 + (l % 18446744073709551616).toNat else l.toNat
def mkA (x : Bool) (v : Nat) : Bool × Int × Int := if x = true then (true, wrap64 ((v / 18446744073709551616 : Nat) : Int), wrap64 ((v % 18446744073709551616 : Nat) : Int)) else (false, 0, (v : Int))
theorem two64 : (2 : Nat) ^ 64 = 18446744073709551616 := by decide
theorem two128 : (2 : Nat) ^ 128 = 340282366920938463463374607431768211456 := by decide
theorem two32 : (2 : Nat) ^ 32 = 4294967296 := by decide
theorem wd_six : wd true = 128 := rfl
theorem wd_four : wd false = 32 := rfl
theorem aval_lt (x : Bool) (h l : Int) (ha : addrOk x h l = true) : aval x h l < 2 ^ wd x := by
 cases x
 ·rw [wd_four, two32]
  simp [addrOk] at ha
  simp [aval]; omega
 ·rw [wd_six, two128]
  simp only [aval, if_true]
  omega
/-- Numbers of two halves, below a power. -/
theorem mod_hi (H L k : Nat) (hL : L < 18446744073709551616) : (H * 18446744073709551616 + L) % 2 ^ (64 + k) = (H % 2 ^ k) * 18446744073709551616 + L := by
 rw [Nat.pow_add, two64, Nat.mod_mul]
 have d : (H * 18446744073709551616 + L) / 18446744073709551616 = H := by omega
 have m : (H * 18446744073709551616 + L) % 18446744073709551616 = L := by omega
 rw [d, m]
 omega
theorem mod_lo (H L k : Nat) (hk : k ≤ 64) : (H * 18446744073709551616 + L) % 2 ^ k = L % 2 ^ k := by
 have e : 18446744073709551616 = 2 ^ k * 2 ^ (64 - k) := by rw [← Nat.pow_add, show k + (64 - k) = 64 by omega, two64]
 rw [e, Nat.mul_comm H, Nat.mul_assoc, Nat.mul_add_mod]
theorem keep_nat (a k : Nat) : keep (a : Int) k = ((a - a % 2 ^ k : Nat) : Int) := by
 unfold keep
 have : a % 2 ^ k ≤ a := Nat.mod_le _ _
 rw [Int.natCast_sub this, Int.natCast_emod, Int.natCast_pow]
 rfl
/-- The first b bits. -/
def clr (x : Bool) (v : Nat) (b : Int) : Nat := v - v % 2 ^ (wd x - b.toNat)
theorem clr_le (x : Bool) (v : Nat) (b : Int) : clr x v b ≤ v := Nat.sub_le _ _
theorem maskA_val (x : Bool) (h l b : Int) (ha : addrOk x h l = true) (hb0 : 0 ≤ b) (hb1 : b ≤ if x = true then 128 else 32) : maskA x h l b = mkA x (clr x (aval x h l) b) := by
 cases x
 ·simp only [Bool.false_eq_true, if_false] at hb1
  simp only [maskA, mkA, clr, aval, Bool.false_eq_true, if_false, wd_four]
  simp [addrOk] at ha
  obtain ⟨L, hL⟩ := Int.eq_ofNat_of_zero_le ha.2.1
  subst hL
  rw [show kFo b = 32 - b.toNat by unfold kFo; omega]
  rw [keep_nat]
  simp
 ·simp only [if_true] at hb1
  simp only [maskA, mkA, clr, aval, if_true, wd_six]
  obtain ⟨H, hH⟩ := Int.eq_ofNat_of_zero_le (show 0 ≤ h % 18446744073709551616 by omega)
  obtain ⟨L, hL⟩ := Int.eq_ofNat_of_zero_le (show 0 ≤ l % 18446744073709551616 by omega)
  have hHb : H < 18446744073709551616 := by omega
  have hLb : L < 18446744073709551616 := by omega
  rw [hH, hL]
  rw [keep_nat, keep_nat]
  simp only [Int.toNat_natCast]
  by_cases hb : b ≤ 64
  ·rw [show kHi b = 64 - b.toNat by unfold kHi; omega, show kLo b = 64 by unfold kLo; omega, show 128 - b.toNat = 64 + (64 - b.toNat) by omega, mod_hi H L _ hLb]
   have hm := Nat.mod_le H (2 ^ (64 - b.toNat))
   rw [show L % 2 ^ 64 = L by rw [two64]; omega]
   have e1 : (H * 18446744073709551616 + L - (H % 2 ^ (64 - b.toNat) * 18446744073709551616 + L)) / 18446744073709551616 = H - H % 2 ^ (64 - b.toNat) := by omega
   have e2 : (H * 18446744073709551616 + L - (H % 2 ^ (64 - b.toNat) * 18446744073709551616 + L)) % 18446744073709551616 = L - L := by omega
   rw [e1, e2]
  ·rw [show kHi b = 0 by unfold kHi; omega, show kLo b = 128 - b.toNat by unfold kLo; omega, mod_lo H L _ (by omega)]
   have hm := Nat.mod_le L (2 ^ (128 - b.toNat))
   have e1 : (H * 18446744073709551616 + L - L % 2 ^ (128 - b.toNat)) / 18446744073709551616 = H - H % 2 ^ 0 := by
    rw [Nat.pow_zero, Nat.mod_one]
    omega
   have e2 : (H * 18446744073709551616 + L - L % 2 ^ (128 - b.toNat)) % 18446744073709551616 = L - L % 2 ^ (128 - b.toNat) := by omega
   rw [e1, e2]
/-- The prefix of so many bits that has an address. -/
def prefixOf (x : Bool) (h l b : Int) : Bool × Int × Int × Int × Bool :=
 if addrOk x h l = true ∧ 0 ≤ b ∧ (b ≤ if x = true then 128 else 32) then ((maskA x h l b).1, (maskA x h l b).2.1, (maskA x h l b).2.2, b, true) else (false, 0, 0, 0, false)
theorem spec_PrefixOf_e (x : Bool) (h l b : Int) : spec_PrefixOf.f x h l b = some (prefixOf x h l b) := by
 unfold spec_PrefixOf.f prefixOf
 simp only [spec_AddrOk_e, Option.bind_some, spec_l2Width_e, l1In_e]
 by_cases ha : addrOk x h l = true
 ·simp only [ha, Bool.not_true, true_and]
  by_cases hb : 0 ≤ b ∧ b ≤ if x = true then 128 else 32
  ·simp only [decide_eq_true hb, if_pos hb, spec_l2Mask_e x h l b hb.1 hb.2 (fun hx => (addrOk_four ha hx).2)]
   simp
  ·simp only [decide_eq_false hb, if_neg hb]
   simp
 ·simp [Bool.eq_false_iff.mpr ha]

theorem mkA_in (x : Bool) (v : Nat) (h : v < 2 ^ wd x) : in64 (mkA x v).2.1 ∧ in64 (mkA x v).2.2 := by
 cases x
 ·rw [wd_four, two32] at h
  simp only [mkA, Bool.false_eq_true, if_false]
  exact ⟨in64_zero, by unfold in64; omega⟩
 ·simp only [mkA, if_true]
  exact ⟨wrap_is _, wrap_is _⟩

theorem prefixOf_in (x : Bool) (h l b : Int) (hh : in64 h) (hl : in64 l) : in64 (prefixOf x h l b).2.1 ∧ in64 (prefixOf x h l b).2.2.1 := by
 unfold prefixOf
 by_cases hc : addrOk x h l = true ∧ 0 ≤ b ∧ (b ≤ if x = true then 128 else 32)
 ·rw [if_pos hc, maskA_val x h l b hc.1 hc.2.1 hc.2.2]
  exact mkA_in x _ (Nat.lt_of_le_of_lt (clr_le x _ _) (aval_lt x h l hc.1))
 ·rw [if_neg hc]
  exact ⟨in64_zero, in64_zero⟩
theorem l1Draw_ok (b : List Int) (hb : Code b) (i k : Int) (hc : Cur b i) : ∃ x h l i' k', spec_l1Draw.f b i k = some (x, h, l, i', k') ∧ Cur b i' ∧ in64 h ∧ in64 l ∧ addrOk x h l = true := by
 unfold spec_l1Draw.f
 obtain ⟨v0, i0, k0, e0, c0⟩ := l1Once_ok b hb i k 2 hc
 rw [e0, Option.bind_some]
 cases v0
 ·simp only [Bool.false_eq_true, if_false]
  obtain ⟨v1, i1, k1, e1, c1, p1⟩ := l1Odd_ok b hb i0 k0 c0
  rw [e1, Option.bind_some]
  obtain ⟨v2, i2, k2, e2, c2, p2⟩ := l1Int_in b hb i1 k1 c1 [0, 2306139568115548160, (-108086391056891904), (-1), 1, 65536, v1] (by simp) in64 (by simp only [List.mem_cons, List.not_mem_nil, or_false]; intro z hz; unfold in64 at *; omega)
  rw [e2, Option.bind_some]
  obtain ⟨v3, i3, k3, e3, c3, p3, p3'⟩ := l1Below_ok b hb i2 k2 70000 c2
  have p3'' := p3' (by decide)
  rw [e3, Option.bind_some]
  obtain ⟨v4, i4, k4, e4, c4, p4⟩ := l1Odd_ok b hb i3 k3 c3
  rw [e4, Option.bind_some]
  obtain ⟨v5, i5, k5, e5, c5, p5⟩ := l1Int_in b hb i4 k4 c4 [0, 1, (-1), 65536, 4294967296, v3, v4] (by simp) in64 (by simp only [List.mem_cons, List.not_mem_nil, or_false]; intro z hz; unfold in64 at *; omega)
  rw [e5, Option.bind_some]
  exact ⟨_, _, _, _, _, rfl, c5, p2, p5, rfl⟩
 ·simp only [if_true]
  obtain ⟨v1, i1, k1, e1, c1, p1, p1'⟩ := l1Below_ok b hb i0 k0 300 c0
  have p1'' := p1' (by decide)
  rw [e1, Option.bind_some]
  obtain ⟨v2, i2, k2, e2, c2, p2, p2'⟩ := l1Below_ok b hb i1 k1 65536 c1
  have p2'' := p2' (by decide)
  rw [e2, Option.bind_some]
  obtain ⟨v3, i3, k3, e3, c3, p3, p3'⟩ := l1Below_ok b hb i2 k2 20 c2
  have p3'' := p3' (by decide)
  rw [e3, Option.bind_some]
  obtain ⟨v5, i5, k5, e5, c5, p5⟩ := l1Int_in b hb i3 k3 c3 [0, 1, 4294967295, 167772160, wrap64 (167772160 + v1), wrap64 (3232235520 + v2), wrap64 (4294967295 - v3)] (by simp) (fun z => 0 ≤ z ∧ z ≤ 4294967295) (by
   rw [w64 (x := 167772160 + v1) (by omega) (by omega), w64 (x := 3232235520 + v2) (by omega) (by omega), w64 (x := 4294967295 - v3) (by omega) (by omega)]
   simp only [List.mem_cons, List.not_mem_nil, or_false]; intro z hz; omega)
  rw [e5, Option.bind_some]
  refine ⟨_, _, _, _, _, rfl, c5, in64_zero, by unfold in64; omega, ?_⟩
  simp [addrOk, p5]
theorem l2Draw_ok (b : List Int) (hb : Code b) (i k : Int) (hc : Cur b i) : ∃ x h l n i' k', spec_l2Draw.f b i k = some (x, h, l, n, i', k') ∧ Cur b i' ∧ in64 h ∧ in64 l := by
 unfold spec_l2Draw.f
 obtain ⟨x, h, l, i0, k0, e0, c0, p0, q0, r0⟩ := l1Draw_ok b hb i k hc
 rw [e0, Option.bind_some]
 obtain ⟨v1, i1, k1, e1, c1, p1⟩ := l1Int_ok b hb i0 k0 c0 [24, 26, 28, 30, 32, 8, 16, 0, 31] (by decide)
 rw [e1, Option.bind_some]
 cases x
 ·simp only [Bool.false_eq_true, if_false]
  rw [spec_PrefixOf_e, Option.bind_some]
  have hin := prefixOf_in false h l v1 p0 q0
  exact ⟨_, _, _, _, _, _, rfl, c1, hin.1, hin.2⟩
 ·simp only [if_true]
  obtain ⟨v2, i2, k2, e2, c2, p2⟩ := l1Int_ok b hb i1 k1 c1 [64, 48, 112, 120, 126, 127, 128, 0, 63, 65, 1] (by decide)
  rw [e2, Option.bind_some, spec_PrefixOf_e, Option.bind_some]
  have hin := prefixOf_in true h l v2 p0 q0
  exact ⟨_, _, _, _, _, _, rfl, c2, hin.1, hin.2⟩
theorem l1DrawAny_ok (b : List Int) (hb : Code b) (i k : Int) (hc : Cur b i) : ∃ x h l i' k', spec_l1DrawAny.f b i k = some (x, h, l, i', k') ∧ Cur b i' ∧ in64 h ∧ in64 l := by
 unfold spec_l1DrawAny.f
 obtain ⟨x, h, l, i0, k0, e0, c0, p0, q0, r0⟩ := l1Draw_ok b hb i k hc
 rw [e0, Option.bind_some]
 obtain ⟨v1, i1, k1, e1, c1, p1⟩ := l1Below_ok b hb i0 k0 16 c0
 rw [e1, Option.bind_some]
 by_cases z0 : v1 = 0
 ·rw [if_pos z0]; exact ⟨_, _, _, _, _, rfl, c1, p0, q0⟩
 ·rw [if_neg z0]
  by_cases z1 : v1 = 1
  ·obtain ⟨v2, i2, k2, e2, c2, p2⟩ := l1Odd_ok b hb i1 k1 c1
   rw [if_pos z1, e2, Option.bind_some]
   exact ⟨_, _, _, _, _, rfl, c2, p0, p2⟩
  ·rw [if_neg z1]; exact ⟨_, _, _, _, _, rfl, c1, p0, q0⟩
theorem l2DrawAny_ok (b : List Int) (hb : Code b) (i k : Int) (hc : Cur b i) : ∃ x h l n i' k', spec_l2DrawAny.f b i k = some (x, h, l, n, i', k') ∧ Cur b i' ∧ in64 h ∧ in64 l := by
 unfold spec_l2DrawAny.f
 obtain ⟨x, h, l, n, i0, k0, e0, c0, p0, q0⟩ := l2Draw_ok b hb i k hc
 rw [e0, Option.bind_some]
 obtain ⟨v1, i1, k1, e1, c1, p1⟩ := l1Below_ok b hb i0 k0 12 c0
 rw [e1, Option.bind_some]
 by_cases z0 : v1 = 0
 ·obtain ⟨x2, h2, l2, i2, k2, e2, c2, p2, q2⟩ := l1DrawAny_ok b hb i1 k1 c1
  rw [if_pos z0, e2, Option.bind_some]
  exact ⟨_, _, _, _, _, _, rfl, c2, p2, q2⟩
 ·rw [if_neg z0]
  by_cases z1 : v1 = 1
  ·obtain ⟨v2, i2, k2, e2, c2, p2⟩ := l1Int_ok b hb i1 k1 c1 [(-1), 0, 32, 33, 128, 129] (by decide)
   rw [if_pos z1, e2, Option.bind_some]
   exact ⟨_, _, _, _, _, _, rfl, c2, p0, q0⟩
  ·rw [if_neg z1]; exact ⟨_, _, _, _, _, _, rfl, c1, p0, q0⟩

def placeOf (x : Bool) (h l b : Int) (y : Bool) (g m : Int) : Int × Bool := if hasA x h l b y g m = true then gapTo x h l y g m else (0, false)
theorem impl_PlaceOf_ev (x : Bool) (h l b : Int) (y : Bool) (g m : Int) (hh : in64 h) (hl : in64 l) (hg : in64 g) (hm : in64 m) : Ev (fun k => impl_PlaceOf.f k x h l b y g m) (placeOf x h l b y g m) := by
 refine Ev.val (impl_HasAddr_e x h l b y g m) ?_
 unfold placeOf
 by_cases ha : hasA x h l b y g m = true
 ·exact Ev.mid (if_pos ha).symm (Ev.ite_pos ha (Ev.bind (impl_GapTo_ev x h l y g m hh hl hg hm) (Ev.now _)))
 ·exact Ev.mid (if_neg ha).symm (Ev.ite_neg ha (Ev.now _))

theorem findA_ok (l : List S29) (x : Bool) (h lo b : Int) (d : Nat) : ∀ i : Nat, (findA l x h lo b d i).2.2.2 = true →
  ∃ n, i ≤ n ∧ n < i + d ∧ (nthOf x h lo b (n : Int)).2.2.2 = true ∧ findA l x h lo b d i = ((nthA x h lo b n).1, (nthA x h lo b n).2.1, (nthA x h lo b n).2.2, true) ∧ takenBy l (nthA x h lo b n) = false ∧
   ∀ j, i ≤ j → j < n → (nthOf x h lo b (j : Int)).2.2.2 = true ∧ takenBy l (nthA x h lo b j) = true := by
 induction d with
 | zero => intro i h; simp [findA] at h
 | succ d ih =>
  intro i hf
  unfold findA at hf ⊢
  by_cases ok : (nthOf x h lo b (i : Int)).2.2.2 = true
  ·rw [if_pos ok] at hf ⊢
   by_cases ht : takenBy l (nthA x h lo b i) = true
   ·rw [if_pos ht] at hf ⊢
    obtain ⟨n, h1, h2, h3, h4, h5, h6⟩ := ih (i + 1) hf
    refine ⟨n, by omega, by omega, h3, h4, h5, fun j hj hjn => ?_⟩
    rcases Nat.lt_or_ge i j with h7 | h7
    ·exact h6 j (by omega) hjn
    ·obtain rfl : j = i := by omega
     exact ⟨ok, ht⟩
   ·rw [if_neg ht]
    exact ⟨i, Nat.le_refl _, by omega, ok, rfl, Bool.eq_false_iff.mpr ht, fun j hj hjn => by omega⟩
  ·rw [if_neg ok] at hf; cases hf
theorem nthOf_parts (x : Bool) (h l b n : Int) (ok : (nthOf x h l b n).2.2.2 = true) : prefOk x h l b = true ∧ hasA x h l b (nthOf x h l b n).1 (nthOf x h l b n).2.1 (nthOf x h l b n).2.2.1 = true := by
 unfold nthOf at ok ⊢
 by_cases h1 : prefOk x h l b = true
 ·rw [if_pos h1] at ok ⊢
  by_cases h2 : (addTo x h l n).2.2.2 = true
  ·rw [if_pos h2] at ok ⊢
   by_cases h3 : hasA x h l b (addTo x h l n).1 (addTo x h l n).2.1 (addTo x h l n).2.2.1 = true
   ·rw [if_pos h3]
    exact ⟨h1, h3⟩
   ·rw [if_neg h3] at ok; cases ok
  ·rw [if_neg h2] at ok; cases ok
 ·rw [if_neg h1] at ok; cases ok
/-- The place of a prefix's n-th address is n. -/
theorem placeOf_nth (x : Bool) (h l b : Int) (n : Nat) (hh : in64 h) (hl : in64 l) (hn : in64 (n : Int)) (ok : (nthOf x h l b (n : Int)).2.2.2 = true) : placeOf x h l b (nthA x h l b n).1 (nthA x h l b n).2.1 (nthA x h l b n).2.2 = ((n : Int), true) := by
 obtain ⟨hp, ha⟩ := nthOf_parts x h l b n ok
 obtain ⟨hv, _, _, hok⟩ := nthOf_val x h l b n hh hl hn ok
 have hx : (nthOf x h l b (n : Int)).1 = x := by
  simp only [hasA, Bool.and_eq_true, beq_iff_eq] at ha
  exact ha.2.2.1
 unfold placeOf nthA
 rw [if_pos ha]
 unfold gapTo
 rw [rightA_ok hok, rightA_ok (prefOk_bits hp).1]
 rw [rightA_ok (prefOk_bits hp).1] at hv
 unfold gapR
 have hn2 := hn.2
 rw [if_pos ⟨hx.symm, by omega, by omega⟩]
 rw [hv]
 refine Prod.ext ?_ rfl
 show valR (x, h, l) + (n : Int) - valR (x, h, l) = (n : Int)
 omega
theorem cmpR_self (p : Bool × Int × Int) : cmpR p p = 0 := by
 obtain ⟨p0, p1, p2⟩ := p
 cases p0 <;> simp [cmpR, cmpI]
/-- Of right addresses: alike in a comparison is the same. -/
theorem cmpA_eq (x : Bool) (h l : Int) (y : Bool) (g m : Int) (hh : in64 h) (hl : in64 l) (hg : in64 g) (hm : in64 m) (ha : addrOk x h l = true) (hb : addrOk y g m = true) : (cmpA x h l y g m = 0) ↔ (x = y ∧ h = g ∧ l = m) := by
 unfold cmpA
 rw [rightA_ok ha, rightA_ok hb]
 constructor
 ·intro hz
  have := cmpR_zero hz
  simp only [keyR, Prod.mk.injEq] at this
  exact ⟨this.1, u_inj hh hg this.2.1, u_inj hl hm this.2.2⟩
 ·rintro ⟨rfl, rfl, rfl⟩
  exact cmpR_self _
def sameA (l : List S29) (q : Bool × Int × Int) : Bool := l.any fun e => e.f0 == q.1 && (e.f1 == q.2.1 && (e.f2 == q.2.2))
theorem sameA_taken (l : List S29) (hw : ∀ e ∈ l, in64 e.f1 ∧ in64 e.f2 ∧ addrOk e.f0 e.f1 e.f2 = true) (q : Bool × Int × Int) (h1 : in64 q.2.1) (h2 : in64 q.2.2) (h3 : addrOk q.1 q.2.1 q.2.2 = true) : sameA l q = takenBy l q := by
 unfold sameA takenBy
 rw [Bool.eq_iff_iff, List.any_eq_true, List.any_eq_true]
 constructor
 ·rintro ⟨e, he, hc⟩
  obtain ⟨w1, w2, w3⟩ := hw e he
  refine ⟨e, he, decide_eq_true ((cmpA_eq _ _ _ _ _ _ w1 w2 h1 h2 w3 h3).2 ?_)⟩
  simpa using hc
 ·rintro ⟨e, he, hc⟩
  obtain ⟨w1, w2, w3⟩ := hw e he
  have := (cmpA_eq _ _ _ _ _ _ w1 w2 h1 h2 w3 h3).1 (of_decide_eq_true hc)
  exact ⟨e, he, by simp [this.1, this.2.1, this.2.2]⟩
theorem DrawFirstAddr_l0 (c : List Int) (hc : Code c) (x : Bool) (h lo b : Int) (hh : in64 h) (hl : in64 lo) (d : Nat) : ∀ (acc : List S29) (i k : Int), Cur c i → acc.length + d ≤ 100 → (∀ e ∈ acc, in64 e.f1 ∧ in64 e.f2 ∧ addrOk e.f0 e.f1 e.f2 = true) →
  ∃ used : List S29, Ev (fun z => spec_DrawFirstAddr.l0 z acc (d : Int) c i k x h lo b) (x, h, lo, b, used) ∧ used.length ≤ 301 ∧ (∀ e ∈ used, in64 e.f1 ∧ in64 e.f2 ∧ addrOk e.f0 e.f1 e.f2 = true) := by
 induction d with
 | zero =>
  intro acc i k hcur hlen hacc
  obtain ⟨v, i1, k1, e1, c1⟩ := l1Once_ok c hc i k 40 hcur
  cases v
  ·refine ⟨acc, Ev.step (f := fun _ => some _) (fun z => ?_) (Ev.now _), by omega, hacc⟩
   rw [spec_DrawFirstAddr.l0, if_neg (by omega), e1, Option.bind_some, if_neg (by simp)]
  ·refine ⟨List.replicate 301 z29, Ev.step (f := fun _ => some _) (fun z => ?_) (Ev.now _), Nat.le_of_eq (List.length_replicate), fun e he => ?_⟩
   ·rw [spec_DrawFirstAddr.l0, if_neg (by omega), e1, Option.bind_some, if_pos rfl, if_pos (by decide)]
   ·obtain rfl := (List.mem_replicate.1 he).2
    exact ⟨in64_zero, in64_zero, by decide⟩
 | succ d ih =>
  intro acc i k hcur hlen hacc
  obtain ⟨v, i1, k1, e1, c1, p0, p1⟩ := l1Below_ok c hc i k 8 hcur
  have p2 := p1 (by decide)
  have hv : in64 v := by unfold in64; omega
  have hd : wrap64 (((d + 1 : Nat) : Int) - 1) = (d : Int) := by rw [w64 (by omega) (by omega)]; omega
  by_cases ok : (addTo x h lo v).2.2.2 = true
  ·obtain ⟨_, hr, ha⟩ := addR_val (rightA x h lo) (rightA_right x h lo hh hl) v hv ok
   obtain ⟨used, g1, g2, g3⟩ := ih (acc ++ [⟨(addTo x h lo v).1, (addTo x h lo v).2.1, (addTo x h lo v).2.2.1⟩]) i1 k1 c1 (by simp; omega) (fun e he => by
    rcases List.mem_append.1 he with he | he
    ·exact hacc e he
    ·rw [List.mem_singleton] at he
     subst he
     exact ⟨hr.hi, hr.lo, ha⟩)
   refine ⟨used, Ev.step (fun z => ?_) g1, g2, g3⟩
   rw [spec_DrawFirstAddr.l0, if_pos (by omega), e1, Option.bind_some, spec_AddTo_e x h lo v hh hl hv, Option.bind_some, if_pos ok, if_pos (by omega), hd]
  ·obtain ⟨used, g1, g2, g3⟩ := ih acc i1 k1 c1 (by omega) hacc
   refine ⟨used, Ev.step (fun z => ?_) g1, g2, g3⟩
   rw [spec_DrawFirstAddr.l0, if_pos (by omega), e1, Option.bind_some, spec_AddTo_e x h lo v hh hl hv, Option.bind_some, if_neg ok, hd]
theorem DrawFirstAddr_ev (c : List Int) (hc : Code c) : ∃ x h lo b used, Ev (fun z => spec_DrawFirstAddr.f z c) (x, h, lo, b, used) ∧ in64 h ∧ in64 lo ∧ used.length ≤ 301 ∧ (∀ e ∈ used, in64 e.f1 ∧ in64 e.f2 ∧ addrOk e.f0 e.f1 e.f2 = true) := by
 obtain ⟨k0, e0⟩ := l1New_ev c hc
 obtain ⟨x, h, lo, b, i1, k1, e1, c1, hh, hl⟩ := l2DrawAny_ok c hc 0 k0 (cur0 c)
 obtain ⟨v, i2, k2, e2, c2, p0, p1⟩ := l1Below_ok c hc i1 k1 10 c1
 have p2 := p1 (by decide)
 obtain ⟨n, rfl⟩ := Int.eq_ofNat_of_zero_le p0
 obtain ⟨used, g1, g2, g3⟩ := DrawFirstAddr_l0 c hc x h lo b hh hl n [] i2 k2 c2 (by simp; omega) (by simp)
 exact ⟨x, h, lo, b, used, Ev.bind e0 (Ev.val e1 (Ev.val e2 g1)), hh, hl, g2, g3⟩

theorem law_l1 (l : List S29) (hlen : l.length ≤ 301) (n i : Int) (x : Bool) (h lo b : Int) (q : Bool × Int × Int) (R : Bool) (hR : Ev (fun k => laws_FnFirstAddr.l0 k l n (wrap64 (i + 1)) x h lo b) R) (d : Nat) : ∀ (j : Nat) (u : Bool), j + d = l.length →
  Ev (fun k => laws_FnFirstAddr.l1 k l n i u (j : Int) x h lo b q.1 q.2.1 q.2.2) (if ((u || sameA (l.drop j) q) != decide (i < n)) = true then false else R) := by
 induction d with
 | zero =>
  intro j u hj
  rw [List.drop_eq_nil_of_le (by omega)]
  simp only [sameA, List.any_nil, Bool.or_false]
  by_cases hc : (u != decide (i < n)) = true
  ·rw [if_pos hc]
   exact Ev.step (f := fun _ => some _) (fun k => by rw [laws_FnFirstAddr.l1, if_neg (by omega), if_pos hc]) (Ev.now _)
  ·rw [if_neg hc]
   exact Ev.step (fun k => by rw [laws_FnFirstAddr.l1, if_neg (by omega), if_neg hc]) hR
 | succ d ih =>
  intro j u hj
  have hlt : j < l.length := by omega
  have hcast : wrap64 ((j : Int) + 1) = ((j + 1 : Nat) : Int) := by rw [w64 (by omega) (by omega)]; omega
  cases u
  ·refine Ev.step (fun k => ?_) (Ev.mid ?_ (ih (j + 1) (l[j].f0 == q.1 && (l[j].f1 == q.2.1 && (l[j].f2 == q.2.2))) (by omega)))
   ·rw [laws_FnFirstAddr.l1, if_pos (by omega), if_neg (by decide), if_pos (by omega), rd_A l j hlt, hcast]
   ·rw [List.drop_eq_getElem_cons hlt]
    simp only [sameA, List.any_cons, Bool.false_or]
    rfl
  ·refine Ev.step (fun k => ?_) (Ev.mid ?_ (ih (j + 1) true (by omega)))
   ·rw [laws_FnFirstAddr.l1, if_pos (by omega), if_pos rfl, hcast]
   ·simp
theorem law_l0 (l : List S29) (hlen : l.length ≤ 301) (hw : ∀ e ∈ l, in64 e.f1 ∧ in64 e.f2 ∧ addrOk e.f0 e.f1 e.f2 = true) (x : Bool) (h lo b : Int) (hh : in64 h) (hl : in64 lo) (n : Nat) (hn : n ≤ 301)
  (hf : takenBy l (nthA x h lo b n) = false) (ok : (nthOf x h lo b (n : Int)).2.2.2 = true) (H : ∀ j, j < n → (nthOf x h lo b (j : Int)).2.2.2 = true ∧ takenBy l (nthA x h lo b j) = true) (d : Nat) : ∀ i : Nat, i + d = n + 1 →
  Ev (fun k => laws_FnFirstAddr.l0 k l (n : Int) (i : Int) x h lo b) true := by
 induction d with
 | zero =>
  intro i hi
  exact Ev.step (f := fun _ => some _) (fun k => by rw [laws_FnFirstAddr.l0, if_neg (by omega)]) (Ev.now _)
 | succ d ih =>
  intro i hi
  have h64 : in64 (i : Int) := by unfold in64; omega
  have hcast : wrap64 ((i : Int) + 1) = ((i + 1 : Nat) : Int) := by rw [w64 (by omega) (by omega)]; omega
  have hok : (nthOf x h lo b (i : Int)).2.2.2 = true := by
   rcases Nat.lt_or_ge i n with h1 | h1
   ·exact (H i h1).1
   ·obtain rfl : i = n := by omega
    exact ok
  obtain ⟨_, v1, v2, v3⟩ := nthOf_val x h lo b i hh hl h64 hok
  have hs : sameA l (nthA x h lo b i) = decide ((i : Int) < (n : Int)) := by
   rw [sameA_taken l hw (nthA x h lo b i) v1 v2 v3]
   rcases Nat.lt_or_ge i n with h1 | h1
   ·rw [(H i h1).2, decide_eq_true (by omega)]
   ·obtain rfl : i = n := by omega
    rw [hf, decide_eq_false (by omega)]
  have := law_l1 l hlen n i x h lo b (nthA x h lo b i) true (by rw [hcast]; exact ih (i + 1) (by omega)) l.length 0 false (by omega)
  refine Ev.step (fun k => ?_) (Ev.mid ?_ this)
  ·rw [laws_FnFirstAddr.l0, if_pos (by omega), impl_NthOf_e x h lo b i hh hl h64, Option.bind_some]; rfl
  ·rw [List.drop_zero, Bool.false_or, hs, if_neg (by simp)]
theorem FnFirstAddr (c : List Int) (hb : ∀ x ∈ c, (Lit.int .u8 x).wf = true) : ∃ k, laws_FnFirstAddr.f k c = some true := by
 refine Ev.rounds ?_
 refine Ev.val (o := laws_big.f c) rfl ?_
 by_cases hbig : (c.length : Int) > 1048576
 ·exact Ev.ite_pos (decide_eq_true hbig) (Ev.now true)
 refine Ev.ite_neg (by simpa using hbig) ?_
 have hc : Code c := ⟨fun x hx => wf8 (hb x hx), by omega⟩
 obtain ⟨x, h, lo, b, used, e0, hh, hl, hlen, hw⟩ := DrawFirstAddr_ev c hc
 refine Ev.bind e0 ?_
 refine Ev.bind (impl_FirstAddr_ev used x h lo b hh hl) ?_
 refine Ev.bind (spec_FirstAddr_ev used (fun e he => ⟨(hw e he).1, (hw e he).2.1⟩) x h lo b hh hl) ?_
 refine Ev.ite_neg (by simp) ?_
 by_cases ok : (firstA x h lo b used).2.2.2 = true
 ·have hfa : firstA x h lo b used = findA used x h lo b (used.length + 1) 0 := by
   unfold firstA at ok ⊢
   split at ok
   ·rename_i hcond; rw [if_pos hcond]
   ·cases ok
  rw [hfa] at ok ⊢
  obtain ⟨n, _, h2, h3, h4, h5, h6⟩ := findA_ok used x h lo b _ 0 ok
  rw [h4]
  have h64 : in64 (n : Int) := by unfold in64; omega
  obtain ⟨_, v1, v2, v3⟩ := nthOf_val x h lo b n hh hl h64 h3
  have hpl := impl_PlaceOf_ev x h lo b (nthA x h lo b n).1 (nthA x h lo b n).2.1 (nthA x h lo b n).2.2 hh hl v1 v2
  rw [placeOf_nth x h lo b n hh hl h64 h3] at hpl
  refine Ev.step (fun k => by rw [laws_FnFirstAddr.j0, if_neg (by simp)]) ?_
  refine Ev.bind hpl (Ev.ite_pos rfl ?_)
  exact law_l0 used hlen hw x h lo b hh hl n (by omega) h5 h3 (fun j hj => h6 j (by omega) hj) (n + 1) 0 (by omega)
 ·have ok' := Bool.eq_false_iff.mpr ok
  rw [ok']
  exact Ev.step (f := fun _ => some _) (fun k => by rw [laws_FnFirstAddr.j0, if_pos (by decide)]; rfl) (Ev.now _)

end Go.Proofs.Ythakdhdoeejkmaa.Pure
