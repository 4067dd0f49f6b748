/-
The pure part of the statement FnExactUnframe: what the printed functions answer is true at every input.
Conditions: none but the kinds' own bounds, as the printed statement has them.
-/
import Derived.Test.YtigmadccchofiaaQFnExactUnframex0
import Derived.Test.YtigmadccchofiaaQFnExactUnframex1
import Derived.Test.YtigmadccchofiaaQFnExactUnframex2
import Derived.Test.YtigmadccchofiaaQFnExactUnframex3
import Derived.Test.YtigmadccchofiaaQFnExactUnframex4
import Derived.Test.YtigmadccchofiaaQFnExactUnframex5
import Derived.Test.YtigmadccchofiaaQFnExactUnframex6
namespace Go.Proofs.Ytigmadccchofiaa.Pure
open Go.RowKit Go.Proofs.Ytigmadccchofiaa.QFnExactUnframe Go.Proofs.YtigmadccchofiaaW.PrintWords Go.Proofs.YtigmadccchofiaaW.PrintLast Go.Proofs.YtigmadccchofiaaW.PrintMore
set_option linter.unusedVariables false
set_option linter.unusedSimpArgs false

theorem wf64 {x : Int} (h : (Lit.int .i64 x).wf = true) : -9223372036854775808 ≤ x ∧ x ≤ 9223372036854775807 := by
  simpa [Lit.wf, IntKind.min, IntKind.max, IntKind.signed, IntKind.bits] using h
theorem wf8 {x : Int} (h : (Lit.int .u8 x).wf = true) : 0 ≤ x ∧ x ≤ 255 := by
  simpa [Lit.wf, IntKind.min, IntKind.max, IntKind.signed, IntKind.bits] using h
theorem w64 {x : Int} (h0 : -9223372036854775808 ≤ x) (h1 : x ≤ 9223372036854775807) : wrap64 x = x := by unfold wrap64; omega
theorem u64w (n : Int) : IntKind.u64.wrap n = n % 18446744073709551616 := by simp [IntKind.wrap, IntKind.bits, IntKind.signed]
theorem u64in {x : Int} (h0 : 0 ≤ x) (h1 : x < 18446744073709551616) : IntKind.u64.wrap x = x := by rw [u64w]; omega
theorem rd_get (xs : List Int) (i : Int) (j : Nat) (x : Int) (hi : i = j) (h : xs[j]? = some x) : rd xs i = x := by
  subst hi
  simp [rd, List.getD, h]
theorem Ev.mid {α : Type} {g : Nat → Option α} {a b : α} (h : a = b) (e : Ev g a) : Ev g b := h ▸ e
theorem Ev.const {α : Type} {g : Nat → Option α} {a : α} (h : ∀ k, g k = some a) : Ev g a := ⟨0, fun k _ => h k⟩
theorem Ev.ite_pos {α : Type} {c : Prop} [Decidable c] {g f : Nat → Option α} {r : α} (hc : c) (h : Ev g r) : Ev (fun k => if c then g k else f k) r := by
  simp only [if_pos hc]
  exact h
theorem Ev.ite_neg {α : Type} {c : Prop} [Decidable c] {g f : Nat → Option α} {r : α} (hc : ¬ c) (h : Ev f r) : Ev (fun k => if c then g k else f k) r := by
  simp only [if_neg hc]
  exact h
/-- A part that has no rounds. -/
theorem Ev.val {α β : Type} {o : Option α} {f : Nat → α → Option β} {a : α} {r : β} (h : o = some a) (k : Ev (fun n => f n a) r) : Ev (fun n => o.bind (f n)) r := by
  subst h
  exact k

theorem eqByteS_l0 (a : List Int) (hn : a.length ≤ 4611686018427387904) (d : Nat) : ∀ (i : Nat), i + d = a.length → Ev (fun k => laws_eqByteS.l0 k a a (i : Int)) true := by
  induction d with
  | zero =>
    intro i h
    exact Ev.step (f := fun _ => some true) (fun k => by rw [laws_eqByteS.l0, if_neg (by omega)]) (Ev.now true)
  | succ d ih =>
    intro i h
    refine Ev.step (fun k => ?_) (ih (i + 1) (by omega))
    rw [laws_eqByteS.l0, if_pos (by omega), if_pos (by omega), if_pos (by omega), if_pos rfl, w64 (by omega) (by omega)]
    rfl
theorem eqByteS_ev (a : List Int) (hn : a.length ≤ 4611686018427387904) : Ev (fun k => laws_eqByteS.f k a a) true := by
  refine Ev.congr (fun k => ?_) (eqByteS_l0 a hn a.length 0 (by omega))
  rw [laws_eqByteS.f, if_pos rfl]
  rfl

theorem toByteS_l0 (a : List Int) (hn : a.length ≤ 4611686018427387904) (d : Nat) : ∀ (i : Nat), i + d = a.length → Ev (fun k => laws_toByteS.l0 k a (a.take i ++ List.replicate d 0) (i : Int)) a := by
  induction d with
  | zero =>
    intro i h
    refine Ev.step (f := fun _ => some a) (fun k => ?_) (Ev.now a)
    rw [laws_toByteS.l0, if_neg (by omega)]
    simp [List.take_of_length_le (show a.length ≤ i by omega)]
  | succ d ih =>
    intro i h
    refine Ev.step (fun k => ?_) (ih (i + 1) (by omega))
    have hi : i < a.length := by omega
    rw [laws_toByteS.l0, if_pos (by omega), if_pos (by omega), if_pos (by simp; omega), w64 (by omega) (by omega)]
    have hr : rd a (i : Int) = a[i] := rd_get a i i _ rfl (List.getElem?_eq_getElem hi)
    have e : (a.take i ++ List.replicate (d + 1) 0).set (i : Int).toNat (rd a (i : Int)) = a.take (i + 1) ++ List.replicate d 0 := by
      have hl : (a.take i).length = i := by simp; omega
      rw [hr, List.take_succ_eq_append_getElem hi, List.set_append_right _ _ (by rw [hl]; simp), hl, List.append_assoc]
      simp [List.replicate_succ]
    rw [e]
    rfl
theorem toByteS_ev (a : List Int) (hn : a.length ≤ 281474976710656) : Ev (fun k => laws_toByteS.f k a) a := by
  refine Ev.congr (fun k => ?_) (toByteS_l0 a (by omega) a.length 0 (by omega))
  rw [laws_toByteS.f, if_pos (by omega), if_pos (by omega)]
  simp

def marks8 (m : Int) (n : Nat) : List Int := (List.range n).map fun i : Nat => (m + (i : Int)) % 256
theorem marks8_len (m : Int) (n : Nat) : (marks8 m n).length = n := by simp [marks8]
theorem marks8_succ (m : Int) (n : Nat) : marks8 m (n + 1) = marks8 m n ++ [(m + (n : Int)) % 256] := by simp [marks8, List.range_succ]
theorem markByteS_l0 (a : List Int) (m : Int) (hn : a.length ≤ 281474976710656) (h0 : 0 ≤ m) (h1 : m ≤ 281474976710656) (d : Nat) :
    ∀ (i : Nat), i + d = a.length → Ev (fun k => laws_markByteS.l0 k (marks8 m i ++ a.drop i) (m + (i : Int)) (i : Int)) (m + (a.length : Int), marks8 m a.length) := by
  induction d with
  | zero =>
    intro i h
    obtain rfl : i = a.length := by omega
    refine Ev.step (f := fun _ => some _) (fun k => ?_) (Ev.now _)
    rw [laws_markByteS.l0, if_neg (by simp [marks8_len])]
    simp
  | succ d ih =>
    intro i h
    refine Ev.step (fun k => ?_) (ih (i + 1) (by omega))
    have hi : i < a.length := by omega
    rw [laws_markByteS.l0, if_pos (by simp [marks8_len]; omega), if_pos (by omega), w64 (by omega) (by omega), w64 (by omega) (by omega)]
    have e : (marks8 m i ++ a.drop i).set (i : Int).toNat ((m + (i : Int)) % 256) = marks8 m (i + 1) ++ a.drop (i + 1) := by
      rw [marks8_succ, List.set_append_right _ _ (by simp [marks8_len]), List.append_assoc]
      congr 1
      rw [marks8_len, Int.toNat_natCast, Nat.sub_self]
      conv => lhs; rw [List.drop_eq_getElem_cons hi]
      rfl
    rw [e]
    congr 1
    omega
theorem markByteS_ev (a : List Int) (m : Int) (hn : a.length ≤ 281474976710656) (h0 : 0 ≤ m) (h1 : m ≤ 281474976710656) :
    Ev (fun k => laws_markByteS.f k a m) (m + (a.length : Int), marks8 m a.length) := by
  refine Ev.congr (fun k => ?_) (markByteS_l0 a m hn h0 h1 a.length 0 (by omega))
  rw [laws_markByteS.f]
  simp [marks8]
theorem heldByteS_l0 (n : Nat) (m : Int) (hn : n ≤ 281474976710656) (h0 : 0 ≤ m) (h1 : m ≤ 281474976710656) (d : Nat) :
    ∀ (i : Nat), i + d = n → Ev (fun k => laws_heldByteS.l0 k (marks8 m n) (m + (i : Int)) (i : Int)) (m + (n : Int)) := by
  induction d with
  | zero =>
    intro i h
    obtain rfl : i = n := by omega
    refine Ev.step (f := fun _ => some _) (fun k => ?_) (Ev.now _)
    rw [laws_heldByteS.l0, if_neg (by simp [marks8_len])]
  | succ d ih =>
    intro i h
    refine Ev.step (fun k => ?_) (ih (i + 1) (by omega))
    have hr : rd (marks8 m n) (i : Int) = (m + (i : Int)) % 256 := rd_get _ _ i _ rfl (by simp [marks8, show i < n by omega])
    rw [laws_heldByteS.l0, if_pos (by simp [marks8_len]; omega), if_pos (by omega), if_pos hr, w64 (by omega) (by omega), w64 (by omega) (by omega)]
    congr 1
    omega
theorem heldByteS_ev (n : Nat) (m : Int) (hn : n ≤ 281474976710656) (h0 : 0 ≤ m) (h1 : m ≤ 281474976710656) :
    Ev (fun k => laws_heldByteS.f k (marks8 m n) m) (m + (n : Int)) := by
  refine Ev.congr (fun k => ?_) (heldByteS_l0 n m hn h0 h1 n 0 (by omega))
  rw [laws_heldByteS.f]
  simp

theorem u64or (a b : Nat) (ha : a < 18446744073709551616) (hb : b < 18446744073709551616) : Go.bits .or .u64 (a : Int) (b : Int) = ((a ||| b : Nat) : Int) :=
  (Go.bits_nat .u64 64 (by decide) (fun n h0 h1 => by rw [u64w]; omega) a b ha hb).2
/-- Bits that stand apart: 'or' is the sum. -/
theorem u64or_low (x y : Int) (i : Nat) (hx0 : 0 ≤ x) (hx : x < 2 ^ i) (hy0 : 0 ≤ y) (hy : y % 2 ^ i = 0) (hy1 : y < 18446744073709551616) (hi : i ≤ 64) : Go.bits .or .u64 x y = x + y := by
  obtain ⟨a, rfl⟩ := Int.eq_ofNat_of_zero_le hx0
  obtain ⟨b, rfl⟩ := Int.eq_ofNat_of_zero_le hy0
  have ha : a < 2 ^ i := by exact_mod_cast hx
  have hb : b % 2 ^ i = 0 := by exact_mod_cast hy
  have h2 : (2 : Nat) ^ i ≤ 18446744073709551616 := by
    have := Nat.pow_le_pow_right (show 0 < 2 by decide) hi
    exact Nat.le_trans this (by decide)
  rw [u64or a b (by omega) (by omega), Nat.or_comm]
  have hq : b = 2 ^ i * (b / 2 ^ i) := by
    have := Nat.div_add_mod b (2 ^ i)
    omega
  rw [hq, ← Nat.two_pow_add_eq_or_of_lt ha (b / 2 ^ i)]
  omega
theorem u64or_high (x y : Int) (i : Nat) (hx0 : 0 ≤ x) (hx : x % 2 ^ i = 0) (hx1 : x < 18446744073709551616) (hy0 : 0 ≤ y) (hy : y < 2 ^ i) (hi : i ≤ 64) : Go.bits .or .u64 x y = x + y := by
  have e : Go.bits .or .u64 x y = Go.bits .or .u64 y x := by
    obtain ⟨a, rfl⟩ := Int.eq_ofNat_of_zero_le hx0
    obtain ⟨b, rfl⟩ := Int.eq_ofNat_of_zero_le hy0
    have hb : b < 2 ^ i := by exact_mod_cast hy
    have h2 : (2 : Nat) ^ i ≤ 18446744073709551616 := by
      have := Nat.pow_le_pow_right (show 0 < 2 by decide) hi
      exact Nat.le_trans this (by decide)
    rw [u64or a b (by omega) (by omega), u64or b a (by omega) (by omega), Nat.or_comm]
  rw [e, u64or_low y x i hy0 hy hx0 hx hx1 hi]
  omega

/-- What reading a short number tells: the number, the place behind it, is it whole, is it torn. i: how many bytes were read. -/
def scan : List Int → Nat → Nat → Int → Int × Int × Bool × Bool
  | [], _, i, _ => (0, 0, false, decide (i < 10))
  | c :: cs, p, i, x => if 10 ≤ i then (0, 0, false, false) else if i = 9 ∧ c > 1 then (0, 0, false, false) else
      if c < 128 then (wrap64 (x + (c % 128) * 128 ^ i), (p : Int) + 1, decide (c > 0 ∨ i = 0), false) else scan cs (p + 1) (i + 1) (x + (c % 128) * 128 ^ i)
theorem scan_bad {c : Int} {cs : List Int} {p i : Nat} {x : Int} (hi : i < 10) (h : i = 9 ∧ c > 1) : scan (c :: cs) p i x = (0, 0, false, false) := by rw [scan, if_neg (by omega), if_pos h]
theorem scan_low {c : Int} {cs : List Int} {p i : Nat} {x : Int} (hi : i < 10) (h : ¬ (i = 9 ∧ c > 1)) (hc : c < 128) : scan (c :: cs) p i x = (wrap64 (x + (c % 128) * 128 ^ i), (p : Int) + 1, decide (c > 0 ∨ i = 0), false) := by rw [scan, if_neg (by omega), if_neg h, if_pos hc]
theorem scan_next {c : Int} {cs : List Int} {p i : Nat} {x : Int} (hi : i < 10) (h : ¬ (i = 9 ∧ c > 1)) (hc : ¬ c < 128) : scan (c :: cs) p i x = scan cs (p + 1) (i + 1) (x + (c % 128) * 128 ^ i) := by rw [scan, if_neg (by omega), if_neg h, if_neg hc]
/-- The next state of the number. -/
theorem scan_or (x c : Int) (i : Nat) (hi : i < 10) (hx0 : 0 ≤ x) (hx : x < 128 ^ i) (hc0 : 0 ≤ c) (hc1 : c ≤ 255) (h9 : ¬ (i = 9 ∧ c > 1)) (n : Int) (hn : n = 7 * (i : Int)) :
    Go.bits .or .u64 x (shl .u64 (IntKind.u64.wrap (Int.tmod c 128)) n) = x + (c % 128) * 128 ^ i ∧ x + (c % 128) * 128 ^ i < 18446744073709551616 ∧ (i < 9 → x + (c % 128) * 128 ^ i < 128 ^ (i + 1)) := by
  subst hn
  rw [Int.tmod_eq_emod_of_nonneg hc0, u64in (by omega) (by omega)]
  have hp : (2 : Int) ^ (7 * i) = 128 ^ i := by rw [Int.pow_mul]; rfl
  have hmin : min (7 * (i : Int)).toNat IntKind.u64.bits = 7 * i := by
    have : IntKind.u64.bits = 64 := rfl
    omega
  unfold shl
  rw [hmin, hp]
  have h128 : (0 : Int) < 128 ^ i := Int.pow_pos (by decide)
  have hb : (c % 128) * 128 ^ i < 18446744073709551616 ∧ x + (c % 128) * 128 ^ i < 18446744073709551616 := by
    have : i = 0 ∨ i = 1 ∨ i = 2 ∨ i = 3 ∨ i = 4 ∨ i = 5 ∨ i = 6 ∨ i = 7 ∨ i = 8 ∨ i = 9 := by omega
    rcases this with rfl | rfl | rfl | rfl | rfl | rfl | rfl | rfl | rfl | rfl <;> simp at hx h9 ⊢ <;> omega
  have h0 : 0 ≤ (c % 128) * 128 ^ i := Int.mul_nonneg (by omega) (by omega)
  rw [u64in h0 hb.1]
  refine ⟨u64or_low _ _ (7 * i) hx0 (by rw [hp]; exact hx) h0 (by rw [hp]; exact Int.mul_emod_left _ _) hb.1 (by omega), hb.2, fun h => ?_⟩
  rw [Int.pow_succ]
  have : (c % 128) * 128 ^ i ≤ 127 * 128 ^ i := Int.mul_le_mul_of_nonneg_right (by omega) (by omega)
  omega
theorem drop_cons (l : List Int) (p : Nat) (h : p < l.length) : ∃ c cs, l.drop p = c :: cs ∧ l[p]? = some c ∧ cs = l.drop (p + 1) ∧ c ∈ l :=
  ⟨l[p], l.drop (p + 1), List.drop_eq_getElem_cons h, List.getElem?_eq_getElem h, rfl, List.getElem_mem h⟩
theorem impl_scanNum_l0 (l : List Int) (hl : l.length ≤ 4611686018427387904) (hb : ∀ c ∈ l, 0 ≤ c ∧ c ≤ 255) (at_ : Nat) (d : Nat) :
    ∀ (i : Nat) (x : Int), i + d = 10 → 0 ≤ x → (i ≤ 9 → x < 128 ^ i) → at_ ≤ l.length →
    Ev (fun k => impl_scanNum.l0 k l (at_ : Int) x (i : Int)) (scan (l.drop (at_ + i)) (at_ + i) i x) := by
  induction d with
  | zero =>
    intro i x h hx0 hx hat
    obtain rfl : i = 10 := by omega
    refine Ev.step (f := fun _ => some _) (fun k => ?_) (Ev.now _)
    rw [impl_scanNum.l0, if_neg (by omega)]
    cases hd : l.drop (at_ + 10) with
    | nil => rfl
    | cons c cs => simp [scan]
  | succ d ih =>
    intro i x h hx0 hx hat
    by_cases hlt : at_ + i < l.length
    · obtain ⟨c, cs, hd, hg, hcs, hm⟩ := drop_cons l (at_ + i) hlt
      have hc := hb c hm
      have hw : wrap64 ((at_ : Int) + (i : Int)) = ((at_ + i : Nat) : Int) := by rw [w64 (by omega) (by omega)]; omega
      have hr : rd l ((at_ + i : Nat) : Int) = c := rd_get l _ _ _ rfl hg
      have hw7 : wrap64 (7 * (i : Int)) = 7 * (i : Int) := w64 (by omega) (by omega)
      rw [hd]
      have head : ∀ k, impl_scanNum.l0 (k + 1) l (at_ : Int) x (i : Int) = impl_scanNum.j1 k l (at_ : Int) x (i : Int) c (i : Int) (decide (i = 9 ∧ c > 1)) := by
        intro k
        rw [impl_scanNum.l0, if_pos (by omega), hw, if_neg (by omega), if_pos (by omega), if_pos (by omega), hr]
        by_cases h9 : i = 9
        · rw [if_pos (by omega)]; simp [h9]
        · rw [if_neg (by omega)]; simp [h9]
      refine Ev.step head ?_
      by_cases hbad : i = 9 ∧ c > 1
      · refine Ev.step (f := fun _ => some _) (fun k => ?_) (Ev.now _)
        rw [scan_bad (by omega) hbad, impl_scanNum.j1, decide_eq_true hbad, if_pos rfl]
      · obtain ⟨e1, e2, e3⟩ := scan_or x c i (by omega) hx0 (hx (by omega)) hc.1 hc.2 hbad (7 * (i : Int)) rfl
        have hnn : 0 ≤ (c % 128) * 128 ^ i := Int.mul_nonneg (by omega) (Int.le_of_lt (Int.pow_pos (by decide)))
        by_cases hlow : c < 128
        · refine Ev.step (f := fun _ => some _) (fun k => ?_) (Ev.now _)
          rw [scan_low (by omega) hbad hlow, impl_scanNum.j1, decide_eq_false hbad, if_neg (by decide), hw7, if_pos (by omega), if_pos hlow, e1, hw, w64 (x := ((at_ + i : Nat) : Int) + 1) (by omega) (by omega)]
          by_cases h0 : c > 0
          · rw [if_pos h0, decide_eq_true (Or.inl h0)]
          · rw [if_neg h0]
            by_cases hi0 : i = 0
            · subst hi0; rw [decide_eq_true (Or.inr rfl)]; rfl
            · rw [decide_eq_false (by omega)]
              have : ((i : Int) == 0) = false := by simpa using hi0
              rw [this]
        · have hn := ih (i + 1) (x + (c % 128) * 128 ^ i) (by omega) (by omega) (fun h => e3 (by omega)) hat
          refine Ev.step (fun k => ?_) (Ev.mid ?_ hn)
          · rw [impl_scanNum.j1, decide_eq_false hbad, if_neg (by decide), hw7, if_pos (by omega), if_neg hlow, e1, w64 (x := (i : Int) + 1) (by omega) (by omega)]
            rfl
          · rw [scan_next (by omega) hbad hlow, hcs]
            rfl
    · refine Ev.step (f := fun _ => some _) (fun k => ?_) (Ev.now _)
      rw [impl_scanNum.l0, if_pos (by omega), w64 (x := (at_ : Int) + (i : Int)) (by omega) (by omega), if_pos (by omega), List.drop_eq_nil_of_le (by omega), scan, decide_eq_true (by omega)]
theorem impl_scanNum_ev (l : List Int) (hl : l.length ≤ 4611686018427387904) (hb : ∀ c ∈ l, 0 ≤ c ∧ c ≤ 255) (at_ : Nat) (hat : at_ ≤ l.length) :
    Ev (fun k => impl_scanNum.f k l (at_ : Int)) (scan (l.drop at_) at_ 0 0) :=
  impl_scanNum_l0 l hl hb at_ 10 0 0 rfl (by decide) (fun _ => by decide) hat
/-- The number that stands in l from a on. -/
def getNum (l : List Int) (a : Int) : Int × Int × Bool :=
  if 0 ≤ a ∧ a ≤ l.length then (if (scan (l.drop a.toNat) a.toNat 0 0).2.2.1 = true then ((scan (l.drop a.toNat) a.toNat 0 0).1, (scan (l.drop a.toNat) a.toNat 0 0).2.1, true) else (0, 0, false)) else (0, 0, false)
theorem fromE (a b c : Int) : impl_from.f a b c = some (decide (b ≤ a ∧ a ≤ c)) := by
  unfold impl_from.f
  by_cases h : a ≥ b
  · simp [if_pos h, h]
  · simp [if_neg h]; omega

theorem spec_GetNum_l0 (l : List Int) (hl : l.length ≤ 4611686018427387904) (hb : ∀ c ∈ l, 0 ≤ c ∧ c ≤ 255) (at_ : Nat) (d : Nat) :
    ∀ (i : Nat) (x : Int), i + d = 10 → 0 ≤ x → (i ≤ 9 → x < 128 ^ i) → at_ ≤ l.length →
    Ev (fun k => spec_GetNum.l0 k l (at_ : Int) x (i : Int)) (if (scan (l.drop (at_ + i)) (at_ + i) i x).2.2.1 = true then ((scan (l.drop (at_ + i)) (at_ + i) i x).1, (scan (l.drop (at_ + i)) (at_ + i) i x).2.1, true) else (0, 0, false)) := by
  induction d with
  | zero =>
    intro i x h hx0 hx hat
    obtain rfl : i = 10 := by omega
    have hs : (scan (l.drop (at_ + 10)) (at_ + 10) 10 x).2.2.1 = false := by
      cases hd : l.drop (at_ + 10) with
      | nil => rfl
      | cons c cs => simp [scan]
    rw [hs, if_neg (by decide)]
    refine Ev.step (f := fun k => spec_GetNum.j1 k l (at_ : Int) x ((10 : Nat) : Int) false) (fun k => ?_) (Ev.step (f := fun _ => some _) (fun k => ?_) (Ev.now _))
    · rw [spec_GetNum.l0, if_neg (by omega)]
    · rw [spec_GetNum.j1, if_neg (by decide)]
  | succ d ih =>
    intro i x h hx0 hx hat
    by_cases hlt : at_ + i < l.length
    · obtain ⟨c, cs, hd, hg, hcs, hm⟩ := drop_cons l (at_ + i) hlt
      have hc := hb c hm
      have hw : wrap64 ((at_ : Int) + (i : Int)) = ((at_ + i : Nat) : Int) := by rw [w64 (by omega) (by omega)]; omega
      have hr : rd l ((at_ + i : Nat) : Int) = c := rd_get l _ _ _ rfl hg
      have hw7 : wrap64 (7 * (i : Int)) = 7 * (i : Int) := w64 (by omega) (by omega)
      have hw8 : IntKind.u64.wrap (7 * (i : Int)) = 7 * (i : Int) := u64in (by omega) (by omega)
      rw [hd]
      have head : ∀ k, spec_GetNum.l0 (k + 1) l (at_ : Int) x (i : Int) = spec_GetNum.j1 k l (at_ : Int) x (i : Int) true := by
        intro k
        rw [spec_GetNum.l0, if_pos (by omega), if_pos (by omega), hw, decide_eq_true (by omega)]
      have next : ∀ k, spec_GetNum.j1 (k + 1) l (at_ : Int) x (i : Int) true = spec_GetNum.j2 k l (at_ : Int) x (i : Int) c (decide (i = 9 ∧ c > 1)) := by
        intro k
        rw [spec_GetNum.j1, if_pos rfl, hw, if_pos (by omega), if_pos (by omega), hr]
        by_cases h9 : i = 9
        · rw [if_pos (by omega)]; simp [h9]
        · rw [if_neg (by omega)]; simp [h9]
      refine Ev.step head (Ev.step next ?_)
      by_cases hbad : i = 9 ∧ c > 1
      · refine Ev.step (f := fun _ => some _) (fun k => ?_) (Ev.now _)
        rw [scan_bad (by omega) hbad, spec_GetNum.j2, decide_eq_true hbad, if_pos rfl, if_neg (by decide)]
      · obtain ⟨e1, e2, e3⟩ := scan_or x c i (by omega) hx0 (hx (by omega)) hc.1 hc.2 hbad (7 * (i : Int)) rfl
        have hnn : 0 ≤ (c % 128) * 128 ^ i := Int.mul_nonneg (by omega) (Int.le_of_lt (Int.pow_pos (by decide)))
        by_cases hlow : c < 128
        · refine Ev.step (f := fun _ => some _) (fun k => ?_) (Ev.now _)
          rw [scan_low (by omega) hbad hlow, spec_GetNum.j2, decide_eq_false hbad, if_neg (by decide), hw7, hw8, if_pos (by omega), if_pos hlow, e1, hw, w64 (x := ((at_ + i : Nat) : Int) + 1) (by omega) (by omega)]
          by_cases hi0 : (i : Int) > 0
          · rw [if_pos hi0]
            by_cases h0 : c = 0
            · rw [if_pos h0, if_neg]
              simp; omega
            · rw [if_neg h0, if_pos]
              simp; omega
          · rw [if_neg hi0, if_pos]
            simp; omega
        · have hn := ih (i + 1) (x + (c % 128) * 128 ^ i) (by omega) (by omega) (fun h => e3 (by omega)) hat
          refine Ev.step (fun k => ?_) (Ev.mid ?_ hn)
          · rw [spec_GetNum.j2, decide_eq_false hbad, if_neg (by decide), hw7, hw8, if_pos (by omega), if_neg hlow, e1, w64 (x := (i : Int) + 1) (by omega) (by omega)]
            rfl
          · rw [scan_next (by omega) hbad hlow, hcs]
            rfl
    · have hs : (scan (l.drop (at_ + i)) (at_ + i) i x).2.2.1 = false := by rw [List.drop_eq_nil_of_le (by omega)]; rfl
      rw [hs, if_neg (by decide)]
      refine Ev.step (f := fun k => spec_GetNum.j1 k l (at_ : Int) x (i : Int) false) (fun k => ?_) (Ev.step (f := fun _ => some _) (fun k => ?_) (Ev.now _))
      · rw [spec_GetNum.l0, if_pos (by omega)]
        by_cases h1 : (at_ : Int) < (l.length : Int)
        · rw [if_pos h1, w64 (x := (at_ : Int) + (i : Int)) (by omega) (by omega), decide_eq_false (by omega)]
        · rw [if_neg h1]
      · rw [spec_GetNum.j1, if_neg (by decide)]
theorem spec_GetNum_ev (l : List Int) (hl : l.length ≤ 4611686018427387904) (hb : ∀ c ∈ l, 0 ≤ c ∧ c ≤ 255) (a : Int) : Ev (fun k => spec_GetNum.f k l a) (getNum l a) := by
  unfold getNum
  by_cases h0 : a < 0
  · rw [if_neg (by omega)]
    exact Ev.const fun k => by rw [spec_GetNum.f, if_pos h0]
  · obtain ⟨n, rfl⟩ := Int.eq_ofNat_of_zero_le (show 0 ≤ a by omega)
    have e : ∀ k, spec_GetNum.f k l (n : Int) = spec_GetNum.l0 k l (n : Int) 0 ((0 : Nat) : Int) := fun k => by rw [spec_GetNum.f, if_neg h0]; rfl
    refine Ev.congr e ?_
    by_cases h : n ≤ l.length
    · rw [if_pos (by omega), Int.toNat_natCast]
      exact spec_GetNum_l0 l hl hb n 10 0 0 rfl (by decide) (fun _ => by decide) h
    · rw [if_neg (by omega)]
      refine Ev.step (f := fun k => spec_GetNum.j1 k l (n : Int) 0 ((0 : Nat) : Int) false) (fun k => ?_) (Ev.step (f := fun _ => some _) (fun k => ?_) (Ev.now _))
      · rw [spec_GetNum.l0, if_pos (by omega), if_neg (by omega)]
      · rw [spec_GetNum.j1, if_neg (by decide)]

theorem wrap64_bd (x : Int) : -9223372036854775808 ≤ wrap64 x ∧ wrap64 x ≤ 9223372036854775807 := by unfold wrap64; omega
theorem scan_ok (cs : List Int) : ∀ (p i : Nat) (x : Int), (scan cs p i x).2.2.1 = true → (p : Int) + 1 ≤ (scan cs p i x).2.1 ∧ (scan cs p i x).2.1 ≤ p + cs.length ∧ -9223372036854775808 ≤ (scan cs p i x).1 ∧ (scan cs p i x).1 ≤ 9223372036854775807 := by
  induction cs with
  | nil => intro p i x h; simp [scan] at h
  | cons c cs ih =>
    intro p i x h
    by_cases hi : i < 10
    · by_cases hbad : i = 9 ∧ c > 1
      · rw [scan_bad hi hbad] at h; cases h
      · by_cases hlow : c < 128
        · rw [scan_low hi hbad hlow] at h ⊢
          have := wrap64_bd (x + (c % 128) * 128 ^ i)
          simp only [List.length_cons]
          omega
        · rw [scan_next hi hbad hlow] at h ⊢
          have := ih (p + 1) (i + 1) _ h
          simp only [List.length_cons]
          omega
    · rw [scan, if_pos (by omega)] at h; cases h
theorem getNum_ok {l : List Int} {a n next : Int} (h : getNum l a = (n, next, true)) : 0 ≤ a ∧ a + 1 ≤ next ∧ next ≤ l.length ∧ -9223372036854775808 ≤ n ∧ n ≤ 9223372036854775807 := by
  unfold getNum at h
  split at h
  · rename_i ha
    split at h
    · rename_i hs
      obtain ⟨h1, h2⟩ := Prod.mk.inj h
      obtain ⟨h3, _⟩ := Prod.mk.inj h2
      have := scan_ok _ _ _ _ hs
      rw [h1, h3, List.length_drop] at this
      omega
    · simp at h
  · simp at h
/-- The text that stands in l from a on. -/
def getText (l : List Int) (a : Int) : ByteArray × Int × Bool :=
  if (getNum l a).2.2 = true ∧ 0 ≤ (getNum l a).1 ∧ (getNum l a).1 ≤ l.length - (getNum l a).2.1 then
    (strOfNums ((l.take ((getNum l a).2.1 + (getNum l a).1).toNat).drop (getNum l a).2.1.toNat), (getNum l a).2.1 + (getNum l a).1, true)
  else ((⟨#[]⟩ : ByteArray), 0, false)

/-- The bytes of a short number. -/
def putNum (x : Nat) : List Int := if h : 128 ≤ x then ((x % 128 + 128 : Nat) : Int) :: putNum (x / 128) else [(x : Int)]
termination_by x
decreasing_by omega
theorem putNum_big {x : Nat} (h : 128 ≤ x) : putNum x = ((x % 128 + 128 : Nat) : Int) :: putNum (x / 128) := by rw [putNum, dif_pos h]
theorem putNum_small {x : Nat} (h : x < 128) : putNum x = [(x : Int)] := by rw [putNum, dif_neg (by omega)]
theorem putNum_len (j : Nat) : ∀ x : Nat, x < 128 ^ (j + 1) → (putNum x).length ≤ j + 1 := by
  induction j with
  | zero => intro x h; rw [putNum_small (by omega)]; simp
  | succ j ih =>
    intro x h
    by_cases hx : 128 ≤ x
    · rw [putNum_big hx]
      have := ih (x / 128) (by rw [Nat.pow_succ] at h; omega)
      simp only [List.length_cons]; omega
    · rw [putNum_small (by omega)]; simp
theorem putNum_len10 (x : Nat) (h : x < 18446744073709551616) : (putNum x).length ≤ 10 := putNum_len 9 x (Nat.lt_trans h (by decide))
/-- A number's 64 bits. -/
def u64 (n : Int) : Nat := (n % 18446744073709551616).toNat
theorem u64_lt (n : Int) : u64 n < 18446744073709551616 := by unfold u64; omega
theorem impl_PutNum_l0 (x : Nat) : ∀ acc : List Int, x < 18446744073709551616 → acc.length + (putNum x).length < 140737488355328 → Ev (fun k => impl_PutNum.l0 k (x : Int) acc) (acc ++ putNum x) := by
  induction x using Nat.strongRecOn with
  | _ x ih =>
    intro acc hx hl
    by_cases h : 128 ≤ x
    · rw [putNum_big h] at hl ⊢
      simp only [List.length_cons] at hl
      have := ih (x / 128) (by omega) (acc ++ [((x % 128 + 128 : Nat) : Int)]) (by omega) (by simp; omega)
      rw [List.append_assoc, List.singleton_append] at this
      refine Ev.step (fun k => ?_) this
      rw [impl_PutNum.l0, if_pos (by omega), if_pos (by omega), u64w, u64w, Int.tdiv_eq_ediv_of_nonneg (by omega), Int.tmod_eq_emod_of_nonneg (by omega)]
      rw [show (x : Int) / 128 % 18446744073709551616 = ((x / 128 : Nat) : Int) by omega, show ((x : Int) % 128 + 128) % 18446744073709551616 % 256 = ((x % 128 + 128 : Nat) : Int) by omega]
    · rw [putNum_small (by omega)] at hl ⊢
      refine Ev.step (f := fun _ => some _) (fun k => ?_) (Ev.now _)
      rw [impl_PutNum.l0, if_neg (by omega), if_pos (by omega), show (x : Int) % 256 = x by omega]
theorem impl_PutNum_ev (n : Int) : Ev (fun k => impl_PutNum.f k n) (putNum (u64 n)) := by
  have := putNum_len10 _ (u64_lt n)
  refine Ev.congr (fun k => ?_) (impl_PutNum_l0 (u64 n) [] (u64_lt n) (by simp; omega))
  rw [impl_PutNum.f, u64w]
  congr 1
  unfold u64; omega

/-- Do the bytes end within a number? -/
def shortT : List Int → Nat → Bool
  | [], i => decide (i < 10)
  | c :: cs, i => if 10 ≤ i then false else if c < 128 then false else shortT cs (i + 1)
theorem shortT_late (cs : List Int) (i : Nat) (h : 10 ≤ i) : shortT cs i = false := by
  cases cs with
  | nil => exact decide_eq_false (by omega)
  | cons c cs => rw [shortT, if_pos h]
theorem scan_late (cs : List Int) (p i : Nat) (x : Int) (h : 10 ≤ i) : scan cs p i x = (0, 0, false, false) := by
  cases cs with
  | nil => rw [scan, decide_eq_false (by omega)]
  | cons c cs => rw [scan, if_pos h]
theorem scan_torn (cs : List Int) : ∀ (p i : Nat) (x : Int), (scan cs p i x).2.2.2 = shortT cs i := by
  induction cs with
  | nil => intro p i x; rfl
  | cons c cs ih =>
    intro p i x
    by_cases hi : i < 10
    · rw [shortT, if_neg (by omega)]
      by_cases hbad : i = 9 ∧ c > 1
      · rw [scan_bad hi hbad]
        split
        · rfl
        · rw [shortT_late _ _ (by omega)]
      · by_cases hlow : c < 128
        · rw [scan_low hi hbad hlow, if_pos hlow]
        · rw [scan_next hi hbad hlow, if_neg hlow, ih]
    · rw [scan_late _ _ _ _ (by omega), shortT_late _ _ (by omega)]
theorem scan_not_both (cs : List Int) : ∀ (p i : Nat) (x : Int), (scan cs p i x).2.2.1 = true → (scan cs p i x).2.2.2 = false := by
  induction cs with
  | nil => intro p i x h; simp [scan] at h
  | cons c cs ih =>
    intro p i x h
    by_cases hi : i < 10
    · by_cases hbad : i = 9 ∧ c > 1
      · rw [scan_bad hi hbad]
      · by_cases hlow : c < 128
        · rw [scan_low hi hbad hlow]
        · rw [scan_next hi hbad hlow] at h ⊢
          exact ih _ _ _ h
    · rw [scan_late _ _ _ _ (by omega)]
/-- What is read as a number is just its bytes. -/
theorem scan_canon (cs : List Int) : ∀ (p i : Nat) (x : Int), (∀ c ∈ cs, 0 ≤ c ∧ c ≤ 255) → 0 ≤ x → (i < 10 → x < 128 ^ i) → (scan cs p i x).2.2.1 = true →
    ∃ y : Nat, (scan cs p i x).1 = wrap64 (x + (y : Int) * 128 ^ i) ∧ x + (y : Int) * 128 ^ i < 18446744073709551616 ∧ (0 < i → 0 < y) ∧ (scan cs p i x).2.1 = (p : Int) + (putNum y).length ∧ cs.take (putNum y).length = putNum y := by
  induction cs with
  | nil => intro p i x _ _ _ h; simp [scan] at h
  | cons c cs ih =>
    intro p i x hb hx0 hx h
    have hc := hb c (by simp)
    by_cases hi : i < 10
    · by_cases hbad : i = 9 ∧ c > 1
      · rw [scan_bad hi hbad] at h; cases h
      · obtain ⟨e1, e2, e3⟩ := scan_or x c i hi hx0 (hx hi) hc.1 hc.2 hbad (7 * (i : Int)) rfl
        by_cases hlow : c < 128
        · rw [scan_low hi hbad hlow] at h ⊢
          obtain ⟨n, rfl⟩ := Int.eq_ofNat_of_zero_le hc.1
          have hm : (n : Int) % 128 = n := by omega
          rw [hm] at e2 ⊢
          refine ⟨n, rfl, e2, fun h0 => ?_, ?_, ?_⟩
          · have := of_decide_eq_true h
            omega
          · rw [putNum_small (by omega)]; rfl
          · rw [putNum_small (by omega)]; simp
        · rw [scan_next hi hbad hlow] at h ⊢
          have hi9 : i < 9 := by omega
          have hnn : 0 ≤ (c % 128) * 128 ^ i := Int.mul_nonneg (by omega) (Int.le_of_lt (Int.pow_pos (by decide)))
          obtain ⟨y, h1, h2, h3, h4, h5⟩ := ih (p + 1) (i + 1) (x + (c % 128) * 128 ^ i) (fun d hd => hb d (by simp [hd])) (by omega) (fun _ => e3 hi9) h
          obtain ⟨n, rfl⟩ := Int.eq_ofNat_of_zero_le hc.1
          have hy : 0 < y := h3 (by omega)
          have hsum : x + (n : Int) % 128 * 128 ^ i + (y : Int) * 128 ^ (i + 1) = x + ((n % 128 + 128 * y : Nat) : Int) * 128 ^ i := by
            rw [Int.pow_succ, Int.natCast_add, Int.natCast_mul, Int.natCast_emod, Int.add_mul, ← Int.add_assoc]
            congr 1
            rw [Int.mul_comm (128 ^ i) 128, ← Int.mul_assoc, Int.mul_comm (y : Int) 128]
            rfl
          rw [hsum] at h1 h2
          have hpn : putNum (n % 128 + 128 * y) = (n : Int) :: putNum y := by
            rw [putNum_big (by omega), show (n % 128 + 128 * y) / 128 = y by omega, show (n % 128 + 128 * y) % 128 + 128 = n by omega]
          refine ⟨n % 128 + 128 * y, h1, h2, fun _ => by omega, ?_, ?_⟩
          · rw [h4, hpn]; simp only [List.length_cons]; omega
          · rw [hpn]; simp only [List.length_cons, List.take_succ_cons, h5]
    · rw [scan_late _ _ _ _ (by omega)] at h; cases h
/-- A number's bytes are read as it. -/
theorem scan_putNum (rest : List Int) (y : Nat) : ∀ (p i : Nat) (x : Int), 0 ≤ x → (i < 10 → x < 128 ^ i) → i < 10 → x + (y : Int) * 128 ^ i < 18446744073709551616 → (0 < i → 0 < y) →
    scan (putNum y ++ rest) p i x = (wrap64 (x + (y : Int) * 128 ^ i), (p : Int) + (putNum y).length, true, false) := by
  induction y using Nat.strongRecOn with
  | _ y ih =>
    intro p i x hx0 hx hi hlt hy
    have hp : (0 : Int) < 128 ^ i := Int.pow_pos (by decide)
    have h9 : i = 9 → y ≤ 1 := by
      rintro rfl
      simp at hlt
      omega
    by_cases h : 128 ≤ y
    · rw [putNum_big h, List.cons_append, scan_next hi (by omega) (by omega)]
      have hm : (((y % 128 + 128 : Nat) : Int)) % 128 = ((y % 128 : Nat) : Int) := by omega
      have hsum : x + ((y % 128 : Nat) : Int) * 128 ^ i + ((y / 128 : Nat) : Int) * 128 ^ (i + 1) = x + (y : Int) * 128 ^ i := by
        rw [Int.pow_succ, Int.mul_comm (128 ^ i) 128, ← Int.mul_assoc, Int.add_assoc, ← Int.add_mul]
        congr 2
        omega
      have hi9 : i < 9 := by
        rcases Nat.lt_or_ge i 9 with h' | h'
        · exact h'
        · have := h9 (by omega); omega
      have hx' : x + ((y % 128 : Nat) : Int) * 128 ^ i < 128 ^ (i + 1) := by
        rw [Int.pow_succ]
        have h1 := hx hi
        have h2 : ((y % 128 : Nat) : Int) * 128 ^ i ≤ 127 * 128 ^ i := Int.mul_le_mul_of_nonneg_right (by omega) (by omega)
        omega
      have hnn : 0 ≤ ((y % 128 : Nat) : Int) * 128 ^ i := Int.mul_nonneg (by omega) (by omega)
      rw [hm, ih (y / 128) (by omega) (p + 1) (i + 1) _ (by omega) (fun _ => hx') (by omega) (by rw [hsum]; exact hlt) (fun _ => by omega), hsum]
      simp only [List.length_cons]
      congr 2
      omega
    · rw [putNum_small (by omega), List.cons_append, List.nil_append, scan_low hi (by omega) (by omega)]
      have hm : (y : Int) % 128 = y := by omega
      rw [hm, decide_eq_true (show (y : Int) > 0 ∨ i = 0 by omega)]
      rfl

theorem bits_xor (k : IntKind) (j : Nat) (hj : j ≤ k.bits) (hk : ∀ n : Int, 0 ≤ n → n < 2 ^ j → k.wrap n = n) (a b : Nat) (ha : a < 2 ^ j) (hb : b < 2 ^ j) :
    Go.bits .xor k (a : Int) (b : Int) = ((a ^^^ b : Nat) : Int) := by
  have hp : 2 ^ j ≤ 2 ^ k.bits := Nat.pow_le_pow_right (by decide) hj
  have ha' : a % 2 ^ k.bits = a := Nat.mod_eq_of_lt (Nat.lt_of_lt_of_le ha hp)
  have hb' : b % 2 ^ k.bits = b := Nat.mod_eq_of_lt (Nat.lt_of_lt_of_le hb hp)
  simp only [Go.bits, BitVec.ofInt_natCast, BitVec.toNat_xor, BitVec.toNat_ofNat, ha', hb']
  exact hk _ (Int.natCast_nonneg _) (by exact_mod_cast Nat.xor_lt_two_pow ha hb)
theorem u32w (n : Int) : IntKind.u32.wrap n = n % 4294967296 := by simp [IntKind.wrap, IntKind.bits, IntKind.signed]
theorem xor_i64 (a b : Nat) (ha : a < 4294967296) (hb : b < 4294967296) : Go.bits .xor .i64 (a : Int) (b : Int) = ((a ^^^ b : Nat) : Int) :=
  bits_xor .i64 32 (by decide) (fun n h0 h1 => by rw [IntWalk.i64_left]; exact w64 (by omega) (by omega)) a b ha hb
theorem xor_u32 (a b : Nat) (ha : a < 4294967296) (hb : b < 4294967296) : Go.bits .xor .u32 (a : Int) (b : Int) = ((a ^^^ b : Nat) : Int) :=
  bits_xor .u32 32 (by decide) (fun n h0 h1 => by rw [u32w]; omega) a b ha hb
theorem xor_lt (a b : Nat) (ha : a < 4294967296) (hb : b < 4294967296) : a ^^^ b < 4294967296 := Nat.xor_lt_two_pow (n := 32) ha hb
def crcBit (x : Nat) : Nat := if x % 2 = 1 then (x / 2) ^^^ 3988292384 else x / 2
theorem crcBit_lt (x : Nat) (h : x < 4294967296) : crcBit x < 4294967296 := by
  unfold crcBit
  split
  · exact xor_lt _ _ (by omega) (by decide)
  · omega
def crcBits : Nat → Nat → Nat
  | 0, x => x
  | n + 1, x => crcBits n (crcBit x)
theorem crcBits_lt (n : Nat) : ∀ x, x < 4294967296 → crcBits n x < 4294967296 := by
  induction n with
  | zero => intro x h; exact h
  | succ n ih => intro x h; exact ih _ (crcBit_lt x h)
def crc : Nat → List Int → Nat
  | x, [] => x
  | x, c :: cs => crc (crcBits 8 (x ^^^ c.toNat)) cs
theorem crc_lt (l : List Int) : ∀ x, x < 4294967296 → (∀ c ∈ l, 0 ≤ c ∧ c ≤ 255) → crc x l < 4294967296 := by
  induction l with
  | nil => intro x h _; exact h
  | cons c cs ih =>
    intro x h hb
    have := hb c (by simp)
    exact ih _ (crcBits_lt 8 _ (xor_lt _ _ h (by omega))) (fun d hd => hb d (by simp [hd]))
theorem crc_nil (x : Nat) : crc x [] = x := rfl
theorem crc_cons (x : Nat) (c : Int) (cs : List Int) : crc x (c :: cs) = crc (crcBits 8 (x ^^^ c.toNat)) cs := rfl
def sumL (l : List Int) : Nat := crc 4294967295 l ^^^ 4294967295
theorem sumL_lt (l : List Int) (hb : ∀ c ∈ l, 0 ≤ c ∧ c ≤ 255) : sumL l < 4294967296 := xor_lt _ _ (crc_lt l _ (by decide) hb) (by decide)
theorem spec_Sum_ev (l : List Int) (hl : l.length ≤ 4611686018427387904) (hb : ∀ c ∈ l, 0 ≤ c ∧ c ≤ 255) : Ev (fun k => spec_Sum.f k l) (sumL l : Int) := by
  have outer : ∀ (d i x : Nat), i + d = l.length → x < 4294967296 → Ev (fun k => spec_Sum.l0 k l (x : Int) (i : Int)) ((crc x (l.drop i) ^^^ 4294967295 : Nat) : Int) := by
    intro d
    induction d with
    | zero =>
      intro i x h hx
      refine Ev.step (f := fun _ => some _) (fun k => ?_) (Ev.now _)
      rw [spec_Sum.l0, if_neg (by omega), List.drop_of_length_le (by omega), crc_nil, show (4294967295 : Int) = ((4294967295 : Nat) : Int) from rfl, xor_i64 x 4294967295 hx (by decide)]
    | succ d ih =>
      intro i x h hx
      have hi : i < l.length := by omega
      have hr : rd l (i : Int) = l[i] := rd_get l i i _ rfl (List.getElem?_eq_getElem hi)
      have hc := hb l[i] (List.getElem_mem hi)
      obtain ⟨c, hcc⟩ := Int.eq_ofNat_of_zero_le hc.1
      have inner : ∀ (n j x : Nat), j + n = 8 → x < 4294967296 → Ev (fun k => spec_Sum.l1 k l (x : Int) (i : Int) (j : Int)) ((crc (crcBits n x) (l.drop (i + 1)) ^^^ 4294967295 : Nat) : Int) := by
        intro n
        induction n with
        | zero =>
          intro j x hj hx
          refine Ev.step (fun k => ?_) (ih (i + 1) x (by omega) hx)
          rw [spec_Sum.l1, if_neg (by omega), w64 (by omega) (by omega)]
          rfl
        | succ n ihn =>
          intro j x hj hx
          have hlt := crcBit_lt x hx
          refine Ev.step (fun k => ?_) (ihn (j + 1) (crcBit x) (by omega) hlt)
          rw [spec_Sum.l1, if_pos (by omega), Int.tmod_eq_emod_of_nonneg (by omega), Int.tdiv_eq_ediv_of_nonneg (by omega), w64 (x := (x : Int) / 2) (by omega) (by omega), w64 (x := (j : Int) + 1) (by omega) (by omega)]
          by_cases ho : x % 2 = 1
          · rw [if_pos (by omega), show (x : Int) / 2 = ((x / 2 : Nat) : Int) by omega, show (3988292384 : Int) = ((3988292384 : Nat) : Int) from rfl, xor_i64 _ _ (by omega) (by decide)]
            simp only [crcBit, if_pos ho]
            rfl
          · rw [if_neg (by omega), show (x : Int) / 2 = ((x / 2 : Nat) : Int) by omega]
            simp only [crcBit, if_neg ho]
            rfl
      have hin := inner 8 0 (x ^^^ c) rfl (xor_lt _ _ hx (by omega))
      have e : crc x (l.drop i) = crc (crcBits 8 (x ^^^ c)) (l.drop (i + 1)) := by
        rw [List.drop_eq_getElem_cons hi, crc_cons, hcc]
        rfl
      rw [e]
      refine Ev.step (fun k => ?_) hin
      rw [spec_Sum.l0, if_pos (by omega), if_pos (by omega), hr, hcc, w64 (by omega) (by omega)]
      rw [xor_i64 x c hx (by omega)]
      rfl
  exact outer l.length 0 4294967295 (by omega) (by decide)
theorem impl_Sum_ev (l : List Int) (hl : l.length ≤ 4611686018427387904) (hb : ∀ c ∈ l, 0 ≤ c ∧ c ≤ 255) : Ev (fun k => impl_Sum.f k l) (sumL l : Int) := by
  have outer : ∀ (d i x : Nat), i + d = l.length → x < 4294967296 → Ev (fun k => impl_Sum.l0 k (x : Int) l (l.length : Int) (i : Int)) ((crc x (l.drop i) ^^^ 4294967295 : Nat) : Int) := by
    intro d
    induction d with
    | zero =>
      intro i x h hx
      refine Ev.step (f := fun _ => some _) (fun k => ?_) (Ev.now _)
      have e : Go.bits BinOp.xor IntKind.u32 (if IntKind.u32.signed = true then -1 else IntKind.u32.max) (x : Int) = ((x ^^^ 4294967295 : Nat) : Int) := by
        rw [Nat.xor_comm, if_neg (by decide), show IntKind.u32.max = ((4294967295 : Nat) : Int) from rfl, xor_u32 4294967295 x (by decide) hx]
      have hlt := xor_lt x 4294967295 hx (by decide)
      rw [impl_Sum.l0, if_neg (by omega), List.drop_of_length_le (by omega), crc_nil, e, w64 (by omega) (by omega)]
    | succ d ih =>
      intro i x h hx
      have hi : i < l.length := by omega
      have hr : rd l (i : Int) = l[i] := rd_get l i i _ rfl (List.getElem?_eq_getElem hi)
      have hc := hb l[i] (List.getElem_mem hi)
      obtain ⟨c, hcc⟩ := Int.eq_ofNat_of_zero_le hc.1
      have inner : ∀ (n j x : Nat), j + n = 8 → x < 4294967296 → Ev (fun k => impl_Sum.l1 k (x : Int) l (l.length : Int) (i : Int) (j : Int)) ((crc (crcBits n x) (l.drop (i + 1)) ^^^ 4294967295 : Nat) : Int) := by
        intro n
        induction n with
        | zero =>
          intro j x hj hx
          refine Ev.step (fun k => ?_) (ih (i + 1) x (by omega) hx)
          rw [impl_Sum.l1, if_neg (by omega), w64 (by omega) (by omega)]
          rfl
        | succ n ihn =>
          intro j x hj hx
          have hlt := crcBit_lt x hx
          refine Ev.step (fun k => ?_) (ihn (j + 1) (crcBit x) (by omega) hlt)
          have ha : Go.bits .and .u32 (x : Int) 1 = (x : Int) % 2 := Go.bits_mask .u32 32 (by decide) (fun n h0 h1 => by rw [u32w]; omega) 1 (by decide) x (by omega) (by omega)
          rw [impl_Sum.l1, if_pos (by omega), ha, w64 (x := (j : Int) + 1) (by omega) (by omega)]
          by_cases ho : x % 2 = 1
          · rw [if_pos (by omega), show (x : Int) / 2 = ((x / 2 : Nat) : Int) by omega, show (3988292384 : Int) = ((3988292384 : Nat) : Int) from rfl, xor_u32 _ _ (by omega) (by decide)]
            simp only [crcBit, if_pos ho]
            rfl
          · rw [if_neg (by omega), show (x : Int) / 2 = ((x / 2 : Nat) : Int) by omega]
            simp only [crcBit, if_neg ho]
            rfl
      have hin := inner 8 0 (x ^^^ c) rfl (xor_lt _ _ hx (by omega))
      have e : crc x (l.drop i) = crc (crcBits 8 (x ^^^ c)) (l.drop (i + 1)) := by
        rw [List.drop_eq_getElem_cons hi, crc_cons, hcc]
        rfl
      rw [e]
      refine Ev.step (fun k => ?_) hin
      rw [impl_Sum.l0, if_pos (by omega), if_pos (by omega), if_pos (by omega), hr, hcc]
      rw [show ((c : Nat) : Int) % 4294967296 = (c : Int) by omega, xor_u32 x c hx (by omega)]
      rfl
  exact outer l.length 0 4294967295 (by omega) (by decide)

def little (n : Nat) : List Int := [((n % 256 : Nat) : Int), ((n / 256 % 256 : Nat) : Int), ((n / 65536 % 256 : Nat) : Int), ((n / 16777216 % 256 : Nat) : Int)]
theorem little_e (n : Nat) : little n = [(n : Int) % 256, ((n : Int) / 256) % 256, ((n : Int) / 65536) % 256, ((n : Int) / 16777216) % 256] := by simp [little]
theorem little_len (n : Nat) : (little n).length = 4 := rfl
def headB (l : List Int) : List Int := putNum l.length ++ l
def frameL (l : List Int) : List Int := if l.length > 20000 then [] else headB l ++ little (sumL (headB l))
theorem putNum_bytes (x : Nat) : ∀ c ∈ putNum x, 0 ≤ c ∧ c ≤ 255 := by
  induction x using Nat.strongRecOn with
  | _ x ih =>
    intro c hc
    by_cases h : 128 ≤ x
    · rw [putNum_big h] at hc
      rcases List.mem_cons.1 hc with rfl | hc
      · omega
      · exact ih (x / 128) (by omega) c hc
    · rw [putNum_small (by omega)] at hc
      simp at hc
      omega
theorem headB_bytes (l : List Int) (hb : ∀ c ∈ l, 0 ≤ c ∧ c ≤ 255) : ∀ c ∈ headB l, 0 ≤ c ∧ c ≤ 255 := by
  intro c hc
  rcases List.mem_append.1 hc with h | h
  · exact putNum_bytes _ c h
  · exact hb c h
theorem headB_len (l : List Int) (h : l.length < 18446744073709551616) : (headB l).length ≤ l.length + 10 := by
  have := putNum_len10 l.length h
  simp only [headB, List.length_append]
  omega
theorem frameL_len (l : List Int) : (frameL l).length ≤ 20014 := by
  unfold frameL
  split
  · simp
  · have := headB_len l (by omega)
    simp only [List.length_append, little_len]
    omega
theorem u64_len (l : List Int) (h : l.length < 18446744073709551616) : u64 (l.length : Int) = l.length := by unfold u64; omega
theorem l3Little_e (n : Nat) : spec_l3Little.f (n : Int) = some (little n) := by rw [little_e]; rfl
theorem impl_summed_ev (l : List Int) (hl : l.length ≤ 4611686018) (hb : ∀ c ∈ l, 0 ≤ c ∧ c ≤ 255) : Ev (fun k => impl_summed.f k l) (l ++ little (sumL l)) := by
  refine Ev.bind (impl_Sum_ev l (by omega) hb) (Ev.val rfl (Ev.ite_pos ?_ (Ev.mid ?_ (Ev.now _))))
  · simp; omega
  · rw [little_e]
theorem impl_Frame_ev (l : List Int) (hl : l.length ≤ 4611686018427387000) (hb : ∀ c ∈ l, 0 ≤ c ∧ c ≤ 255) : Ev (fun k => impl_Frame.f k l) (frameL l) := by
  unfold frameL
  by_cases h : l.length > 20000
  · exact Ev.mid (if_pos h).symm (Ev.ite_pos (by omega) (Ev.now _))
  · refine Ev.mid (if_neg h).symm (Ev.ite_neg (by omega) ?_)
    have hn := headB_len l (by omega)
    have e := impl_PutNum_ev (l.length : Int)
    rw [u64_len l (by omega)] at e
    refine Ev.bind e (Ev.ite_pos ?_ (Ev.bind (impl_summed_ev (headB l) (by omega) (headB_bytes l hb)) (Ev.now _)))
    have := putNum_len10 l.length (by omega); omega

def seg (l : List Int) (a b : Nat) : List Int := (l.take b).drop a
theorem seg_len (l : List Int) {a b : Nat} (h1 : a ≤ b) (h2 : b ≤ l.length) : (seg l a b).length = b - a := by simp [seg]; omega
theorem seg_bytes (l : List Int) (a b : Nat) (hb : ∀ c ∈ l, 0 ≤ c ∧ c ≤ 255) : ∀ c ∈ seg l a b, 0 ≤ c ∧ c ≤ 255 := fun c hc => hb c (List.mem_of_mem_take (List.mem_of_mem_drop hc))
theorem seg_split (l : List Int) {a b c : Nat} (h1 : a ≤ b) (h2 : b ≤ c) (h3 : b ≤ l.length) : seg l a c = seg l a b ++ seg l b c := by
  unfold seg
  have e : l.take c = l.take b ++ (l.take c).drop b := by
    conv => lhs; rw [← List.take_append_drop b (l.take c)]
    rw [List.take_take, Nat.min_eq_left h2]
  conv => lhs; rw [e]
  rw [List.drop_append_of_le_length (by simp; omega)]
/-- Of a frame whose head is read: how it ends. -/
def unJ (l : List Int) (at_ nx n : Nat) : List Int × Int × Int :=
  if n + 4 > l.length - nx then ([], (at_ : Int), 2) else
  if little (sumL (seg l at_ (nx + n))) = seg l (nx + n) (nx + n + 4) then (seg l nx (nx + n), ((nx + n + 4 : Nat) : Int), 0) else ([], (at_ : Int), 3)
def unframeT (l : List Int) (a : Int) : List Int × Int × Int :=
  if 0 ≤ a ∧ a ≤ l.length then
    if a = l.length then ([], a, 1) else
    if (scan (l.drop a.toNat) a.toNat 0 0).2.2.2 = true then ([], a, 2) else
    if (scan (l.drop a.toNat) a.toNat 0 0).2.2.1 = true ∧ 0 ≤ (scan (l.drop a.toNat) a.toNat 0 0).1 ∧ (scan (l.drop a.toNat) a.toNat 0 0).1 ≤ 20000 then
      unJ l a.toNat (scan (l.drop a.toNat) a.toNat 0 0).2.1.toNat (scan (l.drop a.toNat) a.toNat 0 0).1.toNat
    else ([], a, 3)
  else ([], a, 3)
theorem head_seg (l : List Int) (at_ : Nat) (hat : at_ ≤ l.length) (hb : ∀ c ∈ l, 0 ≤ c ∧ c ≤ 255) (n : Int) (nx : Int) (t : Bool) (hs : scan (l.drop at_) at_ 0 0 = (n, nx, true, t)) (h0 : 0 ≤ n) (h1 : n ≤ 20000) :
    at_ ≤ nx.toNat ∧ nx.toNat ≤ l.length ∧ nx = nx.toNat ∧ seg l at_ nx.toNat = putNum n.toNat := by
  obtain ⟨y, e1, e2, e3, e4, e5⟩ := scan_canon (l.drop at_) at_ 0 0 (fun c hc => hb c (List.mem_of_mem_drop hc)) (by decide) (fun _ => by decide) (by rw [hs])
  rw [hs] at e1 e4
  simp only [Int.pow_zero, Int.mul_one, Int.zero_add] at e1 e2 e4
  have hy : n.toNat = y := by unfold wrap64 at e1; omega
  have hlen : (putNum y).length ≤ l.length - at_ := by
    have := congrArg List.length e5
    simp at this
    omega
  refine ⟨by omega, by omega, by omega, ?_⟩
  rw [hy, ← e5]
  unfold seg
  rw [List.drop_take]
  congr 1
  omega
theorem dec_cons_same {a b : Int} (p q : List Int) (h : a = b) : decide (p = q) = decide (a :: p = b :: q) := by subst h; simp
theorem dec_cons_ne {a b : Int} (p q : List Int) (h : ¬ a = b) : false = decide (a :: p = b :: q) := by simp [h]
theorem l3Same_l0 (xs ys : List Int) (hlen : xs.length = ys.length) (hn : xs.length ≤ 4611686018427387904) (d : Nat) : ∀ (i : Nat), i + d = xs.length → Ev (fun k => spec_l3Same.l0 k xs ys (i : Int)) (decide (xs.drop i = ys.drop i)) := by
  induction d with
  | zero =>
    intro i h
    rw [List.drop_eq_nil_of_le (by omega), List.drop_eq_nil_of_le (by omega)]
    exact Ev.step (f := fun _ => some true) (fun k => by rw [spec_l3Same.l0, if_neg (by omega)]) (Ev.now true)
  | succ d ih =>
    intro i h
    have hx : i < xs.length := by omega
    have hy : i < ys.length := by omega
    rw [List.drop_eq_getElem_cons hx, List.drop_eq_getElem_cons hy]
    have rx : rd xs (i : Int) = xs[i] := rd_get xs i i _ rfl (List.getElem?_eq_getElem hx)
    have ry : rd ys (i : Int) = ys[i] := rd_get ys i i _ rfl (List.getElem?_eq_getElem hy)
    by_cases he : xs[i] = ys[i]
    · refine Ev.step (fun k => ?_) (Ev.mid ?_ (ih (i + 1) (by omega)))
      · rw [spec_l3Same.l0, if_pos (by omega), if_pos (by omega), if_pos (by omega), rx, ry, if_pos he, w64 (by omega) (by omega)]; rfl
      · exact dec_cons_same _ _ he
    · refine Ev.step (f := fun _ => some false) (fun k => ?_) (Ev.mid ?_ (Ev.now false))
      · rw [spec_l3Same.l0, if_pos (by omega), if_pos (by omega), if_pos (by omega), rx, ry, if_neg he]
      · exact dec_cons_ne _ _ he
theorem l3Same_ev (xs ys : List Int) (hn : xs.length ≤ 4611686018427387904) : Ev (fun k => spec_l3Same.f k xs ys) (decide (xs = ys)) := by
  by_cases hlen : xs.length = ys.length
  · refine Ev.congr (fun k => ?_) (l3Same_l0 xs ys hlen hn xs.length 0 (by omega))
    rw [spec_l3Same.f, if_pos (by omega)]; rfl
  · refine Ev.mid ?_ (Ev.const (a := false) fun k => ?_)
    · symm; rw [decide_eq_false_iff_not]; rintro rfl; exact hlen rfl
    · rw [spec_l3Same.f, if_neg (by omega)]
theorem sEqB_l0 (xs ys : List Int) (hlen : xs.length = ys.length) (hn : xs.length ≤ 4611686018427387904) (d : Nat) : ∀ (i : Nat), i + d = xs.length → Ev (fun k => slices_Equal_byte_byte.l0 k xs ys (xs.length : Int) (i : Int)) (decide (xs.drop i = ys.drop i)) := by
  induction d with
  | zero =>
    intro i h
    rw [List.drop_eq_nil_of_le (by omega), List.drop_eq_nil_of_le (by omega)]
    exact Ev.step (f := fun _ => some true) (fun k => by rw [slices_Equal_byte_byte.l0, if_neg (by omega)]) (Ev.now true)
  | succ d ih =>
    intro i h
    have hx : i < xs.length := by omega
    have hy : i < ys.length := by omega
    rw [List.drop_eq_getElem_cons hx, List.drop_eq_getElem_cons hy]
    have rx : rd xs (i : Int) = xs[i] := rd_get xs i i _ rfl (List.getElem?_eq_getElem hx)
    have ry : rd ys (i : Int) = ys[i] := rd_get ys i i _ rfl (List.getElem?_eq_getElem hy)
    by_cases he : xs[i] = ys[i]
    · refine Ev.step (fun k => ?_) (Ev.mid ?_ (ih (i + 1) (by omega)))
      · rw [slices_Equal_byte_byte.l0, if_pos (by omega), if_pos (by omega), if_pos (by omega), if_pos (by omega), rx, ry, if_pos he, w64 (by omega) (by omega)]; rfl
      · exact dec_cons_same _ _ he
    · refine Ev.step (f := fun _ => some false) (fun k => ?_) (Ev.mid ?_ (Ev.now false))
      · rw [slices_Equal_byte_byte.l0, if_pos (by omega), if_pos (by omega), if_pos (by omega), if_pos (by omega), rx, ry, if_neg he]
      · exact dec_cons_ne _ _ he
theorem sEqB_ev (xs ys : List Int) (hn : xs.length ≤ 4611686018427387904) : Ev (fun k => slices_Equal_byte_byte.f k xs ys) (decide (xs = ys)) := by
  by_cases hlen : xs.length = ys.length
  · refine Ev.congr (fun k => ?_) (sEqB_l0 xs ys hlen hn xs.length 0 (by omega))
    rw [slices_Equal_byte_byte.f, if_pos (by omega)]; rfl
  · refine Ev.mid ?_ (Ev.const (a := false) fun k => ?_)
    · symm; rw [decide_eq_false_iff_not]; rintro rfl; exact hlen rfl
    · rw [slices_Equal_byte_byte.f, if_neg (by omega)]
theorem sCloneB (l : List Int) (h : l.length < 140737488355328) : slices_Clone_byte_byte.f l = some l := by
  unfold slices_Clone_byte_byte.f
  simp [h]
theorem l3Short_l0 (l : List Int) (hl : l.length ≤ 4611686018427387904) (at_ : Nat) (d : Nat) : ∀ i : Nat, i + d = 10 → at_ + i ≤ l.length → Ev (fun k => spec_l3Short.l0 k l (at_ : Int) (i : Int)) (shortT (l.drop (at_ + i)) i) := by
  have nil : ∀ i : Nat, i ≤ 10 → at_ + i = l.length → Ev (fun k => spec_l3Short.l0 k l (at_ : Int) (i : Int)) (shortT (l.drop (at_ + i)) i) := by
    intro i hi h
    rw [List.drop_eq_nil_of_le (by omega)]
    refine Ev.step (f := fun _ => some _) (fun k => ?_) (Ev.now _)
    rw [spec_l3Short.l0, w64 (x := (at_ : Int) + (i : Int)) (by omega) (by omega), if_neg (by omega), if_pos (by omega), shortT]
    congr 1
    simp
    omega
  induction d with
  | zero =>
    intro i h hat
    by_cases he : at_ + i = l.length
    · exact nil i (by omega) he
    · rw [shortT_late _ _ (by omega)]
      refine Ev.step (f := fun _ => some _) (fun k => ?_) (Ev.now _)
      rw [spec_l3Short.l0, w64 (x := (at_ : Int) + (i : Int)) (by omega) (by omega), if_pos (by omega), if_neg (by omega), if_neg (by omega)]
  | succ d ih =>
    intro i h hat
    by_cases he : at_ + i = l.length
    · exact nil i (by omega) he
    · obtain ⟨c, cs, hd, hg, hcs, hm⟩ := drop_cons l (at_ + i) (by omega)
      have hr : rd l ((at_ + i : Nat) : Int) = c := rd_get l _ _ _ rfl hg
      have hw : wrap64 ((at_ : Int) + (i : Int)) = ((at_ + i : Nat) : Int) := by rw [w64 (by omega) (by omega)]; omega
      rw [hd, shortT, if_neg (by omega)]
      by_cases hlow : c < 128
      · rw [if_pos hlow]
        refine Ev.step (f := fun _ => some _) (fun k => ?_) (Ev.now _)
        rw [spec_l3Short.l0, hw, if_pos (by omega), if_pos (by omega), if_pos (by omega), hr, if_neg (by omega), if_neg (by omega)]
      · rw [if_neg hlow, hcs]
        refine Ev.step (fun k => ?_) (ih (i + 1) (by omega) (by omega))
        rw [spec_l3Short.l0, hw, if_pos (by omega), if_pos (by omega), if_pos (by omega), hr, if_pos (by omega), w64 (x := (i : Int) + 1) (by omega) (by omega)]
        rfl
theorem l1InE (a b c : Int) : spec_l1In.f a b c = some (decide (b ≤ a ∧ a ≤ c)) := by
  unfold spec_l1In.f
  by_cases h : a ≥ b
  · simp [if_pos h, h]
  · simp [if_neg h]; omega
theorem spec_unJ (l : List Int) (hl : l.length ≤ 4611686018427) (hb : ∀ c ∈ l, 0 ≤ c ∧ c ≤ 255) (at_ nx n : Nat) (h1 : at_ ≤ nx) (h2 : nx ≤ l.length) (hn : n ≤ 20000) :
    Ev (fun k => spec_Unframe.j0 k l (at_ : Int) (n : Int) (nx : Int) false) (unJ l at_ nx n) := by
  refine Ev.step (fun k => by rw [spec_Unframe.j0, if_neg (by decide)]) ?_
  unfold unJ
  rw [w64 (x := (l.length : Int) - (nx : Int)) (by omega) (by omega), w64 (x := (n : Int) + 4) (by omega) (by omega)]
  by_cases hs : n + 4 > l.length - nx
  · exact Ev.mid (if_pos hs).symm (Ev.ite_pos (by omega) (Ev.now _))
  · refine Ev.mid (if_neg hs).symm (Ev.ite_neg (by omega) ?_)
    have e1 : wrap64 ((nx : Int) + (n : Int)) = ((nx + n : Nat) : Int) := by rw [w64 (by omega) (by omega)]; omega
    have e2 : wrap64 (((nx + n : Nat) : Int) + 4) = ((nx + n + 4 : Nat) : Int) := by rw [w64 (by omega) (by omega)]; omega
    simp only [e1, e2, Int.toNat_natCast]
    refine Ev.ite_pos (by omega) (Ev.ite_pos (by omega) (Ev.ite_pos (by omega) ?_))
    refine Ev.bind (spec_Sum_ev (seg l at_ (nx + n)) (by rw [seg_len l (by omega) (by omega)]; omega) (seg_bytes l _ _ hb)) ?_
    refine Ev.val (l3Little_e _) ?_
    refine Ev.ite_pos (by omega) (Ev.ite_pos (by omega) (Ev.ite_pos (by omega) ?_))
    refine Ev.bind (l3Same_ev (little (sumL (seg l at_ (nx + n)))) (seg l (nx + n) (nx + n + 4)) (by rw [little_len]; omega)) ?_
    by_cases hq : little (sumL (seg l at_ (nx + n))) = seg l (nx + n) (nx + n + 4)
    · refine Ev.mid (if_pos hq).symm (Ev.ite_pos (decide_eq_true hq) ?_)
      refine Ev.val rfl (Ev.ite_pos (by omega) (Ev.ite_pos (by omega) (Ev.ite_pos ?_ (Ev.mid ?_ (Ev.now _)))))
      · simp; omega
      · simp [seg]
    · exact Ev.mid (if_neg hq).symm (Ev.ite_neg (by simpa using hq) (Ev.now _))
theorem spec_Unframe_ev (l : List Int) (hl : l.length ≤ 4611686018427) (hb : ∀ c ∈ l, 0 ≤ c ∧ c ≤ 255) (a : Int) : Ev (fun k => spec_Unframe.f k l a) (unframeT l a) := by
  refine Ev.val (l1InE a 0 l.length) ?_
  unfold unframeT
  by_cases h : 0 ≤ a ∧ a ≤ l.length
  · refine Ev.mid (if_pos h).symm (Ev.ite_pos (by simpa using h) ?_)
    by_cases he : a = l.length
    · exact Ev.mid (if_pos he).symm (Ev.ite_pos he (Ev.now _))
    · refine Ev.mid (if_neg he).symm (Ev.ite_neg he ?_)
      refine Ev.bind (spec_GetNum_ev l (by omega) hb a) ?_
      obtain ⟨at_, rfl⟩ := Int.eq_ofNat_of_zero_le h.1
      have hsh : Ev (fun k => spec_l3Short.f k l (at_ : Int)) (scan (l.drop at_) at_ 0 0).2.2.2 := by
        rw [scan_torn]
        exact l3Short_l0 l (by omega) at_ 10 0 rfl (by omega)
      refine Ev.bind hsh ?_
      simp only [Int.toNat_natCast, Nat.add_zero]
      unfold getNum
      rw [if_pos h, Int.toNat_natCast]
      obtain ⟨n, nx, ok, torn, hs⟩ : ∃ n nx ok torn, scan (l.drop at_) at_ 0 0 = (n, nx, ok, torn) := ⟨_, _, _, _, rfl⟩
      simp only [hs]
      cases torn
      · cases ok
        · simp only [Bool.false_eq_true, if_false, false_and]
          exact Ev.step (f := fun _ => some _) (fun k => by rw [spec_Unframe.j0, if_pos (by decide)]) (Ev.now _)
        · simp only [Bool.false_eq_true, if_false, if_true, true_and]
          refine Ev.val (l1InE n 0 20000) ?_
          by_cases hr : 0 ≤ n ∧ n ≤ 20000
          · rw [decide_eq_true hr, if_pos hr]
            obtain ⟨h1, h2, h3, h4⟩ := head_seg l at_ (by omega) hb n nx _ hs hr.1 hr.2
            have := spec_unJ l hl hb at_ nx.toNat n.toNat h1 h2 (by omega)
            rw [← h3, Int.toNat_of_nonneg hr.1] at this
            exact this
          · rw [decide_eq_false hr, if_neg hr]
            exact Ev.step (f := fun _ => some _) (fun k => by rw [spec_Unframe.j0, if_pos (by decide)]) (Ev.now _)
      · simp only [if_true]
        exact Ev.now _
  · exact Ev.mid (if_neg h).symm (Ev.ite_neg (by simpa using h) (Ev.now _))
theorem impl_unJ (l : List Int) (hl : l.length ≤ 4611686018427) (hb : ∀ c ∈ l, 0 ≤ c ∧ c ≤ 255) (at_ nx n : Nat) (h1 : at_ ≤ nx) (h2 : nx ≤ l.length) (hn : n ≤ 20000) (hh : seg l at_ nx = putNum n) :
    Ev (fun k => impl_Unframe.j0 k l (at_ : Int) (n : Int) (nx : Int) false) (unJ l at_ nx n) := by
  refine Ev.step (fun k => by rw [impl_Unframe.j0, if_neg (by decide)]) ?_
  unfold unJ
  rw [w64 (x := (l.length : Int) - (nx : Int)) (by omega) (by omega), w64 (x := (n : Int) + 4) (by omega) (by omega)]
  by_cases hs : n + 4 > l.length - nx
  · exact Ev.mid (if_pos hs).symm (Ev.ite_pos (by omega) (Ev.now _))
  · refine Ev.mid (if_neg hs).symm (Ev.ite_neg (by omega) ?_)
    have e1 : wrap64 ((nx : Int) + (n : Int)) = ((nx + n : Nat) : Int) := by rw [w64 (by omega) (by omega)]; omega
    have e2 : wrap64 (((nx + n : Nat) : Int) + 4) = ((nx + n + 4 : Nat) : Int) := by rw [w64 (by omega) (by omega)]; omega
    simp only [e1, e2, Int.toNat_natCast]
    have hbl : (seg l nx (nx + n)).length = n := by rw [seg_len l (by omega) (by omega)]; omega
    refine Ev.ite_pos (by omega) (Ev.ite_pos (by omega) (Ev.ite_pos (by omega) ?_))
    refine Ev.bind (impl_Frame_ev (seg l nx (nx + n)) (by omega) (seg_bytes l _ _ hb)) ?_
    refine Ev.ite_pos (by omega) (Ev.ite_pos (by omega) (Ev.ite_pos (by omega) ?_))
    have hfl := frameL_len (seg l nx (nx + n))
    refine Ev.bind (sEqB_ev (frameL (seg l nx (nx + n))) (seg l at_ (nx + n + 4)) (by omega)) ?_
    have hhead : headB (seg l nx (nx + n)) = seg l at_ (nx + n) := by
      unfold headB; rw [hbl, ← hh, ← seg_split l h1 (by omega) h2]
    have hiff : (frameL (seg l nx (nx + n)) = seg l at_ (nx + n + 4)) ↔ little (sumL (seg l at_ (nx + n))) = seg l (nx + n) (nx + n + 4) := by
      unfold frameL
      rw [hbl, if_neg (by omega), hhead, seg_split l (show at_ ≤ nx + n by omega) (show nx + n ≤ nx + n + 4 by omega) (by omega)]
      exact ⟨List.append_cancel_left, fun e => by rw [e]⟩
    by_cases hq : little (sumL (seg l at_ (nx + n))) = seg l (nx + n) (nx + n + 4)
    · refine Ev.mid (if_pos hq).symm (Ev.ite_pos (decide_eq_true (hiff.mpr hq)) ?_)
      exact Ev.val (sCloneB (seg l nx (nx + n)) (by omega)) (Ev.now _)
    · exact Ev.mid (if_neg hq).symm (Ev.ite_neg (by rw [decide_eq_true_eq, hiff]; exact hq) (Ev.now _))
theorem impl_Unframe_ev (l : List Int) (hl : l.length ≤ 4611686018427) (hb : ∀ c ∈ l, 0 ≤ c ∧ c ≤ 255) (a : Int) : Ev (fun k => impl_Unframe.f k l a) (unframeT l a) := by
  unfold unframeT
  by_cases he : a = l.length
  · exact Ev.mid (by rw [if_pos (by omega), if_pos he]) (Ev.ite_pos he (Ev.now _))
  · refine Ev.ite_neg he (Ev.val (fromE a 0 l.length) ?_)
    by_cases h : 0 ≤ a ∧ a ≤ l.length
    · refine Ev.mid (if_pos h).symm (Ev.ite_pos (by simpa using h) ?_)
      refine Ev.mid (if_neg he).symm ?_
      obtain ⟨at_, rfl⟩ := Int.eq_ofNat_of_zero_le h.1
      refine Ev.bind (impl_scanNum_ev l (by omega) hb at_ (by omega)) ?_
      simp only [Int.toNat_natCast]
      obtain ⟨n, nx, ok, torn, hs⟩ : ∃ n nx ok torn, scan (l.drop at_) at_ 0 0 = (n, nx, ok, torn) := ⟨_, _, _, _, rfl⟩
      simp only [hs]
      cases torn
      · cases ok
        · simp only [Bool.false_eq_true, if_false, false_and]
          exact Ev.step (f := fun _ => some _) (fun k => by rw [impl_Unframe.j0, if_pos (by decide)]) (Ev.now _)
        · simp only [Bool.false_eq_true, if_false, if_true, true_and]
          refine Ev.val (fromE n 0 20000) ?_
          by_cases hr : 0 ≤ n ∧ n ≤ 20000
          · rw [decide_eq_true hr, if_pos hr]
            obtain ⟨h1, h2, h3, h4⟩ := head_seg l at_ (by omega) hb n nx _ hs hr.1 hr.2
            have := impl_unJ l hl hb at_ nx.toNat n.toNat h1 h2 (by omega) h4
            rw [← h3, Int.toNat_of_nonneg hr.1] at this
            exact this
          · rw [decide_eq_false hr, if_neg hr]
            exact Ev.step (f := fun _ => some _) (fun k => by rw [impl_Unframe.j0, if_pos (by decide)]) (Ev.now _)
      · simp only [if_true]
        exact Ev.now _
    · exact Ev.mid (if_neg h).symm (Ev.ite_neg (by simpa using h) (Ev.now _))
theorem unframeT_len (l : List Int) (a : Int) : (unframeT l a).1.length ≤ l.length := by
  unfold unframeT unJ
  repeat' split
  all_goals first
    | (simp [seg]; done)
    | (simp [seg]; omega)

theorem FnExactUnframe (l : List Int) (a : Int) (hb : ∀ x ∈ l, (Lit.int .u8 x).wf = true) (_ : (Lit.int .i64 a).wf = true) : ∃ k, laws_FnExactUnframe.f k l a = some true := by
  refine Ev.rounds ?_
  by_cases hbig : (l.length : Int) > 1048576
  · exact Ev.ite_pos hbig (Ev.now true)
  refine Ev.ite_neg hbig ?_
  have hb' : ∀ c ∈ l, 0 ≤ c ∧ c ≤ 255 := fun c hc => wf8 (hb c hc)
  have hfl := unframeT_len l a
  refine Ev.bind (toByteS_ev l (by omega)) ?_
  refine Ev.bind (spec_Unframe_ev l (by omega) hb' a) ?_
  refine Ev.bind (toByteS_ev l (by omega)) ?_
  refine Ev.bind (impl_Unframe_ev l (by omega) hb' a) ?_
  have ne : ((unframeT l a).2.2 != (unframeT l a).2.2) = false := by simp
  refine Ev.bind (eqByteS_ev _ (by omega)) (Ev.ite_pos rfl (Ev.ite_pos rfl ?_))
  rw [ne]
  refine Ev.step (fun k => by rw [laws_FnExactUnframe.j0, if_neg (by decide)]) ?_
  refine Ev.bind (toByteS_ev l (by omega)) ?_
  refine Ev.bind (eqByteS_ev _ (by omega)) (Ev.ite_pos rfl ?_)
  refine Ev.bind (markByteS_ev l 1 (by omega) (by omega) (by omega)) (Ev.ite_neg (by simp; omega) ?_)
  refine Ev.bind (eqByteS_ev _ (by omega)) (Ev.ite_pos rfl (Ev.ite_pos rfl ?_))
  rw [ne]
  refine Ev.step (fun k => by rw [laws_FnExactUnframe.j1, if_neg (by decide)]) ?_
  refine Ev.bind (markByteS_ev _ 1 (by omega) (by omega) (by omega)) ?_
  refine Ev.bind (heldByteS_ev _ 1 (by omega) (by omega) (by omega)) (Ev.ite_neg (by omega) (Ev.ite_pos rfl ?_))
  refine Ev.bind (toByteS_ev l (by omega)) ?_
  refine Ev.bind (impl_Unframe_ev l (by omega) hb' a) ?_
  refine Ev.bind (eqByteS_ev _ (by omega)) (Ev.ite_pos rfl (Ev.ite_pos rfl ?_))
  rw [ne]
  refine Ev.step (fun k => by rw [laws_FnExactUnframe.j2, if_neg (by decide)]) ?_
  exact Ev.bind (heldByteS_ev _ 1 (by omega) (by omega) (by omega)) (Ev.ite_neg (by omega) (Ev.ite_pos rfl (Ev.now true)))

end Go.Proofs.Ytigmadccchofiaa.Pure
