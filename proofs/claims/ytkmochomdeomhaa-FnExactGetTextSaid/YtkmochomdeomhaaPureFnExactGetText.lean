/-
The pure part of the statement FnExactGetText: what the printed functions answer is true at every input.
Conditions: none but the kinds' own bounds, as the printed statement has them.
-/
import Derived.Test.YtkmochomdeomhaaQFnExactGetTextx0
import Derived.Test.YtkmochomdeomhaaQFnExactGetTextx1
import Derived.Test.YtkmochomdeomhaaQFnExactGetTextx2
namespace Go.Proofs.Ytkmochomdeomhaa.Pure
open Go.RowKit Go.Proofs.Ytkmochomdeomhaa.QFnExactGetText Go.Proofs.YtkmochomdeomhaaW.PrintWords Go.Proofs.YtkmochomdeomhaaW.PrintLast Go.Proofs.YtkmochomdeomhaaW.PrintMore
set_option linter.unusedVariables false
set_option linter.unusedSimpArgs false

theorem wf64 {x : Int} (h : (Lit.int .i64 x).wf = true) : -9223372036854775808 ≤ x ∧ x ≤ 9223372036854775807 := by
  simpa [Lit.wf, IntKind.min, IntKind.max, IntKind.signed, IntKind.bits] using h
theorem wf8 {x : Int} (h : (Lit.int .u8 x).wf = true) : 0 ≤ x ∧ x ≤ 255 := by
  simpa [Lit.wf, IntKind.min, IntKind.max, IntKind.signed, IntKind.bits] using h
theorem w64 {x : Int} (h0 : -9223372036854775808 ≤ x) (h1 : x ≤ 9223372036854775807) : wrap64 x = x := by unfold wrap64; omega
theorem u64w (n : Int) : IntKind.u64.wrap n = n % 18446744073709551616 := by simp [IntKind.wrap, IntKind.bits, IntKind.signed]
theorem u64in {x : Int} (h0 : 0 ≤ x) (h1 : x < 18446744073709551616) : IntKind.u64.wrap x = x := by rw [u64w]; omega
theorem rd_get (xs : List Int) (i : Int) (j : Nat) (x : Int) (hi : i = j) (h : xs[j]? = some x) : rd xs i = x := by
  subst hi
  simp [rd, List.getD, h]
theorem Ev.mid {α : Type} {g : Nat → Option α} {a b : α} (h : a = b) (e : Ev g a) : Ev g b := h ▸ e
theorem Ev.const {α : Type} {g : Nat → Option α} {a : α} (h : ∀ k, g k = some a) : Ev g a := ⟨0, fun k _ => h k⟩
theorem Ev.ite_pos {α : Type} {c : Prop} [Decidable c] {g f : Nat → Option α} {r : α} (hc : c) (h : Ev g r) : Ev (fun k => if c then g k else f k) r := by
  simp only [if_pos hc]
  exact h
theorem Ev.ite_neg {α : Type} {c : Prop} [Decidable c] {g f : Nat → Option α} {r : α} (hc : ¬ c) (h : Ev f r) : Ev (fun k => if c then g k else f k) r := by
  simp only [if_neg hc]
  exact h
/-- A part that has no rounds. -/
theorem Ev.val {α β : Type} {o : Option α} {f : Nat → α → Option β} {a : α} {r : β} (h : o = some a) (k : Ev (fun n => f n a) r) : Ev (fun n => o.bind (f n)) r := by
  subst h
  exact k

theorem eqByteS_l0 (a : List Int) (hn : a.length ≤ 4611686018427387904) (d : Nat) : ∀ (i : Nat), i + d = a.length → Ev (fun k => laws_eqByteS.l0 k a a (i : Int)) true := by
  induction d with
  | zero =>
    intro i h
    exact Ev.step (f := fun _ => some true) (fun k => by rw [laws_eqByteS.l0, if_neg (by omega)]) (Ev.now true)
  | succ d ih =>
    intro i h
    refine Ev.step (fun k => ?_) (ih (i + 1) (by omega))
    rw [laws_eqByteS.l0, if_pos (by omega), if_pos (by omega), if_pos (by omega), if_pos rfl, w64 (by omega) (by omega)]
    rfl
theorem eqByteS_ev (a : List Int) (hn : a.length ≤ 4611686018427387904) : Ev (fun k => laws_eqByteS.f k a a) true := by
  refine Ev.congr (fun k => ?_) (eqByteS_l0 a hn a.length 0 (by omega))
  rw [laws_eqByteS.f, if_pos rfl]
  rfl

theorem toByteS_l0 (a : List Int) (hn : a.length ≤ 4611686018427387904) (d : Nat) : ∀ (i : Nat), i + d = a.length → Ev (fun k => laws_toByteS.l0 k a (a.take i ++ List.replicate d 0) (i : Int)) a := by
  induction d with
  | zero =>
    intro i h
    refine Ev.step (f := fun _ => some a) (fun k => ?_) (Ev.now a)
    rw [laws_toByteS.l0, if_neg (by omega)]
    simp [List.take_of_length_le (show a.length ≤ i by omega)]
  | succ d ih =>
    intro i h
    refine Ev.step (fun k => ?_) (ih (i + 1) (by omega))
    have hi : i < a.length := by omega
    rw [laws_toByteS.l0, if_pos (by omega), if_pos (by omega), if_pos (by simp; omega), w64 (by omega) (by omega)]
    have hr : rd a (i : Int) = a[i] := rd_get a i i _ rfl (List.getElem?_eq_getElem hi)
    have e : (a.take i ++ List.replicate (d + 1) 0).set (i : Int).toNat (rd a (i : Int)) = a.take (i + 1) ++ List.replicate d 0 := by
      have hl : (a.take i).length = i := by simp; omega
      rw [hr, List.take_succ_eq_append_getElem hi, List.set_append_right _ _ (by rw [hl]; simp), hl, List.append_assoc]
      simp [List.replicate_succ]
    rw [e]
    rfl
theorem toByteS_ev (a : List Int) (hn : a.length ≤ 281474976710656) : Ev (fun k => laws_toByteS.f k a) a := by
  refine Ev.congr (fun k => ?_) (toByteS_l0 a (by omega) a.length 0 (by omega))
  rw [laws_toByteS.f, if_pos (by omega), if_pos (by omega)]
  simp

theorem u64or (a b : Nat) (ha : a < 18446744073709551616) (hb : b < 18446744073709551616) : Go.bits .or .u64 (a : Int) (b : Int) = ((a ||| b : Nat) : Int) :=
  (Go.bits_nat .u64 64 (by decide) (fun n h0 h1 => by rw [u64w]; omega) a b ha hb).2
/-- Bits that stand apart: 'or' is the sum. -/
theorem u64or_low (x y : Int) (i : Nat) (hx0 : 0 ≤ x) (hx : x < 2 ^ i) (hy0 : 0 ≤ y) (hy : y % 2 ^ i = 0) (hy1 : y < 18446744073709551616) (hi : i ≤ 64) : Go.bits .or .u64 x y = x + y := by
  obtain ⟨a, rfl⟩ := Int.eq_ofNat_of_zero_le hx0
  obtain ⟨b, rfl⟩ := Int.eq_ofNat_of_zero_le hy0
  have ha : a < 2 ^ i := by exact_mod_cast hx
  have hb : b % 2 ^ i = 0 := by exact_mod_cast hy
  have h2 : (2 : Nat) ^ i ≤ 18446744073709551616 := by
    have := Nat.pow_le_pow_right (show 0 < 2 by decide) hi
    exact Nat.le_trans this (by decide)
  rw [u64or a b (by omega) (by omega), Nat.or_comm]
  have hq : b = 2 ^ i * (b / 2 ^ i) := by
    have := Nat.div_add_mod b (2 ^ i)
    omega
  rw [hq, ← Nat.two_pow_add_eq_or_of_lt ha (b / 2 ^ i)]
  omega
theorem u64or_high (x y : Int) (i : Nat) (hx0 : 0 ≤ x) (hx : x % 2 ^ i = 0) (hx1 : x < 18446744073709551616) (hy0 : 0 ≤ y) (hy : y < 2 ^ i) (hi : i ≤ 64) : Go.bits .or .u64 x y = x + y := by
  have e : Go.bits .or .u64 x y = Go.bits .or .u64 y x := by
    obtain ⟨a, rfl⟩ := Int.eq_ofNat_of_zero_le hx0
    obtain ⟨b, rfl⟩ := Int.eq_ofNat_of_zero_le hy0
    have hb : b < 2 ^ i := by exact_mod_cast hy
    have h2 : (2 : Nat) ^ i ≤ 18446744073709551616 := by
      have := Nat.pow_le_pow_right (show 0 < 2 by decide) hi
      exact Nat.le_trans this (by decide)
    rw [u64or a b (by omega) (by omega), u64or b a (by omega) (by omega), Nat.or_comm]
  rw [e, u64or_low y x i hy0 hy hx0 hx hx1 hi]
  omega

/-- What reading a short number tells: the number, the place behind it, is it whole, is it torn. i: how many bytes were read. -/
def scan : List Int → Nat → Nat → Int → Int × Int × Bool × Bool
  | [], _, i, _ => (0, 0, false, decide (i < 10))
  | c :: cs, p, i, x => if 10 ≤ i then (0, 0, false, false) else if i = 9 ∧ c > 1 then (0, 0, false, false) else
      if c < 128 then (wrap64 (x + (c % 128) * 128 ^ i), (p : Int) + 1, decide (c > 0 ∨ i = 0), false) else scan cs (p + 1) (i + 1) (x + (c % 128) * 128 ^ i)
theorem scan_bad {c : Int} {cs : List Int} {p i : Nat} {x : Int} (hi : i < 10) (h : i = 9 ∧ c > 1) : scan (c :: cs) p i x = (0, 0, false, false) := by rw [scan, if_neg (by omega), if_pos h]
theorem scan_low {c : Int} {cs : List Int} {p i : Nat} {x : Int} (hi : i < 10) (h : ¬ (i = 9 ∧ c > 1)) (hc : c < 128) : scan (c :: cs) p i x = (wrap64 (x + (c % 128) * 128 ^ i), (p : Int) + 1, decide (c > 0 ∨ i = 0), false) := by rw [scan, if_neg (by omega), if_neg h, if_pos hc]
theorem scan_next {c : Int} {cs : List Int} {p i : Nat} {x : Int} (hi : i < 10) (h : ¬ (i = 9 ∧ c > 1)) (hc : ¬ c < 128) : scan (c :: cs) p i x = scan cs (p + 1) (i + 1) (x + (c % 128) * 128 ^ i) := by rw [scan, if_neg (by omega), if_neg h, if_neg hc]
/-- The next state of the number. -/
theorem scan_or (x c : Int) (i : Nat) (hi : i < 10) (hx0 : 0 ≤ x) (hx : x < 128 ^ i) (hc0 : 0 ≤ c) (hc1 : c ≤ 255) (h9 : ¬ (i = 9 ∧ c > 1)) (n : Int) (hn : n = 7 * (i : Int)) :
    Go.bits .or .u64 x (shl .u64 (IntKind.u64.wrap (Int.tmod c 128)) n) = x + (c % 128) * 128 ^ i ∧ x + (c % 128) * 128 ^ i < 18446744073709551616 ∧ (i < 9 → x + (c % 128) * 128 ^ i < 128 ^ (i + 1)) := by
  subst hn
  rw [Int.tmod_eq_emod_of_nonneg hc0, u64in (by omega) (by omega)]
  have hp : (2 : Int) ^ (7 * i) = 128 ^ i := by rw [Int.pow_mul]; rfl
  have hmin : min (7 * (i : Int)).toNat IntKind.u64.bits = 7 * i := by
    have : IntKind.u64.bits = 64 := rfl
    omega
  unfold shl
  rw [hmin, hp]
  have h128 : (0 : Int) < 128 ^ i := Int.pow_pos (by decide)
  have hb : (c % 128) * 128 ^ i < 18446744073709551616 ∧ x + (c % 128) * 128 ^ i < 18446744073709551616 := by
    have : i = 0 ∨ i = 1 ∨ i = 2 ∨ i = 3 ∨ i = 4 ∨ i = 5 ∨ i = 6 ∨ i = 7 ∨ i = 8 ∨ i = 9 := by omega
    rcases this with rfl | rfl | rfl | rfl | rfl | rfl | rfl | rfl | rfl | rfl <;> simp at hx h9 ⊢ <;> omega
  have h0 : 0 ≤ (c % 128) * 128 ^ i := Int.mul_nonneg (by omega) (by omega)
  rw [u64in h0 hb.1]
  refine ⟨u64or_low _ _ (7 * i) hx0 (by rw [hp]; exact hx) h0 (by rw [hp]; exact Int.mul_emod_left _ _) hb.1 (by omega), hb.2, fun h => ?_⟩
  rw [Int.pow_succ]
  have : (c % 128) * 128 ^ i ≤ 127 * 128 ^ i := Int.mul_le_mul_of_nonneg_right (by omega) (by omega)
  omega
theorem drop_cons (l : List Int) (p : Nat) (h : p < l.length) : ∃ c cs, l.drop p = c :: cs ∧ l[p]? = some c ∧ cs = l.drop (p + 1) ∧ c ∈ l :=
  ⟨l[p], l.drop (p + 1), List.drop_eq_getElem_cons h, List.getElem?_eq_getElem h, rfl, List.getElem_mem h⟩
theorem impl_scanNum_l0 (l : List Int) (hl : l.length ≤ 4611686018427387904) (hb : ∀ c ∈ l, 0 ≤ c ∧ c ≤ 255) (at_ : Nat) (d : Nat) :
    ∀ (i : Nat) (x : Int), i + d = 10 → 0 ≤ x → (i ≤ 9 → x < 128 ^ i) → at_ ≤ l.length →
    Ev (fun k => impl_scanNum.l0 k l (at_ : Int) x (i : Int)) (scan (l.drop (at_ + i)) (at_ + i) i x) := by
  induction d with
  | zero =>
    intro i x h hx0 hx hat
    obtain rfl : i = 10 := by omega
    refine Ev.step (f := fun _ => some _) (fun k => ?_) (Ev.now _)
    rw [impl_scanNum.l0, if_neg (by omega)]
    cases hd : l.drop (at_ + 10) with
    | nil => rfl
    | cons c cs => simp [scan]
  | succ d ih =>
    intro i x h hx0 hx hat
    by_cases hlt : at_ + i < l.length
    · obtain ⟨c, cs, hd, hg, hcs, hm⟩ := drop_cons l (at_ + i) hlt
      have hc := hb c hm
      have hw : wrap64 ((at_ : Int) + (i : Int)) = ((at_ + i : Nat) : Int) := by rw [w64 (by omega) (by omega)]; omega
      have hr : rd l ((at_ + i : Nat) : Int) = c := rd_get l _ _ _ rfl hg
      have hw7 : wrap64 (7 * (i : Int)) = 7 * (i : Int) := w64 (by omega) (by omega)
      rw [hd]
      have head : ∀ k, impl_scanNum.l0 (k + 1) l (at_ : Int) x (i : Int) = impl_scanNum.j1 k l (at_ : Int) x (i : Int) c (i : Int) (decide (i = 9 ∧ c > 1)) := by
        intro k
        rw [impl_scanNum.l0, if_pos (by omega), hw, if_neg (by omega), if_pos (by omega), if_pos (by omega), hr]
        by_cases h9 : i = 9
        · rw [if_pos (by omega)]; simp [h9]
        · rw [if_neg (by omega)]; simp [h9]
      refine Ev.step head ?_
      by_cases hbad : i = 9 ∧ c > 1
      · refine Ev.step (f := fun _ => some _) (fun k => ?_) (Ev.now _)
        rw [scan_bad (by omega) hbad, impl_scanNum.j1, decide_eq_true hbad, if_pos rfl]
      · obtain ⟨e1, e2, e3⟩ := scan_or x c i (by omega) hx0 (hx (by omega)) hc.1 hc.2 hbad (7 * (i : Int)) rfl
        have hnn : 0 ≤ (c % 128) * 128 ^ i := Int.mul_nonneg (by omega) (Int.le_of_lt (Int.pow_pos (by decide)))
        by_cases hlow : c < 128
        · refine Ev.step (f := fun _ => some _) (fun k => ?_) (Ev.now _)
          rw [scan_low (by omega) hbad hlow, impl_scanNum.j1, decide_eq_false hbad, if_neg (by decide), hw7, if_pos (by omega), if_pos hlow, e1, hw, w64 (x := ((at_ + i : Nat) : Int) + 1) (by omega) (by omega)]
          by_cases h0 : c > 0
          · rw [if_pos h0, decide_eq_true (Or.inl h0)]
          · rw [if_neg h0]
            by_cases hi0 : i = 0
            · subst hi0; rw [decide_eq_true (Or.inr rfl)]; rfl
            · rw [decide_eq_false (by omega)]
              have : ((i : Int) == 0) = false := by simpa using hi0
              rw [this]
        · have hn := ih (i + 1) (x + (c % 128) * 128 ^ i) (by omega) (by omega) (fun h => e3 (by omega)) hat
          refine Ev.step (fun k => ?_) (Ev.mid ?_ hn)
          · rw [impl_scanNum.j1, decide_eq_false hbad, if_neg (by decide), hw7, if_pos (by omega), if_neg hlow, e1, w64 (x := (i : Int) + 1) (by omega) (by omega)]
            rfl
          · rw [scan_next (by omega) hbad hlow, hcs]
            rfl
    · refine Ev.step (f := fun _ => some _) (fun k => ?_) (Ev.now _)
      rw [impl_scanNum.l0, if_pos (by omega), w64 (x := (at_ : Int) + (i : Int)) (by omega) (by omega), if_pos (by omega), List.drop_eq_nil_of_le (by omega), scan, decide_eq_true (by omega)]
theorem impl_scanNum_ev (l : List Int) (hl : l.length ≤ 4611686018427387904) (hb : ∀ c ∈ l, 0 ≤ c ∧ c ≤ 255) (at_ : Nat) (hat : at_ ≤ l.length) :
    Ev (fun k => impl_scanNum.f k l (at_ : Int)) (scan (l.drop at_) at_ 0 0) :=
  impl_scanNum_l0 l hl hb at_ 10 0 0 rfl (by decide) (fun _ => by decide) hat
/-- The number that stands in l from a on. -/
def getNum (l : List Int) (a : Int) : Int × Int × Bool :=
  if 0 ≤ a ∧ a ≤ l.length then (if (scan (l.drop a.toNat) a.toNat 0 0).2.2.1 = true then ((scan (l.drop a.toNat) a.toNat 0 0).1, (scan (l.drop a.toNat) a.toNat 0 0).2.1, true) else (0, 0, false)) else (0, 0, false)
theorem fromE (a b c : Int) : impl_from.f a b c = some (decide (b ≤ a ∧ a ≤ c)) := by
  unfold impl_from.f
  by_cases h : a ≥ b
  · simp [if_pos h, h]
  · simp [if_neg h]; omega
theorem impl_GetNum_ev (l : List Int) (hl : l.length ≤ 4611686018427387904) (hb : ∀ c ∈ l, 0 ≤ c ∧ c ≤ 255) (a : Int) : Ev (fun k => impl_GetNum.f k l a) (getNum l a) := by
  refine Ev.val (fromE a 0 l.length) ?_
  by_cases h : 0 ≤ a ∧ a ≤ l.length
  · refine Ev.ite_pos (by simpa using h) ?_
    obtain ⟨n, rfl⟩ := Int.eq_ofNat_of_zero_le h.1
    refine Ev.bind (impl_scanNum_ev l hl hb n (by omega)) ?_
    unfold getNum
    rw [if_pos h, Int.toNat_natCast]
    by_cases hw : (scan (l.drop n) n 0 0).2.2.1 = true
    · exact Ev.mid (if_pos hw).symm (Ev.ite_pos hw (Ev.now _))
    · exact Ev.mid (if_neg hw).symm (Ev.ite_neg hw (Ev.now _))
  · refine Ev.ite_neg (by simpa using h) (Ev.mid ?_ (Ev.now _))
    unfold getNum; rw [if_neg h]

theorem spec_GetNum_l0 (l : List Int) (hl : l.length ≤ 4611686018427387904) (hb : ∀ c ∈ l, 0 ≤ c ∧ c ≤ 255) (at_ : Nat) (d : Nat) :
    ∀ (i : Nat) (x : Int), i + d = 10 → 0 ≤ x → (i ≤ 9 → x < 128 ^ i) → at_ ≤ l.length →
    Ev (fun k => spec_GetNum.l0 k l (at_ : Int) x (i : Int)) (if (scan (l.drop (at_ + i)) (at_ + i) i x).2.2.1 = true then ((scan (l.drop (at_ + i)) (at_ + i) i x).1, (scan (l.drop (at_ + i)) (at_ + i) i x).2.1, true) else (0, 0, false)) := by
  induction d with
  | zero =>
    intro i x h hx0 hx hat
    obtain rfl : i = 10 := by omega
    have hs : (scan (l.drop (at_ + 10)) (at_ + 10) 10 x).2.2.1 = false := by
      cases hd : l.drop (at_ + 10) with
      | nil => rfl
      | cons c cs => simp [scan]
    rw [hs, if_neg (by decide)]
    refine Ev.step (f := fun k => spec_GetNum.j1 k l (at_ : Int) x ((10 : Nat) : Int) false) (fun k => ?_) (Ev.step (f := fun _ => some _) (fun k => ?_) (Ev.now _))
    · rw [spec_GetNum.l0, if_neg (by omega)]
    · rw [spec_GetNum.j1, if_neg (by decide)]
  | succ d ih =>
    intro i x h hx0 hx hat
    by_cases hlt : at_ + i < l.length
    · obtain ⟨c, cs, hd, hg, hcs, hm⟩ := drop_cons l (at_ + i) hlt
      have hc := hb c hm
      have hw : wrap64 ((at_ : Int) + (i : Int)) = ((at_ + i : Nat) : Int) := by rw [w64 (by omega) (by omega)]; omega
      have hr : rd l ((at_ + i : Nat) : Int) = c := rd_get l _ _ _ rfl hg
      have hw7 : wrap64 (7 * (i : Int)) = 7 * (i : Int) := w64 (by omega) (by omega)
      have hw8 : IntKind.u64.wrap (7 * (i : Int)) = 7 * (i : Int) := u64in (by omega) (by omega)
      rw [hd]
      have head : ∀ k, spec_GetNum.l0 (k + 1) l (at_ : Int) x (i : Int) = spec_GetNum.j1 k l (at_ : Int) x (i : Int) true := by
        intro k
        rw [spec_GetNum.l0, if_pos (by omega), if_pos (by omega), hw, decide_eq_true (by omega)]
      have next : ∀ k, spec_GetNum.j1 (k + 1) l (at_ : Int) x (i : Int) true = spec_GetNum.j2 k l (at_ : Int) x (i : Int) c (decide (i = 9 ∧ c > 1)) := by
        intro k
        rw [spec_GetNum.j1, if_pos rfl, hw, if_pos (by omega), if_pos (by omega), hr]
        by_cases h9 : i = 9
        · rw [if_pos (by omega)]; simp [h9]
        · rw [if_neg (by omega)]; simp [h9]
      refine Ev.step head (Ev.step next ?_)
      by_cases hbad : i = 9 ∧ c > 1
      · refine Ev.step (f := fun _ => some _) (fun k => ?_) (Ev.now _)
        rw [scan_bad (by omega) hbad, spec_GetNum.j2, decide_eq_true hbad, if_pos rfl, if_neg (by decide)]
      · obtain ⟨e1, e2, e3⟩ := scan_or x c i (by omega) hx0 (hx (by omega)) hc.1 hc.2 hbad (7 * (i : Int)) rfl
        have hnn : 0 ≤ (c % 128) * 128 ^ i := Int.mul_nonneg (by omega) (Int.le_of_lt (Int.pow_pos (by decide)))
        by_cases hlow : c < 128
        · refine Ev.step (f := fun _ => some _) (fun k => ?_) (Ev.now _)
          rw [scan_low (by omega) hbad hlow, spec_GetNum.j2, decide_eq_false hbad, if_neg (by decide), hw7, hw8, if_pos (by omega), if_pos hlow, e1, hw, w64 (x := ((at_ + i : Nat) : Int) + 1) (by omega) (by omega)]
          by_cases hi0 : (i : Int) > 0
          · rw [if_pos hi0]
            by_cases h0 : c = 0
            · rw [if_pos h0, if_neg]
              simp; omega
            · rw [if_neg h0, if_pos]
              simp; omega
          · rw [if_neg hi0, if_pos]
            simp; omega
        · have hn := ih (i + 1) (x + (c % 128) * 128 ^ i) (by omega) (by omega) (fun h => e3 (by omega)) hat
          refine Ev.step (fun k => ?_) (Ev.mid ?_ hn)
          · rw [spec_GetNum.j2, decide_eq_false hbad, if_neg (by decide), hw7, hw8, if_pos (by omega), if_neg hlow, e1, w64 (x := (i : Int) + 1) (by omega) (by omega)]
            rfl
          · rw [scan_next (by omega) hbad hlow, hcs]
            rfl
    · have hs : (scan (l.drop (at_ + i)) (at_ + i) i x).2.2.1 = false := by rw [List.drop_eq_nil_of_le (by omega)]; rfl
      rw [hs, if_neg (by decide)]
      refine Ev.step (f := fun k => spec_GetNum.j1 k l (at_ : Int) x (i : Int) false) (fun k => ?_) (Ev.step (f := fun _ => some _) (fun k => ?_) (Ev.now _))
      · rw [spec_GetNum.l0, if_pos (by omega)]
        by_cases h1 : (at_ : Int) < (l.length : Int)
        · rw [if_pos h1, w64 (x := (at_ : Int) + (i : Int)) (by omega) (by omega), decide_eq_false (by omega)]
        · rw [if_neg h1]
      · rw [spec_GetNum.j1, if_neg (by decide)]
theorem spec_GetNum_ev (l : List Int) (hl : l.length ≤ 4611686018427387904) (hb : ∀ c ∈ l, 0 ≤ c ∧ c ≤ 255) (a : Int) : Ev (fun k => spec_GetNum.f k l a) (getNum l a) := by
  unfold getNum
  by_cases h0 : a < 0
  · rw [if_neg (by omega)]
    exact Ev.const fun k => by rw [spec_GetNum.f, if_pos h0]
  · obtain ⟨n, rfl⟩ := Int.eq_ofNat_of_zero_le (show 0 ≤ a by omega)
    have e : ∀ k, spec_GetNum.f k l (n : Int) = spec_GetNum.l0 k l (n : Int) 0 ((0 : Nat) : Int) := fun k => by rw [spec_GetNum.f, if_neg h0]; rfl
    refine Ev.congr e ?_
    by_cases h : n ≤ l.length
    · rw [if_pos (by omega), Int.toNat_natCast]
      exact spec_GetNum_l0 l hl hb n 10 0 0 rfl (by decide) (fun _ => by decide) h
    · rw [if_neg (by omega)]
      refine Ev.step (f := fun k => spec_GetNum.j1 k l (n : Int) 0 ((0 : Nat) : Int) false) (fun k => ?_) (Ev.step (f := fun _ => some _) (fun k => ?_) (Ev.now _))
      · rw [spec_GetNum.l0, if_pos (by omega), if_neg (by omega)]
      · rw [spec_GetNum.j1, if_neg (by decide)]

theorem wrap64_bd (x : Int) : -9223372036854775808 ≤ wrap64 x ∧ wrap64 x ≤ 9223372036854775807 := by unfold wrap64; omega
theorem scan_ok (cs : List Int) : ∀ (p i : Nat) (x : Int), (scan cs p i x).2.2.1 = true → (p : Int) + 1 ≤ (scan cs p i x).2.1 ∧ (scan cs p i x).2.1 ≤ p + cs.length ∧ -9223372036854775808 ≤ (scan cs p i x).1 ∧ (scan cs p i x).1 ≤ 9223372036854775807 := by
  induction cs with
  | nil => intro p i x h; simp [scan] at h
  | cons c cs ih =>
    intro p i x h
    by_cases hi : i < 10
    · by_cases hbad : i = 9 ∧ c > 1
      · rw [scan_bad hi hbad] at h; cases h
      · by_cases hlow : c < 128
        · rw [scan_low hi hbad hlow] at h ⊢
          have := wrap64_bd (x + (c % 128) * 128 ^ i)
          simp only [List.length_cons]
          omega
        · rw [scan_next hi hbad hlow] at h ⊢
          have := ih (p + 1) (i + 1) _ h
          simp only [List.length_cons]
          omega
    · rw [scan, if_pos (by omega)] at h; cases h
theorem getNum_ok {l : List Int} {a n next : Int} (h : getNum l a = (n, next, true)) : 0 ≤ a ∧ a + 1 ≤ next ∧ next ≤ l.length ∧ -9223372036854775808 ≤ n ∧ n ≤ 9223372036854775807 := by
  unfold getNum at h
  split at h
  · rename_i ha
    split at h
    · rename_i hs
      obtain ⟨h1, h2⟩ := Prod.mk.inj h
      obtain ⟨h3, _⟩ := Prod.mk.inj h2
      have := scan_ok _ _ _ _ hs
      rw [h1, h3, List.length_drop] at this
      omega
    · simp at h
  · simp at h
/-- The text that stands in l from a on. -/
def getText (l : List Int) (a : Int) : ByteArray × Int × Bool :=
  if (getNum l a).2.2 = true ∧ 0 ≤ (getNum l a).1 ∧ (getNum l a).1 ≤ l.length - (getNum l a).2.1 then
    (strOfNums ((l.take ((getNum l a).2.1 + (getNum l a).1).toNat).drop (getNum l a).2.1.toNat), (getNum l a).2.1 + (getNum l a).1, true)
  else ((⟨#[]⟩ : ByteArray), 0, false)
theorem spec_GetText_ev (l : List Int) (hl : l.length ≤ 4611686018427387904) (hb : ∀ c ∈ l, 0 ≤ c ∧ c ≤ 255) (a : Int) : Ev (fun k => spec_GetText.f k l a) (getText l a) := by
  refine Ev.bind (spec_GetNum_ev l hl hb a) ?_
  obtain ⟨n, next, ok⟩ : ∃ x y z, getNum l a = (x, y, z) := ⟨_, _, _, rfl⟩
  obtain ⟨z, hg⟩ := ok
  unfold getText
  rw [hg]
  cases z
  · exact Ev.mid (by simp) (Ev.ite_neg (by simp) (Ev.now _))
  · have hk := getNum_ok hg
    refine Ev.ite_pos rfl ?_
    by_cases h0 : n < 0
    · exact Ev.mid (if_neg (fun h => by simp at h; omega)).symm (Ev.ite_pos h0 (Ev.now _))
    · refine Ev.ite_neg h0 ?_
      simp only [w64 (x := (l.length : Int) - next) (by omega) (by omega)]
      by_cases h1 : n > (l.length : Int) - next
      · exact Ev.mid (if_neg (fun h => by simp at h; omega)).symm (Ev.ite_pos h1 (Ev.now _))
      · simp only [w64 (x := next + n) (by omega) (by omega)]
        exact Ev.mid (if_pos (by simp; omega)).symm (Ev.ite_neg h1 (Ev.ite_pos (by omega) (Ev.ite_pos (by omega) (Ev.ite_pos (by omega) (Ev.now _)))))
theorem impl_GetText_ev (l : List Int) (hl : l.length ≤ 4611686018427387904) (hb : ∀ c ∈ l, 0 ≤ c ∧ c ≤ 255) (a : Int) : Ev (fun k => impl_GetText.f k l a) (getText l a) := by
  refine Ev.bind (impl_GetNum_ev l hl hb a) ?_
  obtain ⟨n, next, ok⟩ : ∃ x y z, getNum l a = (x, y, z) := ⟨_, _, _, rfl⟩
  obtain ⟨z, hg⟩ := ok
  unfold getText
  rw [hg]
  cases z
  · exact Ev.mid (by simp) (Ev.ite_neg (by simp) (Ev.now _))
  · have hk := getNum_ok hg
    refine Ev.ite_pos rfl ?_
    by_cases h0 : n < 0
    · exact Ev.mid (if_neg (fun h => by simp at h; omega)).symm (Ev.ite_pos h0 (Ev.now _))
    · refine Ev.ite_neg h0 ?_
      simp only [w64 (x := (l.length : Int) - next) (by omega) (by omega)]
      by_cases h1 : n > (l.length : Int) - next
      · exact Ev.mid (if_neg (fun h => by simp at h; omega)).symm (Ev.ite_pos h1 (Ev.now _))
      · simp only [w64 (x := next + n) (by omega) (by omega)]
        exact Ev.mid (if_pos (by simp; omega)).symm (Ev.ite_neg h1 (Ev.ite_pos (by omega) (Ev.ite_pos (by omega) (Ev.ite_pos (by omega) (Ev.now _)))))

theorem FnExactGetText (l : List Int) (a : Int) (hb : ∀ x ∈ l, (Lit.int .u8 x).wf = true) (ha : (Lit.int .i64 a).wf = true) : ∃ k, laws_FnExactGetText.f k l a = some true := by
  refine Ev.rounds ?_
  by_cases hbig : (l.length : Int) > 1048576
  · exact Ev.ite_pos hbig (Ev.now true)
  refine Ev.ite_neg hbig ?_
  have hb' : ∀ c ∈ l, 0 ≤ c ∧ c ≤ 255 := fun c hc => wf8 (hb c hc)
  refine Ev.bind (toByteS_ev l (by omega)) ?_
  refine Ev.bind (spec_GetText_ev l (by omega) hb' a) ?_
  refine Ev.bind (toByteS_ev l (by omega)) ?_
  refine Ev.bind (impl_GetText_ev l (by omega) hb' a) ?_
  refine Ev.ite_pos rfl ?_
  refine Ev.ite_pos rfl ?_
  have e : ((getText l a).2.2 != (getText l a).2.2) = false := by simp
  simp only [e]
  refine Ev.step (f := fun k => (laws_toByteS.f k l).bind fun t => (laws_eqByteS.f k l t).bind fun u => if u = true then some true else some false) (fun k => ?_) ?_
  · rw [laws_FnExactGetText.j0, if_neg (by decide)]
  refine Ev.bind (toByteS_ev l (by omega)) ?_
  refine Ev.bind (eqByteS_ev l (by omega)) ?_
  exact Ev.ite_pos rfl (Ev.now true)

end Go.Proofs.Ytkmochomdeomhaa.Pure
