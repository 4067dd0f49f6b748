/-
The pure part of the statement FnExactPutAddr: what the printed functions answer is true at every input.
Conditions: none but the kinds' own bounds, as the printed statement has them.
-/
import Derived.Test.YtkmochomdeomhaaQFnExactPutAddrx0
import Derived.Test.YtkmochomdeomhaaQFnExactPutAddrx1
import Derived.Test.YtkmochomdeomhaaQFnExactPutAddrx2
import Derived.Test.YtkmochomdeomhaaQFnExactPutAddrx3
namespace Go.Proofs.Ytkmochomdeomhaa.Pure
open Go.RowKit Go.Proofs.Ytkmochomdeomhaa.QFnExactPutAddr Go.Proofs.YtkmochomdeomhaaW.PrintWords Go.Proofs.YtkmochomdeomhaaW.PrintLast Go.Proofs.YtkmochomdeomhaaW.PrintMore
set_option linter.unusedVariables false
set_option linter.unusedSimpArgs false

theorem wf64 {x : Int} (h : (Lit.int .i64 x).wf = true) : -9223372036854775808 ≤ x ∧ x ≤ 9223372036854775807 := by
  simpa [Lit.wf, IntKind.min, IntKind.max, IntKind.signed, IntKind.bits] using h
theorem wf8 {x : Int} (h : (Lit.int .u8 x).wf = true) : 0 ≤ x ∧ x ≤ 255 := by
  simpa [Lit.wf, IntKind.min, IntKind.max, IntKind.signed, IntKind.bits] using h
theorem w64 {x : Int} (h0 : -9223372036854775808 ≤ x) (h1 : x ≤ 9223372036854775807) : wrap64 x = x := by unfold wrap64; omega
theorem u64w (n : Int) : IntKind.u64.wrap n = n % 18446744073709551616 := by simp [IntKind.wrap, IntKind.bits, IntKind.signed]
theorem u64in {x : Int} (h0 : 0 ≤ x) (h1 : x < 18446744073709551616) : IntKind.u64.wrap x = x := by rw [u64w]; omega
theorem rd_get (xs : List Int) (i : Int) (j : Nat) (x : Int) (hi : i = j) (h : xs[j]? = some x) : rd xs i = x := by
  subst hi
  simp [rd, List.getD, h]
theorem Ev.mid {α : Type} {g : Nat → Option α} {a b : α} (h : a = b) (e : Ev g a) : Ev g b := h ▸ e
theorem Ev.const {α : Type} {g : Nat → Option α} {a : α} (h : ∀ k, g k = some a) : Ev g a := ⟨0, fun k _ => h k⟩
theorem Ev.ite_pos {α : Type} {c : Prop} [Decidable c] {g f : Nat → Option α} {r : α} (hc : c) (h : Ev g r) : Ev (fun k => if c then g k else f k) r := by
  simp only [if_pos hc]
  exact h
theorem Ev.ite_neg {α : Type} {c : Prop} [Decidable c] {g f : Nat → Option α} {r : α} (hc : ¬ c) (h : Ev f r) : Ev (fun k => if c then g k else f k) r := by
  simp only [if_neg hc]
  exact h
/-- A part that has no rounds. -/
theorem Ev.val {α β : Type} {o : Option α} {f : Nat → α → Option β} {a : α} {r : β} (h : o = some a) (k : Ev (fun n => f n a) r) : Ev (fun n => o.bind (f n)) r := by
  subst h
  exact k

def in64 (z : Int) : Prop := -9223372036854775808 ≤ z ∧ z ≤ 9223372036854775807
theorem wf_in {z : Int} (h : (Lit.int .i64 z).wf = true) : in64 z := wf64 h
theorem in64_zero : in64 0 := by unfold in64; omega
theorem wrap_in {z : Int} (h : in64 z) : wrap64 (z % 18446744073709551616) = z := by unfold in64 at h; unfold wrap64; omega
theorem wrap_is (z : Int) : in64 (wrap64 z) := by unfold wrap64 in64; omega
theorem u_inj {a b : Int} (ha : in64 a) (hb : in64 b) (h : a % 18446744073709551616 = b % 18446744073709551616) : a = b := by unfold in64 at ha hb; omega

theorem l1In_e (a b c : Int) : spec_l1In.f a b c = some (decide (b ≤ a ∧ a ≤ c)) := by
  unfold spec_l1In.f
  by_cases h : a ≥ b
  · simp [if_pos h, h]
  · simp [if_neg h]; omega
theorem from_e (a b c : Int) : impl_from.f a b c = some (decide (b ≤ a ∧ a ≤ c)) := by
  unfold impl_from.f
  by_cases h : a ≥ b
  · simp [if_pos h, h]
  · simp [if_neg h]; omega
/-- An address is right. -/
def addrOk (x : Bool) (h l : Int) : Bool := x || (decide (h = 0) && decide (0 ≤ l ∧ l ≤ 4294967295))
theorem spec_AddrOk_e (x : Bool) (h l : Int) : spec_AddrOk.f x h l = some (addrOk x h l) := by
  unfold spec_AddrOk.f addrOk
  cases x
  · by_cases hh : h = 0
    · simp [hh, l1In_e]
    · simp [hh]
  · rfl
theorem impl_AddrOk_e (x : Bool) (h l : Int) : impl_AddrOk.f x h l = some (addrOk x h l) := by
  unfold impl_AddrOk.f addrOk
  cases x
  · by_cases hh : h = 0
    · simp [hh, from_e]
    · simp [hh]
  · rfl

theorem u64or (a b : Nat) (ha : a < 18446744073709551616) (hb : b < 18446744073709551616) : Go.bits .or .u64 (a : Int) (b : Int) = ((a ||| b : Nat) : Int) :=
  (Go.bits_nat .u64 64 (by decide) (fun n h0 h1 => by rw [u64w]; omega) a b ha hb).2
/-- Bits that stand apart: 'or' is the sum. -/
theorem u64or_low (x y : Int) (i : Nat) (hx0 : 0 ≤ x) (hx : x < 2 ^ i) (hy0 : 0 ≤ y) (hy : y % 2 ^ i = 0) (hy1 : y < 18446744073709551616) (hi : i ≤ 64) : Go.bits .or .u64 x y = x + y := by
  obtain ⟨a, rfl⟩ := Int.eq_ofNat_of_zero_le hx0
  obtain ⟨b, rfl⟩ := Int.eq_ofNat_of_zero_le hy0
  have ha : a < 2 ^ i := by exact_mod_cast hx
  have hb : b % 2 ^ i = 0 := by exact_mod_cast hy
  have h2 : (2 : Nat) ^ i ≤ 18446744073709551616 := by
    have := Nat.pow_le_pow_right (show 0 < 2 by decide) hi
    exact Nat.le_trans this (by decide)
  rw [u64or a b (by omega) (by omega), Nat.or_comm]
  have hq : b = 2 ^ i * (b / 2 ^ i) := by
    have := Nat.div_add_mod b (2 ^ i)
    omega
  rw [hq, ← Nat.two_pow_add_eq_or_of_lt ha (b / 2 ^ i)]
  omega
theorem u64or_high (x y : Int) (i : Nat) (hx0 : 0 ≤ x) (hx : x % 2 ^ i = 0) (hx1 : x < 18446744073709551616) (hy0 : 0 ≤ y) (hy : y < 2 ^ i) (hi : i ≤ 64) : Go.bits .or .u64 x y = x + y := by
  have e : Go.bits .or .u64 x y = Go.bits .or .u64 y x := by
    obtain ⟨a, rfl⟩ := Int.eq_ofNat_of_zero_le hx0
    obtain ⟨b, rfl⟩ := Int.eq_ofNat_of_zero_le hy0
    have hb : b < 2 ^ i := by exact_mod_cast hy
    have h2 : (2 : Nat) ^ i ≤ 18446744073709551616 := by
      have := Nat.pow_le_pow_right (show 0 < 2 by decide) hi
      exact Nat.le_trans this (by decide)
    rw [u64or a b (by omega) (by omega), u64or b a (by omega) (by omega), Nat.or_comm]
  rw [e, u64or_low y x i hy0 hy hx0 hx hx1 hi]
  omega

def wideL (n : Int) : Nat → List Int
  | 0 => []
  | i + 1 => ((n % 18446744073709551616) / 2 ^ (8 * i)) % 256 :: wideL n i
theorem wideL_len (n : Int) : ∀ i, (wideL n i).length = i
  | 0 => rfl
  | i + 1 => by rw [wideL, List.length_cons, wideL_len]
theorem wideL_bytes (n : Int) : ∀ i, ∀ c ∈ wideL n i, 0 ≤ c ∧ c ≤ 255
  | 0, c, h => by simp [wideL] at h
  | i + 1, c, h => by
    rw [wideL, List.mem_cons] at h
    rcases h with rfl | h
    · omega
    · exact wideL_bytes n i c h
theorem shr_wide (n : Int) (i : Nat) (hi : i ≤ 8) : (shr .u64 (IntKind.u64.wrap n) (8 * (i : Int))) % 256 = ((n % 18446744073709551616) / 2 ^ (8 * i)) % 256 := by
  unfold shr
  rw [u64w, show IntKind.u64.bits = 64 from rfl, show (8 * (i : Int)).toNat = 8 * i by omega, Nat.min_eq_left (by omega)]
theorem impl_wide_l0 (n : Int) (i : Nat) : ∀ (acc : List Int), i ≤ 8 → acc.length + i ≤ 1000 → Ev (fun k => impl_wide.l0 k n acc ((i : Int) - 1)) (acc ++ wideL n i) := by
  induction i with
  | zero =>
    intro acc _ _
    refine Ev.step (f := fun _ => some _) (fun k => ?_) (Ev.now _)
    rw [impl_wide.l0, if_neg (by omega), wideL, List.append_nil]
  | succ i ih =>
    intro acc h8 hl
    refine Ev.step (fun k => ?_) (Ev.mid ?_ (ih (acc ++ [((n % 18446744073709551616) / 2 ^ (8 * i)) % 256]) (by omega) (by simp; omega)))
    · have e1 : (((i + 1 : Nat) : Int) - 1) = (i : Int) := by omega
      rw [impl_wide.l0, e1, if_pos (by omega), w64 (x := 8 * (i : Int)) (by omega) (by omega), if_pos (by omega), if_pos (by omega), shr_wide n i (by omega), w64 (x := (i : Int) - 1) (by omega) (by omega)]
    · rw [wideL, List.append_assoc]; rfl
theorem impl_wide_ev (n : Int) (i : Nat) (hi : i ≤ 8) : Ev (fun k => impl_wide.f k n (i : Int)) (wideL n i) := by
  refine Ev.congr (fun k => ?_) (impl_wide_l0 n i [] hi (by simp; omega))
  rw [impl_wide.f, w64 (x := (i : Int) - 1) (by omega) (by omega)]
theorem spec_l3Great_l0 (n : Int) (i : Nat) : ∀ (acc : List Int), i ≤ 8 → acc.length + i ≤ 1000 → Ev (fun k => spec_l3Great.l0 k n acc ((i : Int) - 1)) (acc ++ wideL n i) := by
  induction i with
  | zero =>
    intro acc _ _
    refine Ev.step (f := fun _ => some _) (fun k => ?_) (Ev.now _)
    rw [spec_l3Great.l0, if_neg (by omega), wideL, List.append_nil]
  | succ i ih =>
    intro acc h8 hl
    refine Ev.step (fun k => ?_) (Ev.mid ?_ (ih (acc ++ [((n % 18446744073709551616) / 2 ^ (8 * i)) % 256]) (by omega) (by simp; omega)))
    · have e1 : (((i + 1 : Nat) : Int) - 1) = (i : Int) := by omega
      rw [spec_l3Great.l0, e1, if_pos (by omega), w64 (x := 8 * (i : Int)) (by omega) (by omega), u64in (x := 8 * (i : Int)) (by omega) (by omega), if_pos (by omega), if_pos (by omega), shr_wide n i (by omega), w64 (x := (i : Int) - 1) (by omega) (by omega)]
    · rw [wideL, List.append_assoc]; rfl
theorem spec_l3Great_ev (n : Int) (i : Nat) (hi : i ≤ 8) : Ev (fun k => spec_l3Great.f k n (i : Int)) (wideL n i) := by
  refine Ev.congr (fun k => ?_) (spec_l3Great_l0 n i [] hi (by simp; omega))
  rw [spec_l3Great.f, w64 (x := (i : Int) - 1) (by omega) (by omega)]
def putA (x : Bool) (h l : Int) : List Int := if addrOk x h l = true then (if x = true then [6] ++ wideL h 8 ++ wideL l 8 else [4] ++ wideL l 4) else []
theorem putA_len (x : Bool) (h l : Int) : (putA x h l).length ≤ 17 := by
  unfold putA
  split
  · split <;> simp [wideL_len]
  · simp
theorem putA_bytes (x : Bool) (h l : Int) : ∀ c ∈ putA x h l, 0 ≤ c ∧ c ≤ 255 := by
  intro c hc
  unfold putA at hc
  split at hc
  · split at hc
    · simp only [List.mem_append, List.mem_singleton] at hc
      rcases hc with (rfl | hc) | hc
      · decide
      · exact wideL_bytes _ _ c hc
      · exact wideL_bytes _ _ c hc
    · simp only [List.mem_append, List.mem_singleton] at hc
      rcases hc with rfl | hc
      · decide
      · exact wideL_bytes _ _ c hc
  · simp at hc
theorem concat3 (a b c : List Int) (ha : a.length ≤ 100) (hb : b.length ≤ 100) (hc : c.length ≤ 100) : Ev (fun k => slices_Concat_byte_byte.f k [a, b, c]) (a ++ b ++ c) := by
  have r0 : rd_L1 [a, b, c] 0 = a := rfl
  have r1 : rd_L1 [a, b, c] 1 = b := rfl
  have r2 : rd_L1 [a, b, c] 2 = c := rfl
  have w0 : wrap64 (0 + 1) = 1 := w64 (by omega) (by omega)
  have w1 : wrap64 (1 + 1) = 2 := w64 (by omega) (by omega)
  have w2 : wrap64 (2 + 1) = 3 := w64 (by omega) (by omega)
  have q3 : ∀ x : List Int, Ev (fun k => slices_Concat_byte_byte.l1 k x [a, b, c] 3 3) x := fun x => Ev.step (f := fun _ => some _) (fun k => by rw [slices_Concat_byte_byte.l1, if_neg (by decide)]) (Ev.now _)
  have q2 : ∀ x : List Int, x.length ≤ 1000 → Ev (fun k => slices_Concat_byte_byte.l1 k x [a, b, c] 3 2) (x ++ c) := fun x hx => Ev.step (fun k => by rw [slices_Concat_byte_byte.l1, if_pos (by decide), if_pos (by decide), if_pos (by simp), r2, if_pos (by omega), w2]) (q3 (x ++ c))
  have q1 : ∀ x : List Int, x.length ≤ 800 → Ev (fun k => slices_Concat_byte_byte.l1 k x [a, b, c] 3 1) (x ++ b ++ c) := fun x hx => Ev.step (fun k => by rw [slices_Concat_byte_byte.l1, if_pos (by decide), if_pos (by decide), if_pos (by simp), r1, if_pos (by omega), w1]) (q2 (x ++ b) (by simp; omega))
  have q0 : Ev (fun k => slices_Concat_byte_byte.l1 k [] [a, b, c] 3 0) (a ++ b ++ c) := Ev.step (fun k => by rw [slices_Concat_byte_byte.l1, if_pos (by decide), if_pos (by decide), if_pos (by simp), r0, if_pos (by simp; omega), w0, List.nil_append]) (q1 a (by omega))
  have p3 : ∀ s : Int, 0 ≤ s → s ≤ 1000 → Ev (fun k => slices_Concat_byte_byte.l0 k [a, b, c] s [a, b, c] 3 3) (a ++ b ++ c) := fun s h0 h1 => by
    refine Ev.step (fun k => by rw [slices_Concat_byte_byte.l0, if_neg (by decide)]) ?_
    refine Ev.val (a := []) (by unfold slices_Grow_byte_byte.f; rw [if_pos ⟨rfl, h0, by omega⟩]) ?_
    exact q0
  have p2 : ∀ s : Int, 0 ≤ s → s ≤ 900 → Ev (fun k => slices_Concat_byte_byte.l0 k [a, b, c] s [a, b, c] 3 2) (a ++ b ++ c) := fun s h0 h1 => Ev.step (fun k => by rw [slices_Concat_byte_byte.l0, if_pos (by decide), if_pos (by decide), if_pos (by simp), r2, w64 (by omega) (by omega), if_neg (by omega), w2]) (p3 (s + (c.length : Int)) (by omega) (by omega))
  have p1 : ∀ s : Int, 0 ≤ s → s ≤ 800 → Ev (fun k => slices_Concat_byte_byte.l0 k [a, b, c] s [a, b, c] 3 1) (a ++ b ++ c) := fun s h0 h1 => Ev.step (fun k => by rw [slices_Concat_byte_byte.l0, if_pos (by decide), if_pos (by decide), if_pos (by simp), r1, w64 (by omega) (by omega), if_neg (by omega), w1]) (p2 (s + (b.length : Int)) (by omega) (by omega))
  show Ev (fun k => slices_Concat_byte_byte.l0 k [a, b, c] 0 [a, b, c] 3 0) _
  exact Ev.step (fun k => by rw [slices_Concat_byte_byte.l0, if_pos (by decide), if_pos (by decide), if_pos (by simp), r0, w64 (by omega) (by omega), if_neg (by omega), w0]) (p1 (0 + (a.length : Int)) (by omega) (by omega))
theorem impl_PutAddr_ev (x : Bool) (h l : Int) : Ev (fun k => impl_PutAddr.f k x h l) (putA x h l) := by
  refine Ev.val (impl_AddrOk_e x h l) ?_
  unfold putA
  by_cases ha : addrOk x h l = true
  · rw [if_pos ha]
    refine Ev.ite_pos ha ?_
    cases x with
    | true =>
      refine Ev.ite_pos rfl (Ev.bind (impl_wide_ev h 8 (by decide)) (Ev.bind (impl_wide_ev l 8 (by decide)) ?_))
      refine Ev.bind (concat3 [6] (wideL h 8) (wideL l 8) (by simp) (by simp [wideL_len]) (by simp [wideL_len])) (Ev.now _)
    | false =>
      refine Ev.ite_neg (by decide) ?_
      refine Ev.val (a := [4]) rfl ?_
      refine Ev.bind (impl_wide_ev l 4 (by decide)) (Ev.ite_pos (by simp [wideL_len]) (Ev.now _))
  · rw [if_neg ha]
    exact Ev.ite_neg ha (Ev.now _)
theorem spec_PutAddr_ev (x : Bool) (h l : Int) : Ev (fun k => spec_PutAddr.f k x h l) (putA x h l) := by
  refine Ev.val (spec_AddrOk_e x h l) ?_
  unfold putA
  by_cases ha : addrOk x h l = true
  · rw [if_pos ha]
    refine Ev.ite_pos ha ?_
    cases x with
    | true =>
      refine Ev.ite_pos rfl (Ev.val (a := [6]) rfl (Ev.bind (spec_l3Great_ev h 8 (by decide)) (Ev.ite_pos (by simp [wideL_len]) (Ev.val (a := [6] ++ wideL h 8) rfl (Ev.bind (spec_l3Great_ev l 8 (by decide)) (Ev.ite_pos (by simp [wideL_len]) (Ev.now _)))))))
    | false =>
      refine Ev.ite_neg (by decide) (Ev.val (a := [4]) rfl (Ev.bind (spec_l3Great_ev l 4 (by decide)) (Ev.ite_pos (by simp [wideL_len]) (Ev.now _))))
  · rw [if_neg ha]
    exact Ev.ite_neg ha (Ev.now _)

theorem eqByteS_l0 (a : List Int) (hn : a.length ≤ 4611686018427387904) (d : Nat) : ∀ (i : Nat), i + d = a.length → Ev (fun k => laws_eqByteS.l0 k a a (i : Int)) true := by
  induction d with
  | zero =>
    intro i h
    exact Ev.step (f := fun _ => some true) (fun k => by rw [laws_eqByteS.l0, if_neg (by omega)]) (Ev.now true)
  | succ d ih =>
    intro i h
    refine Ev.step (fun k => ?_) (ih (i + 1) (by omega))
    rw [laws_eqByteS.l0, if_pos (by omega), if_pos (by omega), if_pos (by omega), if_pos rfl, w64 (by omega) (by omega)]
    rfl
theorem eqByteS_ev (a : List Int) (hn : a.length ≤ 4611686018427387904) : Ev (fun k => laws_eqByteS.f k a a) true := by
  refine Ev.congr (fun k => ?_) (eqByteS_l0 a hn a.length 0 (by omega))
  rw [laws_eqByteS.f, if_pos rfl]
  rfl

def marks8 (m : Int) (n : Nat) : List Int := (List.range n).map fun i : Nat => (m + (i : Int)) % 256
theorem marks8_len (m : Int) (n : Nat) : (marks8 m n).length = n := by simp [marks8]
theorem marks8_succ (m : Int) (n : Nat) : marks8 m (n + 1) = marks8 m n ++ [(m + (n : Int)) % 256] := by simp [marks8, List.range_succ]
theorem markByteS_l0 (a : List Int) (m : Int) (hn : a.length ≤ 281474976710656) (h0 : 0 ≤ m) (h1 : m ≤ 281474976710656) (d : Nat) :
    ∀ (i : Nat), i + d = a.length → Ev (fun k => laws_markByteS.l0 k (marks8 m i ++ a.drop i) (m + (i : Int)) (i : Int)) (m + (a.length : Int), marks8 m a.length) := by
  induction d with
  | zero =>
    intro i h
    obtain rfl : i = a.length := by omega
    refine Ev.step (f := fun _ => some _) (fun k => ?_) (Ev.now _)
    rw [laws_markByteS.l0, if_neg (by simp [marks8_len])]
    simp
  | succ d ih =>
    intro i h
    refine Ev.step (fun k => ?_) (ih (i + 1) (by omega))
    have hi : i < a.length := by omega
    rw [laws_markByteS.l0, if_pos (by simp [marks8_len]; omega), if_pos (by omega), w64 (by omega) (by omega), w64 (by omega) (by omega)]
    have e : (marks8 m i ++ a.drop i).set (i : Int).toNat ((m + (i : Int)) % 256) = marks8 m (i + 1) ++ a.drop (i + 1) := by
      rw [marks8_succ, List.set_append_right _ _ (by simp [marks8_len]), List.append_assoc]
      congr 1
      rw [marks8_len, Int.toNat_natCast, Nat.sub_self]
      conv => lhs; rw [List.drop_eq_getElem_cons hi]
      rfl
    rw [e]
    congr 1
    omega
theorem markByteS_ev (a : List Int) (m : Int) (hn : a.length ≤ 281474976710656) (h0 : 0 ≤ m) (h1 : m ≤ 281474976710656) :
    Ev (fun k => laws_markByteS.f k a m) (m + (a.length : Int), marks8 m a.length) := by
  refine Ev.congr (fun k => ?_) (markByteS_l0 a m hn h0 h1 a.length 0 (by omega))
  rw [laws_markByteS.f]
  simp [marks8]
theorem heldByteS_l0 (n : Nat) (m : Int) (hn : n ≤ 281474976710656) (h0 : 0 ≤ m) (h1 : m ≤ 281474976710656) (d : Nat) :
    ∀ (i : Nat), i + d = n → Ev (fun k => laws_heldByteS.l0 k (marks8 m n) (m + (i : Int)) (i : Int)) (m + (n : Int)) := by
  induction d with
  | zero =>
    intro i h
    obtain rfl : i = n := by omega
    refine Ev.step (f := fun _ => some _) (fun k => ?_) (Ev.now _)
    rw [laws_heldByteS.l0, if_neg (by simp [marks8_len])]
  | succ d ih =>
    intro i h
    refine Ev.step (fun k => ?_) (ih (i + 1) (by omega))
    have hr : rd (marks8 m n) (i : Int) = (m + (i : Int)) % 256 := rd_get _ _ i _ rfl (by simp [marks8, show i < n by omega])
    rw [laws_heldByteS.l0, if_pos (by simp [marks8_len]; omega), if_pos (by omega), if_pos hr, w64 (by omega) (by omega), w64 (by omega) (by omega)]
    congr 1
    omega
theorem heldByteS_ev (n : Nat) (m : Int) (hn : n ≤ 281474976710656) (h0 : 0 ≤ m) (h1 : m ≤ 281474976710656) :
    Ev (fun k => laws_heldByteS.f k (marks8 m n) m) (m + (n : Int)) := by
  refine Ev.congr (fun k => ?_) (heldByteS_l0 n m hn h0 h1 n 0 (by omega))
  rw [laws_heldByteS.f]
  simp

theorem FnExactPutAddr (x : Bool) (h l : Int) (_ : (Lit.int .i64 h).wf = true) (_ : (Lit.int .i64 l).wf = true) : ∃ k, laws_FnExactPutAddr.f k x h l = some true := by
  refine Ev.rounds ?_
  have hlen := putA_len x h l
  refine Ev.val (a := (x, h, l)) rfl (Ev.bind (spec_PutAddr_ev x h l) (Ev.val (a := (x, h, l)) rfl (Ev.bind (impl_PutAddr_ev x h l) ?_)))
  refine Ev.bind (eqByteS_ev _ (by omega)) (Ev.ite_pos rfl ?_)
  refine Ev.bind (markByteS_ev _ 1 (by omega) (by omega) (by omega)) ?_
  refine Ev.bind (heldByteS_ev _ 1 (by omega) (by omega) (by omega)) (Ev.ite_neg (by omega) (Ev.ite_pos rfl ?_))
  refine Ev.val (a := (x, h, l)) rfl (Ev.bind (impl_PutAddr_ev x h l) ?_)
  refine Ev.bind (eqByteS_ev _ (by omega)) (Ev.ite_pos rfl ?_)
  exact Ev.bind (heldByteS_ev _ 1 (by omega) (by omega) (by omega)) (Ev.ite_neg (by omega) (Ev.ite_pos rfl (Ev.now true)))

end Go.Proofs.Ytkmochomdeomhaa.Pure
