/-
The pure part of the statement FnAddrBytes: what the printed functions answer is true at every input.
Conditions: none but the kinds' own bounds, as the printed statement has them.
-/
import Derived.Test.YtigmadccchofiaaQFnAddrBytesx0
import Derived.Test.YtigmadccchofiaaQFnAddrBytesx1
import Derived.Test.YtigmadccchofiaaQFnAddrBytesx2
import Derived.Test.YtigmadccchofiaaQFnAddrBytesx3
import Derived.Test.YtigmadccchofiaaQFnAddrBytesx4
namespace Go.Proofs.Ytigmadccchofiaa.Pure
open Go.RowKit Go.Proofs.Ytigmadccchofiaa.QFnAddrBytes Go.Proofs.YtigmadccchofiaaW.PrintWords Go.Proofs.YtigmadccchofiaaW.PrintLast Go.Proofs.YtigmadccchofiaaW.PrintMore
set_option linter.unusedVariables false
set_option linter.unusedSimpArgs false

theorem wf64 {x : Int} (h : (Lit.int .i64 x).wf = true) : -9223372036854775808 ≤ x ∧ x ≤ 9223372036854775807 := by
  simpa [Lit.wf, IntKind.min, IntKind.max, IntKind.signed, IntKind.bits] using h
theorem wf8 {x : Int} (h : (Lit.int .u8 x).wf = true) : 0 ≤ x ∧ x ≤ 255 := by
  simpa [Lit.wf, IntKind.min, IntKind.max, IntKind.signed, IntKind.bits] using h
theorem w64 {x : Int} (h0 : -9223372036854775808 ≤ x) (h1 : x ≤ 9223372036854775807) : wrap64 x = x := by unfold wrap64; omega
theorem u64w (n : Int) : IntKind.u64.wrap n = n % 18446744073709551616 := by simp [IntKind.wrap, IntKind.bits, IntKind.signed]
theorem u64in {x : Int} (h0 : 0 ≤ x) (h1 : x < 18446744073709551616) : IntKind.u64.wrap x = x := by rw [u64w]; omega
theorem rd_get (xs : List Int) (i : Int) (j : Nat) (x : Int) (hi : i = j) (h : xs[j]? = some x) : rd xs i = x := by
  subst hi
  simp [rd, List.getD, h]
theorem Ev.mid {α : Type} {g : Nat → Option α} {a b : α} (h : a = b) (e : Ev g a) : Ev g b := h ▸ e
theorem Ev.const {α : Type} {g : Nat → Option α} {a : α} (h : ∀ k, g k = some a) : Ev g a := ⟨0, fun k _ => h k⟩
theorem Ev.ite_pos {α : Type} {c : Prop} [Decidable c] {g f : Nat → Option α} {r : α} (hc : c) (h : Ev g r) : Ev (fun k => if c then g k else f k) r := by
  simp only [if_pos hc]
  exact h
theorem Ev.ite_neg {α : Type} {c : Prop} [Decidable c] {g f : Nat → Option α} {r : α} (hc : ¬ c) (h : Ev f r) : Ev (fun k => if c then g k else f k) r := by
  simp only [if_neg hc]
  exact h
/-- A part that has no rounds. -/
theorem Ev.val {α β : Type} {o : Option α} {f : Nat → α → Option β} {a : α} {r : β} (h : o = some a) (k : Ev (fun n => f n a) r) : Ev (fun n => o.bind (f n)) r := by
  subst h
  exact k

def in64 (z : Int) : Prop := -9223372036854775808 ≤ z ∧ z ≤ 9223372036854775807
theorem wf_in {z : Int} (h : (Lit.int .i64 z).wf = true) : in64 z := wf64 h
theorem in64_zero : in64 0 := by unfold in64; omega
theorem wrap_in {z : Int} (h : in64 z) : wrap64 (z % 18446744073709551616) = z := by unfold in64 at h; unfold wrap64; omega
theorem wrap_is (z : Int) : in64 (wrap64 z) := by unfold wrap64 in64; omega
theorem u_inj {a b : Int} (ha : in64 a) (hb : in64 b) (h : a % 18446744073709551616 = b % 18446744073709551616) : a = b := by unfold in64 at ha hb; omega

theorem l1In_e (a b c : Int) : spec_l1In.f a b c = some (decide (b ≤ a ∧ a ≤ c)) := by
  unfold spec_l1In.f
  by_cases h : a ≥ b
  · simp [if_pos h, h]
  · simp [if_neg h]; omega
theorem from_e (a b c : Int) : impl_from.f a b c = some (decide (b ≤ a ∧ a ≤ c)) := by
  unfold impl_from.f
  by_cases h : a ≥ b
  · simp [if_pos h, h]
  · simp [if_neg h]; omega
/-- An address is right. -/
def addrOk (x : Bool) (h l : Int) : Bool := x || (decide (h = 0) && decide (0 ≤ l ∧ l ≤ 4294967295))
theorem spec_AddrOk_e (x : Bool) (h l : Int) : spec_AddrOk.f x h l = some (addrOk x h l) := by
  unfold spec_AddrOk.f addrOk
  cases x
  · by_cases hh : h = 0
    · simp [hh, l1In_e]
    · simp [hh]
  · rfl
theorem impl_AddrOk_e (x : Bool) (h l : Int) : impl_AddrOk.f x h l = some (addrOk x h l) := by
  unfold impl_AddrOk.f addrOk
  cases x
  · by_cases hh : h = 0
    · simp [hh, from_e]
    · simp [hh]
  · rfl

theorem u64or (a b : Nat) (ha : a < 18446744073709551616) (hb : b < 18446744073709551616) : Go.bits .or .u64 (a : Int) (b : Int) = ((a ||| b : Nat) : Int) :=
  (Go.bits_nat .u64 64 (by decide) (fun n h0 h1 => by rw [u64w]; omega) a b ha hb).2
/-- Bits that stand apart: 'or' is the sum. -/
theorem u64or_low (x y : Int) (i : Nat) (hx0 : 0 ≤ x) (hx : x < 2 ^ i) (hy0 : 0 ≤ y) (hy : y % 2 ^ i = 0) (hy1 : y < 18446744073709551616) (hi : i ≤ 64) : Go.bits .or .u64 x y = x + y := by
  obtain ⟨a, rfl⟩ := Int.eq_ofNat_of_zero_le hx0
  obtain ⟨b, rfl⟩ := Int.eq_ofNat_of_zero_le hy0
  have ha : a < 2 ^ i := by exact_mod_cast hx
  have hb : b % 2 ^ i = 0 := by exact_mod_cast hy
  have h2 : (2 : Nat) ^ i ≤ 18446744073709551616 := by
    have := Nat.pow_le_pow_right (show 0 < 2 by decide) hi
    exact Nat.le_trans this (by decide)
  rw [u64or a b (by omega) (by omega), Nat.or_comm]
  have hq : b = 2 ^ i * (b / 2 ^ i) := by
    have := Nat.div_add_mod b (2 ^ i)
    omega
  rw [hq, ← Nat.two_pow_add_eq_or_of_lt ha (b / 2 ^ i)]
  omega
theorem u64or_high (x y : Int) (i : Nat) (hx0 : 0 ≤ x) (hx : x % 2 ^ i = 0) (hx1 : x < 18446744073709551616) (hy0 : 0 ≤ y) (hy : y < 2 ^ i) (hi : i ≤ 64) : Go.bits .or .u64 x y = x + y := by
  have e : Go.bits .or .u64 x y = Go.bits .or .u64 y x := by
    obtain ⟨a, rfl⟩ := Int.eq_ofNat_of_zero_le hx0
    obtain ⟨b, rfl⟩ := Int.eq_ofNat_of_zero_le hy0
    have hb : b < 2 ^ i := by exact_mod_cast hy
    have h2 : (2 : Nat) ^ i ≤ 18446744073709551616 := by
      have := Nat.pow_le_pow_right (show 0 < 2 by decide) hi
      exact Nat.le_trans this (by decide)
    rw [u64or a b (by omega) (by omega), u64or b a (by omega) (by omega), Nat.or_comm]
  rw [e, u64or_low y x i hy0 hy hx0 hx hx1 hi]
  omega

def wideL (n : Int) : Nat → List Int
  | 0 => []
  | i + 1 => ((n % 18446744073709551616) / 2 ^ (8 * i)) % 256 :: wideL n i
theorem wideL_len (n : Int) : ∀ i, (wideL n i).length = i
  | 0 => rfl
  | i + 1 => by rw [wideL, List.length_cons, wideL_len]
theorem wideL_bytes (n : Int) : ∀ i, ∀ c ∈ wideL n i, 0 ≤ c ∧ c ≤ 255
  | 0, c, h => by simp [wideL] at h
  | i + 1, c, h => by
    rw [wideL, List.mem_cons] at h
    rcases h with rfl | h
    · omega
    · exact wideL_bytes n i c h
theorem shr_wide (n : Int) (i : Nat) (hi : i ≤ 8) : (shr .u64 (IntKind.u64.wrap n) (8 * (i : Int))) % 256 = ((n % 18446744073709551616) / 2 ^ (8 * i)) % 256 := by
  unfold shr
  rw [u64w, show IntKind.u64.bits = 64 from rfl, show (8 * (i : Int)).toNat = 8 * i by omega, Nat.min_eq_left (by omega)]
theorem impl_wide_l0 (n : Int) (i : Nat) : ∀ (acc : List Int), i ≤ 8 → acc.length + i ≤ 1000 → Ev (fun k => impl_wide.l0 k n acc ((i : Int) - 1)) (acc ++ wideL n i) := by
  induction i with
  | zero =>
    intro acc _ _
    refine Ev.step (f := fun _ => some _) (fun k => ?_) (Ev.now _)
    rw [impl_wide.l0, if_neg (by omega), wideL, List.append_nil]
  | succ i ih =>
    intro acc h8 hl
    refine Ev.step (fun k => ?_) (Ev.mid ?_ (ih (acc ++ [((n % 18446744073709551616) / 2 ^ (8 * i)) % 256]) (by omega) (by simp; omega)))
    · have e1 : (((i + 1 : Nat) : Int) - 1) = (i : Int) := by omega
      rw [impl_wide.l0, e1, if_pos (by omega), w64 (x := 8 * (i : Int)) (by omega) (by omega), if_pos (by omega), if_pos (by omega), shr_wide n i (by omega), w64 (x := (i : Int) - 1) (by omega) (by omega)]
    · rw [wideL, List.append_assoc]; rfl
theorem impl_wide_ev (n : Int) (i : Nat) (hi : i ≤ 8) : Ev (fun k => impl_wide.f k n (i : Int)) (wideL n i) := by
  refine Ev.congr (fun k => ?_) (impl_wide_l0 n i [] hi (by simp; omega))
  rw [impl_wide.f, w64 (x := (i : Int) - 1) (by omega) (by omega)]
def putA (x : Bool) (h l : Int) : List Int := if addrOk x h l = true then (if x = true then [6] ++ wideL h 8 ++ wideL l 8 else [4] ++ wideL l 4) else []
theorem putA_len (x : Bool) (h l : Int) : (putA x h l).length ≤ 17 := by
  unfold putA
  split
  · split <;> simp [wideL_len]
  · simp
theorem putA_bytes (x : Bool) (h l : Int) : ∀ c ∈ putA x h l, 0 ≤ c ∧ c ≤ 255 := by
  intro c hc
  unfold putA at hc
  split at hc
  · split at hc
    · simp only [List.mem_append, List.mem_singleton] at hc
      rcases hc with (rfl | hc) | hc
      · decide
      · exact wideL_bytes _ _ c hc
      · exact wideL_bytes _ _ c hc
    · simp only [List.mem_append, List.mem_singleton] at hc
      rcases hc with rfl | hc
      · decide
      · exact wideL_bytes _ _ c hc
  · simp at hc
theorem concat3 (a b c : List Int) (ha : a.length ≤ 100) (hb : b.length ≤ 100) (hc : c.length ≤ 100) : Ev (fun k => slices_Concat_byte_byte.f k [a, b, c]) (a ++ b ++ c) := by
  have r0 : rd_L2 [a, b, c] 0 = a := rfl
  have r1 : rd_L2 [a, b, c] 1 = b := rfl
  have r2 : rd_L2 [a, b, c] 2 = c := rfl
  have w0 : wrap64 (0 + 1) = 1 := w64 (by omega) (by omega)
  have w1 : wrap64 (1 + 1) = 2 := w64 (by omega) (by omega)
  have w2 : wrap64 (2 + 1) = 3 := w64 (by omega) (by omega)
  have q3 : ∀ x : List Int, Ev (fun k => slices_Concat_byte_byte.l1 k x [a, b, c] 3 3) x := fun x => Ev.step (f := fun _ => some _) (fun k => by rw [slices_Concat_byte_byte.l1, if_neg (by decide)]) (Ev.now _)
  have q2 : ∀ x : List Int, x.length ≤ 1000 → Ev (fun k => slices_Concat_byte_byte.l1 k x [a, b, c] 3 2) (x ++ c) := fun x hx => Ev.step (fun k => by rw [slices_Concat_byte_byte.l1, if_pos (by decide), if_pos (by decide), if_pos (by simp), r2, if_pos (by omega), w2]) (q3 (x ++ c))
  have q1 : ∀ x : List Int, x.length ≤ 800 → Ev (fun k => slices_Concat_byte_byte.l1 k x [a, b, c] 3 1) (x ++ b ++ c) := fun x hx => Ev.step (fun k => by rw [slices_Concat_byte_byte.l1, if_pos (by decide), if_pos (by decide), if_pos (by simp), r1, if_pos (by omega), w1]) (q2 (x ++ b) (by simp; omega))
  have q0 : Ev (fun k => slices_Concat_byte_byte.l1 k [] [a, b, c] 3 0) (a ++ b ++ c) := Ev.step (fun k => by rw [slices_Concat_byte_byte.l1, if_pos (by decide), if_pos (by decide), if_pos (by simp), r0, if_pos (by simp; omega), w0, List.nil_append]) (q1 a (by omega))
  have p3 : ∀ s : Int, 0 ≤ s → s ≤ 1000 → Ev (fun k => slices_Concat_byte_byte.l0 k [a, b, c] s [a, b, c] 3 3) (a ++ b ++ c) := fun s h0 h1 => by
    refine Ev.step (fun k => by rw [slices_Concat_byte_byte.l0, if_neg (by decide)]) ?_
    refine Ev.val (a := []) (by unfold slices_Grow_byte_byte.f; rw [if_pos ⟨rfl, h0, by omega⟩]) ?_
    exact q0
  have p2 : ∀ s : Int, 0 ≤ s → s ≤ 900 → Ev (fun k => slices_Concat_byte_byte.l0 k [a, b, c] s [a, b, c] 3 2) (a ++ b ++ c) := fun s h0 h1 => Ev.step (fun k => by rw [slices_Concat_byte_byte.l0, if_pos (by decide), if_pos (by decide), if_pos (by simp), r2, w64 (by omega) (by omega), if_neg (by omega), w2]) (p3 (s + (c.length : Int)) (by omega) (by omega))
  have p1 : ∀ s : Int, 0 ≤ s → s ≤ 800 → Ev (fun k => slices_Concat_byte_byte.l0 k [a, b, c] s [a, b, c] 3 1) (a ++ b ++ c) := fun s h0 h1 => Ev.step (fun k => by rw [slices_Concat_byte_byte.l0, if_pos (by decide), if_pos (by decide), if_pos (by simp), r1, w64 (by omega) (by omega), if_neg (by omega), w1]) (p2 (s + (b.length : Int)) (by omega) (by omega))
  show Ev (fun k => slices_Concat_byte_byte.l0 k [a, b, c] 0 [a, b, c] 3 0) _
  exact Ev.step (fun k => by rw [slices_Concat_byte_byte.l0, if_pos (by decide), if_pos (by decide), if_pos (by simp), r0, w64 (by omega) (by omega), if_neg (by omega), w0]) (p1 (0 + (a.length : Int)) (by omega) (by omega))
theorem impl_PutAddr_ev (x : Bool) (h l : Int) : Ev (fun k => impl_PutAddr.f k x h l) (putA x h l) := by
  refine Ev.val (impl_AddrOk_e x h l) ?_
  unfold putA
  by_cases ha : addrOk x h l = true
  · rw [if_pos ha]
    refine Ev.ite_pos ha ?_
    cases x with
    | true =>
      refine Ev.ite_pos rfl (Ev.bind (impl_wide_ev h 8 (by decide)) (Ev.bind (impl_wide_ev l 8 (by decide)) ?_))
      refine Ev.bind (concat3 [6] (wideL h 8) (wideL l 8) (by simp) (by simp [wideL_len]) (by simp [wideL_len])) (Ev.now _)
    | false =>
      refine Ev.ite_neg (by decide) ?_
      refine Ev.val (a := [4]) rfl ?_
      refine Ev.bind (impl_wide_ev l 4 (by decide)) (Ev.ite_pos (by simp [wideL_len]) (Ev.now _))
  · rw [if_neg ha]
    exact Ev.ite_neg ha (Ev.now _)

/-- Bytes as a number, the highest first, 64 bits of it. -/
def be : Int → List Int → Int
  | x, [] => x
  | x, c :: cs => be ((x * 256) % 18446744073709551616 + c) cs
theorem be_or (x c : Int) (hc0 : 0 ≤ c) (hc1 : c ≤ 255) : Go.bits .or .u64 (IntKind.u64.wrap (x * 256)) (IntKind.u64.wrap c) = (x * 256) % 18446744073709551616 + c := by
  rw [u64w, u64w, show c % 18446744073709551616 = c by omega]
  exact u64or_high _ _ 8 (by omega) (by omega) (by omega) hc0 (by omega) (by decide)
theorem narrow_l0 (l : List Int) (hl : l.length ≤ 4611686018427387904) (hb : ∀ c ∈ l, 0 ≤ c ∧ c ≤ 255) (d : Nat) : ∀ (i : Nat) (x : Int), i + d = l.length →
    Ev (fun k => impl_narrow.l0 k x l (l.length : Int) (i : Int)) (wrap64 (be x (l.drop i))) := by
  induction d with
  | zero =>
    intro i x h
    refine Ev.step (f := fun _ => some _) (fun k => ?_) (Ev.now _)
    rw [impl_narrow.l0, if_neg (by omega), List.drop_eq_nil_of_le (by omega)]
    rfl
  | succ d ih =>
    intro i x h
    have hi : i < l.length := by omega
    have hr : rd l (i : Int) = l[i] := rd_get l i i _ rfl (List.getElem?_eq_getElem hi)
    have hc := hb l[i] (List.getElem_mem hi)
    refine Ev.step (fun k => ?_) (Ev.mid ?_ (ih (i + 1) ((x * 256) % 18446744073709551616 + l[i]) (by omega)))
    · rw [impl_narrow.l0, if_pos (by omega), if_pos (by omega), if_pos (by omega), hr, be_or x _ hc.1 hc.2, w64 (by omega) (by omega)]
      rfl
    · rw [List.drop_eq_getElem_cons hi]
      rfl
theorem narrow_ev (l : List Int) (hl : l.length ≤ 4611686018427387904) (hb : ∀ c ∈ l, 0 ≤ c ∧ c ≤ 255) : Ev (fun k => impl_narrow.f k l) (wrap64 (be 0 l)) := narrow_l0 l hl hb l.length 0 0 (by omega)
/-- The address that stands in l from a on. -/
def getAddr (l : List Int) (a : Int) : Bool × Int × Int × Int × Bool :=
  if 0 ≤ a ∧ a < l.length then
    (if rd l a = 4 ∧ a + 5 ≤ l.length then (false, 0, wrap64 (be 0 ((l.drop (a + 1).toNat).take 4)), a + 5, true)
    else if rd l a = 6 ∧ a + 17 ≤ l.length then (true, wrap64 (be 0 ((l.drop (a + 1).toNat).take 8)), wrap64 (be 0 ((l.drop (a + 9).toNat).take 8)), a + 17, true) else (false, 0, 0, 0, false))
  else (false, 0, 0, 0, false)
theorem mem_sub {l : List Int} {c : Int} (n m : Nat) (h : c ∈ (l.drop n).take m) : c ∈ l := List.mem_of_mem_drop (List.mem_of_mem_take h)
theorem from_g (a b c : Int) : impl_from.f a b c = some (decide (b ≤ a ∧ a ≤ c)) := by
  unfold impl_from.f
  by_cases h : a ≥ b
  · simp [if_pos h, h]
  · simp [if_neg h]; omega
theorem impl_GetAddr_ev (l : List Int) (hl : l.length ≤ 4611686018427387000) (hb : ∀ c ∈ l, 0 ≤ c ∧ c ≤ 255) (a : Int) (ha : -9223372036854775808 ≤ a ∧ a ≤ 9223372036854775807) : Ev (fun k => impl_GetAddr.f k l a) (getAddr l a) := by
  unfold getAddr
  refine Ev.val (from_g a 0 _) ?_
  rw [w64 (x := (l.length : Int) - 1) (by omega) (by omega)]
  by_cases h : 0 ≤ a ∧ a < l.length
  · refine Ev.mid (if_pos h).symm (Ev.ite_pos (by simp; omega) ?_)
    rw [w64 (x := a + 1) (by omega) (by omega)]
    refine Ev.ite_pos (by omega) (Ev.ite_pos (by omega) (Ev.ite_pos h.1 (Ev.ite_pos h.2 ?_)))
    have hr : ((l.drop (a + 1).toNat).length : Int) = l.length - a - 1 := by rw [List.length_drop]; omega
    have j1 : ∀ z : Bool, z = decide (rd l a = 6 ∧ a + 17 ≤ l.length) → ¬ (rd l a = 4 ∧ a + 5 ≤ l.length) →
        Ev (fun k => impl_GetAddr.j1 k a (l.drop (a + 1).toNat) z) (if rd l a = 4 ∧ a + 5 ≤ l.length then (false, 0, wrap64 (be 0 ((l.drop (a + 1).toNat).take 4)), a + 5, true) else if rd l a = 6 ∧ a + 17 ≤ l.length then (true, wrap64 (be 0 ((l.drop (a + 1).toNat).take 8)), wrap64 (be 0 ((l.drop (a + 9).toNat).take 8)), a + 17, true) else (false, 0, 0, 0, false)) := by
      intro z hz h4
      by_cases h6 : rd l a = 6 ∧ a + 17 ≤ l.length
      · obtain rfl : z = true := hz.trans (decide_eq_true h6)
        refine Ev.step (f := fun k => (impl_narrow.f k ((l.drop (a + 1).toNat).take 8)).bind fun t => (impl_narrow.f k (((l.drop (a + 1).toNat).take 16).drop 8)).bind fun u => some (true, t, u, wrap64 (a + 17), true)) (fun k => ?_) ?_
        · have h16 : (16 : Int) ≤ ((l.drop (a + 1).toNat).length : Int) := by omega
          rw [impl_GetAddr.j1, if_pos rfl, if_pos (by omega)]
          simp only [if_pos h16, if_pos (show (8 : Int) ≤ 16 by decide)]
          rfl
        · refine Ev.bind (narrow_ev _ (by simp; omega) (fun c hc => hb c (mem_sub _ _ hc))) ?_
          have e : ((l.drop (a + 1).toNat).take 16).drop 8 = (l.drop (a + 9).toNat).take 8 := by
            rw [List.drop_take, List.drop_drop]
            congr 2
            omega
          rw [e]
          refine Ev.bind (narrow_ev _ (by simp; omega) (fun c hc => hb c (mem_sub _ _ hc))) (Ev.mid ?_ (Ev.now _))
          rw [if_neg h4, if_pos h6, w64 (x := a + 17) (by omega) (by omega)]
      · obtain rfl : z = false := hz.trans (decide_eq_false h6)
        refine Ev.step (f := fun _ => some _) (fun k => ?_) (Ev.mid ?_ (Ev.now (false, 0, 0, 0, false)))
        · rw [impl_GetAddr.j1, if_neg (by decide)]
        · rw [if_neg h4, if_neg h6]
    have j0 : ∀ z : Bool, z = decide (rd l a = 4 ∧ a + 5 ≤ l.length) →
        Ev (fun k => impl_GetAddr.j0 k l a (l.drop (a + 1).toNat) z) (if rd l a = 4 ∧ a + 5 ≤ l.length then (false, 0, wrap64 (be 0 ((l.drop (a + 1).toNat).take 4)), a + 5, true) else if rd l a = 6 ∧ a + 17 ≤ l.length then (true, wrap64 (be 0 ((l.drop (a + 1).toNat).take 8)), wrap64 (be 0 ((l.drop (a + 9).toNat).take 8)), a + 17, true) else (false, 0, 0, 0, false)) := by
      intro z hz
      by_cases h4 : rd l a = 4 ∧ a + 5 ≤ l.length
      · obtain rfl : z = true := hz.trans (decide_eq_true h4)
        refine Ev.step (f := fun k => (impl_narrow.f k ((l.drop (a + 1).toNat).take 4)).bind fun t => some (false, 0, t, wrap64 (a + 5), true)) (fun k => ?_) ?_
        · rw [impl_GetAddr.j0, if_pos rfl, if_pos (by omega)]
        · refine Ev.bind (narrow_ev _ (by simp; omega) (fun c hc => hb c (mem_sub _ _ hc))) (Ev.mid ?_ (Ev.now _))
          rw [if_pos h4, w64 (x := a + 5) (by omega) (by omega)]
      · obtain rfl : z = false := hz.trans (decide_eq_false h4)
        by_cases h6 : rd l a = 6
        · refine Ev.step (f := fun k => impl_GetAddr.j1 k a (l.drop (a + 1).toNat) (decide (((l.drop (a + 1).toNat).length : Int) ≥ 16))) (fun k => ?_) (j1 _ ?_ h4)
          · rw [impl_GetAddr.j0, if_neg (by decide), if_pos h.1, if_pos h.2, if_pos h6]
          · rw [hr]; simp only [h6, true_and]; congr 1; exact propext ⟨fun h => by omega, fun h => by omega⟩
        · refine Ev.step (f := fun k => impl_GetAddr.j1 k a (l.drop (a + 1).toNat) false) (fun k => ?_) (j1 _ ?_ h4)
          · rw [impl_GetAddr.j0, if_neg (by decide), if_pos h.1, if_pos h.2, if_neg h6]
          · simp [h6]
    by_cases h4 : rd l a = 4
    · refine Ev.ite_pos h4 (j0 _ ?_)
      rw [hr]; simp only [h4, true_and]; congr 1; exact propext ⟨fun h => by omega, fun h => by omega⟩
    · refine Ev.ite_neg h4 (j0 _ ?_)
      simp [h4]
  · exact Ev.mid (if_neg h).symm (Ev.ite_neg (by simp; omega) (Ev.now _))

/-- The cursor of a draw stands in the code. -/
def Cur (b : List Int) (i : Int) : Prop := 0 ≤ i ∧ i ≤ b.length
/-- What is drawn from. -/
structure Code (b : List Int) : Prop where
  bytes : ∀ c ∈ b, 0 ≤ c ∧ c ≤ 255
  len : b.length ≤ 4611686018427387904
def DrawnI (b : List Int) (o : Option (Int × Int × Int)) (P : Int → Prop) : Prop := ∃ v i h, o = some (v, i, h) ∧ Cur b i ∧ P v
theorem and255 (X : Int) : 0 ≤ Go.bits .and .i64 X 255 ∧ Go.bits .and .i64 X 255 ≤ 255 := by
  have e : Go.bits .and .i64 X 255 = IntKind.i64.wrap (((BitVec.ofInt 64 X &&& BitVec.ofInt 64 255).toNat : Nat) : Int) := rfl
  have h1 : (BitVec.ofInt 64 X &&& BitVec.ofInt 64 255).toNat ≤ 255 := by
    rw [BitVec.toNat_and, show (BitVec.ofInt 64 255).toNat = 255 by decide]
    exact Nat.and_le_right
  rw [e, show IntKind.i64.wrap _ = wrap64 _ from IntWalk.i64_left _, w64 (by omega) (by omega)]
  omega
theorem rd_mem (l : List Int) (v : Int) (h0 : 0 ≤ v) (h1 : v < l.length) : rd l v ∈ l := by
  obtain ⟨n, rfl⟩ := Int.eq_ofNat_of_zero_le h0
  have hn : n < l.length := by omega
  rw [rd_get l n n _ rfl (List.getElem?_eq_getElem hn)]
  exact List.getElem_mem hn
theorem l1Byte_ok (b : List Int) (hb : Code b) (i h : Int) (hc : Cur b i) : DrawnI b (spec_l1Byte.f b i h) (fun v => 0 ≤ v ∧ v ≤ 255) := by
  have hlen := hb.len
  obtain ⟨h0, h1⟩ := hc
  unfold spec_l1Byte.f
  by_cases hlt : i < (b.length : Int)
  · rw [if_pos hlt, if_pos h0]
    refine ⟨_, _, _, rfl, ?_, and255 _⟩
    rw [w64 (by omega) (by omega)]
    exact ⟨by omega, by omega⟩
  · rw [if_neg hlt]
    exact ⟨_, _, _, rfl, ⟨h0, h1⟩, and255 _⟩
theorem tmod_bd (v n : Int) (h0 : 0 ≤ v) (hn : 0 < n) : 0 ≤ Int.tmod v n ∧ Int.tmod v n < n := by
  rw [Int.tmod_eq_emod_of_nonneg h0]
  exact ⟨Int.emod_nonneg _ (by omega), Int.emod_lt_of_pos _ hn⟩
theorem l1Below_ok (b : List Int) (hb : Code b) (i h n : Int) (hc : Cur b i) : DrawnI b (spec_l1Below.f b i h n) (fun v => 0 ≤ v ∧ (0 < n → v < n)) := by
  unfold spec_l1Below.f
  by_cases h0 : n ≤ 0
  · rw [if_pos h0]
    exact ⟨_, _, _, rfl, hc, by omega, by omega⟩
  · rw [if_neg h0]
    by_cases h1 : n ≤ 256
    · rw [if_pos h1]
      obtain ⟨v, i1, h1, e, c1, p1⟩ := l1Byte_ok b hb i h hc
      have ht := tmod_bd v n p1.1 (by omega)
      refine ⟨_, _, _, by rw [e, Option.bind_some, if_neg (by omega)], c1, ht.1, fun _ => ht.2⟩
    · rw [if_neg h1]
      obtain ⟨v1, i1, k1, e1, c1, p1⟩ := l1Byte_ok b hb i h hc
      obtain ⟨v2, i2, k2, e2, c2, p2⟩ := l1Byte_ok b hb i1 k1 c1
      obtain ⟨v3, i3, k3, e3, c3, p3⟩ := l1Byte_ok b hb i2 k2 c2
      have hw : wrap64 (wrap64 (wrap64 (v1 * 65536) + wrap64 (v2 * 256)) + v3) = v1 * 65536 + v2 * 256 + v3 := by
        rw [w64 (x := v1 * 65536) (by omega) (by omega), w64 (x := v2 * 256) (by omega) (by omega), w64 (x := v1 * 65536 + v2 * 256) (by omega) (by omega), w64 (by omega) (by omega)]
      have ht := tmod_bd (v1 * 65536 + v2 * 256 + v3) n (by omega) (by omega)
      refine ⟨_, _, _, by rw [e1, Option.bind_some, e2, Option.bind_some, e3, Option.bind_some, if_neg (by omega), hw], c3, ht.1, fun _ => ht.2⟩
theorem l1Int_ok (b : List Int) (hb : Code b) (i h : Int) (hc : Cur b i) (l : List Int) (hl : 0 < l.length) : DrawnI b (spec_l1Int.f b i h l) (fun v => v ∈ l) := by
  unfold spec_l1Int.f
  obtain ⟨v, i1, h1, e, c1, p1, p2⟩ := l1Below_ok b hb i h l.length hc
  have := p2 (by omega)
  exact ⟨_, _, _, by rw [e, Option.bind_some, if_pos p1, if_pos this], c1, rd_mem l v p1 this⟩
theorem l1Int_in (b : List Int) (hb : Code b) (i h : Int) (hc : Cur b i) (l : List Int) (hl : 0 < l.length) (P : Int → Prop) (hP : ∀ z ∈ l, P z) : DrawnI b (spec_l1Int.f b i h l) P := by
  obtain ⟨v, i1, h1, e, c1, p1⟩ := l1Int_ok b hb i h hc l hl
  exact ⟨v, i1, h1, e, c1, hP v p1⟩
theorem l1Once_ok (b : List Int) (hb : Code b) (i h n : Int) (hc : Cur b i) : ∃ v i' h', spec_l1Once.f b i h n = some (v, i', h') ∧ Cur b i' := by
  unfold spec_l1Once.f
  obtain ⟨v, i1, h1, e, c1, p1⟩ := l1Below_ok b hb i h n hc
  exact ⟨_, _, _, by rw [e, Option.bind_some], c1⟩
theorem l1Odd_ok (b : List Int) (hb : Code b) (i h : Int) (hc : Cur b i) : DrawnI b (spec_l1Odd.f b i h) in64 := by
  unfold spec_l1Odd.f
  obtain ⟨v, i1, h1, e, c1, p1⟩ := l1Int_in b hb i h hc [(-1), 0, 1, 2, 255, 256, 65535, 2147483647, 2147483648, 4294967295, 4294967296, (-2147483648), 9223372036854775807, (-9223372036854775808)] (by decide) in64 (by simp [in64])
  exact ⟨_, _, _, by rw [e, Option.bind_some], c1, p1⟩
theorem l1New_l0 (b : List Int) (hb : Code b) (d : Nat) : ∀ (i : Nat) (h : Int), i + d = b.length → ∃ h', Ev (fun k => spec_l1New.l0 k b h (i : Int)) (b, 0, h') := by
  have hlen := hb.len
  induction d with
  | zero =>
    intro i h hi
    exact ⟨h, Ev.step (f := fun _ => some _) (fun k => by rw [spec_l1New.l0, if_neg (by omega)]) (Ev.now _)⟩
  | succ d ih =>
    intro i h hi
    by_cases hs : i < 4000
    · obtain ⟨h', e⟩ := ih (i + 1) (Go.bits .and .i64 (wrap64 ((wrap64 ((wrap64 (h * 137)) + (wrap64 (rd b i)))) + 11)) 1073741823) (by omega)
      refine ⟨h', Ev.step (fun k => ?_) e⟩
      rw [spec_l1New.l0, if_pos (by omega), if_pos (by omega), if_pos (by omega), w64 (x := (i : Int) + 1) (by omega) (by omega)]
      rfl
    · exact ⟨h, Ev.step (f := fun _ => some _) (fun k => by rw [spec_l1New.l0, if_pos (by omega), if_neg (by omega)]) (Ev.now _)⟩
theorem l1New_ev (b : List Int) (hb : Code b) : ∃ h, Ev (fun k => spec_l1New.f k b) (b, 0, h) := l1New_l0 b hb b.length 0 _ (by omega)
theorem cur0 (b : List Int) : Cur b 0 := ⟨by omega, by omega⟩

theorem high_tab (n : Nat) (h : n ≤ 64) : 18446744073709551615 / 2 ^ n = 2 ^ (64 - n) - 1 ∧ (18446744073709551615 * 2 ^ n) % 18446744073709551616 = 18446744073709551616 - 2 ^ n := by
  have t : ∀ n : Fin 65, 18446744073709551615 / 2 ^ n.1 = 2 ^ (64 - n.1) - 1 ∧ (18446744073709551615 * 2 ^ n.1) % 18446744073709551616 = 18446744073709551616 - 2 ^ n.1 := by decide +kernel
  exact t ⟨n, by omega⟩
theorem four_tab (n : Nat) (h : n ≤ 32) : 4294967295 / 2 ^ n = 2 ^ (32 - n) - 1 ∧ (18446744073709551616 - 2 ^ (64 - n)) / 4294967296 = 4294967296 - 2 ^ (32 - n) := by
  have t : ∀ n : Fin 33, 4294967295 / 2 ^ n.1 = 2 ^ (32 - n.1) - 1 ∧ (18446744073709551616 - 2 ^ (64 - n.1)) / 4294967296 = 4294967296 - 2 ^ (32 - n.1) := by decide +kernel
  exact t ⟨n, by omega⟩
theorem pow_le64 (k : Nat) (h : k ≤ 64) : 1 ≤ 2 ^ k ∧ 2 ^ k ≤ 18446744073709551616 := ⟨Nat.one_le_two_pow, Nat.le_trans (Nat.pow_le_pow_right (by decide) h) (by decide)⟩
theorem pow_le32 (k : Nat) (h : k ≤ 32) : 1 ≤ 2 ^ k ∧ 2 ^ k ≤ 4294967296 := ⟨Nat.one_le_two_pow, Nat.le_trans (Nat.pow_le_pow_right (by decide) h) (by decide)⟩
/-- The bits from k on. -/
theorem nat_and_high (a k w : Nat) (hk : k ≤ w) (ha : a < 2 ^ w) : a &&& (2 ^ w - 2 ^ k) = a - a % 2 ^ k := by
  have e1 : 2 ^ w - 2 ^ k = 2 ^ k * (2 ^ (w - k) - 1) := by
    rw [Nat.mul_sub, ← Nat.pow_add, Nat.add_sub_cancel' hk, Nat.mul_one]
  have e2 : a - a % 2 ^ k = 2 ^ k * (a / 2 ^ k) := by
    have := Nat.div_add_mod a (2 ^ k)
    omega
  rw [e1, e2]
  apply Nat.eq_of_testBit_eq
  intro i
  rw [Nat.testBit_and, Nat.testBit_two_pow_mul, Nat.testBit_two_pow_mul, Nat.testBit_two_pow_sub_one, Nat.testBit_div_two_pow]
  by_cases hi : k ≤ i
  · by_cases hw : i < w
    · simp [hi, Nat.sub_add_cancel hi, show i - k < w - k by omega]
    · have : a.testBit i = false := Nat.testBit_lt_two_pow (Nat.lt_of_lt_of_le ha (Nat.pow_le_pow_right (by decide) (by omega)))
      simp [hi, Nat.sub_add_cancel hi, this]
  · simp [hi]
theorem u64and (a b : Nat) (ha : a < 18446744073709551616) (hb : b < 18446744073709551616) : Go.bits .and .u64 (a : Int) (b : Int) = ((a &&& b : Nat) : Int) :=
  (Go.bits_nat .u64 64 (by decide) (fun n h0 h1 => by rw [u64w]; omega) a b ha hb).1
theorem i64w (n : Int) : IntKind.i64.wrap n = wrap64 n := IntWalk.i64_left n
theorem i64and (a b : Nat) (ha : a < 9223372036854775808) (hb : b < 9223372036854775808) : Go.bits .and .i64 (a : Int) (b : Int) = ((a &&& b : Nat) : Int) :=
  (Go.bits_nat .i64 63 (by decide) (fun n h0 h1 => by rw [i64w]; exact w64 (by omega) (by omega)) a b ha hb).1
theorem u64andNot (a b : Nat) (ha : a < 18446744073709551616) (hb : b < 18446744073709551616) : Go.bits .andNot .u64 (a : Int) (b : Int) = ((a &&& (18446744073709551615 - b) : Nat) : Int) := by
  have ha' : a % 2 ^ 64 = a := Nat.mod_eq_of_lt ha
  have hb' : b % 2 ^ 64 = b := Nat.mod_eq_of_lt hb
  have e : IntKind.u64.bits = 64 := rfl
  simp only [Go.bits, e, BitVec.ofInt_natCast, BitVec.toNat_and, BitVec.toNat_not, BitVec.toNat_ofNat, ha', hb']
  have h : a &&& (2 ^ 64 - 1 - b) < 2 ^ 64 := Nat.lt_of_le_of_lt Nat.and_le_left ha
  rw [u64w]
  have e2 : (2 : Nat) ^ 64 - 1 - b = 18446744073709551615 - b := rfl
  rw [e2] at h ⊢
  omega
theorem and_high (u : Int) (k : Nat) (hk : k ≤ 64) (h0 : 0 ≤ u) (h1 : u < 18446744073709551616) (m : Int) (hm : m = ((18446744073709551616 - 2 ^ k : Nat) : Int)) : Go.bits .and .u64 u m = u - u % 2 ^ k := by
  obtain ⟨a, rfl⟩ := Int.eq_ofNat_of_zero_le h0
  have hp := pow_le64 k hk
  rw [hm, u64and a _ (by omega) (by omega)]
  have e := nat_and_high a k 64 hk (by omega)
  have e64 : (2 : Nat) ^ 64 = 18446744073709551616 := rfl
  rw [e64] at e
  rw [e]
  have hle : a % 2 ^ k ≤ a := Nat.mod_le _ _
  rw [Int.natCast_sub hle, Int.natCast_emod, Int.natCast_pow]
  rfl
theorem andNot_low (u : Int) (k : Nat) (hk : k ≤ 64) (h0 : 0 ≤ u) (h1 : u < 18446744073709551616) (m : Int) (hm : m = ((2 ^ k - 1 : Nat) : Int)) : Go.bits .andNot .u64 u m = u - u % 2 ^ k := by
  have hp := pow_le64 k hk
  obtain ⟨a, rfl⟩ := Int.eq_ofNat_of_zero_le h0
  have e : Go.bits .andNot .u64 (a : Int) m = Go.bits .and .u64 (a : Int) ((18446744073709551616 - 2 ^ k : Nat) : Int) := by
    rw [hm, u64andNot a _ (by omega) (by omega), u64and a _ (by omega) (by omega)]
    congr 2
    omega
  rw [e]
  exact and_high _ k hk h0 h1 _ rfl
theorem and_four (u : Int) (k : Nat) (hk : k ≤ 32) (h0 : 0 ≤ u) (h1 : u < 4294967296) (m : Int) (hm : m = ((4294967296 - 2 ^ k : Nat) : Int)) : Go.bits .and .i64 u m = u - u % 2 ^ k := by
  obtain ⟨a, rfl⟩ := Int.eq_ofNat_of_zero_le h0
  have hp := pow_le32 k hk
  rw [hm, i64and a _ (by omega) (by omega)]
  have e := nat_and_high a k 32 hk (by omega)
  have e32 : (2 : Nat) ^ 32 = 4294967296 := rfl
  rw [e32] at e
  rw [e]
  have hle : a % 2 ^ k ≤ a := Nat.mod_le _ _
  rw [Int.natCast_sub hle, Int.natCast_emod, Int.natCast_pow]
  rfl
/-- How many bits behind the first b are in the upper, the lower half; of 32. -/
def kHi (b : Int) : Nat := min 64 (64 - b).toNat
def kLo (b : Int) : Nat := min 64 (128 - b).toNat
def kFo (b : Int) : Nat := (32 - b).toNat
def keep (u : Int) (k : Nat) : Int := u - u % 2 ^ k
theorem pow_cast (k : Nat) : ((2 ^ k : Nat) : Int) = 2 ^ k := by simp
theorem keep_mul (u : Int) (k : Nat) : keep u k = 2 ^ k * (u / 2 ^ k) := by
  have := Int.emod_add_mul_ediv u (2 ^ k)
  unfold keep
  omega
theorem keep_mod (u : Int) (k : Nat) : keep u k % 2 ^ k = 0 := by rw [keep_mul, Int.mul_emod_right]
theorem keep_bd (u : Int) (k : Nat) (h : 0 ≤ u) : 0 ≤ keep u k ∧ keep u k ≤ u ∧ u < keep u k + 2 ^ k := by
  have hk2 : (0 : Int) < 2 ^ k := Int.pow_pos (by decide)
  have h1 := Int.emod_nonneg u (show (2 : Int) ^ k ≠ 0 by omega)
  have h2 := Int.emod_lt_of_pos u hk2
  have h3 : 0 ≤ u / 2 ^ k := Int.ediv_nonneg h (by omega)
  have h4 : 0 ≤ 2 ^ k * (u / 2 ^ k) := Int.mul_nonneg (by omega) h3
  have h5 := keep_mul u k
  unfold keep at h5 ⊢
  omega
def maskA (x : Bool) (h l b : Int) : Bool × Int × Int :=
  if x = true then (true, wrap64 (keep (h % 18446744073709551616) (kHi b)), wrap64 (keep (l % 18446744073709551616) (kLo b))) else (false, 0, keep l (kFo b))
/-- A prefix is right. -/
def prefOk (x : Bool) (h l b : Int) : Bool := addrOk x h l && decide (0 ≤ b ∧ b ≤ if x = true then 128 else 32) && (maskA x h l b == (x, h, l))
theorem addrOk_four {x : Bool} {h l : Int} (hk : addrOk x h l = true) : x = false → h = 0 ∧ 0 ≤ l ∧ l < 4294967296 := by
  intro hx
  subst hx
  simp [addrOk] at hk
  omega
theorem eq3 (p : Bool × Int × Int) (x : Bool) (h l : Int) : (p.1 == x && (p.2.1 == h && (p.2.2 == l))) = (p == (x, h, l)) := by
  obtain ⟨a, b, c⟩ := p
  rfl

/-- An address, or the zero one of what is none. -/
def rightA (x : Bool) (h l : Int) : Bool × Int × Int := if addrOk x h l = true then (x, h, l) else (false, 0, 0)
/-- What is right: of 32 bits its upper half is 0, its lower one below 2^32. -/
structure Right (p : Bool × Int × Int) : Prop where
  four : p.1 = false → p.2.1 = 0 ∧ 0 ≤ p.2.2 ∧ p.2.2 ≤ 4294967295
  hi : in64 p.2.1
  lo : in64 p.2.2
theorem rightA_right (x : Bool) (h l : Int) (hh : in64 h) (hl : in64 l) : Right (rightA x h l) := by
  unfold rightA
  by_cases ha : addrOk x h l = true
  · rw [if_pos ha]
    refine ⟨fun hx => ?_, hh, hl⟩
    simp only at hx
    subst hx
    simpa [addrOk] using ha
  · rw [if_neg ha]
    exact ⟨fun _ => ⟨rfl, by simp⟩, in64_zero, in64_zero⟩
theorem rightA_ok {x : Bool} {h l : Int} (ha : addrOk x h l = true) : rightA x h l = (x, h, l) := if_pos ha

/-- Addresses as numbers. -/
def wd (x : Bool) : Nat := if x = true then 128 else 32
def aval (x : Bool) (h l : Int) : Nat := if x = true then (h % 18446744073709551616).toNat * 18446744073709551616 + (l % 18446744073709551616).toNat else l.toNat
def mkA (x : Bool) (v : Nat) : Bool × Int × Int := if x = true then (true, wrap64 ((v / 18446744073709551616 : Nat) : Int), wrap64 ((v % 18446744073709551616 : Nat) : Int)) else (false, 0, (v : Int))
theorem two64 : (2 : Nat) ^ 64 = 18446744073709551616 := by decide
theorem two128 : (2 : Nat) ^ 128 = 340282366920938463463374607431768211456 := by decide
theorem two32 : (2 : Nat) ^ 32 = 4294967296 := by decide
theorem wd_six : wd true = 128 := rfl
theorem wd_four : wd false = 32 := rfl
theorem wrap_mod64 (n : Nat) (h : n < 18446744073709551616) : (wrap64 (n : Int) % 18446744073709551616).toNat = n := by unfold wrap64; omega
theorem aval_mkA (x : Bool) (v : Nat) (h : v < 2 ^ wd x) : aval (mkA x v).1 (mkA x v).2.1 (mkA x v).2.2 = v := by
  cases x
  · simp [mkA, aval]
  · rw [wd_six, two128] at h
    simp only [mkA, aval, if_true]
    rw [wrap_mod64 _ (by omega), wrap_mod64 _ (by omega)]
    omega
theorem mkA_fst (x : Bool) (v : Nat) : (mkA x v).1 = x := by cases x <;> rfl
theorem mkA_right (x : Bool) (v : Nat) (h : v < 2 ^ wd x) : Right (mkA x v) := by
  cases x
  · rw [wd_four, two32] at h
    refine ⟨fun _ => ?_, ?_, ?_⟩
    · simp [mkA]; omega
    · simp [mkA, in64]
    · simp [mkA, in64]; omega
  · refine ⟨fun h => ?_, ?_, ?_⟩
    · simp [mkA] at h
    · simp only [mkA, if_true]; exact wrap_is _
    · simp only [mkA, if_true]; exact wrap_is _
theorem mkA_ok (x : Bool) (v : Nat) (h : v < 2 ^ wd x) : addrOk (mkA x v).1 (mkA x v).2.1 (mkA x v).2.2 = true := by
  cases x
  · rw [wd_four, two32] at h
    simp [mkA, addrOk]; omega
  · rfl
theorem aval_lt (x : Bool) (h l : Int) (ha : addrOk x h l = true) : aval x h l < 2 ^ wd x := by
  cases x
  · rw [wd_four, two32]
    simp [addrOk] at ha
    simp [aval]; omega
  · rw [wd_six, two128]
    simp only [aval, if_true]
    omega
theorem mkA_aval (x : Bool) (h l : Int) (ha : addrOk x h l = true) (hh : in64 h) (hl : in64 l) : mkA x (aval x h l) = (x, h, l) := by
  cases x
  · simp [addrOk] at ha
    simp [mkA, aval, ha.1]; omega
  · simp only [mkA, aval, if_true]
    have e1 : (h % 18446744073709551616).toNat * 18446744073709551616 + (l % 18446744073709551616).toNat = (h % 18446744073709551616).toNat * 18446744073709551616 + (l % 18446744073709551616).toNat := rfl
    have d : ((h % 18446744073709551616).toNat * 18446744073709551616 + (l % 18446744073709551616).toNat) / 18446744073709551616 = (h % 18446744073709551616).toNat := by omega
    have m : ((h % 18446744073709551616).toNat * 18446744073709551616 + (l % 18446744073709551616).toNat) % 18446744073709551616 = (l % 18446744073709551616).toNat := by omega
    rw [d, m, Int.toNat_of_nonneg (by omega), Int.toNat_of_nonneg (by omega), wrap_in hh, wrap_in hl]
theorem mkA_inj (x : Bool) {v u : Nat} (hv : v < 2 ^ wd x) (hu : u < 2 ^ wd x) (e : mkA x v = mkA x u) : v = u := by
  rw [← aval_mkA x v hv, ← aval_mkA x u hu, e]
/-- Numbers of two halves, below a power. -/
theorem mod_hi (H L k : Nat) (hL : L < 18446744073709551616) : (H * 18446744073709551616 + L) % 2 ^ (64 + k) = (H % 2 ^ k) * 18446744073709551616 + L := by
  rw [Nat.pow_add, two64, Nat.mod_mul]
  have d : (H * 18446744073709551616 + L) / 18446744073709551616 = H := by omega
  have m : (H * 18446744073709551616 + L) % 18446744073709551616 = L := by omega
  rw [d, m]
  omega
theorem mod_lo (H L k : Nat) (hk : k ≤ 64) : (H * 18446744073709551616 + L) % 2 ^ k = L % 2 ^ k := by
  have e : 18446744073709551616 = 2 ^ k * 2 ^ (64 - k) := by rw [← Nat.pow_add, show k + (64 - k) = 64 by omega, two64]
  rw [e, Nat.mul_comm H, Nat.mul_assoc, Nat.mul_add_mod]
theorem keep_nat (a k : Nat) : keep (a : Int) k = ((a - a % 2 ^ k : Nat) : Int) := by
  unfold keep
  have : a % 2 ^ k ≤ a := Nat.mod_le _ _
  rw [Int.natCast_sub this, Int.natCast_emod, Int.natCast_pow]
  rfl
/-- The first b bits. -/
def clr (x : Bool) (v : Nat) (b : Int) : Nat := v - v % 2 ^ (wd x - b.toNat)
theorem clr_le (x : Bool) (v : Nat) (b : Int) : clr x v b ≤ v := Nat.sub_le _ _
theorem maskA_val (x : Bool) (h l b : Int) (ha : addrOk x h l = true) (hb0 : 0 ≤ b) (hb1 : b ≤ if x = true then 128 else 32) : maskA x h l b = mkA x (clr x (aval x h l) b) := by
  cases x
  · simp only [Bool.false_eq_true, if_false] at hb1
    simp only [maskA, mkA, clr, aval, Bool.false_eq_true, if_false, wd_four]
    simp [addrOk] at ha
    obtain ⟨L, hL⟩ := Int.eq_ofNat_of_zero_le ha.2.1
    subst hL
    rw [show kFo b = 32 - b.toNat by unfold kFo; omega]
    rw [keep_nat]
    simp
  · simp only [if_true] at hb1
    simp only [maskA, mkA, clr, aval, if_true, wd_six]
    obtain ⟨H, hH⟩ := Int.eq_ofNat_of_zero_le (show 0 ≤ h % 18446744073709551616 by omega)
    obtain ⟨L, hL⟩ := Int.eq_ofNat_of_zero_le (show 0 ≤ l % 18446744073709551616 by omega)
    have hHb : H < 18446744073709551616 := by omega
    have hLb : L < 18446744073709551616 := by omega
    rw [hH, hL]
    rw [keep_nat, keep_nat]
    simp only [Int.toNat_natCast]
    by_cases hb : b ≤ 64
    · rw [show kHi b = 64 - b.toNat by unfold kHi; omega, show kLo b = 64 by unfold kLo; omega, show 128 - b.toNat = 64 + (64 - b.toNat) by omega, mod_hi H L _ hLb]
      have hm := Nat.mod_le H (2 ^ (64 - b.toNat))
      rw [show L % 2 ^ 64 = L by rw [two64]; omega]
      have e1 : (H * 18446744073709551616 + L - (H % 2 ^ (64 - b.toNat) * 18446744073709551616 + L)) / 18446744073709551616 = H - H % 2 ^ (64 - b.toNat) := by omega
      have e2 : (H * 18446744073709551616 + L - (H % 2 ^ (64 - b.toNat) * 18446744073709551616 + L)) % 18446744073709551616 = L - L := by omega
      rw [e1, e2]
    · rw [show kHi b = 0 by unfold kHi; omega, show kLo b = 128 - b.toNat by unfold kLo; omega, mod_lo H L _ (by omega)]
      have hm := Nat.mod_le L (2 ^ (128 - b.toNat))
      have e1 : (H * 18446744073709551616 + L - L % 2 ^ (128 - b.toNat)) / 18446744073709551616 = H - H % 2 ^ 0 := by
        rw [Nat.pow_zero, Nat.mod_one]
        omega
      have e2 : (H * 18446744073709551616 + L - L % 2 ^ (128 - b.toNat)) % 18446744073709551616 = L - L % 2 ^ (128 - b.toNat) := by omega
      rw [e1, e2]
/-- A prefix's form: its address is a multiple of its size. -/
theorem prefOk_val (x : Bool) (h l b : Int) (hh : in64 h) (hl : in64 l) : prefOk x h l b = true ↔ addrOk x h l = true ∧ 0 ≤ b ∧ b ≤ wd x ∧ aval x h l % 2 ^ (wd x - b.toNat) = 0 := by
  have hw : ((if x = true then 128 else 32 : Int)) = (wd x : Int) := by cases x <;> rfl
  constructor
  · intro hp
    simp only [prefOk, Bool.and_eq_true, decide_eq_true_eq, beq_iff_eq] at hp
    obtain ⟨⟨ha, hb0, hb1⟩, hm⟩ := hp
    refine ⟨ha, hb0, by omega, ?_⟩
    rw [maskA_val x h l b ha hb0 hb1, ← mkA_aval x h l ha hh hl] at hm
    have hlt := aval_lt x h l ha
    have this := mkA_inj x (Nat.lt_of_le_of_lt (clr_le x (aval x h l) b) hlt) hlt hm
    unfold clr at this
    have := Nat.mod_le (aval x h l) (2 ^ (wd x - b.toNat))
    omega
  · rintro ⟨ha, hb0, hb1, hz⟩
    simp only [prefOk, Bool.and_eq_true, decide_eq_true_eq, beq_iff_eq]
    refine ⟨⟨ha, hb0, by omega⟩, ?_⟩
    rw [maskA_val x h l b ha hb0 (by omega), clr, hz, Nat.sub_zero, mkA_aval x h l ha hh hl]

/-- The prefix of so many bits that has an address. -/
def prefixOf (x : Bool) (h l b : Int) : Bool × Int × Int × Int × Bool :=
  if addrOk x h l = true ∧ 0 ≤ b ∧ (b ≤ if x = true then 128 else 32) then ((maskA x h l b).1, (maskA x h l b).2.1, (maskA x h l b).2.2, b, true) else (false, 0, 0, 0, false)

theorem mkA_in (x : Bool) (v : Nat) (h : v < 2 ^ wd x) : in64 (mkA x v).2.1 ∧ in64 (mkA x v).2.2 := by
  cases x
  · rw [wd_four, two32] at h
    simp only [mkA, Bool.false_eq_true, if_false]
    exact ⟨in64_zero, by unfold in64; omega⟩
  · simp only [mkA, if_true]
    exact ⟨wrap_is _, wrap_is _⟩

theorem prefixOf_in (x : Bool) (h l b : Int) (hh : in64 h) (hl : in64 l) : in64 (prefixOf x h l b).2.1 ∧ in64 (prefixOf x h l b).2.2.1 := by
  unfold prefixOf
  by_cases hc : addrOk x h l = true ∧ 0 ≤ b ∧ (b ≤ if x = true then 128 else 32)
  · rw [if_pos hc, maskA_val x h l b hc.1 hc.2.1 hc.2.2]
    exact mkA_in x _ (Nat.lt_of_le_of_lt (clr_le x _ _) (aval_lt x h l hc.1))
  · rw [if_neg hc]
    exact ⟨in64_zero, in64_zero⟩
theorem l1Draw_ok (b : List Int) (hb : Code b) (i k : Int) (hc : Cur b i) : ∃ x h l i' k', spec_l1Draw.f b i k = some (x, h, l, i', k') ∧ Cur b i' ∧ in64 h ∧ in64 l ∧ addrOk x h l = true := by
  unfold spec_l1Draw.f
  obtain ⟨v0, i0, k0, e0, c0⟩ := l1Once_ok b hb i k 2 hc
  rw [e0, Option.bind_some]
  cases v0
  · simp only [Bool.false_eq_true, if_false]
    obtain ⟨v1, i1, k1, e1, c1, p1⟩ := l1Odd_ok b hb i0 k0 c0
    rw [e1, Option.bind_some]
    obtain ⟨v2, i2, k2, e2, c2, p2⟩ := l1Int_in b hb i1 k1 c1 [0, 2306139568115548160, (-108086391056891904), (-1), 1, 65536, v1] (by simp) in64 (by simp only [List.mem_cons, List.not_mem_nil, or_false]; intro z hz; unfold in64 at *; omega)
    rw [e2, Option.bind_some]
    obtain ⟨v3, i3, k3, e3, c3, p3, p3'⟩ := l1Below_ok b hb i2 k2 70000 c2
    have p3'' := p3' (by decide)
    rw [e3, Option.bind_some]
    obtain ⟨v4, i4, k4, e4, c4, p4⟩ := l1Odd_ok b hb i3 k3 c3
    rw [e4, Option.bind_some]
    obtain ⟨v5, i5, k5, e5, c5, p5⟩ := l1Int_in b hb i4 k4 c4 [0, 1, (-1), 65536, 4294967296, v3, v4] (by simp) in64 (by simp only [List.mem_cons, List.not_mem_nil, or_false]; intro z hz; unfold in64 at *; omega)
    rw [e5, Option.bind_some]
    exact ⟨_, _, _, _, _, rfl, c5, p2, p5, rfl⟩
  · simp only [if_true]
    obtain ⟨v1, i1, k1, e1, c1, p1, p1'⟩ := l1Below_ok b hb i0 k0 300 c0
    have p1'' := p1' (by decide)
    rw [e1, Option.bind_some]
    obtain ⟨v2, i2, k2, e2, c2, p2, p2'⟩ := l1Below_ok b hb i1 k1 65536 c1
    have p2'' := p2' (by decide)
    rw [e2, Option.bind_some]
    obtain ⟨v3, i3, k3, e3, c3, p3, p3'⟩ := l1Below_ok b hb i2 k2 20 c2
    have p3'' := p3' (by decide)
    rw [e3, Option.bind_some]
    obtain ⟨v5, i5, k5, e5, c5, p5⟩ := l1Int_in b hb i3 k3 c3 [0, 1, 4294967295, 167772160, wrap64 (167772160 + v1), wrap64 (3232235520 + v2), wrap64 (4294967295 - v3)] (by simp) (fun z => 0 ≤ z ∧ z ≤ 4294967295) (by
      rw [w64 (x := 167772160 + v1) (by omega) (by omega), w64 (x := 3232235520 + v2) (by omega) (by omega), w64 (x := 4294967295 - v3) (by omega) (by omega)]
      simp only [List.mem_cons, List.not_mem_nil, or_false]; intro z hz; omega)
    rw [e5, Option.bind_some]
    refine ⟨_, _, _, _, _, rfl, c5, in64_zero, by unfold in64; omega, ?_⟩
    simp [addrOk, p5]
theorem l1DrawAny_ok (b : List Int) (hb : Code b) (i k : Int) (hc : Cur b i) : ∃ x h l i' k', spec_l1DrawAny.f b i k = some (x, h, l, i', k') ∧ Cur b i' ∧ in64 h ∧ in64 l := by
  unfold spec_l1DrawAny.f
  obtain ⟨x, h, l, i0, k0, e0, c0, p0, q0, r0⟩ := l1Draw_ok b hb i k hc
  rw [e0, Option.bind_some]
  obtain ⟨v1, i1, k1, e1, c1, p1⟩ := l1Below_ok b hb i0 k0 16 c0
  rw [e1, Option.bind_some]
  by_cases z0 : v1 = 0
  · rw [if_pos z0]; exact ⟨_, _, _, _, _, rfl, c1, p0, q0⟩
  · rw [if_neg z0]
    by_cases z1 : v1 = 1
    · obtain ⟨v2, i2, k2, e2, c2, p2⟩ := l1Odd_ok b hb i1 k1 c1
      rw [if_pos z1, e2, Option.bind_some]
      exact ⟨_, _, _, _, _, rfl, c2, p0, p2⟩
    · rw [if_neg z1]; exact ⟨_, _, _, _, _, rfl, c1, p0, q0⟩

theorem be_wide (n : Int) (i : Nat) : ∀ x : Int, i ≤ 8 → 0 ≤ x → x < 256 ^ (8 - i) → be x (wideL n i) = x * 256 ^ i + (n % 18446744073709551616) % 256 ^ i := by
  obtain ⟨U, hU⟩ := Int.eq_ofNat_of_zero_le (show 0 ≤ n % 18446744073709551616 by omega)
  induction i with
  | zero => intro x _ _ _; simp [wideL, be, Int.emod_one]
  | succ i ih =>
    intro x h8 h0 h1
    have e8 : (256 : Int) ^ (8 - i) = 256 * 256 ^ (8 - (i + 1)) := by rw [show 8 - i = (8 - (i + 1)) + 1 by omega, Int.pow_succ]; omega
    have hle : (256 : Int) ^ (8 - i) ≤ 18446744073709551616 := by
      have := Nat.pow_le_pow_right (n := 256) (by decide) (show 8 - i ≤ 8 by omega)
      have e : (256 : Int) ^ (8 - i) = ((256 ^ (8 - i) : Nat) : Int) := (Int.natCast_pow 256 (8 - i)).symm
      rw [show (256 : Nat) ^ 8 = 18446744073709551616 by decide] at this
      rw [e]
      generalize 256 ^ (8 - i) = z at this
      omega
    have hd : 0 ≤ ((n % 18446744073709551616) / 2 ^ (8 * i)) % 256 ∧ ((n % 18446744073709551616) / 2 ^ (8 * i)) % 256 < 256 := by omega
    have hx : x * 256 % 18446744073709551616 = x * 256 := by
      apply Int.emod_eq_of_lt <;> omega
    rw [wideL, be, hx, ih _ (by omega) (by omega) (by omega)]
    rw [hU]
    have hp : (2 : Int) ^ (8 * i) = ((256 ^ i : Nat) : Int) := by rw [Int.pow_mul]; simp
    have hq : (256 : Int) ^ i = ((256 ^ i : Nat) : Int) := by simp
    have hr : (256 : Int) ^ (i + 1) = ((256 ^ i * 256 : Nat) : Int) := by rw [Int.pow_succ]; simp
    rw [hp, hr, hq]
    have hm := Nat.mod_mul (x := U) (a := 256 ^ i) (b := 256)
    have hm2 : ((U : Int) % ((256 ^ i * 256 : Nat) : Int)) = (((U % (256 ^ i * 256) : Nat)) : Int) := by simp
    rw [hm2, hm]
    generalize 256 ^ i = M
    have e1 : ((U : Int) / (M : Int)) % 256 = ((U / M % 256 : Nat) : Int) := by simp
    have e2 : (U : Int) % (M : Int) = ((U % M : Nat) : Int) := by simp
    rw [e1, e2]
    generalize U / M % 256 = d
    generalize U % M = r
    rw [Int.natCast_add, Int.natCast_mul, Int.natCast_mul, show ((256 : Nat) : Int) = 256 from rfl]
    rw [Int.add_mul, Int.mul_assoc, Int.mul_comm 256 (M : Int), Int.mul_comm (d : Int) (M : Int)]
    omega
theorem be_eight (n : Int) (hn : in64 n) : wrap64 (be 0 (wideL n 8)) = n := by
  rw [be_wide n 8 0 (by decide) (by decide) (by decide)]
  have e : (256 : Int) ^ 8 = 18446744073709551616 := by decide
  rw [e, Int.zero_mul, Int.zero_add, Int.emod_emod_of_dvd _ (Int.dvd_refl _)]
  exact wrap_in hn
theorem be_four (n : Int) (h0 : 0 ≤ n) (h1 : n ≤ 4294967295) : wrap64 (be 0 (wideL n 4)) = n := by
  rw [be_wide n 4 0 (by decide) (by decide) (by decide)]
  have e : (256 : Int) ^ 4 = 4294967296 := by decide
  rw [e, Int.zero_mul, Int.zero_add]
  unfold wrap64; omega
theorem getAddr_put (x : Bool) (h l : Int) (hh : in64 h) (hl : in64 l) (ha : addrOk x h l = true) : getAddr ([1] ++ putA x h l ++ [3]) 1 = (x, h, l, 1 + ((putA x h l).length : Int), true) := by
  unfold putA getAddr
  rw [if_pos ha]
  cases x with
  | true =>
    rw [if_pos (show true = true from rfl)]
    have hL : ([1] ++ ([6] ++ wideL h 8 ++ wideL l 8) ++ [3]).length = 19 := by simp [wideL_len]
    have hr : rd ([1] ++ ([6] ++ wideL h 8 ++ wideL l 8) ++ [3]) 1 = 6 := rfl
    have e1 : (([1] ++ ([6] ++ wideL h 8 ++ wideL l 8) ++ [3]).drop ((1 : Int) + 1).toNat).take 8 = wideL h 8 := by
      show ((wideL h 8 ++ wideL l 8) ++ [3]).take 8 = _
      rw [List.append_assoc, List.take_append_of_le_length (by rw [wideL_len]; exact Nat.le_refl _), List.take_of_length_le (by rw [wideL_len]; exact Nat.le_refl _)]
    have e2 : (([1] ++ ([6] ++ wideL h 8 ++ wideL l 8) ++ [3]).drop ((1 : Int) + 9).toNat).take 8 = wideL l 8 := by
      show (((wideL h 8 ++ wideL l 8) ++ [3]).drop 8).take 8 = _
      rw [List.append_assoc, List.drop_append_of_le_length (by rw [wideL_len]; exact Nat.le_refl _), List.drop_of_length_le (by rw [wideL_len]; exact Nat.le_refl _), List.nil_append, List.take_append_of_le_length (by rw [wideL_len]; exact Nat.le_refl _), List.take_of_length_le (by rw [wideL_len]; exact Nat.le_refl _)]
    rw [if_pos (by omega), if_neg (by rw [hr]; omega), if_pos (by rw [hr]; omega), e1, e2, be_eight h hh, be_eight l hl]
    simp [wideL_len]
  | false =>
    have hf : h = 0 ∧ 0 ≤ l ∧ l ≤ 4294967295 := by simpa [addrOk] using ha
    rw [if_neg (show ¬ (false = true) by decide)]
    have hL : ([1] ++ ([4] ++ wideL l 4) ++ [3]).length = 7 := by simp [wideL_len]
    have hr : rd ([1] ++ ([4] ++ wideL l 4) ++ [3]) 1 = 4 := rfl
    have e1 : (([1] ++ ([4] ++ wideL l 4) ++ [3]).drop ((1 : Int) + 1).toNat).take 4 = wideL l 4 := by
      show (wideL l 4 ++ [3]).take 4 = _
      rw [List.take_append_of_le_length (by rw [wideL_len]; exact Nat.le_refl _), List.take_of_length_le (by rw [wideL_len]; exact Nat.le_refl _)]
    rw [if_pos (by omega), if_pos (by rw [hr]; omega), e1, be_four l hf.2.1 hf.2.2, hf.1]
    simp [wideL_len]
theorem getAddr_short (x : Bool) (h l : Int) (ha : addrOk x h l = true) : (getAddr ((putA x h l).take ((putA x h l).length - 1)) 0).2.2.2.2 = false := by
  unfold putA getAddr
  rw [if_pos ha]
  cases x with
  | true =>
    rw [if_pos (show true = true from rfl)]
    have hL : (([6] ++ wideL h 8 ++ wideL l 8).take (([6] ++ wideL h 8 ++ wideL l 8).length - 1)).length = 16 := by simp [wideL_len]
    have hr : rd (([6] ++ wideL h 8 ++ wideL l 8).take (([6] ++ wideL h 8 ++ wideL l 8).length - 1)) 0 = 6 := by simp [wideL_len, rd]
    rw [if_pos (by omega), if_neg (by rw [hr]; omega), if_neg (by omega)]
  | false =>
    rw [if_neg (show ¬ (false = true) by decide)]
    have hL : (([4] ++ wideL l 4).take (([4] ++ wideL l 4).length - 1)).length = 4 := by simp [wideL_len]
    have hr : rd (([4] ++ wideL l 4).take (([4] ++ wideL l 4).length - 1)) 0 = 4 := by simp [wideL_len, rd]
    rw [if_pos (by omega), if_neg (by omega), if_neg (by rw [hr]; omega)]
theorem FnAddrBytes (c : List Int) (hb : ∀ x ∈ c, (Lit.int .u8 x).wf = true) : ∃ k, laws_FnAddrBytes.f k c = some true := by
  refine Ev.rounds ?_
  by_cases hbig : (c.length : Int) > 1048576
  · exact Ev.val (a := true) (by unfold laws_big.f; rw [decide_eq_true hbig]) (Ev.ite_pos rfl (Ev.now true))
  refine Ev.val (a := false) (by unfold laws_big.f; rw [decide_eq_false hbig]) (Ev.ite_neg (by decide) ?_)
  have hc : Code c := ⟨fun y hy => wf8 (hb y hy), by omega⟩
  obtain ⟨s, hn⟩ := l1New_ev c hc
  obtain ⟨x, h, l, i', k', hd, _, hh, hl⟩ := l1DrawAny_ok c hc 0 s (cur0 c)
  refine Ev.bind (Ev.bind hn (Ev.val hd (Ev.now (x, h, l)))) ?_
  refine Ev.bind (impl_PutAddr_ev x h l) (Ev.val (spec_AddrOk_e x h l) ?_)
  have hlen := putA_len x h l
  have hby := putA_bytes x h l
  by_cases ha : addrOk x h l = true
  · refine Ev.ite_pos ha ?_
    have hpos : 1 ≤ (putA x h l).length := by
      unfold putA
      rw [if_pos ha]
      split <;> simp
    have eT : (wrap64 (((putA x h l).length : Int) - 1)).toNat = (putA x h l).length - 1 := by rw [w64 (by omega) (by omega)]; omega
    refine Ev.val (a := [1]) rfl (Ev.ite_pos (by simp; omega) (Ev.val (a := [1] ++ putA x h l) rfl (Ev.ite_pos (by simp; omega) ?_)))
    refine Ev.bind (impl_GetAddr_ev _ (by simp; omega) (fun z hz => ?_) 1 (by omega)) ?_
    · simp only [List.mem_append, List.mem_singleton] at hz
      rcases hz with (rfl | hz) | rfl
      · decide
      · exact hby z hz
      · decide
    refine Ev.ite_pos (by rw [w64 (by omega) (by omega)]; omega) (Ev.ite_pos (by rw [w64 (by omega) (by omega)]; omega) ?_)
    refine Ev.bind (impl_GetAddr_ev _ (by simp; omega) (fun z hz => hby z (List.mem_of_mem_take hz)) 0 (by omega)) ?_
    rw [getAddr_put x h l hh hl ha, eT, getAddr_short x h l ha]
    exact Ev.ite_pos rfl (Ev.ite_pos (by simp) (Ev.ite_pos (by rw [w64 (by omega) (by omega)]) (Ev.now true)))
  · refine Ev.ite_neg ha (Ev.mid ?_ (Ev.now _))
    unfold putA
    rw [if_neg ha]
    rfl

end Go.Proofs.Ytigmadccchofiaa.Pure
