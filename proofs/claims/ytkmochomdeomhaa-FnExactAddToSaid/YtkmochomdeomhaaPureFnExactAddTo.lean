/-
The pure part of the statement FnExactAddTo: what the printed functions answer is true at every input.
Conditions: none but the kinds' own bounds, as the printed statement has them.
-/
import Derived.Test.YtkmochomdeomhaaQFnExactAddTox0
import Derived.Test.YtkmochomdeomhaaQFnExactAddTox1
namespace Go.Proofs.Ytkmochomdeomhaa.Pure
open Go.RowKit Go.Proofs.Ytkmochomdeomhaa.QFnExactAddTo Go.Proofs.YtkmochomdeomhaaW.PrintWords Go.Proofs.YtkmochomdeomhaaW.PrintLast Go.Proofs.YtkmochomdeomhaaW.PrintMore
set_option linter.unusedVariables false
set_option linter.unusedSimpArgs false

theorem wf64 {x : Int} (h : (Lit.int .i64 x).wf = true) : -9223372036854775808 ≤ x ∧ x ≤ 9223372036854775807 := by
  simpa [Lit.wf, IntKind.min, IntKind.max, IntKind.signed, IntKind.bits] using h
theorem wf8 {x : Int} (h : (Lit.int .u8 x).wf = true) : 0 ≤ x ∧ x ≤ 255 := by
  simpa [Lit.wf, IntKind.min, IntKind.max, IntKind.signed, IntKind.bits] using h
theorem w64 {x : Int} (h0 : -9223372036854775808 ≤ x) (h1 : x ≤ 9223372036854775807) : wrap64 x = x := by unfold wrap64; omega
theorem u64w (n : Int) : IntKind.u64.wrap n = n % 18446744073709551616 := by simp [IntKind.wrap, IntKind.bits, IntKind.signed]
theorem u64in {x : Int} (h0 : 0 ≤ x) (h1 : x < 18446744073709551616) : IntKind.u64.wrap x = x := by rw [u64w]; omega
theorem rd_get (xs : List Int) (i : Int) (j : Nat) (x : Int) (hi : i = j) (h : xs[j]? = some x) : rd xs i = x := by
  subst hi
  simp [rd, List.getD, h]
theorem Ev.mid {α : Type} {g : Nat → Option α} {a b : α} (h : a = b) (e : Ev g a) : Ev g b := h ▸ e
theorem Ev.const {α : Type} {g : Nat → Option α} {a : α} (h : ∀ k, g k = some a) : Ev g a := ⟨0, fun k _ => h k⟩
theorem Ev.ite_pos {α : Type} {c : Prop} [Decidable c] {g f : Nat → Option α} {r : α} (hc : c) (h : Ev g r) : Ev (fun k => if c then g k else f k) r := by
  simp only [if_pos hc]
  exact h
theorem Ev.ite_neg {α : Type} {c : Prop} [Decidable c] {g f : Nat → Option α} {r : α} (hc : ¬ c) (h : Ev f r) : Ev (fun k => if c then g k else f k) r := by
  simp only [if_neg hc]
  exact h
/-- A part that has no rounds. -/
theorem Ev.val {α β : Type} {o : Option α} {f : Nat → α → Option β} {a : α} {r : β} (h : o = some a) (k : Ev (fun n => f n a) r) : Ev (fun n => o.bind (f n)) r := by
  subst h
  exact k

theorem l1In_e (a b c : Int) : spec_l1In.f a b c = some (decide (b ≤ a ∧ a ≤ c)) := by
  unfold spec_l1In.f
  by_cases h : a ≥ b
  · simp [if_pos h, h]
  · simp [if_neg h]; omega
theorem from_e (a b c : Int) : impl_from.f a b c = some (decide (b ≤ a ∧ a ≤ c)) := by
  unfold impl_from.f
  by_cases h : a ≥ b
  · simp [if_pos h, h]
  · simp [if_neg h]; omega
/-- An address is right. -/
def addrOk (x : Bool) (h l : Int) : Bool := x || (decide (h = 0) && decide (0 ≤ l ∧ l ≤ 4294967295))
theorem spec_AddrOk_e (x : Bool) (h l : Int) : spec_AddrOk.f x h l = some (addrOk x h l) := by
  unfold spec_AddrOk.f addrOk
  cases x
  · by_cases hh : h = 0
    · simp [hh, l1In_e]
    · simp [hh]
  · rfl
theorem impl_AddrOk_e (x : Bool) (h l : Int) : impl_AddrOk.f x h l = some (addrOk x h l) := by
  unfold impl_AddrOk.f addrOk
  cases x
  · by_cases hh : h = 0
    · simp [hh, from_e]
    · simp [hh]
  · rfl

/-- An address, or the zero one of what is none. -/
def rightA (x : Bool) (h l : Int) : Bool × Int × Int := if addrOk x h l = true then (x, h, l) else (false, 0, 0)
def in64 (z : Int) : Prop := -9223372036854775808 ≤ z ∧ z ≤ 9223372036854775807
theorem wf_in {z : Int} (h : (Lit.int .i64 z).wf = true) : in64 z := wf64 h
theorem in64_zero : in64 0 := by unfold in64; omega
theorem wrap_in {z : Int} (h : in64 z) : wrap64 (z % 18446744073709551616) = z := by unfold in64 at h; unfold wrap64; omega
theorem wrap_is (z : Int) : in64 (wrap64 z) := by unfold wrap64 in64; omega
theorem u_inj {a b : Int} (ha : in64 a) (hb : in64 b) (h : a % 18446744073709551616 = b % 18446744073709551616) : a = b := by unfold in64 at ha hb; omega
/-- What is right: of 32 bits its upper half is 0, its lower one below 2^32. -/
structure Right (p : Bool × Int × Int) : Prop where
  four : p.1 = false → p.2.1 = 0 ∧ 0 ≤ p.2.2 ∧ p.2.2 ≤ 4294967295
  hi : in64 p.2.1
  lo : in64 p.2.2
theorem rightA_right (x : Bool) (h l : Int) (hh : in64 h) (hl : in64 l) : Right (rightA x h l) := by
  unfold rightA
  by_cases ha : addrOk x h l = true
  · rw [if_pos ha]
    refine ⟨fun hx => ?_, hh, hl⟩
    simp only at hx
    subst hx
    simpa [addrOk] using ha
  · rw [if_neg ha]
    exact ⟨fun _ => ⟨rfl, by simp⟩, in64_zero, in64_zero⟩
theorem rightA_ok {x : Bool} {h l : Int} (ha : addrOk x h l = true) : rightA x h l = (x, h, l) := if_pos ha
theorem spec_l1Addr_e (x : Bool) (h l : Int) : spec_l1Addr.f x h l = some (rightA x h l) := by
  unfold spec_l1Addr.f rightA
  rw [spec_AddrOk_e]
  simp only [Option.bind_some]
  by_cases ha : addrOk x h l = true
  · rw [if_pos ha, if_pos ha]
  · rw [if_neg ha, if_neg ha]
theorem impl_right_e (x : Bool) (h l : Int) : impl_right.f x h l = some (rightA x h l) := by
  unfold impl_right.f rightA
  rw [impl_AddrOk_e]
  simp only [Option.bind_some]
  by_cases ha : addrOk x h l = true
  · rw [if_pos ha, if_pos ha]
  · rw [if_neg ha, if_neg ha]

/-- The address n farther. -/
def addR (p : Bool × Int × Int) (n : Int) : Bool × Int × Int × Bool :=
  if n < 0 then (false, 0, 0, false) else
  if p.1 = true then
    (if p.2.2 % 18446744073709551616 + n < 18446744073709551616 then (true, p.2.1, wrap64 (p.2.2 % 18446744073709551616 + n), true)
    else if p.2.1 % 18446744073709551616 = 18446744073709551615 then (false, 0, 0, false) else (true, wrap64 (p.2.1 % 18446744073709551616 + 1), wrap64 (p.2.2 % 18446744073709551616 + n), true))
  else if n > 4294967295 - p.2.2 then (false, 0, 0, false) else (false, 0, p.2.2 + n, true)
def addTo (x : Bool) (h l n : Int) : Bool × Int × Int × Bool := addR (rightA x h l) n
theorem wrap_mod (a b : Int) (h : a % 18446744073709551616 = b % 18446744073709551616) : wrap64 a = wrap64 b := by unfold wrap64; omega
theorem spec_l1Less_a (a b : Int) : spec_l1Less.f a b = some (decide (a % 18446744073709551616 < b % 18446744073709551616)) := by
  unfold spec_l1Less.f
  rw [u64w, u64w]
theorem spec_AddTo_e (x : Bool) (h l n : Int) (hh : in64 h) (hl : in64 l) (hn : in64 n) : spec_AddTo.f x h l n = some (addTo x h l n) := by
  unfold spec_AddTo.f addTo
  rw [spec_l1Addr_e]
  have r := rightA_right x h l hh hl
  generalize rightA x h l = p at r ⊢
  obtain ⟨p0, p1, p2⟩ := p
  have hr := r.hi
  have hlo := r.lo
  have hfo := r.four
  simp only [in64] at hr hlo hn hfo
  simp only [Option.bind_some, addR]
  by_cases h0 : n < 0
  · rw [if_pos h0, if_pos h0]
  · rw [if_neg h0, if_neg h0]
    cases p0
    · obtain ⟨_, h4⟩ := hfo rfl
      simp only [Bool.false_eq_true, if_false]
      rw [w64 (x := 4294967295 - p2) (by omega) (by omega)]
      by_cases h1 : n > 4294967295 - p2
      · rw [if_pos h1, if_pos h1]
      · rw [if_neg h1, if_neg h1]
        simp only [u64w]
        obtain ⟨rfl, h5⟩ := hfo rfl
        have e : wrap64 ((p2 % 18446744073709551616 + n % 18446744073709551616) % 18446744073709551616) = p2 + n := by rw [show (p2 % 18446744073709551616 + n % 18446744073709551616) % 18446744073709551616 = p2 + n by omega]; exact w64 (by omega) (by omega)
        rw [e]
    · simp only [if_true, u64w, spec_l1Less_a, Option.bind_some, decide_eq_true_eq]
      have e : wrap64 ((p2 % 18446744073709551616 + n % 18446744073709551616) % 18446744073709551616) % 18446744073709551616 = (p2 % 18446744073709551616 + n) % 18446744073709551616 := by unfold wrap64; omega
      rw [e]
      by_cases h1 : p2 % 18446744073709551616 + n < 18446744073709551616
      · rw [if_neg (by omega), if_pos h1, wrap_mod ((p2 % 18446744073709551616 + n % 18446744073709551616) % 18446744073709551616) (p2 % 18446744073709551616 + n) (by omega)]
      · rw [if_pos (by omega), if_neg h1]
        by_cases h2 : p1 % 18446744073709551616 = 18446744073709551615
        · rw [if_pos h2, if_pos (by unfold wrap64; omega)]
        · rw [if_neg h2, if_neg (by unfold wrap64; omega), wrap_mod ((p2 % 18446744073709551616 + n % 18446744073709551616) % 18446744073709551616) (p2 % 18446744073709551616 + n) (by omega), wrap_mod ((p1 % 18446744073709551616 + 1) % 18446744073709551616) (p1 % 18446744073709551616 + 1) (by omega)]
theorem impl_AddTo_e (x : Bool) (h l n : Int) (hh : in64 h) (hl : in64 l) (hn : in64 n) : impl_AddTo.f x h l n = some (addTo x h l n) := by
  unfold impl_AddTo.f addTo
  rw [impl_right_e]
  have r := rightA_right x h l hh hl
  generalize rightA x h l = p at r ⊢
  obtain ⟨p0, p1, p2⟩ := p
  have hr := r.hi
  have hlo := r.lo
  have hfo := r.four
  simp only [in64] at hr hlo hn hfo
  simp only [Option.bind_some, addR]
  by_cases h0 : n < 0
  · rw [if_pos h0, if_pos h0]
  · rw [if_neg h0, if_neg h0]
    cases p0
    · obtain ⟨_, h4⟩ := hfo rfl
      simp only [Bool.false_eq_true, if_false]
      rw [w64 (x := 4294967295 - p2) (by omega) (by omega)]
      by_cases h1 : n > 4294967295 - p2
      · rw [if_pos h1, if_pos h1]
      · rw [if_neg h1, if_neg h1, w64 (by omega) (by omega)]
    · simp only [if_true, u64w, add64s, add64c]
      have en : n % 18446744073709551616 = n := by omega
      rw [en]
      by_cases h1 : p2 % 18446744073709551616 + n < 18446744073709551616
      · have c0 : (p2 % 18446744073709551616 + n + 0) / 18446744073709551616 = 0 := by omega
        rw [c0, if_pos (by omega), if_pos h1, wrap_mod ((p2 % 18446744073709551616 + n + 0) % 18446744073709551616) (p2 % 18446744073709551616 + n) (by omega)]
        have e : wrap64 ((p1 % 18446744073709551616 + 0 + 0) % 18446744073709551616) = p1 := by
          rw [show (p1 % 18446744073709551616 + 0 + 0) % 18446744073709551616 = p1 % 18446744073709551616 by omega]
          exact wrap_in r.hi
        rw [e]
      · have c1 : (p2 % 18446744073709551616 + n + 0) / 18446744073709551616 = 1 := by omega
        rw [c1, if_neg h1]
        by_cases h2 : p1 % 18446744073709551616 = 18446744073709551615
        · rw [if_pos h2, if_neg (by rw [h2]; decide)]
        · rw [if_neg h2, if_pos (by omega), wrap_mod ((p2 % 18446744073709551616 + n + 0) % 18446744073709551616) (p2 % 18446744073709551616 + n) (by omega), wrap_mod ((p1 % 18446744073709551616 + 0 + 1) % 18446744073709551616) (p1 % 18446744073709551616 + 1) (by omega)]

theorem eqAddr_refl (x : Bool) (h l : Int) : laws_eqAddr.f x h l x h l = some true := by simp [laws_eqAddr.f]

theorem FnExactAddTo (x : Bool) (h l n : Int) (hh : (Lit.int .i64 h).wf = true) (hl : (Lit.int .i64 l).wf = true) (hn : (Lit.int .i64 n).wf = true) : laws_FnExactAddTo.f x h l n = some true := by
  simp [laws_FnExactAddTo.f, laws_toAddr.f, spec_AddTo_e x h l n (wf_in hh) (wf_in hl) (wf_in hn), impl_AddTo_e x h l n (wf_in hh) (wf_in hl) (wf_in hn), eqAddr_refl]

end Go.Proofs.Ytkmochomdeomhaa.Pure
