/-
The pure part of the statement FnExactAddrOk: what the printed functions answer is true at every input.
Conditions: none but the kinds' own bounds, as the printed statement has them.
-/
import Derived.Test.YtfidfiacjocooaaPFnExactAddrOkx0
import Derived.Test.YtfidfiacjocooaaPFnExactAddrOkx1
namespace Go.Proofs.Ytfidfiacjocooaa.Pure
open Go.RowKit Go.Proofs.Ytfidfiacjocooaa.PFnExactAddrOk Go.Proofs.YtfidfiacjocooaaW.PrintWords Go.Proofs.YtfidfiacjocooaaW.PrintLast Go.Proofs.YtfidfiacjocooaaW.PrintMore
set_option linter.unusedVariables false
set_option linter.unusedSimpArgs false

theorem wf64 {x : Int} (h : (Lit.int .i64 x).wf = true) : -9223372036854775808 ≤ x ∧ x ≤ 9223372036854775807 := by
  simpa [Lit.wf, IntKind.min, IntKind.max, IntKind.signed, IntKind.bits] using h
theorem wf8 {x : Int} (h : (Lit.int .u8 x).wf = true) : 0 ≤ x ∧ x ≤ 255 := by
  simpa [Lit.wf, IntKind.min, IntKind.max, IntKind.signed, IntKind.bits] using h
theorem w64 {x : Int} (h0 : -9223372036854775808 ≤ x) (h1 : x ≤ 9223372036854775807) : wrap64 x = x := by unfold wrap64; omega
theorem u64w (n : Int) : IntKind.u64.wrap n = n % 18446744073709551616 := by simp [IntKind.wrap, IntKind.bits, IntKind.signed]
theorem u64in {x : Int} (h0 : 0 ≤ x) (h1 : x < 18446744073709551616) : IntKind.u64.wrap x = x := by rw [u64w]; omega
theorem rd_get (xs : List Int) (i : Int) (j : Nat) (x : Int) (hi : i = j) (h : xs[j]? = some x) : rd xs i = x := by
  subst hi
  simp [rd, List.getD, h]
theorem Ev.mid {α : Type} {g : Nat → Option α} {a b : α} (h : a = b) (e : Ev g a) : Ev g b := h ▸ e
theorem Ev.const {α : Type} {g : Nat → Option α} {a : α} (h : ∀ k, g k = some a) : Ev g a := ⟨0, fun k _ => h k⟩
theorem Ev.ite_pos {α : Type} {c : Prop} [Decidable c] {g f : Nat → Option α} {r : α} (hc : c) (h : Ev g r) : Ev (fun k => if c then g k else f k) r := by
  simp only [if_pos hc]
  exact h
theorem Ev.ite_neg {α : Type} {c : Prop} [Decidable c] {g f : Nat → Option α} {r : α} (hc : ¬ c) (h : Ev f r) : Ev (fun k => if c then g k else f k) r := by
  simp only [if_neg hc]
  exact h
/-- A part that has no rounds. -/
theorem Ev.val {α β : Type} {o : Option α} {f : Nat → α → Option β} {a : α} {r : β} (h : o = some a) (k : Ev (fun n => f n a) r) : Ev (fun n => o.bind (f n)) r := by
  subst h
  exact k

theorem l1In_e (a b c : Int) : spec_l1In.f a b c = some (decide (b ≤ a ∧ a ≤ c)) := by
  unfold spec_l1In.f
  by_cases h : a ≥ b
  · simp [if_pos h, h]
  · simp [if_neg h]; omega
theorem from_e (a b c : Int) : impl_from.f a b c = some (decide (b ≤ a ∧ a ≤ c)) := by
  unfold impl_from.f
  by_cases h : a ≥ b
  · simp [if_pos h, h]
  · simp [if_neg h]; omega
/-- An address is right. -/
def addrOk (x : Bool) (h l : Int) : Bool := x || (decide (h = 0) && decide (0 ≤ l ∧ l ≤ 4294967295))
theorem spec_AddrOk_e (x : Bool) (h l : Int) : spec_AddrOk.f x h l = some (addrOk x h l) := by
  unfold spec_AddrOk.f addrOk
  cases x
  · by_cases hh : h = 0
    · simp [hh, l1In_e]
    · simp [hh]
  · rfl
theorem impl_AddrOk_e (x : Bool) (h l : Int) : impl_AddrOk.f x h l = some (addrOk x h l) := by
  unfold impl_AddrOk.f addrOk
  cases x
  · by_cases hh : h = 0
    · simp [hh, from_e]
    · simp [hh]
  · rfl

theorem FnExactAddrOk (x : Bool) (h l : Int) (_ : (Lit.int .i64 h).wf = true) (_ : (Lit.int .i64 l).wf = true) : laws_FnExactAddrOk.f x h l = some true := by
  simp [laws_FnExactAddrOk.f, laws_toAddr.f, spec_AddrOk_e, impl_AddrOk_e]

end Go.Proofs.Ytfidfiacjocooaa.Pure
