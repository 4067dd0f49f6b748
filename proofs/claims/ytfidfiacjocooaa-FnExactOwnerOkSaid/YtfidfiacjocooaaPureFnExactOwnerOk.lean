/-
The pure part of the statement FnExactOwnerOk: what the printed functions answer is true at every input.
Conditions: none but the kinds' own bounds, as the printed statement has them.
-/
import Derived.Test.YtfidfiacjocooaaPFnExactOwnerOkx0
import Derived.Test.YtfidfiacjocooaaPFnExactOwnerOkx1
namespace Go.Proofs.Ytfidfiacjocooaa.Pure
open Go.RowKit Go.Proofs.Ytfidfiacjocooaa.PFnExactOwnerOk Go.Proofs.YtfidfiacjocooaaW.PrintWords Go.Proofs.YtfidfiacjocooaaW.PrintLast Go.Proofs.YtfidfiacjocooaaW.PrintMore
set_option linter.unusedVariables false
set_option linter.unusedSimpArgs false

theorem wf64 {x : Int} (h : (Lit.int .i64 x).wf = true) : -9223372036854775808 ≤ x ∧ x ≤ 9223372036854775807 := by
  simpa [Lit.wf, IntKind.min, IntKind.max, IntKind.signed, IntKind.bits] using h
theorem wf8 {x : Int} (h : (Lit.int .u8 x).wf = true) : 0 ≤ x ∧ x ≤ 255 := by
  simpa [Lit.wf, IntKind.min, IntKind.max, IntKind.signed, IntKind.bits] using h
theorem w64 {x : Int} (h0 : -9223372036854775808 ≤ x) (h1 : x ≤ 9223372036854775807) : wrap64 x = x := by unfold wrap64; omega
theorem u64w (n : Int) : IntKind.u64.wrap n = n % 18446744073709551616 := by simp [IntKind.wrap, IntKind.bits, IntKind.signed]
theorem u64in {x : Int} (h0 : 0 ≤ x) (h1 : x < 18446744073709551616) : IntKind.u64.wrap x = x := by rw [u64w]; omega
theorem rd_get (xs : List Int) (i : Int) (j : Nat) (x : Int) (hi : i = j) (h : xs[j]? = some x) : rd xs i = x := by
  subst hi
  simp [rd, List.getD, h]
theorem Ev.mid {α : Type} {g : Nat → Option α} {a b : α} (h : a = b) (e : Ev g a) : Ev g b := h ▸ e
theorem Ev.const {α : Type} {g : Nat → Option α} {a : α} (h : ∀ k, g k = some a) : Ev g a := ⟨0, fun k _ => h k⟩
theorem Ev.ite_pos {α : Type} {c : Prop} [Decidable c] {g f : Nat → Option α} {r : α} (hc : c) (h : Ev g r) : Ev (fun k => if c then g k else f k) r := by
  simp only [if_pos hc]
  exact h
theorem Ev.ite_neg {α : Type} {c : Prop} [Decidable c] {g f : Nat → Option α} {r : α} (hc : ¬ c) (h : Ev f r) : Ev (fun k => if c then g k else f k) r := by
  simp only [if_neg hc]
  exact h
/-- A part that has no rounds. -/
theorem Ev.val {α β : Type} {o : Option α} {f : Nat → α → Option β} {a : α} {r : β} (h : o = some a) (k : Ev (fun n => f n a) r) : Ev (fun n => o.bind (f n)) r := by
  subst h
  exact k

def ownC (c : Int) : Bool := decide ((97 ≤ c ∧ c ≤ 122) ∨ (48 ≤ c ∧ c ≤ 57) ∨ c = 45)
def ownL (s : ByteArray) : Nat → Nat → Bool
  | 0, _ => decide (1 ≤ s.size ∧ s.size ≤ 12)
  | d + 1, i => ownC (bt s (i : Int)) && ownL s d (i + 1)
def ownerOk (s : ByteArray) : Bool := ownL s s.size 0
theorem bt_bd (s : ByteArray) (i : Int) : 0 ≤ bt s i ∧ bt s i ≤ 255 := by
  unfold bt
  split
  · have := (s[i.toNat]'(by assumption)).toNat_lt
    omega
  · omega
theorem ownIn (a b c : Int) : spec_l1In.f a b c = some (decide (b ≤ a ∧ a ≤ c)) := by
  unfold spec_l1In.f
  by_cases h : a ≥ b
  · simp [if_pos h, h]
  · simp [if_neg h]; omega
theorem ownFrom (a b c : Int) : impl_from.f a b c = some (decide (b ≤ a ∧ a ≤ c)) := by
  unfold impl_from.f
  by_cases h : a ≥ b
  · simp [if_pos h, h]
  · simp [if_neg h]; omega
theorem spec_OwnerOk_l0 (s : ByteArray) (hs : s.size ≤ 1048576) (d : Nat) : ∀ i : Nat, i + d = s.size → Ev (fun k => spec_OwnerOk.l0 k s (i : Int)) (ownL s d i) := by
  induction d with
  | zero =>
    intro i h
    refine Ev.step (f := fun _ => some _) (fun k => ?_) (Ev.now _)
    rw [spec_OwnerOk.l0, if_neg (by omega), ownIn]
    simp only [Option.bind_some, ownL]
    congr 2
    exact propext ⟨fun h => by omega, fun h => by omega⟩
  | succ d ih =>
    intro i h
    have hb := bt_bd s (i : Int)
    have hn := ih (i + 1) (by omega)
    by_cases hc : ownC (bt s (i : Int)) = true
    · rw [ownL, hc, Bool.true_and]
      refine Ev.step (fun k => ?_) hn
      rw [spec_OwnerOk.l0, if_pos (by omega), if_pos (by omega), ownIn, w64 (by omega) (by omega), w64 (by omega) (by omega), ownIn]
      simp only [Option.bind_some, decide_eq_true_eq]
      simp only [ownC, decide_eq_true_eq] at hc
      by_cases h1 : 97 ≤ bt s (i : Int) ∧ bt s (i : Int) ≤ 122
      · rw [if_pos h1]; rfl
      · by_cases h2 : 48 ≤ bt s (i : Int) ∧ bt s (i : Int) ≤ 57
        · rw [if_neg h1, if_pos h2]; rfl
        · rw [if_neg h1, if_neg h2, if_pos (by omega)]; rfl
    · rw [ownL, Bool.eq_false_iff.mpr hc, Bool.false_and]
      refine Ev.step (f := fun _ => some false) (fun k => ?_) (Ev.now _)
      rw [spec_OwnerOk.l0, if_pos (by omega), if_pos (by omega), ownIn, w64 (by omega) (by omega), ownIn]
      simp only [Option.bind_some, decide_eq_true_eq]
      simp only [ownC, decide_eq_true_eq] at hc
      rw [if_neg (by omega), if_neg (by omega), if_neg (by omega)]
theorem impl_OwnerOk_l0 (s : ByteArray) (hs : s.size ≤ 1048576) (d : Nat) : ∀ i : Nat, i + d = s.size → Ev (fun k => impl_OwnerOk.l0 k s (s.size : Int) (i : Int)) (ownL s d i) := by
  induction d with
  | zero =>
    intro i h
    refine Ev.step (f := fun _ => some _) (fun k => ?_) (Ev.now _)
    rw [impl_OwnerOk.l0, if_neg (by omega), ownFrom]
    simp only [Option.bind_some, ownL]
    congr 2
    exact propext ⟨fun h => by omega, fun h => by omega⟩
  | succ d ih =>
    intro i h
    have hb := bt_bd s (i : Int)
    have hn := ih (i + 1) (by omega)
    by_cases hc : ownC (bt s (i : Int)) = true
    · rw [ownL, hc, Bool.true_and]
      refine Ev.step (fun k => ?_) hn
      simp only [ownC, decide_eq_true_eq] at hc
      rw [impl_OwnerOk.l0, if_pos (by omega), if_pos (by omega), if_pos (by omega), w64 (by omega) (by omega)]
      by_cases h1 : bt s (i : Int) < 97
      · by_cases h2 : bt s (i : Int) < 48
        · rw [if_pos h1, if_pos h2, if_pos (by omega)]; rfl
        · rw [if_pos h1, if_neg h2, if_neg (by omega)]; rfl
      · rw [if_neg h1, if_neg (by omega)]; rfl
    · rw [ownL, Bool.eq_false_iff.mpr hc, Bool.false_and]
      refine Ev.step (f := fun _ => some false) (fun k => ?_) (Ev.now _)
      simp only [ownC, decide_eq_true_eq] at hc
      rw [impl_OwnerOk.l0, if_pos (by omega), if_pos (by omega), if_pos (by omega), w64 (by omega) (by omega)]
      by_cases h1 : bt s (i : Int) < 97
      · by_cases h2 : bt s (i : Int) < 48
        · rw [if_pos h1, if_pos h2, if_neg (by omega)]
        · rw [if_pos h1, if_neg h2, if_pos (by omega), if_neg (by omega)]
      · rw [if_neg h1, if_pos (by omega), if_neg (by omega), if_pos (by omega), if_neg (by omega)]
theorem spec_OwnerOk_ev (s : ByteArray) (hs : s.size ≤ 1048576) : Ev (fun k => spec_OwnerOk.f k s) (ownerOk s) := spec_OwnerOk_l0 s hs s.size 0 (by omega)
theorem impl_OwnerOk_ev (s : ByteArray) (hs : s.size ≤ 1048576) : Ev (fun k => impl_OwnerOk.f k s) (ownerOk s) := impl_OwnerOk_l0 s hs s.size 0 (by omega)

theorem FnExactOwnerOk : laws_FnExactOwnerOk.Pure := by
  intro s hs
  refine Ev.rounds ?_
  by_cases hb : (s.size : Int) > 1048576
  · exact Ev.ite_pos hb (Ev.now true)
  refine Ev.ite_neg hb ?_
  refine Ev.bind (spec_OwnerOk_ev s (by omega)) ?_
  refine Ev.bind (impl_OwnerOk_ev s (by omega)) ?_
  exact Ev.ite_neg (by simp) (Ev.now true)

end Go.Proofs.Ytfidfiacjocooaa.Pure
