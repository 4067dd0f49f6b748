/-
The pure part of the statement FnExactPlaceOf: what the printed functions answer is true at every input.
Conditions: none but the kinds' own bounds, as the printed statement has them.
-/
import Derived.Test.YtigmadccchofiaaQFnExactPlaceOfx0
import Derived.Test.YtigmadccchofiaaQFnExactPlaceOfx1
import Derived.Test.YtigmadccchofiaaQFnExactPlaceOfx2
import Derived.Test.YtigmadccchofiaaQFnExactPlaceOfx3
import Derived.Test.YtigmadccchofiaaQFnExactPlaceOfx4
import Derived.Test.YtigmadccchofiaaQFnExactPlaceOfx5
import Derived.Test.YtigmadccchofiaaQFnExactPlaceOfx6
import Derived.Test.YtigmadccchofiaaQFnExactPlaceOfx7
import Derived.Test.YtigmadccchofiaaQFnExactPlaceOfx8
import Derived.Test.YtigmadccchofiaaQFnExactPlaceOfx9
import Derived.Test.YtigmadccchofiaaQFnExactPlaceOfx10
import Derived.Test.YtigmadccchofiaaQFnExactPlaceOfx11
namespace Go.Proofs.Ytigmadccchofiaa.Pure
open Go.RowKit Go.Proofs.Ytigmadccchofiaa.QFnExactPlaceOf Go.Proofs.YtigmadccchofiaaW.PrintWords Go.Proofs.YtigmadccchofiaaW.PrintLast Go.Proofs.YtigmadccchofiaaW.PrintMore
set_option linter.unusedVariables false
set_option linter.unusedSimpArgs false

theorem wf64 {x : Int} (h : (Lit.int .i64 x).wf = true) : -9223372036854775808 ≤ x ∧ x ≤ 9223372036854775807 := by
  simpa [Lit.wf, IntKind.min, IntKind.max, IntKind.signed, IntKind.bits] using h
theorem wf8 {x : Int} (h : (Lit.int .u8 x).wf = true) : 0 ≤ x ∧ x ≤ 255 := by
  simpa [Lit.wf, IntKind.min, IntKind.max, IntKind.signed, IntKind.bits] using h
theorem w64 {x : Int} (h0 : -9223372036854775808 ≤ x) (h1 : x ≤ 9223372036854775807) : wrap64 x = x := by unfold wrap64; omega
theorem u64w (n : Int) : IntKind.u64.wrap n = n % 18446744073709551616 := by simp [IntKind.wrap, IntKind.bits, IntKind.signed]
theorem u64in {x : Int} (h0 : 0 ≤ x) (h1 : x < 18446744073709551616) : IntKind.u64.wrap x = x := by rw [u64w]; omega
theorem rd_get (xs : List Int) (i : Int) (j : Nat) (x : Int) (hi : i = j) (h : xs[j]? = some x) : rd xs i = x := by
  subst hi
  simp [rd, List.getD, h]
theorem Ev.mid {α : Type} {g : Nat → Option α} {a b : α} (h : a = b) (e : Ev g a) : Ev g b := h ▸ e
theorem Ev.const {α : Type} {g : Nat → Option α} {a : α} (h : ∀ k, g k = some a) : Ev g a := ⟨0, fun k _ => h k⟩
theorem Ev.ite_pos {α : Type} {c : Prop} [Decidable c] {g f : Nat → Option α} {r : α} (hc : c) (h : Ev g r) : Ev (fun k => if c then g k else f k) r := by
  simp only [if_pos hc]
  exact h
theorem Ev.ite_neg {α : Type} {c : Prop} [Decidable c] {g f : Nat → Option α} {r : α} (hc : ¬ c) (h : Ev f r) : Ev (fun k => if c then g k else f k) r := by
  simp only [if_neg hc]
  exact h
/-- A part that has no rounds. -/
theorem Ev.val {α β : Type} {o : Option α} {f : Nat → α → Option β} {a : α} {r : β} (h : o = some a) (k : Ev (fun n => f n a) r) : Ev (fun n => o.bind (f n)) r := by
  subst h
  exact k

theorem l1In_e (a b c : Int) : spec_l1In.f a b c = some (decide (b ≤ a ∧ a ≤ c)) := by
  unfold spec_l1In.f
  by_cases h : a ≥ b
  · simp [if_pos h, h]
  · simp [if_neg h]; omega
theorem from_e (a b c : Int) : impl_from.f a b c = some (decide (b ≤ a ∧ a ≤ c)) := by
  unfold impl_from.f
  by_cases h : a ≥ b
  · simp [if_pos h, h]
  · simp [if_neg h]; omega
/-- An address is right. -/
def addrOk (x : Bool) (h l : Int) : Bool := x || (decide (h = 0) && decide (0 ≤ l ∧ l ≤ 4294967295))
theorem spec_AddrOk_e (x : Bool) (h l : Int) : spec_AddrOk.f x h l = some (addrOk x h l) := by
  unfold spec_AddrOk.f addrOk
  cases x
  · by_cases hh : h = 0
    · simp [hh, l1In_e]
    · simp [hh]
  · rfl
theorem impl_AddrOk_e (x : Bool) (h l : Int) : impl_AddrOk.f x h l = some (addrOk x h l) := by
  unfold impl_AddrOk.f addrOk
  cases x
  · by_cases hh : h = 0
    · simp [hh, from_e]
    · simp [hh]
  · rfl

/-- An address, or the zero one of what is none. -/
def rightA (x : Bool) (h l : Int) : Bool × Int × Int := if addrOk x h l = true then (x, h, l) else (false, 0, 0)
def in64 (z : Int) : Prop := -9223372036854775808 ≤ z ∧ z ≤ 9223372036854775807
theorem wf_in {z : Int} (h : (Lit.int .i64 z).wf = true) : in64 z := wf64 h
theorem in64_zero : in64 0 := by unfold in64; omega
theorem wrap_in {z : Int} (h : in64 z) : wrap64 (z % 18446744073709551616) = z := by unfold in64 at h; unfold wrap64; omega
theorem wrap_is (z : Int) : in64 (wrap64 z) := by unfold wrap64 in64; omega
theorem u_inj {a b : Int} (ha : in64 a) (hb : in64 b) (h : a % 18446744073709551616 = b % 18446744073709551616) : a = b := by unfold in64 at ha hb; omega
/-- What is right: of 32 bits its upper half is 0, its lower one below 2^32. -/
structure Right (p : Bool × Int × Int) : Prop where
  four : p.1 = false → p.2.1 = 0 ∧ 0 ≤ p.2.2 ∧ p.2.2 ≤ 4294967295
  hi : in64 p.2.1
  lo : in64 p.2.2
theorem rightA_right (x : Bool) (h l : Int) (hh : in64 h) (hl : in64 l) : Right (rightA x h l) := by
  unfold rightA
  by_cases ha : addrOk x h l = true
  · rw [if_pos ha]
    refine ⟨fun hx => ?_, hh, hl⟩
    simp only at hx
    subst hx
    simpa [addrOk] using ha
  · rw [if_neg ha]
    exact ⟨fun _ => ⟨rfl, by simp⟩, in64_zero, in64_zero⟩
theorem rightA_ok {x : Bool} {h l : Int} (ha : addrOk x h l = true) : rightA x h l = (x, h, l) := if_pos ha
theorem spec_l1Addr_e (x : Bool) (h l : Int) : spec_l1Addr.f x h l = some (rightA x h l) := by
  unfold spec_l1Addr.f rightA
  rw [spec_AddrOk_e]
  simp only [Option.bind_some]
  by_cases ha : addrOk x h l = true
  · rw [if_pos ha, if_pos ha]
  · rw [if_neg ha, if_neg ha]
theorem impl_right_e (x : Bool) (h l : Int) : impl_right.f x h l = some (rightA x h l) := by
  unfold impl_right.f rightA
  rw [impl_AddrOk_e]
  simp only [Option.bind_some]
  by_cases ha : addrOk x h l = true
  · rw [if_pos ha, if_pos ha]
  · rw [if_neg ha, if_neg ha]

def cmpI (a b : Int) : Int := if a < b then -1 else if b < a then 1 else 0
/-- Two addresses that are right, compared. -/
def cmpR (p q : Bool × Int × Int) : Int :=
  if p.1 = false ∧ q.1 = true then -1 else if p.1 = true ∧ q.1 = false then 1 else
  if p.2.1 % 18446744073709551616 < q.2.1 % 18446744073709551616 then -1 else if q.2.1 % 18446744073709551616 < p.2.1 % 18446744073709551616 then 1 else
  cmpI (p.2.2 % 18446744073709551616) (q.2.2 % 18446744073709551616)
def cmpA (x : Bool) (h l : Int) (y : Bool) (g m : Int) : Int := cmpR (rightA x h l) (rightA y g m)
theorem spec_l1Less_e (a b : Int) : spec_l1Less.f a b = some (decide (a % 18446744073709551616 < b % 18446744073709551616)) := by
  unfold spec_l1Less.f
  rw [u64w, u64w]
theorem spec_CmpAddr_e (x : Bool) (h l : Int) (y : Bool) (g m : Int) (hh : in64 h) (hl : in64 l) (hg : in64 g) (hm : in64 m) : spec_CmpAddr.f x h l y g m = some (cmpA x h l y g m) := by
  unfold spec_CmpAddr.f cmpA
  rw [spec_l1Addr_e, spec_l1Addr_e]
  have r1 := rightA_right x h l hh hl
  have r2 := rightA_right y g m hg hm
  generalize rightA x h l = p at r1 ⊢
  generalize rightA y g m = q at r2 ⊢
  obtain ⟨p0, p1, p2⟩ := p
  obtain ⟨q0, q1, q2⟩ := q
  simp only [Option.bind_some, spec_l1Less_e, decide_eq_true_eq, cmpR, cmpI]
  have key : (if p1 = q1 then (if p2 = q2 then some (0 : Int) else (if p1 % 18446744073709551616 < q1 % 18446744073709551616 then some (-1) else if p2 % 18446744073709551616 < q2 % 18446744073709551616 then some (-1) else some 1)) else (if p1 % 18446744073709551616 < q1 % 18446744073709551616 then some (-1) else some 1)) =
      some (if p1 % 18446744073709551616 < q1 % 18446744073709551616 then -1 else if q1 % 18446744073709551616 < p1 % 18446744073709551616 then 1 else if p2 % 18446744073709551616 < q2 % 18446744073709551616 then -1 else if q2 % 18446744073709551616 < p2 % 18446744073709551616 then 1 else 0) := by
    by_cases h1 : p1 = q1
    · subst h1
      rw [if_pos rfl]
      have hi : ¬ p1 % 18446744073709551616 < p1 % 18446744073709551616 := by omega
      simp only [if_neg hi]
      by_cases h2 : p2 = q2
      · subst h2
        have hi2 : ¬ p2 % 18446744073709551616 < p2 % 18446744073709551616 := by omega
        simp only [if_neg hi2, if_true]
      · have hne : p2 % 18446744073709551616 ≠ q2 % 18446744073709551616 := fun h => h2 (u_inj r1.lo r2.lo h)
        rw [if_neg h2]
        by_cases h3 : p2 % 18446744073709551616 < q2 % 18446744073709551616
        · rw [if_pos h3, if_pos h3]
        · rw [if_neg h3, if_neg h3, if_pos (by omega)]
    · have hne : p1 % 18446744073709551616 ≠ q1 % 18446744073709551616 := fun h => h1 (u_inj r1.hi r2.hi h)
      rw [if_neg h1]
      by_cases h3 : p1 % 18446744073709551616 < q1 % 18446744073709551616
      · rw [if_pos h3, if_pos h3]
      · rw [if_neg h3, if_neg h3, if_pos (by omega)]
  cases p0 <;> cases q0 <;> simp [key]
theorem compare_e (a b : Int) : cmp_Compare_uint64.f a b = some (cmpI a b) := by
  unfold cmp_Compare_uint64.f cmp_isNaN_uint64.f cmpI
  simp
  split
  · rfl
  · split <;> rfl
theorem cmpI_zero {a b : Int} (h : cmpI a b = 0) : a = b := by
  unfold cmpI at h
  split at h
  · cases h
  · split at h
    · cases h
    · omega
theorem impl_CmpAddr_j1 (p0 : Bool) (p1 p2 : Int) (q0 : Bool) (q1 q2 : Int) (e : p0 = q0) : Ev (fun k => impl_CmpAddr.j1 k p0 p1 p2 q0 q1 q2) (cmpR (p0, p1, p2) (q0, q1, q2)) := by
  subst e
  refine Ev.step (f := fun _ => some _) (fun k => ?_) (Ev.now _)
  rw [impl_CmpAddr.j1, compare_e, compare_e]
  simp only [Option.bind_some, u64w, cmpR]
  rw [if_neg (show ¬ (p0 = false ∧ p0 = true) by rintro ⟨rfl, h⟩; cases h), if_neg (show ¬ (p0 = true ∧ p0 = false) by rintro ⟨rfl, h⟩; cases h)]
  by_cases h1 : p1 % 18446744073709551616 < q1 % 18446744073709551616
  · rw [if_pos h1]
    simp [cmpI, h1]
  · rw [if_neg h1]
    by_cases h2 : q1 % 18446744073709551616 < p1 % 18446744073709551616
    · rw [if_pos h2]
      simp [cmpI, h1, h2]
    · rw [if_neg h2]
      simp [cmpI, h1, h2]
theorem impl_CmpAddr_ev (x : Bool) (h l : Int) (y : Bool) (g m : Int) : Ev (fun k => impl_CmpAddr.f k x h l y g m) (cmpA x h l y g m) := by
  unfold cmpA
  refine Ev.val (impl_right_e x h l) ?_
  refine Ev.val (impl_right_e y g m) ?_
  generalize rightA x h l = p
  generalize rightA y g m = q
  obtain ⟨p0, p1, p2⟩ := p
  obtain ⟨q0, q1, q2⟩ := q
  cases p0
  · refine Ev.ite_neg (by simp) ?_
    cases q0
    · exact Ev.step (fun k => by rw [impl_CmpAddr.j0, if_neg (by simp), if_neg (by simp)]) (impl_CmpAddr_j1 false p1 p2 false q1 q2 rfl)
    · refine Ev.step (f := fun _ => some (-1)) (fun k => by rw [impl_CmpAddr.j0, if_pos rfl]) (Ev.mid ?_ (Ev.now _))
      simp [cmpR]
  · refine Ev.ite_pos rfl ?_
    cases q0
    · refine Ev.step (f := fun _ => some 1) (fun k => by rw [impl_CmpAddr.j0, if_neg (by simp), if_pos rfl, if_neg (by simp)]) (Ev.mid ?_ (Ev.now _))
      simp [cmpR]
    · exact Ev.step (fun k => by rw [impl_CmpAddr.j0, if_neg (by simp), if_pos rfl, if_pos rfl]) (impl_CmpAddr_j1 true p1 p2 true q1 q2 rfl)

def valR (p : Bool × Int × Int) : Int := (p.2.1 % 18446744073709551616) * 18446744073709551616 + p.2.2 % 18446744073709551616
/-- How far q is behind p. -/
def gapR (p q : Bool × Int × Int) : Int × Bool := if p.1 = q.1 ∧ valR p ≤ valR q ∧ valR q - valR p ≤ 9223372036854775807 then (valR q - valR p, true) else (0, false)
def gapTo (x : Bool) (h l : Int) (y : Bool) (g m : Int) : Int × Bool := gapR (rightA x h l) (rightA y g m)
theorem cmpR_neg (p q : Bool × Int × Int) (e : p.1 = q.1) : cmpR q p < 0 ↔ valR q < valR p := by
  obtain ⟨p0, p1, p2⟩ := p
  obtain ⟨q0, q1, q2⟩ := q
  simp only at e
  subst e
  simp only [cmpR, valR, cmpI]
  rw [if_neg (show ¬ (p0 = false ∧ p0 = true) by rintro ⟨rfl, h⟩; cases h), if_neg (show ¬ (p0 = true ∧ p0 = false) by rintro ⟨rfl, h⟩; cases h)]
  repeat' split
  all_goals omega
theorem spec_GapTo_j0 (p0 : Bool) (p1 p2 : Int) (q1 q2 : Int) (z : Bool) (hz : z = decide (valR (p0, q1, q2) < valR (p0, p1, p2))) : Ev (fun k => spec_GapTo.j0 k z p0 p1 p2 p0 q1 q2) (gapR (p0, p1, p2) (p0, q1, q2)) := by
  have hf : z = false ∧ ¬ valR (p0, q1, q2) < valR (p0, p1, p2) ∨ z = true ∧ valR (p0, q1, q2) < valR (p0, p1, p2) := by
    by_cases h : valR (p0, q1, q2) < valR (p0, p1, p2)
    · exact Or.inr ⟨hz.trans (decide_eq_true h), h⟩
    · exact Or.inl ⟨hz.trans (decide_eq_false h), h⟩
  clear hz
  refine Ev.step (f := fun _ => some _) (fun k => ?_) (Ev.now _)
  rw [spec_GapTo.j0, spec_l1Less_e]
  simp only [Option.bind_some, u64w, decide_eq_true_eq, gapR, valR, true_and] at hf ⊢
  rcases hf with ⟨rfl, h⟩ | ⟨rfl, h⟩
  rotate_left
  · rw [if_pos rfl, if_neg (by omega)]
  · rw [if_neg (by decide)]
    by_cases h1 : q2 % 18446744073709551616 < p2 % 18446744073709551616
    · rw [if_pos h1]
      by_cases h2 : ((q1 % 18446744073709551616 - p1 % 18446744073709551616) % 18446744073709551616 - 1) % 18446744073709551616 = 0
      · rw [if_pos h2]
        by_cases h3 : (q2 % 18446744073709551616 - p2 % 18446744073709551616) % 18446744073709551616 > 9223372036854775807
        · rw [if_pos h3, if_neg (by omega)]
        · rw [if_neg h3, if_pos (by omega), w64 (by omega) (by omega)]
          congr 2
          omega
      · rw [if_neg h2, if_neg (by omega)]
    · rw [if_neg h1]
      by_cases h2 : (q1 % 18446744073709551616 - p1 % 18446744073709551616) % 18446744073709551616 = 0
      · rw [if_pos h2]
        by_cases h3 : (q2 % 18446744073709551616 - p2 % 18446744073709551616) % 18446744073709551616 > 9223372036854775807
        · rw [if_pos h3, if_neg (by omega)]
        · rw [if_neg h3, if_pos (by omega), w64 (by omega) (by omega)]
          congr 2
          omega
      · rw [if_neg h2, if_neg (by omega)]
theorem spec_GapTo_ev (x : Bool) (h l : Int) (y : Bool) (g m : Int) (hh : in64 h) (hl : in64 l) (hg : in64 g) (hm : in64 m) : Ev (fun k => spec_GapTo.f k x h l y g m) (gapTo x h l y g m) := by
  unfold gapTo
  refine Ev.val (spec_l1Addr_e x h l) (Ev.val (spec_l1Addr_e y g m) ?_)
  have r1 := rightA_right x h l hh hl
  have r2 := rightA_right y g m hg hm
  have hc : cmpA (rightA y g m).1 (rightA y g m).2.1 (rightA y g m).2.2 (rightA x h l).1 (rightA x h l).2.1 (rightA x h l).2.2 = cmpR (rightA y g m) (rightA x h l) := by
    unfold cmpA
    have idem : ∀ p : Bool × Int × Int, Right p → rightA p.1 p.2.1 p.2.2 = p := by
      intro p hp
      refine rightA_ok ?_
      obtain ⟨p0, p1, p2⟩ := p
      cases p0
      · have := hp.four rfl
        simp [addrOk]; simp at this; omega
      · rfl
    rw [idem _ r1, idem _ r2]
  generalize rightA x h l = p at r1 hc ⊢
  generalize rightA y g m = q at r2 hc ⊢
  obtain ⟨p0, p1, p2⟩ := p
  obtain ⟨q0, q1, q2⟩ := q
  by_cases e : p0 = q0
  · subst e
    refine Ev.ite_neg (by simp) (Ev.val (spec_CmpAddr_e p0 q1 q2 p0 p1 p2 r2.hi r2.lo r1.hi r1.lo) ?_)
    refine spec_GapTo_j0 p0 p1 p2 q1 q2 _ ?_
    rw [hc]
    congr 1
    exact propext (cmpR_neg (p0, p1, p2) (p0, q1, q2) rfl)
  · refine Ev.ite_pos (by simp [e]) (Ev.step (f := fun _ => some (0, false)) (fun k => by rw [spec_GapTo.j0, if_pos rfl]) (Ev.mid ?_ (Ev.now _)))
    simp [gapR, e]
theorem impl_GapTo_j0 (p0 : Bool) (p1 p2 : Int) (q1 q2 : Int) (z : Bool) (hz : z = decide (valR (p0, q1, q2) < valR (p0, p1, p2))) : Ev (fun k => impl_GapTo.j0 k z p0 p1 p2 p0 q1 q2) (gapR (p0, p1, p2) (p0, q1, q2)) := by
  have hf : z = false ∧ ¬ valR (p0, q1, q2) < valR (p0, p1, p2) ∨ z = true ∧ valR (p0, q1, q2) < valR (p0, p1, p2) := by
    by_cases h : valR (p0, q1, q2) < valR (p0, p1, p2)
    · exact Or.inr ⟨hz.trans (decide_eq_true h), h⟩
    · exact Or.inl ⟨hz.trans (decide_eq_false h), h⟩
  clear hz
  refine Ev.step (f := fun _ => some _) (fun k => ?_) (Ev.now _)
  rw [impl_GapTo.j0]
  simp only [u64w, decide_eq_true_eq, gapR, valR, true_and] at hf ⊢
  have hs : ∀ (a c b : Int), 0 ≤ a → a < 18446744073709551616 → 0 ≤ c → c < 18446744073709551616 → 0 ≤ b → b ≤ 1 → sub64s a c b = (a - c - b) % 18446744073709551616 := by
    intro a c b h1 h2 h3 h4 h5 h6
    unfold sub64s
    omega
  have hc : sub64c (q2 % 18446744073709551616) (p2 % 18446744073709551616) 0 = if q2 % 18446744073709551616 < p2 % 18446744073709551616 then 1 else 0 := by
    unfold sub64c
    split <;> split <;> omega
  rw [hs (q2 % 18446744073709551616) (p2 % 18446744073709551616) 0 (by omega) (by omega) (by omega) (by omega) (by omega) (by omega), hc]
  rcases hf with ⟨rfl, h⟩ | ⟨rfl, h⟩
  rotate_left
  · rw [if_pos rfl, if_neg (by omega)]
  · rw [if_neg (by decide)]
    have wr : ∀ a : Int, 0 ≤ a → a < 18446744073709551616 → (wrap64 a < 0 ↔ a > 9223372036854775807) := by
      intro a h1 h2
      unfold wrap64
      omega
    have hw := wr ((q2 % 18446744073709551616 - p2 % 18446744073709551616 - 0) % 18446744073709551616) (by omega) (by omega)
    by_cases h1 : q2 % 18446744073709551616 < p2 % 18446744073709551616
    · rw [if_pos h1, hs (q1 % 18446744073709551616) (p1 % 18446744073709551616) 1 (by omega) (by omega) (by omega) (by omega) (by omega) (by omega)]
      by_cases h2 : (q1 % 18446744073709551616 - p1 % 18446744073709551616 - 1) % 18446744073709551616 = 0
      · rw [if_pos h2]
        by_cases h3 : (q2 % 18446744073709551616 - p2 % 18446744073709551616 - 0) % 18446744073709551616 > 9223372036854775807
        · rw [if_pos (hw.2 h3), if_neg (by omega)]
        · rw [if_neg (fun h => h3 (hw.1 h)), if_pos (by omega), w64 (by omega) (by omega)]
          congr 2
          omega
      · rw [if_neg h2, if_neg (by omega)]
    · rw [if_neg h1, hs (q1 % 18446744073709551616) (p1 % 18446744073709551616) 0 (by omega) (by omega) (by omega) (by omega) (by omega) (by omega)]
      by_cases h2 : (q1 % 18446744073709551616 - p1 % 18446744073709551616 - 0) % 18446744073709551616 = 0
      · rw [if_pos h2]
        by_cases h3 : (q2 % 18446744073709551616 - p2 % 18446744073709551616 - 0) % 18446744073709551616 > 9223372036854775807
        · rw [if_pos (hw.2 h3), if_neg (by omega)]
        · rw [if_neg (fun h => h3 (hw.1 h)), if_pos (by omega), w64 (by omega) (by omega)]
          congr 2
          omega
      · rw [if_neg h2, if_neg (by omega)]
theorem impl_GapTo_ev (x : Bool) (h l : Int) (y : Bool) (g m : Int) (hh : in64 h) (hl : in64 l) (hg : in64 g) (hm : in64 m) : Ev (fun k => impl_GapTo.f k x h l y g m) (gapTo x h l y g m) := by
  unfold gapTo
  refine Ev.val (impl_right_e x h l) (Ev.val (impl_right_e y g m) ?_)
  have r1 := rightA_right x h l hh hl
  have r2 := rightA_right y g m hg hm
  have hc : cmpA (rightA y g m).1 (rightA y g m).2.1 (rightA y g m).2.2 (rightA x h l).1 (rightA x h l).2.1 (rightA x h l).2.2 = cmpR (rightA y g m) (rightA x h l) := by
    unfold cmpA
    have idem : ∀ p : Bool × Int × Int, Right p → rightA p.1 p.2.1 p.2.2 = p := by
      intro p hp
      refine rightA_ok ?_
      obtain ⟨p0, p1, p2⟩ := p
      cases p0
      · have := hp.four rfl
        simp [addrOk]; simp at this; omega
      · rfl
    rw [idem _ r1, idem _ r2]
  generalize rightA x h l = p at r1 hc ⊢
  generalize rightA y g m = q at r2 hc ⊢
  obtain ⟨p0, p1, p2⟩ := p
  obtain ⟨q0, q1, q2⟩ := q
  by_cases e : p0 = q0
  · subst e
    refine Ev.ite_neg (by simp) (Ev.bind (impl_CmpAddr_ev p0 q1 q2 p0 p1 p2) ?_)
    refine impl_GapTo_j0 p0 p1 p2 q1 q2 _ ?_
    rw [hc]
    congr 1
    exact propext (cmpR_neg (p0, p1, p2) (p0, q1, q2) rfl)
  · refine Ev.ite_pos (by simp [e]) (Ev.step (f := fun _ => some (0, false)) (fun k => by rw [impl_GapTo.j0, if_pos rfl]) (Ev.mid ?_ (Ev.now _)))
    simp [gapR, e]

theorem u64or (a b : Nat) (ha : a < 18446744073709551616) (hb : b < 18446744073709551616) : Go.bits .or .u64 (a : Int) (b : Int) = ((a ||| b : Nat) : Int) :=
  (Go.bits_nat .u64 64 (by decide) (fun n h0 h1 => by rw [u64w]; omega) a b ha hb).2
/-- Bits that stand apart: 'or' is the sum. -/
theorem u64or_low (x y : Int) (i : Nat) (hx0 : 0 ≤ x) (hx : x < 2 ^ i) (hy0 : 0 ≤ y) (hy : y % 2 ^ i = 0) (hy1 : y < 18446744073709551616) (hi : i ≤ 64) : Go.bits .or .u64 x y = x + y := by
  obtain ⟨a, rfl⟩ := Int.eq_ofNat_of_zero_le hx0
  obtain ⟨b, rfl⟩ := Int.eq_ofNat_of_zero_le hy0
  have ha : a < 2 ^ i := by exact_mod_cast hx
  have hb : b % 2 ^ i = 0 := by exact_mod_cast hy
  have h2 : (2 : Nat) ^ i ≤ 18446744073709551616 := by
    have := Nat.pow_le_pow_right (show 0 < 2 by decide) hi
    exact Nat.le_trans this (by decide)
  rw [u64or a b (by omega) (by omega), Nat.or_comm]
  have hq : b = 2 ^ i * (b / 2 ^ i) := by
    have := Nat.div_add_mod b (2 ^ i)
    omega
  rw [hq, ← Nat.two_pow_add_eq_or_of_lt ha (b / 2 ^ i)]
  omega
theorem u64or_high (x y : Int) (i : Nat) (hx0 : 0 ≤ x) (hx : x % 2 ^ i = 0) (hx1 : x < 18446744073709551616) (hy0 : 0 ≤ y) (hy : y < 2 ^ i) (hi : i ≤ 64) : Go.bits .or .u64 x y = x + y := by
  have e : Go.bits .or .u64 x y = Go.bits .or .u64 y x := by
    obtain ⟨a, rfl⟩ := Int.eq_ofNat_of_zero_le hx0
    obtain ⟨b, rfl⟩ := Int.eq_ofNat_of_zero_le hy0
    have hb : b < 2 ^ i := by exact_mod_cast hy
    have h2 : (2 : Nat) ^ i ≤ 18446744073709551616 := by
      have := Nat.pow_le_pow_right (show 0 < 2 by decide) hi
      exact Nat.le_trans this (by decide)
    rw [u64or a b (by omega) (by omega), u64or b a (by omega) (by omega), Nat.or_comm]
  rw [e, u64or_low y x i hy0 hy hx0 hx hx1 hi]
  omega

theorem high_tab (n : Nat) (h : n ≤ 64) : 18446744073709551615 / 2 ^ n = 2 ^ (64 - n) - 1 ∧ (18446744073709551615 * 2 ^ n) % 18446744073709551616 = 18446744073709551616 - 2 ^ n := by
  have t : ∀ n : Fin 65, 18446744073709551615 / 2 ^ n.1 = 2 ^ (64 - n.1) - 1 ∧ (18446744073709551615 * 2 ^ n.1) % 18446744073709551616 = 18446744073709551616 - 2 ^ n.1 := by decide +kernel
  exact t ⟨n, by omega⟩
theorem four_tab (n : Nat) (h : n ≤ 32) : 4294967295 / 2 ^ n = 2 ^ (32 - n) - 1 ∧ (18446744073709551616 - 2 ^ (64 - n)) / 4294967296 = 4294967296 - 2 ^ (32 - n) := by
  have t : ∀ n : Fin 33, 4294967295 / 2 ^ n.1 = 2 ^ (32 - n.1) - 1 ∧ (18446744073709551616 - 2 ^ (64 - n.1)) / 4294967296 = 4294967296 - 2 ^ (32 - n.1) := by decide +kernel
  exact t ⟨n, by omega⟩
theorem pow_le64 (k : Nat) (h : k ≤ 64) : 1 ≤ 2 ^ k ∧ 2 ^ k ≤ 18446744073709551616 := ⟨Nat.one_le_two_pow, Nat.le_trans (Nat.pow_le_pow_right (by decide) h) (by decide)⟩
theorem pow_le32 (k : Nat) (h : k ≤ 32) : 1 ≤ 2 ^ k ∧ 2 ^ k ≤ 4294967296 := ⟨Nat.one_le_two_pow, Nat.le_trans (Nat.pow_le_pow_right (by decide) h) (by decide)⟩
/-- The bits from k on. -/
theorem nat_and_high (a k w : Nat) (hk : k ≤ w) (ha : a < 2 ^ w) : a &&& (2 ^ w - 2 ^ k) = a - a % 2 ^ k := by
  have e1 : 2 ^ w - 2 ^ k = 2 ^ k * (2 ^ (w - k) - 1) := by
    rw [Nat.mul_sub, ← Nat.pow_add, Nat.add_sub_cancel' hk, Nat.mul_one]
  have e2 : a - a % 2 ^ k = 2 ^ k * (a / 2 ^ k) := by
    have := Nat.div_add_mod a (2 ^ k)
    omega
  rw [e1, e2]
  apply Nat.eq_of_testBit_eq
  intro i
  rw [Nat.testBit_and, Nat.testBit_two_pow_mul, Nat.testBit_two_pow_mul, Nat.testBit_two_pow_sub_one, Nat.testBit_div_two_pow]
  by_cases hi : k ≤ i
  · by_cases hw : i < w
    · simp [hi, Nat.sub_add_cancel hi, show i - k < w - k by omega]
    · have : a.testBit i = false := Nat.testBit_lt_two_pow (Nat.lt_of_lt_of_le ha (Nat.pow_le_pow_right (by decide) (by omega)))
      simp [hi, Nat.sub_add_cancel hi, this]
  · simp [hi]
theorem u64and (a b : Nat) (ha : a < 18446744073709551616) (hb : b < 18446744073709551616) : Go.bits .and .u64 (a : Int) (b : Int) = ((a &&& b : Nat) : Int) :=
  (Go.bits_nat .u64 64 (by decide) (fun n h0 h1 => by rw [u64w]; omega) a b ha hb).1
theorem i64w (n : Int) : IntKind.i64.wrap n = wrap64 n := IntWalk.i64_left n
theorem i64and (a b : Nat) (ha : a < 9223372036854775808) (hb : b < 9223372036854775808) : Go.bits .and .i64 (a : Int) (b : Int) = ((a &&& b : Nat) : Int) :=
  (Go.bits_nat .i64 63 (by decide) (fun n h0 h1 => by rw [i64w]; exact w64 (by omega) (by omega)) a b ha hb).1
theorem u64andNot (a b : Nat) (ha : a < 18446744073709551616) (hb : b < 18446744073709551616) : Go.bits .andNot .u64 (a : Int) (b : Int) = ((a &&& (18446744073709551615 - b) : Nat) : Int) := by
  have ha' : a % 2 ^ 64 = a := Nat.mod_eq_of_lt ha
  have hb' : b % 2 ^ 64 = b := Nat.mod_eq_of_lt hb
  have e : IntKind.u64.bits = 64 := rfl
  simp only [Go.bits, e, BitVec.ofInt_natCast, BitVec.toNat_and, BitVec.toNat_not, BitVec.toNat_ofNat, ha', hb']
  have h : a &&& (2 ^ 64 - 1 - b) < 2 ^ 64 := Nat.lt_of_le_of_lt Nat.and_le_left ha
  rw [u64w]
  have e2 : (2 : Nat) ^ 64 - 1 - b = 18446744073709551615 - b := rfl
  rw [e2] at h ⊢
  omega
theorem and_high (u : Int) (k : Nat) (hk : k ≤ 64) (h0 : 0 ≤ u) (h1 : u < 18446744073709551616) (m : Int) (hm : m = ((18446744073709551616 - 2 ^ k : Nat) : Int)) : Go.bits .and .u64 u m = u - u % 2 ^ k := by
  obtain ⟨a, rfl⟩ := Int.eq_ofNat_of_zero_le h0
  have hp := pow_le64 k hk
  rw [hm, u64and a _ (by omega) (by omega)]
  have e := nat_and_high a k 64 hk (by omega)
  have e64 : (2 : Nat) ^ 64 = 18446744073709551616 := rfl
  rw [e64] at e
  rw [e]
  have hle : a % 2 ^ k ≤ a := Nat.mod_le _ _
  rw [Int.natCast_sub hle, Int.natCast_emod, Int.natCast_pow]
  rfl
theorem andNot_low (u : Int) (k : Nat) (hk : k ≤ 64) (h0 : 0 ≤ u) (h1 : u < 18446744073709551616) (m : Int) (hm : m = ((2 ^ k - 1 : Nat) : Int)) : Go.bits .andNot .u64 u m = u - u % 2 ^ k := by
  have hp := pow_le64 k hk
  obtain ⟨a, rfl⟩ := Int.eq_ofNat_of_zero_le h0
  have e : Go.bits .andNot .u64 (a : Int) m = Go.bits .and .u64 (a : Int) ((18446744073709551616 - 2 ^ k : Nat) : Int) := by
    rw [hm, u64andNot a _ (by omega) (by omega), u64and a _ (by omega) (by omega)]
    congr 2
    omega
  rw [e]
  exact and_high _ k hk h0 h1 _ rfl
theorem and_four (u : Int) (k : Nat) (hk : k ≤ 32) (h0 : 0 ≤ u) (h1 : u < 4294967296) (m : Int) (hm : m = ((4294967296 - 2 ^ k : Nat) : Int)) : Go.bits .and .i64 u m = u - u % 2 ^ k := by
  obtain ⟨a, rfl⟩ := Int.eq_ofNat_of_zero_le h0
  have hp := pow_le32 k hk
  rw [hm, i64and a _ (by omega) (by omega)]
  have e := nat_and_high a k 32 hk (by omega)
  have e32 : (2 : Nat) ^ 32 = 4294967296 := rfl
  rw [e32] at e
  rw [e]
  have hle : a % 2 ^ k ≤ a := Nat.mod_le _ _
  rw [Int.natCast_sub hle, Int.natCast_emod, Int.natCast_pow]
  rfl
/-- How many bits behind the first b are in the upper, the lower half; of 32. -/
def kHi (b : Int) : Nat := min 64 (64 - b).toNat
def kLo (b : Int) : Nat := min 64 (128 - b).toNat
def kFo (b : Int) : Nat := (32 - b).toNat
def keep (u : Int) (k : Nat) : Int := u - u % 2 ^ k
theorem pow_cast (k : Nat) : ((2 ^ k : Nat) : Int) = 2 ^ k := by simp
theorem keep_mul (u : Int) (k : Nat) : keep u k = 2 ^ k * (u / 2 ^ k) := by
  have := Int.emod_add_mul_ediv u (2 ^ k)
  unfold keep
  omega
theorem keep_mod (u : Int) (k : Nat) : keep u k % 2 ^ k = 0 := by rw [keep_mul, Int.mul_emod_right]
theorem keep_bd (u : Int) (k : Nat) (h : 0 ≤ u) : 0 ≤ keep u k ∧ keep u k ≤ u ∧ u < keep u k + 2 ^ k := by
  have hk2 : (0 : Int) < 2 ^ k := Int.pow_pos (by decide)
  have h1 := Int.emod_nonneg u (show (2 : Int) ^ k ≠ 0 by omega)
  have h2 := Int.emod_lt_of_pos u hk2
  have h3 : 0 ≤ u / 2 ^ k := Int.ediv_nonneg h (by omega)
  have h4 : 0 ≤ 2 ^ k * (u / 2 ^ k) := Int.mul_nonneg (by omega) h3
  have h5 := keep_mul u k
  unfold keep at h5 ⊢
  omega
def maskA (x : Bool) (h l b : Int) : Bool × Int × Int :=
  if x = true then (true, wrap64 (keep (h % 18446744073709551616) (kHi b)), wrap64 (keep (l % 18446744073709551616) (kLo b))) else (false, 0, keep l (kFo b))
theorem spec_l2High_e (c : Int) (h0 : -64 ≤ c) (h1 : c ≤ 128) : spec_l2High.f c = some ((18446744073709551616 - 2 ^ (min 64 (64 - c).toNat) : Nat) : Int) := by
  unfold spec_l2High.f
  by_cases h : c ≤ 0
  · rw [if_pos h, Nat.min_eq_left (by omega)]; rfl
  · rw [if_neg h]
    by_cases h2 : c ≥ 64
    · rw [if_pos h2, show (64 - c).toNat = 0 by omega]; rfl
    · have e := (high_tab (64 - c).toNat (by omega)).2
      have hb : IntKind.u64.bits = 64 := rfl
      rw [if_neg h2, w64 (by omega) (by omega), u64in (by omega) (by omega), if_pos (by omega), shl, u64w, hb, Nat.min_eq_left (show (64 - c).toNat ≤ 64 by omega), Nat.min_eq_right (by omega), ← e]
      simp
theorem spec_l2Mask_e (x : Bool) (h l b : Int) (hb0 : 0 ≤ b) (hb1 : b ≤ if x = true then 128 else 32) (hf : x = false → 0 ≤ l ∧ l < 4294967296) : spec_l2Mask.f x h l b = some (maskA x h l b) := by
  unfold spec_l2Mask.f maskA
  cases x
  · simp only [Bool.false_eq_true, if_false] at hb1 ⊢
    obtain ⟨hl0, hl1⟩ := hf rfl
    have e := (four_tab b.toNat (by omega)).2
    have hp := pow_le32 (32 - b.toNat) (by omega)
    rw [spec_l2High_e b (by omega) (by omega)]
    simp only [Option.bind_some]
    rw [show min 64 (64 - b).toNat = 64 - b.toNat by omega]
    have hw : wrap64 (((18446744073709551616 - 2 ^ (64 - b.toNat) : Nat) : Int) / 4294967296) = ((4294967296 - 2 ^ (32 - b.toNat) : Nat) : Int) := by
      rw [show (((18446744073709551616 - 2 ^ (64 - b.toNat) : Nat) : Int) / 4294967296) = (((18446744073709551616 - 2 ^ (64 - b.toNat)) / 4294967296 : Nat) : Int) from rfl, e]
      exact w64 (by omega) (by omega)
    rw [hw, and_four l (32 - b.toNat) (by omega) hl0 hl1 _ rfl]
    unfold keep kFo
    rw [show 32 - b.toNat = (32 - b).toNat by omega]
  · simp only [if_true] at hb1 ⊢
    rw [spec_l2High_e b (by omega) (by omega), w64 (by omega) (by omega), spec_l2High_e (b - 64) (by omega) (by omega)]
    simp only [Option.bind_some]
    rw [u64w, u64w, and_high _ (min 64 (64 - b).toNat) (by omega) (by omega) (by omega) _ rfl, and_high _ (min 64 (64 - (b - 64)).toNat) (by omega) (by omega) (by omega) _ rfl]
    unfold keep kHi kLo
    rw [show (64 - (b - 64)).toNat = (128 - b).toNat by omega]
theorem spec_l2Width_e (x : Bool) (h l : Int) : spec_l2Width.f x h l = some (if x = true then 128 else 32) := by
  unfold spec_l2Width.f
  cases x <;> rfl
theorem or_low (u : Int) (k : Nat) (hk : k ≤ 64) (h0 : 0 ≤ u) (h1 : u < 18446744073709551616) (m : Int) (hm : m = ((2 ^ k - 1 : Nat) : Int)) : Go.bits .or .u64 (keep u k) m = keep u k + m := by
  have hp := pow_le64 k hk
  have hb := keep_bd u k h0
  exact u64or_high _ m k hb.1 (keep_mod u k) (by omega) (by omega) (by rw [hm, ← pow_cast]; omega) hk
def fillA (x : Bool) (h l b : Int) : Bool × Int × Int :=
  if x = true then (true, wrap64 (keep (h % 18446744073709551616) (kHi b) + (2 ^ kHi b - 1)), wrap64 (keep (l % 18446744073709551616) (kLo b) + (2 ^ kLo b - 1))) else (false, 0, keep l (kFo b) + (2 ^ kFo b - 1))
theorem impl_masked_e (x : Bool) (h l b : Int) (hb0 : 0 ≤ b) (hb1 : b ≤ if x = true then 128 else 32) (hf : x = false → 0 ≤ l ∧ l < 4294967296) : impl_masked.f x h l b false = some (maskA x h l b) := by
  unfold impl_masked.f maskA
  have hbits : IntKind.u64.bits = 64 := rfl
  cases x
  · simp only [Bool.false_eq_true, if_false] at hb1 ⊢
    obtain ⟨hl0, hl1⟩ := hf rfl
    have e := (four_tab b.toNat (by omega)).1
    have hp := pow_le32 (32 - b.toNat) (by omega)
    have hs : shr .u64 4294967295 b = ((2 ^ (32 - b.toNat) - 1 : Nat) : Int) := by
      unfold shr
      rw [hbits, Nat.min_eq_left (show b.toNat ≤ 64 by omega), ← e]
      simp
    rw [if_pos hb0, hs, u64in hl0 (by omega), andNot_low l (32 - b.toNat) (by omega) hl0 (by omega) _ rfl]
    have hb := keep_bd l (32 - b.toNat) hl0
    unfold keep at hb
    rw [w64 (by omega) (by omega)]
    unfold keep kFo
    rw [show 32 - b.toNat = (32 - b).toNat by omega]
  · simp only [if_true, Bool.false_eq_true, if_false] at hb1 ⊢
    by_cases h64 : b < 64
    · have e := (high_tab b.toNat (by omega)).1
      have hs : shr .u64 18446744073709551615 b = ((2 ^ (64 - b.toNat) - 1 : Nat) : Int) := by
        unfold shr
        rw [hbits, Nat.min_eq_left (show b.toNat ≤ 64 by omega), ← e]
        simp
      rw [if_pos h64, if_pos hb0, hs, u64w, u64w, andNot_low _ (64 - b.toNat) (by omega) (by omega) (by omega) _ rfl, andNot_low _ 64 (by omega) (by omega) (by omega) 18446744073709551615 (by decide)]
      unfold keep kHi kLo
      rw [show min 64 (64 - b).toNat = 64 - b.toNat by omega, show min 64 (128 - b).toNat = 64 by omega]
    · have e := (high_tab (b - 64).toNat (by omega)).1
      have hs : shr .u64 18446744073709551615 (b - 64) = ((2 ^ (64 - (b - 64).toNat) - 1 : Nat) : Int) := by
        unfold shr
        rw [hbits, Nat.min_eq_left (show (b - 64).toNat ≤ 64 by omega), ← e]
        simp
      rw [if_neg h64, w64 (x := b - 64) (by omega) (by omega), if_pos (by omega), hs, u64w, u64w, andNot_low _ 0 (by omega) (by omega) (by omega) 0 (by decide), andNot_low _ (64 - (b - 64).toNat) (by omega) (by omega) (by omega) _ rfl]
      unfold keep kHi kLo
      rw [show min 64 (64 - b).toNat = 0 by omega, show min 64 (128 - b).toNat = 64 - (b - 64).toNat by omega]
theorem impl_width_e (x : Bool) (h l : Int) : impl_width.f x h l = some (if x = true then 128 else 32) := by
  unfold impl_width.f
  cases x <;> rfl
/-- A prefix is right. -/
def prefOk (x : Bool) (h l b : Int) : Bool := addrOk x h l && decide (0 ≤ b ∧ b ≤ if x = true then 128 else 32) && (maskA x h l b == (x, h, l))
theorem addrOk_four {x : Bool} {h l : Int} (hk : addrOk x h l = true) : x = false → h = 0 ∧ 0 ≤ l ∧ l < 4294967296 := by
  intro hx
  subst hx
  simp [addrOk] at hk
  omega
theorem eq3 (p : Bool × Int × Int) (x : Bool) (h l : Int) : (p.1 == x && (p.2.1 == h && (p.2.2 == l))) = (p == (x, h, l)) := by
  obtain ⟨a, b, c⟩ := p
  rfl
theorem spec_PrefixOk_e (x : Bool) (h l b : Int) : spec_PrefixOk.f x h l b = some (prefOk x h l b) := by
  unfold spec_PrefixOk.f prefOk
  rw [spec_AddrOk_e]
  simp only [Option.bind_some]
  by_cases ha : addrOk x h l = true
  · rw [if_pos ha, ha, spec_l2Width_e]
    simp only [Option.bind_some, l1In_e, decide_eq_true_eq]
    by_cases hb : 0 ≤ b ∧ b ≤ if x = true then 128 else 32
    · rw [if_pos hb, decide_eq_true hb, spec_l2Mask_e x h l b hb.1 hb.2 (fun hx => (addrOk_four ha hx).2)]
      simp only [Option.bind_some, eq3, Bool.true_and]
    · rw [if_neg hb, decide_eq_false hb]; simp
  · rw [if_neg ha, Bool.eq_false_iff.mpr ha]; simp
theorem impl_PrefixOk_e (x : Bool) (h l b : Int) : impl_PrefixOk.f x h l b = some (prefOk x h l b) := by
  unfold impl_PrefixOk.f prefOk
  rw [impl_AddrOk_e]
  simp only [Option.bind_some]
  by_cases ha : addrOk x h l = true
  · rw [if_pos ha, ha, impl_width_e]
    simp only [Option.bind_some, from_e, decide_eq_true_eq]
    by_cases hb : 0 ≤ b ∧ b ≤ if x = true then 128 else 32
    · rw [if_pos hb, decide_eq_true hb, impl_masked_e x h l b hb.1 hb.2 (fun hx => (addrOk_four ha hx).2)]
      simp only [Option.bind_some, eq3, Bool.true_and]
    · rw [if_neg hb, decide_eq_false hb]; simp
  · rw [if_neg ha, Bool.eq_false_iff.mpr ha]; simp

/-- A prefix has an address. -/
def hasA (x : Bool) (h l b : Int) (y : Bool) (g m : Int) : Bool := prefOk x h l b && (addrOk y g m && ((y == x) && (maskA y g m b == (x, h, l))))
theorem prefOk_bits {x : Bool} {h l b : Int} (hp : prefOk x h l b = true) : addrOk x h l = true ∧ 0 ≤ b ∧ (b ≤ if x = true then 128 else 32) ∧ maskA x h l b = (x, h, l) := by
  simp only [prefOk, Bool.and_eq_true, decide_eq_true_eq, beq_iff_eq] at hp
  exact ⟨hp.1.1, hp.1.2.1, hp.1.2.2, hp.2⟩
theorem spec_HasAddr_e (x : Bool) (h l b : Int) (y : Bool) (g m : Int) : spec_HasAddr.f x h l b y g m = some (hasA x h l b y g m) := by
  unfold spec_HasAddr.f hasA
  rw [spec_PrefixOk_e]
  simp only [Option.bind_some]
  by_cases hp : prefOk x h l b = true
  · obtain ⟨_, hb0, hb1, _⟩ := prefOk_bits hp
    rw [if_pos hp, hp, spec_AddrOk_e]
    simp only [Option.bind_some]
    by_cases ha : addrOk y g m = true
    · rw [if_pos ha, ha]
      by_cases hy : (y == x) = true
      · have hyx : y = x := by simpa using hy
        rw [if_pos hy, hy, spec_l2Mask_e y g m b hb0 (by rw [hyx]; exact hb1) (fun hx => (addrOk_four ha hx).2)]
        simp only [Option.bind_some, eq3, Bool.true_and]
      · rw [if_neg hy, Bool.eq_false_iff.mpr hy]; simp
    · rw [if_neg ha, Bool.eq_false_iff.mpr ha]; simp
  · rw [if_neg hp, Bool.eq_false_iff.mpr hp]; simp
theorem impl_HasAddr_e (x : Bool) (h l b : Int) (y : Bool) (g m : Int) : impl_HasAddr.f x h l b y g m = some (hasA x h l b y g m) := by
  unfold impl_HasAddr.f hasA
  rw [impl_PrefixOk_e]
  simp only [Option.bind_some]
  by_cases hp : prefOk x h l b = true
  · obtain ⟨_, hb0, hb1, _⟩ := prefOk_bits hp
    rw [if_pos hp, hp, impl_AddrOk_e]
    simp only [Option.bind_some]
    by_cases ha : addrOk y g m = true
    · rw [if_pos ha, ha]
      by_cases hy : (y == x) = true
      · have hyx : y = x := by simpa using hy
        rw [if_pos hy, hy, impl_masked_e y g m b hb0 (by rw [hyx]; exact hb1) (fun hx => (addrOk_four ha hx).2)]
        simp only [Option.bind_some, eq3, Bool.true_and]
      · rw [if_neg hy, Bool.eq_false_iff.mpr hy]; simp
    · rw [if_neg ha, Bool.eq_false_iff.mpr ha]; simp
  · rw [if_neg hp, Bool.eq_false_iff.mpr hp]; simp

def placeOf (x : Bool) (h l b : Int) (y : Bool) (g m : Int) : Int × Bool := if hasA x h l b y g m = true then gapTo x h l y g m else (0, false)
theorem spec_PlaceOf_ev (x : Bool) (h l b : Int) (y : Bool) (g m : Int) (hh : in64 h) (hl : in64 l) (hg : in64 g) (hm : in64 m) : Ev (fun k => spec_PlaceOf.f k x h l b y g m) (placeOf x h l b y g m) := by
  refine Ev.val (spec_HasAddr_e x h l b y g m) ?_
  unfold placeOf
  by_cases ha : hasA x h l b y g m = true
  · exact Ev.mid (if_pos ha).symm (Ev.ite_pos ha (Ev.bind (spec_GapTo_ev x h l y g m hh hl hg hm) (Ev.now _)))
  · exact Ev.mid (if_neg ha).symm (Ev.ite_neg ha (Ev.now _))
theorem impl_PlaceOf_ev (x : Bool) (h l b : Int) (y : Bool) (g m : Int) (hh : in64 h) (hl : in64 l) (hg : in64 g) (hm : in64 m) : Ev (fun k => impl_PlaceOf.f k x h l b y g m) (placeOf x h l b y g m) := by
  refine Ev.val (impl_HasAddr_e x h l b y g m) ?_
  unfold placeOf
  by_cases ha : hasA x h l b y g m = true
  · exact Ev.mid (if_pos ha).symm (Ev.ite_pos ha (Ev.bind (impl_GapTo_ev x h l y g m hh hl hg hm) (Ev.now _)))
  · exact Ev.mid (if_neg ha).symm (Ev.ite_neg ha (Ev.now _))

theorem FnExactPlaceOf (x : Bool) (h l b : Int) (y : Bool) (g m : Int) (hh : (Lit.int .i64 h).wf = true) (hl : (Lit.int .i64 l).wf = true) (_ : (Lit.int .i64 b).wf = true) (hg : (Lit.int .i64 g).wf = true) (hm : (Lit.int .i64 m).wf = true) : ∃ k, laws_FnExactPlaceOf.f k x h l b y g m = some true := by
  refine Ev.rounds ?_
  have e1 := spec_PlaceOf_ev x h l b y g m (wf_in hh) (wf_in hl) (wf_in hg) (wf_in hm)
  have e2 := impl_PlaceOf_ev x h l b y g m (wf_in hh) (wf_in hl) (wf_in hg) (wf_in hm)
  simp only [laws_FnExactPlaceOf.f, laws_toPrefix.f, laws_toAddr.f, Option.bind_some]
  exact Ev.bind e1 (Ev.bind e2 (Ev.ite_pos rfl (Ev.ite_neg (by simp) (Ev.now true))))

end Go.Proofs.Ytigmadccchofiaa.Pure
