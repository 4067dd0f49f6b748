/-
The pure part of the statement FnExactGapTo: what the printed functions answer is true at every input.
Conditions: none but the kinds' own bounds, as the printed statement has them.
-/
import Derived.Test.YtigmadccchofiaaQFnExactGapTox0
import Derived.Test.YtigmadccchofiaaQFnExactGapTox1
import Derived.Test.YtigmadccchofiaaQFnExactGapTox2
import Derived.Test.YtigmadccchofiaaQFnExactGapTox3
import Derived.Test.YtigmadccchofiaaQFnExactGapTox4
namespace Go.Proofs.Ytigmadccchofiaa.Pure
open Go.RowKit Go.Proofs.Ytigmadccchofiaa.QFnExactGapTo Go.Proofs.YtigmadccchofiaaW.PrintWords Go.Proofs.YtigmadccchofiaaW.PrintLast Go.Proofs.YtigmadccchofiaaW.PrintMore
set_option linter.unusedVariables false
set_option linter.unusedSimpArgs false

theorem wf64 {x : Int} (h : (Lit.int .i64 x).wf = true) : -9223372036854775808 ≤ x ∧ x ≤ 9223372036854775807 := by
  simpa [Lit.wf, IntKind.min, IntKind.max, IntKind.signed, IntKind.bits] using h
theorem wf8 {x : Int} (h : (Lit.int .u8 x).wf = true) : 0 ≤ x ∧ x ≤ 255 := by
  simpa [Lit.wf, IntKind.min, IntKind.max, IntKind.signed, IntKind.bits] using h
theorem w64 {x : Int} (h0 : -9223372036854775808 ≤ x) (h1 : x ≤ 9223372036854775807) : wrap64 x = x := by unfold wrap64; omega
theorem u64w (n : Int) : IntKind.u64.wrap n = n % 18446744073709551616 := by simp [IntKind.wrap, IntKind.bits, IntKind.signed]
theorem u64in {x : Int} (h0 : 0 ≤ x) (h1 : x < 18446744073709551616) : IntKind.u64.wrap x = x := by rw [u64w]; omega
theorem rd_get (xs : List Int) (i : Int) (j : Nat) (x : Int) (hi : i = j) (h : xs[j]? = some x) : rd xs i = x := by
  subst hi
  simp [rd, List.getD, h]
theorem Ev.mid {α : Type} {g : Nat → Option α} {a b : α} (h : a = b) (e : Ev g a) : Ev g b := h ▸ e
theorem Ev.const {α : Type} {g : Nat → Option α} {a : α} (h : ∀ k, g k = some a) : Ev g a := ⟨0, fun k _ => h k⟩
theorem Ev.ite_pos {α : Type} {c : Prop} [Decidable c] {g f : Nat → Option α} {r : α} (hc : c) (h : Ev g r) : Ev (fun k => if c then g k else f k) r := by
  simp only [if_pos hc]
  exact h
theorem Ev.ite_neg {α : Type} {c : Prop} [Decidable c] {g f : Nat → Option α} {r : α} (hc : ¬ c) (h : Ev f r) : Ev (fun k => if c then g k else f k) r := by
  simp only [if_neg hc]
  exact h
/-- A part that has no rounds. -/
theorem Ev.val {α β : Type} {o : Option α} {f : Nat → α → Option β} {a : α} {r : β} (h : o = some a) (k : Ev (fun n => f n a) r) : Ev (fun n => o.bind (f n)) r := by
  subst h
  exact k

theorem l1In_e (a b c : Int) : spec_l1In.f a b c = some (decide (b ≤ a ∧ a ≤ c)) := by
  unfold spec_l1In.f
  by_cases h : a ≥ b
  · simp [if_pos h, h]
  · simp [if_neg h]; omega
theorem from_e (a b c : Int) : impl_from.f a b c = some (decide (b ≤ a ∧ a ≤ c)) := by
  unfold impl_from.f
  by_cases h : a ≥ b
  · simp [if_pos h, h]
  · simp [if_neg h]; omega
/-- An address is right. -/
def addrOk (x : Bool) (h l : Int) : Bool := x || (decide (h = 0) && decide (0 ≤ l ∧ l ≤ 4294967295))
theorem spec_AddrOk_e (x : Bool) (h l : Int) : spec_AddrOk.f x h l = some (addrOk x h l) := by
  unfold spec_AddrOk.f addrOk
  cases x
  · by_cases hh : h = 0
    · simp [hh, l1In_e]
    · simp [hh]
  · rfl
theorem impl_AddrOk_e (x : Bool) (h l : Int) : impl_AddrOk.f x h l = some (addrOk x h l) := by
  unfold impl_AddrOk.f addrOk
  cases x
  · by_cases hh : h = 0
    · simp [hh, from_e]
    · simp [hh]
  · rfl

/-- An address, or the zero one of what is none. -/
def rightA (x : Bool) (h l : Int) : Bool × Int × Int := if addrOk x h l = true then (x, h, l) else (false, 0, 0)
def in64 (z : Int) : Prop := -9223372036854775808 ≤ z ∧ z ≤ 9223372036854775807
theorem wf_in {z : Int} (h : (Lit.int .i64 z).wf = true) : in64 z := wf64 h
theorem in64_zero : in64 0 := by unfold in64; omega
theorem wrap_in {z : Int} (h : in64 z) : wrap64 (z % 18446744073709551616) = z := by unfold in64 at h; unfold wrap64; omega
theorem wrap_is (z : Int) : in64 (wrap64 z) := by unfold wrap64 in64; omega
theorem u_inj {a b : Int} (ha : in64 a) (hb : in64 b) (h : a % 18446744073709551616 = b % 18446744073709551616) : a = b := by unfold in64 at ha hb; omega
/-- What is right: of 32 bits its upper half is 0, its lower one below 2^32. -/
structure Right (p : Bool × Int × Int) : Prop where
  four : p.1 = false → p.2.1 = 0 ∧ 0 ≤ p.2.2 ∧ p.2.2 ≤ 4294967295
  hi : in64 p.2.1
  lo : in64 p.2.2
theorem rightA_right (x : Bool) (h l : Int) (hh : in64 h) (hl : in64 l) : Right (rightA x h l) := by
  unfold rightA
  by_cases ha : addrOk x h l = true
  · rw [if_pos ha]
    refine ⟨fun hx => ?_, hh, hl⟩
    simp only at hx
    subst hx
    simpa [addrOk] using ha
  · rw [if_neg ha]
    exact ⟨fun _ => ⟨rfl, by simp⟩, in64_zero, in64_zero⟩
theorem rightA_ok {x : Bool} {h l : Int} (ha : addrOk x h l = true) : rightA x h l = (x, h, l) := if_pos ha
theorem spec_l1Addr_e (x : Bool) (h l : Int) : spec_l1Addr.f x h l = some (rightA x h l) := by
  unfold spec_l1Addr.f rightA
  rw [spec_AddrOk_e]
  simp only [Option.bind_some]
  by_cases ha : addrOk x h l = true
  · rw [if_pos ha, if_pos ha]
  · rw [if_neg ha, if_neg ha]
theorem impl_right_e (x : Bool) (h l : Int) : impl_right.f x h l = some (rightA x h l) := by
  unfold impl_right.f rightA
  rw [impl_AddrOk_e]
  simp only [Option.bind_some]
  by_cases ha : addrOk x h l = true
  · rw [if_pos ha, if_pos ha]
  · rw [if_neg ha, if_neg ha]

def cmpI (a b : Int) : Int := if a < b then -1 else if b < a then 1 else 0
/-- Two addresses that are right, compared. -/
def cmpR (p q : Bool × Int × Int) : Int :=
  if p.1 = false ∧ q.1 = true then -1 else if p.1 = true ∧ q.1 = false then 1 else
  if p.2.1 % 18446744073709551616 < q.2.1 % 18446744073709551616 then -1 else if q.2.1 % 18446744073709551616 < p.2.1 % 18446744073709551616 then 1 else
  cmpI (p.2.2 % 18446744073709551616) (q.2.2 % 18446744073709551616)
def cmpA (x : Bool) (h l : Int) (y : Bool) (g m : Int) : Int := cmpR (rightA x h l) (rightA y g m)
theorem spec_l1Less_e (a b : Int) : spec_l1Less.f a b = some (decide (a % 18446744073709551616 < b % 18446744073709551616)) := by
  unfold spec_l1Less.f
  rw [u64w, u64w]
theorem spec_CmpAddr_e (x : Bool) (h l : Int) (y : Bool) (g m : Int) (hh : in64 h) (hl : in64 l) (hg : in64 g) (hm : in64 m) : spec_CmpAddr.f x h l y g m = some (cmpA x h l y g m) := by
  unfold spec_CmpAddr.f cmpA
  rw [spec_l1Addr_e, spec_l1Addr_e]
  have r1 := rightA_right x h l hh hl
  have r2 := rightA_right y g m hg hm
  generalize rightA x h l = p at r1 ⊢
  generalize rightA y g m = q at r2 ⊢
  obtain ⟨p0, p1, p2⟩ := p
  obtain ⟨q0, q1, q2⟩ := q
  simp only [Option.bind_some, spec_l1Less_e, decide_eq_true_eq, cmpR, cmpI]
  have key : (if p1 = q1 then (if p2 = q2 then some (0 : Int) else (if p1 % 18446744073709551616 < q1 % 18446744073709551616 then some (-1) else if p2 % 18446744073709551616 < q2 % 18446744073709551616 then some (-1) else some 1)) else (if p1 % 18446744073709551616 < q1 % 18446744073709551616 then some (-1) else some 1)) =
      some (if p1 % 18446744073709551616 < q1 % 18446744073709551616 then -1 else if q1 % 18446744073709551616 < p1 % 18446744073709551616 then 1 else if p2 % 18446744073709551616 < q2 % 18446744073709551616 then -1 else if q2 % 18446744073709551616 < p2 % 18446744073709551616 then 1 else 0) := by
    by_cases h1 : p1 = q1
    · subst h1
      rw [if_pos rfl]
      have hi : ¬ p1 % 18446744073709551616 < p1 % 18446744073709551616 := by omega
      simp only [if_neg hi]
      by_cases h2 : p2 = q2
      · subst h2
        have hi2 : ¬ p2 % 18446744073709551616 < p2 % 18446744073709551616 := by omega
        simp only [if_neg hi2, if_true]
      · have hne : p2 % 18446744073709551616 ≠ q2 % 18446744073709551616 := fun h => h2 (u_inj r1.lo r2.lo h)
        rw [if_neg h2]
        by_cases h3 : p2 % 18446744073709551616 < q2 % 18446744073709551616
        · rw [if_pos h3, if_pos h3]
        · rw [if_neg h3, if_neg h3, if_pos (by omega)]
    · have hne : p1 % 18446744073709551616 ≠ q1 % 18446744073709551616 := fun h => h1 (u_inj r1.hi r2.hi h)
      rw [if_neg h1]
      by_cases h3 : p1 % 18446744073709551616 < q1 % 18446744073709551616
      · rw [if_pos h3, if_pos h3]
      · rw [if_neg h3, if_neg h3, if_pos (by omega)]
  cases p0 <;> cases q0 <;> simp [key]
theorem compare_e (a b : Int) : cmp_Compare_uint64.f a b = some (cmpI a b) := by
  unfold cmp_Compare_uint64.f cmp_isNaN_uint64.f cmpI
  simp
  split
  · rfl
  · split <;> rfl
theorem cmpI_zero {a b : Int} (h : cmpI a b = 0) : a = b := by
  unfold cmpI at h
  split at h
  · cases h
  · split at h
    · cases h
    · omega
theorem impl_CmpAddr_j1 (p0 : Bool) (p1 p2 : Int) (q0 : Bool) (q1 q2 : Int) (e : p0 = q0) : Ev (fun k => impl_CmpAddr.j1 k p0 p1 p2 q0 q1 q2) (cmpR (p0, p1, p2) (q0, q1, q2)) := by
  subst e
  refine Ev.step (f := fun _ => some _) (fun k => ?_) (Ev.now _)
  rw [impl_CmpAddr.j1, compare_e, compare_e]
  simp only [Option.bind_some, u64w, cmpR]
  rw [if_neg (show ¬ (p0 = false ∧ p0 = true) by rintro ⟨rfl, h⟩; cases h), if_neg (show ¬ (p0 = true ∧ p0 = false) by rintro ⟨rfl, h⟩; cases h)]
  by_cases h1 : p1 % 18446744073709551616 < q1 % 18446744073709551616
  · rw [if_pos h1]
    simp [cmpI, h1]
  · rw [if_neg h1]
    by_cases h2 : q1 % 18446744073709551616 < p1 % 18446744073709551616
    · rw [if_pos h2]
      simp [cmpI, h1, h2]
    · rw [if_neg h2]
      simp [cmpI, h1, h2]
theorem impl_CmpAddr_ev (x : Bool) (h l : Int) (y : Bool) (g m : Int) : Ev (fun k => impl_CmpAddr.f k x h l y g m) (cmpA x h l y g m) := by
  unfold cmpA
  refine Ev.val (impl_right_e x h l) ?_
  refine Ev.val (impl_right_e y g m) ?_
  generalize rightA x h l = p
  generalize rightA y g m = q
  obtain ⟨p0, p1, p2⟩ := p
  obtain ⟨q0, q1, q2⟩ := q
  cases p0
  · refine Ev.ite_neg (by simp) ?_
    cases q0
    · exact Ev.step (fun k => by rw [impl_CmpAddr.j0, if_neg (by simp), if_neg (by simp)]) (impl_CmpAddr_j1 false p1 p2 false q1 q2 rfl)
    · refine Ev.step (f := fun _ => some (-1)) (fun k => by rw [impl_CmpAddr.j0, if_pos rfl]) (Ev.mid ?_ (Ev.now _))
      simp [cmpR]
  · refine Ev.ite_pos rfl ?_
    cases q0
    · refine Ev.step (f := fun _ => some 1) (fun k => by rw [impl_CmpAddr.j0, if_neg (by simp), if_pos rfl, if_neg (by simp)]) (Ev.mid ?_ (Ev.now _))
      simp [cmpR]
    · exact Ev.step (fun k => by rw [impl_CmpAddr.j0, if_neg (by simp), if_pos rfl, if_pos rfl]) (impl_CmpAddr_j1 true p1 p2 true q1 q2 rfl)

def valR (p : Bool × Int × Int) : Int := (p.2.1 % 18446744073709551616) * 18446744073709551616 + p.2.2 % 18446744073709551616
/-- How far q is behind p. -/
def gapR (p q : Bool × Int × Int) : Int × Bool := if p.1 = q.1 ∧ valR p ≤ valR q ∧ valR q - valR p ≤ 9223372036854775807 then (valR q - valR p, true) else (0, false)
def gapTo (x : Bool) (h l : Int) (y : Bool) (g m : Int) : Int × Bool := gapR (rightA x h l) (rightA y g m)
theorem cmpR_neg (p q : Bool × Int × Int) (e : p.1 = q.1) : cmpR q p < 0 ↔ valR q < valR p := by
  obtain ⟨p0, p1, p2⟩ := p
  obtain ⟨q0, q1, q2⟩ := q
  simp only at e
  subst e
  simp only [cmpR, valR, cmpI]
  rw [if_neg (show ¬ (p0 = false ∧ p0 = true) by rintro ⟨rfl, h⟩; cases h), if_neg (show ¬ (p0 = true ∧ p0 = false) by rintro ⟨rfl, h⟩; cases h)]
  repeat' split
  all_goals omega
theorem spec_GapTo_j0 (p0 : Bool) (p1 p2 : Int) (q1 q2 : Int) (z : Bool) (hz : z = decide (valR (p0, q1, q2) < valR (p0, p1, p2))) : Ev (fun k => spec_GapTo.j0 k z p0 p1 p2 p0 q1 q2) (gapR (p0, p1, p2) (p0, q1, q2)) := by
  have hf : z = false ∧ ¬ valR (p0, q1, q2) < valR (p0, p1, p2) ∨ z = true ∧ valR (p0, q1, q2) < valR (p0, p1, p2) := by
    by_cases h : valR (p0, q1, q2) < valR (p0, p1, p2)
    · exact Or.inr ⟨hz.trans (decide_eq_true h), h⟩
    · exact Or.inl ⟨hz.trans (decide_eq_false h), h⟩
  clear hz
  refine Ev.step (f := fun _ => some _) (fun k => ?_) (Ev.now _)
  rw [spec_GapTo.j0, spec_l1Less_e]
  simp only [Option.bind_some, u64w, decide_eq_true_eq, gapR, valR, true_and] at hf ⊢
  rcases hf with ⟨rfl, h⟩ | ⟨rfl, h⟩
  rotate_left
  · rw [if_pos rfl, if_neg (by omega)]
  · rw [if_neg (by decide)]
    by_cases h1 : q2 % 18446744073709551616 < p2 % 18446744073709551616
    · rw [if_pos h1]
      by_cases h2 : ((q1 % 18446744073709551616 - p1 % 18446744073709551616) % 18446744073709551616 - 1) % 18446744073709551616 = 0
      · rw [if_pos h2]
        by_cases h3 : (q2 % 18446744073709551616 - p2 % 18446744073709551616) % 18446744073709551616 > 9223372036854775807
        · rw [if_pos h3, if_neg (by omega)]
        · rw [if_neg h3, if_pos (by omega), w64 (by omega) (by omega)]
          congr 2
          omega
      · rw [if_neg h2, if_neg (by omega)]
    · rw [if_neg h1]
      by_cases h2 : (q1 % 18446744073709551616 - p1 % 18446744073709551616) % 18446744073709551616 = 0
      · rw [if_pos h2]
        by_cases h3 : (q2 % 18446744073709551616 - p2 % 18446744073709551616) % 18446744073709551616 > 9223372036854775807
        · rw [if_pos h3, if_neg (by omega)]
        · rw [if_neg h3, if_pos (by omega), w64 (by omega) (by omega)]
          congr 2
          omega
      · rw [if_neg h2, if_neg (by omega)]
theorem spec_GapTo_ev (x : Bool) (h l : Int) (y : Bool) (g m : Int) (hh : in64 h) (hl : in64 l) (hg : in64 g) (hm : in64 m) : Ev (fun k => spec_GapTo.f k x h l y g m) (gapTo x h l y g m) := by
  unfold gapTo
  refine Ev.val (spec_l1Addr_e x h l) (Ev.val (spec_l1Addr_e y g m) ?_)
  have r1 := rightA_right x h l hh hl
  have r2 := rightA_right y g m hg hm
  have hc : cmpA (rightA y g m).1 (rightA y g m).2.1 (rightA y g m).2.2 (rightA x h l).1 (rightA x h l).2.1 (rightA x h l).2.2 = cmpR (rightA y g m) (rightA x h l) := by
    unfold cmpA
    have idem : ∀ p : Bool × Int × Int, Right p → rightA p.1 p.2.1 p.2.2 = p := by
      intro p hp
      refine rightA_ok ?_
      obtain ⟨p0, p1, p2⟩ := p
      cases p0
      · have := hp.four rfl
        simp [addrOk]; simp at this; omega
      · rfl
    rw [idem _ r1, idem _ r2]
  generalize rightA x h l = p at r1 hc ⊢
  generalize rightA y g m = q at r2 hc ⊢
  obtain ⟨p0, p1, p2⟩ := p
  obtain ⟨q0, q1, q2⟩ := q
  by_cases e : p0 = q0
  · subst e
    refine Ev.ite_neg (by simp) (Ev.val (spec_CmpAddr_e p0 q1 q2 p0 p1 p2 r2.hi r2.lo r1.hi r1.lo) ?_)
    refine spec_GapTo_j0 p0 p1 p2 q1 q2 _ ?_
    rw [hc]
    congr 1
    exact propext (cmpR_neg (p0, p1, p2) (p0, q1, q2) rfl)
  · refine Ev.ite_pos (by simp [e]) (Ev.step (f := fun _ => some (0, false)) (fun k => by rw [spec_GapTo.j0, if_pos rfl]) (Ev.mid ?_ (Ev.now _)))
    simp [gapR, e]
theorem impl_GapTo_j0 (p0 : Bool) (p1 p2 : Int) (q1 q2 : Int) (z : Bool) (hz : z = decide (valR (p0, q1, q2) < valR (p0, p1, p2))) : Ev (fun k => impl_GapTo.j0 k z p0 p1 p2 p0 q1 q2) (gapR (p0, p1, p2) (p0, q1, q2)) := by
  have hf : z = false ∧ ¬ valR (p0, q1, q2) < valR (p0, p1, p2) ∨ z = true ∧ valR (p0, q1, q2) < valR (p0, p1, p2) := by
    by_cases h : valR (p0, q1, q2) < valR (p0, p1, p2)
    · exact Or.inr ⟨hz.trans (decide_eq_true h), h⟩
    · exact Or.inl ⟨hz.trans (decide_eq_false h), h⟩
  clear hz
  refine Ev.step (f := fun _ => some _) (fun k => ?_) (Ev.now _)
  rw [impl_GapTo.j0]
  simp only [u64w, decide_eq_true_eq, gapR, valR, true_and] at hf ⊢
  have hs : ∀ (a c b : Int), 0 ≤ a → a < 18446744073709551616 → 0 ≤ c → c < 18446744073709551616 → 0 ≤ b → b ≤ 1 → sub64s a c b = (a - c - b) % 18446744073709551616 := by
    intro a c b h1 h2 h3 h4 h5 h6
    unfold sub64s
    omega
  have hc : sub64c (q2 % 18446744073709551616) (p2 % 18446744073709551616) 0 = if q2 % 18446744073709551616 < p2 % 18446744073709551616 then 1 else 0 := by
    unfold sub64c
    split <;> split <;> omega
  rw [hs (q2 % 18446744073709551616) (p2 % 18446744073709551616) 0 (by omega) (by omega) (by omega) (by omega) (by omega) (by omega), hc]
  rcases hf with ⟨rfl, h⟩ | ⟨rfl, h⟩
  rotate_left
  · rw [if_pos rfl, if_neg (by omega)]
  · rw [if_neg (by decide)]
    have wr : ∀ a : Int, 0 ≤ a → a < 18446744073709551616 → (wrap64 a < 0 ↔ a > 9223372036854775807) := by
      intro a h1 h2
      unfold wrap64
      omega
    have hw := wr ((q2 % 18446744073709551616 - p2 % 18446744073709551616 - 0) % 18446744073709551616) (by omega) (by omega)
    by_cases h1 : q2 % 18446744073709551616 < p2 % 18446744073709551616
    · rw [if_pos h1, hs (q1 % 18446744073709551616) (p1 % 18446744073709551616) 1 (by omega) (by omega) (by omega) (by omega) (by omega) (by omega)]
      by_cases h2 : (q1 % 18446744073709551616 - p1 % 18446744073709551616 - 1) % 18446744073709551616 = 0
      · rw [if_pos h2]
        by_cases h3 : (q2 % 18446744073709551616 - p2 % 18446744073709551616 - 0) % 18446744073709551616 > 9223372036854775807
        · rw [if_pos (hw.2 h3), if_neg (by omega)]
        · rw [if_neg (fun h => h3 (hw.1 h)), if_pos (by omega), w64 (by omega) (by omega)]
          congr 2
          omega
      · rw [if_neg h2, if_neg (by omega)]
    · rw [if_neg h1, hs (q1 % 18446744073709551616) (p1 % 18446744073709551616) 0 (by omega) (by omega) (by omega) (by omega) (by omega) (by omega)]
      by_cases h2 : (q1 % 18446744073709551616 - p1 % 18446744073709551616 - 0) % 18446744073709551616 = 0
      · rw [if_pos h2]
        by_cases h3 : (q2 % 18446744073709551616 - p2 % 18446744073709551616 - 0) % 18446744073709551616 > 9223372036854775807
        · rw [if_pos (hw.2 h3), if_neg (by omega)]
        · rw [if_neg (fun h => h3 (hw.1 h)), if_pos (by omega), w64 (by omega) (by omega)]
          congr 2
          omega
      · rw [if_neg h2, if_neg (by omega)]
theorem impl_GapTo_ev (x : Bool) (h l : Int) (y : Bool) (g m : Int) (hh : in64 h) (hl : in64 l) (hg : in64 g) (hm : in64 m) : Ev (fun k => impl_GapTo.f k x h l y g m) (gapTo x h l y g m) := by
  unfold gapTo
  refine Ev.val (impl_right_e x h l) (Ev.val (impl_right_e y g m) ?_)
  have r1 := rightA_right x h l hh hl
  have r2 := rightA_right y g m hg hm
  have hc : cmpA (rightA y g m).1 (rightA y g m).2.1 (rightA y g m).2.2 (rightA x h l).1 (rightA x h l).2.1 (rightA x h l).2.2 = cmpR (rightA y g m) (rightA x h l) := by
    unfold cmpA
    have idem : ∀ p : Bool × Int × Int, Right p → rightA p.1 p.2.1 p.2.2 = p := by
      intro p hp
      refine rightA_ok ?_
      obtain ⟨p0, p1, p2⟩ := p
      cases p0
      · have := hp.four rfl
        simp [addrOk]; simp at this; omega
      · rfl
    rw [idem _ r1, idem _ r2]
  generalize rightA x h l = p at r1 hc ⊢
  generalize rightA y g m = q at r2 hc ⊢
  obtain ⟨p0, p1, p2⟩ := p
  obtain ⟨q0, q1, q2⟩ := q
  by_cases e : p0 = q0
  · subst e
    refine Ev.ite_neg (by simp) (Ev.bind (impl_CmpAddr_ev p0 q1 q2 p0 p1 p2) ?_)
    refine impl_GapTo_j0 p0 p1 p2 q1 q2 _ ?_
    rw [hc]
    congr 1
    exact propext (cmpR_neg (p0, p1, p2) (p0, q1, q2) rfl)
  · refine Ev.ite_pos (by simp [e]) (Ev.step (f := fun _ => some (0, false)) (fun k => by rw [impl_GapTo.j0, if_pos rfl]) (Ev.mid ?_ (Ev.now _)))
    simp [gapR, e]

theorem FnExactGapTo (x : Bool) (h l : Int) (y : Bool) (g m : Int) (hh : (Lit.int .i64 h).wf = true) (hl : (Lit.int .i64 l).wf = true) (hg : (Lit.int .i64 g).wf = true) (hm : (Lit.int .i64 m).wf = true) : ∃ k, laws_FnExactGapTo.f k x h l y g m = some true := by
  refine Ev.rounds ?_
  have e1 := spec_GapTo_ev x h l y g m (wf_in hh) (wf_in hl) (wf_in hg) (wf_in hm)
  have e2 := impl_GapTo_ev x h l y g m (wf_in hh) (wf_in hl) (wf_in hg) (wf_in hm)
  simp only [laws_FnExactGapTo.f, laws_toAddr.f, Option.bind_some]
  exact Ev.bind e1 (Ev.bind e2 (Ev.ite_pos rfl (Ev.ite_neg (by simp) (Ev.now true))))

end Go.Proofs.Ytigmadccchofiaa.Pure
