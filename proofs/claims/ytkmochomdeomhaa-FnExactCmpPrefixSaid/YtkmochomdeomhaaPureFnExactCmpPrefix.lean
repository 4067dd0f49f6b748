/-
The pure part of the statement FnExactCmpPrefix: what the printed functions answer is true at every input.
Conditions: none but the kinds' own bounds, as the printed statement has them.
-/
import Derived.Test.YtkmochomdeomhaaQFnExactCmpPrefixx0
import Derived.Test.YtkmochomdeomhaaQFnExactCmpPrefixx1
import Derived.Test.YtkmochomdeomhaaQFnExactCmpPrefixx2
import Derived.Test.YtkmochomdeomhaaQFnExactCmpPrefixx3
namespace Go.Proofs.Ytkmochomdeomhaa.Pure
open Go.RowKit Go.Proofs.Ytkmochomdeomhaa.QFnExactCmpPrefix Go.Proofs.YtkmochomdeomhaaW.PrintWords Go.Proofs.YtkmochomdeomhaaW.PrintLast Go.Proofs.YtkmochomdeomhaaW.PrintMore
set_option linter.unusedVariables false
set_option linter.unusedSimpArgs false

theorem wf64 {x : Int} (h : (Lit.int .i64 x).wf = true) : -9223372036854775808 ≤ x ∧ x ≤ 9223372036854775807 := by
  simpa [Lit.wf, IntKind.min, IntKind.max, IntKind.signed, IntKind.bits] using h
theorem wf8 {x : Int} (h : (Lit.int .u8 x).wf = true) : 0 ≤ x ∧ x ≤ 255 := by
  simpa [Lit.wf, IntKind.min, IntKind.max, IntKind.signed, IntKind.bits] using h
theorem w64 {x : Int} (h0 : -9223372036854775808 ≤ x) (h1 : x ≤ 9223372036854775807) : wrap64 x = x := by unfold wrap64; omega
theorem u64w (n : Int) : IntKind.u64.wrap n = n % 18446744073709551616 := by simp [IntKind.wrap, IntKind.bits, IntKind.signed]
theorem u64in {x : Int} (h0 : 0 ≤ x) (h1 : x < 18446744073709551616) : IntKind.u64.wrap x = x := by rw [u64w]; omega
theorem rd_get (xs : List Int) (i : Int) (j : Nat) (x : Int) (hi : i = j) (h : xs[j]? = some x) : rd xs i = x := by
  subst hi
  simp [rd, List.getD, h]
theorem Ev.mid {α : Type} {g : Nat → Option α} {a b : α} (h : a = b) (e : Ev g a) : Ev g b := h ▸ e
theorem Ev.const {α : Type} {g : Nat → Option α} {a : α} (h : ∀ k, g k = some a) : Ev g a := ⟨0, fun k _ => h k⟩
theorem Ev.ite_pos {α : Type} {c : Prop} [Decidable c] {g f : Nat → Option α} {r : α} (hc : c) (h : Ev g r) : Ev (fun k => if c then g k else f k) r := by
  simp only [if_pos hc]
  exact h
theorem Ev.ite_neg {α : Type} {c : Prop} [Decidable c] {g f : Nat → Option α} {r : α} (hc : ¬ c) (h : Ev f r) : Ev (fun k => if c then g k else f k) r := by
  simp only [if_neg hc]
  exact h
/-- A part that has no rounds. -/
theorem Ev.val {α β : Type} {o : Option α} {f : Nat → α → Option β} {a : α} {r : β} (h : o = some a) (k : Ev (fun n => f n a) r) : Ev (fun n => o.bind (f n)) r := by
  subst h
  exact k

theorem l1In_e (a b c : Int) : spec_l1In.f a b c = some (decide (b ≤ a ∧ a ≤ c)) := by
  unfold spec_l1In.f
  by_cases h : a ≥ b
  · simp [if_pos h, h]
  · simp [if_neg h]; omega
theorem from_e (a b c : Int) : impl_from.f a b c = some (decide (b ≤ a ∧ a ≤ c)) := by
  unfold impl_from.f
  by_cases h : a ≥ b
  · simp [if_pos h, h]
  · simp [if_neg h]; omega
/-- An address is right. -/
def addrOk (x : Bool) (h l : Int) : Bool := x || (decide (h = 0) && decide (0 ≤ l ∧ l ≤ 4294967295))
theorem spec_AddrOk_e (x : Bool) (h l : Int) : spec_AddrOk.f x h l = some (addrOk x h l) := by
  unfold spec_AddrOk.f addrOk
  cases x
  · by_cases hh : h = 0
    · simp [hh, l1In_e]
    · simp [hh]
  · rfl
theorem impl_AddrOk_e (x : Bool) (h l : Int) : impl_AddrOk.f x h l = some (addrOk x h l) := by
  unfold impl_AddrOk.f addrOk
  cases x
  · by_cases hh : h = 0
    · simp [hh, from_e]
    · simp [hh]
  · rfl

/-- An address, or the zero one of what is none. -/
def rightA (x : Bool) (h l : Int) : Bool × Int × Int := if addrOk x h l = true then (x, h, l) else (false, 0, 0)
def in64 (z : Int) : Prop := -9223372036854775808 ≤ z ∧ z ≤ 9223372036854775807
theorem wf_in {z : Int} (h : (Lit.int .i64 z).wf = true) : in64 z := wf64 h
theorem in64_zero : in64 0 := by unfold in64; omega
theorem wrap_in {z : Int} (h : in64 z) : wrap64 (z % 18446744073709551616) = z := by unfold in64 at h; unfold wrap64; omega
theorem wrap_is (z : Int) : in64 (wrap64 z) := by unfold wrap64 in64; omega
theorem u_inj {a b : Int} (ha : in64 a) (hb : in64 b) (h : a % 18446744073709551616 = b % 18446744073709551616) : a = b := by unfold in64 at ha hb; omega
/-- What is right: of 32 bits its upper half is 0, its lower one below 2^32. -/
structure Right (p : Bool × Int × Int) : Prop where
  four : p.1 = false → p.2.1 = 0 ∧ 0 ≤ p.2.2 ∧ p.2.2 ≤ 4294967295
  hi : in64 p.2.1
  lo : in64 p.2.2
theorem rightA_right (x : Bool) (h l : Int) (hh : in64 h) (hl : in64 l) : Right (rightA x h l) := by
  unfold rightA
  by_cases ha : addrOk x h l = true
  · rw [if_pos ha]
    refine ⟨fun hx => ?_, hh, hl⟩
    simp only at hx
    subst hx
    simpa [addrOk] using ha
  · rw [if_neg ha]
    exact ⟨fun _ => ⟨rfl, by simp⟩, in64_zero, in64_zero⟩
theorem rightA_ok {x : Bool} {h l : Int} (ha : addrOk x h l = true) : rightA x h l = (x, h, l) := if_pos ha
theorem spec_l1Addr_e (x : Bool) (h l : Int) : spec_l1Addr.f x h l = some (rightA x h l) := by
  unfold spec_l1Addr.f rightA
  rw [spec_AddrOk_e]
  simp only [Option.bind_some]
  by_cases ha : addrOk x h l = true
  · rw [if_pos ha, if_pos ha]
  · rw [if_neg ha, if_neg ha]
theorem impl_right_e (x : Bool) (h l : Int) : impl_right.f x h l = some (rightA x h l) := by
  unfold impl_right.f rightA
  rw [impl_AddrOk_e]
  simp only [Option.bind_some]
  by_cases ha : addrOk x h l = true
  · rw [if_pos ha, if_pos ha]
  · rw [if_neg ha, if_neg ha]

def cmpI (a b : Int) : Int := if a < b then -1 else if b < a then 1 else 0
/-- Two addresses that are right, compared. -/
def cmpR (p q : Bool × Int × Int) : Int :=
  if p.1 = false ∧ q.1 = true then -1 else if p.1 = true ∧ q.1 = false then 1 else
  if p.2.1 % 18446744073709551616 < q.2.1 % 18446744073709551616 then -1 else if q.2.1 % 18446744073709551616 < p.2.1 % 18446744073709551616 then 1 else
  cmpI (p.2.2 % 18446744073709551616) (q.2.2 % 18446744073709551616)
def cmpA (x : Bool) (h l : Int) (y : Bool) (g m : Int) : Int := cmpR (rightA x h l) (rightA y g m)
theorem spec_l1Less_e (a b : Int) : spec_l1Less.f a b = some (decide (a % 18446744073709551616 < b % 18446744073709551616)) := by
  unfold spec_l1Less.f
  rw [u64w, u64w]
theorem spec_CmpAddr_e (x : Bool) (h l : Int) (y : Bool) (g m : Int) (hh : in64 h) (hl : in64 l) (hg : in64 g) (hm : in64 m) : spec_CmpAddr.f x h l y g m = some (cmpA x h l y g m) := by
  unfold spec_CmpAddr.f cmpA
  rw [spec_l1Addr_e, spec_l1Addr_e]
  have r1 := rightA_right x h l hh hl
  have r2 := rightA_right y g m hg hm
  generalize rightA x h l = p at r1 ⊢
  generalize rightA y g m = q at r2 ⊢
  obtain ⟨p0, p1, p2⟩ := p
  obtain ⟨q0, q1, q2⟩ := q
  simp only [Option.bind_some, spec_l1Less_e, decide_eq_true_eq, cmpR, cmpI]
  have key : (if p1 = q1 then (if p2 = q2 then some (0 : Int) else (if p1 % 18446744073709551616 < q1 % 18446744073709551616 then some (-1) else if p2 % 18446744073709551616 < q2 % 18446744073709551616 then some (-1) else some 1)) else (if p1 % 18446744073709551616 < q1 % 18446744073709551616 then some (-1) else some 1)) =
      some (if p1 % 18446744073709551616 < q1 % 18446744073709551616 then -1 else if q1 % 18446744073709551616 < p1 % 18446744073709551616 then 1 else if p2 % 18446744073709551616 < q2 % 18446744073709551616 then -1 else if q2 % 18446744073709551616 < p2 % 18446744073709551616 then 1 else 0) := by
    by_cases h1 : p1 = q1
    · subst h1
      rw [if_pos rfl]
      have hi : ¬ p1 % 18446744073709551616 < p1 % 18446744073709551616 := by omega
      simp only [if_neg hi]
      by_cases h2 : p2 = q2
      · subst h2
        have hi2 : ¬ p2 % 18446744073709551616 < p2 % 18446744073709551616 := by omega
        simp only [if_neg hi2, if_true]
      · have hne : p2 % 18446744073709551616 ≠ q2 % 18446744073709551616 := fun h => h2 (u_inj r1.lo r2.lo h)
        rw [if_neg h2]
        by_cases h3 : p2 % 18446744073709551616 < q2 % 18446744073709551616
        · rw [if_pos h3, if_pos h3]
        · rw [if_neg h3, if_neg h3, if_pos (by omega)]
    · have hne : p1 % 18446744073709551616 ≠ q1 % 18446744073709551616 := fun h => h1 (u_inj r1.hi r2.hi h)
      rw [if_neg h1]
      by_cases h3 : p1 % 18446744073709551616 < q1 % 18446744073709551616
      · rw [if_pos h3, if_pos h3]
      · rw [if_neg h3, if_neg h3, if_pos (by omega)]
  cases p0 <;> cases q0 <;> simp [key]
theorem compare_e (a b : Int) : cmp_Compare_uint64.f a b = some (cmpI a b) := by
  unfold cmp_Compare_uint64.f cmp_isNaN_uint64.f cmpI
  simp
  split
  · rfl
  · split <;> rfl
theorem cmpI_zero {a b : Int} (h : cmpI a b = 0) : a = b := by
  unfold cmpI at h
  split at h
  · cases h
  · split at h
    · cases h
    · omega
theorem impl_CmpAddr_j1 (p0 : Bool) (p1 p2 : Int) (q0 : Bool) (q1 q2 : Int) (e : p0 = q0) : Ev (fun k => impl_CmpAddr.j1 k p0 p1 p2 q0 q1 q2) (cmpR (p0, p1, p2) (q0, q1, q2)) := by
  subst e
  refine Ev.step (f := fun _ => some _) (fun k => ?_) (Ev.now _)
  rw [impl_CmpAddr.j1, compare_e, compare_e]
  simp only [Option.bind_some, u64w, cmpR]
  rw [if_neg (show ¬ (p0 = false ∧ p0 = true) by rintro ⟨rfl, h⟩; cases h), if_neg (show ¬ (p0 = true ∧ p0 = false) by rintro ⟨rfl, h⟩; cases h)]
  by_cases h1 : p1 % 18446744073709551616 < q1 % 18446744073709551616
  · rw [if_pos h1]
    simp [cmpI, h1]
  · rw [if_neg h1]
    by_cases h2 : q1 % 18446744073709551616 < p1 % 18446744073709551616
    · rw [if_pos h2]
      simp [cmpI, h1, h2]
    · rw [if_neg h2]
      simp [cmpI, h1, h2]
theorem impl_CmpAddr_ev (x : Bool) (h l : Int) (y : Bool) (g m : Int) : Ev (fun k => impl_CmpAddr.f k x h l y g m) (cmpA x h l y g m) := by
  unfold cmpA
  refine Ev.val (impl_right_e x h l) ?_
  refine Ev.val (impl_right_e y g m) ?_
  generalize rightA x h l = p
  generalize rightA y g m = q
  obtain ⟨p0, p1, p2⟩ := p
  obtain ⟨q0, q1, q2⟩ := q
  cases p0
  · refine Ev.ite_neg (by simp) ?_
    cases q0
    · exact Ev.step (fun k => by rw [impl_CmpAddr.j0, if_neg (by simp), if_neg (by simp)]) (impl_CmpAddr_j1 false p1 p2 false q1 q2 rfl)
    · refine Ev.step (f := fun _ => some (-1)) (fun k => by rw [impl_CmpAddr.j0, if_pos rfl]) (Ev.mid ?_ (Ev.now _))
      simp [cmpR]
  · refine Ev.ite_pos rfl ?_
    cases q0
    · refine Ev.step (f := fun _ => some 1) (fun k => by rw [impl_CmpAddr.j0, if_neg (by simp), if_pos rfl, if_neg (by simp)]) (Ev.mid ?_ (Ev.now _))
      simp [cmpR]
    · exact Ev.step (fun k => by rw [impl_CmpAddr.j0, if_neg (by simp), if_pos rfl, if_pos rfl]) (impl_CmpAddr_j1 true p1 p2 true q1 q2 rfl)

def cmpP (x : Bool) (h l b : Int) (y : Bool) (g m c : Int) : Int := if cmpA x h l y g m = 0 then cmpI b c else cmpA x h l y g m
theorem spec_CmpPrefix_e (x : Bool) (h l b : Int) (y : Bool) (g m c : Int) (hh : in64 h) (hl : in64 l) (hg : in64 g) (hm : in64 m) : spec_CmpPrefix.f x h l b y g m c = some (cmpP x h l b y g m c) := by
  unfold spec_CmpPrefix.f cmpP
  rw [spec_CmpAddr_e x h l y g m hh hl hg hm]
  simp only [Option.bind_some, cmpI]
  split
  · split
    · rfl
    · split <;> simp_all
  · rfl
theorem compareI_e (a b : Int) : cmp_Compare_int.f a b = some (cmpI a b) := by
  unfold cmp_Compare_int.f cmp_isNaN_int.f cmpI
  simp
  split
  · rfl
  · split <;> rfl
theorem impl_CmpPrefix_ev (x : Bool) (h l b : Int) (y : Bool) (g m c : Int) : Ev (fun k => impl_CmpPrefix.f k x h l b y g m c) (cmpP x h l b y g m c) := by
  refine Ev.bind (impl_CmpAddr_ev x h l y g m) ?_
  unfold cmpP
  by_cases h0 : cmpA x h l y g m = 0
  · exact Ev.mid (if_pos h0).symm (Ev.ite_pos h0 (Ev.val (compareI_e b c) (Ev.now _)))
  · exact Ev.mid (if_neg h0).symm (Ev.ite_neg h0 (Ev.now _))

theorem FnExactCmpPrefix (x : Bool) (h l b : Int) (y : Bool) (g m c : Int) (hh : (Lit.int .i64 h).wf = true) (hl : (Lit.int .i64 l).wf = true) (hb : (Lit.int .i64 b).wf = true) (hg : (Lit.int .i64 g).wf = true) (hm : (Lit.int .i64 m).wf = true) (hc : (Lit.int .i64 c).wf = true) : ∃ k, laws_FnExactCmpPrefix.f k x h l b y g m c = some true := by
  refine Ev.rounds ?_
  have ev := impl_CmpPrefix_ev x h l b y g m c
  simp only [laws_FnExactCmpPrefix.f, laws_toPrefix.f, laws_toAddr.f, Option.bind_some, spec_CmpPrefix_e x h l b y g m c (wf_in hh) (wf_in hl) (wf_in hg) (wf_in hm)]
  exact Ev.bind ev (Ev.ite_pos rfl (Ev.now true))

end Go.Proofs.Ytkmochomdeomhaa.Pure
