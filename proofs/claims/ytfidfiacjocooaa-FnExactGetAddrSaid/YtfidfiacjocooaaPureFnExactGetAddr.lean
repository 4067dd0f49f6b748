/-
The pure part of the statement FnExactGetAddr: what the printed functions answer is true at every input.
Conditions: none but the kinds' own bounds, as the printed statement has them.
-/
import Derived.Test.YtfidfiacjocooaaQFnExactGetAddrx0
import Derived.Test.YtfidfiacjocooaaQFnExactGetAddrx1
import Derived.Test.YtfidfiacjocooaaQFnExactGetAddrx2
import Derived.Test.YtfidfiacjocooaaQFnExactGetAddrx3
namespace Go.Proofs.Ytfidfiacjocooaa.Pure
open Go.RowKit Go.Proofs.Ytfidfiacjocooaa.QFnExactGetAddr Go.Proofs.YtfidfiacjocooaaW.PrintWords Go.Proofs.YtfidfiacjocooaaW.PrintLast Go.Proofs.YtfidfiacjocooaaW.PrintMore
set_option linter.unusedVariables false
set_option linter.unusedSimpArgs false

theorem wf64 {x : Int} (h : (Lit.int .i64 x).wf = true) : -9223372036854775808 ≤ x ∧ x ≤ 9223372036854775807 := by
  simpa [Lit.wf, IntKind.min, IntKind.max, IntKind.signed, IntKind.bits] using h
theorem wf8 {x : Int} (h : (Lit.int .u8 x).wf = true) : 0 ≤ x ∧ x ≤ 255 := by
  simpa [Lit.wf, IntKind.min, IntKind.max, IntKind.signed, IntKind.bits] using h
theorem w64 {x : Int} (h0 : -9223372036854775808 ≤ x) (h1 : x ≤ 9223372036854775807) : wrap64 x = x := by unfold wrap64; omega
theorem u64w (n : Int) : IntKind.u64.wrap n = n % 18446744073709551616 := by simp [IntKind.wrap, IntKind.bits, IntKind.signed]
theorem u64in {x : Int} (h0 : 0 ≤ x) (h1 : x < 18446744073709551616) : IntKind.u64.wrap x = x := by rw [u64w]; omega
theorem rd_get (xs : List Int) (i : Int) (j : Nat) (x : Int) (hi : i = j) (h : xs[j]? = some x) : rd xs i = x := by
  subst hi
  simp [rd, List.getD, h]
theorem Ev.mid {α : Type} {g : Nat → Option α} {a b : α} (h : a = b) (e : Ev g a) : Ev g b := h ▸ e
theorem Ev.const {α : Type} {g : Nat → Option α} {a : α} (h : ∀ k, g k = some a) : Ev g a := ⟨0, fun k _ => h k⟩
theorem Ev.ite_pos {α : Type} {c : Prop} [Decidable c] {g f : Nat → Option α} {r : α} (hc : c) (h : Ev g r) : Ev (fun k => if c then g k else f k) r := by
  simp only [if_pos hc]
  exact h
theorem Ev.ite_neg {α : Type} {c : Prop} [Decidable c] {g f : Nat → Option α} {r : α} (hc : ¬ c) (h : Ev f r) : Ev (fun k => if c then g k else f k) r := by
  simp only [if_neg hc]
  exact h
/-- A part that has no rounds. -/
theorem Ev.val {α β : Type} {o : Option α} {f : Nat → α → Option β} {a : α} {r : β} (h : o = some a) (k : Ev (fun n => f n a) r) : Ev (fun n => o.bind (f n)) r := by
  subst h
  exact k

theorem eqByteS_l0 (a : List Int) (hn : a.length ≤ 4611686018427387904) (d : Nat) : ∀ (i : Nat), i + d = a.length → Ev (fun k => laws_eqByteS.l0 k a a (i : Int)) true := by
  induction d with
  | zero =>
    intro i h
    exact Ev.step (f := fun _ => some true) (fun k => by rw [laws_eqByteS.l0, if_neg (by omega)]) (Ev.now true)
  | succ d ih =>
    intro i h
    refine Ev.step (fun k => ?_) (ih (i + 1) (by omega))
    rw [laws_eqByteS.l0, if_pos (by omega), if_pos (by omega), if_pos (by omega), if_pos rfl, w64 (by omega) (by omega)]
    rfl
theorem eqByteS_ev (a : List Int) (hn : a.length ≤ 4611686018427387904) : Ev (fun k => laws_eqByteS.f k a a) true := by
  refine Ev.congr (fun k => ?_) (eqByteS_l0 a hn a.length 0 (by omega))
  rw [laws_eqByteS.f, if_pos rfl]
  rfl

theorem toByteS_l0 (a : List Int) (hn : a.length ≤ 4611686018427387904) (d : Nat) : ∀ (i : Nat), i + d = a.length → Ev (fun k => laws_toByteS.l0 k a (a.take i ++ List.replicate d 0) (i : Int)) a := by
  induction d with
  | zero =>
    intro i h
    refine Ev.step (f := fun _ => some a) (fun k => ?_) (Ev.now a)
    rw [laws_toByteS.l0, if_neg (by omega)]
    simp [List.take_of_length_le (show a.length ≤ i by omega)]
  | succ d ih =>
    intro i h
    refine Ev.step (fun k => ?_) (ih (i + 1) (by omega))
    have hi : i < a.length := by omega
    rw [laws_toByteS.l0, if_pos (by omega), if_pos (by omega), if_pos (by simp; omega), w64 (by omega) (by omega)]
    have hr : rd a (i : Int) = a[i] := rd_get a i i _ rfl (List.getElem?_eq_getElem hi)
    have e : (a.take i ++ List.replicate (d + 1) 0).set (i : Int).toNat (rd a (i : Int)) = a.take (i + 1) ++ List.replicate d 0 := by
      have hl : (a.take i).length = i := by simp; omega
      rw [hr, List.take_succ_eq_append_getElem hi, List.set_append_right _ _ (by rw [hl]; simp), hl, List.append_assoc]
      simp [List.replicate_succ]
    rw [e]
    rfl
theorem toByteS_ev (a : List Int) (hn : a.length ≤ 281474976710656) : Ev (fun k => laws_toByteS.f k a) a := by
  refine Ev.congr (fun k => ?_) (toByteS_l0 a (by omega) a.length 0 (by omega))
  rw [laws_toByteS.f, if_pos (by omega), if_pos (by omega)]
  simp

theorem u64or (a b : Nat) (ha : a < 18446744073709551616) (hb : b < 18446744073709551616) : Go.bits .or .u64 (a : Int) (b : Int) = ((a ||| b : Nat) : Int) :=
  (Go.bits_nat .u64 64 (by decide) (fun n h0 h1 => by rw [u64w]; omega) a b ha hb).2
/-- Bits that stand apart: 'or' is the sum. -/
theorem u64or_low (x y : Int) (i : Nat) (hx0 : 0 ≤ x) (hx : x < 2 ^ i) (hy0 : 0 ≤ y) (hy : y % 2 ^ i = 0) (hy1 : y < 18446744073709551616) (hi : i ≤ 64) : Go.bits .or .u64 x y = x + y := by
  obtain ⟨a, rfl⟩ := Int.eq_ofNat_of_zero_le hx0
  obtain ⟨b, rfl⟩ := Int.eq_ofNat_of_zero_le hy0
  have ha : a < 2 ^ i := by exact_mod_cast hx
  have hb : b % 2 ^ i = 0 := by exact_mod_cast hy
  have h2 : (2 : Nat) ^ i ≤ 18446744073709551616 := by
    have := Nat.pow_le_pow_right (show 0 < 2 by decide) hi
    exact Nat.le_trans this (by decide)
  rw [u64or a b (by omega) (by omega), Nat.or_comm]
  have hq : b = 2 ^ i * (b / 2 ^ i) := by
    have := Nat.div_add_mod b (2 ^ i)
    omega
  rw [hq, ← Nat.two_pow_add_eq_or_of_lt ha (b / 2 ^ i)]
  omega
theorem u64or_high (x y : Int) (i : Nat) (hx0 : 0 ≤ x) (hx : x % 2 ^ i = 0) (hx1 : x < 18446744073709551616) (hy0 : 0 ≤ y) (hy : y < 2 ^ i) (hi : i ≤ 64) : Go.bits .or .u64 x y = x + y := by
  have e : Go.bits .or .u64 x y = Go.bits .or .u64 y x := by
    obtain ⟨a, rfl⟩ := Int.eq_ofNat_of_zero_le hx0
    obtain ⟨b, rfl⟩ := Int.eq_ofNat_of_zero_le hy0
    have hb : b < 2 ^ i := by exact_mod_cast hy
    have h2 : (2 : Nat) ^ i ≤ 18446744073709551616 := by
      have := Nat.pow_le_pow_right (show 0 < 2 by decide) hi
      exact Nat.le_trans this (by decide)
    rw [u64or a b (by omega) (by omega), u64or b a (by omega) (by omega), Nat.or_comm]
  rw [e, u64or_low y x i hy0 hy hx0 hx hx1 hi]
  omega

/-- Bytes as a number, the highest first, 64 bits of it. -/
def be : Int → List Int → Int
  | x, [] => x
  | x, c :: cs => be ((x * 256) % 18446744073709551616 + c) cs
theorem be_or (x c : Int) (hc0 : 0 ≤ c) (hc1 : c ≤ 255) : Go.bits .or .u64 (IntKind.u64.wrap (x * 256)) (IntKind.u64.wrap c) = (x * 256) % 18446744073709551616 + c := by
  rw [u64w, u64w, show c % 18446744073709551616 = c by omega]
  exact u64or_high _ _ 8 (by omega) (by omega) (by omega) hc0 (by omega) (by decide)
theorem narrow_l0 (l : List Int) (hl : l.length ≤ 4611686018427387904) (hb : ∀ c ∈ l, 0 ≤ c ∧ c ≤ 255) (d : Nat) : ∀ (i : Nat) (x : Int), i + d = l.length →
    Ev (fun k => impl_narrow.l0 k x l (l.length : Int) (i : Int)) (wrap64 (be x (l.drop i))) := by
  induction d with
  | zero =>
    intro i x h
    refine Ev.step (f := fun _ => some _) (fun k => ?_) (Ev.now _)
    rw [impl_narrow.l0, if_neg (by omega), List.drop_eq_nil_of_le (by omega)]
    rfl
  | succ d ih =>
    intro i x h
    have hi : i < l.length := by omega
    have hr : rd l (i : Int) = l[i] := rd_get l i i _ rfl (List.getElem?_eq_getElem hi)
    have hc := hb l[i] (List.getElem_mem hi)
    refine Ev.step (fun k => ?_) (Ev.mid ?_ (ih (i + 1) ((x * 256) % 18446744073709551616 + l[i]) (by omega)))
    · rw [impl_narrow.l0, if_pos (by omega), if_pos (by omega), if_pos (by omega), hr, be_or x _ hc.1 hc.2, w64 (by omega) (by omega)]
      rfl
    · rw [List.drop_eq_getElem_cons hi]
      rfl
theorem narrow_ev (l : List Int) (hl : l.length ≤ 4611686018427387904) (hb : ∀ c ∈ l, 0 ≤ c ∧ c ≤ 255) : Ev (fun k => impl_narrow.f k l) (wrap64 (be 0 l)) := narrow_l0 l hl hb l.length 0 0 (by omega)
/-- The address that stands in l from a on. -/
def getAddr (l : List Int) (a : Int) : Bool × Int × Int × Int × Bool :=
  if 0 ≤ a ∧ a < l.length then
    (if rd l a = 4 ∧ a + 5 ≤ l.length then (false, 0, wrap64 (be 0 ((l.drop (a + 1).toNat).take 4)), a + 5, true)
    else if rd l a = 6 ∧ a + 17 ≤ l.length then (true, wrap64 (be 0 ((l.drop (a + 1).toNat).take 8)), wrap64 (be 0 ((l.drop (a + 9).toNat).take 8)), a + 17, true) else (false, 0, 0, 0, false))
  else (false, 0, 0, 0, false)
theorem mem_sub {l : List Int} {c : Int} (n m : Nat) (h : c ∈ (l.drop n).take m) : c ∈ l := List.mem_of_mem_drop (List.mem_of_mem_take h)
theorem from_g (a b c : Int) : impl_from.f a b c = some (decide (b ≤ a ∧ a ≤ c)) := by
  unfold impl_from.f
  by_cases h : a ≥ b
  · simp [if_pos h, h]
  · simp [if_neg h]; omega
theorem impl_GetAddr_ev (l : List Int) (hl : l.length ≤ 4611686018427387000) (hb : ∀ c ∈ l, 0 ≤ c ∧ c ≤ 255) (a : Int) (ha : -9223372036854775808 ≤ a ∧ a ≤ 9223372036854775807) : Ev (fun k => impl_GetAddr.f k l a) (getAddr l a) := by
  unfold getAddr
  refine Ev.val (from_g a 0 _) ?_
  rw [w64 (x := (l.length : Int) - 1) (by omega) (by omega)]
  by_cases h : 0 ≤ a ∧ a < l.length
  · refine Ev.mid (if_pos h).symm (Ev.ite_pos (by simp; omega) ?_)
    rw [w64 (x := a + 1) (by omega) (by omega)]
    refine Ev.ite_pos (by omega) (Ev.ite_pos (by omega) (Ev.ite_pos h.1 (Ev.ite_pos h.2 ?_)))
    have hr : ((l.drop (a + 1).toNat).length : Int) = l.length - a - 1 := by rw [List.length_drop]; omega
    have j1 : ∀ z : Bool, z = decide (rd l a = 6 ∧ a + 17 ≤ l.length) → ¬ (rd l a = 4 ∧ a + 5 ≤ l.length) →
        Ev (fun k => impl_GetAddr.j1 k a (l.drop (a + 1).toNat) z) (if rd l a = 4 ∧ a + 5 ≤ l.length then (false, 0, wrap64 (be 0 ((l.drop (a + 1).toNat).take 4)), a + 5, true) else if rd l a = 6 ∧ a + 17 ≤ l.length then (true, wrap64 (be 0 ((l.drop (a + 1).toNat).take 8)), wrap64 (be 0 ((l.drop (a + 9).toNat).take 8)), a + 17, true) else (false, 0, 0, 0, false)) := by
      intro z hz h4
      by_cases h6 : rd l a = 6 ∧ a + 17 ≤ l.length
      · obtain rfl : z = true := hz.trans (decide_eq_true h6)
        refine Ev.step (f := fun k => (impl_narrow.f k ((l.drop (a + 1).toNat).take 8)).bind fun t => (impl_narrow.f k (((l.drop (a + 1).toNat).take 16).drop 8)).bind fun u => some (true, t, u, wrap64 (a + 17), true)) (fun k => ?_) ?_
        · have h16 : (16 : Int) ≤ ((l.drop (a + 1).toNat).length : Int) := by omega
          rw [impl_GetAddr.j1, if_pos rfl, if_pos (by omega)]
          simp only [if_pos h16, if_pos (show (8 : Int) ≤ 16 by decide)]
          rfl
        · refine Ev.bind (narrow_ev _ (by simp; omega) (fun c hc => hb c (mem_sub _ _ hc))) ?_
          have e : ((l.drop (a + 1).toNat).take 16).drop 8 = (l.drop (a + 9).toNat).take 8 := by
            rw [List.drop_take, List.drop_drop]
            congr 2
            omega
          rw [e]
          refine Ev.bind (narrow_ev _ (by simp; omega) (fun c hc => hb c (mem_sub _ _ hc))) (Ev.mid ?_ (Ev.now _))
          rw [if_neg h4, if_pos h6, w64 (x := a + 17) (by omega) (by omega)]
      · obtain rfl : z = false := hz.trans (decide_eq_false h6)
        refine Ev.step (f := fun _ => some _) (fun k => ?_) (Ev.mid ?_ (Ev.now (false, 0, 0, 0, false)))
        · rw [impl_GetAddr.j1, if_neg (by decide)]
        · rw [if_neg h4, if_neg h6]
    have j0 : ∀ z : Bool, z = decide (rd l a = 4 ∧ a + 5 ≤ l.length) →
        Ev (fun k => impl_GetAddr.j0 k l a (l.drop (a + 1).toNat) z) (if rd l a = 4 ∧ a + 5 ≤ l.length then (false, 0, wrap64 (be 0 ((l.drop (a + 1).toNat).take 4)), a + 5, true) else if rd l a = 6 ∧ a + 17 ≤ l.length then (true, wrap64 (be 0 ((l.drop (a + 1).toNat).take 8)), wrap64 (be 0 ((l.drop (a + 9).toNat).take 8)), a + 17, true) else (false, 0, 0, 0, false)) := by
      intro z hz
      by_cases h4 : rd l a = 4 ∧ a + 5 ≤ l.length
      · obtain rfl : z = true := hz.trans (decide_eq_true h4)
        refine Ev.step (f := fun k => (impl_narrow.f k ((l.drop (a + 1).toNat).take 4)).bind fun t => some (false, 0, t, wrap64 (a + 5), true)) (fun k => ?_) ?_
        · rw [impl_GetAddr.j0, if_pos rfl, if_pos (by omega)]
        · refine Ev.bind (narrow_ev _ (by simp; omega) (fun c hc => hb c (mem_sub _ _ hc))) (Ev.mid ?_ (Ev.now _))
          rw [if_pos h4, w64 (x := a + 5) (by omega) (by omega)]
      · obtain rfl : z = false := hz.trans (decide_eq_false h4)
        by_cases h6 : rd l a = 6
        · refine Ev.step (f := fun k => impl_GetAddr.j1 k a (l.drop (a + 1).toNat) (decide (((l.drop (a + 1).toNat).length : Int) ≥ 16))) (fun k => ?_) (j1 _ ?_ h4)
          · rw [impl_GetAddr.j0, if_neg (by decide), if_pos h.1, if_pos h.2, if_pos h6]
          · rw [hr]; simp only [h6, true_and]; congr 1; exact propext ⟨fun h => by omega, fun h => by omega⟩
        · refine Ev.step (f := fun k => impl_GetAddr.j1 k a (l.drop (a + 1).toNat) false) (fun k => ?_) (j1 _ ?_ h4)
          · rw [impl_GetAddr.j0, if_neg (by decide), if_pos h.1, if_pos h.2, if_neg h6]
          · simp [h6]
    by_cases h4 : rd l a = 4
    · refine Ev.ite_pos h4 (j0 _ ?_)
      rw [hr]; simp only [h4, true_and]; congr 1; exact propext ⟨fun h => by omega, fun h => by omega⟩
    · refine Ev.ite_neg h4 (j0 _ ?_)
      simp [h4]
  · exact Ev.mid (if_neg h).symm (Ev.ite_neg (by simp; omega) (Ev.now _))

theorem l1In_g (a b c : Int) : spec_l1In.f a b c = some (decide (b ≤ a ∧ a ≤ c)) := by
  unfold spec_l1In.f
  by_cases h : a ≥ b
  · simp [if_pos h, h]
  · simp [if_neg h]; omega
theorem l3Read_l0 (l : List Int) (hl : l.length ≤ 4611686018427387000) (hb : ∀ c ∈ l, 0 ≤ c ∧ c ≤ 255) (p m : Nat) (hp : p + m ≤ l.length) (d : Nat) : ∀ (i : Nat) (x : Int), i + d = m →
    Ev (fun k => spec_l3Read.l0 k l (p : Int) (m : Int) x (i : Int)) (wrap64 (be x (((l.drop p).take m).drop i))) := by
  induction d with
  | zero =>
    intro i x h
    refine Ev.step (f := fun _ => some _) (fun k => ?_) (Ev.now _)
    rw [spec_l3Read.l0, if_neg (by omega), List.drop_eq_nil_of_le (by simp; omega)]
    rfl
  | succ d ih =>
    intro i x h
    have hi : p + i < l.length := by omega
    have hr : rd l ((p + i : Nat) : Int) = l[p + i] := rd_get l _ _ _ rfl (List.getElem?_eq_getElem hi)
    have hc := hb l[p + i] (List.getElem_mem hi)
    refine Ev.step (fun k => ?_) (Ev.mid ?_ (ih (i + 1) ((x * 256) % 18446744073709551616 + l[p + i]) (by omega)))
    · rw [spec_l3Read.l0, if_pos (by omega), w64 (x := (p : Int) + (i : Int)) (by omega) (by omega), show (p : Int) + (i : Int) = ((p + i : Nat) : Int) by omega, if_pos (by omega), if_pos (by omega), hr, be_or x _ hc.1 hc.2, w64 (by omega) (by omega)]
      rfl
    · rw [List.drop_eq_getElem_cons (show i < ((l.drop p).take m).length by simp; omega)]
      simp [be]
theorem l3Read_ev (l : List Int) (hl : l.length ≤ 4611686018427387000) (hb : ∀ c ∈ l, 0 ≤ c ∧ c ≤ 255) (p m : Nat) (hp : p + m ≤ l.length) : Ev (fun k => spec_l3Read.f k l (p : Int) (m : Int)) (wrap64 (be 0 ((l.drop p).take m))) := l3Read_l0 l hl hb p m hp m 0 0 (by omega)
theorem spec_GetAddr_ev (l : List Int) (hl : l.length ≤ 4611686018427387000) (hb : ∀ c ∈ l, 0 ≤ c ∧ c ≤ 255) (a : Int) (ha : -9223372036854775808 ≤ a ∧ a ≤ 9223372036854775807) : Ev (fun k => spec_GetAddr.f k l a) (getAddr l a) := by
  unfold getAddr
  refine Ev.val (l1In_g a 0 _) ?_
  rw [w64 (x := (l.length : Int) - 1) (by omega) (by omega)]
  by_cases h : 0 ≤ a ∧ a < l.length
  · refine Ev.mid (if_pos h).symm (Ev.ite_pos (by simp; omega) ?_)
    refine Ev.ite_pos h.1 (Ev.ite_pos h.2 ?_)
    obtain ⟨n, rfl⟩ := Int.eq_ofNat_of_zero_le h.1
    have w1 : wrap64 ((n : Int) + 1) = ((n + 1 : Nat) : Int) := by rw [w64 (by omega) (by omega)]; rfl
    have w9 : wrap64 ((n : Int) + 9) = ((n + 9 : Nat) : Int) := by rw [w64 (by omega) (by omega)]; rfl
    have d1 : ((n : Int) + 1).toNat = n + 1 := by omega
    have d9 : ((n : Int) + 9).toNat = n + 9 := by omega
    have wl : wrap64 ((l.length : Int) - (n : Int)) = (l.length : Int) - (n : Int) := w64 (by omega) (by omega)
    have j1 : ∀ z : Bool, z = decide (rd l n = 6 ∧ (n : Int) + 17 ≤ l.length) → ¬ (rd l n = 4 ∧ (n : Int) + 5 ≤ l.length) →
        Ev (fun k => spec_GetAddr.j1 k l n z) (if rd l n = 4 ∧ (n : Int) + 5 ≤ l.length then (false, 0, wrap64 (be 0 ((l.drop ((n : Int) + 1).toNat).take 4)), (n : Int) + 5, true) else if rd l n = 6 ∧ (n : Int) + 17 ≤ l.length then (true, wrap64 (be 0 ((l.drop ((n : Int) + 1).toNat).take 8)), wrap64 (be 0 ((l.drop ((n : Int) + 9).toNat).take 8)), (n : Int) + 17, true) else (false, 0, 0, 0, false)) := by
      intro z hz h4
      by_cases h6 : rd l n = 6 ∧ (n : Int) + 17 ≤ l.length
      · obtain rfl : z = true := hz.trans (decide_eq_true h6)
        refine Ev.step (f := fun k => (spec_l3Read.f k l ((n + 1 : Nat) : Int) ((8 : Nat) : Int)).bind fun t => (spec_l3Read.f k l ((n + 9 : Nat) : Int) ((8 : Nat) : Int)).bind fun u => some (true, t, u, wrap64 ((n : Int) + 17), true)) (fun k => ?_) ?_
        · rw [spec_GetAddr.j1, if_pos rfl, w1, w9]; rfl
        · refine Ev.bind (l3Read_ev l hl hb (n + 1) 8 (by omega)) (Ev.bind (l3Read_ev l hl hb (n + 9) 8 (by omega)) (Ev.mid ?_ (Ev.now _)))
          rw [if_neg h4, if_pos h6, w64 (x := (n : Int) + 17) (by omega) (by omega), d1, d9]
      · obtain rfl : z = false := hz.trans (decide_eq_false h6)
        refine Ev.step (f := fun _ => some _) (fun k => ?_) (Ev.mid ?_ (Ev.now (false, 0, 0, 0, false)))
        · rw [spec_GetAddr.j1, if_neg (by decide)]
        · rw [if_neg h4, if_neg h6]
    have j0 : ∀ z : Bool, z = decide (rd l n = 4 ∧ (n : Int) + 5 ≤ l.length) →
        Ev (fun k => spec_GetAddr.j0 k l n z) (if rd l n = 4 ∧ (n : Int) + 5 ≤ l.length then (false, 0, wrap64 (be 0 ((l.drop ((n : Int) + 1).toNat).take 4)), (n : Int) + 5, true) else if rd l n = 6 ∧ (n : Int) + 17 ≤ l.length then (true, wrap64 (be 0 ((l.drop ((n : Int) + 1).toNat).take 8)), wrap64 (be 0 ((l.drop ((n : Int) + 9).toNat).take 8)), (n : Int) + 17, true) else (false, 0, 0, 0, false)) := by
      intro z hz
      by_cases h4 : rd l n = 4 ∧ (n : Int) + 5 ≤ l.length
      · obtain rfl : z = true := hz.trans (decide_eq_true h4)
        refine Ev.step (f := fun k => (spec_l3Read.f k l ((n + 1 : Nat) : Int) ((4 : Nat) : Int)).bind fun t => some (false, 0, t, wrap64 ((n : Int) + 5), true)) (fun k => ?_) ?_
        · rw [spec_GetAddr.j0, if_pos rfl, w1]; rfl
        · refine Ev.bind (l3Read_ev l hl hb (n + 1) 4 (by omega)) (Ev.mid ?_ (Ev.now _))
          rw [if_pos h4, w64 (x := (n : Int) + 5) (by omega) (by omega), d1]
      · obtain rfl : z = false := hz.trans (decide_eq_false h4)
        by_cases h6 : rd l n = 6
        · refine Ev.step (f := fun k => spec_GetAddr.j1 k l n (decide (wrap64 ((l.length : Int) - (n : Int)) ≥ 17))) (fun k => ?_) (j1 _ ?_ h4)
          · rw [spec_GetAddr.j0, if_neg (by decide), if_pos h.1, if_pos h.2, if_pos h6]
          · rw [wl]; simp only [h6, true_and]; congr 1; exact propext ⟨fun h => by omega, fun h => by omega⟩
        · refine Ev.step (f := fun k => spec_GetAddr.j1 k l n false) (fun k => ?_) (j1 _ ?_ h4)
          · rw [spec_GetAddr.j0, if_neg (by decide), if_pos h.1, if_pos h.2, if_neg h6]
          · simp [h6]
    by_cases h4 : rd l n = 4
    · refine Ev.ite_pos h4 (j0 _ ?_)
      rw [wl]; simp only [h4, true_and]; congr 1; exact propext ⟨fun h => by omega, fun h => by omega⟩
    · refine Ev.ite_neg h4 (j0 _ ?_)
      simp [h4]
  · exact Ev.mid (if_neg h).symm (Ev.ite_neg (by simp; omega) (Ev.now _))

theorem eqAddr_refl (x : Bool) (h l : Int) : laws_eqAddr.f x h l x h l = some true := by simp [laws_eqAddr.f]

theorem FnExactGetAddr (l : List Int) (a : Int) (hb : ∀ x ∈ l, (Lit.int .u8 x).wf = true) (ha : (Lit.int .i64 a).wf = true) : ∃ k, laws_FnExactGetAddr.f k l a = some true := by
  refine Ev.rounds ?_
  by_cases hbig : (l.length : Int) > 1048576
  · exact Ev.ite_pos hbig (Ev.now true)
  refine Ev.ite_neg hbig ?_
  have hb' : ∀ c ∈ l, 0 ≤ c ∧ c ≤ 255 := fun c hc => wf8 (hb c hc)
  refine Ev.bind (toByteS_ev l (by omega)) ?_
  refine Ev.bind (spec_GetAddr_ev l (by omega) hb' a (wf64 ha)) ?_
  refine Ev.bind (toByteS_ev l (by omega)) ?_
  refine Ev.bind (impl_GetAddr_ev l (by omega) hb' a (wf64 ha)) ?_
  refine Ev.val (eqAddr_refl _ _ _) ?_
  refine Ev.ite_pos rfl (Ev.ite_pos rfl ?_)
  have e : ((getAddr l a).2.2.2.2 != (getAddr l a).2.2.2.2) = false := by simp
  simp only [e]
  refine Ev.step (f := fun k => (laws_toByteS.f k l).bind fun t => (laws_eqByteS.f k l t).bind fun u => if u = true then some true else some false) (fun k => ?_) ?_
  · rw [laws_FnExactGetAddr.j0, if_neg (by decide)]
  refine Ev.bind (toByteS_ev l (by omega)) ?_
  refine Ev.bind (eqByteS_ev l (by omega)) ?_
  exact Ev.ite_pos rfl (Ev.now true)

end Go.Proofs.Ytfidfiacjocooaa.Pure
