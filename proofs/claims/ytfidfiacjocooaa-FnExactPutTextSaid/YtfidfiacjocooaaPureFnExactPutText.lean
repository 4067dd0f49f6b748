/-
The pure part of the statement FnExactPutText: what the printed functions answer is true at every input.
Conditions: none but the kinds' own bounds, as the printed statement has them.
-/
import Derived.Test.YtfidfiacjocooaaPFnExactPutTextx0
import Derived.Test.YtfidfiacjocooaaPFnExactPutTextx1
namespace Go.Proofs.Ytfidfiacjocooaa.Pure
open Go.RowKit Go.Proofs.Ytfidfiacjocooaa.PFnExactPutText Go.Proofs.YtfidfiacjocooaaW.PrintWords Go.Proofs.YtfidfiacjocooaaW.PrintLast Go.Proofs.YtfidfiacjocooaaW.PrintMore
set_option linter.unusedVariables false
set_option linter.unusedSimpArgs false

theorem wf64 {x : Int} (h : (Lit.int .i64 x).wf = true) : -9223372036854775808 ≤ x ∧ x ≤ 9223372036854775807 := by
  simpa [Lit.wf, IntKind.min, IntKind.max, IntKind.signed, IntKind.bits] using h
theorem wf8 {x : Int} (h : (Lit.int .u8 x).wf = true) : 0 ≤ x ∧ x ≤ 255 := by
  simpa [Lit.wf, IntKind.min, IntKind.max, IntKind.signed, IntKind.bits] using h
theorem w64 {x : Int} (h0 : -9223372036854775808 ≤ x) (h1 : x ≤ 9223372036854775807) : wrap64 x = x := by unfold wrap64; omega
theorem u64w (n : Int) : IntKind.u64.wrap n = n % 18446744073709551616 := by simp [IntKind.wrap, IntKind.bits, IntKind.signed]
theorem u64in {x : Int} (h0 : 0 ≤ x) (h1 : x < 18446744073709551616) : IntKind.u64.wrap x = x := by rw [u64w]; omega
theorem rd_get (xs : List Int) (i : Int) (j : Nat) (x : Int) (hi : i = j) (h : xs[j]? = some x) : rd xs i = x := by
  subst hi
  simp [rd, List.getD, h]
theorem Ev.mid {α : Type} {g : Nat → Option α} {a b : α} (h : a = b) (e : Ev g a) : Ev g b := h ▸ e
theorem Ev.const {α : Type} {g : Nat → Option α} {a : α} (h : ∀ k, g k = some a) : Ev g a := ⟨0, fun k _ => h k⟩
theorem Ev.ite_pos {α : Type} {c : Prop} [Decidable c] {g f : Nat → Option α} {r : α} (hc : c) (h : Ev g r) : Ev (fun k => if c then g k else f k) r := by
  simp only [if_pos hc]
  exact h
theorem Ev.ite_neg {α : Type} {c : Prop} [Decidable c] {g f : Nat → Option α} {r : α} (hc : ¬ c) (h : Ev f r) : Ev (fun k => if c then g k else f k) r := by
  simp only [if_neg hc]
  exact h
/-- A part that has no rounds. -/
theorem Ev.val {α β : Type} {o : Option α} {f : Nat → α → Option β} {a : α} {r : β} (h : o = some a) (k : Ev (fun n => f n a) r) : Ev (fun n => o.bind (f n)) r := by
  subst h
  exact k

theorem eqByteS_l0 (a : List Int) (hn : a.length ≤ 4611686018427387904) (d : Nat) : ∀ (i : Nat), i + d = a.length → Ev (fun k => laws_eqByteS.l0 k a a (i : Int)) true := by
  induction d with
  | zero =>
    intro i h
    exact Ev.step (f := fun _ => some true) (fun k => by rw [laws_eqByteS.l0, if_neg (by omega)]) (Ev.now true)
  | succ d ih =>
    intro i h
    refine Ev.step (fun k => ?_) (ih (i + 1) (by omega))
    rw [laws_eqByteS.l0, if_pos (by omega), if_pos (by omega), if_pos (by omega), if_pos rfl, w64 (by omega) (by omega)]
    rfl
theorem eqByteS_ev (a : List Int) (hn : a.length ≤ 4611686018427387904) : Ev (fun k => laws_eqByteS.f k a a) true := by
  refine Ev.congr (fun k => ?_) (eqByteS_l0 a hn a.length 0 (by omega))
  rw [laws_eqByteS.f, if_pos rfl]
  rfl

def marks8 (m : Int) (n : Nat) : List Int := (List.range n).map fun i : Nat => (m + (i : Int)) % 256
theorem marks8_len (m : Int) (n : Nat) : (marks8 m n).length = n := by simp [marks8]
theorem marks8_succ (m : Int) (n : Nat) : marks8 m (n + 1) = marks8 m n ++ [(m + (n : Int)) % 256] := by simp [marks8, List.range_succ]
theorem markByteS_l0 (a : List Int) (m : Int) (hn : a.length ≤ 281474976710656) (h0 : 0 ≤ m) (h1 : m ≤ 281474976710656) (d : Nat) :
    ∀ (i : Nat), i + d = a.length → Ev (fun k => laws_markByteS.l0 k (marks8 m i ++ a.drop i) (m + (i : Int)) (i : Int)) (m + (a.length : Int), marks8 m a.length) := by
  induction d with
  | zero =>
    intro i h
    obtain rfl : i = a.length := by omega
    refine Ev.step (f := fun _ => some _) (fun k => ?_) (Ev.now _)
    rw [laws_markByteS.l0, if_neg (by simp [marks8_len])]
    simp
  | succ d ih =>
    intro i h
    refine Ev.step (fun k => ?_) (ih (i + 1) (by omega))
    have hi : i < a.length := by omega
    rw [laws_markByteS.l0, if_pos (by simp [marks8_len]; omega), if_pos (by omega), w64 (by omega) (by omega), w64 (by omega) (by omega)]
    have e : (marks8 m i ++ a.drop i).set (i : Int).toNat ((m + (i : Int)) % 256) = marks8 m (i + 1) ++ a.drop (i + 1) := by
      rw [marks8_succ, List.set_append_right _ _ (by simp [marks8_len]), List.append_assoc]
      congr 1
      rw [marks8_len, Int.toNat_natCast, Nat.sub_self]
      conv => lhs; rw [List.drop_eq_getElem_cons hi]
      rfl
    rw [e]
    congr 1
    omega
theorem markByteS_ev (a : List Int) (m : Int) (hn : a.length ≤ 281474976710656) (h0 : 0 ≤ m) (h1 : m ≤ 281474976710656) :
    Ev (fun k => laws_markByteS.f k a m) (m + (a.length : Int), marks8 m a.length) := by
  refine Ev.congr (fun k => ?_) (markByteS_l0 a m hn h0 h1 a.length 0 (by omega))
  rw [laws_markByteS.f]
  simp [marks8]
theorem heldByteS_l0 (n : Nat) (m : Int) (hn : n ≤ 281474976710656) (h0 : 0 ≤ m) (h1 : m ≤ 281474976710656) (d : Nat) :
    ∀ (i : Nat), i + d = n → Ev (fun k => laws_heldByteS.l0 k (marks8 m n) (m + (i : Int)) (i : Int)) (m + (n : Int)) := by
  induction d with
  | zero =>
    intro i h
    obtain rfl : i = n := by omega
    refine Ev.step (f := fun _ => some _) (fun k => ?_) (Ev.now _)
    rw [laws_heldByteS.l0, if_neg (by simp [marks8_len])]
  | succ d ih =>
    intro i h
    refine Ev.step (fun k => ?_) (ih (i + 1) (by omega))
    have hr : rd (marks8 m n) (i : Int) = (m + (i : Int)) % 256 := rd_get _ _ i _ rfl (by simp [marks8, show i < n by omega])
    rw [laws_heldByteS.l0, if_pos (by simp [marks8_len]; omega), if_pos (by omega), if_pos hr, w64 (by omega) (by omega), w64 (by omega) (by omega)]
    congr 1
    omega
theorem heldByteS_ev (n : Nat) (m : Int) (hn : n ≤ 281474976710656) (h0 : 0 ≤ m) (h1 : m ≤ 281474976710656) :
    Ev (fun k => laws_heldByteS.f k (marks8 m n) m) (m + (n : Int)) := by
  refine Ev.congr (fun k => ?_) (heldByteS_l0 n m hn h0 h1 n 0 (by omega))
  rw [laws_heldByteS.f]
  simp

/-- The bytes of a short number. -/
def putNum (x : Nat) : List Int := if h : 128 ≤ x then ((x % 128 + 128 : Nat) : Int) :: putNum (x / 128) else [(x : Int)]
termination_by x
decreasing_by omega
theorem putNum_big {x : Nat} (h : 128 ≤ x) : putNum x = ((x % 128 + 128 : Nat) : Int) :: putNum (x / 128) := by rw [putNum, dif_pos h]
theorem putNum_small {x : Nat} (h : x < 128) : putNum x = [(x : Int)] := by rw [putNum, dif_neg (by omega)]
theorem putNum_len (j : Nat) : ∀ x : Nat, x < 128 ^ (j + 1) → (putNum x).length ≤ j + 1 := by
  induction j with
  | zero => intro x h; rw [putNum_small (by omega)]; simp
  | succ j ih =>
    intro x h
    by_cases hx : 128 ≤ x
    · rw [putNum_big hx]
      have := ih (x / 128) (by rw [Nat.pow_succ] at h; omega)
      simp only [List.length_cons]; omega
    · rw [putNum_small (by omega)]; simp
theorem putNum_len10 (x : Nat) (h : x < 18446744073709551616) : (putNum x).length ≤ 10 := putNum_len 9 x (Nat.lt_trans h (by decide))
/-- A number's 64 bits. -/
def u64 (n : Int) : Nat := (n % 18446744073709551616).toNat
theorem u64_lt (n : Int) : u64 n < 18446744073709551616 := by unfold u64; omega
theorem spec_PutNum_l0 (x : Nat) : ∀ acc : List Int, x < 18446744073709551616 → acc.length + (putNum x).length < 140737488355328 → Ev (fun k => spec_PutNum.l0 k (x : Int) acc) (acc ++ putNum x) := by
  induction x using Nat.strongRecOn with
  | _ x ih =>
    intro acc hx hl
    by_cases h : 128 ≤ x
    · rw [putNum_big h] at hl ⊢
      simp only [List.length_cons] at hl
      have := ih (x / 128) (by omega) (acc ++ [((x % 128 + 128 : Nat) : Int)]) (by omega) (by simp; omega)
      rw [List.append_assoc, List.singleton_append] at this
      refine Ev.step (fun k => ?_) this
      rw [spec_PutNum.l0, if_pos (by omega), if_pos (by omega), u64w, u64w, Int.tdiv_eq_ediv_of_nonneg (by omega), Int.tmod_eq_emod_of_nonneg (by omega)]
      rw [show (x : Int) / 128 % 18446744073709551616 = ((x / 128 : Nat) : Int) by omega, show ((x : Int) % 128 + 128) % 18446744073709551616 % 256 = ((x % 128 + 128 : Nat) : Int) by omega]
    · rw [putNum_small (by omega)] at hl ⊢
      refine Ev.step (f := fun _ => some _) (fun k => ?_) (Ev.now _)
      rw [spec_PutNum.l0, if_neg (by omega), if_pos (by omega), show (x : Int) % 256 = x by omega]
theorem spec_PutNum_ev (n : Int) : Ev (fun k => spec_PutNum.f k n) (putNum (u64 n)) := by
  have := putNum_len10 _ (u64_lt n)
  refine Ev.congr (fun k => ?_) (spec_PutNum_l0 (u64 n) [] (u64_lt n) (by simp; omega))
  rw [spec_PutNum.f, u64w]
  congr 1
  unfold u64; omega
theorem impl_PutNum_l0 (x : Nat) : ∀ acc : List Int, x < 18446744073709551616 → acc.length + (putNum x).length < 140737488355328 → Ev (fun k => impl_PutNum.l0 k (x : Int) acc) (acc ++ putNum x) := by
  induction x using Nat.strongRecOn with
  | _ x ih =>
    intro acc hx hl
    by_cases h : 128 ≤ x
    · rw [putNum_big h] at hl ⊢
      simp only [List.length_cons] at hl
      have := ih (x / 128) (by omega) (acc ++ [((x % 128 + 128 : Nat) : Int)]) (by omega) (by simp; omega)
      rw [List.append_assoc, List.singleton_append] at this
      refine Ev.step (fun k => ?_) this
      rw [impl_PutNum.l0, if_pos (by omega), if_pos (by omega), u64w, u64w, Int.tdiv_eq_ediv_of_nonneg (by omega), Int.tmod_eq_emod_of_nonneg (by omega)]
      rw [show (x : Int) / 128 % 18446744073709551616 = ((x / 128 : Nat) : Int) by omega, show ((x : Int) % 128 + 128) % 18446744073709551616 % 256 = ((x % 128 + 128 : Nat) : Int) by omega]
    · rw [putNum_small (by omega)] at hl ⊢
      refine Ev.step (f := fun _ => some _) (fun k => ?_) (Ev.now _)
      rw [impl_PutNum.l0, if_neg (by omega), if_pos (by omega), show (x : Int) % 256 = x by omega]
theorem impl_PutNum_ev (n : Int) : Ev (fun k => impl_PutNum.f k n) (putNum (u64 n)) := by
  have := putNum_len10 _ (u64_lt n)
  refine Ev.congr (fun k => ?_) (impl_PutNum_l0 (u64 n) [] (u64_lt n) (by simp; omega))
  rw [impl_PutNum.f, u64w]
  congr 1
  unfold u64; omega

def putText (s : ByteArray) : List Int := putNum s.size ++ bytesOf s
theorem bytesOf_len (s : ByteArray) : (bytesOf s).length = s.size := by simp [bytesOf]
theorem u64_size (s : ByteArray) (h : s.size ≤ 281474976710656) : u64 (s.size : Int) = s.size := by unfold u64; omega
theorem putText_len (s : ByteArray) (h : s.size ≤ 281474976710656) : (putText s).length ≤ s.size + 10 := by
  have := putNum_len10 s.size (by omega)
  simp only [putText, List.length_append, bytesOf_len]
  omega
theorem spec_PutText_ev (s : ByteArray) (h : s.size ≤ 1048576) : Ev (fun k => spec_PutText.f k s) (putText s) := by
  have hl := putNum_len10 s.size (by omega)
  have e := spec_PutNum_ev (s.size : Int)
  rw [u64_size s (by omega)] at e
  exact Ev.bind e (Ev.ite_pos (by omega) (Ev.now _))
theorem impl_PutText_ev (s : ByteArray) (h : s.size ≤ 1048576) : Ev (fun k => impl_PutText.f k s) (putText s) := by
  have hl := putNum_len10 s.size (by omega)
  have e := impl_PutNum_ev (s.size : Int)
  rw [u64_size s (by omega)] at e
  exact Ev.bind e (Ev.ite_pos (by omega) (Ev.now _))

theorem FnExactPutText : laws_FnExactPutText.Pure := by
  intro s hs
  refine Ev.rounds ?_
  by_cases hb : (s.size : Int) > 1048576
  · exact Ev.ite_pos hb (Ev.now true)
  refine Ev.ite_neg hb ?_
  have hn : s.size ≤ 1048576 := by omega
  have hl := putText_len s (by omega)
  refine Ev.bind (spec_PutText_ev s hn) ?_
  refine Ev.bind (impl_PutText_ev s hn) ?_
  refine Ev.bind (eqByteS_ev _ (by omega)) ?_
  refine Ev.ite_pos rfl ?_
  refine Ev.bind (markByteS_ev _ 1 (by omega) (by omega) (by omega)) ?_
  refine Ev.bind (heldByteS_ev _ 1 (by omega) (by omega) (by omega)) ?_
  refine Ev.ite_neg (by omega) ?_
  refine Ev.ite_pos rfl ?_
  refine Ev.bind (impl_PutText_ev s hn) ?_
  refine Ev.bind (eqByteS_ev _ (by omega)) ?_
  refine Ev.ite_pos rfl ?_
  refine Ev.bind (heldByteS_ev _ 1 (by omega) (by omega) (by omega)) ?_
  refine Ev.ite_neg (by omega) ?_
  exact Ev.ite_pos rfl (Ev.now true)

end Go.Proofs.Ytfidfiacjocooaa.Pure
