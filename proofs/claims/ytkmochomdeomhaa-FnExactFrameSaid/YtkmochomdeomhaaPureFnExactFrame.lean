/-
The pure part of the statement FnExactFrame: what the printed functions answer is true at every input.
Conditions: none but the kinds' own bounds, as the printed statement has them.
-/
import Derived.Test.YtkmochomdeomhaaQFnExactFramex0
import Derived.Test.YtkmochomdeomhaaQFnExactFramex1
import Derived.Test.YtkmochomdeomhaaQFnExactFramex2
namespace Go.Proofs.Ytkmochomdeomhaa.Pure
open Go.RowKit Go.Proofs.Ytkmochomdeomhaa.QFnExactFrame Go.Proofs.YtkmochomdeomhaaW.PrintWords Go.Proofs.YtkmochomdeomhaaW.PrintLast Go.Proofs.YtkmochomdeomhaaW.PrintMore
set_option linter.unusedVariables false
set_option linter.unusedSimpArgs false

theorem wf64 {x : Int} (h : (Lit.int .i64 x).wf = true) : -9223372036854775808 ≤ x ∧ x ≤ 9223372036854775807 := by
  simpa [Lit.wf, IntKind.min, IntKind.max, IntKind.signed, IntKind.bits] using h
theorem wf8 {x : Int} (h : (Lit.int .u8 x).wf = true) : 0 ≤ x ∧ x ≤ 255 := by
  simpa [Lit.wf, IntKind.min, IntKind.max, IntKind.signed, IntKind.bits] using h
theorem w64 {x : Int} (h0 : -9223372036854775808 ≤ x) (h1 : x ≤ 9223372036854775807) : wrap64 x = x := by unfold wrap64; omega
theorem u64w (n : Int) : IntKind.u64.wrap n = n % 18446744073709551616 := by simp [IntKind.wrap, IntKind.bits, IntKind.signed]
theorem u64in {x : Int} (h0 : 0 ≤ x) (h1 : x < 18446744073709551616) : IntKind.u64.wrap x = x := by rw [u64w]; omega
theorem rd_get (xs : List Int) (i : Int) (j : Nat) (x : Int) (hi : i = j) (h : xs[j]? = some x) : rd xs i = x := by
  subst hi
  simp [rd, List.getD, h]
theorem Ev.mid {α : Type} {g : Nat → Option α} {a b : α} (h : a = b) (e : Ev g a) : Ev g b := h ▸ e
theorem Ev.const {α : Type} {g : Nat → Option α} {a : α} (h : ∀ k, g k = some a) : Ev g a := ⟨0, fun k _ => h k⟩
theorem Ev.ite_pos {α : Type} {c : Prop} [Decidable c] {g f : Nat → Option α} {r : α} (hc : c) (h : Ev g r) : Ev (fun k => if c then g k else f k) r := by
  simp only [if_pos hc]
  exact h
theorem Ev.ite_neg {α : Type} {c : Prop} [Decidable c] {g f : Nat → Option α} {r : α} (hc : ¬ c) (h : Ev f r) : Ev (fun k => if c then g k else f k) r := by
  simp only [if_neg hc]
  exact h
/-- A part that has no rounds. -/
theorem Ev.val {α β : Type} {o : Option α} {f : Nat → α → Option β} {a : α} {r : β} (h : o = some a) (k : Ev (fun n => f n a) r) : Ev (fun n => o.bind (f n)) r := by
  subst h
  exact k

theorem eqByteS_l0 (a : List Int) (hn : a.length ≤ 4611686018427387904) (d : Nat) : ∀ (i : Nat), i + d = a.length → Ev (fun k => laws_eqByteS.l0 k a a (i : Int)) true := by
  induction d with
  | zero =>
    intro i h
    exact Ev.step (f := fun _ => some true) (fun k => by rw [laws_eqByteS.l0, if_neg (by omega)]) (Ev.now true)
  | succ d ih =>
    intro i h
    refine Ev.step (fun k => ?_) (ih (i + 1) (by omega))
    rw [laws_eqByteS.l0, if_pos (by omega), if_pos (by omega), if_pos (by omega), if_pos rfl, w64 (by omega) (by omega)]
    rfl
theorem eqByteS_ev (a : List Int) (hn : a.length ≤ 4611686018427387904) : Ev (fun k => laws_eqByteS.f k a a) true := by
  refine Ev.congr (fun k => ?_) (eqByteS_l0 a hn a.length 0 (by omega))
  rw [laws_eqByteS.f, if_pos rfl]
  rfl

theorem toByteS_l0 (a : List Int) (hn : a.length ≤ 4611686018427387904) (d : Nat) : ∀ (i : Nat), i + d = a.length → Ev (fun k => laws_toByteS.l0 k a (a.take i ++ List.replicate d 0) (i : Int)) a := by
  induction d with
  | zero =>
    intro i h
    refine Ev.step (f := fun _ => some a) (fun k => ?_) (Ev.now a)
    rw [laws_toByteS.l0, if_neg (by omega)]
    simp [List.take_of_length_le (show a.length ≤ i by omega)]
  | succ d ih =>
    intro i h
    refine Ev.step (fun k => ?_) (ih (i + 1) (by omega))
    have hi : i < a.length := by omega
    rw [laws_toByteS.l0, if_pos (by omega), if_pos (by omega), if_pos (by simp; omega), w64 (by omega) (by omega)]
    have hr : rd a (i : Int) = a[i] := rd_get a i i _ rfl (List.getElem?_eq_getElem hi)
    have e : (a.take i ++ List.replicate (d + 1) 0).set (i : Int).toNat (rd a (i : Int)) = a.take (i + 1) ++ List.replicate d 0 := by
      have hl : (a.take i).length = i := by simp; omega
      rw [hr, List.take_succ_eq_append_getElem hi, List.set_append_right _ _ (by rw [hl]; simp), hl, List.append_assoc]
      simp [List.replicate_succ]
    rw [e]
    rfl
theorem toByteS_ev (a : List Int) (hn : a.length ≤ 281474976710656) : Ev (fun k => laws_toByteS.f k a) a := by
  refine Ev.congr (fun k => ?_) (toByteS_l0 a (by omega) a.length 0 (by omega))
  rw [laws_toByteS.f, if_pos (by omega), if_pos (by omega)]
  simp

def marks8 (m : Int) (n : Nat) : List Int := (List.range n).map fun i : Nat => (m + (i : Int)) % 256
theorem marks8_len (m : Int) (n : Nat) : (marks8 m n).length = n := by simp [marks8]
theorem marks8_succ (m : Int) (n : Nat) : marks8 m (n + 1) = marks8 m n ++ [(m + (n : Int)) % 256] := by simp [marks8, List.range_succ]
theorem markByteS_l0 (a : List Int) (m : Int) (hn : a.length ≤ 281474976710656) (h0 : 0 ≤ m) (h1 : m ≤ 281474976710656) (d : Nat) :
    ∀ (i : Nat), i + d = a.length → Ev (fun k => laws_markByteS.l0 k (marks8 m i ++ a.drop i) (m + (i : Int)) (i : Int)) (m + (a.length : Int), marks8 m a.length) := by
  induction d with
  | zero =>
    intro i h
    obtain rfl : i = a.length := by omega
    refine Ev.step (f := fun _ => some _) (fun k => ?_) (Ev.now _)
    rw [laws_markByteS.l0, if_neg (by simp [marks8_len])]
    simp
  | succ d ih =>
    intro i h
    refine Ev.step (fun k => ?_) (ih (i + 1) (by omega))
    have hi : i < a.length := by omega
    rw [laws_markByteS.l0, if_pos (by simp [marks8_len]; omega), if_pos (by omega), w64 (by omega) (by omega), w64 (by omega) (by omega)]
    have e : (marks8 m i ++ a.drop i).set (i : Int).toNat ((m + (i : Int)) % 256) = marks8 m (i + 1) ++ a.drop (i + 1) := by
      rw [marks8_succ, List.set_append_right _ _ (by simp [marks8_len]), List.append_assoc]
      congr 1
      rw [marks8_len, Int.toNat_natCast, Nat.sub_self]
      conv => lhs; rw [List.drop_eq_getElem_cons hi]
      rfl
    rw [e]
    congr 1
    omega
theorem markByteS_ev (a : List Int) (m : Int) (hn : a.length ≤ 281474976710656) (h0 : 0 ≤ m) (h1 : m ≤ 281474976710656) :
    Ev (fun k => laws_markByteS.f k a m) (m + (a.length : Int), marks8 m a.length) := by
  refine Ev.congr (fun k => ?_) (markByteS_l0 a m hn h0 h1 a.length 0 (by omega))
  rw [laws_markByteS.f]
  simp [marks8]
theorem heldByteS_l0 (n : Nat) (m : Int) (hn : n ≤ 281474976710656) (h0 : 0 ≤ m) (h1 : m ≤ 281474976710656) (d : Nat) :
    ∀ (i : Nat), i + d = n → Ev (fun k => laws_heldByteS.l0 k (marks8 m n) (m + (i : Int)) (i : Int)) (m + (n : Int)) := by
  induction d with
  | zero =>
    intro i h
    obtain rfl : i = n := by omega
    refine Ev.step (f := fun _ => some _) (fun k => ?_) (Ev.now _)
    rw [laws_heldByteS.l0, if_neg (by simp [marks8_len])]
  | succ d ih =>
    intro i h
    refine Ev.step (fun k => ?_) (ih (i + 1) (by omega))
    have hr : rd (marks8 m n) (i : Int) = (m + (i : Int)) % 256 := rd_get _ _ i _ rfl (by simp [marks8, show i < n by omega])
    rw [laws_heldByteS.l0, if_pos (by simp [marks8_len]; omega), if_pos (by omega), if_pos hr, w64 (by omega) (by omega), w64 (by omega) (by omega)]
    congr 1
    omega
theorem heldByteS_ev (n : Nat) (m : Int) (hn : n ≤ 281474976710656) (h0 : 0 ≤ m) (h1 : m ≤ 281474976710656) :
    Ev (fun k => laws_heldByteS.f k (marks8 m n) m) (m + (n : Int)) := by
  refine Ev.congr (fun k => ?_) (heldByteS_l0 n m hn h0 h1 n 0 (by omega))
  rw [laws_heldByteS.f]
  simp

/-- The bytes of a short number. -/
def putNum (x : Nat) : List Int := if h : 128 ≤ x then ((x % 128 + 128 : Nat) : Int) :: putNum (x / 128) else [(x : Int)]
termination_by x
decreasing_by omega
theorem putNum_big {x : Nat} (h : 128 ≤ x) : putNum x = ((x % 128 + 128 : Nat) : Int) :: putNum (x / 128) := by rw [putNum, dif_pos h]
theorem putNum_small {x : Nat} (h : x < 128) : putNum x = [(x : Int)] := by rw [putNum, dif_neg (by omega)]
theorem putNum_len (j : Nat) : ∀ x : Nat, x < 128 ^ (j + 1) → (putNum x).length ≤ j + 1 := by
  induction j with
  | zero => intro x h; rw [putNum_small (by omega)]; simp
  | succ j ih =>
    intro x h
    by_cases hx : 128 ≤ x
    · rw [putNum_big hx]
      have := ih (x / 128) (by rw [Nat.pow_succ] at h; omega)
      simp only [List.length_cons]; omega
    · rw [putNum_small (by omega)]; simp
theorem putNum_len10 (x : Nat) (h : x < 18446744073709551616) : (putNum x).length ≤ 10 := putNum_len 9 x (Nat.lt_trans h (by decide))
/-- A number's 64 bits. -/
def u64 (n : Int) : Nat := (n % 18446744073709551616).toNat
theorem u64_lt (n : Int) : u64 n < 18446744073709551616 := by unfold u64; omega
theorem spec_PutNum_l0 (x : Nat) : ∀ acc : List Int, x < 18446744073709551616 → acc.length + (putNum x).length < 140737488355328 → Ev (fun k => spec_PutNum.l0 k (x : Int) acc) (acc ++ putNum x) := by
  induction x using Nat.strongRecOn with
  | _ x ih =>
    intro acc hx hl
    by_cases h : 128 ≤ x
    · rw [putNum_big h] at hl ⊢
      simp only [List.length_cons] at hl
      have := ih (x / 128) (by omega) (acc ++ [((x % 128 + 128 : Nat) : Int)]) (by omega) (by simp; omega)
      rw [List.append_assoc, List.singleton_append] at this
      refine Ev.step (fun k => ?_) this
      rw [spec_PutNum.l0, if_pos (by omega), if_pos (by omega), u64w, u64w, Int.tdiv_eq_ediv_of_nonneg (by omega), Int.tmod_eq_emod_of_nonneg (by omega)]
      rw [show (x : Int) / 128 % 18446744073709551616 = ((x / 128 : Nat) : Int) by omega, show ((x : Int) % 128 + 128) % 18446744073709551616 % 256 = ((x % 128 + 128 : Nat) : Int) by omega]
    · rw [putNum_small (by omega)] at hl ⊢
      refine Ev.step (f := fun _ => some _) (fun k => ?_) (Ev.now _)
      rw [spec_PutNum.l0, if_neg (by omega), if_pos (by omega), show (x : Int) % 256 = x by omega]
theorem spec_PutNum_ev (n : Int) : Ev (fun k => spec_PutNum.f k n) (putNum (u64 n)) := by
  have := putNum_len10 _ (u64_lt n)
  refine Ev.congr (fun k => ?_) (spec_PutNum_l0 (u64 n) [] (u64_lt n) (by simp; omega))
  rw [spec_PutNum.f, u64w]
  congr 1
  unfold u64; omega
theorem impl_PutNum_l0 (x : Nat) : ∀ acc : List Int, x < 18446744073709551616 → acc.length + (putNum x).length < 140737488355328 → Ev (fun k => impl_PutNum.l0 k (x : Int) acc) (acc ++ putNum x) := by
  induction x using Nat.strongRecOn with
  | _ x ih =>
    intro acc hx hl
    by_cases h : 128 ≤ x
    · rw [putNum_big h] at hl ⊢
      simp only [List.length_cons] at hl
      have := ih (x / 128) (by omega) (acc ++ [((x % 128 + 128 : Nat) : Int)]) (by omega) (by simp; omega)
      rw [List.append_assoc, List.singleton_append] at this
      refine Ev.step (fun k => ?_) this
      rw [impl_PutNum.l0, if_pos (by omega), if_pos (by omega), u64w, u64w, Int.tdiv_eq_ediv_of_nonneg (by omega), Int.tmod_eq_emod_of_nonneg (by omega)]
      rw [show (x : Int) / 128 % 18446744073709551616 = ((x / 128 : Nat) : Int) by omega, show ((x : Int) % 128 + 128) % 18446744073709551616 % 256 = ((x % 128 + 128 : Nat) : Int) by omega]
    · rw [putNum_small (by omega)] at hl ⊢
      refine Ev.step (f := fun _ => some _) (fun k => ?_) (Ev.now _)
      rw [impl_PutNum.l0, if_neg (by omega), if_pos (by omega), show (x : Int) % 256 = x by omega]
theorem impl_PutNum_ev (n : Int) : Ev (fun k => impl_PutNum.f k n) (putNum (u64 n)) := by
  have := putNum_len10 _ (u64_lt n)
  refine Ev.congr (fun k => ?_) (impl_PutNum_l0 (u64 n) [] (u64_lt n) (by simp; omega))
  rw [impl_PutNum.f, u64w]
  congr 1
  unfold u64; omega

theorem u64or (a b : Nat) (ha : a < 18446744073709551616) (hb : b < 18446744073709551616) : Go.bits .or .u64 (a : Int) (b : Int) = ((a ||| b : Nat) : Int) :=
  (Go.bits_nat .u64 64 (by decide) (fun n h0 h1 => by rw [u64w]; omega) a b ha hb).2
/-- Bits that stand apart: 'or' is the sum. -/
theorem u64or_low (x y : Int) (i : Nat) (hx0 : 0 ≤ x) (hx : x < 2 ^ i) (hy0 : 0 ≤ y) (hy : y % 2 ^ i = 0) (hy1 : y < 18446744073709551616) (hi : i ≤ 64) : Go.bits .or .u64 x y = x + y := by
  obtain ⟨a, rfl⟩ := Int.eq_ofNat_of_zero_le hx0
  obtain ⟨b, rfl⟩ := Int.eq_ofNat_of_zero_le hy0
  have ha : a < 2 ^ i := by exact_mod_cast hx
  have hb : b % 2 ^ i = 0 := by exact_mod_cast hy
  have h2 : (2 : Nat) ^ i ≤ 18446744073709551616 := by
    have := Nat.pow_le_pow_right (show 0 < 2 by decide) hi
    exact Nat.le_trans this (by decide)
  rw [u64or a b (by omega) (by omega), Nat.or_comm]
  have hq : b = 2 ^ i * (b / 2 ^ i) := by
    have := Nat.div_add_mod b (2 ^ i)
    omega
  rw [hq, ← Nat.two_pow_add_eq_or_of_lt ha (b / 2 ^ i)]
  omega
theorem u64or_high (x y : Int) (i : Nat) (hx0 : 0 ≤ x) (hx : x % 2 ^ i = 0) (hx1 : x < 18446744073709551616) (hy0 : 0 ≤ y) (hy : y < 2 ^ i) (hi : i ≤ 64) : Go.bits .or .u64 x y = x + y := by
  have e : Go.bits .or .u64 x y = Go.bits .or .u64 y x := by
    obtain ⟨a, rfl⟩ := Int.eq_ofNat_of_zero_le hx0
    obtain ⟨b, rfl⟩ := Int.eq_ofNat_of_zero_le hy0
    have hb : b < 2 ^ i := by exact_mod_cast hy
    have h2 : (2 : Nat) ^ i ≤ 18446744073709551616 := by
      have := Nat.pow_le_pow_right (show 0 < 2 by decide) hi
      exact Nat.le_trans this (by decide)
    rw [u64or a b (by omega) (by omega), u64or b a (by omega) (by omega), Nat.or_comm]
  rw [e, u64or_low y x i hy0 hy hx0 hx hx1 hi]
  omega

theorem bits_xor (k : IntKind) (j : Nat) (hj : j ≤ k.bits) (hk : ∀ n : Int, 0 ≤ n → n < 2 ^ j → k.wrap n = n) (a b : Nat) (ha : a < 2 ^ j) (hb : b < 2 ^ j) :
    Go.bits .xor k (a : Int) (b : Int) = ((a ^^^ b : Nat) : Int) := by
  have hp : 2 ^ j ≤ 2 ^ k.bits := Nat.pow_le_pow_right (by decide) hj
  have ha' : a % 2 ^ k.bits = a := Nat.mod_eq_of_lt (Nat.lt_of_lt_of_le ha hp)
  have hb' : b % 2 ^ k.bits = b := Nat.mod_eq_of_lt (Nat.lt_of_lt_of_le hb hp)
  simp only [Go.bits, BitVec.ofInt_natCast, BitVec.toNat_xor, BitVec.toNat_ofNat, ha', hb']
  exact hk _ (Int.natCast_nonneg _) (by exact_mod_cast Nat.xor_lt_two_pow ha hb)
theorem u32w (n : Int) : IntKind.u32.wrap n = n % 4294967296 := by simp [IntKind.wrap, IntKind.bits, IntKind.signed]
theorem xor_i64 (a b : Nat) (ha : a < 4294967296) (hb : b < 4294967296) : Go.bits .xor .i64 (a : Int) (b : Int) = ((a ^^^ b : Nat) : Int) :=
  bits_xor .i64 32 (by decide) (fun n h0 h1 => by rw [IntWalk.i64_left]; exact w64 (by omega) (by omega)) a b ha hb
theorem xor_u32 (a b : Nat) (ha : a < 4294967296) (hb : b < 4294967296) : Go.bits .xor .u32 (a : Int) (b : Int) = ((a ^^^ b : Nat) : Int) :=
  bits_xor .u32 32 (by decide) (fun n h0 h1 => by rw [u32w]; omega) a b ha hb
theorem xor_lt (a b : Nat) (ha : a < 4294967296) (hb : b < 4294967296) : a ^^^ b < 4294967296 := Nat.xor_lt_two_pow (n := 32) ha hb
def crcBit (x : Nat) : Nat := if x % 2 = 1 then (x / 2) ^^^ 3988292384 else x / 2
theorem crcBit_lt (x : Nat) (h : x < 4294967296) : crcBit x < 4294967296 := by
  unfold crcBit
  split
  · exact xor_lt _ _ (by omega) (by decide)
  · omega
def crcBits : Nat → Nat → Nat
  | 0, x => x
  | n + 1, x => crcBits n (crcBit x)
theorem crcBits_lt (n : Nat) : ∀ x, x < 4294967296 → crcBits n x < 4294967296 := by
  induction n with
  | zero => intro x h; exact h
  | succ n ih => intro x h; exact ih _ (crcBit_lt x h)
def crc : Nat → List Int → Nat
  | x, [] => x
  | x, c :: cs => crc (crcBits 8 (x ^^^ c.toNat)) cs
theorem crc_lt (l : List Int) : ∀ x, x < 4294967296 → (∀ c ∈ l, 0 ≤ c ∧ c ≤ 255) → crc x l < 4294967296 := by
  induction l with
  | nil => intro x h _; exact h
  | cons c cs ih =>
    intro x h hb
    have := hb c (by simp)
    exact ih _ (crcBits_lt 8 _ (xor_lt _ _ h (by omega))) (fun d hd => hb d (by simp [hd]))
theorem crc_nil (x : Nat) : crc x [] = x := rfl
theorem crc_cons (x : Nat) (c : Int) (cs : List Int) : crc x (c :: cs) = crc (crcBits 8 (x ^^^ c.toNat)) cs := rfl
def sumL (l : List Int) : Nat := crc 4294967295 l ^^^ 4294967295
theorem sumL_lt (l : List Int) (hb : ∀ c ∈ l, 0 ≤ c ∧ c ≤ 255) : sumL l < 4294967296 := xor_lt _ _ (crc_lt l _ (by decide) hb) (by decide)
theorem spec_Sum_ev (l : List Int) (hl : l.length ≤ 4611686018427387904) (hb : ∀ c ∈ l, 0 ≤ c ∧ c ≤ 255) : Ev (fun k => spec_Sum.f k l) (sumL l : Int) := by
  have outer : ∀ (d i x : Nat), i + d = l.length → x < 4294967296 → Ev (fun k => spec_Sum.l0 k l (x : Int) (i : Int)) ((crc x (l.drop i) ^^^ 4294967295 : Nat) : Int) := by
    intro d
    induction d with
    | zero =>
      intro i x h hx
      refine Ev.step (f := fun _ => some _) (fun k => ?_) (Ev.now _)
      rw [spec_Sum.l0, if_neg (by omega), List.drop_of_length_le (by omega), crc_nil, show (4294967295 : Int) = ((4294967295 : Nat) : Int) from rfl, xor_i64 x 4294967295 hx (by decide)]
    | succ d ih =>
      intro i x h hx
      have hi : i < l.length := by omega
      have hr : rd l (i : Int) = l[i] := rd_get l i i _ rfl (List.getElem?_eq_getElem hi)
      have hc := hb l[i] (List.getElem_mem hi)
      obtain ⟨c, hcc⟩ := Int.eq_ofNat_of_zero_le hc.1
      have inner : ∀ (n j x : Nat), j + n = 8 → x < 4294967296 → Ev (fun k => spec_Sum.l1 k l (x : Int) (i : Int) (j : Int)) ((crc (crcBits n x) (l.drop (i + 1)) ^^^ 4294967295 : Nat) : Int) := by
        intro n
        induction n with
        | zero =>
          intro j x hj hx
          refine Ev.step (fun k => ?_) (ih (i + 1) x (by omega) hx)
          rw [spec_Sum.l1, if_neg (by omega), w64 (by omega) (by omega)]
          rfl
        | succ n ihn =>
          intro j x hj hx
          have hlt := crcBit_lt x hx
          refine Ev.step (fun k => ?_) (ihn (j + 1) (crcBit x) (by omega) hlt)
          rw [spec_Sum.l1, if_pos (by omega), Int.tmod_eq_emod_of_nonneg (by omega), Int.tdiv_eq_ediv_of_nonneg (by omega), w64 (x := (x : Int) / 2) (by omega) (by omega), w64 (x := (j : Int) + 1) (by omega) (by omega)]
          by_cases ho : x % 2 = 1
          · rw [if_pos (by omega), show (x : Int) / 2 = ((x / 2 : Nat) : Int) by omega, show (3988292384 : Int) = ((3988292384 : Nat) : Int) from rfl, xor_i64 _ _ (by omega) (by decide)]
            simp only [crcBit, if_pos ho]
            rfl
          · rw [if_neg (by omega), show (x : Int) / 2 = ((x / 2 : Nat) : Int) by omega]
            simp only [crcBit, if_neg ho]
            rfl
      have hin := inner 8 0 (x ^^^ c) rfl (xor_lt _ _ hx (by omega))
      have e : crc x (l.drop i) = crc (crcBits 8 (x ^^^ c)) (l.drop (i + 1)) := by
        rw [List.drop_eq_getElem_cons hi, crc_cons, hcc]
        rfl
      rw [e]
      refine Ev.step (fun k => ?_) hin
      rw [spec_Sum.l0, if_pos (by omega), if_pos (by omega), hr, hcc, w64 (by omega) (by omega)]
      rw [xor_i64 x c hx (by omega)]
      rfl
  exact outer l.length 0 4294967295 (by omega) (by decide)
theorem impl_Sum_ev (l : List Int) (hl : l.length ≤ 4611686018427387904) (hb : ∀ c ∈ l, 0 ≤ c ∧ c ≤ 255) : Ev (fun k => impl_Sum.f k l) (sumL l : Int) := by
  have outer : ∀ (d i x : Nat), i + d = l.length → x < 4294967296 → Ev (fun k => impl_Sum.l0 k (x : Int) l (l.length : Int) (i : Int)) ((crc x (l.drop i) ^^^ 4294967295 : Nat) : Int) := by
    intro d
    induction d with
    | zero =>
      intro i x h hx
      refine Ev.step (f := fun _ => some _) (fun k => ?_) (Ev.now _)
      have e : Go.bits BinOp.xor IntKind.u32 (if IntKind.u32.signed = true then -1 else IntKind.u32.max) (x : Int) = ((x ^^^ 4294967295 : Nat) : Int) := by
        rw [Nat.xor_comm, if_neg (by decide), show IntKind.u32.max = ((4294967295 : Nat) : Int) from rfl, xor_u32 4294967295 x (by decide) hx]
      have hlt := xor_lt x 4294967295 hx (by decide)
      rw [impl_Sum.l0, if_neg (by omega), List.drop_of_length_le (by omega), crc_nil, e, w64 (by omega) (by omega)]
    | succ d ih =>
      intro i x h hx
      have hi : i < l.length := by omega
      have hr : rd l (i : Int) = l[i] := rd_get l i i _ rfl (List.getElem?_eq_getElem hi)
      have hc := hb l[i] (List.getElem_mem hi)
      obtain ⟨c, hcc⟩ := Int.eq_ofNat_of_zero_le hc.1
      have inner : ∀ (n j x : Nat), j + n = 8 → x < 4294967296 → Ev (fun k => impl_Sum.l1 k (x : Int) l (l.length : Int) (i : Int) (j : Int)) ((crc (crcBits n x) (l.drop (i + 1)) ^^^ 4294967295 : Nat) : Int) := by
        intro n
        induction n with
        | zero =>
          intro j x hj hx
          refine Ev.step (fun k => ?_) (ih (i + 1) x (by omega) hx)
          rw [impl_Sum.l1, if_neg (by omega), w64 (by omega) (by omega)]
          rfl
        | succ n ihn =>
          intro j x hj hx
          have hlt := crcBit_lt x hx
          refine Ev.step (fun k => ?_) (ihn (j + 1) (crcBit x) (by omega) hlt)
          have ha : Go.bits .and .u32 (x : Int) 1 = (x : Int) % 2 := Go.bits_mask .u32 32 (by decide) (fun n h0 h1 => by rw [u32w]; omega) 1 (by decide) x (by omega) (by omega)
          rw [impl_Sum.l1, if_pos (by omega), ha, w64 (x := (j : Int) + 1) (by omega) (by omega)]
          by_cases ho : x % 2 = 1
          · rw [if_pos (by omega), show (x : Int) / 2 = ((x / 2 : Nat) : Int) by omega, show (3988292384 : Int) = ((3988292384 : Nat) : Int) from rfl, xor_u32 _ _ (by omega) (by decide)]
            simp only [crcBit, if_pos ho]
            rfl
          · rw [if_neg (by omega), show (x : Int) / 2 = ((x / 2 : Nat) : Int) by omega]
            simp only [crcBit, if_neg ho]
            rfl
      have hin := inner 8 0 (x ^^^ c) rfl (xor_lt _ _ hx (by omega))
      have e : crc x (l.drop i) = crc (crcBits 8 (x ^^^ c)) (l.drop (i + 1)) := by
        rw [List.drop_eq_getElem_cons hi, crc_cons, hcc]
        rfl
      rw [e]
      refine Ev.step (fun k => ?_) hin
      rw [impl_Sum.l0, if_pos (by omega), if_pos (by omega), if_pos (by omega), hr, hcc]
      rw [show ((c : Nat) : Int) % 4294967296 = (c : Int) by omega, xor_u32 x c hx (by omega)]
      rfl
  exact outer l.length 0 4294967295 (by omega) (by decide)

def little (n : Nat) : List Int := [((n % 256 : Nat) : Int), ((n / 256 % 256 : Nat) : Int), ((n / 65536 % 256 : Nat) : Int), ((n / 16777216 % 256 : Nat) : Int)]
theorem little_e (n : Nat) : little n = [(n : Int) % 256, ((n : Int) / 256) % 256, ((n : Int) / 65536) % 256, ((n : Int) / 16777216) % 256] := by simp [little]
theorem little_len (n : Nat) : (little n).length = 4 := rfl
def headB (l : List Int) : List Int := putNum l.length ++ l
def frameL (l : List Int) : List Int := if l.length > 20000 then [] else headB l ++ little (sumL (headB l))
theorem putNum_bytes (x : Nat) : ∀ c ∈ putNum x, 0 ≤ c ∧ c ≤ 255 := by
  induction x using Nat.strongRecOn with
  | _ x ih =>
    intro c hc
    by_cases h : 128 ≤ x
    · rw [putNum_big h] at hc
      rcases List.mem_cons.1 hc with rfl | hc
      · omega
      · exact ih (x / 128) (by omega) c hc
    · rw [putNum_small (by omega)] at hc
      simp at hc
      omega
theorem headB_bytes (l : List Int) (hb : ∀ c ∈ l, 0 ≤ c ∧ c ≤ 255) : ∀ c ∈ headB l, 0 ≤ c ∧ c ≤ 255 := by
  intro c hc
  rcases List.mem_append.1 hc with h | h
  · exact putNum_bytes _ c h
  · exact hb c h
theorem headB_len (l : List Int) (h : l.length < 18446744073709551616) : (headB l).length ≤ l.length + 10 := by
  have := putNum_len10 l.length h
  simp only [headB, List.length_append]
  omega
theorem frameL_len (l : List Int) : (frameL l).length ≤ 20014 := by
  unfold frameL
  split
  · simp
  · have := headB_len l (by omega)
    simp only [List.length_append, little_len]
    omega
theorem u64_len (l : List Int) (h : l.length < 18446744073709551616) : u64 (l.length : Int) = l.length := by unfold u64; omega
theorem l3Little_e (n : Nat) : spec_l3Little.f (n : Int) = some (little n) := by rw [little_e]; rfl
theorem spec_Frame_ev (l : List Int) (hl : l.length ≤ 4611686018427387000) (hb : ∀ c ∈ l, 0 ≤ c ∧ c ≤ 255) : Ev (fun k => spec_Frame.f k l) (frameL l) := by
  unfold frameL
  by_cases h : l.length > 20000
  · exact Ev.mid (if_pos h).symm (Ev.ite_pos (by omega) (Ev.now _))
  · refine Ev.mid (if_neg h).symm (Ev.ite_neg (by omega) ?_)
    have hn := headB_len l (by omega)
    have e := spec_PutNum_ev (l.length : Int)
    rw [u64_len l (by omega)] at e
    refine Ev.bind e (Ev.ite_pos ?_ (Ev.val rfl (Ev.bind (spec_Sum_ev (headB l) (by omega) (headB_bytes l hb)) (Ev.val (l3Little_e _) (Ev.ite_pos ?_ (Ev.now _))))))
    · have := putNum_len10 l.length (by omega); omega
    · show (headB l).length + (little _).length < 140737488355328
      rw [little_len]; omega
theorem impl_summed_ev (l : List Int) (hl : l.length ≤ 4611686018) (hb : ∀ c ∈ l, 0 ≤ c ∧ c ≤ 255) : Ev (fun k => impl_summed.f k l) (l ++ little (sumL l)) := by
  refine Ev.bind (impl_Sum_ev l (by omega) hb) (Ev.val rfl (Ev.ite_pos ?_ (Ev.mid ?_ (Ev.now _))))
  · simp; omega
  · rw [little_e]
theorem impl_Frame_ev (l : List Int) (hl : l.length ≤ 4611686018427387000) (hb : ∀ c ∈ l, 0 ≤ c ∧ c ≤ 255) : Ev (fun k => impl_Frame.f k l) (frameL l) := by
  unfold frameL
  by_cases h : l.length > 20000
  · exact Ev.mid (if_pos h).symm (Ev.ite_pos (by omega) (Ev.now _))
  · refine Ev.mid (if_neg h).symm (Ev.ite_neg (by omega) ?_)
    have hn := headB_len l (by omega)
    have e := impl_PutNum_ev (l.length : Int)
    rw [u64_len l (by omega)] at e
    refine Ev.bind e (Ev.ite_pos ?_ (Ev.bind (impl_summed_ev (headB l) (by omega) (headB_bytes l hb)) (Ev.now _)))
    have := putNum_len10 l.length (by omega); omega

theorem FnExactFrame (l : List Int) (hb : ∀ x ∈ l, (Lit.int .u8 x).wf = true) : ∃ k, laws_FnExactFrame.f k l = some true := by
  refine Ev.rounds ?_
  by_cases hbig : (l.length : Int) > 1048576
  · exact Ev.ite_pos hbig (Ev.now true)
  refine Ev.ite_neg hbig ?_
  have hb' : ∀ c ∈ l, 0 ≤ c ∧ c ≤ 255 := fun c hc => wf8 (hb c hc)
  have hfl := frameL_len l
  refine Ev.bind (toByteS_ev l (by omega)) ?_
  refine Ev.bind (spec_Frame_ev l (by omega) hb') ?_
  refine Ev.bind (toByteS_ev l (by omega)) ?_
  refine Ev.bind (impl_Frame_ev l (by omega) hb') ?_
  refine Ev.bind (eqByteS_ev _ (by omega)) (Ev.ite_pos rfl ?_)
  refine Ev.bind (toByteS_ev l (by omega)) ?_
  refine Ev.bind (eqByteS_ev _ (by omega)) (Ev.ite_pos rfl ?_)
  refine Ev.bind (markByteS_ev l 1 (by omega) (by omega) (by omega)) (Ev.ite_neg (by simp; omega) ?_)
  refine Ev.bind (eqByteS_ev _ (by omega)) ?_
  refine Ev.step (f := fun k => (laws_markByteS.f k (frameL l) 1).bind fun bt185 => ((laws_heldByteS.f k bt185.2 1).bind fun t187 => (if t187 < 0 then (some false) else (if t187 = bt185.1 then ((laws_toByteS.f k l).bind fun t188 => ((impl_Frame.f k t188).bind fun t191 => ((laws_eqByteS.f k t191 (frameL l)).bind fun t194 => (if t194 = true then ((laws_heldByteS.f k bt185.2 1).bind fun t195 => (if t195 < 0 then (some false) else (if t195 = bt185.1 then (some true) else (some false)))) else (some false))))) else (some false))))) (fun k => ?_) ?_
  · simp only [Bool.not_true]
    rw [laws_FnExactFrame.j0, if_neg (by decide)]
  refine Ev.bind (markByteS_ev _ 1 (by omega) (by omega) (by omega)) ?_
  refine Ev.bind (heldByteS_ev _ 1 (by omega) (by omega) (by omega)) (Ev.ite_neg (by omega) (Ev.ite_pos rfl ?_))
  refine Ev.bind (toByteS_ev l (by omega)) ?_
  refine Ev.bind (impl_Frame_ev l (by omega) hb') ?_
  refine Ev.bind (eqByteS_ev _ (by omega)) (Ev.ite_pos rfl ?_)
  exact Ev.bind (heldByteS_ev _ 1 (by omega) (by omega) (by omega)) (Ev.ite_neg (by omega) (Ev.ite_pos rfl (Ev.now true)))

end Go.Proofs.Ytkmochomdeomhaa.Pure
