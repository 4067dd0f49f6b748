/-
The pure part of the statement FnExactSum: what the printed functions answer is true at every input.
Conditions: none but the kinds' own bounds, as the printed statement has them.
-/
import Derived.Test.YtfidfiacjocooaaQFnExactSumx0
import Derived.Test.YtfidfiacjocooaaQFnExactSumx1
namespace Go.Proofs.Ytfidfiacjocooaa.Pure
open Go.RowKit Go.Proofs.Ytfidfiacjocooaa.QFnExactSum Go.Proofs.YtfidfiacjocooaaW.PrintWords Go.Proofs.YtfidfiacjocooaaW.PrintLast Go.Proofs.YtfidfiacjocooaaW.PrintMore
set_option linter.unusedVariables false
set_option linter.unusedSimpArgs false

theorem wf64 {x : Int} (h : (Lit.int .i64 x).wf = true) : -9223372036854775808 ≤ x ∧ x ≤ 9223372036854775807 := by
  simpa [Lit.wf, IntKind.min, IntKind.max, IntKind.signed, IntKind.bits] using h
theorem wf8 {x : Int} (h : (Lit.int .u8 x).wf = true) : 0 ≤ x ∧ x ≤ 255 := by
  simpa [Lit.wf, IntKind.min, IntKind.max, IntKind.signed, IntKind.bits] using h
theorem w64 {x : Int} (h0 : -9223372036854775808 ≤ x) (h1 : x ≤ 9223372036854775807) : wrap64 x = x := by unfold wrap64; omega
theorem u64w (n : Int) : IntKind.u64.wrap n = n % 18446744073709551616 := by simp [IntKind.wrap, IntKind.bits, IntKind.signed]
theorem u64in {x : Int} (h0 : 0 ≤ x) (h1 : x < 18446744073709551616) : IntKind.u64.wrap x = x := by rw [u64w]; omega
theorem rd_get (xs : List Int) (i : Int) (j : Nat) (x : Int) (hi : i = j) (h : xs[j]? = some x) : rd xs i = x := by
  subst hi
  simp [rd, List.getD, h]
theorem Ev.mid {α : Type} {g : Nat → Option α} {a b : α} (h : a = b) (e : Ev g a) : Ev g b := h ▸ e
theorem Ev.const {α : Type} {g : Nat → Option α} {a : α} (h : ∀ k, g k = some a) : Ev g a := ⟨0, fun k _ => h k⟩
theorem Ev.ite_pos {α : Type} {c : Prop} [Decidable c] {g f : Nat → Option α} {r : α} (hc : c) (h : Ev g r) : Ev (fun k => if c then g k else f k) r := by
  simp only [if_pos hc]
  exact h
theorem Ev.ite_neg {α : Type} {c : Prop} [Decidable c] {g f : Nat → Option α} {r : α} (hc : ¬ c) (h : Ev f r) : Ev (fun k => if c then g k else f k) r := by
  simp only [if_neg hc]
  exact h
/-- A part that has no rounds. -/
theorem Ev.val {α β : Type} {o : Option α} {f : Nat → α → Option β} {a : α} {r : β} (h : o = some a) (k : Ev (fun n => f n a) r) : Ev (fun n => o.bind (f n)) r := by
  subst h
  exact k

theorem eqByteS_l0 (a : List Int) (hn : a.length ≤ 4611686018427387904) (d : Nat) : ∀ (i : Nat), i + d = a.length → Ev (fun k => laws_eqByteS.l0 k a a (i : Int)) true := by
  induction d with
  | zero =>
    intro i h
    exact Ev.step (f := fun _ => some true) (fun k => by rw [laws_eqByteS.l0, if_neg (by omega)]) (Ev.now true)
  | succ d ih =>
    intro i h
    refine Ev.step (fun k => ?_) (ih (i + 1) (by omega))
    rw [laws_eqByteS.l0, if_pos (by omega), if_pos (by omega), if_pos (by omega), if_pos rfl, w64 (by omega) (by omega)]
    rfl
theorem eqByteS_ev (a : List Int) (hn : a.length ≤ 4611686018427387904) : Ev (fun k => laws_eqByteS.f k a a) true := by
  refine Ev.congr (fun k => ?_) (eqByteS_l0 a hn a.length 0 (by omega))
  rw [laws_eqByteS.f, if_pos rfl]
  rfl

theorem toByteS_l0 (a : List Int) (hn : a.length ≤ 4611686018427387904) (d : Nat) : ∀ (i : Nat), i + d = a.length → Ev (fun k => laws_toByteS.l0 k a (a.take i ++ List.replicate d 0) (i : Int)) a := by
  induction d with
  | zero =>
    intro i h
    refine Ev.step (f := fun _ => some a) (fun k => ?_) (Ev.now a)
    rw [laws_toByteS.l0, if_neg (by omega)]
    simp [List.take_of_length_le (show a.length ≤ i by omega)]
  | succ d ih =>
    intro i h
    refine Ev.step (fun k => ?_) (ih (i + 1) (by omega))
    have hi : i < a.length := by omega
    rw [laws_toByteS.l0, if_pos (by omega), if_pos (by omega), if_pos (by simp; omega), w64 (by omega) (by omega)]
    have hr : rd a (i : Int) = a[i] := rd_get a i i _ rfl (List.getElem?_eq_getElem hi)
    have e : (a.take i ++ List.replicate (d + 1) 0).set (i : Int).toNat (rd a (i : Int)) = a.take (i + 1) ++ List.replicate d 0 := by
      have hl : (a.take i).length = i := by simp; omega
      rw [hr, List.take_succ_eq_append_getElem hi, List.set_append_right _ _ (by rw [hl]; simp), hl, List.append_assoc]
      simp [List.replicate_succ]
    rw [e]
    rfl
theorem toByteS_ev (a : List Int) (hn : a.length ≤ 281474976710656) : Ev (fun k => laws_toByteS.f k a) a := by
  refine Ev.congr (fun k => ?_) (toByteS_l0 a (by omega) a.length 0 (by omega))
  rw [laws_toByteS.f, if_pos (by omega), if_pos (by omega)]
  simp

theorem u64or (a b : Nat) (ha : a < 18446744073709551616) (hb : b < 18446744073709551616) : Go.bits .or .u64 (a : Int) (b : Int) = ((a ||| b : Nat) : Int) :=
  (Go.bits_nat .u64 64 (by decide) (fun n h0 h1 => by rw [u64w]; omega) a b ha hb).2
/-- Bits that stand apart: 'or' is the sum. -/
theorem u64or_low (x y : Int) (i : Nat) (hx0 : 0 ≤ x) (hx : x < 2 ^ i) (hy0 : 0 ≤ y) (hy : y % 2 ^ i = 0) (hy1 : y < 18446744073709551616) (hi : i ≤ 64) : Go.bits .or .u64 x y = x + y := by
  obtain ⟨a, rfl⟩ := Int.eq_ofNat_of_zero_le hx0
  obtain ⟨b, rfl⟩ := Int.eq_ofNat_of_zero_le hy0
  have ha : a < 2 ^ i := by exact_mod_cast hx
  have hb : b % 2 ^ i = 0 := by exact_mod_cast hy
  have h2 : (2 : Nat) ^ i ≤ 18446744073709551616 := by
    have := Nat.pow_le_pow_right (show 0 < 2 by decide) hi
    exact Nat.le_trans this (by decide)
  rw [u64or a b (by omega) (by omega), Nat.or_comm]
  have hq : b = 2 ^ i * (b / 2 ^ i) := by
    have := Nat.div_add_mod b (2 ^ i)
    omega
  rw [hq, ← Nat.two_pow_add_eq_or_of_lt ha (b / 2 ^ i)]
  omega
theorem u64or_high (x y : Int) (i : Nat) (hx0 : 0 ≤ x) (hx : x % 2 ^ i = 0) (hx1 : x < 18446744073709551616) (hy0 : 0 ≤ y) (hy : y < 2 ^ i) (hi : i ≤ 64) : Go.bits .or .u64 x y = x + y := by
  have e : Go.bits .or .u64 x y = Go.bits .or .u64 y x := by
    obtain ⟨a, rfl⟩ := Int.eq_ofNat_of_zero_le hx0
    obtain ⟨b, rfl⟩ := Int.eq_ofNat_of_zero_le hy0
    have hb : b < 2 ^ i := by exact_mod_cast hy
    have h2 : (2 : Nat) ^ i ≤ 18446744073709551616 := by
      have := Nat.pow_le_pow_right (show 0 < 2 by decide) hi
      exact Nat.le_trans this (by decide)
    rw [u64or a b (by omega) (by omega), u64or b a (by omega) (by omega), Nat.or_comm]
  rw [e, u64or_low y x i hy0 hy hx0 hx hx1 hi]
  omega

theorem bits_xor (k : IntKind) (j : Nat) (hj : j ≤ k.bits) (hk : ∀ n : Int, 0 ≤ n → n < 2 ^ j → k.wrap n = n) (a b : Nat) (ha : a < 2 ^ j) (hb : b < 2 ^ j) :
    Go.bits .xor k (a : Int) (b : Int) = ((a ^^^ b : Nat) : Int) := by
  have hp : 2 ^ j ≤ 2 ^ k.bits := Nat.pow_le_pow_right (by decide) hj
  have ha' : a % 2 ^ k.bits = a := Nat.mod_eq_of_lt (Nat.lt_of_lt_of_le ha hp)
  have hb' : b % 2 ^ k.bits = b := Nat.mod_eq_of_lt (Nat.lt_of_lt_of_le hb hp)
  simp only [Go.bits, BitVec.ofInt_natCast, BitVec.toNat_xor, BitVec.toNat_ofNat, ha', hb']
  exact hk _ (Int.natCast_nonneg _) (by exact_mod_cast Nat.xor_lt_two_pow ha hb)
theorem u32w (n : Int) : IntKind.u32.wrap n = n % 4294967296 := by simp [IntKind.wrap, IntKind.bits, IntKind.signed]
theorem xor_i64 (a b : Nat) (ha : a < 4294967296) (hb : b < 4294967296) : Go.bits .xor .i64 (a : Int) (b : Int) = ((a ^^^ b : Nat) : Int) :=
  bits_xor .i64 32 (by decide) (fun n h0 h1 => by rw [IntWalk.i64_left]; exact w64 (by omega) (by omega)) a b ha hb
theorem xor_u32 (a b : Nat) (ha : a < 4294967296) (hb : b < 4294967296) : Go.bits .xor .u32 (a : Int) (b : Int) = ((a ^^^ b : Nat) : Int) :=
  bits_xor .u32 32 (by decide) (fun n h0 h1 => by rw [u32w]; omega) a b ha hb
theorem xor_lt (a b : Nat) (ha : a < 4294967296) (hb : b < 4294967296) : a ^^^ b < 4294967296 := Nat.xor_lt_two_pow (n := 32) ha hb
def crcBit (x : Nat) : Nat := if x % 2 = 1 then (x / 2) ^^^ 3988292384 else x / 2
theorem crcBit_lt (x : Nat) (h : x < 4294967296) : crcBit x < 4294967296 := by
  unfold crcBit
  split
  · exact xor_lt _ _ (by omega) (by decide)
  · omega
def crcBits : Nat → Nat → Nat
  | 0, x => x
  | n + 1, x => crcBits n (crcBit x)
theorem crcBits_lt (n : Nat) : ∀ x, x < 4294967296 → crcBits n x < 4294967296 := by
  induction n with
  | zero => intro x h; exact h
  | succ n ih => intro x h; exact ih _ (crcBit_lt x h)
def crc : Nat → List Int → Nat
  | x, [] => x
  | x, c :: cs => crc (crcBits 8 (x ^^^ c.toNat)) cs
theorem crc_lt (l : List Int) : ∀ x, x < 4294967296 → (∀ c ∈ l, 0 ≤ c ∧ c ≤ 255) → crc x l < 4294967296 := by
  induction l with
  | nil => intro x h _; exact h
  | cons c cs ih =>
    intro x h hb
    have := hb c (by simp)
    exact ih _ (crcBits_lt 8 _ (xor_lt _ _ h (by omega))) (fun d hd => hb d (by simp [hd]))
theorem crc_nil (x : Nat) : crc x [] = x := rfl
theorem crc_cons (x : Nat) (c : Int) (cs : List Int) : crc x (c :: cs) = crc (crcBits 8 (x ^^^ c.toNat)) cs := rfl
def sumL (l : List Int) : Nat := crc 4294967295 l ^^^ 4294967295
theorem sumL_lt (l : List Int) (hb : ∀ c ∈ l, 0 ≤ c ∧ c ≤ 255) : sumL l < 4294967296 := xor_lt _ _ (crc_lt l _ (by decide) hb) (by decide)
theorem spec_Sum_ev (l : List Int) (hl : l.length ≤ 4611686018427387904) (hb : ∀ c ∈ l, 0 ≤ c ∧ c ≤ 255) : Ev (fun k => spec_Sum.f k l) (sumL l : Int) := by
  have outer : ∀ (d i x : Nat), i + d = l.length → x < 4294967296 → Ev (fun k => spec_Sum.l0 k l (x : Int) (i : Int)) ((crc x (l.drop i) ^^^ 4294967295 : Nat) : Int) := by
    intro d
    induction d with
    | zero =>
      intro i x h hx
      refine Ev.step (f := fun _ => some _) (fun k => ?_) (Ev.now _)
      rw [spec_Sum.l0, if_neg (by omega), List.drop_of_length_le (by omega), crc_nil, show (4294967295 : Int) = ((4294967295 : Nat) : Int) from rfl, xor_i64 x 4294967295 hx (by decide)]
    | succ d ih =>
      intro i x h hx
      have hi : i < l.length := by omega
      have hr : rd l (i : Int) = l[i] := rd_get l i i _ rfl (List.getElem?_eq_getElem hi)
      have hc := hb l[i] (List.getElem_mem hi)
      obtain ⟨c, hcc⟩ := Int.eq_ofNat_of_zero_le hc.1
      have inner : ∀ (n j x : Nat), j + n = 8 → x < 4294967296 → Ev (fun k => spec_Sum.l1 k l (x : Int) (i : Int) (j : Int)) ((crc (crcBits n x) (l.drop (i + 1)) ^^^ 4294967295 : Nat) : Int) := by
        intro n
        induction n with
        | zero =>
          intro j x hj hx
          refine Ev.step (fun k => ?_) (ih (i + 1) x (by omega) hx)
          rw [spec_Sum.l1, if_neg (by omega), w64 (by omega) (by omega)]
          rfl
        | succ n ihn =>
          intro j x hj hx
          have hlt := crcBit_lt x hx
          refine Ev.step (fun k => ?_) (ihn (j + 1) (crcBit x) (by omega) hlt)
          rw [spec_Sum.l1, if_pos (by omega), Int.tmod_eq_emod_of_nonneg (by omega), Int.tdiv_eq_ediv_of_nonneg (by omega), w64 (x := (x : Int) / 2) (by omega) (by omega), w64 (x := (j : Int) + 1) (by omega) (by omega)]
          by_cases ho : x % 2 = 1
          · rw [if_pos (by omega), show (x : Int) / 2 = ((x / 2 : Nat) : Int) by omega, show (3988292384 : Int) = ((3988292384 : Nat) : Int) from rfl, xor_i64 _ _ (by omega) (by decide)]
            simp only [crcBit, if_pos ho]
            rfl
          · rw [if_neg (by omega), show (x : Int) / 2 = ((x / 2 : Nat) : Int) by omega]
            simp only [crcBit, if_neg ho]
            rfl
      have hin := inner 8 0 (x ^^^ c) rfl (xor_lt _ _ hx (by omega))
      have e : crc x (l.drop i) = crc (crcBits 8 (x ^^^ c)) (l.drop (i + 1)) := by
        rw [List.drop_eq_getElem_cons hi, crc_cons, hcc]
        rfl
      rw [e]
      refine Ev.step (fun k => ?_) hin
      rw [spec_Sum.l0, if_pos (by omega), if_pos (by omega), hr, hcc, w64 (by omega) (by omega)]
      rw [xor_i64 x c hx (by omega)]
      rfl
  exact outer l.length 0 4294967295 (by omega) (by decide)
theorem impl_Sum_ev (l : List Int) (hl : l.length ≤ 4611686018427387904) (hb : ∀ c ∈ l, 0 ≤ c ∧ c ≤ 255) : Ev (fun k => impl_Sum.f k l) (sumL l : Int) := by
  have outer : ∀ (d i x : Nat), i + d = l.length → x < 4294967296 → Ev (fun k => impl_Sum.l0 k (x : Int) l (l.length : Int) (i : Int)) ((crc x (l.drop i) ^^^ 4294967295 : Nat) : Int) := by
    intro d
    induction d with
    | zero =>
      intro i x h hx
      refine Ev.step (f := fun _ => some _) (fun k => ?_) (Ev.now _)
      have e : Go.bits BinOp.xor IntKind.u32 (if IntKind.u32.signed = true then -1 else IntKind.u32.max) (x : Int) = ((x ^^^ 4294967295 : Nat) : Int) := by
        rw [Nat.xor_comm, if_neg (by decide), show IntKind.u32.max = ((4294967295 : Nat) : Int) from rfl, xor_u32 4294967295 x (by decide) hx]
      have hlt := xor_lt x 4294967295 hx (by decide)
      rw [impl_Sum.l0, if_neg (by omega), List.drop_of_length_le (by omega), crc_nil, e, w64 (by omega) (by omega)]
    | succ d ih =>
      intro i x h hx
      have hi : i < l.length := by omega
      have hr : rd l (i : Int) = l[i] := rd_get l i i _ rfl (List.getElem?_eq_getElem hi)
      have hc := hb l[i] (List.getElem_mem hi)
      obtain ⟨c, hcc⟩ := Int.eq_ofNat_of_zero_le hc.1
      have inner : ∀ (n j x : Nat), j + n = 8 → x < 4294967296 → Ev (fun k => impl_Sum.l1 k (x : Int) l (l.length : Int) (i : Int) (j : Int)) ((crc (crcBits n x) (l.drop (i + 1)) ^^^ 4294967295 : Nat) : Int) := by
        intro n
        induction n with
        | zero =>
          intro j x hj hx
          refine Ev.step (fun k => ?_) (ih (i + 1) x (by omega) hx)
          rw [impl_Sum.l1, if_neg (by omega), w64 (by omega) (by omega)]
          rfl
        | succ n ihn =>
          intro j x hj hx
          have hlt := crcBit_lt x hx
          refine Ev.step (fun k => ?_) (ihn (j + 1) (crcBit x) (by omega) hlt)
          have ha : Go.bits .and .u32 (x : Int) 1 = (x : Int) % 2 := Go.bits_mask .u32 32 (by decide) (fun n h0 h1 => by rw [u32w]; omega) 1 (by decide) x (by omega) (by omega)
          rw [impl_Sum.l1, if_pos (by omega), ha, w64 (x := (j : Int) + 1) (by omega) (by omega)]
          by_cases ho : x % 2 = 1
          · rw [if_pos (by omega), show (x : Int) / 2 = ((x / 2 : Nat) : Int) by omega, show (3988292384 : Int) = ((3988292384 : Nat) : Int) from rfl, xor_u32 _ _ (by omega) (by decide)]
            simp only [crcBit, if_pos ho]
            rfl
          · rw [if_neg (by omega), show (x : Int) / 2 = ((x / 2 : Nat) : Int) by omega]
            simp only [crcBit, if_neg ho]
            rfl
      have hin := inner 8 0 (x ^^^ c) rfl (xor_lt _ _ hx (by omega))
      have e : crc x (l.drop i) = crc (crcBits 8 (x ^^^ c)) (l.drop (i + 1)) := by
        rw [List.drop_eq_getElem_cons hi, crc_cons, hcc]
        rfl
      rw [e]
      refine Ev.step (fun k => ?_) hin
      rw [impl_Sum.l0, if_pos (by omega), if_pos (by omega), if_pos (by omega), hr, hcc]
      rw [show ((c : Nat) : Int) % 4294967296 = (c : Int) by omega, xor_u32 x c hx (by omega)]
      rfl
  exact outer l.length 0 4294967295 (by omega) (by decide)

theorem FnExactSum (l : List Int) (hb : ∀ x ∈ l, (Lit.int .u8 x).wf = true) : ∃ k, laws_FnExactSum.f k l = some true := by
  refine Ev.rounds ?_
  by_cases hbig : (l.length : Int) > 1048576
  · exact Ev.ite_pos hbig (Ev.now true)
  refine Ev.ite_neg hbig ?_
  have hb' : ∀ c ∈ l, 0 ≤ c ∧ c ≤ 255 := fun c hc => wf8 (hb c hc)
  refine Ev.bind (toByteS_ev l (by omega)) ?_
  refine Ev.bind (spec_Sum_ev l (by omega) hb') ?_
  refine Ev.bind (toByteS_ev l (by omega)) ?_
  refine Ev.bind (impl_Sum_ev l (by omega) hb') ?_
  refine Ev.ite_pos rfl ?_
  refine Ev.bind (toByteS_ev l (by omega)) ?_
  refine Ev.bind (eqByteS_ev l (by omega)) ?_
  exact Ev.ite_pos rfl (Ev.now true)

end Go.Proofs.Ytfidfiacjocooaa.Pure
