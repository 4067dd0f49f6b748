-- Written by a program of this session (wip/myprint.py); Lean checks it.
import Derived.Test.YthakdhdoeejkmaaQFnExactWithoutx0
import Derived.Test.YthakdhdoeejkmaaQFnExactWithoutx2
import Derived.Test.YthakdhdoeejkmaaQFnExactWithoutx9
import Derived.Test.YthakdhdoeejkmaaQFnExactWithoutx13
namespace Go.Proofs.Ythakdhdoeejkmaa.QFnExactWithout
open Go.RowKit Go.Proofs.YthakdhdoeejkmaaW.PrintWords Go.Proofs.YthakdhdoeejkmaaW.PrintLast Go.Proofs.YthakdhdoeejkmaaW.PrintMore
attribute [local go_sem] max2_int min2_int max_two min_two max_three min_three max_four min_four   -- for this text's walks alone
set_option linter.unusedVariables false
set_option linter.unusedSimpArgs false

attribute [local go_sem] isSome_setCell
/-! ### laws_heldPrefixS: function 24 -/
def laws_heldPrefixS.l0 : Nat → List (S31) → Int → Int → Option (Int)
 | 0, _, _, _ => none
 | k + 1, x0, x1, x5 => if x5 < (x0.length : Int) then (if 0 ≤ x5 then (if (((rd_T31 x0 x5).f0.f0) != ((Int.tmod x1 3) == 0)) = true then (some (-1)) else (if ((rd_T31 x0 x5).f0.f1) = (wrap64 (x1 + 1)) then (if ((rd_T31 x0 x5).f0.f2) = (wrap64 ((wrap64 (x1 + 1)) + 1)) then (if ((rd_T31 x0 x5).f1) = (wrap64 ((wrap64 ((wrap64 (x1 + 1)) + 1)) + 1)) then (laws_heldPrefixS.l0 k x0 (wrap64 ((wrap64 ((wrap64 ((wrap64 (x1 + 1)) + 1)) + 1)) + 1)) (wrap64 (x5 + 1))) else (some (-1))) else (some (-1))) else (some (-1)))) else (none)) else (some x1)
def laws_heldPrefixS.f (k : Nat) (l0 : List (S31)) (a1 : Int) : Option (Int) := laws_heldPrefixS.l0 k l0 a1 0
theorem laws_heldPrefixS.mono_l : ∀ k, (∀ y0 y1 y2, LeO (laws_heldPrefixS.l0 k y0 y1 y2) (laws_heldPrefixS.l0 (k + 1) y0 y1 y2))
 | 0 => fun _ _ _ r h => by simp [laws_heldPrefixS.l0] at h
 | k + 1 => by
  have ih0 := laws_heldPrefixS.mono_l k
  ·intro y0 y1 y2
   unfold laws_heldPrefixS.l0
   repeat' first
   | (with_reducible exact ih0 _ _ _)
   | (with_reducible exact LeO.refl _)
   | (with_reducible exact LeO.none _)
   | (with_reducible refine LeO.ite ?_ ?_)
   | (with_reducible refine LeO.bind ?_ (fun _ => ?_))
   | exact ih0 _ _ _
   | exact LeO.none _
   | refine LeO.ite ?_ ?_
   | refine LeO.bind ?_ (fun _ => ?_)
theorem laws_heldPrefixS.mono : ∀ a0 a1 k, LeO (laws_heldPrefixS.f k a0 a1) (laws_heldPrefixS.f (k + 1) a0 a1) := by
 intro a0 a1 k
 have ih0 := laws_heldPrefixS.mono_l k
 unfold laws_heldPrefixS.f
 repeat' first
   | (with_reducible exact ih0 _ _ _)
   | (with_reducible exact LeO.refl _)
   | (with_reducible exact LeO.none _)
   | (with_reducible refine LeO.ite ?_ ?_)
   | (with_reducible refine LeO.bind ?_ (fun _ => ?_))
   | exact ih0 _ _ _
   | exact LeO.none _
   | refine LeO.ite ?_ ?_
   | refine LeO.bind ?_ (fun _ => ?_)
set_option maxHeartbeats 8000000 in
set_option maxRecDepth 100000 in
theorem laws_heldPrefixS.calls (k : Nat) (A0 : Option Addr) (c0 : Nat) (l0 : List (S31)) (a1 : Int) (r : Int) (w : World) (hr0 : Kd.C k31 w A0 l0.length l0) (hc0 : l0.length ≤ c0) (h : laws_heldPrefixS.f k l0 a1 = some r) :
  Calls Try.prog 24 #[.slice A0 l0.length c0, .int .i64 a1] w fun e w' => e = .returned (.int .i64 r) ∧ Drawn0 w w' := by
 have HR0 := Aside0.mk hr0
 have HC0 := Aside0.mk hc0
 clear hr0 hc0
 have H : (laws_heldPrefixS.l0 k l0 a1 0) = some r := h
 clear h
 have H' := Aside0.mk H
 clear H
 go_enter Try.func24, Try.ntmps24
 go_wp2
 go_loopg [1, 5] k (fun kq v1 v5 w' => ∃ (x1_1 : Int) (x5_1 : Int), v1 = .int .i64 x1_1 ∧ v5 = .int .i64 x5_1 ∧ Aside0 (laws_heldPrefixS.l0 kq l0 x1_1 x5_1 = some r) ∧ Aside0 (kq ≤ k) ∧ Drawn0 w w')
 case atStart => exact ⟨(a1), (0), (by first | rfl | (simp; done) | (simp [*]; done)), (by first | rfl | (simp; done) | (simp [*]; done)), H', ⟨Nat.le_refl _⟩, by repeat (first | exact Drawn0.refl _ | apply Drawn0.step)⟩
 case round =>
  clear H'
  try clear c2
  try clear p2
  obtain ⟨x1_1, x5_1, rfl, rfl, HA, HK1, ⟨m1, rfl⟩⟩ := hrel
  cases gk with
  | zero => exact absurd HA.out (by simp [laws_heldPrefixS.l0])
  | succ k1 =>
   have H := HA.out
   clear HA
   simp only [laws_heldPrefixS.l0] at H
   by_cases c3 : x5_1 < (l0.length : Int)
   ·rw [if_pos c3] at H
    have c3b0 : decide (x5_1 < (l0.length : Int)) = true := decide_eq_true c3
    clear c3
    by_cases c4 : 0 ≤ x5_1
    ·rw [if_pos c4] at H
     have c4b0 : decide (0 ≤ x5_1) = true := decide_eq_true c4
     clear c4
     by_cases c5 : (((rd_T31 l0 x5_1).f0.f0) != ((Int.tmod x1_1 3) == 0)) = true
     ·rw [if_pos c5] at H
      have c5b0 : (((rd_T31 l0 x5_1).f0.f0) != ((Int.tmod x1_1 3) == 0)) = true := c5
      (try (have c5b1 : decide (((rd_T31 l0 x5_1).f0.f0) = ((Int.tmod x1_1 3) == 0)) = false := by simpa using c5))
      (try (have c5b2 : (((rd_T31 l0 x5_1).f0.f0) == ((Int.tmod x1_1 3) == 0)) = false := by simpa using c5))
      (try (have c5b3 : ¬ (((rd_T31 l0 x5_1).f0.f0) = ((Int.tmod x1_1 3) == 0)) := by simpa using c5))
      clear c5
      obtain rfl := Option.some.inj H
      have p303 : 0 ≤ (x5_1 : Int) := of_decide_eq_true (by first | (with_reducible assumption) | assumption)
      have q303 : x5_1 < (l0.length : Int) := of_decide_eq_true (by first | (with_reducible assumption) | assumption)
      obtain ⟨ad303, e303, hx303_0, hx303_1, hx303_2, hx303_3⟩ := at_T31 HR0.out x5_1 p303 q303
      cases e303
      replace p303 := eq_true p303
      replace q303 := eq_true q303
      go_wp2
      go_ret
      exact ⟨by first | rfl | (simp; done) | (simp [*]; done), by repeat (first | exact Drawn0.refl _ | apply Drawn0.step)⟩
     ·rw [if_neg c5] at H
      have c5b0 : (((rd_T31 l0 x5_1).f0.f0) != ((Int.tmod x1_1 3) == 0)) = false := by simpa using c5
      (try (have c5b1 : decide (((rd_T31 l0 x5_1).f0.f0) = ((Int.tmod x1_1 3) == 0)) = true := by simpa using c5))
      (try (have c5b2 : (((rd_T31 l0 x5_1).f0.f0) == ((Int.tmod x1_1 3) == 0)) = true := by simpa using c5))
      clear c5
      by_cases c6 : ((rd_T31 l0 x5_1).f0.f1) = (wrap64 (x1_1 + 1))
      ·rw [if_pos c6] at H
       have c6b0 : (((rd_T31 l0 x5_1).f0.f1) == (wrap64 (x1_1 + 1))) = true := beq_iff_eq.mpr c6
       have c6b1 : (((rd_T31 l0 x5_1).f0.f1) != (wrap64 (x1_1 + 1))) = false := bne_eq_false_iff_eq.mpr c6
       clear c6
       by_cases c7 : ((rd_T31 l0 x5_1).f0.f2) = (wrap64 ((wrap64 (x1_1 + 1)) + 1))
       ·rw [if_pos c7] at H
        have c7b0 : (((rd_T31 l0 x5_1).f0.f2) == (wrap64 ((wrap64 (x1_1 + 1)) + 1))) = true := beq_iff_eq.mpr c7
        have c7b1 : (((rd_T31 l0 x5_1).f0.f2) != (wrap64 ((wrap64 (x1_1 + 1)) + 1))) = false := bne_eq_false_iff_eq.mpr c7
        clear c7
        by_cases c8 : ((rd_T31 l0 x5_1).f1) = (wrap64 ((wrap64 ((wrap64 (x1_1 + 1)) + 1)) + 1))
        ·rw [if_pos c8] at H
         have c8b0 : (((rd_T31 l0 x5_1).f1) == (wrap64 ((wrap64 ((wrap64 (x1_1 + 1)) + 1)) + 1))) = true := beq_iff_eq.mpr c8
         have c8b1 : (((rd_T31 l0 x5_1).f1) != (wrap64 ((wrap64 ((wrap64 (x1_1 + 1)) + 1)) + 1))) = false := bne_eq_false_iff_eq.mpr c8
         clear c8
         have H' := Aside0.mk H
         clear H
         have p303 : 0 ≤ (x5_1 : Int) := of_decide_eq_true (by first | (with_reducible assumption) | assumption)
         have q303 : x5_1 < (l0.length : Int) := of_decide_eq_true (by first | (with_reducible assumption) | assumption)
         obtain ⟨ad303, e303, hx303_0, hx303_1, hx303_2, hx303_3⟩ := at_T31 HR0.out x5_1 p303 q303
         cases e303
         replace p303 := eq_true p303
         replace q303 := eq_true q303
         have p304 : 0 ≤ (x5_1 : Int) := of_decide_eq_true (by first | (with_reducible assumption) | assumption)
         have q304 : x5_1 < (l0.length : Int) := of_decide_eq_true (by first | (with_reducible assumption) | assumption)
         obtain ⟨ad304, e304, hx304_0, hx304_1, hx304_2, hx304_3⟩ := at_T31 HR0.out x5_1 p304 q304
         obtain rfl : ad303 = ad304 := (by injection e304)
         replace p304 := eq_true p304
         replace q304 := eq_true q304
         have p305 : 0 ≤ (x5_1 : Int) := of_decide_eq_true (by first | (with_reducible assumption) | assumption)
         have q305 : x5_1 < (l0.length : Int) := of_decide_eq_true (by first | (with_reducible assumption) | assumption)
         obtain ⟨ad305, e305, hx305_0, hx305_1, hx305_2, hx305_3⟩ := at_T31 HR0.out x5_1 p305 q305
         obtain rfl : ad303 = ad305 := (by injection e305)
         replace p305 := eq_true p305
         replace q305 := eq_true q305
         have p306 : 0 ≤ (x5_1 : Int) := of_decide_eq_true (by first | (with_reducible assumption) | assumption)
         have q306 : x5_1 < (l0.length : Int) := of_decide_eq_true (by first | (with_reducible assumption) | assumption)
         obtain ⟨ad306, e306, hx306_0, hx306_1, hx306_2, hx306_3⟩ := at_T31 HR0.out x5_1 p306 q306
         obtain rfl : ad303 = ad306 := (by injection e306)
         replace p306 := eq_true p306
         replace q306 := eq_true q306
         go_wp2
         go_roundg k1
         case measure => have := HK1.out; omega
         case rel => exact ⟨(wrap64 ((wrap64 ((wrap64 ((wrap64 (x1_1 + 1)) + 1)) + 1)) + 1)), (wrap64 (x5_1 + 1)), (by first | rfl | (simp; done) | (simp [*]; done)), (by first | rfl | (simp; done) | (simp [*]; done)), H', ⟨by have := HK1.out; omega⟩, by repeat (first | exact Drawn0.refl _ | apply Drawn0.step)⟩
        ·rw [if_neg c8] at H
         have c8b0 : (((rd_T31 l0 x5_1).f1) == (wrap64 ((wrap64 ((wrap64 (x1_1 + 1)) + 1)) + 1))) = false := beq_eq_false_iff_ne.mpr c8
         have c8b1 : (((rd_T31 l0 x5_1).f1) != (wrap64 ((wrap64 ((wrap64 (x1_1 + 1)) + 1)) + 1))) = true := bne_iff_ne.mpr c8
         obtain rfl := Option.some.inj H
         have p303 : 0 ≤ (x5_1 : Int) := of_decide_eq_true (by first | (with_reducible assumption) | assumption)
         have q303 : x5_1 < (l0.length : Int) := of_decide_eq_true (by first | (with_reducible assumption) | assumption)
         obtain ⟨ad303, e303, hx303_0, hx303_1, hx303_2, hx303_3⟩ := at_T31 HR0.out x5_1 p303 q303
         cases e303
         replace p303 := eq_true p303
         replace q303 := eq_true q303
         have p304 : 0 ≤ (x5_1 : Int) := of_decide_eq_true (by first | (with_reducible assumption) | assumption)
         have q304 : x5_1 < (l0.length : Int) := of_decide_eq_true (by first | (with_reducible assumption) | assumption)
         obtain ⟨ad304, e304, hx304_0, hx304_1, hx304_2, hx304_3⟩ := at_T31 HR0.out x5_1 p304 q304
         obtain rfl : ad303 = ad304 := (by injection e304)
         replace p304 := eq_true p304
         replace q304 := eq_true q304
         have p305 : 0 ≤ (x5_1 : Int) := of_decide_eq_true (by first | (with_reducible assumption) | assumption)
         have q305 : x5_1 < (l0.length : Int) := of_decide_eq_true (by first | (with_reducible assumption) | assumption)
         obtain ⟨ad305, e305, hx305_0, hx305_1, hx305_2, hx305_3⟩ := at_T31 HR0.out x5_1 p305 q305
         obtain rfl : ad303 = ad305 := (by injection e305)
         replace p305 := eq_true p305
         replace q305 := eq_true q305
         have p306 : 0 ≤ (x5_1 : Int) := of_decide_eq_true (by first | (with_reducible assumption) | assumption)
         have q306 : x5_1 < (l0.length : Int) := of_decide_eq_true (by first | (with_reducible assumption) | assumption)
         obtain ⟨ad306, e306, hx306_0, hx306_1, hx306_2, hx306_3⟩ := at_T31 HR0.out x5_1 p306 q306
         obtain rfl : ad303 = ad306 := (by injection e306)
         replace p306 := eq_true p306
         replace q306 := eq_true q306
         go_wp2
         go_ret
         exact ⟨by first | rfl | (simp; done) | (simp [*]; done), by repeat (first | exact Drawn0.refl _ | apply Drawn0.step)⟩
       ·rw [if_neg c7] at H
        have c7b0 : (((rd_T31 l0 x5_1).f0.f2) == (wrap64 ((wrap64 (x1_1 + 1)) + 1))) = false := beq_eq_false_iff_ne.mpr c7
        have c7b1 : (((rd_T31 l0 x5_1).f0.f2) != (wrap64 ((wrap64 (x1_1 + 1)) + 1))) = true := bne_iff_ne.mpr c7
        obtain rfl := Option.some.inj H
        have p303 : 0 ≤ (x5_1 : Int) := of_decide_eq_true (by first | (with_reducible assumption) | assumption)
        have q303 : x5_1 < (l0.length : Int) := of_decide_eq_true (by first | (with_reducible assumption) | assumption)
        obtain ⟨ad303, e303, hx303_0, hx303_1, hx303_2, hx303_3⟩ := at_T31 HR0.out x5_1 p303 q303
        cases e303
        replace p303 := eq_true p303
        replace q303 := eq_true q303
        have p304 : 0 ≤ (x5_1 : Int) := of_decide_eq_true (by first | (with_reducible assumption) | assumption)
        have q304 : x5_1 < (l0.length : Int) := of_decide_eq_true (by first | (with_reducible assumption) | assumption)
        obtain ⟨ad304, e304, hx304_0, hx304_1, hx304_2, hx304_3⟩ := at_T31 HR0.out x5_1 p304 q304
        obtain rfl : ad303 = ad304 := (by injection e304)
        replace p304 := eq_true p304
        replace q304 := eq_true q304
        have p305 : 0 ≤ (x5_1 : Int) := of_decide_eq_true (by first | (with_reducible assumption) | assumption)
        have q305 : x5_1 < (l0.length : Int) := of_decide_eq_true (by first | (with_reducible assumption) | assumption)
        obtain ⟨ad305, e305, hx305_0, hx305_1, hx305_2, hx305_3⟩ := at_T31 HR0.out x5_1 p305 q305
        obtain rfl : ad303 = ad305 := (by injection e305)
        replace p305 := eq_true p305
        replace q305 := eq_true q305
        go_wp2
        go_ret
        exact ⟨by first | rfl | (simp; done) | (simp [*]; done), by repeat (first | exact Drawn0.refl _ | apply Drawn0.step)⟩
      ·rw [if_neg c6] at H
       have c6b0 : (((rd_T31 l0 x5_1).f0.f1) == (wrap64 (x1_1 + 1))) = false := beq_eq_false_iff_ne.mpr c6
       have c6b1 : (((rd_T31 l0 x5_1).f0.f1) != (wrap64 (x1_1 + 1))) = true := bne_iff_ne.mpr c6
       obtain rfl := Option.some.inj H
       have p303 : 0 ≤ (x5_1 : Int) := of_decide_eq_true (by first | (with_reducible assumption) | assumption)
       have q303 : x5_1 < (l0.length : Int) := of_decide_eq_true (by first | (with_reducible assumption) | assumption)
       obtain ⟨ad303, e303, hx303_0, hx303_1, hx303_2, hx303_3⟩ := at_T31 HR0.out x5_1 p303 q303
       cases e303
       replace p303 := eq_true p303
       replace q303 := eq_true q303
       have p304 : 0 ≤ (x5_1 : Int) := of_decide_eq_true (by first | (with_reducible assumption) | assumption)
       have q304 : x5_1 < (l0.length : Int) := of_decide_eq_true (by first | (with_reducible assumption) | assumption)
       obtain ⟨ad304, e304, hx304_0, hx304_1, hx304_2, hx304_3⟩ := at_T31 HR0.out x5_1 p304 q304
       obtain rfl : ad303 = ad304 := (by injection e304)
       replace p304 := eq_true p304
       replace q304 := eq_true q304
       go_wp2
       go_ret
       exact ⟨by first | rfl | (simp; done) | (simp [*]; done), by repeat (first | exact Drawn0.refl _ | apply Drawn0.step)⟩
    ·rw [if_neg c4] at H
     exact absurd H (by simp)
   ·rw [if_neg c3] at H
    have c3b0 : decide (x5_1 < (l0.length : Int)) = false := decide_eq_false c3
    clear c3
    obtain rfl := Option.some.inj H
    go_wp2
    go_ret
    exact ⟨by first | rfl | (simp; done) | (simp [*]; done), by repeat (first | exact Drawn0.refl _ | apply Drawn0.step)⟩

/-! ### laws_FnExactWithout: function 4 -/
def laws_FnExactWithout.j0 : Nat → List (S25) → List (S31) → List (S31) → Bool → Bool → Int → Int → Int → Option (Bool)
 | 0, _, _, _, _, _, _, _, _ => none
 | k + 1, x1, x6, x8, x48, x308000, x308001, x308002, x308003 => if x48 = true then (some false) else ((laws_markPrefixS.f k x8 1).bind fun bt337 => ((laws_heldPrefixS.f k bt337.2 1).bind fun t339 => (if t339 < 0 then (some false) else (if t339 = bt337.1 then ((laws_toPrefix.f x308000 x308001 x308002 x308003).bind fun bt340 => ((laws_toPrefixS.f k x1).bind fun t344 => ((impl_Without.f k bt340.1 bt340.2.1 bt340.2.2.1 bt340.2.2.2 t344).bind fun t347 => ((laws_eqPrefixS.f k t347 x6).bind fun t350 => (if t350 = true then ((laws_heldPrefixS.f k bt337.2 1).bind fun t351 => (if t351 < 0 then (some false) else (if t351 = bt337.1 then (some true) else (some false)))) else (some false)))))) else (some false)))))
def laws_FnExactWithout.f (k : Nat) (a0_0 : Bool) (a0_1 : Int) (a0_2 : Int) (a0_3 : Int) (l1 : List (S25)) : Option (Bool) := (laws_szPrefixS.f l1 1048576).bind fun t308 => (if t308 < 0 then (some true) else ((laws_toPrefix.f a0_0 a0_1 a0_2 a0_3).bind fun bt309 => ((laws_toPrefixS.f k l1).bind fun t313 => ((spec_Without.f k bt309.1 bt309.2.1 bt309.2.2.1 bt309.2.2.2 t313).bind fun t316 => ((laws_toPrefixS.f k l1).bind fun t319 => ((laws_toPrefix.f a0_0 a0_1 a0_2 a0_3).bind fun bt322 => ((impl_Without.f k bt322.1 bt322.2.1 bt322.2.2.1 bt322.2.2.2 t319).bind fun t326 => ((laws_eqPrefixS.f k t326 t316).bind fun t329 => (if t329 = true then ((laws_toPrefixS.f k l1).bind fun t330 => ((laws_eqPrefixS.f k t319 t330).bind fun t333 => (if t333 = true then ((laws_markPrefixS.f k t319 1).bind fun bt334 => (if bt334.1 < 0 then (laws_FnExactWithout.j0 k l1 t316 t326 true a0_0 a0_1 a0_2 a0_3) else ((laws_eqPrefixS.f k t326 t316).bind fun t336 => (laws_FnExactWithout.j0 k l1 t316 t326 (!t336) a0_0 a0_1 a0_2 a0_3)))) else (some false)))) else (some false))))))))))
theorem laws_FnExactWithout.mono_l : ∀ k, (∀ y0 y1 y2 y3 y4 y5 y6 y7, LeO (laws_FnExactWithout.j0 k y0 y1 y2 y3 y4 y5 y6 y7) (laws_FnExactWithout.j0 (k + 1) y0 y1 y2 y3 y4 y5 y6 y7))
 | 0 => fun _ _ _ _ _ _ _ _ r h => by simp [laws_FnExactWithout.j0] at h
 | k + 1 => by
  have ih0 := laws_FnExactWithout.mono_l k
  ·intro y0 y1 y2 y3 y4 y5 y6 y7
   unfold laws_FnExactWithout.j0
   repeat' first
   | (with_reducible exact ih0 _ _ _ _ _ _ _ _)
   | (with_reducible exact impl_Without.mono _ _ _ _ _ _)
   | (with_reducible exact laws_eqPrefixS.mono _ _ _)
   | (with_reducible exact laws_heldPrefixS.mono _ _ _)
   | (with_reducible exact laws_markPrefixS.mono _ _ _)
   | (with_reducible exact laws_toPrefixS.mono _ _)
   | (with_reducible exact spec_Without.mono _ _ _ _ _ _)
   | (with_reducible exact LeO.refl _)
   | (with_reducible exact LeO.none _)
   | (with_reducible refine LeO.ite ?_ ?_)
   | (with_reducible refine LeO.bind ?_ (fun _ => ?_))
   | exact ih0 _ _ _ _ _ _ _ _
   | exact impl_Without.mono _ _ _ _ _ _
   | exact laws_eqPrefixS.mono _ _ _
   | exact laws_heldPrefixS.mono _ _ _
   | exact laws_markPrefixS.mono _ _ _
   | exact laws_toPrefixS.mono _ _
   | exact spec_Without.mono _ _ _ _ _ _
   | exact LeO.none _
   | refine LeO.ite ?_ ?_
   | refine LeO.bind ?_ (fun _ => ?_)
theorem laws_FnExactWithout.mono : ∀ a0 a1 a2 a3 a4 k, LeO (laws_FnExactWithout.f k a0 a1 a2 a3 a4) (laws_FnExactWithout.f (k + 1) a0 a1 a2 a3 a4) := by
 intro a0 a1 a2 a3 a4 k
 have ih0 := laws_FnExactWithout.mono_l k
 unfold laws_FnExactWithout.f
 repeat' first
   | (with_reducible exact ih0 _ _ _ _ _ _ _ _)
   | (with_reducible exact impl_Without.mono _ _ _ _ _ _)
   | (with_reducible exact laws_eqPrefixS.mono _ _ _)
   | (with_reducible exact laws_heldPrefixS.mono _ _ _)
   | (with_reducible exact laws_markPrefixS.mono _ _ _)
   | (with_reducible exact laws_toPrefixS.mono _ _)
   | (with_reducible exact spec_Without.mono _ _ _ _ _ _)
   | (with_reducible exact LeO.refl _)
   | (with_reducible exact LeO.none _)
   | (with_reducible refine LeO.ite ?_ ?_)
   | (with_reducible refine LeO.bind ?_ (fun _ => ?_))
   | exact ih0 _ _ _ _ _ _ _ _
   | exact impl_Without.mono _ _ _ _ _ _
   | exact laws_eqPrefixS.mono _ _ _
   | exact laws_heldPrefixS.mono _ _ _
   | exact laws_markPrefixS.mono _ _ _
   | exact laws_toPrefixS.mono _ _
   | exact spec_Without.mono _ _ _ _ _ _
   | exact LeO.none _
   | refine LeO.ite ?_ ?_
   | refine LeO.bind ?_ (fun _ => ?_)
set_option maxHeartbeats 8000000 in
set_option maxRecDepth 100000 in
theorem laws_FnExactWithout.calls (k : Nat) (a0_0 : Bool) (a0_1 : Int) (a0_2 : Int) (a0_3 : Int) (A1 : Option Addr) (c1 : Nat) (l1 : List (S25)) (r : Bool) (w : World) (hr1 : Kd.C k25 w A1 l1.length l1) (hc1 : l1.length ≤ c1) (h : laws_FnExactWithout.f k a0_0 a0_1 a0_2 a0_3 l1 = some r) (hlaw_ : r = true := by rfl) :
  Calls Try.prog 4 #[.agg #[.bool a0_0, .int .i64 a0_1, .int .i64 a0_2, .int .i64 a0_3], .slice A1 l1.length c1] w fun e w' => e = .returned (.bool r) ∧ Below w.heap.size w w' := by
 have HLAW := Aside0.mk hlaw_
 clear hlaw_
 have hu25 := Try.underlying25
 have HR1 := Aside0.mk hr1
 have HC1 := Aside0.mk hc1
 clear hr1 hc1
 have HB := Aside0.mk (Below.refl w.heap.size w)
 have H : ((laws_szPrefixS.f l1 1048576).bind fun t308 => (if t308 < 0 then (some true) else ((laws_toPrefix.f a0_0 a0_1 a0_2 a0_3).bind fun bt309 => ((laws_toPrefixS.f k l1).bind fun t313 => ((spec_Without.f k bt309.1 bt309.2.1 bt309.2.2.1 bt309.2.2.2 t313).bind fun t316 => ((laws_toPrefixS.f k l1).bind fun t319 => ((laws_toPrefix.f a0_0 a0_1 a0_2 a0_3).bind fun bt322 => ((impl_Without.f k bt322.1 bt322.2.1 bt322.2.2.1 bt322.2.2.2 t319).bind fun t326 => ((laws_eqPrefixS.f k t326 t316).bind fun t329 => (if t329 = true then ((laws_toPrefixS.f k l1).bind fun t330 => ((laws_eqPrefixS.f k t319 t330).bind fun t333 => (if t333 = true then ((laws_markPrefixS.f k t319 1).bind fun bt334 => (if bt334.1 < 0 then (laws_FnExactWithout.j0 k l1 t316 t326 true a0_0 a0_1 a0_2 a0_3) else ((laws_eqPrefixS.f k t326 t316).bind fun t336 => (laws_FnExactWithout.j0 k l1 t316 t326 (!t336) a0_0 a0_1 a0_2 a0_3)))) else (some false)))) else (some false))))))))))) = some r := h
 clear h
 replace H := Option.bind_eq_some_iff.mp H
 obtain ⟨t308, A30, H⟩ := H
 replace H : (if t308 < 0 then (some true) else ((laws_toPrefix.f a0_0 a0_1 a0_2 a0_3).bind fun bt309 => ((laws_toPrefixS.f k l1).bind fun t313 => ((spec_Without.f k bt309.1 bt309.2.1 bt309.2.2.1 bt309.2.2.2 t313).bind fun t316 => ((laws_toPrefixS.f k l1).bind fun t319 => ((laws_toPrefix.f a0_0 a0_1 a0_2 a0_3).bind fun bt322 => ((impl_Without.f k bt322.1 bt322.2.1 bt322.2.2.1 bt322.2.2.2 t319).bind fun t326 => ((laws_eqPrefixS.f k t326 t316).bind fun t329 => (if t329 = true then ((laws_toPrefixS.f k l1).bind fun t330 => ((laws_eqPrefixS.f k t319 t330).bind fun t333 => (if t333 = true then ((laws_markPrefixS.f k t319 1).bind fun bt334 => (if bt334.1 < 0 then (laws_FnExactWithout.j0 k l1 t316 t326 true a0_0 a0_1 a0_2 a0_3) else ((laws_eqPrefixS.f k t326 t316).bind fun t336 => (laws_FnExactWithout.j0 k l1 t316 t326 (!t336) a0_0 a0_1 a0_2 a0_3)))) else (some false)))) else (some false)))))))))) = some r := H
 have A3 := Aside0.mk A30
 clear A30
 by_cases c4 : t308 < 0
 ·rw [if_pos c4] at H
  have c4b0 : decide (t308 < 0) = true := decide_eq_true c4
  clear c4
  obtain rfl := Option.some.inj H
  go_enter Try.func4, Try.ntmps4
  go_wp2_with (first | ((with_reducible refine gate_dst (N := 2) rfl ?_); refine box_event ?hg (N := 2) ?hd (cs := #[.bool a0_0, .int .i64 a0_1, .int .i64 a0_2, .int .i64 a0_3]) (t := 25) ?hr ?_; (case hd => rfl); (case hg => rfl); (case hr => first | (go_simp; done) | (go_simp; rfl)); intro gb307 hg w5 hbox hb; have n0_ := Aside0.mk (below_step (by repeat (first | (with_reducible first | exact HB.out | apply below_alloc | apply pw_below_drewN | apply below_drew1) | exact HB.out)) hb); have n1_ := Aside0.mk (hbox); have n2_ := Aside0.mk ((by rw [hg]; exact (below_size (by repeat (first | (with_reducible first | exact HB.out | apply below_alloc | apply pw_below_drewN | apply below_drew1) | exact HB.out))) : w.heap.size ≤ gb307)); have n3_ := Aside0.mk ((by rw [hg]; exact (below_size (by repeat (first | (with_reducible first | exact HB.out | apply below_alloc | apply pw_below_drewN | apply below_drew1) | exact HB.out))) : w.heap.size ≤ gb307)); clear HB; have HB := n0_; have BK307 := n1_; have GW307 := n2_; have GE307 := n3_; clear n0_ n1_ n2_ n3_; clear hb hbox hg) | ((with_reducible refine gate_callee (f := 15) rfl ?_); refine goesL_ (some 15) rfl rfl Try.func15 (by kernel_rfl) rfl #[.slice A1 l1.length c1, .int .i64 1048576] rfl (by (try simp only [List.map_toArray, List.map_cons, List.map_nil]); first | done | rfl | (simp only [List.length_drop, List.length_take]; rfl)) ?_; (with_reducible refine (laws_szPrefixS.calls _ _ l1 1048576 t308 _ ?side1 ?side2 A3.out).mono ?_); (case side1 => repeat (first | exact (Kd.C_below HR1.out HB.out) | (with_reducible refine Kd.C_alloc ?_ _) | (with_reducible refine Kd.C_drewN ?_ _) | (with_reducible refine Kd.C_drew ?_))); (case side2 => exact HC1.out); rintro e w' ⟨rfl, ⟨nd, rfl⟩⟩; refine ⟨_, rfl, ?_⟩))
  go_ret
  exact ⟨by first | rfl | (simp [errW_none, errW_some] <;> rfl) | (simp [*, errW_none, errW_some] <;> rfl), by repeat (first | (with_reducible first | exact HB.out | apply below_alloc | apply pw_below_drewN | apply below_drew1 | refine below_set ?_ GE307.out) | exact HB.out)⟩
 ·rw [if_neg c4] at H
  have c4b0 : decide (t308 < 0) = false := decide_eq_false c4
  clear c4
  replace H := Option.bind_eq_some_iff.mp H
  obtain ⟨⟨t309, t310, t311, t312⟩, A60, H⟩ := H
  replace H : ((laws_toPrefixS.f k l1).bind fun t313 => ((spec_Without.f k t309 t310 t311 t312 t313).bind fun t316 => ((laws_toPrefixS.f k l1).bind fun t319 => ((laws_toPrefix.f a0_0 a0_1 a0_2 a0_3).bind fun bt322 => ((impl_Without.f k bt322.1 bt322.2.1 bt322.2.2.1 bt322.2.2.2 t319).bind fun t326 => ((laws_eqPrefixS.f k t326 t316).bind fun t329 => (if t329 = true then ((laws_toPrefixS.f k l1).bind fun t330 => ((laws_eqPrefixS.f k t319 t330).bind fun t333 => (if t333 = true then ((laws_markPrefixS.f k t319 1).bind fun bt334 => (if bt334.1 < 0 then (laws_FnExactWithout.j0 k l1 t316 t326 true a0_0 a0_1 a0_2 a0_3) else ((laws_eqPrefixS.f k t326 t316).bind fun t336 => (laws_FnExactWithout.j0 k l1 t316 t326 (!t336) a0_0 a0_1 a0_2 a0_3)))) else (some false)))) else (some false)))))))) = some r := H
  have A6 := Aside0.mk A60
  clear A60
  replace H := Option.bind_eq_some_iff.mp H
  obtain ⟨t313, A70, H⟩ := H
  replace H : ((spec_Without.f k t309 t310 t311 t312 t313).bind fun t316 => ((laws_toPrefixS.f k l1).bind fun t319 => ((laws_toPrefix.f a0_0 a0_1 a0_2 a0_3).bind fun bt322 => ((impl_Without.f k bt322.1 bt322.2.1 bt322.2.2.1 bt322.2.2.2 t319).bind fun t326 => ((laws_eqPrefixS.f k t326 t316).bind fun t329 => (if t329 = true then ((laws_toPrefixS.f k l1).bind fun t330 => ((laws_eqPrefixS.f k t319 t330).bind fun t333 => (if t333 = true then ((laws_markPrefixS.f k t319 1).bind fun bt334 => (if bt334.1 < 0 then (laws_FnExactWithout.j0 k l1 t316 t326 true a0_0 a0_1 a0_2 a0_3) else ((laws_eqPrefixS.f k t326 t316).bind fun t336 => (laws_FnExactWithout.j0 k l1 t316 t326 (!t336) a0_0 a0_1 a0_2 a0_3)))) else (some false)))) else (some false))))))) = some r := H
  have A7 := Aside0.mk A70
  clear A70
  replace H := Option.bind_eq_some_iff.mp H
  obtain ⟨t316, A80, H⟩ := H
  replace H : ((laws_toPrefixS.f k l1).bind fun t319 => ((laws_toPrefix.f a0_0 a0_1 a0_2 a0_3).bind fun bt322 => ((impl_Without.f k bt322.1 bt322.2.1 bt322.2.2.1 bt322.2.2.2 t319).bind fun t326 => ((laws_eqPrefixS.f k t326 t316).bind fun t329 => (if t329 = true then ((laws_toPrefixS.f k l1).bind fun t330 => ((laws_eqPrefixS.f k t319 t330).bind fun t333 => (if t333 = true then ((laws_markPrefixS.f k t319 1).bind fun bt334 => (if bt334.1 < 0 then (laws_FnExactWithout.j0 k l1 t316 t326 true a0_0 a0_1 a0_2 a0_3) else ((laws_eqPrefixS.f k t326 t316).bind fun t336 => (laws_FnExactWithout.j0 k l1 t316 t326 (!t336) a0_0 a0_1 a0_2 a0_3)))) else (some false)))) else (some false)))))) = some r := H
  have A8 := Aside0.mk A80
  clear A80
  replace H := Option.bind_eq_some_iff.mp H
  obtain ⟨t319, A90, H⟩ := H
  replace H : ((laws_toPrefix.f a0_0 a0_1 a0_2 a0_3).bind fun bt322 => ((impl_Without.f k bt322.1 bt322.2.1 bt322.2.2.1 bt322.2.2.2 t319).bind fun t326 => ((laws_eqPrefixS.f k t326 t316).bind fun t329 => (if t329 = true then ((laws_toPrefixS.f k l1).bind fun t330 => ((laws_eqPrefixS.f k t319 t330).bind fun t333 => (if t333 = true then ((laws_markPrefixS.f k t319 1).bind fun bt334 => (if bt334.1 < 0 then (laws_FnExactWithout.j0 k l1 t316 t326 true a0_0 a0_1 a0_2 a0_3) else ((laws_eqPrefixS.f k t326 t316).bind fun t336 => (laws_FnExactWithout.j0 k l1 t316 t326 (!t336) a0_0 a0_1 a0_2 a0_3)))) else (some false)))) else (some false))))) = some r := H
  have A9 := Aside0.mk A90
  clear A90
  replace H := Option.bind_eq_some_iff.mp H
  obtain ⟨⟨t322, t323, t324, t325⟩, A100, H⟩ := H
  replace H : ((impl_Without.f k t322 t323 t324 t325 t319).bind fun t326 => ((laws_eqPrefixS.f k t326 t316).bind fun t329 => (if t329 = true then ((laws_toPrefixS.f k l1).bind fun t330 => ((laws_eqPrefixS.f k t319 t330).bind fun t333 => (if t333 = true then ((laws_markPrefixS.f k t319 1).bind fun bt334 => (if bt334.1 < 0 then (laws_FnExactWithout.j0 k l1 t316 t326 true a0_0 a0_1 a0_2 a0_3) else ((laws_eqPrefixS.f k t326 t316).bind fun t336 => (laws_FnExactWithout.j0 k l1 t316 t326 (!t336) a0_0 a0_1 a0_2 a0_3)))) else (some false)))) else (some false)))) = some r := H
  have A10 := Aside0.mk A100
  clear A100
  replace H := Option.bind_eq_some_iff.mp H
  obtain ⟨t326, A110, H⟩ := H
  replace H : ((laws_eqPrefixS.f k t326 t316).bind fun t329 => (if t329 = true then ((laws_toPrefixS.f k l1).bind fun t330 => ((laws_eqPrefixS.f k t319 t330).bind fun t333 => (if t333 = true then ((laws_markPrefixS.f k t319 1).bind fun bt334 => (if bt334.1 < 0 then (laws_FnExactWithout.j0 k l1 t316 t326 true a0_0 a0_1 a0_2 a0_3) else ((laws_eqPrefixS.f k t326 t316).bind fun t336 => (laws_FnExactWithout.j0 k l1 t316 t326 (!t336) a0_0 a0_1 a0_2 a0_3)))) else (some false)))) else (some false))) = some r := H
  have A11 := Aside0.mk A110
  clear A110
  replace H := Option.bind_eq_some_iff.mp H
  obtain ⟨t329, A120, H⟩ := H
  replace H : (if t329 = true then ((laws_toPrefixS.f k l1).bind fun t330 => ((laws_eqPrefixS.f k t319 t330).bind fun t333 => (if t333 = true then ((laws_markPrefixS.f k t319 1).bind fun bt334 => (if bt334.1 < 0 then (laws_FnExactWithout.j0 k l1 t316 t326 true a0_0 a0_1 a0_2 a0_3) else ((laws_eqPrefixS.f k t326 t316).bind fun t336 => (laws_FnExactWithout.j0 k l1 t316 t326 (!t336) a0_0 a0_1 a0_2 a0_3)))) else (some false)))) else (some false)) = some r := H
  have A12 := Aside0.mk A120
  clear A120
  by_cases c13 : t329 = true
  ·subst c13
   have H1 : ((laws_toPrefixS.f k l1).bind fun t330 => ((laws_eqPrefixS.f k t319 t330).bind fun t333 => (if t333 = true then ((laws_markPrefixS.f k t319 1).bind fun bt334 => (if bt334.1 < 0 then (laws_FnExactWithout.j0 k l1 t316 t326 true a0_0 a0_1 a0_2 a0_3) else ((laws_eqPrefixS.f k t326 t316).bind fun t336 => (laws_FnExactWithout.j0 k l1 t316 t326 (!t336) a0_0 a0_1 a0_2 a0_3)))) else (some false)))) = some r := by rw [if_pos rfl] at H; exact H
   clear H
   have H := H1
   clear H1
   replace H := Option.bind_eq_some_iff.mp H
   obtain ⟨t330, A140, H⟩ := H
   replace H : ((laws_eqPrefixS.f k t319 t330).bind fun t333 => (if t333 = true then ((laws_markPrefixS.f k t319 1).bind fun bt334 => (if bt334.1 < 0 then (laws_FnExactWithout.j0 k l1 t316 t326 true a0_0 a0_1 a0_2 a0_3) else ((laws_eqPrefixS.f k t326 t316).bind fun t336 => (laws_FnExactWithout.j0 k l1 t316 t326 (!t336) a0_0 a0_1 a0_2 a0_3)))) else (some false))) = some r := H
   have A14 := Aside0.mk A140
   clear A140
   replace H := Option.bind_eq_some_iff.mp H
   obtain ⟨t333, A150, H⟩ := H
   replace H : (if t333 = true then ((laws_markPrefixS.f k t319 1).bind fun bt334 => (if bt334.1 < 0 then (laws_FnExactWithout.j0 k l1 t316 t326 true a0_0 a0_1 a0_2 a0_3) else ((laws_eqPrefixS.f k t326 t316).bind fun t336 => (laws_FnExactWithout.j0 k l1 t316 t326 (!t336) a0_0 a0_1 a0_2 a0_3)))) else (some false)) = some r := H
   have A15 := Aside0.mk A150
   clear A150
   by_cases c16 : t333 = true
   ·subst c16
    have H1 : ((laws_markPrefixS.f k t319 1).bind fun bt334 => (if bt334.1 < 0 then (laws_FnExactWithout.j0 k l1 t316 t326 true a0_0 a0_1 a0_2 a0_3) else ((laws_eqPrefixS.f k t326 t316).bind fun t336 => (laws_FnExactWithout.j0 k l1 t316 t326 (!t336) a0_0 a0_1 a0_2 a0_3)))) = some r := by rw [if_pos rfl] at H; exact H
    clear H
    have H := H1
    clear H1
    replace H := Option.bind_eq_some_iff.mp H
    obtain ⟨⟨t334, t335⟩, A170, H⟩ := H
    replace H : (if t334 < 0 then (laws_FnExactWithout.j0 k l1 t316 t326 true a0_0 a0_1 a0_2 a0_3) else ((laws_eqPrefixS.f k t326 t316).bind fun t336 => (laws_FnExactWithout.j0 k l1 t316 t326 (!t336) a0_0 a0_1 a0_2 a0_3))) = some r := H
    have A17 := Aside0.mk A170
    clear A170
    have HC18 := Aside0.mk H
    clear H
    go_enter Try.func4, Try.ntmps4
    go_upto_region 14 with (first | ((with_reducible refine gate_dst (N := 2) rfl ?_); refine box_event ?hg (N := 2) ?hd (cs := #[.bool a0_0, .int .i64 a0_1, .int .i64 a0_2, .int .i64 a0_3]) (t := 25) ?hr ?_; (case hd => rfl); (case hg => rfl); (case hr => first | (go_simp; done) | (go_simp; rfl)); intro gb307 hg w19 hbox hb; have n0_ := Aside0.mk (below_step (by repeat (first | (with_reducible first | exact HB.out | apply below_alloc | apply pw_below_drewN | apply below_drew1) | exact HB.out)) hb); have n1_ := Aside0.mk (hbox); have n2_ := Aside0.mk ((by rw [hg]; exact (below_size (by repeat (first | (with_reducible first | exact HB.out | apply below_alloc | apply pw_below_drewN | apply below_drew1) | exact HB.out))) : w.heap.size ≤ gb307)); have n3_ := Aside0.mk ((by rw [hg]; exact (below_size (by repeat (first | (with_reducible first | exact HB.out | apply below_alloc | apply pw_below_drewN | apply below_drew1) | exact HB.out))) : w.heap.size ≤ gb307)); clear HB; have HB := n0_; have BK307 := n1_; have GW307 := n2_; have GE307 := n3_; clear n0_ n1_ n2_ n3_; clear hb hbox hg) | ((with_reducible refine gate_callee (f := 15) rfl ?_); refine goesL_ (some 15) rfl rfl Try.func15 (by kernel_rfl) rfl #[.slice A1 l1.length c1, .int .i64 1048576] rfl (by (try simp only [List.map_toArray, List.map_cons, List.map_nil]); first | done | rfl | (simp only [List.length_drop, List.length_take]; rfl)) ?_; (with_reducible refine (laws_szPrefixS.calls _ _ l1 1048576 t308 _ ?side1 ?side2 A3.out).mono ?_); (case side1 => repeat (first | exact (Kd.C_below HR1.out HB.out) | (with_reducible refine Kd.C_alloc ?_ _) | (with_reducible refine Kd.C_drewN ?_ _) | (with_reducible refine Kd.C_drew ?_))); (case side2 => exact HC1.out); rintro e w' ⟨rfl, ⟨nd, rfl⟩⟩; refine ⟨_, rfl, ?_⟩; have hcz20_0 : w19.cell? ⟨gb307, 0, none⟩ = some (.bool a0_0) := (blk_cell BK307.out 0).trans rfl; have hcz20_1 : w19.cell? ⟨gb307, 1, none⟩ = some (.int .i64 a0_1) := (blk_cell BK307.out 1).trans rfl; have hcz20_2 : w19.cell? ⟨gb307, 2, none⟩ = some (.int .i64 a0_2) := (blk_cell BK307.out 2).trans rfl; have hcz20_3 : w19.cell? ⟨gb307, 3, none⟩ = some (.int .i64 a0_3) := (blk_cell BK307.out 3).trans rfl; have hfz20_0 := blk_frozen BK307.out 0; have hfz20_1 := blk_frozen BK307.out 1; have hfz20_2 := blk_frozen BK307.out 2; have hfz20_3 := blk_frozen BK307.out 3) | ((with_reducible refine gate_callee (f := 17) rfl ?_); refine goesL_ (some 19) rfl rfl Try.func17 (by kernel_rfl) rfl #[.agg #[.bool a0_0, .int .i64 a0_1, .int .i64 a0_2, .int .i64 a0_3]] rfl (by (try simp only [List.map_toArray, List.map_cons, List.map_nil]); first | done | rfl | (simp only [List.length_drop, List.length_take]; rfl)) ?_; (with_reducible refine (laws_toPrefix.calls a0_0 a0_1 a0_2 a0_3 t309 t310 t311 t312 _ A6.out).mono ?_); rintro e w21 ⟨rfl, hb⟩; refine ⟨_, rfl, ?_⟩; have n0_ := Aside0.mk (blk_below (g := gb307) (o := .cells #[.bool a0_0, .int .i64 a0_1, .int .i64 a0_2, .int .i64 a0_3] 25 (0, 0)) (by (with_reducible repeat (first | apply blk_drewN | apply blk_drew | apply blk_alloc)); exact BK307.out) hb); have n1_ := Aside0.mk (below_step (by repeat (first | (with_reducible first | exact HB.out | apply below_alloc | apply pw_below_drewN | apply below_drew1 | refine below_set ?_ GE307.out) | exact HB.out)) hb); clear BK307; clear HB; have BK307 := n0_; have HB := n1_; clear n0_ n1_; (try clear hb); (try clear hb2); (try clear hk); (try clear hi)) | ((with_reducible refine gate_callee (f := 18) rfl ?_); refine goesL_ (some 21) rfl rfl Try.func18 (by kernel_rfl) rfl #[.slice A1 l1.length c1] rfl (by (try simp only [List.map_toArray, List.map_cons, List.map_nil]); first | done | rfl | (simp only [List.length_drop, List.length_take]; rfl)) ?_; (with_reducible refine (laws_toPrefixS.calls k _ _ l1 t313 _ ?side1 ?side2 A7.out).mono ?_); (case side1 => repeat (first | exact (Kd.C_below HR1.out HB.out) | (with_reducible refine Kd.C_alloc ?_ _) | (with_reducible refine Kd.C_drewN ?_ _) | (with_reducible refine Kd.C_drew ?_))); (case side2 => exact HC1.out); rintro e w22 ⟨v314, rfl, ho0, hb⟩; refine ⟨_, rfl, ?_⟩; have n0_ := Aside0.mk (Kd.R_lower ho0 (below_size (by repeat (first | (with_reducible first | exact HB.out | apply below_alloc | apply pw_below_drewN | apply below_drew1 | refine below_set ?_ GE307.out) | exact HB.out)))); have n1_ := Aside0.mk (blk_below (g := gb307) (o := .cells #[.bool a0_0, .int .i64 a0_1, .int .i64 a0_2, .int .i64 a0_3] 25 (0, 0)) (by (with_reducible repeat (first | apply blk_drewN | apply blk_drew | apply blk_alloc)); exact BK307.out) hb); have n2_ := Aside0.mk (below_step (by repeat (first | (with_reducible first | exact HB.out | apply below_alloc | apply pw_below_drewN | apply below_drew1 | refine below_set ?_ GE307.out) | exact HB.out)) hb); clear BK307; clear HB; have HO315 := n0_; have BK307 := n1_; have HB := n2_; clear n0_ n1_ n2_; (try clear hb); (try clear hb2); (try clear hk); (try clear hi); (try clear ho0); obtain ⟨Ao23, co23, eo23⟩ := Kd.R_slice HO315.out; subst eo23) | ((with_reducible refine gate_callee (f := 21) rfl ?_); refine goesL_ (some 22) rfl rfl Try.func21 (by kernel_rfl) rfl #[.agg #[.bool t309, .int .i64 t310, .int .i64 t311, .int .i64 t312], .slice Ao23 t313.length co23] rfl (by (try simp only [List.map_toArray, List.map_cons, List.map_nil]); first | done | rfl | (simp only [List.length_drop, List.length_take]; rfl)) ?_; (with_reducible refine (spec_Without.calls k t309 t310 t311 t312 _ _ t313 t316 _ ?side1 ?side2 A8.out).mono ?_); (case side1 => repeat (first | exact (Kd.R_reads' HO315.out).2.2 | (with_reducible refine Kd.C_alloc ?_ _) | (with_reducible refine Kd.C_drewN ?_ _) | (with_reducible refine Kd.C_drew ?_))); (case side2 => exact (Kd.R_reads' HO315.out).2.1); rintro e w24 ⟨v317, rfl, ho0, hb⟩; refine ⟨_, rfl, ?_⟩; have n0_ := Aside0.mk (Kd.R_elder' (by (with_reducible repeat (first | apply Kd.R_alloc | apply Kd.R_drewN | apply Kd.R_drew)); exact HO315.out) (Kd.R_base ho0) hb); have n1_ := Aside0.mk (Kd.R_lower (Kd.R_new' ho0 (Kd.R_lt (by (with_reducible repeat (first | apply Kd.R_alloc | apply Kd.R_drewN | apply Kd.R_drew)); exact HO315.out))) (below_size (by repeat (first | (with_reducible first | exact HB.out | apply below_alloc | apply pw_below_drewN | apply below_drew1 | refine below_set ?_ GE307.out) | exact HB.out)))); have n2_ := Aside0.mk (blk_below (g := gb307) (o := .cells #[.bool a0_0, .int .i64 a0_1, .int .i64 a0_2, .int .i64 a0_3] 25 (0, 0)) (by (with_reducible repeat (first | apply blk_drewN | apply blk_drew | apply blk_alloc)); exact BK307.out) hb); have n3_ := Aside0.mk (below_step (by repeat (first | (with_reducible first | exact HB.out | apply below_alloc | apply pw_below_drewN | apply below_drew1 | refine below_set ?_ GE307.out) | exact HB.out)) hb); clear HO315; clear BK307; clear HB; have HO315 := n0_; have HO318 := n1_; have BK307 := n2_; have HB := n3_; clear n0_ n1_ n2_ n3_; (try clear hb); (try clear hb2); (try clear hk); (try clear hi); (try clear ho0)) | ((with_reducible refine gate_callee (f := 18) rfl ?_); refine goesL_ (some 24) rfl rfl Try.func18 (by kernel_rfl) rfl #[.slice A1 l1.length c1] rfl (by (try simp only [List.map_toArray, List.map_cons, List.map_nil]); first | done | rfl | (simp only [List.length_drop, List.length_take]; rfl)) ?_; (with_reducible refine (laws_toPrefixS.calls k _ _ l1 t319 _ ?side1 ?side2 A9.out).mono ?_); (case side1 => repeat (first | exact (Kd.C_below HR1.out HB.out) | (with_reducible refine Kd.C_alloc ?_ _) | (with_reducible refine Kd.C_drewN ?_ _) | (with_reducible refine Kd.C_drew ?_))); (case side2 => exact HC1.out); rintro e w25 ⟨v320, rfl, ho0, hb⟩; refine ⟨_, rfl, ?_⟩; have n0_ := Aside0.mk (Kd.R_elder' (by (with_reducible repeat (first | apply Kd.R_alloc | apply Kd.R_drewN | apply Kd.R_drew)); exact HO315.out) (Kd.R_base ho0) hb); have n1_ := Aside0.mk (Kd.R_elder' (by (with_reducible repeat (first | apply Kd.R_alloc | apply Kd.R_drewN | apply Kd.R_drew)); exact HO318.out) (Kd.R_base ho0) hb); have n2_ := Aside0.mk (Kd.R_lower (Kd.R_new' (Kd.R_new' ho0 (Kd.R_lt (by (with_reducible repeat (first | apply Kd.R_alloc | apply Kd.R_drewN | apply Kd.R_drew)); exact HO315.out))) (Kd.R_lt (by (with_reducible repeat (first | apply Kd.R_alloc | apply Kd.R_drewN | apply Kd.R_drew)); exact HO318.out))) (below_size (by repeat (first | (with_reducible first | exact HB.out | apply below_alloc | apply pw_below_drewN | apply below_drew1 | refine below_set ?_ GE307.out) | exact HB.out)))); have n3_ := Aside0.mk (blk_below (g := gb307) (o := .cells #[.bool a0_0, .int .i64 a0_1, .int .i64 a0_2, .int .i64 a0_3] 25 (0, 0)) (by (with_reducible repeat (first | apply blk_drewN | apply blk_drew | apply blk_alloc)); exact BK307.out) hb); have n4_ := Aside0.mk (below_step (by repeat (first | (with_reducible first | exact HB.out | apply below_alloc | apply pw_below_drewN | apply below_drew1 | refine below_set ?_ GE307.out) | exact HB.out)) hb); clear HO315; clear HO318; clear BK307; clear HB; have HO315 := n0_; have HO318 := n1_; have HO321 := n2_; have BK307 := n3_; have HB := n4_; clear n0_ n1_ n2_ n3_ n4_; (try clear hb); (try clear hb2); (try clear hk); (try clear hi); (try clear ho0); have hcz26_0 : w25.cell? ⟨gb307, 0, none⟩ = some (.bool a0_0) := (blk_cell BK307.out 0).trans rfl; have hcz26_1 : w25.cell? ⟨gb307, 1, none⟩ = some (.int .i64 a0_1) := (blk_cell BK307.out 1).trans rfl; have hcz26_2 : w25.cell? ⟨gb307, 2, none⟩ = some (.int .i64 a0_2) := (blk_cell BK307.out 2).trans rfl; have hcz26_3 : w25.cell? ⟨gb307, 3, none⟩ = some (.int .i64 a0_3) := (blk_cell BK307.out 3).trans rfl; have hfz26_0 := blk_frozen BK307.out 0; have hfz26_1 := blk_frozen BK307.out 1; have hfz26_2 := blk_frozen BK307.out 2; have hfz26_3 := blk_frozen BK307.out 3) | ((with_reducible refine gate_callee (f := 17) rfl ?_); refine goesL_ (some 26) rfl rfl Try.func17 (by kernel_rfl) rfl #[.agg #[.bool a0_0, .int .i64 a0_1, .int .i64 a0_2, .int .i64 a0_3]] rfl (by (try simp only [List.map_toArray, List.map_cons, List.map_nil]); first | done | rfl | (simp only [List.length_drop, List.length_take]; rfl)) ?_; (with_reducible refine (laws_toPrefix.calls a0_0 a0_1 a0_2 a0_3 t322 t323 t324 t325 _ A10.out).mono ?_); rintro e w27 ⟨rfl, hb⟩; refine ⟨_, rfl, ?_⟩; have n0_ := Aside0.mk (Kd.R_below (by (with_reducible repeat (first | apply Kd.R_alloc | apply Kd.R_drewN | apply Kd.R_drew)); exact HO315.out) hb); have n1_ := Aside0.mk (Kd.R_below (by (with_reducible repeat (first | apply Kd.R_alloc | apply Kd.R_drewN | apply Kd.R_drew)); exact HO318.out) hb); have n2_ := Aside0.mk (Kd.R_below (by (with_reducible repeat (first | apply Kd.R_alloc | apply Kd.R_drewN | apply Kd.R_drew)); exact HO321.out) hb); have n3_ := Aside0.mk (blk_below (g := gb307) (o := .cells #[.bool a0_0, .int .i64 a0_1, .int .i64 a0_2, .int .i64 a0_3] 25 (0, 0)) (by (with_reducible repeat (first | apply blk_drewN | apply blk_drew | apply blk_alloc)); exact BK307.out) hb); have n4_ := Aside0.mk (below_step (by repeat (first | (with_reducible first | exact HB.out | apply below_alloc | apply pw_below_drewN | apply below_drew1 | refine below_set ?_ GE307.out) | exact HB.out)) hb); clear HO315; clear HO318; clear HO321; clear BK307; clear HB; have HO315 := n0_; have HO318 := n1_; have HO321 := n2_; have BK307 := n3_; have HB := n4_; clear n0_ n1_ n2_ n3_ n4_; (try clear hb); (try clear hb2); (try clear hk); (try clear hi); obtain ⟨Ao28, co28, eo28⟩ := Kd.R_slice HO321.out; subst eo28) | ((with_reducible refine gate_callee (f := 22) rfl ?_); refine goesL_ (some 28) rfl rfl Try.func22 (by kernel_rfl) rfl #[.agg #[.bool t322, .int .i64 t323, .int .i64 t324, .int .i64 t325], .slice Ao28 t319.length co28] rfl (by (try simp only [List.map_toArray, List.map_cons, List.map_nil]); first | done | rfl | (simp only [List.length_drop, List.length_take]; rfl)) ?_; (with_reducible refine (impl_Without.calls k t322 t323 t324 t325 _ _ t319 t326 _ ?side1 ?side2 A11.out).mono ?_); (case side1 => repeat (first | exact (Kd.R_reads' HO321.out).2.2 | (with_reducible refine Kd.C_alloc ?_ _) | (with_reducible refine Kd.C_drewN ?_ _) | (with_reducible refine Kd.C_drew ?_))); (case side2 => exact (Kd.R_reads' HO321.out).2.1); rintro e w29 ⟨v327, rfl, ho0, hb⟩; refine ⟨_, rfl, ?_⟩; have n0_ := Aside0.mk (Kd.R_elder' (by (with_reducible repeat (first | apply Kd.R_alloc | apply Kd.R_drewN | apply Kd.R_drew)); exact HO315.out) (Kd.R_base ho0) hb); have n1_ := Aside0.mk (Kd.R_elder' (by (with_reducible repeat (first | apply Kd.R_alloc | apply Kd.R_drewN | apply Kd.R_drew)); exact HO318.out) (Kd.R_base ho0) hb); have n2_ := Aside0.mk (Kd.R_elder' (by (with_reducible repeat (first | apply Kd.R_alloc | apply Kd.R_drewN | apply Kd.R_drew)); exact HO321.out) (Kd.R_base ho0) hb); have n3_ := Aside0.mk (Kd.R_lower (Kd.R_new' (Kd.R_new' (Kd.R_new' ho0 (Kd.R_lt (by (with_reducible repeat (first | apply Kd.R_alloc | apply Kd.R_drewN | apply Kd.R_drew)); exact HO315.out))) (Kd.R_lt (by (with_reducible repeat (first | apply Kd.R_alloc | apply Kd.R_drewN | apply Kd.R_drew)); exact HO318.out))) (Kd.R_lt (by (with_reducible repeat (first | apply Kd.R_alloc | apply Kd.R_drewN | apply Kd.R_drew)); exact HO321.out))) (below_size (by repeat (first | (with_reducible first | exact HB.out | apply below_alloc | apply pw_below_drewN | apply below_drew1 | refine below_set ?_ GE307.out) | exact HB.out)))); have n4_ := Aside0.mk (blk_below (g := gb307) (o := .cells #[.bool a0_0, .int .i64 a0_1, .int .i64 a0_2, .int .i64 a0_3] 25 (0, 0)) (by (with_reducible repeat (first | apply blk_drewN | apply blk_drew | apply blk_alloc)); exact BK307.out) hb); have n5_ := Aside0.mk (below_step (by repeat (first | (with_reducible first | exact HB.out | apply below_alloc | apply pw_below_drewN | apply below_drew1 | refine below_set ?_ GE307.out) | exact HB.out)) hb); clear HO315; clear HO318; clear HO321; clear BK307; clear HB; have HO315 := n0_; have HO318 := n1_; have HO321 := n2_; have HO328 := n3_; have BK307 := n4_; have HB := n5_; clear n0_ n1_ n2_ n3_ n4_ n5_; (try clear hb); (try clear hb2); (try clear hk); (try clear hi); (try clear ho0); obtain ⟨Ao30, co30, eo30⟩ := Kd.R_slice HO328.out; subst eo30; obtain ⟨Ao31, co31, eo31⟩ := Kd.R_slice HO318.out; subst eo31) | ((with_reducible refine gate_callee (f := 20) rfl ?_); refine goesL_ (some 31) rfl rfl Try.func20 (by kernel_rfl) rfl #[.slice Ao30 t326.length co30, .slice Ao31 t316.length co31] rfl (by (try simp only [List.map_toArray, List.map_cons, List.map_nil]); first | done | rfl | (simp only [List.length_drop, List.length_take]; rfl)) ?_; (with_reducible refine (laws_eqPrefixS.calls k _ _ t326 _ _ t316 true _ ?side1 ?side2 ?side3 ?side4 A12.out).mono ?_); (case side1 => repeat (first | exact (Kd.R_reads' HO328.out).2.2 | (with_reducible refine Kd.C_alloc ?_ _) | (with_reducible refine Kd.C_drewN ?_ _) | (with_reducible refine Kd.C_drew ?_))); (case side2 => exact (Kd.R_reads' HO328.out).2.1); (case side3 => repeat (first | exact (Kd.R_reads' HO318.out).2.2 | (with_reducible refine Kd.C_alloc ?_ _) | (with_reducible refine Kd.C_drewN ?_ _) | (with_reducible refine Kd.C_drew ?_))); (case side4 => exact (Kd.R_reads' HO318.out).2.1); rintro e w32 ⟨rfl, hb⟩; refine ⟨_, rfl, ?_⟩; have n0_ := Aside0.mk (Kd.R_below (by (with_reducible repeat (first | apply Kd.R_alloc | apply Kd.R_drewN | apply Kd.R_drew)); exact HO315.out) hb); have n1_ := Aside0.mk (Kd.R_below (by (with_reducible repeat (first | apply Kd.R_alloc | apply Kd.R_drewN | apply Kd.R_drew)); exact HO318.out) hb); have n2_ := Aside0.mk (Kd.R_below (by (with_reducible repeat (first | apply Kd.R_alloc | apply Kd.R_drewN | apply Kd.R_drew)); exact HO321.out) hb); have n3_ := Aside0.mk (Kd.R_below (by (with_reducible repeat (first | apply Kd.R_alloc | apply Kd.R_drewN | apply Kd.R_drew)); exact HO328.out) hb); have n4_ := Aside0.mk (blk_below (g := gb307) (o := .cells #[.bool a0_0, .int .i64 a0_1, .int .i64 a0_2, .int .i64 a0_3] 25 (0, 0)) (by (with_reducible repeat (first | apply blk_drewN | apply blk_drew | apply blk_alloc)); exact BK307.out) hb); have n5_ := Aside0.mk (below_step (by repeat (first | (with_reducible first | exact HB.out | apply below_alloc | apply pw_below_drewN | apply below_drew1 | refine below_set ?_ GE307.out) | exact HB.out)) hb); clear HO315; clear HO318; clear HO321; clear HO328; clear BK307; clear HB; have HO315 := n0_; have HO318 := n1_; have HO321 := n2_; have HO328 := n3_; have BK307 := n4_; have HB := n5_; clear n0_ n1_ n2_ n3_ n4_ n5_; (try clear hb); (try clear hb2); (try clear hk); (try clear hi)) | ((with_reducible refine gate_callee (f := 18) rfl ?_); refine goesL_ (some 35) rfl rfl Try.func18 (by kernel_rfl) rfl #[.slice A1 l1.length c1] rfl (by (try simp only [List.map_toArray, List.map_cons, List.map_nil]); first | done | rfl | (simp only [List.length_drop, List.length_take]; rfl)) ?_; (with_reducible refine (laws_toPrefixS.calls k _ _ l1 t330 _ ?side1 ?side2 A14.out).mono ?_); (case side1 => repeat (first | exact (Kd.C_below HR1.out HB.out) | (with_reducible refine Kd.C_alloc ?_ _) | (with_reducible refine Kd.C_drewN ?_ _) | (with_reducible refine Kd.C_drew ?_))); (case side2 => exact HC1.out); rintro e w33 ⟨v331, rfl, ho0, hb⟩; refine ⟨_, rfl, ?_⟩; have n0_ := Aside0.mk (Kd.R_elder' (by (with_reducible repeat (first | apply Kd.R_alloc | apply Kd.R_drewN | apply Kd.R_drew)); exact HO315.out) (Kd.R_base ho0) hb); have n1_ := Aside0.mk (Kd.R_elder' (by (with_reducible repeat (first | apply Kd.R_alloc | apply Kd.R_drewN | apply Kd.R_drew)); exact HO318.out) (Kd.R_base ho0) hb); have n2_ := Aside0.mk (Kd.R_elder' (by (with_reducible repeat (first | apply Kd.R_alloc | apply Kd.R_drewN | apply Kd.R_drew)); exact HO321.out) (Kd.R_base ho0) hb); have n3_ := Aside0.mk (Kd.R_elder' (by (with_reducible repeat (first | apply Kd.R_alloc | apply Kd.R_drewN | apply Kd.R_drew)); exact HO328.out) (Kd.R_base ho0) hb); have n4_ := Aside0.mk (Kd.R_lower (Kd.R_new' (Kd.R_new' (Kd.R_new' (Kd.R_new' ho0 (Kd.R_lt (by (with_reducible repeat (first | apply Kd.R_alloc | apply Kd.R_drewN | apply Kd.R_drew)); exact HO315.out))) (Kd.R_lt (by (with_reducible repeat (first | apply Kd.R_alloc | apply Kd.R_drewN | apply Kd.R_drew)); exact HO318.out))) (Kd.R_lt (by (with_reducible repeat (first | apply Kd.R_alloc | apply Kd.R_drewN | apply Kd.R_drew)); exact HO321.out))) (Kd.R_lt (by (with_reducible repeat (first | apply Kd.R_alloc | apply Kd.R_drewN | apply Kd.R_drew)); exact HO328.out))) (below_size (by repeat (first | (with_reducible first | exact HB.out | apply below_alloc | apply pw_below_drewN | apply below_drew1 | refine below_set ?_ GE307.out) | exact HB.out)))); have n5_ := Aside0.mk (blk_below (g := gb307) (o := .cells #[.bool a0_0, .int .i64 a0_1, .int .i64 a0_2, .int .i64 a0_3] 25 (0, 0)) (by (with_reducible repeat (first | apply blk_drewN | apply blk_drew | apply blk_alloc)); exact BK307.out) hb); have n6_ := Aside0.mk (below_step (by repeat (first | (with_reducible first | exact HB.out | apply below_alloc | apply pw_below_drewN | apply below_drew1 | refine below_set ?_ GE307.out) | exact HB.out)) hb); clear HO315; clear HO318; clear HO321; clear HO328; clear BK307; clear HB; have HO315 := n0_; have HO318 := n1_; have HO321 := n2_; have HO328 := n3_; have HO332 := n4_; have BK307 := n5_; have HB := n6_; clear n0_ n1_ n2_ n3_ n4_ n5_ n6_; (try clear hb); (try clear hb2); (try clear hk); (try clear hi); (try clear ho0); obtain ⟨Ao34, co34, eo34⟩ := Kd.R_slice HO332.out; subst eo34) | ((with_reducible refine gate_callee (f := 20) rfl ?_); refine goesL_ (some 36) rfl rfl Try.func20 (by kernel_rfl) rfl #[.slice Ao28 t319.length co28, .slice Ao34 t330.length co34] rfl (by (try simp only [List.map_toArray, List.map_cons, List.map_nil]); first | done | rfl | (simp only [List.length_drop, List.length_take]; rfl)) ?_; (with_reducible refine (laws_eqPrefixS.calls k _ _ t319 _ _ t330 true _ ?side1 ?side2 ?side3 ?side4 A15.out).mono ?_); (case side1 => repeat (first | exact (Kd.R_reads' HO321.out).2.2 | (with_reducible refine Kd.C_alloc ?_ _) | (with_reducible refine Kd.C_drewN ?_ _) | (with_reducible refine Kd.C_drew ?_))); (case side2 => exact (Kd.R_reads' HO321.out).2.1); (case side3 => repeat (first | exact (Kd.R_reads' HO332.out).2.2 | (with_reducible refine Kd.C_alloc ?_ _) | (with_reducible refine Kd.C_drewN ?_ _) | (with_reducible refine Kd.C_drew ?_))); (case side4 => exact (Kd.R_reads' HO332.out).2.1); rintro e w35 ⟨rfl, hb⟩; refine ⟨_, rfl, ?_⟩; have n0_ := Aside0.mk (Kd.R_below (by (with_reducible repeat (first | apply Kd.R_alloc | apply Kd.R_drewN | apply Kd.R_drew)); exact HO315.out) hb); have n1_ := Aside0.mk (Kd.R_below (by (with_reducible repeat (first | apply Kd.R_alloc | apply Kd.R_drewN | apply Kd.R_drew)); exact HO318.out) hb); have n2_ := Aside0.mk (Kd.R_below (by (with_reducible repeat (first | apply Kd.R_alloc | apply Kd.R_drewN | apply Kd.R_drew)); exact HO321.out) hb); have n3_ := Aside0.mk (Kd.R_below (by (with_reducible repeat (first | apply Kd.R_alloc | apply Kd.R_drewN | apply Kd.R_drew)); exact HO328.out) hb); have n4_ := Aside0.mk (Kd.R_below (by (with_reducible repeat (first | apply Kd.R_alloc | apply Kd.R_drewN | apply Kd.R_drew)); exact HO332.out) hb); have n5_ := Aside0.mk (blk_below (g := gb307) (o := .cells #[.bool a0_0, .int .i64 a0_1, .int .i64 a0_2, .int .i64 a0_3] 25 (0, 0)) (by (with_reducible repeat (first | apply blk_drewN | apply blk_drew | apply blk_alloc)); exact BK307.out) hb); have n6_ := Aside0.mk (below_step (by repeat (first | (with_reducible first | exact HB.out | apply below_alloc | apply pw_below_drewN | apply below_drew1 | refine below_set ?_ GE307.out) | exact HB.out)) hb); clear HO315; clear HO318; clear HO321; clear HO328; clear HO332; clear BK307; clear HB; have HO315 := n0_; have HO318 := n1_; have HO321 := n2_; have HO328 := n3_; have HO332 := n4_; have BK307 := n5_; have HB := n6_; clear n0_ n1_ n2_ n3_ n4_ n5_ n6_; (try clear hb); (try clear hb2); (try clear hk); (try clear hi)) | ((with_reducible refine gate_callee (f := 23) rfl ?_); refine goesL_ (some 40) rfl rfl Try.func23 (by kernel_rfl) rfl #[.slice Ao28 t319.length co28, .int .i64 1] rfl (by (try simp only [List.map_toArray, List.map_cons, List.map_nil]); first | done | rfl | (simp only [List.length_drop, List.length_take]; rfl)) ?_; (with_reducible refine (laws_markPrefixS.calls k (fun k_ => some k_ = (.slice Ao28 t319.length co28 : Value).ownBlock) (.slice Ao28 t319.length co28) t319 1 t334 t335 w _ ?side1 ?side2 A17.out).mono ?_); (case side1 => repeat (first | (with_reducible first | exact HB.out | apply below_alloc | apply pw_below_drewN | apply below_drew1 | refine below_set ?_ GE307.out) | exact HB.out)); (case side2 => exact Kd.R_tight rfl HO321.out); rintro e w36 ⟨rfl, hy0, hb, hkp⟩; refine ⟨_, rfl, ?_⟩; have n0_ := Aside0.mk (blk_kept (by (with_reducible repeat (first | apply blk_drewN | apply blk_drew | apply blk_alloc)); exact BK307.out) hkp (fun hs_ => (fun e_ => (Kd.R_ne HO321.out BK307.out (by decide)) e_) hs_)); have n1_ := Aside0.mk (Kd.R_mono (ok' := fun k_ => some k_ ≠ (.slice Ao31 t316.length co31 : Value).ownBlock ∧ some k_ ≠ (.slice Ao28 t319.length co28 : Value).ownBlock ∧ some k_ ≠ (.slice Ao30 t326.length co30 : Value).ownBlock ∧ some k_ ≠ (.slice Ao34 t330.length co34 : Value).ownBlock) (Kd.R_keptB (HO315.out) hkp (fun k_ hk_ hs_ => (hk_.1.1.2) hs_)) (fun k_ hk_ => ⟨hk_.1.1.1.1.2, hk_.1.1.1.2, hk_.1.1.2, hk_.1.2⟩)); have n2_ := Aside0.mk (Kd.R_mono (ok' := fun k_ => some k_ ≠ (.slice Ao23 t313.length co23 : Value).ownBlock ∧ some k_ ≠ (.slice Ao28 t319.length co28 : Value).ownBlock ∧ some k_ ≠ (.slice Ao30 t326.length co30 : Value).ownBlock ∧ some k_ ≠ (.slice Ao34 t330.length co34 : Value).ownBlock) (Kd.R_keptB (HO318.out) hkp (fun k_ hk_ hs_ => (hk_.1.1.2) hs_)) (fun k_ hk_ => ⟨hk_.1.1.1.1.2, hk_.1.1.1.2, hk_.1.1.2, hk_.1.2⟩)); have n3_ := Aside0.mk (Kd.R_reok rfl hy0 (fun k_ e_ => HO321.out.1 k_ e_)); have n4_ := Aside0.mk (Kd.R_mono (ok' := fun k_ => some k_ ≠ (.slice Ao23 t313.length co23 : Value).ownBlock ∧ some k_ ≠ (.slice Ao31 t316.length co31 : Value).ownBlock ∧ some k_ ≠ (.slice Ao28 t319.length co28 : Value).ownBlock ∧ some k_ ≠ (.slice Ao34 t330.length co34 : Value).ownBlock) (Kd.R_keptB (HO328.out) hkp (fun k_ hk_ hs_ => (hk_.1.2) hs_)) (fun k_ hk_ => ⟨hk_.1.1.1.1.2, hk_.1.1.1.2, hk_.1.1.2, hk_.1.2⟩)); have n5_ := Aside0.mk (Kd.R_mono (ok' := fun k_ => some k_ ≠ (.slice Ao23 t313.length co23 : Value).ownBlock ∧ some k_ ≠ (.slice Ao31 t316.length co31 : Value).ownBlock ∧ some k_ ≠ (.slice Ao28 t319.length co28 : Value).ownBlock ∧ some k_ ≠ (.slice Ao30 t326.length co30 : Value).ownBlock) (Kd.R_keptB (HO332.out) hkp (fun k_ hk_ hs_ => (hk_.1.2) hs_)) (fun k_ hk_ => ⟨hk_.1.1.1.1.2, hk_.1.1.1.2, hk_.1.1.2, hk_.1.2⟩)); have n6_ := Aside0.mk (hb); clear BK307; clear HO315; clear HO318; clear HO321; clear HO328; clear HO332; clear HB; have BK307 := n0_; have HO315 := n1_; have HO318 := n2_; have HO321 := n3_; have HO328 := n4_; have HO332 := n5_; have HB := n6_; clear n0_ n1_ n2_ n3_ n4_ n5_ n6_; (try clear hb); (try clear hkp); (try clear hy0)))
    (try simp only [Act.put, List.setIfInBounds_toArray, List.set_cons_zero, List.set_cons_succ])
    go_cut [48] (fun v48 wc => ∃ (kq : Nat) (x48_17 : Bool), v48 = .bool x48_17 ∧ Aside0 (laws_FnExactWithout.j0 kq l1 t316 t326 x48_17 a0_0 a0_1 a0_2 a0_3 = some r) ∧ Aside0 (kq ≤ k) ∧ Aside0 (Kd.R k31 31 wc w.heap.size (fun k_ => some k_ ≠ ((.slice Ao30 t326.length co30) : Value).ownBlock) (.slice Ao31 t316.length co31) t316) ∧ Aside0 (Kd.R k31 31 wc w.heap.size (fun k_ => some k_ ≠ ((.slice Ao31 t316.length co31) : Value).ownBlock) (.slice Ao30 t326.length co30) t326) ∧ Aside0 (wc.heap[gb307]? = some (.cells #[.bool a0_0, .int .i64 a0_1, .int .i64 a0_2, .int .i64 a0_3] 25 (0, 0))) ∧ Aside0 (Below w.heap.size w wc))
    case first =>
     have H := HC18.out
     clear HC18
     by_cases c37 : t334 < 0
     ·rw [if_pos c37] at H
      have c37b0 : decide (t334 < 0) = true := decide_eq_true c37
      clear c37
      (first | rw [c37b0] | (simp only [i64_w, i32_w]; rw [c37b0]) | skip)
      have H' := Aside0.mk H
      clear H
      go_wp2
      go_meet
      case rel => exact ⟨_, (true), (by first | rfl | (simp; done) | (simp [*]; done)), H', ⟨by first | omega | exact Nat.le_refl _⟩, ⟨by (with_reducible repeat (first | apply Kd.R_alloc | apply Kd.R_drewN | apply Kd.R_drew)); exact Kd.R_mono HO318.out (fun _ hk => hk.2.2.1)⟩, ⟨by (with_reducible repeat (first | apply Kd.R_alloc | apply Kd.R_drewN | apply Kd.R_drew)); exact Kd.R_mono HO328.out (fun _ hk => hk.2.1)⟩, ⟨by (with_reducible repeat (first | apply blk_drewN | apply blk_drew | apply blk_alloc)); exact BK307.out⟩, ⟨by repeat (first | (with_reducible first | exact HB.out | apply below_alloc | apply pw_below_drewN | apply below_drew1 | refine below_set ?_ GE307.out) | exact HB.out)⟩⟩
     ·rw [if_neg c37] at H
      have c37b0 : decide (t334 < 0) = false := decide_eq_false c37
      clear c37
      (first | rw [c37b0] | (simp only [i64_w, i32_w]; rw [c37b0]) | skip)
      replace H := Option.bind_eq_some_iff.mp H
      obtain ⟨t336, A380, H⟩ := H
      replace H : (laws_FnExactWithout.j0 k l1 t316 t326 (!t336) a0_0 a0_1 a0_2 a0_3) = some r := H
      have A38 := Aside0.mk A380
      clear A380
      have H' := Aside0.mk H
      clear H
      go_wp2_with (first | (go_at_call 20; (with_reducible refine (laws_eqPrefixS.calls k _ _ t326 _ _ t316 t336 _ ?side1 ?side2 ?side3 ?side4 A38.out).mono ?_); (case side1 => repeat (first | exact (Kd.R_reads' HO328.out).2.2 | (with_reducible refine Kd.C_alloc ?_ _) | (with_reducible refine Kd.C_drewN ?_ _) | (with_reducible refine Kd.C_drew ?_))); (case side2 => exact (Kd.R_reads' HO328.out).2.1); (case side3 => repeat (first | exact (Kd.R_reads' HO318.out).2.2 | (with_reducible refine Kd.C_alloc ?_ _) | (with_reducible refine Kd.C_drewN ?_ _) | (with_reducible refine Kd.C_drew ?_))); (case side4 => exact (Kd.R_reads' HO318.out).2.1); rintro e w39 ⟨rfl, hb⟩; have n0_ := Aside0.mk (Kd.R_below (by (with_reducible repeat (first | apply Kd.R_alloc | apply Kd.R_drewN | apply Kd.R_drew)); exact HO315.out) hb); have n1_ := Aside0.mk (Kd.R_below (by (with_reducible repeat (first | apply Kd.R_alloc | apply Kd.R_drewN | apply Kd.R_drew)); exact HO318.out) hb); have n2_ := Aside0.mk (Kd.R_below (by (with_reducible repeat (first | apply Kd.R_alloc | apply Kd.R_drewN | apply Kd.R_drew)); exact HO321.out) hb); have n3_ := Aside0.mk (Kd.R_below (by (with_reducible repeat (first | apply Kd.R_alloc | apply Kd.R_drewN | apply Kd.R_drew)); exact HO328.out) hb); have n4_ := Aside0.mk (Kd.R_below (by (with_reducible repeat (first | apply Kd.R_alloc | apply Kd.R_drewN | apply Kd.R_drew)); exact HO332.out) hb); have n5_ := Aside0.mk (blk_below (g := gb307) (o := .cells #[.bool a0_0, .int .i64 a0_1, .int .i64 a0_2, .int .i64 a0_3] 25 (0, 0)) (by (with_reducible repeat (first | apply blk_drewN | apply blk_drew | apply blk_alloc)); exact BK307.out) hb); have n6_ := Aside0.mk (below_step (by repeat (first | (with_reducible first | exact HB.out | apply below_alloc | apply pw_below_drewN | apply below_drew1 | refine below_set ?_ GE307.out) | exact HB.out)) hb); clear HO315; clear HO318; clear HO321; clear HO328; clear HO332; clear BK307; clear HB; have HO315 := n0_; have HO318 := n1_; have HO321 := n2_; have HO328 := n3_; have HO332 := n4_; have BK307 := n5_; have HB := n6_; clear n0_ n1_ n2_ n3_ n4_ n5_ n6_; (try clear hb); (try clear hb2); (try clear hk); (try clear hi)))
      go_meet
      case rel => exact ⟨_, (!t336), (by first | rfl | (simp; done) | (simp [*]; done)), H', ⟨by first | omega | exact Nat.le_refl _⟩, ⟨by (with_reducible repeat (first | apply Kd.R_alloc | apply Kd.R_drewN | apply Kd.R_drew)); exact Kd.R_mono HO318.out (fun _ hk => hk.2.2.1)⟩, ⟨by (with_reducible repeat (first | apply Kd.R_alloc | apply Kd.R_drewN | apply Kd.R_drew)); exact Kd.R_mono HO328.out (fun _ hk => hk.2.1)⟩, ⟨by (with_reducible repeat (first | apply blk_drewN | apply blk_drew | apply blk_alloc)); exact BK307.out⟩, ⟨by repeat (first | (with_reducible first | exact HB.out | apply below_alloc | apply pw_below_drewN | apply below_drew1 | refine below_set ?_ GE307.out) | exact HB.out)⟩⟩
    case rest =>
     clear HC18
     try clear c1
     try clear c2
     try clear p2
     try clear c3
     try clear c4
     try clear c4b0
     try clear c13
     try clear c15
     try clear c16
     try clear c17
     try clear c18
     try clear c20
     try clear c21
     try clear c22
     try clear c23
     try clear c37
     try clear c37b0
     try clear hcz20_0
     try clear hcz20_1
     try clear hcz20_2
     try clear hcz20_3
     try clear hcz26_0
     try clear hcz26_1
     try clear hcz26_2
     try clear hcz26_3
     try clear hfz20_0
     try clear hfz20_1
     try clear hfz20_2
     try clear hfz20_3
     try clear hfz26_0
     try clear hfz26_1
     try clear hfz26_2
     try clear hfz26_3
     obtain ⟨kq, x48_17, rfl, HA, HJ17, HO_6, HO_8, BK307, HB⟩ := hcut
     cases kq with
     | zero => exact absurd HA.out (by simp [laws_FnExactWithout.j0])
     | succ kj17 =>
      have H := HA.out
      clear HA
      simp only [laws_FnExactWithout.j0] at H
      by_cases c40 : x48_17 = true
      ·subst c40
       have H1 : (some false) = some r := by rw [if_pos rfl] at H; exact H
       clear H
       have H := H1
       clear H1
       exact absurd ((Option.some.inj H).trans HLAW.out) (by decide)
      ·replace c40 := Bool.eq_false_iff.mpr c40
       subst c40
       have H1 : ((laws_markPrefixS.f kj17 t326 1).bind fun bt337 => ((laws_heldPrefixS.f kj17 bt337.2 1).bind fun t339 => (if t339 < 0 then (some false) else (if t339 = bt337.1 then ((laws_toPrefix.f a0_0 a0_1 a0_2 a0_3).bind fun bt340 => ((laws_toPrefixS.f kj17 l1).bind fun t344 => ((impl_Without.f kj17 bt340.1 bt340.2.1 bt340.2.2.1 bt340.2.2.2 t344).bind fun t347 => ((laws_eqPrefixS.f kj17 t347 t316).bind fun t350 => (if t350 = true then ((laws_heldPrefixS.f kj17 bt337.2 1).bind fun t351 => (if t351 < 0 then (some false) else (if t351 = bt337.1 then (some true) else (some false)))) else (some false)))))) else (some false))))) = some r := by rw [if_neg (show ¬ (false = true) by decide)] at H; exact H
       clear H
       have H := H1
       clear H1
       replace H := Option.bind_eq_some_iff.mp H
       obtain ⟨⟨t337, t338⟩, A410, H⟩ := H
       replace H : ((laws_heldPrefixS.f kj17 t338 1).bind fun t339 => (if t339 < 0 then (some false) else (if t339 = t337 then ((laws_toPrefix.f a0_0 a0_1 a0_2 a0_3).bind fun bt340 => ((laws_toPrefixS.f kj17 l1).bind fun t344 => ((impl_Without.f kj17 bt340.1 bt340.2.1 bt340.2.2.1 bt340.2.2.2 t344).bind fun t347 => ((laws_eqPrefixS.f kj17 t347 t316).bind fun t350 => (if t350 = true then ((laws_heldPrefixS.f kj17 t338 1).bind fun t351 => (if t351 < 0 then (some false) else (if t351 = t337 then (some true) else (some false)))) else (some false)))))) else (some false)))) = some r := H
       have A41 := Aside0.mk A410
       clear A410
       replace H := Option.bind_eq_some_iff.mp H
       obtain ⟨t339, A420, H⟩ := H
       replace H : (if t339 < 0 then (some false) else (if t339 = t337 then ((laws_toPrefix.f a0_0 a0_1 a0_2 a0_3).bind fun bt340 => ((laws_toPrefixS.f kj17 l1).bind fun t344 => ((impl_Without.f kj17 bt340.1 bt340.2.1 bt340.2.2.1 bt340.2.2.2 t344).bind fun t347 => ((laws_eqPrefixS.f kj17 t347 t316).bind fun t350 => (if t350 = true then ((laws_heldPrefixS.f kj17 t338 1).bind fun t351 => (if t351 < 0 then (some false) else (if t351 = t337 then (some true) else (some false)))) else (some false)))))) else (some false))) = some r := H
       have A42 := Aside0.mk A420
       clear A420
       by_cases c43 : t339 < 0
       ·rw [if_pos c43] at H
        have c43b0 : decide (t339 < 0) = true := decide_eq_true c43
        clear c43
        exact absurd ((Option.some.inj H).trans HLAW.out) (by decide)
       ·rw [if_neg c43] at H
        have c43b0 : decide (t339 < 0) = false := decide_eq_false c43
        clear c43
        by_cases c44 : t339 = t337
        ·rw [if_pos c44] at H
         have c44b0 : (t339 == t337) = true := beq_iff_eq.mpr c44
         have c44b1 : (t339 != t337) = false := bne_eq_false_iff_eq.mpr c44
         clear c44
         replace H := Option.bind_eq_some_iff.mp H
         obtain ⟨⟨t340, t341, t342, t343⟩, A450, H⟩ := H
         replace H : ((laws_toPrefixS.f kj17 l1).bind fun t344 => ((impl_Without.f kj17 t340 t341 t342 t343 t344).bind fun t347 => ((laws_eqPrefixS.f kj17 t347 t316).bind fun t350 => (if t350 = true then ((laws_heldPrefixS.f kj17 t338 1).bind fun t351 => (if t351 < 0 then (some false) else (if t351 = t337 then (some true) else (some false)))) else (some false))))) = some r := H
         have A45 := Aside0.mk A450
         clear A450
         replace H := Option.bind_eq_some_iff.mp H
         obtain ⟨t344, A460, H⟩ := H
         replace H : ((impl_Without.f kj17 t340 t341 t342 t343 t344).bind fun t347 => ((laws_eqPrefixS.f kj17 t347 t316).bind fun t350 => (if t350 = true then ((laws_heldPrefixS.f kj17 t338 1).bind fun t351 => (if t351 < 0 then (some false) else (if t351 = t337 then (some true) else (some false)))) else (some false)))) = some r := H
         have A46 := Aside0.mk A460
         clear A460
         replace H := Option.bind_eq_some_iff.mp H
         obtain ⟨t347, A470, H⟩ := H
         replace H : ((laws_eqPrefixS.f kj17 t347 t316).bind fun t350 => (if t350 = true then ((laws_heldPrefixS.f kj17 t338 1).bind fun t351 => (if t351 < 0 then (some false) else (if t351 = t337 then (some true) else (some false)))) else (some false))) = some r := H
         have A47 := Aside0.mk A470
         clear A470
         replace H := Option.bind_eq_some_iff.mp H
         obtain ⟨t350, A480, H⟩ := H
         replace H : (if t350 = true then ((laws_heldPrefixS.f kj17 t338 1).bind fun t351 => (if t351 < 0 then (some false) else (if t351 = t337 then (some true) else (some false)))) else (some false)) = some r := H
         have A48 := Aside0.mk A480
         clear A480
         by_cases c49 : t350 = true
         ·subst c49
          have H1 : ((laws_heldPrefixS.f kj17 t338 1).bind fun t351 => (if t351 < 0 then (some false) else (if t351 = t337 then (some true) else (some false)))) = some r := by rw [if_pos rfl] at H; exact H
          clear H
          have H := H1
          clear H1
          replace H := Option.bind_eq_some_iff.mp H
          obtain ⟨t351, A500, H⟩ := H
          replace H : (if t351 < 0 then (some false) else (if t351 = t337 then (some true) else (some false))) = some r := H
          have A50 := Aside0.mk A500
          clear A500
          by_cases c51 : t351 < 0
          ·rw [if_pos c51] at H
           have c51b0 : decide (t351 < 0) = true := decide_eq_true c51
           clear c51
           exact absurd ((Option.some.inj H).trans HLAW.out) (by decide)
          ·rw [if_neg c51] at H
           have c51b0 : decide (t351 < 0) = false := decide_eq_false c51
           clear c51
           by_cases c52 : t351 = t337
           ·rw [if_pos c52] at H
            have c52b0 : (t351 == t337) = true := beq_iff_eq.mpr c52
            have c52b1 : (t351 != t337) = false := bne_eq_false_iff_eq.mpr c52
            clear c52
            obtain rfl := Option.some.inj H
            go_wp2_with (first | ((with_reducible refine gate_callee (f := 23) rfl ?_); refine goesL_ (some 51) rfl rfl Try.func23 (by kernel_rfl) rfl #[.slice Ao30 t326.length co30, .int .i64 1] rfl (by (try simp only [List.map_toArray, List.map_cons, List.map_nil]); first | done | rfl | (simp only [List.length_drop, List.length_take]; rfl)) ?_; (with_reducible refine (laws_markPrefixS.calls kj17 (fun k_ => some k_ = (.slice Ao30 t326.length co30 : Value).ownBlock) (.slice Ao30 t326.length co30) t326 1 t337 t338 w _ ?side1 ?side2 A41.out).mono ?_); (case side1 => repeat (first | (with_reducible first | exact HB.out | apply below_alloc | apply pw_below_drewN | apply below_drew1 | refine below_set ?_ GE307.out) | exact HB.out)); (case side2 => exact Kd.R_tight rfl HO_8.out); rintro e w53 ⟨rfl, hy0, hb, hkp⟩; refine ⟨_, rfl, ?_⟩; have n0_ := Aside0.mk (Kd.R_mono (ok' := fun k_ => some k_ ≠ (.slice Ao30 t326.length co30 : Value).ownBlock) (Kd.R_keptB (HO_6.out) hkp (fun k_ hk_ hs_ => (hk_) hs_)) (fun k_ hk_ => hk_.1)); have n1_ := Aside0.mk (Kd.R_reok rfl hy0 (fun k_ e_ => HO_8.out.1 k_ e_)); have n2_ := Aside0.mk (blk_kept (by (with_reducible repeat (first | apply blk_drewN | apply blk_drew | apply blk_alloc)); exact BK307.out) hkp (fun hs_ => (fun e_ => (Kd.R_ne HO_8.out BK307.out (by decide)) e_) hs_)); have n3_ := Aside0.mk (hb); clear HO_6; clear HO_8; clear BK307; clear HB; have HO_6 := n0_; have HO_8 := n1_; have BK307 := n2_; have HB := n3_; clear n0_ n1_ n2_ n3_; (try clear hb); (try clear hkp); (try clear hy0)) | ((with_reducible refine gate_callee (f := 24) rfl ?_); refine goesL_ (some 54) rfl rfl Try.func24 (by kernel_rfl) rfl #[.slice Ao30 t338.length co30, .int .i64 1] rfl (by (try simp only [List.map_toArray, List.map_cons, List.map_nil]); first | done | (rw [show t338.length = t326.length from (Kd.R_reads' HO_8.out).1.symm] <;> rfl) | rfl | (simp only [List.length_drop, List.length_take]; rfl)) ?_; (with_reducible refine (laws_heldPrefixS.calls kj17 _ _ t338 1 t339 _ ?side1 ?side2 A42.out).mono ?_); (case side1 => repeat (first | exact (Kd.R_reads' HO_8.out).2.2 | (with_reducible refine Kd.C_alloc ?_ _) | (with_reducible refine Kd.C_drewN ?_ _) | (with_reducible refine Kd.C_drew ?_))); (case side2 => rw [show t338.length = t326.length from (Kd.R_reads' HO_8.out).1.symm]; exact (Kd.R_reads' HO_8.out).2.1); rintro e w' ⟨rfl, ⟨nd, rfl⟩⟩; refine ⟨_, rfl, ?_⟩; have hcz54_0 : w53.cell? ⟨gb307, 0, none⟩ = some (.bool a0_0) := (blk_cell BK307.out 0).trans rfl; have hcz54_1 : w53.cell? ⟨gb307, 1, none⟩ = some (.int .i64 a0_1) := (blk_cell BK307.out 1).trans rfl; have hcz54_2 : w53.cell? ⟨gb307, 2, none⟩ = some (.int .i64 a0_2) := (blk_cell BK307.out 2).trans rfl; have hcz54_3 : w53.cell? ⟨gb307, 3, none⟩ = some (.int .i64 a0_3) := (blk_cell BK307.out 3).trans rfl; have hfz54_0 := blk_frozen BK307.out 0; have hfz54_1 := blk_frozen BK307.out 1; have hfz54_2 := blk_frozen BK307.out 2; have hfz54_3 := blk_frozen BK307.out 3) | ((with_reducible refine gate_callee (f := 17) rfl ?_); refine goesL_ (some 61) rfl rfl Try.func17 (by kernel_rfl) rfl #[.agg #[.bool a0_0, .int .i64 a0_1, .int .i64 a0_2, .int .i64 a0_3]] rfl (by (try simp only [List.map_toArray, List.map_cons, List.map_nil]); first | done | rfl | (simp only [List.length_drop, List.length_take]; rfl)) ?_; (with_reducible refine (laws_toPrefix.calls a0_0 a0_1 a0_2 a0_3 t340 t341 t342 t343 _ A45.out).mono ?_); rintro e w55 ⟨rfl, hb⟩; refine ⟨_, rfl, ?_⟩; have n0_ := Aside0.mk (Kd.R_below (by (with_reducible repeat (first | apply Kd.R_alloc | apply Kd.R_drewN | apply Kd.R_drew)); exact HO_6.out) hb); have n1_ := Aside0.mk (Kd.R_below (by (with_reducible repeat (first | apply Kd.R_alloc | apply Kd.R_drewN | apply Kd.R_drew)); exact HO_8.out) hb); have n2_ := Aside0.mk (blk_below (g := gb307) (o := .cells #[.bool a0_0, .int .i64 a0_1, .int .i64 a0_2, .int .i64 a0_3] 25 (0, 0)) (by (with_reducible repeat (first | apply blk_drewN | apply blk_drew | apply blk_alloc)); exact BK307.out) hb); have n3_ := Aside0.mk (below_step (by repeat (first | (with_reducible first | exact HB.out | apply below_alloc | apply pw_below_drewN | apply below_drew1 | refine below_set ?_ GE307.out) | exact HB.out)) hb); clear HO_6; clear HO_8; clear BK307; clear HB; have HO_6 := n0_; have HO_8 := n1_; have BK307 := n2_; have HB := n3_; clear n0_ n1_ n2_ n3_; (try clear hb); (try clear hb2); (try clear hk); (try clear hi)) | ((with_reducible refine gate_callee (f := 18) rfl ?_); refine goesL_ (some 63) rfl rfl Try.func18 (by kernel_rfl) rfl #[.slice A1 l1.length c1] rfl (by (try simp only [List.map_toArray, List.map_cons, List.map_nil]); first | done | rfl | (simp only [List.length_drop, List.length_take]; rfl)) ?_; (with_reducible refine (laws_toPrefixS.calls kj17 _ _ l1 t344 _ ?side1 ?side2 A46.out).mono ?_); (case side1 => repeat (first | exact (Kd.C_below HR1.out HB.out) | (with_reducible refine Kd.C_alloc ?_ _) | (with_reducible refine Kd.C_drewN ?_ _) | (with_reducible refine Kd.C_drew ?_))); (case side2 => exact HC1.out); rintro e w56 ⟨v345, rfl, ho0, hb⟩; refine ⟨_, rfl, ?_⟩; have n0_ := Aside0.mk (Kd.R_elder' (by (with_reducible repeat (first | apply Kd.R_alloc | apply Kd.R_drewN | apply Kd.R_drew)); exact HO_6.out) (Kd.R_base ho0) hb); have n1_ := Aside0.mk (Kd.R_elder' (by (with_reducible repeat (first | apply Kd.R_alloc | apply Kd.R_drewN | apply Kd.R_drew)); exact HO_8.out) (Kd.R_base ho0) hb); have n2_ := Aside0.mk (Kd.R_lower (Kd.R_new' (Kd.R_new' ho0 (Kd.R_lt (by (with_reducible repeat (first | apply Kd.R_alloc | apply Kd.R_drewN | apply Kd.R_drew)); exact HO_6.out))) (Kd.R_lt (by (with_reducible repeat (first | apply Kd.R_alloc | apply Kd.R_drewN | apply Kd.R_drew)); exact HO_8.out))) (below_size (by repeat (first | (with_reducible first | exact HB.out | apply below_alloc | apply pw_below_drewN | apply below_drew1 | refine below_set ?_ GE307.out) | exact HB.out)))); have n3_ := Aside0.mk (blk_below (g := gb307) (o := .cells #[.bool a0_0, .int .i64 a0_1, .int .i64 a0_2, .int .i64 a0_3] 25 (0, 0)) (by (with_reducible repeat (first | apply blk_drewN | apply blk_drew | apply blk_alloc)); exact BK307.out) hb); have n4_ := Aside0.mk (below_step (by repeat (first | (with_reducible first | exact HB.out | apply below_alloc | apply pw_below_drewN | apply below_drew1 | refine below_set ?_ GE307.out) | exact HB.out)) hb); clear HO_6; clear HO_8; clear BK307; clear HB; have HO_6 := n0_; have HO_8 := n1_; have HO346 := n2_; have BK307 := n3_; have HB := n4_; clear n0_ n1_ n2_ n3_ n4_; (try clear hb); (try clear hb2); (try clear hk); (try clear hi); (try clear ho0); obtain ⟨Ao57, co57, eo57⟩ := Kd.R_slice HO346.out; subst eo57) | ((with_reducible refine gate_callee (f := 22) rfl ?_); refine goesL_ (some 64) rfl rfl Try.func22 (by kernel_rfl) rfl #[.agg #[.bool t340, .int .i64 t341, .int .i64 t342, .int .i64 t343], .slice Ao57 t344.length co57] rfl (by (try simp only [List.map_toArray, List.map_cons, List.map_nil]); first | done | rfl | (simp only [List.length_drop, List.length_take]; rfl)) ?_; (with_reducible refine (impl_Without.calls kj17 t340 t341 t342 t343 _ _ t344 t347 _ ?side1 ?side2 A47.out).mono ?_); (case side1 => repeat (first | exact (Kd.R_reads' HO346.out).2.2 | (with_reducible refine Kd.C_alloc ?_ _) | (with_reducible refine Kd.C_drewN ?_ _) | (with_reducible refine Kd.C_drew ?_))); (case side2 => exact (Kd.R_reads' HO346.out).2.1); rintro e w58 ⟨v348, rfl, ho0, hb⟩; refine ⟨_, rfl, ?_⟩; have n0_ := Aside0.mk (Kd.R_elder' (by (with_reducible repeat (first | apply Kd.R_alloc | apply Kd.R_drewN | apply Kd.R_drew)); exact HO_6.out) (Kd.R_base ho0) hb); have n1_ := Aside0.mk (Kd.R_elder' (by (with_reducible repeat (first | apply Kd.R_alloc | apply Kd.R_drewN | apply Kd.R_drew)); exact HO_8.out) (Kd.R_base ho0) hb); have n2_ := Aside0.mk (Kd.R_elder' (by (with_reducible repeat (first | apply Kd.R_alloc | apply Kd.R_drewN | apply Kd.R_drew)); exact HO346.out) (Kd.R_base ho0) hb); have n3_ := Aside0.mk (Kd.R_lower (Kd.R_new' (Kd.R_new' (Kd.R_new' ho0 (Kd.R_lt (by (with_reducible repeat (first | apply Kd.R_alloc | apply Kd.R_drewN | apply Kd.R_drew)); exact HO_6.out))) (Kd.R_lt (by (with_reducible repeat (first | apply Kd.R_alloc | apply Kd.R_drewN | apply Kd.R_drew)); exact HO_8.out))) (Kd.R_lt (by (with_reducible repeat (first | apply Kd.R_alloc | apply Kd.R_drewN | apply Kd.R_drew)); exact HO346.out))) (below_size (by repeat (first | (with_reducible first | exact HB.out | apply below_alloc | apply pw_below_drewN | apply below_drew1 | refine below_set ?_ GE307.out) | exact HB.out)))); have n4_ := Aside0.mk (blk_below (g := gb307) (o := .cells #[.bool a0_0, .int .i64 a0_1, .int .i64 a0_2, .int .i64 a0_3] 25 (0, 0)) (by (with_reducible repeat (first | apply blk_drewN | apply blk_drew | apply blk_alloc)); exact BK307.out) hb); have n5_ := Aside0.mk (below_step (by repeat (first | (with_reducible first | exact HB.out | apply below_alloc | apply pw_below_drewN | apply below_drew1 | refine below_set ?_ GE307.out) | exact HB.out)) hb); clear HO_6; clear HO_8; clear HO346; clear BK307; clear HB; have HO_6 := n0_; have HO_8 := n1_; have HO346 := n2_; have HO349 := n3_; have BK307 := n4_; have HB := n5_; clear n0_ n1_ n2_ n3_ n4_ n5_; (try clear hb); (try clear hb2); (try clear hk); (try clear hi); (try clear ho0); obtain ⟨Ao59, co59, eo59⟩ := Kd.R_slice HO349.out; subst eo59) | ((with_reducible refine gate_callee (f := 20) rfl ?_); refine goesL_ (some 67) rfl rfl Try.func20 (by kernel_rfl) rfl #[.slice Ao59 t347.length co59, .slice Ao31 t316.length co31] rfl (by (try simp only [List.map_toArray, List.map_cons, List.map_nil]); first | done | rfl | (simp only [List.length_drop, List.length_take]; rfl)) ?_; (with_reducible refine (laws_eqPrefixS.calls kj17 _ _ t347 _ _ t316 true _ ?side1 ?side2 ?side3 ?side4 A48.out).mono ?_); (case side1 => repeat (first | exact (Kd.R_reads' HO349.out).2.2 | (with_reducible refine Kd.C_alloc ?_ _) | (with_reducible refine Kd.C_drewN ?_ _) | (with_reducible refine Kd.C_drew ?_))); (case side2 => exact (Kd.R_reads' HO349.out).2.1); (case side3 => repeat (first | exact (Kd.R_reads' HO_6.out).2.2 | (with_reducible refine Kd.C_alloc ?_ _) | (with_reducible refine Kd.C_drewN ?_ _) | (with_reducible refine Kd.C_drew ?_))); (case side4 => exact (Kd.R_reads' HO_6.out).2.1); rintro e w60 ⟨rfl, hb⟩; refine ⟨_, rfl, ?_⟩; have n0_ := Aside0.mk (Kd.R_below (by (with_reducible repeat (first | apply Kd.R_alloc | apply Kd.R_drewN | apply Kd.R_drew)); exact HO_6.out) hb); have n1_ := Aside0.mk (Kd.R_below (by (with_reducible repeat (first | apply Kd.R_alloc | apply Kd.R_drewN | apply Kd.R_drew)); exact HO_8.out) hb); have n2_ := Aside0.mk (Kd.R_below (by (with_reducible repeat (first | apply Kd.R_alloc | apply Kd.R_drewN | apply Kd.R_drew)); exact HO346.out) hb); have n3_ := Aside0.mk (Kd.R_below (by (with_reducible repeat (first | apply Kd.R_alloc | apply Kd.R_drewN | apply Kd.R_drew)); exact HO349.out) hb); have n4_ := Aside0.mk (blk_below (g := gb307) (o := .cells #[.bool a0_0, .int .i64 a0_1, .int .i64 a0_2, .int .i64 a0_3] 25 (0, 0)) (by (with_reducible repeat (first | apply blk_drewN | apply blk_drew | apply blk_alloc)); exact BK307.out) hb); have n5_ := Aside0.mk (below_step (by repeat (first | (with_reducible first | exact HB.out | apply below_alloc | apply pw_below_drewN | apply below_drew1 | refine below_set ?_ GE307.out) | exact HB.out)) hb); clear HO_6; clear HO_8; clear HO346; clear HO349; clear BK307; clear HB; have HO_6 := n0_; have HO_8 := n1_; have HO346 := n2_; have HO349 := n3_; have BK307 := n4_; have HB := n5_; clear n0_ n1_ n2_ n3_ n4_ n5_; (try clear hb); (try clear hb2); (try clear hk); (try clear hi)) | ((with_reducible refine gate_callee (f := 24) rfl ?_); refine goesL_ (some 71) rfl rfl Try.func24 (by kernel_rfl) rfl #[.slice Ao30 t338.length co30, .int .i64 1] rfl (by (try simp only [List.map_toArray, List.map_cons, List.map_nil]); first | done | (rw [show t338.length = t326.length from (Kd.R_reads' HO_8.out).1.symm] <;> rfl) | rfl | (simp only [List.length_drop, List.length_take]; rfl)) ?_; (with_reducible refine (laws_heldPrefixS.calls kj17 _ _ t338 1 t351 _ ?side1 ?side2 A50.out).mono ?_); (case side1 => repeat (first | exact (Kd.R_reads' HO_8.out).2.2 | (with_reducible refine Kd.C_alloc ?_ _) | (with_reducible refine Kd.C_drewN ?_ _) | (with_reducible refine Kd.C_drew ?_))); (case side2 => rw [show t338.length = t326.length from (Kd.R_reads' HO_8.out).1.symm]; exact (Kd.R_reads' HO_8.out).2.1); rintro e w' ⟨rfl, ⟨nd, rfl⟩⟩; refine ⟨_, rfl, ?_⟩))
            go_ret
            exact ⟨by first | rfl | (simp [errW_none, errW_some] <;> rfl) | (simp [*, errW_none, errW_some] <;> rfl), by repeat (first | (with_reducible first | exact HB.out | apply below_alloc | apply pw_below_drewN | apply below_drew1 | refine below_set ?_ GE307.out) | exact HB.out)⟩
           ·rw [if_neg c52] at H
            have c52b0 : (t351 == t337) = false := beq_eq_false_iff_ne.mpr c52
            have c52b1 : (t351 != t337) = true := bne_iff_ne.mpr c52
            exact absurd ((Option.some.inj H).trans HLAW.out) (by decide)
         ·replace c49 := Bool.eq_false_iff.mpr c49
          subst c49
          have H1 : (some false) = some r := by rw [if_neg (show ¬ (false = true) by decide)] at H; exact H
          clear H
          have H := H1
          clear H1
          exact absurd ((Option.some.inj H).trans HLAW.out) (by decide)
        ·rw [if_neg c44] at H
         have c44b0 : (t339 == t337) = false := beq_eq_false_iff_ne.mpr c44
         have c44b1 : (t339 != t337) = true := bne_iff_ne.mpr c44
         exact absurd ((Option.some.inj H).trans HLAW.out) (by decide)
   ·replace c16 := Bool.eq_false_iff.mpr c16
    subst c16
    have H1 : (some false) = some r := by rw [if_neg (show ¬ (false = true) by decide)] at H; exact H
    clear H
    have H := H1
    clear H1
    exact absurd ((Option.some.inj H).trans HLAW.out) (by decide)
  ·replace c13 := Bool.eq_false_iff.mpr c13
   subst c13
   have H1 : (some false) = some r := by rw [if_neg (show ¬ (false = true) by decide)] at H; exact H
   clear H
   have H := H1
   clear H1
   exact absurd ((Option.some.inj H).trans HLAW.out) (by decide)

end Go.Proofs.Ythakdhdoeejkmaa.QFnExactWithout
