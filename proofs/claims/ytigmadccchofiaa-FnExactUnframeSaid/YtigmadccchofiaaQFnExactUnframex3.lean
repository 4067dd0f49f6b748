-- Written by a program of this session (wip/myprint.py); Lean checks it.
import Derived.Test.YtigmadccchofiaaQFnExactUnframex0
namespace Go.Proofs.Ytigmadccchofiaa.QFnExactUnframe
open Go.RowKit Go.Proofs.YtigmadccchofiaaW.PrintWords Go.Proofs.YtigmadccchofiaaW.PrintLast Go.Proofs.YtigmadccchofiaaW.PrintMore
attribute [local go_sem] max2_int min2_int max_two min_two max_three min_three max_four min_four   -- for this text's walks alone
set_option linter.unusedVariables false
set_option linter.unusedSimpArgs false

attribute [local go_sem] isSome_setCell
/-! ### spec_GetNum: function 96 -/
mutual
def spec_GetNum.l0 : Nat → List Int → Int → Int → Int → Option (Int × Int × Bool)
  | 0, _, _, _, _ => none
  | k + 1, x0, x1, x7, x8 => if x8 < 10 then (if x1 < (x0.length : Int) then (spec_GetNum.j1 k x0 x1 x7 x8 (decide ((wrap64 (x1 + x8)) < (x0.length : Int)))) else (spec_GetNum.j1 k x0 x1 x7 x8 false)) else (spec_GetNum.j1 k x0 x1 x7 x8 false)
def spec_GetNum.j1 : Nat → List Int → Int → Int → Int → Bool → Option (Int × Int × Bool)
  | 0, _, _, _, _, _ => none
  | k + 1, x0, x1, x7, x8, x27 => if x27 = true then (if 0 ≤ (wrap64 (x1 + x8)) then (if (wrap64 (x1 + x8)) < (x0.length : Int) then (if x8 = 9 then (spec_GetNum.j2 k x0 x1 x7 x8 (rd x0 (wrap64 (x1 + x8))) (decide ((rd x0 (wrap64 (x1 + x8))) > 1))) else (spec_GetNum.j2 k x0 x1 x7 x8 (rd x0 (wrap64 (x1 + x8))) false)) else (none)) else (none)) else (some (0, 0, false))
def spec_GetNum.j2 : Nat → List Int → Int → Int → Int → Int → Bool → Option (Int × Int × Bool)
  | 0, _, _, _, _, _, _ => none
  | k + 1, x0, x1, x7, x8, x9, x41 => if x41 = true then (some (0, 0, false)) else (if 0 ≤ (IntKind.u64.wrap (wrap64 (7 * x8))) then (if x9 < 128 then (if x8 > 0 then (if x9 = 0 then (some (0, 0, false)) else (some (wrap64 (Go.bits .or .u64 x7 (shl .u64 (IntKind.u64.wrap (Int.tmod x9 128)) (IntKind.u64.wrap (wrap64 (7 * x8))))), wrap64 ((wrap64 (x1 + x8)) + 1), true))) else (some (wrap64 (Go.bits .or .u64 x7 (shl .u64 (IntKind.u64.wrap (Int.tmod x9 128)) (IntKind.u64.wrap (wrap64 (7 * x8))))), wrap64 ((wrap64 (x1 + x8)) + 1), true))) else (spec_GetNum.l0 k x0 x1 (Go.bits .or .u64 x7 (shl .u64 (IntKind.u64.wrap (Int.tmod x9 128)) (IntKind.u64.wrap (wrap64 (7 * x8))))) (wrap64 (x8 + 1)))) else (none))
end
def spec_GetNum.f (k : Nat) (l0 : List Int) (a1 : Int) : Option (Int × Int × Bool) := if a1 < 0 then (some (0, 0, false)) else (spec_GetNum.l0 k l0 a1 0 0)
theorem spec_GetNum.mono_l : ∀ k, (∀ y0 y1 y2 y3, LeO (spec_GetNum.l0 k y0 y1 y2 y3) (spec_GetNum.l0 (k + 1) y0 y1 y2 y3)) ∧ (∀ y0 y1 y2 y3 y4, LeO (spec_GetNum.j1 k y0 y1 y2 y3 y4) (spec_GetNum.j1 (k + 1) y0 y1 y2 y3 y4)) ∧ (∀ y0 y1 y2 y3 y4 y5, LeO (spec_GetNum.j2 k y0 y1 y2 y3 y4 y5) (spec_GetNum.j2 (k + 1) y0 y1 y2 y3 y4 y5))
  | 0 => ⟨fun _ _ _ _ r h => by simp [spec_GetNum.l0] at h, fun _ _ _ _ _ r h => by simp [spec_GetNum.j1] at h, fun _ _ _ _ _ _ r h => by simp [spec_GetNum.j2] at h⟩
  | k + 1 => by
    obtain ⟨ih0, ih1, ih2⟩ := spec_GetNum.mono_l k
    refine ⟨?_, ?_, ?_⟩
    · intro y0 y1 y2 y3
      unfold spec_GetNum.l0
      repeat' first
      | (with_reducible exact ih0 _ _ _ _)
      | (with_reducible exact ih1 _ _ _ _ _)
      | (with_reducible exact ih2 _ _ _ _ _ _)
      | (with_reducible exact LeO.refl _)
      | (with_reducible exact LeO.none _)
      | (with_reducible refine LeO.ite ?_ ?_)
      | (with_reducible refine LeO.bind ?_ (fun _ => ?_))
      | exact ih0 _ _ _ _
      | exact ih1 _ _ _ _ _
      | exact ih2 _ _ _ _ _ _
      | exact LeO.none _
      | refine LeO.ite ?_ ?_
      | refine LeO.bind ?_ (fun _ => ?_)
    · intro y0 y1 y2 y3 y4
      unfold spec_GetNum.j1
      repeat' first
      | (with_reducible exact ih0 _ _ _ _)
      | (with_reducible exact ih1 _ _ _ _ _)
      | (with_reducible exact ih2 _ _ _ _ _ _)
      | (with_reducible exact LeO.refl _)
      | (with_reducible exact LeO.none _)
      | (with_reducible refine LeO.ite ?_ ?_)
      | (with_reducible refine LeO.bind ?_ (fun _ => ?_))
      | exact ih0 _ _ _ _
      | exact ih1 _ _ _ _ _
      | exact ih2 _ _ _ _ _ _
      | exact LeO.none _
      | refine LeO.ite ?_ ?_
      | refine LeO.bind ?_ (fun _ => ?_)
    · intro y0 y1 y2 y3 y4 y5
      unfold spec_GetNum.j2
      repeat' first
      | (with_reducible exact ih0 _ _ _ _)
      | (with_reducible exact ih1 _ _ _ _ _)
      | (with_reducible exact ih2 _ _ _ _ _ _)
      | (with_reducible exact LeO.refl _)
      | (with_reducible exact LeO.none _)
      | (with_reducible refine LeO.ite ?_ ?_)
      | (with_reducible refine LeO.bind ?_ (fun _ => ?_))
      | exact ih0 _ _ _ _
      | exact ih1 _ _ _ _ _
      | exact ih2 _ _ _ _ _ _
      | exact LeO.none _
      | refine LeO.ite ?_ ?_
      | refine LeO.bind ?_ (fun _ => ?_)
theorem spec_GetNum.mono : ∀ a0 a1 k, LeO (spec_GetNum.f k a0 a1) (spec_GetNum.f (k + 1) a0 a1) := by
  intro a0 a1 k
  obtain ⟨ih0, ih1, ih2⟩ := spec_GetNum.mono_l k
  unfold spec_GetNum.f
  repeat' first
      | (with_reducible exact ih0 _ _ _ _)
      | (with_reducible exact ih1 _ _ _ _ _)
      | (with_reducible exact ih2 _ _ _ _ _ _)
      | (with_reducible exact LeO.refl _)
      | (with_reducible exact LeO.none _)
      | (with_reducible refine LeO.ite ?_ ?_)
      | (with_reducible refine LeO.bind ?_ (fun _ => ?_))
      | exact ih0 _ _ _ _
      | exact ih1 _ _ _ _ _
      | exact ih2 _ _ _ _ _ _
      | exact LeO.none _
      | refine LeO.ite ?_ ?_
      | refine LeO.bind ?_ (fun _ => ?_)
set_option maxHeartbeats 8000000 in
set_option maxRecDepth 100000 in
theorem spec_GetNum.calls (k : Nat) (A0 : Option Addr) (c0 : Nat) (l0 : List Int) (a1 : Int) (r1 : Int) (r2 : Int) (r3 : Bool) (w : World) (hr0 : Kd.C (Kd.int .u8) w A0 l0.length l0) (hc0 : l0.length ≤ c0) (h : spec_GetNum.f k l0 a1 = some (r1, r2, r3)) :
    Calls Try.prog 96 #[.slice A0 l0.length c0, .int .i64 a1] w fun e w' => e = .returned (.tuple #[.int .i64 r1, .int .i64 r2, .bool r3]) ∧ Drawn0 w w' := by
  have HR0 := Aside0.mk hr0
  have HC0 := Aside0.mk hc0
  clear hr0 hc0
  have H : (if a1 < 0 then (some (0, 0, false)) else (spec_GetNum.l0 k l0 a1 0 0)) = some (r1, r2, r3) := h
  clear h
  by_cases c3 : a1 < 0
  · rw [if_pos c3] at H
    have c3b0 : decide (a1 < 0) = true := decide_eq_true c3
    clear c3
    simp only [Option.some.injEq, Prod.mk.injEq] at H
    obtain ⟨rfl, rfl, rfl⟩ := H
    go_enter Try.func96, Try.ntmps96
    go_wp2
    go_ret3
    exact ⟨by first | rfl | (simp; done) | (simp [*]; done), by repeat (first | exact Drawn0.refl _ | apply Drawn0.step)⟩
  · rw [if_neg c3] at H
    have c3b0 : decide (a1 < 0) = false := decide_eq_false c3
    clear c3
    have H' := Aside0.mk H
    clear H
    go_enter Try.func96, Try.ntmps96
    go_wp2
    go_loopg [7, 8] k (fun kq v7 v8 w' => ∃ (x7_1 : Int) (x8_1 : Int), v7 = .int .u64 x7_1 ∧ v8 = .int .i64 x8_1 ∧ Aside0 (spec_GetNum.l0 kq l0 a1 x7_1 x8_1 = some (r1, r2, r3)) ∧ Aside0 (kq ≤ k) ∧ Drawn0 w w')
    case atStart => exact ⟨(0), (0), (by first | rfl | (simp; done) | (simp [*]; done)), (by first | rfl | (simp; done) | (simp [*]; done)), H', ⟨Nat.le_refl _⟩, by repeat (first | exact Drawn0.refl _ | apply Drawn0.step)⟩
    case round =>
      clear H'
      try clear p2
      try clear c3
      try clear c3b0
      obtain ⟨x7_1, x8_1, rfl, rfl, HA, HK1, ⟨m1, rfl⟩⟩ := hrel
      cases gk with
      | zero => exact absurd HA.out (by simp [spec_GetNum.l0])
      | succ k1 =>
        have H := HA.out
        clear HA
        simp only [spec_GetNum.l0] at H
        have HC4 := Aside0.mk H
        clear H
        go_upto_region 5 with (fail)
        go_cut [27] (fun v27 wc => ∃ (kq : Nat) (x27_3 : Bool), v27 = .bool x27_3 ∧ Aside0 (spec_GetNum.j1 kq l0 a1 x7_1 x8_1 x27_3 = some (r1, r2, r3)) ∧ Aside0 (kq ≤ k1) ∧ Drawn0 w wc)
        case first =>
          have H := HC4.out
          clear HC4
          by_cases c5 : x8_1 < 10
          · rw [if_pos c5] at H
            have c5b0 : decide (x8_1 < 10) = true := decide_eq_true c5
            clear c5
            (first | rw [c5b0] | (simp only [i64_w, i32_w]; rw [c5b0]) | skip)
            by_cases c6 : a1 < (l0.length : Int)
            · rw [if_pos c6] at H
              have c6b0 : decide (a1 < (l0.length : Int)) = true := decide_eq_true c6
              clear c6
              have H' := Aside0.mk H
              clear H
              go_wp2
              go_meet
              case rel => exact ⟨_, (decide ((wrap64 (a1 + x8_1)) < (l0.length : Int))), (by first | rfl | (simp; done) | (simp [*]; done)), H', ⟨by have := HK1.out; first | omega | exact Nat.le_refl _⟩, by repeat (first | exact Drawn0.refl _ | apply Drawn0.step)⟩
            · rw [if_neg c6] at H
              have c6b0 : decide (a1 < (l0.length : Int)) = false := decide_eq_false c6
              clear c6
              have H' := Aside0.mk H
              clear H
              go_wp2
              go_meet
              case rel => exact ⟨_, (false), (by first | rfl | (simp; done) | (simp [*]; done)), H', ⟨by have := HK1.out; first | omega | exact Nat.le_refl _⟩, by repeat (first | exact Drawn0.refl _ | apply Drawn0.step)⟩
          · rw [if_neg c5] at H
            have c5b0 : decide (x8_1 < 10) = false := decide_eq_false c5
            clear c5
            (first | rw [c5b0] | (simp only [i64_w, i32_w]; rw [c5b0]) | skip)
            have H' := Aside0.mk H
            clear H
            go_wp2
            go_meet
            case rel => exact ⟨_, (false), (by first | rfl | (simp; done) | (simp [*]; done)), H', ⟨by have := HK1.out; first | omega | exact Nat.le_refl _⟩, by repeat (first | exact Drawn0.refl _ | apply Drawn0.step)⟩
        case rest =>
          clear HC4
          try clear p2
          try clear c3
          try clear c3b0
          try clear c5
          try clear c5b0
          try clear c6
          try clear c6b0
          try clear p6
          try clear p2
          obtain ⟨kq, x27_3, rfl, HA, HJ3, ⟨mc3, rfl⟩⟩ := hcut
          cases kq with
          | zero => exact absurd HA.out (by simp [spec_GetNum.j1])
          | succ kj3 =>
            have H := HA.out
            clear HA
            simp only [spec_GetNum.j1] at H
            by_cases c7 : x27_3 = true
            · subst c7
              have H1 : (if 0 ≤ (wrap64 (a1 + x8_1)) then (if (wrap64 (a1 + x8_1)) < (l0.length : Int) then (if x8_1 = 9 then (spec_GetNum.j2 kj3 l0 a1 x7_1 x8_1 (rd l0 (wrap64 (a1 + x8_1))) (decide ((rd l0 (wrap64 (a1 + x8_1))) > 1))) else (spec_GetNum.j2 kj3 l0 a1 x7_1 x8_1 (rd l0 (wrap64 (a1 + x8_1))) false)) else (none)) else (none)) = some (r1, r2, r3) := by rw [if_pos rfl] at H; exact H
              clear H
              have H := H1
              clear H1
              obtain ⟨ji8, hji8⟩ : ∃ j_ : Int, (wrap64 (a1 + x8_1)) = j_ := ⟨_, rfl⟩
              replace H : (if 0 ≤ (ji8) then (if (ji8) < (l0.length : Int) then (if x8_1 = 9 then (spec_GetNum.j2 kj3 l0 a1 x7_1 x8_1 (rd l0 (ji8)) (decide ((rd l0 (ji8)) > 1))) else (spec_GetNum.j2 kj3 l0 a1 x7_1 x8_1 (rd l0 (ji8)) false)) else (none)) else (none)) = some (r1, r2, r3) := by first | (rw [hji8] at H; exact H) | (simp only [hji8] at H ⊢; exact H)
              have hji8w : (IntKind.i64.wrap (a1 + x8_1)) = ji8 := (i64_w _).trans hji8
              by_cases c9 : 0 ≤ (ji8)
              · rw [if_pos c9] at H
                have c9b0 : decide (0 ≤ (ji8)) = true := decide_eq_true c9
                clear c9
                by_cases c10 : (ji8) < (l0.length : Int)
                · rw [if_pos c10] at H
                  have c10b0 : decide ((ji8) < (l0.length : Int)) = true := decide_eq_true c10
                  clear c10
                  have HC11 := Aside0.mk H
                  clear H
                  have p152 : 0 ≤ ((ji8) : Int) := of_decide_eq_true (by first | (with_reducible assumption) | assumption)
                  have q152 : (ji8) < (l0.length : Int) := of_decide_eq_true (by first | (with_reducible assumption) | assumption)
                  obtain ⟨ad152, e152, hx152_0⟩ := Kd.at_int HR0.out (ji8) p152 q152
                  cases e152
                  replace p152 := eq_true p152
                  replace q152 := eq_true q152
                  go_upto_region 8 with (fail)
                  go_cut [41] (fun v41 wc => ∃ (kq : Nat) (x41_10 : Bool), v41 = .bool x41_10 ∧ Aside0 (spec_GetNum.j2 kq l0 a1 x7_1 x8_1 (rd l0 (ji8)) x41_10 = some (r1, r2, r3)) ∧ Aside0 (kq ≤ kj3) ∧ Drawn0 w wc)
                  case first =>
                    have H := HC11.out
                    clear HC11
                    by_cases c12 : x8_1 = 9
                    · rw [if_pos c12] at H
                      have c12b0 : (x8_1 == 9) = true := beq_iff_eq.mpr c12
                      have c12b1 : (x8_1 != 9) = false := bne_eq_false_iff_eq.mpr c12
                      clear c12
                      (first | rw [c12b0] | (simp only [i64_w, i32_w]; rw [c12b0]) | skip)
                      have H' := Aside0.mk H
                      clear H
                      go_wp2
                      go_meet
                      case rel => exact ⟨_, (decide ((rd l0 (ji8)) > 1)), (by first | rfl | (simp; done) | (simp only [← hji8] <;> (first | rfl | simp)) | (simp [*]; done)), H', ⟨by have := HK1.out; have := HJ3.out; first | omega | exact Nat.le_refl _⟩, by repeat (first | exact Drawn0.refl _ | apply Drawn0.step)⟩
                    · rw [if_neg c12] at H
                      have c12b0 : (x8_1 == 9) = false := beq_eq_false_iff_ne.mpr c12
                      have c12b1 : (x8_1 != 9) = true := bne_iff_ne.mpr c12
                      (first | rw [c12b0] | (simp only [i64_w, i32_w]; rw [c12b0]) | skip)
                      have H' := Aside0.mk H
                      clear H
                      go_wp2
                      go_meet
                      case rel => exact ⟨_, (false), (by first | rfl | (simp; done) | (simp [*]; done)), H', ⟨by have := HK1.out; have := HJ3.out; first | omega | exact Nat.le_refl _⟩, by repeat (first | exact Drawn0.refl _ | apply Drawn0.step)⟩
                  case rest =>
                    clear HC11
                    try clear c1
                    try clear p1
                    try clear q1
                    try clear hx1
                    try clear p2
                    try clear c3
                    try clear c3b0
                    try clear c5
                    try clear c5b0
                    try clear c6
                    try clear c6b0
                    try clear p6
                    try clear c7
                    try clear c9
                    try clear c9b0
                    try clear c10
                    try clear c10b0
                    try clear c12
                    try clear c12b0
                    try clear c12b1
                    try clear hx152_0
                    try clear p152
                    try clear p2
                    try clear p6
                    try clear q152
                    obtain ⟨kq, x41_10, rfl, HA, HJ10, ⟨mc10, rfl⟩⟩ := hcut
                    cases kq with
                    | zero => exact absurd HA.out (by simp [spec_GetNum.j2])
                    | succ kj10 =>
                      have H := HA.out
                      clear HA
                      simp only [spec_GetNum.j2] at H
                      by_cases c13 : x41_10 = true
                      · subst c13
                        have H1 : (some (0, 0, false)) = some (r1, r2, r3) := by rw [if_pos rfl] at H; exact H
                        clear H
                        have H := H1
                        clear H1
                        simp only [Option.some.injEq, Prod.mk.injEq] at H
                        obtain ⟨rfl, rfl, rfl⟩ := H
                        go_wp2
                        go_ret3
                        exact ⟨by first | rfl | (simp; done) | (simp only [← hji8] <;> (first | rfl | simp)) | (simp [*]; done), by repeat (first | exact Drawn0.refl _ | apply Drawn0.step)⟩
                      · replace c13 := Bool.eq_false_iff.mpr c13
                        subst c13
                        have H1 : (if 0 ≤ (IntKind.u64.wrap (wrap64 (7 * x8_1))) then (if (rd l0 (ji8)) < 128 then (if x8_1 > 0 then (if (rd l0 (ji8)) = 0 then (some (0, 0, false)) else (some (wrap64 (Go.bits .or .u64 x7_1 (shl .u64 (IntKind.u64.wrap (Int.tmod (rd l0 (ji8)) 128)) (IntKind.u64.wrap (wrap64 (7 * x8_1))))), wrap64 ((wrap64 (a1 + x8_1)) + 1), true))) else (some (wrap64 (Go.bits .or .u64 x7_1 (shl .u64 (IntKind.u64.wrap (Int.tmod (rd l0 (ji8)) 128)) (IntKind.u64.wrap (wrap64 (7 * x8_1))))), wrap64 ((wrap64 (a1 + x8_1)) + 1), true))) else (spec_GetNum.l0 kj10 l0 a1 (Go.bits .or .u64 x7_1 (shl .u64 (IntKind.u64.wrap (Int.tmod (rd l0 (ji8)) 128)) (IntKind.u64.wrap (wrap64 (7 * x8_1))))) (wrap64 (x8_1 + 1)))) else (none)) = some (r1, r2, r3) := by rw [if_neg (show ¬ (false = true) by decide)] at H; exact H
                        clear H
                        have H := H1
                        clear H1
                        obtain ⟨ji14, hji14⟩ : ∃ j_ : Int, (IntKind.u64.wrap (wrap64 (7 * x8_1))) = j_ := ⟨_, rfl⟩
                        replace H : (if 0 ≤ (ji14) then (if (rd l0 (ji8)) < 128 then (if x8_1 > 0 then (if (rd l0 (ji8)) = 0 then (some (0, 0, false)) else (some (wrap64 (Go.bits .or .u64 x7_1 (shl .u64 (IntKind.u64.wrap (Int.tmod (rd l0 (ji8)) 128)) (ji14))), wrap64 ((wrap64 (a1 + x8_1)) + 1), true))) else (some (wrap64 (Go.bits .or .u64 x7_1 (shl .u64 (IntKind.u64.wrap (Int.tmod (rd l0 (ji8)) 128)) (ji14))), wrap64 ((wrap64 (a1 + x8_1)) + 1), true))) else (spec_GetNum.l0 kj10 l0 a1 (Go.bits .or .u64 x7_1 (shl .u64 (IntKind.u64.wrap (Int.tmod (rd l0 (ji8)) 128)) (ji14))) (wrap64 (x8_1 + 1)))) else (none)) = some (r1, r2, r3) := by first | (rw [hji14] at H; exact H) | (simp only [hji14] at H ⊢; exact H)
                        by_cases c15 : 0 ≤ (ji14)
                        · rw [if_pos c15] at H
                          have c15b0 := eq_true c15
                          have c15b1 : decide (0 ≤ (ji14)) = true := decide_eq_true c15
                          clear c15
                          obtain ⟨ji16, hji16⟩ : ∃ j_ : Int, (shl .u64 (IntKind.u64.wrap (Int.tmod (rd l0 (ji8)) 128)) (ji14)) = j_ := ⟨_, rfl⟩
                          replace H : (if (rd l0 (ji8)) < 128 then (if x8_1 > 0 then (if (rd l0 (ji8)) = 0 then (some (0, 0, false)) else (some (wrap64 (Go.bits .or .u64 x7_1 (ji16)), wrap64 ((wrap64 (a1 + x8_1)) + 1), true))) else (some (wrap64 (Go.bits .or .u64 x7_1 (ji16)), wrap64 ((wrap64 (a1 + x8_1)) + 1), true))) else (spec_GetNum.l0 kj10 l0 a1 (Go.bits .or .u64 x7_1 (ji16)) (wrap64 (x8_1 + 1)))) = some (r1, r2, r3) := by first | (rw [hji16] at H; exact H) | (simp only [hji16] at H ⊢; exact H)
                          have hji16_ : (IntKind.u64.wrap ((IntKind.u64.wrap (Int.tmod (rd l0 (ji8)) 128)) * 2 ^ min (ji14).toNat 64)) = ji16 := hji16
                          have hji16z : (ji14) ≤ 64 → (IntKind.u64.wrap ((IntKind.u64.wrap (Int.tmod (rd l0 (ji8)) 128)) * 2 ^ (ji14).toNat)) = ji16 := shl_small hji16
                          by_cases c17 : (rd l0 (ji8)) < 128
                          · rw [if_pos c17] at H
                            have c17b0 : decide ((rd l0 (ji8)) < 128) = true := decide_eq_true c17
                            clear c17
                            by_cases c18 : x8_1 > 0
                            · rw [if_pos c18] at H
                              have c18b0 : decide (0 < x8_1) = true := decide_eq_true c18
                              clear c18
                              by_cases c19 : (rd l0 (ji8)) = 0
                              · rw [if_pos c19] at H
                                have c19b0 : ((rd l0 (ji8)) == 0) = true := beq_iff_eq.mpr c19
                                have c19b1 : ((rd l0 (ji8)) != 0) = false := bne_eq_false_iff_eq.mpr c19
                                clear c19
                                simp only [Option.some.injEq, Prod.mk.injEq] at H
                                obtain ⟨rfl, rfl, rfl⟩ := H
                                go_wp2
                                go_ret3
                                exact ⟨by first | rfl | (simp; done) | (simp only [← hji8, ← hji14, ← hji16] <;> (first | rfl | simp)) | (simp [*]; done), by repeat (first | exact Drawn0.refl _ | apply Drawn0.step)⟩
                              · rw [if_neg c19] at H
                                have c19b0 : ((rd l0 (ji8)) == 0) = false := beq_eq_false_iff_ne.mpr c19
                                have c19b1 : ((rd l0 (ji8)) != 0) = true := bne_iff_ne.mpr c19
                                simp only [Option.some.injEq, Prod.mk.injEq] at H
                                obtain ⟨rfl, rfl, rfl⟩ := H
                                go_wp2
                                go_ret3
                                exact ⟨by first | rfl | (simp; done) | (simp only [← hji8, ← hji14, ← hji16] <;> (first | rfl | simp)) | (simp [*]; done), by repeat (first | exact Drawn0.refl _ | apply Drawn0.step)⟩
                            · rw [if_neg c18] at H
                              have c18b0 : decide (0 < x8_1) = false := decide_eq_false c18
                              clear c18
                              simp only [Option.some.injEq, Prod.mk.injEq] at H
                              obtain ⟨rfl, rfl, rfl⟩ := H
                              go_wp2
                              go_ret3
                              exact ⟨by first | rfl | (simp; done) | (simp only [← hji8, ← hji14, ← hji16] <;> (first | rfl | simp)) | (simp [*]; done), by repeat (first | exact Drawn0.refl _ | apply Drawn0.step)⟩
                          · rw [if_neg c17] at H
                            have c17b0 : decide ((rd l0 (ji8)) < 128) = false := decide_eq_false c17
                            clear c17
                            have H' := Aside0.mk H
                            clear H
                            go_wp2
                            go_roundg kj10
                            case measure => have := HK1.out; have := HJ3.out; have := HJ10.out; omega
                            case rel => exact ⟨(Go.bits .or .u64 x7_1 (ji16)), (wrap64 (x8_1 + 1)), (by first | rfl | (simp; done) | (simp only [← hji16] <;> (first | rfl | simp)) | (simp [*]; done)), (by first | rfl | (simp; done) | (simp [*]; done)), H', ⟨by have := HK1.out; have := HJ3.out; have := HJ10.out; omega⟩, by repeat (first | exact Drawn0.refl _ | apply Drawn0.step)⟩
                        · rw [if_neg c15] at H
                          exact absurd H (by simp)
                · rw [if_neg c10] at H
                  exact absurd H (by simp)
              · rw [if_neg c9] at H
                exact absurd H (by simp)
            · replace c7 := Bool.eq_false_iff.mpr c7
              subst c7
              have H1 : (some (0, 0, false)) = some (r1, r2, r3) := by rw [if_neg (show ¬ (false = true) by decide)] at H; exact H
              clear H
              have H := H1
              clear H1
              simp only [Option.some.injEq, Prod.mk.injEq] at H
              obtain ⟨rfl, rfl, rfl⟩ := H
              go_wp2
              go_ret3
              exact ⟨by first | rfl | (simp; done) | (simp [*]; done), by repeat (first | exact Drawn0.refl _ | apply Drawn0.step)⟩

/-! ### spec_l3Short: function 97 -/
def spec_l3Short.l0 : Nat → List Int → Int → Int → Option (Bool)
  | 0, _, _, _ => none
  | k + 1, x0, x1, x5 => if (wrap64 (x1 + x5)) < (x0.length : Int) then (if x5 < 10 then (if 0 ≤ (wrap64 (x1 + x5)) then (if (rd x0 (wrap64 (x1 + x5))) ≥ 128 then (spec_l3Short.l0 k x0 x1 (wrap64 (x5 + 1))) else (if (wrap64 (x1 + x5)) = (x0.length : Int) then (some (decide (x5 < 10))) else (some false))) else (none)) else (if (wrap64 (x1 + x5)) = (x0.length : Int) then (some (decide (x5 < 10))) else (some false))) else (if (wrap64 (x1 + x5)) = (x0.length : Int) then (some (decide (x5 < 10))) else (some false))
def spec_l3Short.f (k : Nat) (l0 : List Int) (a1 : Int) : Option (Bool) := spec_l3Short.l0 k l0 a1 0
theorem spec_l3Short.mono_l : ∀ k, (∀ y0 y1 y2, LeO (spec_l3Short.l0 k y0 y1 y2) (spec_l3Short.l0 (k + 1) y0 y1 y2))
  | 0 => fun _ _ _ r h => by simp [spec_l3Short.l0] at h
  | k + 1 => by
    have ih0 := spec_l3Short.mono_l k
    · intro y0 y1 y2
      unfold spec_l3Short.l0
      repeat' first
      | (with_reducible exact ih0 _ _ _)
      | (with_reducible exact LeO.refl _)
      | (with_reducible exact LeO.none _)
      | (with_reducible refine LeO.ite ?_ ?_)
      | (with_reducible refine LeO.bind ?_ (fun _ => ?_))
      | exact ih0 _ _ _
      | exact LeO.none _
      | refine LeO.ite ?_ ?_
      | refine LeO.bind ?_ (fun _ => ?_)
theorem spec_l3Short.mono : ∀ a0 a1 k, LeO (spec_l3Short.f k a0 a1) (spec_l3Short.f (k + 1) a0 a1) := by
  intro a0 a1 k
  have ih0 := spec_l3Short.mono_l k
  unfold spec_l3Short.f
  repeat' first
      | (with_reducible exact ih0 _ _ _)
      | (with_reducible exact LeO.refl _)
      | (with_reducible exact LeO.none _)
      | (with_reducible refine LeO.ite ?_ ?_)
      | (with_reducible refine LeO.bind ?_ (fun _ => ?_))
      | exact ih0 _ _ _
      | exact LeO.none _
      | refine LeO.ite ?_ ?_
      | refine LeO.bind ?_ (fun _ => ?_)
set_option maxHeartbeats 8000000 in
set_option maxRecDepth 100000 in
theorem spec_l3Short.calls (k : Nat) (A0 : Option Addr) (c0 : Nat) (l0 : List Int) (a1 : Int) (r : Bool) (w : World) (hr0 : Kd.C (Kd.int .u8) w A0 l0.length l0) (hc0 : l0.length ≤ c0) (h : spec_l3Short.f k l0 a1 = some r) :
    Calls Try.prog 97 #[.slice A0 l0.length c0, .int .i64 a1] w fun e w' => e = .returned (.bool r) ∧ Drawn0 w w' := by
  have HR0 := Aside0.mk hr0
  have HC0 := Aside0.mk hc0
  clear hr0 hc0
  have H : (spec_l3Short.l0 k l0 a1 0) = some r := h
  clear h
  have H' := Aside0.mk H
  clear H
  go_enter Try.func97, Try.ntmps97
  go_wp2
  go_loopg [5] k (fun kq v5 w' => ∃ (x5_1 : Int), v5 = .int .i64 x5_1 ∧ Aside0 (spec_l3Short.l0 kq l0 a1 x5_1 = some r) ∧ Aside0 (kq ≤ k) ∧ Drawn0 w w')
  case atStart => exact ⟨(0), (by first | rfl | (simp; done) | (simp [*]; done)), H', ⟨Nat.le_refl _⟩, by repeat (first | exact Drawn0.refl _ | apply Drawn0.step)⟩
  case round =>
    clear H'
    try clear p2
    obtain ⟨x5_1, rfl, HA, HK1, ⟨m1, rfl⟩⟩ := hrel
    cases gk with
    | zero => exact absurd HA.out (by simp [spec_l3Short.l0])
    | succ k1 =>
      have H := HA.out
      clear HA
      simp only [spec_l3Short.l0] at H
      by_cases c3 : (wrap64 (a1 + x5_1)) < (l0.length : Int)
      · rw [if_pos c3] at H
        have c3b0 : decide ((wrap64 (a1 + x5_1)) < (l0.length : Int)) = true := decide_eq_true c3
        clear c3
        by_cases c4 : x5_1 < 10
        · rw [if_pos c4] at H
          have c4b0 : decide (x5_1 < 10) = true := decide_eq_true c4
          clear c4
          obtain ⟨ji5, hji5⟩ : ∃ j_ : Int, (wrap64 (a1 + x5_1)) = j_ := ⟨_, rfl⟩
          replace H : (if 0 ≤ (ji5) then (if (rd l0 (ji5)) ≥ 128 then (spec_l3Short.l0 k1 l0 a1 (wrap64 (x5_1 + 1))) else (if (ji5) = (l0.length : Int) then (some (decide (x5_1 < 10))) else (some false))) else (none)) = some r := by first | (rw [hji5] at H; exact H) | (simp only [hji5] at H ⊢; exact H)
          (try rw [hji5] at c3b0)
          have hji5w : (IntKind.i64.wrap (a1 + x5_1)) = ji5 := (i64_w _).trans hji5
          by_cases c6 : 0 ≤ (ji5)
          · rw [if_pos c6] at H
            have c6b0 : decide (0 ≤ (ji5)) = true := decide_eq_true c6
            clear c6
            by_cases c7 : (rd l0 (ji5)) ≥ 128
            · rw [if_pos c7] at H
              have c7b0 : decide (128 ≤ (rd l0 (ji5))) = true := decide_eq_true c7
              clear c7
              have H' := Aside0.mk H
              clear H
              have p153 : 0 ≤ ((ji5) : Int) := of_decide_eq_true (by first | (with_reducible assumption) | assumption)
              have q153 : (ji5) < (l0.length : Int) := of_decide_eq_true (by first | (with_reducible assumption) | assumption)
              obtain ⟨ad153, e153, hx153_0⟩ := Kd.at_int HR0.out (ji5) p153 q153
              cases e153
              replace p153 := eq_true p153
              replace q153 := eq_true q153
              go_wp2
              go_roundg k1
              case measure => have := HK1.out; omega
              case rel => exact ⟨(wrap64 (x5_1 + 1)), (by first | rfl | (simp; done) | (simp [*]; done)), H', ⟨by have := HK1.out; omega⟩, by repeat (first | exact Drawn0.refl _ | apply Drawn0.step)⟩
            · rw [if_neg c7] at H
              have c7b0 : decide (128 ≤ (rd l0 (ji5))) = false := decide_eq_false c7
              clear c7
              by_cases c8 : (ji5) = (l0.length : Int)
              · rw [if_pos c8] at H
                have c8b0 : ((ji5) == (l0.length : Int)) = true := beq_iff_eq.mpr c8
                have c8b1 : ((ji5) != (l0.length : Int)) = false := bne_eq_false_iff_eq.mpr c8
                clear c8
                obtain rfl := Option.some.inj H
                have p153 : 0 ≤ ((ji5) : Int) := of_decide_eq_true (by first | (with_reducible assumption) | assumption)
                have q153 : (ji5) < (l0.length : Int) := of_decide_eq_true (by first | (with_reducible assumption) | assumption)
                obtain ⟨ad153, e153, hx153_0⟩ := Kd.at_int HR0.out (ji5) p153 q153
                cases e153
                replace p153 := eq_true p153
                replace q153 := eq_true q153
                go_wp2
                go_ret
                exact ⟨by first | rfl | (simp; done) | (simp only [← hji5] <;> (first | rfl | simp)) | (simp [*]; done), by repeat (first | exact Drawn0.refl _ | apply Drawn0.step)⟩
              · rw [if_neg c8] at H
                have c8b0 : ((ji5) == (l0.length : Int)) = false := beq_eq_false_iff_ne.mpr c8
                have c8b1 : ((ji5) != (l0.length : Int)) = true := bne_iff_ne.mpr c8
                obtain rfl := Option.some.inj H
                have p153 : 0 ≤ ((ji5) : Int) := of_decide_eq_true (by first | (with_reducible assumption) | assumption)
                have q153 : (ji5) < (l0.length : Int) := of_decide_eq_true (by first | (with_reducible assumption) | assumption)
                obtain ⟨ad153, e153, hx153_0⟩ := Kd.at_int HR0.out (ji5) p153 q153
                cases e153
                replace p153 := eq_true p153
                replace q153 := eq_true q153
                go_wp2
                go_ret
                exact ⟨by first | rfl | (simp; done) | (simp only [← hji5] <;> (first | rfl | simp)) | (simp [*]; done), by repeat (first | exact Drawn0.refl _ | apply Drawn0.step)⟩
          · rw [if_neg c6] at H
            exact absurd H (by simp)
        · rw [if_neg c4] at H
          have c4b0 : decide (x5_1 < 10) = false := decide_eq_false c4
          clear c4
          by_cases c9 : (wrap64 (a1 + x5_1)) = (l0.length : Int)
          · rw [if_pos c9] at H
            have c9b0 : ((wrap64 (a1 + x5_1)) == (l0.length : Int)) = true := beq_iff_eq.mpr c9
            have c9b1 : ((wrap64 (a1 + x5_1)) != (l0.length : Int)) = false := bne_eq_false_iff_eq.mpr c9
            clear c9
            obtain rfl := Option.some.inj H
            go_wp2
            go_ret
            exact ⟨by first | rfl | (simp; done) | (simp [*]; done), by repeat (first | exact Drawn0.refl _ | apply Drawn0.step)⟩
          · rw [if_neg c9] at H
            have c9b0 : ((wrap64 (a1 + x5_1)) == (l0.length : Int)) = false := beq_eq_false_iff_ne.mpr c9
            have c9b1 : ((wrap64 (a1 + x5_1)) != (l0.length : Int)) = true := bne_iff_ne.mpr c9
            obtain rfl := Option.some.inj H
            go_wp2
            go_ret
            exact ⟨by first | rfl | (simp; done) | (simp [*]; done), by repeat (first | exact Drawn0.refl _ | apply Drawn0.step)⟩
      · rw [if_neg c3] at H
        have c3b0 : decide ((wrap64 (a1 + x5_1)) < (l0.length : Int)) = false := decide_eq_false c3
        clear c3
        by_cases c10 : (wrap64 (a1 + x5_1)) = (l0.length : Int)
        · rw [if_pos c10] at H
          have c10b0 : ((wrap64 (a1 + x5_1)) == (l0.length : Int)) = true := beq_iff_eq.mpr c10
          have c10b1 : ((wrap64 (a1 + x5_1)) != (l0.length : Int)) = false := bne_eq_false_iff_eq.mpr c10
          clear c10
          obtain rfl := Option.some.inj H
          go_wp2
          go_ret
          exact ⟨by first | rfl | (simp; done) | (simp [*]; done), by repeat (first | exact Drawn0.refl _ | apply Drawn0.step)⟩
        · rw [if_neg c10] at H
          have c10b0 : ((wrap64 (a1 + x5_1)) == (l0.length : Int)) = false := beq_eq_false_iff_ne.mpr c10
          have c10b1 : ((wrap64 (a1 + x5_1)) != (l0.length : Int)) = true := bne_iff_ne.mpr c10
          obtain rfl := Option.some.inj H
          go_wp2
          go_ret
          exact ⟨by first | rfl | (simp; done) | (simp [*]; done), by repeat (first | exact Drawn0.refl _ | apply Drawn0.step)⟩

/-! ### spec_l3Same: function 98 -/
def spec_l3Same.l0 : Nat → List Int → List Int → Int → Option (Bool)
  | 0, _, _, _ => none
  | k + 1, x0, x1, x5 => if x5 < (x0.length : Int) then (if 0 ≤ x5 then (if x5 < (x1.length : Int) then (if (rd x0 x5) = (rd x1 x5) then (spec_l3Same.l0 k x0 x1 (wrap64 (x5 + 1))) else (some false)) else (none)) else (none)) else (some true)
def spec_l3Same.f (k : Nat) (l0 : List Int) (l1 : List Int) : Option (Bool) := if (l0.length : Int) = (l1.length : Int) then (spec_l3Same.l0 k l0 l1 0) else (some false)
theorem spec_l3Same.mono_l : ∀ k, (∀ y0 y1 y2, LeO (spec_l3Same.l0 k y0 y1 y2) (spec_l3Same.l0 (k + 1) y0 y1 y2))
  | 0 => fun _ _ _ r h => by simp [spec_l3Same.l0] at h
  | k + 1 => by
    have ih0 := spec_l3Same.mono_l k
    · intro y0 y1 y2
      unfold spec_l3Same.l0
      repeat' first
      | (with_reducible exact ih0 _ _ _)
      | (with_reducible exact LeO.refl _)
      | (with_reducible exact LeO.none _)
      | (with_reducible refine LeO.ite ?_ ?_)
      | (with_reducible refine LeO.bind ?_ (fun _ => ?_))
      | exact ih0 _ _ _
      | exact LeO.none _
      | refine LeO.ite ?_ ?_
      | refine LeO.bind ?_ (fun _ => ?_)
theorem spec_l3Same.mono : ∀ a0 a1 k, LeO (spec_l3Same.f k a0 a1) (spec_l3Same.f (k + 1) a0 a1) := by
  intro a0 a1 k
  have ih0 := spec_l3Same.mono_l k
  unfold spec_l3Same.f
  repeat' first
      | (with_reducible exact ih0 _ _ _)
      | (with_reducible exact LeO.refl _)
      | (with_reducible exact LeO.none _)
      | (with_reducible refine LeO.ite ?_ ?_)
      | (with_reducible refine LeO.bind ?_ (fun _ => ?_))
      | exact ih0 _ _ _
      | exact LeO.none _
      | refine LeO.ite ?_ ?_
      | refine LeO.bind ?_ (fun _ => ?_)
set_option maxHeartbeats 8000000 in
set_option maxRecDepth 100000 in
theorem spec_l3Same.calls (k : Nat) (A0 : Option Addr) (c0 : Nat) (l0 : List Int) (A1 : Option Addr) (c1 : Nat) (l1 : List Int) (r : Bool) (w : World) (hr0 : Kd.C (Kd.int .u8) w A0 l0.length l0) (hc0 : l0.length ≤ c0) (hr1 : Kd.C (Kd.int .u8) w A1 l1.length l1) (hc1 : l1.length ≤ c1) (h : spec_l3Same.f k l0 l1 = some r) :
    Calls Try.prog 98 #[.slice A0 l0.length c0, .slice A1 l1.length c1] w fun e w' => e = .returned (.bool r) ∧ Drawn0 w w' := by
  have HR0 := Aside0.mk hr0
  have HC0 := Aside0.mk hc0
  clear hr0 hc0
  have HR1 := Aside0.mk hr1
  have HC1 := Aside0.mk hc1
  clear hr1 hc1
  have H : (if (l0.length : Int) = (l1.length : Int) then (spec_l3Same.l0 k l0 l1 0) else (some false)) = some r := h
  clear h
  by_cases c3 : (l0.length : Int) = (l1.length : Int)
  · rw [if_pos c3] at H
    have c3b0 : ((l0.length : Int) == (l1.length : Int)) = true := beq_iff_eq.mpr c3
    have c3b1 : ((l0.length : Int) != (l1.length : Int)) = false := bne_eq_false_iff_eq.mpr c3
    have c3b2 : (l0.length == l1.length) = true := by first | simpa using c3 | (simp at c3 ⊢; omega)
    clear c3
    have H' := Aside0.mk H
    clear H
    go_enter Try.func98, Try.ntmps98
    go_wp2
    repeat (go_quiet (fail); try go_wp2)
    go_loopg [5] k (fun kq v5 w' => ∃ (x5_1 : Int), v5 = .int .i64 x5_1 ∧ Aside0 (spec_l3Same.l0 kq l0 l1 x5_1 = some r) ∧ Aside0 (kq ≤ k) ∧ Drawn0 w w')
    case atStart => exact ⟨(0), (by first | rfl | (simp; done) | (simp [*]; done)), H', ⟨Nat.le_refl _⟩, by repeat (first | exact Drawn0.refl _ | apply Drawn0.step)⟩
    case round =>
      clear H'
      try clear c1
      try clear p2
      try clear c3
      try clear c3b0
      try clear c3b1
      try clear c3b2
      obtain ⟨x5_1, rfl, HA, HK1, ⟨m1, rfl⟩⟩ := hrel
      cases gk with
      | zero => exact absurd HA.out (by simp [spec_l3Same.l0])
      | succ k1 =>
        have H := HA.out
        clear HA
        simp only [spec_l3Same.l0] at H
        by_cases c4 : x5_1 < (l0.length : Int)
        · rw [if_pos c4] at H
          have c4b0 : decide (x5_1 < (l0.length : Int)) = true := decide_eq_true c4
          clear c4
          by_cases c5 : 0 ≤ x5_1
          · rw [if_pos c5] at H
            have c5b0 : decide (0 ≤ x5_1) = true := decide_eq_true c5
            clear c5
            by_cases c6 : x5_1 < (l1.length : Int)
            · rw [if_pos c6] at H
              have c6b0 : decide (x5_1 < (l1.length : Int)) = true := decide_eq_true c6
              clear c6
              by_cases c7 : (rd l0 x5_1) = (rd l1 x5_1)
              · rw [if_pos c7] at H
                have c7b0 : ((rd l0 x5_1) == (rd l1 x5_1)) = true := beq_iff_eq.mpr c7
                have c7b1 : ((rd l0 x5_1) != (rd l1 x5_1)) = false := bne_eq_false_iff_eq.mpr c7
                clear c7
                have H' := Aside0.mk H
                clear H
                have p154 : 0 ≤ (x5_1 : Int) := of_decide_eq_true (by first | (with_reducible assumption) | assumption)
                have q154 : x5_1 < (l0.length : Int) := of_decide_eq_true (by first | (with_reducible assumption) | assumption)
                obtain ⟨ad154, e154, hx154_0⟩ := Kd.at_int HR0.out x5_1 p154 q154
                cases e154
                replace p154 := eq_true p154
                replace q154 := eq_true q154
                have p155 : 0 ≤ (x5_1 : Int) := of_decide_eq_true (by first | (with_reducible assumption) | assumption)
                have q155 : x5_1 < (l1.length : Int) := of_decide_eq_true (by first | (with_reducible assumption) | assumption)
                obtain ⟨ad155, e155, hx155_0⟩ := Kd.at_int HR1.out x5_1 p155 q155
                cases e155
                replace p155 := eq_true p155
                replace q155 := eq_true q155
                go_wp2
                repeat (go_quiet (fail); try go_wp2)
                go_roundg k1
                case measure => have := HK1.out; omega
                case rel => exact ⟨(wrap64 (x5_1 + 1)), (by first | rfl | (simp; done) | (simp [*]; done)), H', ⟨by have := HK1.out; omega⟩, by repeat (first | exact Drawn0.refl _ | apply Drawn0.step)⟩
              · rw [if_neg c7] at H
                have c7b0 : ((rd l0 x5_1) == (rd l1 x5_1)) = false := beq_eq_false_iff_ne.mpr c7
                have c7b1 : ((rd l0 x5_1) != (rd l1 x5_1)) = true := bne_iff_ne.mpr c7
                obtain rfl := Option.some.inj H
                have p154 : 0 ≤ (x5_1 : Int) := of_decide_eq_true (by first | (with_reducible assumption) | assumption)
                have q154 : x5_1 < (l0.length : Int) := of_decide_eq_true (by first | (with_reducible assumption) | assumption)
                obtain ⟨ad154, e154, hx154_0⟩ := Kd.at_int HR0.out x5_1 p154 q154
                cases e154
                replace p154 := eq_true p154
                replace q154 := eq_true q154
                have p155 : 0 ≤ (x5_1 : Int) := of_decide_eq_true (by first | (with_reducible assumption) | assumption)
                have q155 : x5_1 < (l1.length : Int) := of_decide_eq_true (by first | (with_reducible assumption) | assumption)
                obtain ⟨ad155, e155, hx155_0⟩ := Kd.at_int HR1.out x5_1 p155 q155
                cases e155
                replace p155 := eq_true p155
                replace q155 := eq_true q155
                go_wp2
                repeat (go_quiet (fail); try go_wp2)
                go_ret
                exact ⟨by first | rfl | (simp; done) | (simp [*]; done), by repeat (first | exact Drawn0.refl _ | apply Drawn0.step)⟩
            · rw [if_neg c6] at H
              exact absurd H (by simp)
          · rw [if_neg c5] at H
            exact absurd H (by simp)
        · rw [if_neg c4] at H
          have c4b0 : decide (x5_1 < (l0.length : Int)) = false := decide_eq_false c4
          clear c4
          obtain rfl := Option.some.inj H
          go_wp2
          repeat (go_quiet (fail); try go_wp2)
          go_ret
          exact ⟨by first | rfl | (simp; done) | (simp [*]; done), by repeat (first | exact Drawn0.refl _ | apply Drawn0.step)⟩
  · rw [if_neg c3] at H
    have c3b0 : ((l0.length : Int) == (l1.length : Int)) = false := beq_eq_false_iff_ne.mpr c3
    have c3b1 : ((l0.length : Int) != (l1.length : Int)) = true := bne_iff_ne.mpr c3
    have c3b2 : (l0.length == l1.length) = false := by first | simpa using c3 | (simp at c3 ⊢; omega)
    obtain rfl := Option.some.inj H
    go_enter Try.func98, Try.ntmps98
    go_wp2
    repeat (go_quiet (fail); try go_wp2)
    go_ret
    exact ⟨by first | rfl | (simp; done) | (simp [*]; done), by repeat (first | exact Drawn0.refl _ | apply Drawn0.step)⟩

/-! ### spec_l3Little: function 99 -/
def spec_l3Little.f (a0 : Int) : Option (List Int) := some (([(a0) % 256, (a0 / 256) % 256, (a0 / 65536) % 256, (a0 / 16777216) % 256] : List Int))
set_option maxHeartbeats 8000000 in
set_option maxRecDepth 100000 in
theorem spec_l3Little.calls (a0 : Int) (r : List Int) (w : World) (h : spec_l3Little.f a0 = some r) :
    Calls Try.prog 99 #[.int .i64 a0] w fun e w' => ∃ v0_ : Value, e = .returned (v0_) ∧ Kd.R (Kd.int .u8) 5 w' w.heap.size (fun _ => True) v0_ r ∧ Below w.heap.size w w' := by
  have HB := Aside0.mk (Below.refl w.heap.size w)
  have H : (some (([(a0) % 256, (a0 / 256) % 256, (a0 / 65536) % 256, (a0 / 16777216) % 256] : List Int))) = some r := h
  clear h
  obtain ⟨y156, hy156⟩ : ∃ y_ : List Int, y_ = (([(a0) % 256, (a0 / 256) % 256, (a0 / 65536) % 256, (a0 / 16777216) % 256] : List Int)) := ⟨_, rfl⟩
  replace H : (some y156) = some r := by first | (rw [hy156]; with_reducible exact H) | (have H2_ := (Option.bind_some _ _).symm.trans H; rw [hy156]; with_reducible exact H2_) | (have H2_ := (Option.bind_some _ _).symm.trans H; with_reducible exact H2_) | with_reducible exact H | (rw [hy156]; exact H) | exact H
  have Ny156 := Aside0.mk hy156
  clear hy156
  obtain rfl := Option.some.inj H
  go_enter Try.func99, Try.ntmps99
  go_wp2_with (first | ((with_reducible refine gate_dst (N := 14) rfl ?_); refine Kd.R_lit (Kd.int .u8) _ 5 ?hg (N := 14) ?hd (xs := ([(a0) % 256, (a0 / 256) % 256, (a0 / 65536) % 256, (a0 / 16777216) % 256] : List Int)) (inner := [.int .u8 ((a0) % 256), .int .u8 ((a0 / 256) % 256), .int .u8 ((a0 / 65536) % 256), .int .u8 ((a0 / 16777216) % 256)]) (ok := fun _ => True) (okp := fun _ => True) ?hr ?hp (fun _ hk => hk) trivial (Below.refl _ _) (Nat.le_refl _) (by simp) ?_; (case hd => rfl); (case hg => rfl); (case hr => first | (go_simp; done) | (go_simp; rfl)); (case hp => exact (Reps.one (show Kd.M (Kd.int .u8) _ _ _ ((a0) % 256) [.int .u8 ((a0) % 256)] from rfl) (Reps.one (show Kd.M (Kd.int .u8) _ _ _ ((a0 / 256) % 256) [.int .u8 ((a0 / 256) % 256)] from rfl) (Reps.one (show Kd.M (Kd.int .u8) _ _ _ ((a0 / 65536) % 256) [.int .u8 ((a0 / 65536) % 256)] from rfl) (Reps.one (show Kd.M (Kd.int .u8) _ _ _ ((a0 / 16777216) % 256) [.int .u8 ((a0 / 16777216) % 256)] from rfl) (Reps.none _ _)))))); intro v157 w2 ho3 hb hg_ hnew_; clear hg_ hnew_; (first | rw [← Ny156.out] at ho3 | (simp only [Int.reduceToNat] at ho3; rw [← Ny156.out] at ho3)); have n0_ := Aside0.mk (Kd.R_lower ho3 (below_size (by repeat (first | (with_reducible first | exact HB.out | apply below_alloc | apply pw_below_drewN | apply below_drew1) | exact HB.out)))); have n1_ := Aside0.mk (below_step (by repeat (first | (with_reducible first | exact HB.out | apply below_alloc | apply pw_below_drewN | apply below_drew1) | exact HB.out)) hb); clear HB; have HO158 := n0_; have HB := n1_; clear n0_ n1_; clear hb ho3))
  go_ret
  exact ⟨_, by first | rfl | (simp [errW_none, errW_some] <;> rfl) | (simp [*, errW_none, errW_some] <;> rfl), by (with_reducible repeat (first | apply Kd.R_alloc | apply Kd.R_drewN | apply Kd.R_drew)); exact HO158.out, by repeat (first | (with_reducible first | exact HB.out | apply below_alloc | apply pw_below_drewN | apply below_drew1) | exact HB.out)⟩

end Go.Proofs.Ytigmadccchofiaa.QFnExactUnframe
