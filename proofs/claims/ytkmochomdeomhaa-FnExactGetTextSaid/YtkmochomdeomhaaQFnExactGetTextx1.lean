-- Written by a program of this session (wip/myprint.py); Lean checks it.
import Derived.Test.YtkmochomdeomhaaQFnExactGetTextx0
namespace Go.Proofs.Ytkmochomdeomhaa.QFnExactGetText
open Go.RowKit Go.Proofs.YtkmochomdeomhaaW.PrintWords Go.Proofs.YtkmochomdeomhaaW.PrintLast Go.Proofs.YtkmochomdeomhaaW.PrintMore
attribute [local go_sem] max2_int min2_int max_two min_two max_three min_three max_four min_four   -- for this text's walks alone
set_option linter.unusedVariables false
set_option linter.unusedSimpArgs false

/-! ### spec_GetNum: function 74 -/
mutual
def spec_GetNum.l0 : Nat → List Int → Int → Int → Int → Option (Int × Int × Bool)
  | 0, _, _, _, _ => none
  | k + 1, x0, x1, x7, x8 => if x8 < 10 then (if x1 < (x0.length : Int) then (spec_GetNum.j1 k x0 x1 x7 x8 (decide ((wrap64 (x1 + x8)) < (x0.length : Int)))) else (spec_GetNum.j1 k x0 x1 x7 x8 false)) else (spec_GetNum.j1 k x0 x1 x7 x8 false)
def spec_GetNum.j1 : Nat → List Int → Int → Int → Int → Bool → Option (Int × Int × Bool)
  | 0, _, _, _, _, _ => none
  | k + 1, x0, x1, x7, x8, x27 => if x27 = true then (if 0 ≤ (wrap64 (x1 + x8)) then (if (wrap64 (x1 + x8)) < (x0.length : Int) then (if x8 = 9 then (spec_GetNum.j2 k x0 x1 x7 x8 (rd x0 (wrap64 (x1 + x8))) (decide ((rd x0 (wrap64 (x1 + x8))) > 1))) else (spec_GetNum.j2 k x0 x1 x7 x8 (rd x0 (wrap64 (x1 + x8))) false)) else (none)) else (none)) else (some (0, 0, false))
def spec_GetNum.j2 : Nat → List Int → Int → Int → Int → Int → Bool → Option (Int × Int × Bool)
  | 0, _, _, _, _, _, _ => none
  | k + 1, x0, x1, x7, x8, x9, x41 => if x41 = true then (some (0, 0, false)) else (if 0 ≤ (IntKind.u64.wrap (wrap64 (7 * x8))) then (if x9 < 128 then (if x8 > 0 then (if x9 = 0 then (some (0, 0, false)) else (some (wrap64 (Go.bits .or .u64 x7 (shl .u64 (IntKind.u64.wrap (Int.tmod x9 128)) (IntKind.u64.wrap (wrap64 (7 * x8))))), wrap64 ((wrap64 (x1 + x8)) + 1), true))) else (some (wrap64 (Go.bits .or .u64 x7 (shl .u64 (IntKind.u64.wrap (Int.tmod x9 128)) (IntKind.u64.wrap (wrap64 (7 * x8))))), wrap64 ((wrap64 (x1 + x8)) + 1), true))) else (spec_GetNum.l0 k x0 x1 (Go.bits .or .u64 x7 (shl .u64 (IntKind.u64.wrap (Int.tmod x9 128)) (IntKind.u64.wrap (wrap64 (7 * x8))))) (wrap64 (x8 + 1)))) else (none))
end
def spec_GetNum.f (k : Nat) (l0 : List Int) (a1 : Int) : Option (Int × Int × Bool) := if a1 < 0 then (some (0, 0, false)) else (spec_GetNum.l0 k l0 a1 0 0)
theorem spec_GetNum.mono_l : ∀ k, (∀ y0 y1 y2 y3, LeO (spec_GetNum.l0 k y0 y1 y2 y3) (spec_GetNum.l0 (k + 1) y0 y1 y2 y3)) ∧ (∀ y0 y1 y2 y3 y4, LeO (spec_GetNum.j1 k y0 y1 y2 y3 y4) (spec_GetNum.j1 (k + 1) y0 y1 y2 y3 y4)) ∧ (∀ y0 y1 y2 y3 y4 y5, LeO (spec_GetNum.j2 k y0 y1 y2 y3 y4 y5) (spec_GetNum.j2 (k + 1) y0 y1 y2 y3 y4 y5))
  | 0 => ⟨fun _ _ _ _ r h => by simp [spec_GetNum.l0] at h, fun _ _ _ _ _ r h => by simp [spec_GetNum.j1] at h, fun _ _ _ _ _ _ r h => by simp [spec_GetNum.j2] at h⟩
  | k + 1 => by
    obtain ⟨ih0, ih1, ih2⟩ := spec_GetNum.mono_l k
    refine ⟨?_, ?_, ?_⟩
    · intro y0 y1 y2 y3
      unfold spec_GetNum.l0
      repeat' first
      | (with_reducible exact ih0 _ _ _ _)
      | (with_reducible exact ih1 _ _ _ _ _)
      | (with_reducible exact ih2 _ _ _ _ _ _)
      | (with_reducible exact LeO.refl _)
      | (with_reducible exact LeO.none _)
      | (with_reducible refine LeO.ite ?_ ?_)
      | (with_reducible refine LeO.bind ?_ (fun _ => ?_))
      | exact ih0 _ _ _ _
      | exact ih1 _ _ _ _ _
      | exact ih2 _ _ _ _ _ _
      | exact LeO.none _
      | refine LeO.ite ?_ ?_
      | refine LeO.bind ?_ (fun _ => ?_)
    · intro y0 y1 y2 y3 y4
      unfold spec_GetNum.j1
      repeat' first
      | (with_reducible exact ih0 _ _ _ _)
      | (with_reducible exact ih1 _ _ _ _ _)
      | (with_reducible exact ih2 _ _ _ _ _ _)
      | (with_reducible exact LeO.refl _)
      | (with_reducible exact LeO.none _)
      | (with_reducible refine LeO.ite ?_ ?_)
      | (with_reducible refine LeO.bind ?_ (fun _ => ?_))
      | exact ih0 _ _ _ _
      | exact ih1 _ _ _ _ _
      | exact ih2 _ _ _ _ _ _
      | exact LeO.none _
      | refine LeO.ite ?_ ?_
      | refine LeO.bind ?_ (fun _ => ?_)
    · intro y0 y1 y2 y3 y4 y5
      unfold spec_GetNum.j2
      repeat' first
      | (with_reducible exact ih0 _ _ _ _)
      | (with_reducible exact ih1 _ _ _ _ _)
      | (with_reducible exact ih2 _ _ _ _ _ _)
      | (with_reducible exact LeO.refl _)
      | (with_reducible exact LeO.none _)
      | (with_reducible refine LeO.ite ?_ ?_)
      | (with_reducible refine LeO.bind ?_ (fun _ => ?_))
      | exact ih0 _ _ _ _
      | exact ih1 _ _ _ _ _
      | exact ih2 _ _ _ _ _ _
      | exact LeO.none _
      | refine LeO.ite ?_ ?_
      | refine LeO.bind ?_ (fun _ => ?_)
theorem spec_GetNum.mono : ∀ a0 a1 k, LeO (spec_GetNum.f k a0 a1) (spec_GetNum.f (k + 1) a0 a1) := by
  intro a0 a1 k
  obtain ⟨ih0, ih1, ih2⟩ := spec_GetNum.mono_l k
  unfold spec_GetNum.f
  repeat' first
      | (with_reducible exact ih0 _ _ _ _)
      | (with_reducible exact ih1 _ _ _ _ _)
      | (with_reducible exact ih2 _ _ _ _ _ _)
      | (with_reducible exact LeO.refl _)
      | (with_reducible exact LeO.none _)
      | (with_reducible refine LeO.ite ?_ ?_)
      | (with_reducible refine LeO.bind ?_ (fun _ => ?_))
      | exact ih0 _ _ _ _
      | exact ih1 _ _ _ _ _
      | exact ih2 _ _ _ _ _ _
      | exact LeO.none _
      | refine LeO.ite ?_ ?_
      | refine LeO.bind ?_ (fun _ => ?_)
set_option maxHeartbeats 8000000 in
set_option maxRecDepth 100000 in
theorem spec_GetNum.calls (k : Nat) (A0 : Option Addr) (c0 : Nat) (l0 : List Int) (a1 : Int) (r1 : Int) (r2 : Int) (r3 : Bool) (w : World) (hr0 : Kd.C (Kd.int .u8) w A0 l0.length l0) (hc0 : l0.length ≤ c0) (h : spec_GetNum.f k l0 a1 = some (r1, r2, r3)) :
    Calls Try.prog 74 #[.slice A0 l0.length c0, .int .i64 a1] w fun e w' => e = .returned (.tuple #[.int .i64 r1, .int .i64 r2, .bool r3]) ∧ Drawn0 w w' := by
  have HR0 := Aside0.mk hr0
  have HC0 := Aside0.mk hc0
  clear hr0 hc0
  have H : (if a1 < 0 then (some (0, 0, false)) else (spec_GetNum.l0 k l0 a1 0 0)) = some (r1, r2, r3) := h
  clear h
  by_cases c3 : a1 < 0
  · rw [if_pos c3] at H
    have c3b0 : decide (a1 < 0) = true := decide_eq_true c3
    clear c3
    simp only [Option.some.injEq, Prod.mk.injEq] at H
    obtain ⟨rfl, rfl, rfl⟩ := H
    go_enter Try.func74, Try.ntmps74
    go_wp2
    go_ret3
    exact ⟨by first | rfl | (simp; done) | (simp [*]; done), by repeat (first | exact Drawn0.refl _ | apply Drawn0.step)⟩
  · rw [if_neg c3] at H
    have c3b0 : decide (a1 < 0) = false := decide_eq_false c3
    clear c3
    have H' := Aside0.mk H
    clear H
    go_enter Try.func74, Try.ntmps74
    go_wp2
    go_loopg [7, 8] k (fun kq v7 v8 w' => ∃ (x7_1 : Int) (x8_1 : Int), v7 = .int .u64 x7_1 ∧ v8 = .int .i64 x8_1 ∧ Aside0 (spec_GetNum.l0 kq l0 a1 x7_1 x8_1 = some (r1, r2, r3)) ∧ Aside0 (kq ≤ k) ∧ Drawn0 w w')
    case atStart => exact ⟨(0), (0), (by first | rfl | (simp; done) | (simp [*]; done)), (by first | rfl | (simp; done) | (simp [*]; done)), H', ⟨Nat.le_refl _⟩, by repeat (first | exact Drawn0.refl _ | apply Drawn0.step)⟩
    case round =>
      clear H'
      try clear p2
      try clear c3
      try clear c3b0
      obtain ⟨x7_1, x8_1, rfl, rfl, HA, HK1, ⟨m1, rfl⟩⟩ := hrel
      cases gk with
      | zero => exact absurd HA.out (by simp [spec_GetNum.l0])
      | succ k1 =>
        have H := HA.out
        clear HA
        simp only [spec_GetNum.l0] at H
        have HC4 := Aside0.mk H
        clear H
        go_upto_region 5 with (fail)
        go_cut [27] (fun v27 wc => ∃ (kq : Nat) (x27_3 : Bool), v27 = .bool x27_3 ∧ Aside0 (spec_GetNum.j1 kq l0 a1 x7_1 x8_1 x27_3 = some (r1, r2, r3)) ∧ Aside0 (kq ≤ k1) ∧ Drawn0 w wc)
        case first =>
          have H := HC4.out
          clear HC4
          by_cases c5 : x8_1 < 10
          · rw [if_pos c5] at H
            have c5b0 : decide (x8_1 < 10) = true := decide_eq_true c5
            clear c5
            (first | rw [c5b0] | (simp only [i64_w, i32_w]; rw [c5b0]) | skip)
            by_cases c6 : a1 < (l0.length : Int)
            · rw [if_pos c6] at H
              have c6b0 : decide (a1 < (l0.length : Int)) = true := decide_eq_true c6
              clear c6
              have H' := Aside0.mk H
              clear H
              go_wp2
              go_meet
              case rel => exact ⟨_, (decide ((wrap64 (a1 + x8_1)) < (l0.length : Int))), (by first | rfl | (simp; done) | (simp [*]; done)), H', ⟨by have := HK1.out; first | omega | exact Nat.le_refl _⟩, by repeat (first | exact Drawn0.refl _ | apply Drawn0.step)⟩
            · rw [if_neg c6] at H
              have c6b0 : decide (a1 < (l0.length : Int)) = false := decide_eq_false c6
              clear c6
              have H' := Aside0.mk H
              clear H
              go_wp2
              go_meet
              case rel => exact ⟨_, (false), (by first | rfl | (simp; done) | (simp [*]; done)), H', ⟨by have := HK1.out; first | omega | exact Nat.le_refl _⟩, by repeat (first | exact Drawn0.refl _ | apply Drawn0.step)⟩
          · rw [if_neg c5] at H
            have c5b0 : decide (x8_1 < 10) = false := decide_eq_false c5
            clear c5
            (first | rw [c5b0] | (simp only [i64_w, i32_w]; rw [c5b0]) | skip)
            have H' := Aside0.mk H
            clear H
            go_wp2
            go_meet
            case rel => exact ⟨_, (false), (by first | rfl | (simp; done) | (simp [*]; done)), H', ⟨by have := HK1.out; first | omega | exact Nat.le_refl _⟩, by repeat (first | exact Drawn0.refl _ | apply Drawn0.step)⟩
        case rest =>
          clear HC4
          try clear p2
          try clear c3
          try clear c3b0
          try clear c5
          try clear c5b0
          try clear c6
          try clear c6b0
          try clear p6
          try clear p2
          obtain ⟨kq, x27_3, rfl, HA, HJ3, ⟨mc3, rfl⟩⟩ := hcut
          cases kq with
          | zero => exact absurd HA.out (by simp [spec_GetNum.j1])
          | succ kj3 =>
            have H := HA.out
            clear HA
            simp only [spec_GetNum.j1] at H
            by_cases c7 : x27_3 = true
            · subst c7
              have H1 : (if 0 ≤ (wrap64 (a1 + x8_1)) then (if (wrap64 (a1 + x8_1)) < (l0.length : Int) then (if x8_1 = 9 then (spec_GetNum.j2 kj3 l0 a1 x7_1 x8_1 (rd l0 (wrap64 (a1 + x8_1))) (decide ((rd l0 (wrap64 (a1 + x8_1))) > 1))) else (spec_GetNum.j2 kj3 l0 a1 x7_1 x8_1 (rd l0 (wrap64 (a1 + x8_1))) false)) else (none)) else (none)) = some (r1, r2, r3) := by rw [if_pos rfl] at H; exact H
              clear H
              have H := H1
              clear H1
              obtain ⟨ji8, hji8⟩ : ∃ j_ : Int, (wrap64 (a1 + x8_1)) = j_ := ⟨_, rfl⟩
              replace H : (if 0 ≤ (ji8) then (if (ji8) < (l0.length : Int) then (if x8_1 = 9 then (spec_GetNum.j2 kj3 l0 a1 x7_1 x8_1 (rd l0 (ji8)) (decide ((rd l0 (ji8)) > 1))) else (spec_GetNum.j2 kj3 l0 a1 x7_1 x8_1 (rd l0 (ji8)) false)) else (none)) else (none)) = some (r1, r2, r3) := by first | (rw [hji8] at H; exact H) | (simp only [hji8] at H ⊢; exact H)
              have hji8w : (IntKind.i64.wrap (a1 + x8_1)) = ji8 := (i64_w _).trans hji8
              by_cases c9 : 0 ≤ (ji8)
              · rw [if_pos c9] at H
                have c9b0 : decide (0 ≤ (ji8)) = true := decide_eq_true c9
                clear c9
                by_cases c10 : (ji8) < (l0.length : Int)
                · rw [if_pos c10] at H
                  have c10b0 : decide ((ji8) < (l0.length : Int)) = true := decide_eq_true c10
                  clear c10
                  have HC11 := Aside0.mk H
                  clear H
                  have p101 : 0 ≤ ((ji8) : Int) := of_decide_eq_true (by first | (with_reducible assumption) | assumption)
                  have q101 : (ji8) < (l0.length : Int) := of_decide_eq_true (by first | (with_reducible assumption) | assumption)
                  obtain ⟨ad101, e101, hx101_0⟩ := Kd.at_int HR0.out (ji8) p101 q101
                  cases e101
                  replace p101 := eq_true p101
                  replace q101 := eq_true q101
                  go_upto_region 8 with (fail)
                  go_cut [41] (fun v41 wc => ∃ (kq : Nat) (x41_10 : Bool), v41 = .bool x41_10 ∧ Aside0 (spec_GetNum.j2 kq l0 a1 x7_1 x8_1 (rd l0 (ji8)) x41_10 = some (r1, r2, r3)) ∧ Aside0 (kq ≤ kj3) ∧ Drawn0 w wc)
                  case first =>
                    have H := HC11.out
                    clear HC11
                    by_cases c12 : x8_1 = 9
                    · rw [if_pos c12] at H
                      have c12b0 : (x8_1 == 9) = true := beq_iff_eq.mpr c12
                      have c12b1 : (x8_1 != 9) = false := bne_eq_false_iff_eq.mpr c12
                      clear c12
                      (first | rw [c12b0] | (simp only [i64_w, i32_w]; rw [c12b0]) | skip)
                      have H' := Aside0.mk H
                      clear H
                      go_wp2
                      go_meet
                      case rel => exact ⟨_, (decide ((rd l0 (ji8)) > 1)), (by first | rfl | (simp; done) | (simp only [← hji8] <;> (first | rfl | simp)) | (simp [*]; done)), H', ⟨by have := HK1.out; have := HJ3.out; first | omega | exact Nat.le_refl _⟩, by repeat (first | exact Drawn0.refl _ | apply Drawn0.step)⟩
                    · rw [if_neg c12] at H
                      have c12b0 : (x8_1 == 9) = false := beq_eq_false_iff_ne.mpr c12
                      have c12b1 : (x8_1 != 9) = true := bne_iff_ne.mpr c12
                      (first | rw [c12b0] | (simp only [i64_w, i32_w]; rw [c12b0]) | skip)
                      have H' := Aside0.mk H
                      clear H
                      go_wp2
                      go_meet
                      case rel => exact ⟨_, (false), (by first | rfl | (simp; done) | (simp [*]; done)), H', ⟨by have := HK1.out; have := HJ3.out; first | omega | exact Nat.le_refl _⟩, by repeat (first | exact Drawn0.refl _ | apply Drawn0.step)⟩
                  case rest =>
                    clear HC11
                    try clear c1
                    try clear p1
                    try clear q1
                    try clear hx1
                    try clear p2
                    try clear c3
                    try clear c3b0
                    try clear c5
                    try clear c5b0
                    try clear c6
                    try clear c6b0
                    try clear p6
                    try clear c7
                    try clear c9
                    try clear c9b0
                    try clear c10
                    try clear c10b0
                    try clear p10
                    try clear q10
                    try clear hx10
                    try clear c12
                    try clear c12b0
                    try clear c12b1
                    try clear hx101_0
                    try clear p101
                    try clear p2
                    try clear p6
                    try clear q101
                    obtain ⟨kq, x41_10, rfl, HA, HJ10, ⟨mc10, rfl⟩⟩ := hcut
                    cases kq with
                    | zero => exact absurd HA.out (by simp [spec_GetNum.j2])
                    | succ kj10 =>
                      have H := HA.out
                      clear HA
                      simp only [spec_GetNum.j2] at H
                      by_cases c13 : x41_10 = true
                      · subst c13
                        have H1 : (some (0, 0, false)) = some (r1, r2, r3) := by rw [if_pos rfl] at H; exact H
                        clear H
                        have H := H1
                        clear H1
                        simp only [Option.some.injEq, Prod.mk.injEq] at H
                        obtain ⟨rfl, rfl, rfl⟩ := H
                        go_wp2
                        go_ret3
                        exact ⟨by first | rfl | (simp; done) | (simp only [← hji8] <;> (first | rfl | simp)) | (simp [*]; done), by repeat (first | exact Drawn0.refl _ | apply Drawn0.step)⟩
                      · replace c13 := Bool.eq_false_iff.mpr c13
                        subst c13
                        have H1 : (if 0 ≤ (IntKind.u64.wrap (wrap64 (7 * x8_1))) then (if (rd l0 (ji8)) < 128 then (if x8_1 > 0 then (if (rd l0 (ji8)) = 0 then (some (0, 0, false)) else (some (wrap64 (Go.bits .or .u64 x7_1 (shl .u64 (IntKind.u64.wrap (Int.tmod (rd l0 (ji8)) 128)) (IntKind.u64.wrap (wrap64 (7 * x8_1))))), wrap64 ((wrap64 (a1 + x8_1)) + 1), true))) else (some (wrap64 (Go.bits .or .u64 x7_1 (shl .u64 (IntKind.u64.wrap (Int.tmod (rd l0 (ji8)) 128)) (IntKind.u64.wrap (wrap64 (7 * x8_1))))), wrap64 ((wrap64 (a1 + x8_1)) + 1), true))) else (spec_GetNum.l0 kj10 l0 a1 (Go.bits .or .u64 x7_1 (shl .u64 (IntKind.u64.wrap (Int.tmod (rd l0 (ji8)) 128)) (IntKind.u64.wrap (wrap64 (7 * x8_1))))) (wrap64 (x8_1 + 1)))) else (none)) = some (r1, r2, r3) := by rw [if_neg (show ¬ (false = true) by decide)] at H; exact H
                        clear H
                        have H := H1
                        clear H1
                        obtain ⟨ji14, hji14⟩ : ∃ j_ : Int, (IntKind.u64.wrap (wrap64 (7 * x8_1))) = j_ := ⟨_, rfl⟩
                        replace H : (if 0 ≤ (ji14) then (if (rd l0 (ji8)) < 128 then (if x8_1 > 0 then (if (rd l0 (ji8)) = 0 then (some (0, 0, false)) else (some (wrap64 (Go.bits .or .u64 x7_1 (shl .u64 (IntKind.u64.wrap (Int.tmod (rd l0 (ji8)) 128)) (ji14))), wrap64 ((wrap64 (a1 + x8_1)) + 1), true))) else (some (wrap64 (Go.bits .or .u64 x7_1 (shl .u64 (IntKind.u64.wrap (Int.tmod (rd l0 (ji8)) 128)) (ji14))), wrap64 ((wrap64 (a1 + x8_1)) + 1), true))) else (spec_GetNum.l0 kj10 l0 a1 (Go.bits .or .u64 x7_1 (shl .u64 (IntKind.u64.wrap (Int.tmod (rd l0 (ji8)) 128)) (ji14))) (wrap64 (x8_1 + 1)))) else (none)) = some (r1, r2, r3) := by first | (rw [hji14] at H; exact H) | (simp only [hji14] at H ⊢; exact H)
                        by_cases c15 : 0 ≤ (ji14)
                        · rw [if_pos c15] at H
                          have c15b0 := eq_true c15
                          have c15b1 : decide (0 ≤ (ji14)) = true := decide_eq_true c15
                          clear c15
                          obtain ⟨ji16, hji16⟩ : ∃ j_ : Int, (shl .u64 (IntKind.u64.wrap (Int.tmod (rd l0 (ji8)) 128)) (ji14)) = j_ := ⟨_, rfl⟩
                          replace H : (if (rd l0 (ji8)) < 128 then (if x8_1 > 0 then (if (rd l0 (ji8)) = 0 then (some (0, 0, false)) else (some (wrap64 (Go.bits .or .u64 x7_1 (ji16)), wrap64 ((wrap64 (a1 + x8_1)) + 1), true))) else (some (wrap64 (Go.bits .or .u64 x7_1 (ji16)), wrap64 ((wrap64 (a1 + x8_1)) + 1), true))) else (spec_GetNum.l0 kj10 l0 a1 (Go.bits .or .u64 x7_1 (ji16)) (wrap64 (x8_1 + 1)))) = some (r1, r2, r3) := by first | (rw [hji16] at H; exact H) | (simp only [hji16] at H ⊢; exact H)
                          have hji16_ : (IntKind.u64.wrap ((IntKind.u64.wrap (Int.tmod (rd l0 (ji8)) 128)) * 2 ^ min (ji14).toNat 64)) = ji16 := hji16
                          have hji16z : (ji14) ≤ 64 → (IntKind.u64.wrap ((IntKind.u64.wrap (Int.tmod (rd l0 (ji8)) 128)) * 2 ^ (ji14).toNat)) = ji16 := shl_small hji16
                          by_cases c17 : (rd l0 (ji8)) < 128
                          · rw [if_pos c17] at H
                            have c17b0 : decide ((rd l0 (ji8)) < 128) = true := decide_eq_true c17
                            clear c17
                            by_cases c18 : x8_1 > 0
                            · rw [if_pos c18] at H
                              have c18b0 : decide (0 < x8_1) = true := decide_eq_true c18
                              clear c18
                              by_cases c19 : (rd l0 (ji8)) = 0
                              · rw [if_pos c19] at H
                                have c19b0 : ((rd l0 (ji8)) == 0) = true := beq_iff_eq.mpr c19
                                have c19b1 : ((rd l0 (ji8)) != 0) = false := bne_eq_false_iff_eq.mpr c19
                                clear c19
                                simp only [Option.some.injEq, Prod.mk.injEq] at H
                                obtain ⟨rfl, rfl, rfl⟩ := H
                                go_wp2
                                go_ret3
                                exact ⟨by first | rfl | (simp; done) | (simp only [← hji8, ← hji14, ← hji16] <;> (first | rfl | simp)) | (simp [*]; done), by repeat (first | exact Drawn0.refl _ | apply Drawn0.step)⟩
                              · rw [if_neg c19] at H
                                have c19b0 : ((rd l0 (ji8)) == 0) = false := beq_eq_false_iff_ne.mpr c19
                                have c19b1 : ((rd l0 (ji8)) != 0) = true := bne_iff_ne.mpr c19
                                simp only [Option.some.injEq, Prod.mk.injEq] at H
                                obtain ⟨rfl, rfl, rfl⟩ := H
                                go_wp2
                                go_ret3
                                exact ⟨by first | rfl | (simp; done) | (simp only [← hji8, ← hji14, ← hji16] <;> (first | rfl | simp)) | (simp [*]; done), by repeat (first | exact Drawn0.refl _ | apply Drawn0.step)⟩
                            · rw [if_neg c18] at H
                              have c18b0 : decide (0 < x8_1) = false := decide_eq_false c18
                              clear c18
                              simp only [Option.some.injEq, Prod.mk.injEq] at H
                              obtain ⟨rfl, rfl, rfl⟩ := H
                              go_wp2
                              go_ret3
                              exact ⟨by first | rfl | (simp; done) | (simp only [← hji8, ← hji14, ← hji16] <;> (first | rfl | simp)) | (simp [*]; done), by repeat (first | exact Drawn0.refl _ | apply Drawn0.step)⟩
                          · rw [if_neg c17] at H
                            have c17b0 : decide ((rd l0 (ji8)) < 128) = false := decide_eq_false c17
                            clear c17
                            have H' := Aside0.mk H
                            clear H
                            go_wp2
                            go_roundg kj10
                            case measure => have := HK1.out; have := HJ3.out; have := HJ10.out; omega
                            case rel => exact ⟨(Go.bits .or .u64 x7_1 (ji16)), (wrap64 (x8_1 + 1)), (by first | rfl | (simp; done) | (simp only [← hji16] <;> (first | rfl | simp)) | (simp [*]; done)), (by first | rfl | (simp; done) | (simp [*]; done)), H', ⟨by have := HK1.out; have := HJ3.out; have := HJ10.out; omega⟩, by repeat (first | exact Drawn0.refl _ | apply Drawn0.step)⟩
                        · rw [if_neg c15] at H
                          exact absurd H (by simp)
                · rw [if_neg c10] at H
                  exact absurd H (by simp)
              · rw [if_neg c9] at H
                exact absurd H (by simp)
            · replace c7 := Bool.eq_false_iff.mpr c7
              subst c7
              have H1 : (some (0, 0, false)) = some (r1, r2, r3) := by rw [if_neg (show ¬ (false = true) by decide)] at H; exact H
              clear H
              have H := H1
              clear H1
              simp only [Option.some.injEq, Prod.mk.injEq] at H
              obtain ⟨rfl, rfl, rfl⟩ := H
              go_wp2
              go_ret3
              exact ⟨by first | rfl | (simp; done) | (simp [*]; done), by repeat (first | exact Drawn0.refl _ | apply Drawn0.step)⟩

/-! ### spec_GetText: function 25 -/
def spec_GetText.f (k : Nat) (l0 : List Int) (a1 : Int) : Option (ByteArray × Int × Bool) := (spec_GetNum.f k l0 a1).bind fun bt102 => (if bt102.2.2 = true then (if bt102.1 < 0 then (some ((⟨#[]⟩ : ByteArray), 0, false)) else (if bt102.1 > (wrap64 ((l0.length : Int) - bt102.2.1)) then (some ((⟨#[]⟩ : ByteArray), 0, false)) else (if 0 ≤ bt102.2.1 then (if bt102.2.1 ≤ (wrap64 (bt102.2.1 + bt102.1)) then (if (wrap64 (bt102.2.1 + bt102.1)) ≤ (l0.length : Int) then (some (strOfNums ((l0.take ((wrap64 (bt102.2.1 + bt102.1)) : Int).toNat).drop (bt102.2.1 : Int).toNat), wrap64 (bt102.2.1 + bt102.1), true)) else (none)) else (none)) else (none)))) else (some ((⟨#[]⟩ : ByteArray), 0, false)))
theorem spec_GetText.mono : ∀ a0 a1 k, LeO (spec_GetText.f k a0 a1) (spec_GetText.f (k + 1) a0 a1) := by
  intro a0 a1 k
  unfold spec_GetText.f
  repeat' first
      | (with_reducible exact spec_GetNum.mono _ _ _)
      | (with_reducible exact LeO.refl _)
      | (with_reducible exact LeO.none _)
      | (with_reducible refine LeO.ite ?_ ?_)
      | (with_reducible refine LeO.bind ?_ (fun _ => ?_))
      | exact spec_GetNum.mono _ _ _
      | exact LeO.none _
      | refine LeO.ite ?_ ?_
      | refine LeO.bind ?_ (fun _ => ?_)
set_option maxHeartbeats 8000000 in
set_option maxRecDepth 100000 in
theorem spec_GetText.calls (k : Nat) (A0 : Option Addr) (c0 : Nat) (l0 : List Int) (a1 : Int) (r1 : ByteArray) (r2 : Int) (r3 : Bool) (w : World) (hr0 : Kd.C (Kd.int .u8) w A0 l0.length l0) (hc0 : l0.length ≤ c0) (h : spec_GetText.f k l0 a1 = some (r1, r2, r3)) :
    Calls Try.prog 25 #[.slice A0 l0.length c0, .int .i64 a1] w fun e w' => e = .returned (.tuple #[.string r1, .int .i64 r2, .bool r3]) ∧ Drawn0 w w' := by
  have HR0 := Aside0.mk hr0
  have HC0 := Aside0.mk hc0
  clear hr0 hc0
  have H : ((spec_GetNum.f k l0 a1).bind fun bt102 => (if bt102.2.2 = true then (if bt102.1 < 0 then (some ((⟨#[]⟩ : ByteArray), 0, false)) else (if bt102.1 > (wrap64 ((l0.length : Int) - bt102.2.1)) then (some ((⟨#[]⟩ : ByteArray), 0, false)) else (if 0 ≤ bt102.2.1 then (if bt102.2.1 ≤ (wrap64 (bt102.2.1 + bt102.1)) then (if (wrap64 (bt102.2.1 + bt102.1)) ≤ (l0.length : Int) then (some (strOfNums ((l0.take ((wrap64 (bt102.2.1 + bt102.1)) : Int).toNat).drop (bt102.2.1 : Int).toNat), wrap64 (bt102.2.1 + bt102.1), true)) else (none)) else (none)) else (none)))) else (some ((⟨#[]⟩ : ByteArray), 0, false)))) = some (r1, r2, r3) := h
  clear h
  replace H := Option.bind_eq_some_iff.mp H
  obtain ⟨⟨t102, t103, t104⟩, A30, H⟩ := H
  replace H : (if t104 = true then (if t102 < 0 then (some ((⟨#[]⟩ : ByteArray), 0, false)) else (if t102 > (wrap64 ((l0.length : Int) - t103)) then (some ((⟨#[]⟩ : ByteArray), 0, false)) else (if 0 ≤ t103 then (if t103 ≤ (wrap64 (t103 + t102)) then (if (wrap64 (t103 + t102)) ≤ (l0.length : Int) then (some (strOfNums ((l0.take ((wrap64 (t103 + t102)) : Int).toNat).drop (t103 : Int).toNat), wrap64 (t103 + t102), true)) else (none)) else (none)) else (none)))) else (some ((⟨#[]⟩ : ByteArray), 0, false))) = some (r1, r2, r3) := H
  have A3 := Aside0.mk A30
  clear A30
  by_cases c4 : t104 = true
  · subst c4
    have H1 : (if t102 < 0 then (some ((⟨#[]⟩ : ByteArray), 0, false)) else (if t102 > (wrap64 ((l0.length : Int) - t103)) then (some ((⟨#[]⟩ : ByteArray), 0, false)) else (if 0 ≤ t103 then (if t103 ≤ (wrap64 (t103 + t102)) then (if (wrap64 (t103 + t102)) ≤ (l0.length : Int) then (some (strOfNums ((l0.take ((wrap64 (t103 + t102)) : Int).toNat).drop (t103 : Int).toNat), wrap64 (t103 + t102), true)) else (none)) else (none)) else (none)))) = some (r1, r2, r3) := by rw [if_pos rfl] at H; exact H
    clear H
    have H := H1
    clear H1
    by_cases c5 : t102 < 0
    · rw [if_pos c5] at H
      have c5b0 : decide (t102 < 0) = true := decide_eq_true c5
      clear c5
      simp only [Option.some.injEq, Prod.mk.injEq] at H
      obtain ⟨rfl, rfl, rfl⟩ := H
      go_enter Try.func25, Try.ntmps25
      go_wp2_with (first | ((with_reducible refine gate_callee (f := 74) rfl ?_); refine goesL_ (some 13) rfl rfl Try.func74 (by kernel_rfl) rfl #[.slice A0 l0.length c0, .int .i64 a1] rfl (by (try simp only [List.map_toArray, List.map_cons, List.map_nil]); first | done | rfl | (simp only [List.length_drop, List.length_take]; rfl)) ?_; (with_reducible refine (spec_GetNum.calls k _ _ l0 a1 t102 t103 true _ ?side1 ?side2 A3.out).mono ?_); (case side1 => repeat (first | exact HR0.out | (with_reducible refine Kd.C_alloc ?_ _) | (with_reducible refine Kd.C_drewN ?_ _) | (with_reducible refine Kd.C_drew ?_))); (case side2 => exact HC0.out); rintro e w' ⟨rfl, ⟨nd, rfl⟩⟩; refine ⟨_, rfl, ?_⟩))
      go_ret3
      exact ⟨by first | rfl | (simp; done) | (simp [*]; done), by repeat (first | exact Drawn0.refl _ | apply Drawn0.step)⟩
    · rw [if_neg c5] at H
      have c5b0 : decide (t102 < 0) = false := decide_eq_false c5
      clear c5
      by_cases c6 : t102 > (wrap64 ((l0.length : Int) - t103))
      · rw [if_pos c6] at H
        have c6b0 : decide ((wrap64 ((l0.length : Int) - t103)) < t102) = true := decide_eq_true c6
        clear c6
        simp only [Option.some.injEq, Prod.mk.injEq] at H
        obtain ⟨rfl, rfl, rfl⟩ := H
        go_enter Try.func25, Try.ntmps25
        go_wp2_with (first | ((with_reducible refine gate_callee (f := 74) rfl ?_); refine goesL_ (some 13) rfl rfl Try.func74 (by kernel_rfl) rfl #[.slice A0 l0.length c0, .int .i64 a1] rfl (by (try simp only [List.map_toArray, List.map_cons, List.map_nil]); first | done | rfl | (simp only [List.length_drop, List.length_take]; rfl)) ?_; (with_reducible refine (spec_GetNum.calls k _ _ l0 a1 t102 t103 true _ ?side1 ?side2 A3.out).mono ?_); (case side1 => repeat (first | exact HR0.out | (with_reducible refine Kd.C_alloc ?_ _) | (with_reducible refine Kd.C_drewN ?_ _) | (with_reducible refine Kd.C_drew ?_))); (case side2 => exact HC0.out); rintro e w' ⟨rfl, ⟨nd, rfl⟩⟩; refine ⟨_, rfl, ?_⟩))
        go_ret3
        exact ⟨by first | rfl | (simp; done) | (simp [*]; done), by repeat (first | exact Drawn0.refl _ | apply Drawn0.step)⟩
      · rw [if_neg c6] at H
        have c6b0 : decide ((wrap64 ((l0.length : Int) - t103)) < t102) = false := decide_eq_false c6
        clear c6
        by_cases c7 : 0 ≤ t103
        · rw [if_pos c7] at H
          have c7b0 := eq_true c7
          have c7b1 : decide (0 ≤ t103) = true := decide_eq_true c7
          clear c7
          by_cases c8 : t103 ≤ (wrap64 (t103 + t102))
          · rw [if_pos c8] at H
            have c8b0 := eq_true c8
            have c8b1 : decide (t103 ≤ (wrap64 (t103 + t102))) = true := decide_eq_true c8
            by_cases c9 : (wrap64 (t103 + t102)) ≤ (l0.length : Int)
            · rw [if_pos c9] at H
              have c9b0 := eq_true c9
              have c9b1 : decide ((wrap64 (t103 + t102)) ≤ (l0.length : Int)) = true := decide_eq_true c9
              simp only [Option.some.injEq, Prod.mk.injEq] at H
              obtain ⟨rfl, rfl, rfl⟩ := H
              go_enter Try.func25, Try.ntmps25
              go_wp2_with (first | ((with_reducible refine gate_callee (f := 74) rfl ?_); refine goesL_ (some 13) rfl rfl Try.func74 (by kernel_rfl) rfl #[.slice A0 l0.length c0, .int .i64 a1] rfl (by (try simp only [List.map_toArray, List.map_cons, List.map_nil]); first | done | rfl | (simp only [List.length_drop, List.length_take]; rfl)) ?_; (with_reducible refine (spec_GetNum.calls k _ _ l0 a1 t102 t103 true _ ?side1 ?side2 A3.out).mono ?_); (case side1 => repeat (first | exact HR0.out | (with_reducible refine Kd.C_alloc ?_ _) | (with_reducible refine Kd.C_drewN ?_ _) | (with_reducible refine Kd.C_drew ?_))); (case side2 => exact HC0.out); rintro e w' ⟨rfl, ⟨nd, rfl⟩⟩; refine ⟨_, rfl, ?_⟩; obtain ⟨i010, hi010, _, hsz10, _⟩ := info_parts info5; obtain ⟨A10, hcut10, hA10, hC10⟩ := print_mid_of (P := Try.prog) (Value.int .u8) 0 22 5 .i64 .i64 Try.underlying22 hi010 hsz10 A0 c0 l0 t103 (wrap64 (t103 + t102)) (of_decide_eq_true (by first | (with_reducible assumption) | assumption)) (by first | omega | exact of_decide_eq_true (by first | (with_reducible assumption) | assumption)) (of_decide_eq_true (by first | (with_reducible assumption) | assumption)) HC0.out; have HR105 := Aside0.mk (Kd.C_of_reads (h1 := fun _ => rfl) (hA10 _ (Kd.reads_of_C HR0.out))); have HC105 := Aside0.mk hC10; clear hA10 hC10 hi010 hsz10; have hcv11 := Kd.C_string (P := Try.prog) (A := A10) (c := (c0 - t103.toNat)) Try.underlying22 Try.underlying5 Try.underlying9 HR105.out; have hcv12 := fun n_ : Nat => Kd.C_string (P := Try.prog) (A := A10) (c := (c0 - t103.toNat)) Try.underlying22 Try.underlying5 Try.underlying9 (Kd.C_drewN HR105.out n_); have hcl13 : ((l0.take ((wrap64 (t103 + t102)) : Int).toNat).drop (t103 : Int).toNat).length = ((wrap64 (t103 + t102)) : Int).toNat - (t103 : Int).toNat := (by rw [List.length_drop, List.length_take]; omega); have hcvhcl13a := Kd.C_string (P := Try.prog) (A := A10) (c := (c0 - t103.toNat)) Try.underlying22 Try.underlying5 Try.underlying9 HR105.out; simp only [hcl13] at hcvhcl13a; have hcvhcl13b := fun n_ : Nat => Kd.C_string (P := Try.prog) (A := A10) (c := (c0 - t103.toNat)) Try.underlying22 Try.underlying5 Try.underlying9 (Kd.C_drewN HR105.out n_); simp only [hcl13] at hcvhcl13b))
              go_ret3
              exact ⟨by first | rfl | (simp; done) | (simp [*]; done), by repeat (first | exact Drawn0.refl _ | apply Drawn0.step)⟩
            · rw [if_neg c9] at H
              exact absurd H (by simp)
          · rw [if_neg c8] at H
            exact absurd H (by simp)
        · rw [if_neg c7] at H
          exact absurd H (by simp)
  · replace c4 := Bool.eq_false_iff.mpr c4
    subst c4
    have H1 : (some ((⟨#[]⟩ : ByteArray), 0, false)) = some (r1, r2, r3) := by rw [if_neg (show ¬ (false = true) by decide)] at H; exact H
    clear H
    have H := H1
    clear H1
    simp only [Option.some.injEq, Prod.mk.injEq] at H
    obtain ⟨rfl, rfl, rfl⟩ := H
    go_enter Try.func25, Try.ntmps25
    go_wp2_with (first | ((with_reducible refine gate_callee (f := 74) rfl ?_); refine goesL_ (some 13) rfl rfl Try.func74 (by kernel_rfl) rfl #[.slice A0 l0.length c0, .int .i64 a1] rfl (by (try simp only [List.map_toArray, List.map_cons, List.map_nil]); first | done | rfl | (simp only [List.length_drop, List.length_take]; rfl)) ?_; (with_reducible refine (spec_GetNum.calls k _ _ l0 a1 t102 t103 false _ ?side1 ?side2 A3.out).mono ?_); (case side1 => repeat (first | exact HR0.out | (with_reducible refine Kd.C_alloc ?_ _) | (with_reducible refine Kd.C_drewN ?_ _) | (with_reducible refine Kd.C_drew ?_))); (case side2 => exact HC0.out); rintro e w' ⟨rfl, ⟨nd, rfl⟩⟩; refine ⟨_, rfl, ?_⟩))
    go_ret3
    exact ⟨by first | rfl | (simp; done) | (simp [*]; done), by repeat (first | exact Drawn0.refl _ | apply Drawn0.step)⟩

/-! ### laws_toByteS: function 26 -/
def laws_toByteS.l0 : Nat → List Int → List Int → Int → Option (List Int)
  | 0, _, _, _ => none
  | k + 1, x0, x3, x4 => if x4 < (x0.length : Int) then (if 0 ≤ x4 then (if x4 < (x3.length : Int) then (laws_toByteS.l0 k x0 (x3.set (x4 : Int).toNat (rd x0 x4)) (wrap64 (x4 + 1))) else (none)) else (none)) else (some x3)
def laws_toByteS.f (k : Nat) (l0 : List Int) : Option (List Int) := if 0 ≤ (l0.length : Int) then (if ((l0.length : Int) : Int).toNat ≤ 281474976710656 then (laws_toByteS.l0 k l0 (List.replicate ((l0.length : Int) : Int).toNat 0) 0) else (none)) else (none)
theorem laws_toByteS.mono_l : ∀ k, (∀ y0 y1 y2, LeO (laws_toByteS.l0 k y0 y1 y2) (laws_toByteS.l0 (k + 1) y0 y1 y2))
  | 0 => fun _ _ _ r h => by simp [laws_toByteS.l0] at h
  | k + 1 => by
    have ih0 := laws_toByteS.mono_l k
    · intro y0 y1 y2
      unfold laws_toByteS.l0
      repeat' first
      | (with_reducible exact ih0 _ _ _)
      | (with_reducible exact LeO.refl _)
      | (with_reducible exact LeO.none _)
      | (with_reducible refine LeO.ite ?_ ?_)
      | (with_reducible refine LeO.bind ?_ (fun _ => ?_))
      | exact ih0 _ _ _
      | exact LeO.none _
      | refine LeO.ite ?_ ?_
      | refine LeO.bind ?_ (fun _ => ?_)
theorem laws_toByteS.mono : ∀ a0 k, LeO (laws_toByteS.f k a0) (laws_toByteS.f (k + 1) a0) := by
  intro a0 k
  have ih0 := laws_toByteS.mono_l k
  unfold laws_toByteS.f
  repeat' first
      | (with_reducible exact ih0 _ _ _)
      | (with_reducible exact LeO.refl _)
      | (with_reducible exact LeO.none _)
      | (with_reducible refine LeO.ite ?_ ?_)
      | (with_reducible refine LeO.bind ?_ (fun _ => ?_))
      | exact ih0 _ _ _
      | exact LeO.none _
      | refine LeO.ite ?_ ?_
      | refine LeO.bind ?_ (fun _ => ?_)
set_option maxHeartbeats 8000000 in
set_option maxRecDepth 100000 in
theorem laws_toByteS.calls (k : Nat) (A0 : Option Addr) (c0 : Nat) (l0 : List Int) (r : List Int) (w : World) (hr0 : Kd.C (Kd.int .u8) w A0 l0.length l0) (hc0 : l0.length ≤ c0) (h : laws_toByteS.f k l0 = some r) :
    Calls Try.prog 26 #[.slice A0 l0.length c0] w fun e w' => ∃ v0_ : Value, e = .returned (v0_) ∧ Kd.R (Kd.int .u8) 5 w' w.heap.size (fun _ => True) v0_ r ∧ Below w.heap.size w w' := by
  have HR0 := Aside0.mk hr0
  have HC0 := Aside0.mk hc0
  clear hr0 hc0
  have HB := Aside0.mk (Below.refl w.heap.size w)
  have H : (if 0 ≤ (l0.length : Int) then (if ((l0.length : Int) : Int).toNat ≤ 281474976710656 then (laws_toByteS.l0 k l0 (List.replicate ((l0.length : Int) : Int).toNat 0) 0) else (none)) else (none)) = some r := h
  clear h
  by_cases c2 : 0 ≤ (l0.length : Int)
  · rw [if_pos c2] at H
    have c2b0 := eq_true c2
    have c2b1 : decide (0 ≤ (l0.length : Int)) = true := decide_eq_true c2
    clear c2
    by_cases c3 : ((l0.length : Int) : Int).toNat ≤ 281474976710656
    · rw [if_pos c3] at H
      have c3b0 := eq_true c3
      have c3b1 : decide (((l0.length : Int) : Int).toNat ≤ 281474976710656) = true := decide_eq_true c3
      clear c3
      obtain ⟨y106, hy106⟩ : ∃ y_ : List Int, y_ = (List.replicate ((l0.length : Int) : Int).toNat 0) := ⟨_, rfl⟩
      replace H : (laws_toByteS.l0 k l0 y106 0) = some r := by first | (rw [hy106]; with_reducible exact H) | (have H2_ := (Option.bind_some _ _).symm.trans H; rw [hy106]; with_reducible exact H2_) | (have H2_ := (Option.bind_some _ _).symm.trans H; with_reducible exact H2_) | with_reducible exact H | (rw [hy106]; exact H) | exact H
      have Ny106 := Aside0.mk hy106
      clear hy106
      have H' := Aside0.mk H
      clear H
      go_enter Try.func26, Try.ntmps26
      go_wp2_with (first | ((with_reducible refine gate_dst (N := 7) rfl ?_); refine Kd.R_make (Kd.int .u8) _ 5 rfl (N := 7) rfl 22 _ _ rfl (l0.length : Int) rfl rfl Try.underlying22 (.int .u8 0) 1 info5 rfl (by decide) (by omega) 0 (ok := fun _ => True) (okp := fun _ => True) rfl (fun _ hk => hk) trivial (of_decide_eq_true (by first | (with_reducible assumption) | assumption)) (Nat.le_trans (Nat.mul_le_mul_right _ (of_decide_eq_true (by first | (with_reducible assumption) | assumption) : (l0.length : Int).toNat ≤ 281474976710656)) (by omega)) (Below.refl _ _) (Nat.le_refl _) ?_; intro v107 w4 ho5 hb hg_ hnew_; clear hg_ hnew_; (first | rw [← Ny106.out] at ho5 | (simp only [Int.reduceToNat] at ho5; rw [← Ny106.out] at ho5)); have n0_ := Aside0.mk (Kd.R_lower ho5 (below_size (by repeat (first | (with_reducible first | exact HB.out | apply below_alloc | apply pw_below_drewN | apply below_drew1) | exact HB.out)))); have n1_ := Aside0.mk (below_step (by repeat (first | (with_reducible first | exact HB.out | apply below_alloc | apply pw_below_drewN | apply below_drew1) | exact HB.out)) hb); clear HB; have HO108 := n0_; have HB := n1_; clear n0_ n1_; clear hb ho5))
      go_loopg [4] k (fun kq v4 w' => ∃ (x3_1 : List Int) (x4_1 : Int), v4 = .int .i64 x4_1 ∧ Aside0 (laws_toByteS.l0 kq l0 x3_1 x4_1 = some r) ∧ Aside0 (kq ≤ k) ∧ Aside0 (Kd.R (Kd.int .u8) 5 w' w.heap.size (fun _ => True) v107 x3_1) ∧ Aside0 (Below w.heap.size w w'))
      case atStart => exact ⟨(y106), (0), (by first | rfl | (simp; done) | (simp [*]; done)), H', ⟨Nat.le_refl _⟩, ⟨by (with_reducible repeat (first | apply Kd.R_alloc | apply Kd.R_drewN | apply Kd.R_drew)); exact HO108.out⟩, ⟨by repeat (first | (with_reducible first | exact HB.out | apply below_alloc | apply pw_below_drewN | apply below_drew1) | exact HB.out)⟩⟩
      case round =>
        clear H'
        try clear c2
        try clear c2b0
        try clear c2b1
        try clear p2
        try clear c3
        try clear c3b0
        try clear c3b1
        obtain ⟨x3_1, x4_1, rfl, HA, HK1, HO_3, HB⟩ := hrel
        cases gk with
        | zero => exact absurd HA.out (by simp [laws_toByteS.l0])
        | succ k1 =>
          have H := HA.out
          clear HA
          simp only [laws_toByteS.l0] at H
          by_cases c6 : x4_1 < (l0.length : Int)
          · rw [if_pos c6] at H
            have c6b0 : decide (x4_1 < (l0.length : Int)) = true := decide_eq_true c6
            clear c6
            by_cases c7 : 0 ≤ x4_1
            · rw [if_pos c7] at H
              have c7b0 : decide (0 ≤ x4_1) = true := decide_eq_true c7
              clear c7
              by_cases c8 : x4_1 < (x3_1.length : Int)
              · rw [if_pos c8] at H
                have c8b0 : decide (x4_1 < (x3_1.length : Int)) = true := decide_eq_true c8
                clear c8
                obtain ⟨y110, hy110⟩ : ∃ y_ : List Int, y_ = (x3_1.set (x4_1 : Int).toNat (rd l0 x4_1)) := ⟨_, rfl⟩
                replace H : (laws_toByteS.l0 k1 l0 y110 (wrap64 (x4_1 + 1))) = some r := by first | (rw [hy110]; with_reducible exact H) | (have H2_ := (Option.bind_some _ _).symm.trans H; rw [hy110]; with_reducible exact H2_) | (have H2_ := (Option.bind_some _ _).symm.trans H; with_reducible exact H2_) | with_reducible exact H | (rw [hy110]; exact H) | exact H
                have Ny110 := Aside0.mk hy110
                clear hy110
                have H' := Aside0.mk H
                clear H
                have p109 : 0 ≤ (x4_1 : Int) := of_decide_eq_true (by first | (with_reducible assumption) | assumption)
                have q109 : x4_1 < (l0.length : Int) := of_decide_eq_true (by first | (with_reducible assumption) | assumption)
                obtain ⟨ad109, e109, hx109_0⟩ := Kd.at_int HR0.out x4_1 p109 q109
                cases e109
                replace hx109_0 := (HB.out.cell (World.block_lt_of_cell? w _ hx109_0)).trans hx109_0
                replace p109 := eq_true p109
                replace q109 := eq_true q109
                have p9 : 0 ≤ (x4_1 : Int) := of_decide_eq_true (by first | (with_reducible assumption) | assumption)
                have q9 : (x4_1 : Int) < ((x3_1.length : Int) : Int) := of_decide_eq_true (by first | (with_reducible assumption) | assumption)
                obtain ⟨go9, co9, eo9, gb9, gl9, cl9, HG9⟩ := Kd.R_form HO_3.out (by omega)
                (first | cases eo9 | (injection eo9 with ea_ en_ ec_; (first | subst ea_ | (injection ea_ with ea_; subst ea_)); subst ec_; clear en_))
                have GB9 := Aside0.mk gb9
                have GG9 := Aside0.mk HG9
                clear gb9 gl9 HG9
                obtain ⟨hx9_0, hf9_0⟩ := Kd.R_celln 0 HO_3.out (x4_1 : Int) p9 q9
                replace p9 := eq_true p9
                replace q9 := eq_true q9
                have HP10 := Kd.R_putg HO_3.out (x4_1 : Int) (rd l0 x4_1)
                go_wp2_with (first | ((with_reducible refine gate_store (t := 5) (p := 20) rfl ?_); refine store_event (t := 5) (p := 20) (v := ?vo_w11) (w1 := (wr.setCell ⟨go9, (x4_1 : Int).toNat, none⟩ (.int .u8 (rd l0 x4_1)))) ?hg ?ho ?hn ?hr ?_; (case ho => rfl); (case hg => rfl); (case hn => rfl); (case hr => first | (go_simp; done) | (go_simp; rfl)); intro w11 hw; have hg : wr.grownBy w11 (some go9) := (by rw [hw]; exact HP10.2); have hp_ : Kd.R (Kd.int .u8) 5 w11 w.heap.size (fun _ => True) (.slice (some ⟨go9, 0, none⟩) x3_1.length co9) y110 := (by rw [hw, Ny110.out]; exact HP10.1); clear HP10; have n0_ := Aside0.mk (hp_); have n1_ := Aside0.mk ((by rw [hw]; exact below_set (HB.out) GB9.out : Below w.heap.size w w11)); clear HO_3; clear HB; have HO_3 := n0_; have HB := n1_; clear n0_ n1_; clear hg hw hp_))
                go_roundg k1
                case measure => have := HK1.out; omega
                case rel => exact ⟨(y110), (wrap64 (x4_1 + 1)), (by first | rfl | (simp; done) | (simp [*]; done)), H', ⟨by have := HK1.out; omega⟩, ⟨by (with_reducible repeat (first | apply Kd.R_alloc | apply Kd.R_drewN | apply Kd.R_drew)); exact HO_3.out⟩, ⟨by repeat (first | (with_reducible first | exact HB.out | apply below_alloc | apply pw_below_drewN | apply below_drew1) | exact HB.out)⟩⟩
              · rw [if_neg c8] at H
                exact absurd H (by simp)
            · rw [if_neg c7] at H
              exact absurd H (by simp)
          · rw [if_neg c6] at H
            have c6b0 : decide (x4_1 < (l0.length : Int)) = false := decide_eq_false c6
            clear c6
            obtain rfl := Option.some.inj H
            go_wp2
            go_ret
            exact ⟨_, by first | rfl | (simp [errW_none, errW_some] <;> rfl) | (simp [*, errW_none, errW_some] <;> rfl), by (with_reducible repeat (first | apply Kd.R_alloc | apply Kd.R_drewN | apply Kd.R_drew)); exact HO_3.out, by repeat (first | (with_reducible first | exact HB.out | apply below_alloc | apply pw_below_drewN | apply below_drew1) | exact HB.out)⟩
    · rw [if_neg c3] at H
      exact absurd H (by simp)
  · rw [if_neg c2] at H
    exact absurd H (by simp)

/-! ### impl_from: function 72 -/
def impl_from.f (a0 : Int) (a1 : Int) (a2 : Int) : Option (Bool) := if a0 ≥ a1 then (some (decide (a0 ≤ a2))) else (some false)
set_option maxHeartbeats 8000000 in
set_option maxRecDepth 100000 in
theorem impl_from.calls (a0 : Int) (a1 : Int) (a2 : Int) (r : Bool) (w : World) (h : impl_from.f a0 a1 a2 = some r) :
    Calls Try.prog 72 #[.int .i64 a0, .int .i64 a1, .int .i64 a2] w fun e w' => e = .returned (.bool r) ∧ Drawn0 w w' := by
  have H : (if a0 ≥ a1 then (some (decide (a0 ≤ a2))) else (some false)) = some r := h
  clear h
  by_cases c4 : a0 ≥ a1
  · rw [if_pos c4] at H
    have c4b0 : decide (a1 ≤ a0) = true := decide_eq_true c4
    clear c4
    obtain rfl := Option.some.inj H
    go_enter Try.func72, Try.ntmps72
    go_wp2
    go_ret
    exact ⟨by first | rfl | (simp; done) | (simp [*]; done), by repeat (first | exact Drawn0.refl _ | apply Drawn0.step)⟩
  · rw [if_neg c4] at H
    have c4b0 : decide (a1 ≤ a0) = false := decide_eq_false c4
    clear c4
    obtain rfl := Option.some.inj H
    go_enter Try.func72, Try.ntmps72
    go_wp2
    go_ret
    exact ⟨by first | rfl | (simp; done) | (simp [*]; done), by repeat (first | exact Drawn0.refl _ | apply Drawn0.step)⟩

/-! ### impl_scanNum: function 73 -/
mutual
def impl_scanNum.l0 : Nat → List Int → Int → Int → Int → Option (Int × Int × Bool × Bool)
  | 0, _, _, _, _ => none
  | k + 1, x0, x1, x8, x12 => if x12 < 10 then (if (wrap64 (x1 + x12)) ≥ (x0.length : Int) then (some (0, 0, false, true)) else (if 0 ≤ (wrap64 (x1 + x12)) then (if (wrap64 (x1 + x12)) < (x0.length : Int) then (if x12 = 9 then (impl_scanNum.j1 k x0 x1 x8 x12 (rd x0 (wrap64 (x1 + x12))) x12 (decide ((rd x0 (wrap64 (x1 + x12))) > 1))) else (impl_scanNum.j1 k x0 x1 x8 x12 (rd x0 (wrap64 (x1 + x12))) x12 false)) else (none)) else (none))) else (some (0, 0, false, false))
def impl_scanNum.j1 : Nat → List Int → Int → Int → Int → Int → Int → Bool → Option (Int × Int × Bool × Bool)
  | 0, _, _, _, _, _, _, _ => none
  | k + 1, x0, x1, x8, x9, x10, x12, x32 => if x32 = true then (some (0, 0, false, false)) else (if 0 ≤ (wrap64 (7 * x9)) then (if x10 < 128 then (if x10 > 0 then (some (wrap64 (Go.bits .or .u64 x8 (shl .u64 (IntKind.u64.wrap (Int.tmod x10 128)) (wrap64 (7 * x9)))), wrap64 ((wrap64 (x1 + x9)) + 1), true, false)) else (some (wrap64 (Go.bits .or .u64 x8 (shl .u64 (IntKind.u64.wrap (Int.tmod x10 128)) (wrap64 (7 * x9)))), wrap64 ((wrap64 (x1 + x9)) + 1), (x9 == 0), false))) else (impl_scanNum.l0 k x0 x1 (Go.bits .or .u64 x8 (shl .u64 (IntKind.u64.wrap (Int.tmod x10 128)) (wrap64 (7 * x9)))) (wrap64 (x12 + 1)))) else (none))
end
def impl_scanNum.f (k : Nat) (l0 : List Int) (a1 : Int) : Option (Int × Int × Bool × Bool) := impl_scanNum.l0 k l0 a1 0 0
theorem impl_scanNum.mono_l : ∀ k, (∀ y0 y1 y2 y3, LeO (impl_scanNum.l0 k y0 y1 y2 y3) (impl_scanNum.l0 (k + 1) y0 y1 y2 y3)) ∧ (∀ y0 y1 y2 y3 y4 y5 y6, LeO (impl_scanNum.j1 k y0 y1 y2 y3 y4 y5 y6) (impl_scanNum.j1 (k + 1) y0 y1 y2 y3 y4 y5 y6))
  | 0 => ⟨fun _ _ _ _ r h => by simp [impl_scanNum.l0] at h, fun _ _ _ _ _ _ _ r h => by simp [impl_scanNum.j1] at h⟩
  | k + 1 => by
    obtain ⟨ih0, ih1⟩ := impl_scanNum.mono_l k
    refine ⟨?_, ?_⟩
    · intro y0 y1 y2 y3
      unfold impl_scanNum.l0
      repeat' first
      | (with_reducible exact ih0 _ _ _ _)
      | (with_reducible exact ih1 _ _ _ _ _ _ _)
      | (with_reducible exact LeO.refl _)
      | (with_reducible exact LeO.none _)
      | (with_reducible refine LeO.ite ?_ ?_)
      | (with_reducible refine LeO.bind ?_ (fun _ => ?_))
      | exact ih0 _ _ _ _
      | exact ih1 _ _ _ _ _ _ _
      | exact LeO.none _
      | refine LeO.ite ?_ ?_
      | refine LeO.bind ?_ (fun _ => ?_)
    · intro y0 y1 y2 y3 y4 y5 y6
      unfold impl_scanNum.j1
      repeat' first
      | (with_reducible exact ih0 _ _ _ _)
      | (with_reducible exact ih1 _ _ _ _ _ _ _)
      | (with_reducible exact LeO.refl _)
      | (with_reducible exact LeO.none _)
      | (with_reducible refine LeO.ite ?_ ?_)
      | (with_reducible refine LeO.bind ?_ (fun _ => ?_))
      | exact ih0 _ _ _ _
      | exact ih1 _ _ _ _ _ _ _
      | exact LeO.none _
      | refine LeO.ite ?_ ?_
      | refine LeO.bind ?_ (fun _ => ?_)
theorem impl_scanNum.mono : ∀ a0 a1 k, LeO (impl_scanNum.f k a0 a1) (impl_scanNum.f (k + 1) a0 a1) := by
  intro a0 a1 k
  obtain ⟨ih0, ih1⟩ := impl_scanNum.mono_l k
  unfold impl_scanNum.f
  repeat' first
      | (with_reducible exact ih0 _ _ _ _)
      | (with_reducible exact ih1 _ _ _ _ _ _ _)
      | (with_reducible exact LeO.refl _)
      | (with_reducible exact LeO.none _)
      | (with_reducible refine LeO.ite ?_ ?_)
      | (with_reducible refine LeO.bind ?_ (fun _ => ?_))
      | exact ih0 _ _ _ _
      | exact ih1 _ _ _ _ _ _ _
      | exact LeO.none _
      | refine LeO.ite ?_ ?_
      | refine LeO.bind ?_ (fun _ => ?_)
set_option maxHeartbeats 8000000 in
set_option maxRecDepth 100000 in
theorem impl_scanNum.calls (k : Nat) (A0 : Option Addr) (c0 : Nat) (l0 : List Int) (a1 : Int) (r1 : Int) (r2 : Int) (r3 : Bool) (r4 : Bool) (w : World) (hr0 : Kd.C (Kd.int .u8) w A0 l0.length l0) (hc0 : l0.length ≤ c0) (h : impl_scanNum.f k l0 a1 = some (r1, r2, r3, r4)) :
    Calls Try.prog 73 #[.slice A0 l0.length c0, .int .i64 a1] w fun e w' => e = .returned (.tuple #[.int .i64 r1, .int .i64 r2, .bool r3, .bool r4]) ∧ Drawn0 w w' := by
  have HR0 := Aside0.mk hr0
  have HC0 := Aside0.mk hc0
  clear hr0 hc0
  have H : (impl_scanNum.l0 k l0 a1 0 0) = some (r1, r2, r3, r4) := h
  clear h
  have H' := Aside0.mk H
  clear H
  go_enter Try.func73, Try.ntmps73
  go_wp2
  go_loopg [8, 12] k (fun kq v8 v12 w' => ∃ (x8_1 : Int) (x12_1 : Int), v8 = .int .u64 x8_1 ∧ v12 = .int .i64 x12_1 ∧ Aside0 (impl_scanNum.l0 kq l0 a1 x8_1 x12_1 = some (r1, r2, r3, r4)) ∧ Aside0 (kq ≤ k) ∧ Drawn0 w w')
  case atStart => exact ⟨(0), (0), (by first | rfl | (simp; done) | (simp [*]; done)), (by first | rfl | (simp; done) | (simp [*]; done)), H', ⟨Nat.le_refl _⟩, by repeat (first | exact Drawn0.refl _ | apply Drawn0.step)⟩
  case round =>
    clear H'
    try clear p2
    obtain ⟨x8_1, x12_1, rfl, rfl, HA, HK1, ⟨m1, rfl⟩⟩ := hrel
    cases gk with
    | zero => exact absurd HA.out (by simp [impl_scanNum.l0])
    | succ k1 =>
      have H := HA.out
      clear HA
      simp only [impl_scanNum.l0] at H
      by_cases c3 : x12_1 < 10
      · rw [if_pos c3] at H
        have c3b0 : decide (x12_1 < 10) = true := decide_eq_true c3
        clear c3
        by_cases c4 : (wrap64 (a1 + x12_1)) ≥ (l0.length : Int)
        · rw [if_pos c4] at H
          have c4b0 : decide ((l0.length : Int) ≤ (wrap64 (a1 + x12_1))) = true := decide_eq_true c4
          clear c4
          simp only [Option.some.injEq, Prod.mk.injEq] at H
          obtain ⟨rfl, rfl, rfl, rfl⟩ := H
          go_wp2
          refine bodyPost_ret (results_list (rs := [.tmp 4, .tmp 5, .tmp 6, .tmp 7]) rfl (by simp) (.tmp (.tmp (.tmp (.tmp .nil))))) rfl ?_
          exact ⟨by first | rfl | (simp; done) | (simp [*]; done), by repeat (first | exact Drawn0.refl _ | apply Drawn0.step)⟩
        · rw [if_neg c4] at H
          have c4b0 : decide ((l0.length : Int) ≤ (wrap64 (a1 + x12_1))) = false := decide_eq_false c4
          clear c4
          obtain ⟨ji5, hji5⟩ : ∃ j_ : Int, (wrap64 (a1 + x12_1)) = j_ := ⟨_, rfl⟩
          replace H : (if 0 ≤ (ji5) then (if (ji5) < (l0.length : Int) then (if x12_1 = 9 then (impl_scanNum.j1 k1 l0 a1 x8_1 x12_1 (rd l0 (ji5)) x12_1 (decide ((rd l0 (ji5)) > 1))) else (impl_scanNum.j1 k1 l0 a1 x8_1 x12_1 (rd l0 (ji5)) x12_1 false)) else (none)) else (none)) = some (r1, r2, r3, r4) := by first | (rw [hji5] at H; exact H) | (simp only [hji5] at H ⊢; exact H)
          (try rw [hji5] at c4b0)
          have hji5w : (IntKind.i64.wrap (a1 + x12_1)) = ji5 := (i64_w _).trans hji5
          by_cases c6 : 0 ≤ (ji5)
          · rw [if_pos c6] at H
            have c6b0 : decide (0 ≤ (ji5)) = true := decide_eq_true c6
            clear c6
            by_cases c7 : (ji5) < (l0.length : Int)
            · rw [if_pos c7] at H
              have c7b0 : decide ((ji5) < (l0.length : Int)) = true := decide_eq_true c7
              clear c7
              have HC8 := Aside0.mk H
              clear H
              have p111 : 0 ≤ ((ji5) : Int) := of_decide_eq_true (by first | (with_reducible assumption) | assumption)
              have q111 : (ji5) < (l0.length : Int) := of_decide_eq_true (by first | (with_reducible assumption) | assumption)
              obtain ⟨ad111, e111, hx111_0⟩ := Kd.at_int HR0.out (ji5) p111 q111
              cases e111
              replace p111 := eq_true p111
              replace q111 := eq_true q111
              go_upto_region 8 with (fail)
              go_cut [32] (fun v32 wc => ∃ (kq : Nat) (x32_7 : Bool), v32 = .bool x32_7 ∧ Aside0 (impl_scanNum.j1 kq l0 a1 x8_1 x12_1 (rd l0 (ji5)) x12_1 x32_7 = some (r1, r2, r3, r4)) ∧ Aside0 (kq ≤ k1) ∧ Drawn0 w wc)
              case first =>
                have H := HC8.out
                clear HC8
                by_cases c9 : x12_1 = 9
                · rw [if_pos c9] at H
                  have c9b0 : (x12_1 == 9) = true := beq_iff_eq.mpr c9
                  have c9b1 : (x12_1 != 9) = false := bne_eq_false_iff_eq.mpr c9
                  clear c9
                  (first | rw [c9b0] | (simp only [i64_w, i32_w]; rw [c9b0]) | skip)
                  have H' := Aside0.mk H
                  clear H
                  go_wp2
                  go_meet
                  case rel => exact ⟨_, (decide ((rd l0 (ji5)) > 1)), (by first | rfl | (simp; done) | (simp only [← hji5] <;> (first | rfl | simp)) | (simp [*]; done)), H', ⟨by have := HK1.out; first | omega | exact Nat.le_refl _⟩, by repeat (first | exact Drawn0.refl _ | apply Drawn0.step)⟩
                · rw [if_neg c9] at H
                  have c9b0 : (x12_1 == 9) = false := beq_eq_false_iff_ne.mpr c9
                  have c9b1 : (x12_1 != 9) = true := bne_iff_ne.mpr c9
                  (first | rw [c9b0] | (simp only [i64_w, i32_w]; rw [c9b0]) | skip)
                  have H' := Aside0.mk H
                  clear H
                  go_wp2
                  go_meet
                  case rel => exact ⟨_, (false), (by first | rfl | (simp; done) | (simp [*]; done)), H', ⟨by have := HK1.out; first | omega | exact Nat.le_refl _⟩, by repeat (first | exact Drawn0.refl _ | apply Drawn0.step)⟩
              case rest =>
                clear HC8
                try clear p1
                try clear q1
                try clear hx1
                try clear p2
                try clear c3
                try clear c3b0
                try clear c4
                try clear c4b0
                try clear c6
                try clear c6b0
                try clear p6
                try clear c7
                try clear c7b0
                try clear c9
                try clear c9b0
                try clear c9b1
                try clear hx111_0
                try clear p111
                try clear p2
                try clear q111
                obtain ⟨kq, x32_7, rfl, HA, HJ7, ⟨mc7, rfl⟩⟩ := hcut
                cases kq with
                | zero => exact absurd HA.out (by simp [impl_scanNum.j1])
                | succ kj7 =>
                  have H := HA.out
                  clear HA
                  simp only [impl_scanNum.j1] at H
                  by_cases c10 : x32_7 = true
                  · subst c10
                    have H1 : (some (0, 0, false, false)) = some (r1, r2, r3, r4) := by rw [if_pos rfl] at H; exact H
                    clear H
                    have H := H1
                    clear H1
                    simp only [Option.some.injEq, Prod.mk.injEq] at H
                    obtain ⟨rfl, rfl, rfl, rfl⟩ := H
                    go_wp2
                    refine bodyPost_ret (results_list (rs := [.tmp 4, .tmp 5, .tmp 6, .tmp 7]) rfl (by simp) (.tmp (.tmp (.tmp (.tmp .nil))))) rfl ?_
                    exact ⟨by first | rfl | (simp; done) | (simp only [← hji5] <;> (first | rfl | simp)) | (simp [*]; done), by repeat (first | exact Drawn0.refl _ | apply Drawn0.step)⟩
                  · replace c10 := Bool.eq_false_iff.mpr c10
                    subst c10
                    have H1 : (if 0 ≤ (wrap64 (7 * x12_1)) then (if (rd l0 (ji5)) < 128 then (if (rd l0 (ji5)) > 0 then (some (wrap64 (Go.bits .or .u64 x8_1 (shl .u64 (IntKind.u64.wrap (Int.tmod (rd l0 (ji5)) 128)) (wrap64 (7 * x12_1)))), wrap64 ((wrap64 (a1 + x12_1)) + 1), true, false)) else (some (wrap64 (Go.bits .or .u64 x8_1 (shl .u64 (IntKind.u64.wrap (Int.tmod (rd l0 (ji5)) 128)) (wrap64 (7 * x12_1)))), wrap64 ((wrap64 (a1 + x12_1)) + 1), (x12_1 == 0), false))) else (impl_scanNum.l0 kj7 l0 a1 (Go.bits .or .u64 x8_1 (shl .u64 (IntKind.u64.wrap (Int.tmod (rd l0 (ji5)) 128)) (wrap64 (7 * x12_1)))) (wrap64 (x12_1 + 1)))) else (none)) = some (r1, r2, r3, r4) := by rw [if_neg (show ¬ (false = true) by decide)] at H; exact H
                    clear H
                    have H := H1
                    clear H1
                    obtain ⟨ji11, hji11⟩ : ∃ j_ : Int, (wrap64 (7 * x12_1)) = j_ := ⟨_, rfl⟩
                    replace H : (if 0 ≤ (ji11) then (if (rd l0 (ji5)) < 128 then (if (rd l0 (ji5)) > 0 then (some (wrap64 (Go.bits .or .u64 x8_1 (shl .u64 (IntKind.u64.wrap (Int.tmod (rd l0 (ji5)) 128)) (ji11))), wrap64 ((wrap64 (a1 + x12_1)) + 1), true, false)) else (some (wrap64 (Go.bits .or .u64 x8_1 (shl .u64 (IntKind.u64.wrap (Int.tmod (rd l0 (ji5)) 128)) (ji11))), wrap64 ((wrap64 (a1 + x12_1)) + 1), (x12_1 == 0), false))) else (impl_scanNum.l0 kj7 l0 a1 (Go.bits .or .u64 x8_1 (shl .u64 (IntKind.u64.wrap (Int.tmod (rd l0 (ji5)) 128)) (ji11))) (wrap64 (x12_1 + 1)))) else (none)) = some (r1, r2, r3, r4) := by first | (rw [hji11] at H; exact H) | (simp only [hji11] at H ⊢; exact H)
                    have hji11w : (IntKind.i64.wrap (7 * x12_1)) = ji11 := (i64_w _).trans hji11
                    by_cases c12 : 0 ≤ (ji11)
                    · rw [if_pos c12] at H
                      have c12b0 := eq_true c12
                      have c12b1 : decide (0 ≤ (ji11)) = true := decide_eq_true c12
                      clear c12
                      obtain ⟨ji13, hji13⟩ : ∃ j_ : Int, (shl .u64 (IntKind.u64.wrap (Int.tmod (rd l0 (ji5)) 128)) (ji11)) = j_ := ⟨_, rfl⟩
                      replace H : (if (rd l0 (ji5)) < 128 then (if (rd l0 (ji5)) > 0 then (some (wrap64 (Go.bits .or .u64 x8_1 (ji13)), wrap64 ((wrap64 (a1 + x12_1)) + 1), true, false)) else (some (wrap64 (Go.bits .or .u64 x8_1 (ji13)), wrap64 ((wrap64 (a1 + x12_1)) + 1), (x12_1 == 0), false))) else (impl_scanNum.l0 kj7 l0 a1 (Go.bits .or .u64 x8_1 (ji13)) (wrap64 (x12_1 + 1)))) = some (r1, r2, r3, r4) := by first | (rw [hji13] at H; exact H) | (simp only [hji13] at H ⊢; exact H)
                      have hji13_ : (IntKind.u64.wrap ((IntKind.u64.wrap (Int.tmod (rd l0 (ji5)) 128)) * 2 ^ min (ji11).toNat 64)) = ji13 := hji13
                      have hji13z : (ji11) ≤ 64 → (IntKind.u64.wrap ((IntKind.u64.wrap (Int.tmod (rd l0 (ji5)) 128)) * 2 ^ (ji11).toNat)) = ji13 := shl_small hji13
                      by_cases c14 : (rd l0 (ji5)) < 128
                      · rw [if_pos c14] at H
                        have c14b0 : decide ((rd l0 (ji5)) < 128) = true := decide_eq_true c14
                        clear c14
                        by_cases c15 : (rd l0 (ji5)) > 0
                        · rw [if_pos c15] at H
                          have c15b0 : decide (0 < (rd l0 (ji5))) = true := decide_eq_true c15
                          clear c15
                          simp only [Option.some.injEq, Prod.mk.injEq] at H
                          obtain ⟨rfl, rfl, rfl, rfl⟩ := H
                          go_wp2
                          refine bodyPost_ret (results_list (rs := [.tmp 4, .tmp 5, .tmp 6, .tmp 7]) rfl (by simp) (.tmp (.tmp (.tmp (.tmp .nil))))) rfl ?_
                          exact ⟨by first | rfl | (simp; done) | (simp only [← hji5, ← hji11, ← hji13] <;> (first | rfl | simp)) | (simp [*]; done), by repeat (first | exact Drawn0.refl _ | apply Drawn0.step)⟩
                        · rw [if_neg c15] at H
                          have c15b0 : decide (0 < (rd l0 (ji5))) = false := decide_eq_false c15
                          clear c15
                          simp only [Option.some.injEq, Prod.mk.injEq] at H
                          obtain ⟨rfl, rfl, rfl, rfl⟩ := H
                          go_wp2
                          refine bodyPost_ret (results_list (rs := [.tmp 4, .tmp 5, .tmp 6, .tmp 7]) rfl (by simp) (.tmp (.tmp (.tmp (.tmp .nil))))) rfl ?_
                          exact ⟨by first | rfl | (simp; done) | (simp only [← hji5, ← hji11, ← hji13] <;> (first | rfl | simp)) | (simp [*]; done), by repeat (first | exact Drawn0.refl _ | apply Drawn0.step)⟩
                      · rw [if_neg c14] at H
                        have c14b0 : decide ((rd l0 (ji5)) < 128) = false := decide_eq_false c14
                        clear c14
                        have H' := Aside0.mk H
                        clear H
                        go_wp2
                        go_roundg kj7
                        case measure => have := HK1.out; have := HJ7.out; omega
                        case rel => exact ⟨(Go.bits .or .u64 x8_1 (ji13)), (wrap64 (x12_1 + 1)), (by first | rfl | (simp; done) | (simp only [← hji13] <;> (first | rfl | simp)) | (simp [*]; done)), (by first | rfl | (simp; done) | (simp [*]; done)), H', ⟨by have := HK1.out; have := HJ7.out; omega⟩, by repeat (first | exact Drawn0.refl _ | apply Drawn0.step)⟩
                    · rw [if_neg c12] at H
                      exact absurd H (by simp)
            · rw [if_neg c7] at H
              exact absurd H (by simp)
          · rw [if_neg c6] at H
            exact absurd H (by simp)
      · rw [if_neg c3] at H
        have c3b0 : decide (x12_1 < 10) = false := decide_eq_false c3
        clear c3
        simp only [Option.some.injEq, Prod.mk.injEq] at H
        obtain ⟨rfl, rfl, rfl, rfl⟩ := H
        go_wp2
        refine bodyPost_ret (results_list (rs := [.tmp 4, .tmp 5, .tmp 6, .tmp 7]) rfl (by simp) (.tmp (.tmp (.tmp (.tmp .nil))))) rfl ?_
        exact ⟨by first | rfl | (simp; done) | (simp [*]; done), by repeat (first | exact Drawn0.refl _ | apply Drawn0.step)⟩

end Go.Proofs.Ytkmochomdeomhaa.QFnExactGetText
