-- Written by a program of this session (wip/myprint.py); Lean checks it.
import Derived.Test.YtigmadccchofiaaQFnExactUnframex0
import Derived.Test.YtigmadccchofiaaQFnExactUnframex1
namespace Go.Proofs.Ytigmadccchofiaa.QFnExactUnframe
open Go.RowKit Go.Proofs.YtigmadccchofiaaW.PrintWords Go.Proofs.YtigmadccchofiaaW.PrintLast Go.Proofs.YtigmadccchofiaaW.PrintMore
attribute [local go_sem] max2_int min2_int max_two min_two max_three min_three max_four min_four   -- for this text's walks alone
set_option linter.unusedVariables false
set_option linter.unusedSimpArgs false

attribute [local go_sem] isSome_setCell
/-! ### impl_Unframe: function 38 -/
def impl_Unframe.j0 : Nat → List Int → Int → Int → Int → Bool → Option (List Int × Int × Int)
  | 0, _, _, _, _, _ => none
  | k + 1, x0, x1, x7, x8, x36 => if x36 = true then (some (([] : List Int), x1, 3)) else (if (wrap64 (x7 + 4)) > (wrap64 ((x0.length : Int) - x8)) then (some (([] : List Int), x1, 2)) else (if 0 ≤ x8 then (if x8 ≤ (wrap64 (x8 + x7)) then (if (wrap64 (x8 + x7)) ≤ (x0.length : Int) then ((impl_Frame.f k ((x0.take ((wrap64 (x8 + x7)) : Int).toNat).drop (x8 : Int).toNat)).bind fun t143 => (if 0 ≤ x1 then (if x1 ≤ (wrap64 ((wrap64 (x8 + x7)) + 4)) then (if (wrap64 ((wrap64 (x8 + x7)) + 4)) ≤ (x0.length : Int) then ((slices_Equal_byte_byte.f k t143 ((x0.take ((wrap64 ((wrap64 (x8 + x7)) + 4)) : Int).toNat).drop (x1 : Int).toNat)).bind fun t147 => (if t147 = true then ((slices_Clone_byte_byte.f ((x0.take ((wrap64 (x8 + x7)) : Int).toNat).drop (x8 : Int).toNat)).bind fun t148 => (some (t148, wrap64 ((wrap64 (x8 + x7)) + 4), 0))) else (some (([] : List Int), x1, 3)))) else (none)) else (none)) else (none))) else (none)) else (none)) else (none)))
def impl_Unframe.f (k : Nat) (l0 : List Int) (a1 : Int) : Option (List Int × Int × Int) := if a1 = (l0.length : Int) then (some (([] : List Int), a1, 1)) else ((impl_from.f a1 0 (l0.length : Int)).bind fun t136 => (if t136 = true then ((impl_scanNum.f k l0 a1).bind fun bt137 => (if bt137.2.2.2 = true then (some (([] : List Int), a1, 2)) else (if bt137.2.2.1 = true then ((impl_from.f bt137.1 0 20000).bind fun t141 => (impl_Unframe.j0 k l0 a1 bt137.1 bt137.2.1 (!t141))) else (impl_Unframe.j0 k l0 a1 bt137.1 bt137.2.1 true)))) else (some (([] : List Int), a1, 3))))
theorem impl_Unframe.mono_l : ∀ k, (∀ y0 y1 y2 y3 y4, LeO (impl_Unframe.j0 k y0 y1 y2 y3 y4) (impl_Unframe.j0 (k + 1) y0 y1 y2 y3 y4))
  | 0 => fun _ _ _ _ _ r h => by simp [impl_Unframe.j0] at h
  | k + 1 => by
    have ih0 := impl_Unframe.mono_l k
    · intro y0 y1 y2 y3 y4
      unfold impl_Unframe.j0
      repeat' first
      | (with_reducible exact ih0 _ _ _ _ _)
      | (with_reducible exact impl_Frame.mono _ _)
      | (with_reducible exact impl_scanNum.mono _ _ _)
      | (with_reducible exact slices_Equal_byte_byte.mono _ _ _)
      | (with_reducible exact LeO.refl _)
      | (with_reducible exact LeO.none _)
      | (with_reducible refine LeO.ite ?_ ?_)
      | (with_reducible refine LeO.bind ?_ (fun _ => ?_))
      | exact ih0 _ _ _ _ _
      | exact impl_Frame.mono _ _
      | exact impl_scanNum.mono _ _ _
      | exact slices_Equal_byte_byte.mono _ _ _
      | exact LeO.none _
      | refine LeO.ite ?_ ?_
      | refine LeO.bind ?_ (fun _ => ?_)
theorem impl_Unframe.mono : ∀ a0 a1 k, LeO (impl_Unframe.f k a0 a1) (impl_Unframe.f (k + 1) a0 a1) := by
  intro a0 a1 k
  have ih0 := impl_Unframe.mono_l k
  unfold impl_Unframe.f
  repeat' first
      | (with_reducible exact ih0 _ _ _ _ _)
      | (with_reducible exact impl_Frame.mono _ _)
      | (with_reducible exact impl_scanNum.mono _ _ _)
      | (with_reducible exact slices_Equal_byte_byte.mono _ _ _)
      | (with_reducible exact LeO.refl _)
      | (with_reducible exact LeO.none _)
      | (with_reducible refine LeO.ite ?_ ?_)
      | (with_reducible refine LeO.bind ?_ (fun _ => ?_))
      | exact ih0 _ _ _ _ _
      | exact impl_Frame.mono _ _
      | exact impl_scanNum.mono _ _ _
      | exact slices_Equal_byte_byte.mono _ _ _
      | exact LeO.none _
      | refine LeO.ite ?_ ?_
      | refine LeO.bind ?_ (fun _ => ?_)
def impl_Unframe.T13 : Bool × List (List Nat × List Nat) := (true, [([], []), ([0], [0]), ([], []), ([], []), ([], []), ([], []), ([4, 5], [4, 5]), ([6], [6]), ([2, 3, 7], [2, 3, 7]), ([1, 8, 1], [1, 8]), ([9], [9])])
def impl_Unframe.B13 : List Nat := [0, 1, 0, 0, 0, 0, 48, 112, 252, 511, 1023]
theorem impl_Unframe.tab13 : rtab .any (opsOf Try.f38 13) = impl_Unframe.T13 := by kernel_rfl
theorem impl_Unframe.bits13 : waitsOk impl_Unframe.T13.2 impl_Unframe.B13 = true := by kernel_rfl
set_option maxHeartbeats 8000000 in
set_option maxRecDepth 100000 in
theorem impl_Unframe.calls (k : Nat) (A0 : Option Addr) (c0 : Nat) (l0 : List Int) (a1 : Int) (r1 : List Int) (r2 : Int) (r3 : Int) (w : World) (hr0 : Kd.C (Kd.int .u8) w A0 l0.length l0) (hc0 : l0.length ≤ c0) (h : impl_Unframe.f k l0 a1 = some (r1, r2, r3)) :
    Calls Try.prog 38 #[.slice A0 l0.length c0, .int .i64 a1] w fun e w' => ∃ v0_ : Value, e = .returned (.tuple #[v0_, .int .i64 r2, .int .i64 r3]) ∧ Kd.R (Kd.int .u8) 5 w' w.heap.size (fun _ => True) v0_ r1 ∧ Below w.heap.size w w' := by
  have HR0 := Aside0.mk hr0
  have HC0 := Aside0.mk hc0
  clear hr0 hc0
  have HB := Aside0.mk (Below.refl w.heap.size w)
  have H : (if a1 = (l0.length : Int) then (some (([] : List Int), a1, 1)) else ((impl_from.f a1 0 (l0.length : Int)).bind fun t136 => (if t136 = true then ((impl_scanNum.f k l0 a1).bind fun bt137 => (if bt137.2.2.2 = true then (some (([] : List Int), a1, 2)) else (if bt137.2.2.1 = true then ((impl_from.f bt137.1 0 20000).bind fun t141 => (impl_Unframe.j0 k l0 a1 bt137.1 bt137.2.1 (!t141))) else (impl_Unframe.j0 k l0 a1 bt137.1 bt137.2.1 true)))) else (some (([] : List Int), a1, 3))))) = some (r1, r2, r3) := h
  clear h
  by_cases c3 : a1 = (l0.length : Int)
  · rw [if_pos c3] at H
    have c3b0 : (a1 == (l0.length : Int)) = true := beq_iff_eq.mpr c3
    have c3b1 : (a1 != (l0.length : Int)) = false := bne_eq_false_iff_eq.mpr c3
    clear c3
    simp only [Option.some.injEq, Prod.mk.injEq] at H
    obtain ⟨rfl, rfl, rfl⟩ := H
    go_enter Try.func38, Try.ntmps38
    go_wp2
    go_ret3
    exact ⟨_, by first | rfl | (simp [errW_none, errW_some] <;> rfl) | (simp [*, errW_none, errW_some] <;> rfl), by first | exact Kd.R_nil _ _ _ _ _ | exact Kd.N_nil _ _ _ _ _ | exact Kd.V_nil _ _ _ _ _ | exact Kd.Q_nil _ _ _ _ _ | exact Kd.S_nil _ _ _ _ _, by repeat (first | (with_reducible first | exact HB.out | apply below_alloc | apply pw_below_drewN | apply below_drew1) | exact HB.out)⟩
  · rw [if_neg c3] at H
    have c3b0 : (a1 == (l0.length : Int)) = false := beq_eq_false_iff_ne.mpr c3
    have c3b1 : (a1 != (l0.length : Int)) = true := bne_iff_ne.mpr c3
    replace H := Option.bind_eq_some_iff.mp H
    obtain ⟨t136, A40, H⟩ := H
    replace H : (if t136 = true then ((impl_scanNum.f k l0 a1).bind fun bt137 => (if bt137.2.2.2 = true then (some (([] : List Int), a1, 2)) else (if bt137.2.2.1 = true then ((impl_from.f bt137.1 0 20000).bind fun t141 => (impl_Unframe.j0 k l0 a1 bt137.1 bt137.2.1 (!t141))) else (impl_Unframe.j0 k l0 a1 bt137.1 bt137.2.1 true)))) else (some (([] : List Int), a1, 3))) = some (r1, r2, r3) := H
    have A4 := Aside0.mk A40
    clear A40
    by_cases c5 : t136 = true
    · subst c5
      have H1 : ((impl_scanNum.f k l0 a1).bind fun bt137 => (if bt137.2.2.2 = true then (some (([] : List Int), a1, 2)) else (if bt137.2.2.1 = true then ((impl_from.f bt137.1 0 20000).bind fun t141 => (impl_Unframe.j0 k l0 a1 bt137.1 bt137.2.1 (!t141))) else (impl_Unframe.j0 k l0 a1 bt137.1 bt137.2.1 true)))) = some (r1, r2, r3) := by rw [if_pos rfl] at H; exact H
      clear H
      have H := H1
      clear H1
      replace H := Option.bind_eq_some_iff.mp H
      obtain ⟨⟨t137, t138, t139, t140⟩, A60, H⟩ := H
      replace H : (if t140 = true then (some (([] : List Int), a1, 2)) else (if t139 = true then ((impl_from.f t137 0 20000).bind fun t141 => (impl_Unframe.j0 k l0 a1 t137 t138 (!t141))) else (impl_Unframe.j0 k l0 a1 t137 t138 true))) = some (r1, r2, r3) := H
      have A6 := Aside0.mk A60
      clear A60
      by_cases c7 : t140 = true
      · subst c7
        have H1 : (some (([] : List Int), a1, 2)) = some (r1, r2, r3) := by rw [if_pos rfl] at H; exact H
        clear H
        have H := H1
        clear H1
        simp only [Option.some.injEq, Prod.mk.injEq] at H
        obtain ⟨rfl, rfl, rfl⟩ := H
        go_enter Try.func38, Try.ntmps38
        go_wp2_with (first | ((with_reducible refine gate_callee (f := 76) rfl ?_); refine goesL_ (some 22) rfl rfl Try.func76 (by kernel_rfl) rfl #[.int .i64 a1, .int .i64 0, .int .i64 (l0.length : Int)] rfl (by (try simp only [List.map_toArray, List.map_cons, List.map_nil]); first | done | rfl | (simp only [List.length_drop, List.length_take]; rfl)) ?_; (with_reducible refine (impl_from.calls a1 0 (l0.length : Int) true _ A4.out).mono ?_); rintro e w' ⟨rfl, ⟨nd, rfl⟩⟩; refine ⟨_, rfl, ?_⟩) | ((with_reducible refine gate_callee (f := 92) rfl ?_); refine goesL_ (some 28) rfl rfl Try.func92 (by kernel_rfl) rfl #[.slice A0 l0.length c0, .int .i64 a1] rfl (by (try simp only [List.map_toArray, List.map_cons, List.map_nil]); first | done | rfl | (simp only [List.length_drop, List.length_take]; rfl)) ?_; (with_reducible refine (impl_scanNum.calls k _ _ l0 a1 t137 t138 t139 true _ ?side1 ?side2 A6.out).mono ?_); (case side1 => repeat (first | exact HR0.out | (with_reducible refine Kd.C_alloc ?_ _) | (with_reducible refine Kd.C_drewN ?_ _) | (with_reducible refine Kd.C_drew ?_))); (case side2 => exact HC0.out); rintro e w' ⟨rfl, ⟨nd, rfl⟩⟩; refine ⟨_, rfl, ?_⟩))
        go_ret3
        exact ⟨_, by first | rfl | (simp [errW_none, errW_some] <;> rfl) | (simp [*, errW_none, errW_some] <;> rfl), by first | exact Kd.R_nil _ _ _ _ _ | exact Kd.N_nil _ _ _ _ _ | exact Kd.V_nil _ _ _ _ _ | exact Kd.Q_nil _ _ _ _ _ | exact Kd.S_nil _ _ _ _ _, by repeat (first | (with_reducible first | exact HB.out | apply below_alloc | apply pw_below_drewN | apply below_drew1) | exact HB.out)⟩
      · replace c7 := Bool.eq_false_iff.mpr c7
        subst c7
        have H1 : (if t139 = true then ((impl_from.f t137 0 20000).bind fun t141 => (impl_Unframe.j0 k l0 a1 t137 t138 (!t141))) else (impl_Unframe.j0 k l0 a1 t137 t138 true)) = some (r1, r2, r3) := by rw [if_neg (show ¬ (false = true) by decide)] at H; exact H
        clear H
        have H := H1
        clear H1
        have HC8 := Aside0.mk H
        clear H
        go_enter Try.func38, Try.ntmps38
        go_upto_region 8 with (first | ((with_reducible refine gate_callee (f := 76) rfl ?_); refine goesL_ (some 22) rfl rfl Try.func76 (by kernel_rfl) rfl #[.int .i64 a1, .int .i64 0, .int .i64 (l0.length : Int)] rfl (by (try simp only [List.map_toArray, List.map_cons, List.map_nil]); first | done | rfl | (simp only [List.length_drop, List.length_take]; rfl)) ?_; (with_reducible refine (impl_from.calls a1 0 (l0.length : Int) true _ A4.out).mono ?_); rintro e w' ⟨rfl, ⟨nd, rfl⟩⟩; refine ⟨_, rfl, ?_⟩) | ((with_reducible refine gate_callee (f := 92) rfl ?_); refine goesL_ (some 28) rfl rfl Try.func92 (by kernel_rfl) rfl #[.slice A0 l0.length c0, .int .i64 a1] rfl (by (try simp only [List.map_toArray, List.map_cons, List.map_nil]); first | done | rfl | (simp only [List.length_drop, List.length_take]; rfl)) ?_; (with_reducible refine (impl_scanNum.calls k _ _ l0 a1 t137 t138 t139 false _ ?side1 ?side2 A6.out).mono ?_); (case side1 => repeat (first | exact HR0.out | (with_reducible refine Kd.C_alloc ?_ _) | (with_reducible refine Kd.C_drewN ?_ _) | (with_reducible refine Kd.C_drew ?_))); (case side2 => exact HC0.out); rintro e w' ⟨rfl, ⟨nd, rfl⟩⟩; refine ⟨_, rfl, ?_⟩))
        (try simp only [Act.put, List.setIfInBounds_toArray, List.set_cons_zero, List.set_cons_succ])
        go_cut [36] (fun v36 wc => ∃ (kq : Nat) (x36_7 : Bool), v36 = .bool x36_7 ∧ Aside0 (impl_Unframe.j0 kq l0 a1 t137 t138 x36_7 = some (r1, r2, r3)) ∧ Aside0 (kq ≤ k) ∧ Aside0 (Below w.heap.size w wc))
        case first =>
          have H := HC8.out
          clear HC8
          by_cases c9 : t139 = true
          · subst c9
            have H1 : ((impl_from.f t137 0 20000).bind fun t141 => (impl_Unframe.j0 k l0 a1 t137 t138 (!t141))) = some (r1, r2, r3) := by rw [if_pos rfl] at H; exact H
            clear H
            have H := H1
            clear H1
            replace H := Option.bind_eq_some_iff.mp H
            obtain ⟨t141, A100, H⟩ := H
            replace H : (impl_Unframe.j0 k l0 a1 t137 t138 (!t141)) = some (r1, r2, r3) := H
            have A10 := Aside0.mk A100
            clear A100
            have H' := Aside0.mk H
            clear H
            go_wp2_with (first | (go_at_call 76; (with_reducible refine (impl_from.calls t137 0 20000 t141 _ A10.out).mono ?_); rintro e w' ⟨rfl, ⟨nd, rfl⟩⟩))
            go_meet
            case rel => exact ⟨_, (!t141), (by first | rfl | (simp; done) | (simp [*]; done)), H', ⟨by first | omega | exact Nat.le_refl _⟩, ⟨by repeat (first | (with_reducible first | exact HB.out | apply below_alloc | apply pw_below_drewN | apply below_drew1) | exact HB.out)⟩⟩
          · replace c9 := Bool.eq_false_iff.mpr c9
            subst c9
            have H1 : (impl_Unframe.j0 k l0 a1 t137 t138 true) = some (r1, r2, r3) := by rw [if_neg (show ¬ (false = true) by decide)] at H; exact H
            clear H
            have H := H1
            clear H1
            have H' := Aside0.mk H
            clear H
            go_wp2
            go_meet
            case rel => exact ⟨_, (true), (by first | rfl | (simp; done) | (simp [*]; done)), H', ⟨by first | omega | exact Nat.le_refl _⟩, ⟨by repeat (first | (with_reducible first | exact HB.out | apply below_alloc | apply pw_below_drewN | apply below_drew1) | exact HB.out)⟩⟩
        case rest =>
          clear HC8
          try clear p2
          try clear c3
          try clear c3b0
          try clear c3b1
          try clear c5
          try clear c7
          try clear c9
          obtain ⟨kq, x36_7, rfl, HA, HJ7, HB⟩ := hcut
          cases kq with
          | zero => exact absurd HA.out (by simp [impl_Unframe.j0])
          | succ kj7 =>
            have H := HA.out
            clear HA
            simp only [impl_Unframe.j0] at H
            by_cases c11 : x36_7 = true
            · subst c11
              have H1 : (some (([] : List Int), a1, 3)) = some (r1, r2, r3) := by rw [if_pos rfl] at H; exact H
              clear H
              have H := H1
              clear H1
              simp only [Option.some.injEq, Prod.mk.injEq] at H
              obtain ⟨rfl, rfl, rfl⟩ := H
              go_wp2
              go_ret3
              exact ⟨_, by first | rfl | (simp [errW_none, errW_some] <;> rfl) | (simp [*, errW_none, errW_some] <;> rfl), by first | exact Kd.R_nil _ _ _ _ _ | exact Kd.N_nil _ _ _ _ _ | exact Kd.V_nil _ _ _ _ _ | exact Kd.Q_nil _ _ _ _ _ | exact Kd.S_nil _ _ _ _ _, by repeat (first | (with_reducible first | exact HB.out | apply below_alloc | apply pw_below_drewN | apply below_drew1) | exact HB.out)⟩
            · replace c11 := Bool.eq_false_iff.mpr c11
              subst c11
              have H1 : (if (wrap64 (t137 + 4)) > (wrap64 ((l0.length : Int) - t138)) then (some (([] : List Int), a1, 2)) else (if 0 ≤ t138 then (if t138 ≤ (wrap64 (t138 + t137)) then (if (wrap64 (t138 + t137)) ≤ (l0.length : Int) then ((impl_Frame.f kj7 ((l0.take ((wrap64 (t138 + t137)) : Int).toNat).drop (t138 : Int).toNat)).bind fun t143 => (if 0 ≤ a1 then (if a1 ≤ (wrap64 ((wrap64 (t138 + t137)) + 4)) then (if (wrap64 ((wrap64 (t138 + t137)) + 4)) ≤ (l0.length : Int) then ((slices_Equal_byte_byte.f kj7 t143 ((l0.take ((wrap64 ((wrap64 (t138 + t137)) + 4)) : Int).toNat).drop (a1 : Int).toNat)).bind fun t147 => (if t147 = true then ((slices_Clone_byte_byte.f ((l0.take ((wrap64 (t138 + t137)) : Int).toNat).drop (t138 : Int).toNat)).bind fun t148 => (some (t148, wrap64 ((wrap64 (t138 + t137)) + 4), 0))) else (some (([] : List Int), a1, 3)))) else (none)) else (none)) else (none))) else (none)) else (none)) else (none))) = some (r1, r2, r3) := by rw [if_neg (show ¬ (false = true) by decide)] at H; exact H
              clear H
              have H := H1
              clear H1
              by_cases c12 : (wrap64 (t137 + 4)) > (wrap64 ((l0.length : Int) - t138))
              · rw [if_pos c12] at H
                have c12b0 : decide ((wrap64 ((l0.length : Int) - t138)) < (wrap64 (t137 + 4))) = true := decide_eq_true c12
                clear c12
                simp only [Option.some.injEq, Prod.mk.injEq] at H
                obtain ⟨rfl, rfl, rfl⟩ := H
                go_wp2
                go_ret3
                exact ⟨_, by first | rfl | (simp [errW_none, errW_some] <;> rfl) | (simp [*, errW_none, errW_some] <;> rfl), by first | exact Kd.R_nil _ _ _ _ _ | exact Kd.N_nil _ _ _ _ _ | exact Kd.V_nil _ _ _ _ _ | exact Kd.Q_nil _ _ _ _ _ | exact Kd.S_nil _ _ _ _ _, by repeat (first | (with_reducible first | exact HB.out | apply below_alloc | apply pw_below_drewN | apply below_drew1) | exact HB.out)⟩
              · rw [if_neg c12] at H
                have c12b0 : decide ((wrap64 ((l0.length : Int) - t138)) < (wrap64 (t137 + 4))) = false := decide_eq_false c12
                clear c12
                by_cases c13 : 0 ≤ t138
                · rw [if_pos c13] at H
                  have c13b0 := eq_true c13
                  have c13b1 : decide (0 ≤ t138) = true := decide_eq_true c13
                  clear c13
                  by_cases c14 : t138 ≤ (wrap64 (t138 + t137))
                  · rw [if_pos c14] at H
                    have c14b0 := eq_true c14
                    have c14b1 : decide (t138 ≤ (wrap64 (t138 + t137))) = true := decide_eq_true c14
                    by_cases c15 : (wrap64 (t138 + t137)) ≤ (l0.length : Int)
                    · rw [if_pos c15] at H
                      have c15b0 := eq_true c15
                      have c15b1 : decide ((wrap64 (t138 + t137)) ≤ (l0.length : Int)) = true := decide_eq_true c15
                      replace H := Option.bind_eq_some_iff.mp H
                      obtain ⟨t143, A160, H⟩ := H
                      replace H : (if 0 ≤ a1 then (if a1 ≤ (wrap64 ((wrap64 (t138 + t137)) + 4)) then (if (wrap64 ((wrap64 (t138 + t137)) + 4)) ≤ (l0.length : Int) then ((slices_Equal_byte_byte.f kj7 t143 ((l0.take ((wrap64 ((wrap64 (t138 + t137)) + 4)) : Int).toNat).drop (a1 : Int).toNat)).bind fun t147 => (if t147 = true then ((slices_Clone_byte_byte.f ((l0.take ((wrap64 (t138 + t137)) : Int).toNat).drop (t138 : Int).toNat)).bind fun t148 => (some (t148, wrap64 ((wrap64 (t138 + t137)) + 4), 0))) else (some (([] : List Int), a1, 3)))) else (none)) else (none)) else (none)) = some (r1, r2, r3) := H
                      have A16 := Aside0.mk A160
                      clear A160
                      by_cases c17 : 0 ≤ a1
                      · rw [if_pos c17] at H
                        have c17b0 := eq_true c17
                        have c17b1 : decide (0 ≤ a1) = true := decide_eq_true c17
                        clear c17
                        by_cases c18 : a1 ≤ (wrap64 ((wrap64 (t138 + t137)) + 4))
                        · rw [if_pos c18] at H
                          have c18b0 := eq_true c18
                          have c18b1 : decide (a1 ≤ (wrap64 ((wrap64 (t138 + t137)) + 4))) = true := decide_eq_true c18
                          by_cases c19 : (wrap64 ((wrap64 (t138 + t137)) + 4)) ≤ (l0.length : Int)
                          · rw [if_pos c19] at H
                            have c19b0 := eq_true c19
                            have c19b1 : decide ((wrap64 ((wrap64 (t138 + t137)) + 4)) ≤ (l0.length : Int)) = true := decide_eq_true c19
                            replace H := Option.bind_eq_some_iff.mp H
                            obtain ⟨t147, A200, H⟩ := H
                            replace H : (if t147 = true then ((slices_Clone_byte_byte.f ((l0.take ((wrap64 (t138 + t137)) : Int).toNat).drop (t138 : Int).toNat)).bind fun t148 => (some (t148, wrap64 ((wrap64 (t138 + t137)) + 4), 0))) else (some (([] : List Int), a1, 3))) = some (r1, r2, r3) := H
                            have A20 := Aside0.mk A200
                            clear A200
                            by_cases c21 : t147 = true
                            · subst c21
                              have H1 : ((slices_Clone_byte_byte.f ((l0.take ((wrap64 (t138 + t137)) : Int).toNat).drop (t138 : Int).toNat)).bind fun t148 => (some (t148, wrap64 ((wrap64 (t138 + t137)) + 4), 0))) = some (r1, r2, r3) := by rw [if_pos rfl] at H; exact H
                              clear H
                              have H := H1
                              clear H1
                              replace H := Option.bind_eq_some_iff.mp H
                              obtain ⟨t148, A220, H⟩ := H
                              replace H : (some (t148, wrap64 ((wrap64 (t138 + t137)) + 4), 0)) = some (r1, r2, r3) := H
                              have A22 := Aside0.mk A220
                              clear A220
                              simp only [Option.some.injEq, Prod.mk.injEq] at H
                              obtain ⟨rfl, rfl, rfl⟩ := H
                              obtain ⟨i023, hi023, _, hsz23, _⟩ := info_parts info5
                              obtain ⟨A23, hcut23, hA23, hC23⟩ := print_mid_of (P := Try.prog) (Value.int .u8) 0 38 5 .i64 .i64 Try.underlying38 hi023 hsz23 A0 c0 l0 t138 (wrap64 (t138 + t137)) (of_decide_eq_true (by first | (with_reducible assumption) | assumption)) (by first | omega | exact of_decide_eq_true (by first | (with_reducible assumption) | assumption)) (of_decide_eq_true (by first | (with_reducible assumption) | assumption)) HC0.out
                              have HR142 := Aside0.mk (Kd.C_of_reads (h1 := fun _ => rfl) (hA23 _ (Kd.reads_of_C HR0.out)))
                              have HC142 := Aside0.mk hC23
                              clear hA23 hC23 hi023 hsz23; (try (have hcut23s := hcut23; simp only [List.length_drop] at hcut23s))
                              try go_wp2
                              have n0_ := Aside0.mk (below_drew1 HB.out)
                              clear HB
                              have HB := n0_
                              clear n0_
                              obtain ⟨i025, hi025, _, hsz25, _⟩ := info_parts info5
                              obtain ⟨A25, hcut25, hA25, hC25⟩ := print_mid_of (P := Try.prog) (Value.int .u8) 0 38 5 .i64 .i64 Try.underlying38 hi025 hsz25 A0 c0 l0 a1 (wrap64 ((wrap64 (t138 + t137)) + 4)) (of_decide_eq_true (by first | (with_reducible assumption) | assumption)) (by first | omega | exact of_decide_eq_true (by first | (with_reducible assumption) | assumption)) (of_decide_eq_true (by first | (with_reducible assumption) | assumption)) HC0.out
                              have HR146 := Aside0.mk (Kd.C_of_reads (h1 := fun _ => rfl) (hA25 _ (Kd.reads_of_C HR0.out)))
                              have HC146 := Aside0.mk hC25
                              clear hA25 hC25 hi025 hsz25; (try (have hcut25s := hcut25; simp only [List.length_drop] at hcut25s))
                              refine start_ (n := 11) (S := fun w' => True) (ds := []) #[false, false, false, false, false, false, false, false, false, false, false] (by kernel_rfl) rfl rfl trivial (fun hHeld => ?_); refine with_tabW impl_Unframe.tab13 impl_Unframe.bits13 (fun HT_ HW_ => ?_)
                              generalize wc.drew = w24 at HB HR146 hHeld ⊢
                              refine pure_ (i := 0) (N := some 60) (v := ?_) (a' := ?_) #[true, false, false, false, false, false, false, false, false, false, false] rfl rfl (any_of HT_.out (by kernel_rfl)) (fun _ _ _ h => h) (Or.inl ⟨by rfl, ?_⟩) ?_ ?_
                              rotate_left
                              · intro w'
                                go_simp
                                with_reducible rfl
                              rotate_left
                              · simp only [Act.put, List.setIfInBounds_toArray, List.set_cons_zero, List.set_cons_succ, i64_w, i32_w]
                                rfl
                              refine pure_ (i := 2) (N := some 62) (v := ?_) (a' := ?_) #[true, false, true, false, false, false, false, false, false, false, false] rfl rfl (any_of HT_.out (by kernel_rfl)) (fun _ _ _ h => h) (Or.inl ⟨by rfl, ?_⟩) ?_ ?_
                              rotate_left
                              · intro w'
                                go_simp
                                with_reducible rfl
                              rotate_left
                              · simp only [Act.put, List.setIfInBounds_toArray, List.set_cons_zero, List.set_cons_succ, i64_w, i32_w]
                                rfl
                              refine pure_ (i := 3) (N := some 63) (v := ?_) (a' := ?_) #[true, false, true, true, false, false, false, false, false, false, false] rfl rfl (any_of HT_.out (by kernel_rfl)) (fun _ _ _ h => h) (Or.inl ⟨by rfl, ?_⟩) ?_ ?_
                              rotate_left
                              · intro w'
                                go_simp
                                with_reducible rfl
                              rotate_left
                              · simp only [Act.put, List.setIfInBounds_toArray, List.set_cons_zero, List.set_cons_succ, i64_w, i32_w]
                                rfl
                              refine pure_ (i := 4) (N := some 64) (v := ?_) (a' := ?_) #[true, false, true, true, true, false, false, false, false, false, false] rfl rfl (any_of HT_.out (by kernel_rfl)) (fun _ _ _ h => h) (Or.inl ⟨by rfl, ?_⟩) ?_ ?_
                              rotate_left
                              · intro w'
                                go_simp
                                with_reducible rfl
                              rotate_left
                              · simp only [Act.put, List.setIfInBounds_toArray, List.set_cons_zero, List.set_cons_succ, i64_w, i32_w]
                                rfl
                              refine pure_ (i := 5) (N := some 65) (v := ?_) (a' := ?_) #[true, false, true, true, true, true, false, false, false, false, false] rfl rfl (any_of HT_.out (by kernel_rfl)) (fun _ _ _ h => h) (Or.inl ⟨by rfl, ?_⟩) ?_ ?_
                              rotate_left
                              · intro w'
                                go_simp
                                with_reducible rfl
                              rotate_left
                              · simp only [Act.put, List.setIfInBounds_toArray, List.set_cons_zero, List.set_cons_succ, i64_w, i32_w]
                                rfl
                              refine pure_ (i := 6) (N := some 66) (v := ?_) (a' := ?_) #[true, false, true, true, true, true, true, false, false, false, false] rfl rfl (any_of HT_.out (by kernel_rfl)) (fun _ _ _ h => h) (Or.inl ⟨by rfl, ?_⟩) ?_ ?_
                              rotate_left
                              · intro w'
                                go_simp
                                with_reducible rfl
                              rotate_left
                              · simp only [Act.put, List.setIfInBounds_toArray, List.set_cons_zero, List.set_cons_succ, i64_w, i32_w]
                                rfl
                              refine pure_ (i := 7) (N := some 67) (v := ?_) (a' := ?_) #[true, false, true, true, true, true, true, true, false, false, false] rfl rfl (any_of HT_.out (by kernel_rfl)) (fun _ _ _ h => h) (Or.inl ⟨by rfl, ?_⟩) ?_ ?_
                              rotate_left
                              · intro w'
                                go_simp
                                with_reducible rfl
                              rotate_left
                              · simp only [Act.put, List.setIfInBounds_toArray, List.set_cons_zero, List.set_cons_succ, i64_w, i32_w]
                                rfl
                              refine pure_ (i := 8) (N := some 68) (v := ?_) (a' := ?_) #[true, false, true, true, true, true, true, true, true, false, false] rfl rfl (any_of HT_.out (by kernel_rfl)) (fun _ _ _ h => h) (Or.inl ⟨by rfl, ?_⟩) ?_ ?_
                              rotate_left
                              · intro w'
                                go_simp
                                with_reducible rfl
                              rotate_left
                              · simp only [Act.put, List.setIfInBounds_toArray, List.set_cons_zero, List.set_cons_succ, i64_w, i32_w]
                                rfl
                              refine one_ (i := 1) (N := some 61) #[true, true, true, true, true, true, true, true, true, false, false] rfl rfl (one_of HT_.out (by kernel_rfl)) (by decide) (fun K hK => ?_)
                              refine goes_ Try.func37 (by kernel_rfl) rfl #[.slice A23 ((l0.take ((wrap64 (t138 + t137)) : Int).toNat).drop (t138 : Int).toNat).length (c0 - t138.toNat)] (by rfl) rfl rfl (by (try simp only [List.map_toArray, List.map_cons, List.map_nil]); first | done | (rw [show ((l0.take ((wrap64 (t138 + t137)) : Int).toNat).drop (t138 : Int).toNat).length = ((wrap64 (t138 + t137)).toNat - t138.toNat) from (by rw [List.length_drop, List.length_take]; have h_ : ((wrap64 (t138 + t137)) : Int) ≤ (l0.length : Int) := of_decide_eq_true (by first | (with_reducible assumption) | assumption); omega)] <;> rfl) | rfl | (simp only [List.length_drop, List.length_take]; rfl)) ?_
                              with_reducible refine (impl_Frame.calls kj7 _ _ ((l0.take ((wrap64 (t138 + t137)) : Int).toNat).drop (t138 : Int).toNat) t143 _ ?side1 ?side2 A16.out).mono ?_
                              (case side1 => repeat (first | exact (Kd.C_below HR142.out HB.out) | (with_reducible refine Kd.C_alloc ?_ _) | (with_reducible refine Kd.C_drewN ?_ _) | (with_reducible refine Kd.C_drew ?_)))
                              (case side2 => exact HC142.out)
                              rintro e w26 ⟨v144, rfl, ho0, hb⟩
                              refine ⟨_, rfl, ?_⟩
                              have n0_ := Aside0.mk (Kd.R_lower ho0 (below_size (by repeat (first | (with_reducible first | exact HB.out | apply below_alloc | apply pw_below_drewN | apply below_drew1) | exact HB.out))))
                              have n1_ := Aside0.mk (below_step (by repeat (first | (with_reducible first | exact HB.out | apply below_alloc | apply pw_below_drewN | apply below_drew1) | exact HB.out)) hb)
                              clear HB
                              have HO145 := n0_
                              have HB := n1_
                              clear n0_ n1_
                              (try clear hb)
                              (try clear hb2)
                              (try clear hk)
                              (try clear hi)
                              (try clear ho0)
                              obtain ⟨Ao27, co27, eo27⟩ := Kd.R_slice HO145.out
                              (first | subst eo27 | (injection eo27 with f1_ f2_ f3_; have f4_ := f1_.symm; have f5_ := f3_.symm; clear f1_ f2_ f3_; subst f4_; subst f5_))
                              refine hK.out _ _ trivial (fun hHeld => ?_)
                              clear hK K
                              refine norm_ (a' := ?_) ?_ ?_
                              rotate_left
                              · show Act.put _ (some 61) _ = _
                                simp only [Act.put, List.setIfInBounds_toArray, List.set_cons_zero, List.set_cons_succ, i64_w, i32_w]
                                rfl
                              refine one_ (i := 9) (N := some 69) #[true, true, true, true, true, true, true, true, true, true, false] rfl rfl (one_of HT_.out (by kernel_rfl)) (by decide) (fun K hK => ?_)
                              refine goes_ Try.func93 (by kernel_rfl) rfl #[.slice Ao27 t143.length co27, .slice A25 ((l0.take ((wrap64 ((wrap64 (t138 + t137)) + 4)) : Int).toNat).drop (a1 : Int).toNat).length (c0 - a1.toNat)] (by rfl) rfl rfl (by (try simp only [List.map_toArray, List.map_cons, List.map_nil]); first | done | (rw [show ((l0.take ((wrap64 ((wrap64 (t138 + t137)) + 4)) : Int).toNat).drop (a1 : Int).toNat).length = ((wrap64 ((wrap64 (t138 + t137)) + 4)).toNat - a1.toNat) from (by rw [List.length_drop, List.length_take]; have h_ : ((wrap64 ((wrap64 (t138 + t137)) + 4)) : Int) ≤ (l0.length : Int) := of_decide_eq_true (by first | (with_reducible assumption) | assumption); omega)] <;> rfl) | rfl | (simp only [List.length_drop, List.length_take]; rfl)) ?_
                              with_reducible refine (slices_Equal_byte_byte.calls kj7 _ _ t143 _ _ ((l0.take ((wrap64 ((wrap64 (t138 + t137)) + 4)) : Int).toNat).drop (a1 : Int).toNat) true _ ?side1 ?side2 ?side3 ?side4 A20.out).mono ?_
                              (case side1 => repeat (first | exact (Kd.R_reads' HO145.out).2.2 | (with_reducible refine Kd.C_alloc ?_ _) | (with_reducible refine Kd.C_drewN ?_ _) | (with_reducible refine Kd.C_drew ?_)))
                              (case side2 => exact (Kd.R_reads' HO145.out).2.1)
                              (case side3 => repeat (first | exact (Kd.C_below HR146.out HB.out) | (with_reducible refine Kd.C_alloc ?_ _) | (with_reducible refine Kd.C_drewN ?_ _) | (with_reducible refine Kd.C_drew ?_)))
                              (case side4 => exact HC146.out)
                              rintro e w' ⟨rfl, ⟨nd, rfl⟩⟩
                              refine ⟨_, rfl, ?_⟩
                              refine hK.out _ _ trivial (fun hHeld => ?_)
                              clear hK K
                              refine norm_ (a' := ?_) ?_ ?_
                              rotate_left
                              · show Act.put _ (some 69) _ = _
                                simp only [Act.put, List.setIfInBounds_toArray, List.set_cons_zero, List.set_cons_succ, i64_w, i32_w]
                                rfl
                              refine pure_ (i := 10) (N := some 70) (v := ?_) (a' := ?_) #[true, true, true, true, true, true, true, true, true, true, true] rfl rfl (any_of HT_.out (by kernel_rfl)) (fun _ _ _ h => h) (Or.inl ⟨by rfl, ?_⟩) ?_ ?_
                              rotate_left
                              · intro w'
                                go_simp
                                with_reducible rfl
                              rotate_left
                              · simp only [Act.put, List.setIfInBounds_toArray, List.set_cons_zero, List.set_cons_succ, i64_w, i32_w]
                                rfl
                              refine done_ (done_of HT_.out (by kernel_rfl)) ?_
                              try go_wp2_with (first | ((with_reducible refine gate_callee (f := 94) rfl ?_); refine goesL_ (some 73) rfl rfl Try.func94 (by kernel_rfl) rfl #[.slice A23 ((l0.take ((wrap64 (t138 + t137)) : Int).toNat).drop (t138 : Int).toNat).length (c0 - t138.toNat)] rfl (by (try simp only [List.map_toArray, List.map_cons, List.map_nil]); first | done | (rw [show ((l0.take ((wrap64 (t138 + t137)) : Int).toNat).drop (t138 : Int).toNat).length = ((wrap64 (t138 + t137)).toNat - t138.toNat) from (by rw [List.length_drop, List.length_take]; have h_ : ((wrap64 (t138 + t137)) : Int) ≤ (l0.length : Int) := of_decide_eq_true (by first | (with_reducible assumption) | assumption); omega)] <;> rfl) | rfl | (simp only [List.length_drop, List.length_take]; rfl)) ?_; (with_reducible refine (slices_Clone_byte_byte.calls _ _ ((l0.take ((wrap64 (t138 + t137)) : Int).toNat).drop (t138 : Int).toNat) t148 _ ?side1 ?side2 A22.out).mono ?_); (case side1 => repeat (first | exact (Kd.C_below HR142.out (by repeat (first | (with_reducible first | exact HB.out | apply below_alloc | apply pw_below_drewN | apply below_drew1) | exact HB.out))) | (with_reducible refine Kd.C_alloc ?_ _) | (with_reducible refine Kd.C_drewN ?_ _) | (with_reducible refine Kd.C_drew ?_))); (case side2 => exact HC142.out); rintro e w28 ⟨v149, rfl, ho0, hb⟩; refine ⟨_, rfl, ?_⟩; have n0_ := Aside0.mk (Kd.R_elder' (by (with_reducible repeat (first | apply Kd.R_alloc | apply Kd.R_drewN | apply Kd.R_drew)); exact HO145.out) (Kd.R_base ho0) hb); have n1_ := Aside0.mk (Kd.R_lower (Kd.R_new' ho0 (Kd.R_lt (by (with_reducible repeat (first | apply Kd.R_alloc | apply Kd.R_drewN | apply Kd.R_drew)); exact HO145.out))) (below_size (by repeat (first | (with_reducible first | exact HB.out | apply below_alloc | apply pw_below_drewN | apply below_drew1) | exact HB.out)))); have n2_ := Aside0.mk (below_step (by repeat (first | (with_reducible first | exact HB.out | apply below_alloc | apply pw_below_drewN | apply below_drew1) | exact HB.out)) hb); clear HO145; clear HB; have HO145 := n0_; have HO150 := n1_; have HB := n2_; clear n0_ n1_ n2_; (try clear hb); (try clear hb2); (try clear hk); (try clear hi); (try clear ho0)))
                              go_ret3
                              exact ⟨_, by first | rfl | (simp [errW_none, errW_some] <;> rfl) | (simp [*, errW_none, errW_some] <;> rfl), by (with_reducible repeat (first | apply Kd.R_alloc | apply Kd.R_drewN | apply Kd.R_drew)); exact Kd.R_mono HO150.out (fun _ hk => trivial), by repeat (first | (with_reducible first | exact HB.out | apply below_alloc | apply pw_below_drewN | apply below_drew1) | exact HB.out)⟩
                            · replace c21 := Bool.eq_false_iff.mpr c21
                              subst c21
                              have H1 : (some (([] : List Int), a1, 3)) = some (r1, r2, r3) := by rw [if_neg (show ¬ (false = true) by decide)] at H; exact H
                              clear H
                              have H := H1
                              clear H1
                              simp only [Option.some.injEq, Prod.mk.injEq] at H
                              obtain ⟨rfl, rfl, rfl⟩ := H
                              obtain ⟨i029, hi029, _, hsz29, _⟩ := info_parts info5
                              obtain ⟨A29, hcut29, hA29, hC29⟩ := print_mid_of (P := Try.prog) (Value.int .u8) 0 38 5 .i64 .i64 Try.underlying38 hi029 hsz29 A0 c0 l0 t138 (wrap64 (t138 + t137)) (of_decide_eq_true (by first | (with_reducible assumption) | assumption)) (by first | omega | exact of_decide_eq_true (by first | (with_reducible assumption) | assumption)) (of_decide_eq_true (by first | (with_reducible assumption) | assumption)) HC0.out
                              have HR142 := Aside0.mk (Kd.C_of_reads (h1 := fun _ => rfl) (hA29 _ (Kd.reads_of_C HR0.out)))
                              have HC142 := Aside0.mk hC29
                              clear hA29 hC29 hi029 hsz29; (try (have hcut29s := hcut29; simp only [List.length_drop] at hcut29s))
                              try go_wp2
                              have n0_ := Aside0.mk (below_drew1 HB.out)
                              clear HB
                              have HB := n0_
                              clear n0_
                              obtain ⟨i031, hi031, _, hsz31, _⟩ := info_parts info5
                              obtain ⟨A31, hcut31, hA31, hC31⟩ := print_mid_of (P := Try.prog) (Value.int .u8) 0 38 5 .i64 .i64 Try.underlying38 hi031 hsz31 A0 c0 l0 a1 (wrap64 ((wrap64 (t138 + t137)) + 4)) (of_decide_eq_true (by first | (with_reducible assumption) | assumption)) (by first | omega | exact of_decide_eq_true (by first | (with_reducible assumption) | assumption)) (of_decide_eq_true (by first | (with_reducible assumption) | assumption)) HC0.out
                              have HR146 := Aside0.mk (Kd.C_of_reads (h1 := fun _ => rfl) (hA31 _ (Kd.reads_of_C HR0.out)))
                              have HC146 := Aside0.mk hC31
                              clear hA31 hC31 hi031 hsz31; (try (have hcut31s := hcut31; simp only [List.length_drop] at hcut31s))
                              refine start_ (n := 11) (S := fun w' => True) (ds := []) #[false, false, false, false, false, false, false, false, false, false, false] (by kernel_rfl) rfl rfl trivial (fun hHeld => ?_); refine with_tabW impl_Unframe.tab13 impl_Unframe.bits13 (fun HT_ HW_ => ?_)
                              generalize wc.drew = w30 at HB HR146 hHeld ⊢
                              refine pure_ (i := 0) (N := some 60) (v := ?_) (a' := ?_) #[true, false, false, false, false, false, false, false, false, false, false] rfl rfl (any_of HT_.out (by kernel_rfl)) (fun _ _ _ h => h) (Or.inl ⟨by rfl, ?_⟩) ?_ ?_
                              rotate_left
                              · intro w'
                                go_simp
                                with_reducible rfl
                              rotate_left
                              · simp only [Act.put, List.setIfInBounds_toArray, List.set_cons_zero, List.set_cons_succ, i64_w, i32_w]
                                rfl
                              refine pure_ (i := 2) (N := some 62) (v := ?_) (a' := ?_) #[true, false, true, false, false, false, false, false, false, false, false] rfl rfl (any_of HT_.out (by kernel_rfl)) (fun _ _ _ h => h) (Or.inl ⟨by rfl, ?_⟩) ?_ ?_
                              rotate_left
                              · intro w'
                                go_simp
                                with_reducible rfl
                              rotate_left
                              · simp only [Act.put, List.setIfInBounds_toArray, List.set_cons_zero, List.set_cons_succ, i64_w, i32_w]
                                rfl
                              refine pure_ (i := 3) (N := some 63) (v := ?_) (a' := ?_) #[true, false, true, true, false, false, false, false, false, false, false] rfl rfl (any_of HT_.out (by kernel_rfl)) (fun _ _ _ h => h) (Or.inl ⟨by rfl, ?_⟩) ?_ ?_
                              rotate_left
                              · intro w'
                                go_simp
                                with_reducible rfl
                              rotate_left
                              · simp only [Act.put, List.setIfInBounds_toArray, List.set_cons_zero, List.set_cons_succ, i64_w, i32_w]
                                rfl
                              refine pure_ (i := 4) (N := some 64) (v := ?_) (a' := ?_) #[true, false, true, true, true, false, false, false, false, false, false] rfl rfl (any_of HT_.out (by kernel_rfl)) (fun _ _ _ h => h) (Or.inl ⟨by rfl, ?_⟩) ?_ ?_
                              rotate_left
                              · intro w'
                                go_simp
                                with_reducible rfl
                              rotate_left
                              · simp only [Act.put, List.setIfInBounds_toArray, List.set_cons_zero, List.set_cons_succ, i64_w, i32_w]
                                rfl
                              refine pure_ (i := 5) (N := some 65) (v := ?_) (a' := ?_) #[true, false, true, true, true, true, false, false, false, false, false] rfl rfl (any_of HT_.out (by kernel_rfl)) (fun _ _ _ h => h) (Or.inl ⟨by rfl, ?_⟩) ?_ ?_
                              rotate_left
                              · intro w'
                                go_simp
                                with_reducible rfl
                              rotate_left
                              · simp only [Act.put, List.setIfInBounds_toArray, List.set_cons_zero, List.set_cons_succ, i64_w, i32_w]
                                rfl
                              refine pure_ (i := 6) (N := some 66) (v := ?_) (a' := ?_) #[true, false, true, true, true, true, true, false, false, false, false] rfl rfl (any_of HT_.out (by kernel_rfl)) (fun _ _ _ h => h) (Or.inl ⟨by rfl, ?_⟩) ?_ ?_
                              rotate_left
                              · intro w'
                                go_simp
                                with_reducible rfl
                              rotate_left
                              · simp only [Act.put, List.setIfInBounds_toArray, List.set_cons_zero, List.set_cons_succ, i64_w, i32_w]
                                rfl
                              refine pure_ (i := 7) (N := some 67) (v := ?_) (a' := ?_) #[true, false, true, true, true, true, true, true, false, false, false] rfl rfl (any_of HT_.out (by kernel_rfl)) (fun _ _ _ h => h) (Or.inl ⟨by rfl, ?_⟩) ?_ ?_
                              rotate_left
                              · intro w'
                                go_simp
                                with_reducible rfl
                              rotate_left
                              · simp only [Act.put, List.setIfInBounds_toArray, List.set_cons_zero, List.set_cons_succ, i64_w, i32_w]
                                rfl
                              refine pure_ (i := 8) (N := some 68) (v := ?_) (a' := ?_) #[true, false, true, true, true, true, true, true, true, false, false] rfl rfl (any_of HT_.out (by kernel_rfl)) (fun _ _ _ h => h) (Or.inl ⟨by rfl, ?_⟩) ?_ ?_
                              rotate_left
                              · intro w'
                                go_simp
                                with_reducible rfl
                              rotate_left
                              · simp only [Act.put, List.setIfInBounds_toArray, List.set_cons_zero, List.set_cons_succ, i64_w, i32_w]
                                rfl
                              refine one_ (i := 1) (N := some 61) #[true, true, true, true, true, true, true, true, true, false, false] rfl rfl (one_of HT_.out (by kernel_rfl)) (by decide) (fun K hK => ?_)
                              refine goes_ Try.func37 (by kernel_rfl) rfl #[.slice A29 ((l0.take ((wrap64 (t138 + t137)) : Int).toNat).drop (t138 : Int).toNat).length (c0 - t138.toNat)] (by rfl) rfl rfl (by (try simp only [List.map_toArray, List.map_cons, List.map_nil]); first | done | (rw [show ((l0.take ((wrap64 (t138 + t137)) : Int).toNat).drop (t138 : Int).toNat).length = ((wrap64 (t138 + t137)).toNat - t138.toNat) from (by rw [List.length_drop, List.length_take]; have h_ : ((wrap64 (t138 + t137)) : Int) ≤ (l0.length : Int) := of_decide_eq_true (by first | (with_reducible assumption) | assumption); omega)] <;> rfl) | rfl | (simp only [List.length_drop, List.length_take]; rfl)) ?_
                              with_reducible refine (impl_Frame.calls kj7 _ _ ((l0.take ((wrap64 (t138 + t137)) : Int).toNat).drop (t138 : Int).toNat) t143 _ ?side1 ?side2 A16.out).mono ?_
                              (case side1 => repeat (first | exact (Kd.C_below HR142.out HB.out) | (with_reducible refine Kd.C_alloc ?_ _) | (with_reducible refine Kd.C_drewN ?_ _) | (with_reducible refine Kd.C_drew ?_)))
                              (case side2 => exact HC142.out)
                              rintro e w32 ⟨v144, rfl, ho0, hb⟩
                              refine ⟨_, rfl, ?_⟩
                              have n0_ := Aside0.mk (Kd.R_lower ho0 (below_size (by repeat (first | (with_reducible first | exact HB.out | apply below_alloc | apply pw_below_drewN | apply below_drew1) | exact HB.out))))
                              have n1_ := Aside0.mk (below_step (by repeat (first | (with_reducible first | exact HB.out | apply below_alloc | apply pw_below_drewN | apply below_drew1) | exact HB.out)) hb)
                              clear HB
                              have HO145 := n0_
                              have HB := n1_
                              clear n0_ n1_
                              (try clear hb)
                              (try clear hb2)
                              (try clear hk)
                              (try clear hi)
                              (try clear ho0)
                              obtain ⟨Ao33, co33, eo33⟩ := Kd.R_slice HO145.out
                              (first | subst eo33 | (injection eo33 with f1_ f2_ f3_; have f4_ := f1_.symm; have f5_ := f3_.symm; clear f1_ f2_ f3_; subst f4_; subst f5_))
                              refine hK.out _ _ trivial (fun hHeld => ?_)
                              clear hK K
                              refine norm_ (a' := ?_) ?_ ?_
                              rotate_left
                              · show Act.put _ (some 61) _ = _
                                simp only [Act.put, List.setIfInBounds_toArray, List.set_cons_zero, List.set_cons_succ, i64_w, i32_w]
                                rfl
                              refine one_ (i := 9) (N := some 69) #[true, true, true, true, true, true, true, true, true, true, false] rfl rfl (one_of HT_.out (by kernel_rfl)) (by decide) (fun K hK => ?_)
                              refine goes_ Try.func93 (by kernel_rfl) rfl #[.slice Ao33 t143.length co33, .slice A31 ((l0.take ((wrap64 ((wrap64 (t138 + t137)) + 4)) : Int).toNat).drop (a1 : Int).toNat).length (c0 - a1.toNat)] (by rfl) rfl rfl (by (try simp only [List.map_toArray, List.map_cons, List.map_nil]); first | done | (rw [show ((l0.take ((wrap64 ((wrap64 (t138 + t137)) + 4)) : Int).toNat).drop (a1 : Int).toNat).length = ((wrap64 ((wrap64 (t138 + t137)) + 4)).toNat - a1.toNat) from (by rw [List.length_drop, List.length_take]; have h_ : ((wrap64 ((wrap64 (t138 + t137)) + 4)) : Int) ≤ (l0.length : Int) := of_decide_eq_true (by first | (with_reducible assumption) | assumption); omega)] <;> rfl) | rfl | (simp only [List.length_drop, List.length_take]; rfl)) ?_
                              with_reducible refine (slices_Equal_byte_byte.calls kj7 _ _ t143 _ _ ((l0.take ((wrap64 ((wrap64 (t138 + t137)) + 4)) : Int).toNat).drop (a1 : Int).toNat) false _ ?side1 ?side2 ?side3 ?side4 A20.out).mono ?_
                              (case side1 => repeat (first | exact (Kd.R_reads' HO145.out).2.2 | (with_reducible refine Kd.C_alloc ?_ _) | (with_reducible refine Kd.C_drewN ?_ _) | (with_reducible refine Kd.C_drew ?_)))
                              (case side2 => exact (Kd.R_reads' HO145.out).2.1)
                              (case side3 => repeat (first | exact (Kd.C_below HR146.out HB.out) | (with_reducible refine Kd.C_alloc ?_ _) | (with_reducible refine Kd.C_drewN ?_ _) | (with_reducible refine Kd.C_drew ?_)))
                              (case side4 => exact HC146.out)
                              rintro e w' ⟨rfl, ⟨nd, rfl⟩⟩
                              refine ⟨_, rfl, ?_⟩
                              refine hK.out _ _ trivial (fun hHeld => ?_)
                              clear hK K
                              refine norm_ (a' := ?_) ?_ ?_
                              rotate_left
                              · show Act.put _ (some 69) _ = _
                                simp only [Act.put, List.setIfInBounds_toArray, List.set_cons_zero, List.set_cons_succ, i64_w, i32_w]
                                rfl
                              refine pure_ (i := 10) (N := some 70) (v := ?_) (a' := ?_) #[true, true, true, true, true, true, true, true, true, true, true] rfl rfl (any_of HT_.out (by kernel_rfl)) (fun _ _ _ h => h) (Or.inl ⟨by rfl, ?_⟩) ?_ ?_
                              rotate_left
                              · intro w'
                                go_simp
                                with_reducible rfl
                              rotate_left
                              · simp only [Act.put, List.setIfInBounds_toArray, List.set_cons_zero, List.set_cons_succ, i64_w, i32_w]
                                rfl
                              refine done_ (done_of HT_.out (by kernel_rfl)) ?_
                              try go_wp2
                              go_ret3
                              exact ⟨_, by first | rfl | (simp [errW_none, errW_some] <;> rfl) | (simp [*, errW_none, errW_some] <;> rfl), by first | exact Kd.R_nil _ _ _ _ _ | exact Kd.N_nil _ _ _ _ _ | exact Kd.V_nil _ _ _ _ _ | exact Kd.Q_nil _ _ _ _ _ | exact Kd.S_nil _ _ _ _ _, by repeat (first | (with_reducible first | exact HB.out | apply below_alloc | apply pw_below_drewN | apply below_drew1) | exact HB.out)⟩
                          · rw [if_neg c19] at H
                            exact absurd H (by simp)
                        · rw [if_neg c18] at H
                          exact absurd H (by simp)
                      · rw [if_neg c17] at H
                        exact absurd H (by simp)
                    · rw [if_neg c15] at H
                      exact absurd H (by simp)
                  · rw [if_neg c14] at H
                    exact absurd H (by simp)
                · rw [if_neg c13] at H
                  exact absurd H (by simp)
    · replace c5 := Bool.eq_false_iff.mpr c5
      subst c5
      have H1 : (some (([] : List Int), a1, 3)) = some (r1, r2, r3) := by rw [if_neg (show ¬ (false = true) by decide)] at H; exact H
      clear H
      have H := H1
      clear H1
      simp only [Option.some.injEq, Prod.mk.injEq] at H
      obtain ⟨rfl, rfl, rfl⟩ := H
      go_enter Try.func38, Try.ntmps38
      go_wp2_with (first | ((with_reducible refine gate_callee (f := 76) rfl ?_); refine goesL_ (some 22) rfl rfl Try.func76 (by kernel_rfl) rfl #[.int .i64 a1, .int .i64 0, .int .i64 (l0.length : Int)] rfl (by (try simp only [List.map_toArray, List.map_cons, List.map_nil]); first | done | rfl | (simp only [List.length_drop, List.length_take]; rfl)) ?_; (with_reducible refine (impl_from.calls a1 0 (l0.length : Int) false _ A4.out).mono ?_); rintro e w' ⟨rfl, ⟨nd, rfl⟩⟩; refine ⟨_, rfl, ?_⟩))
      go_ret3
      exact ⟨_, by first | rfl | (simp [errW_none, errW_some] <;> rfl) | (simp [*, errW_none, errW_some] <;> rfl), by first | exact Kd.R_nil _ _ _ _ _ | exact Kd.N_nil _ _ _ _ _ | exact Kd.V_nil _ _ _ _ _ | exact Kd.Q_nil _ _ _ _ _ | exact Kd.S_nil _ _ _ _ _, by repeat (first | (with_reducible first | exact HB.out | apply below_alloc | apply pw_below_drewN | apply below_drew1) | exact HB.out)⟩

/-! ### spec_Sum: function 45 -/
mutual
def spec_Sum.l0 : Nat → List Int → Int → Int → Option (Int)
  | 0, _, _, _ => none
  | k + 1, x0, x3, x4 => if x4 < (x0.length : Int) then (if 0 ≤ x4 then (spec_Sum.l1 k x0 (Go.bits .xor .i64 x3 (wrap64 (rd x0 x4))) x4 0) else (none)) else (some (Go.bits .xor .i64 x3 4294967295))
def spec_Sum.l1 : Nat → List Int → Int → Int → Int → Option (Int)
  | 0, _, _, _, _ => none
  | k + 1, x0, x3, x4, x5 => if x5 < 8 then (if (Int.tmod x3 2) = 1 then (spec_Sum.l1 k x0 (Go.bits .xor .i64 (wrap64 (Int.tdiv x3 2)) 3988292384) x4 (wrap64 (x5 + 1))) else (spec_Sum.l1 k x0 (wrap64 (Int.tdiv x3 2)) x4 (wrap64 (x5 + 1)))) else (spec_Sum.l0 k x0 x3 (wrap64 (x4 + 1)))
end
def spec_Sum.f (k : Nat) (l0 : List Int) : Option (Int) := spec_Sum.l0 k l0 4294967295 0
theorem spec_Sum.mono_l : ∀ k, (∀ y0 y1 y2, LeO (spec_Sum.l0 k y0 y1 y2) (spec_Sum.l0 (k + 1) y0 y1 y2)) ∧ (∀ y0 y1 y2 y3, LeO (spec_Sum.l1 k y0 y1 y2 y3) (spec_Sum.l1 (k + 1) y0 y1 y2 y3))
  | 0 => ⟨fun _ _ _ r h => by simp [spec_Sum.l0] at h, fun _ _ _ _ r h => by simp [spec_Sum.l1] at h⟩
  | k + 1 => by
    obtain ⟨ih0, ih1⟩ := spec_Sum.mono_l k
    refine ⟨?_, ?_⟩
    · intro y0 y1 y2
      unfold spec_Sum.l0
      repeat' first
      | (with_reducible exact ih0 _ _ _)
      | (with_reducible exact ih1 _ _ _ _)
      | (with_reducible exact LeO.refl _)
      | (with_reducible exact LeO.none _)
      | (with_reducible refine LeO.ite ?_ ?_)
      | (with_reducible refine LeO.bind ?_ (fun _ => ?_))
      | exact ih0 _ _ _
      | exact ih1 _ _ _ _
      | exact LeO.none _
      | refine LeO.ite ?_ ?_
      | refine LeO.bind ?_ (fun _ => ?_)
    · intro y0 y1 y2 y3
      unfold spec_Sum.l1
      repeat' first
      | (with_reducible exact ih0 _ _ _)
      | (with_reducible exact ih1 _ _ _ _)
      | (with_reducible exact LeO.refl _)
      | (with_reducible exact LeO.none _)
      | (with_reducible refine LeO.ite ?_ ?_)
      | (with_reducible refine LeO.bind ?_ (fun _ => ?_))
      | exact ih0 _ _ _
      | exact ih1 _ _ _ _
      | exact LeO.none _
      | refine LeO.ite ?_ ?_
      | refine LeO.bind ?_ (fun _ => ?_)
theorem spec_Sum.mono : ∀ a0 k, LeO (spec_Sum.f k a0) (spec_Sum.f (k + 1) a0) := by
  intro a0 k
  obtain ⟨ih0, ih1⟩ := spec_Sum.mono_l k
  unfold spec_Sum.f
  repeat' first
      | (with_reducible exact ih0 _ _ _)
      | (with_reducible exact ih1 _ _ _ _)
      | (with_reducible exact LeO.refl _)
      | (with_reducible exact LeO.none _)
      | (with_reducible refine LeO.ite ?_ ?_)
      | (with_reducible refine LeO.bind ?_ (fun _ => ?_))
      | exact ih0 _ _ _
      | exact ih1 _ _ _ _
      | exact LeO.none _
      | refine LeO.ite ?_ ?_
      | refine LeO.bind ?_ (fun _ => ?_)
set_option maxHeartbeats 8000000 in
set_option maxRecDepth 100000 in
theorem spec_Sum.calls (k : Nat) (A0 : Option Addr) (c0 : Nat) (l0 : List Int) (r : Int) (w : World) (hr0 : Kd.C (Kd.int .u8) w A0 l0.length l0) (hc0 : l0.length ≤ c0) (h : spec_Sum.f k l0 = some r) :
    Calls Try.prog 45 #[.slice A0 l0.length c0] w fun e w' => e = .returned (.int .i64 r) ∧ Drawn0 w w' := by
  have HR0 := Aside0.mk hr0
  have HC0 := Aside0.mk hc0
  clear hr0 hc0
  have H : (spec_Sum.l0 k l0 4294967295 0) = some r := h
  clear h
  have H' := Aside0.mk H
  clear H
  go_enter Try.func45, Try.ntmps45
  go_wp2
  go_loopg [3, 4] k (fun kq v3 v4 w' => ∃ (x3_1 : Int) (x4_1 : Int), v3 = .int .i64 x3_1 ∧ v4 = .int .i64 x4_1 ∧ Aside0 (spec_Sum.l0 kq l0 x3_1 x4_1 = some r) ∧ Aside0 (kq ≤ k) ∧ Drawn0 w w')
  case atStart => exact ⟨(4294967295), (0), (by first | rfl | (simp; done) | (simp [*]; done)), (by first | rfl | (simp; done) | (simp [*]; done)), H', ⟨Nat.le_refl _⟩, by repeat (first | exact Drawn0.refl _ | apply Drawn0.step)⟩
  case round =>
    clear H'
    obtain ⟨x3_1, x4_1, rfl, rfl, HA, HK1, ⟨m1, rfl⟩⟩ := hrel
    cases gk with
    | zero => exact absurd HA.out (by simp [spec_Sum.l0])
    | succ k1 =>
      have H := HA.out
      clear HA
      simp only [spec_Sum.l0] at H
      by_cases c2 : x4_1 < (l0.length : Int)
      · rw [if_pos c2] at H
        have c2b0 : decide (x4_1 < (l0.length : Int)) = true := decide_eq_true c2
        clear c2
        by_cases c3 : 0 ≤ x4_1
        · rw [if_pos c3] at H
          have c3b0 : decide (0 ≤ x4_1) = true := decide_eq_true c3
          clear c3
          have H' := Aside0.mk H
          clear H
          have p151 : 0 ≤ (x4_1 : Int) := of_decide_eq_true (by first | (with_reducible assumption) | assumption)
          have q151 : x4_1 < (l0.length : Int) := of_decide_eq_true (by first | (with_reducible assumption) | assumption)
          obtain ⟨ad151, e151, hx151_0⟩ := Kd.at_int HR0.out x4_1 p151 q151
          cases e151
          replace p151 := eq_true p151
          replace q151 := eq_true q151
          go_wp2
          go_loopg [3, 5] k1 (fun kq v3 v5 w' => ∃ (x3_2 : Int) (x5_2 : Int), v3 = .int .i64 x3_2 ∧ v5 = .int .i64 x5_2 ∧ Aside0 (spec_Sum.l1 kq l0 x3_2 x4_1 x5_2 = some r) ∧ Aside0 (kq ≤ k1) ∧ Drawn0 w w')
          case atStart => exact ⟨(Go.bits .xor .i64 x3_1 (wrap64 (rd l0 x4_1))), (0), (by first | rfl | (simp; done) | (simp [*]; done)), (by first | rfl | (simp; done) | (simp [*]; done)), H', ⟨Nat.le_refl _⟩, by repeat (first | exact Drawn0.refl _ | apply Drawn0.step)⟩
          case round =>
            clear H'
            try clear p1
            try clear q1
            try clear hx1
            try clear c2
            try clear c2b0
            try clear p2
            try clear c3
            try clear c3b0
            try clear hx151_0
            try clear p151
            try clear q151
            obtain ⟨x3_2, x5_2, rfl, rfl, HA, HK2, ⟨m2, rfl⟩⟩ := hrel
            cases gk with
            | zero => exact absurd HA.out (by simp [spec_Sum.l1])
            | succ k2 =>
              have H := HA.out
              clear HA
              simp only [spec_Sum.l1] at H
              by_cases c4 : x5_2 < 8
              · rw [if_pos c4] at H
                have c4b0 : decide (x5_2 < 8) = true := decide_eq_true c4
                clear c4
                by_cases c5 : (Int.tmod x3_2 2) = 1
                · rw [if_pos c5] at H
                  have c5b0 : ((Int.tmod x3_2 2) == 1) = true := beq_iff_eq.mpr c5
                  have c5b1 : ((Int.tmod x3_2 2) != 1) = false := bne_eq_false_iff_eq.mpr c5
                  clear c5
                  have H' := Aside0.mk H
                  clear H
                  go_wp2
                  go_roundg k2
                  case measure => have := HK1.out; have := HK2.out; omega
                  case rel => exact ⟨(Go.bits .xor .i64 (wrap64 (Int.tdiv x3_2 2)) 3988292384), (wrap64 (x5_2 + 1)), (by first | rfl | (simp; done) | (simp [*]; done)), (by first | rfl | (simp; done) | (simp [*]; done)), H', ⟨by have := HK1.out; have := HK2.out; omega⟩, by repeat (first | exact Drawn0.refl _ | apply Drawn0.step)⟩
                · rw [if_neg c5] at H
                  have c5b0 : ((Int.tmod x3_2 2) == 1) = false := beq_eq_false_iff_ne.mpr c5
                  have c5b1 : ((Int.tmod x3_2 2) != 1) = true := bne_iff_ne.mpr c5
                  have H' := Aside0.mk H
                  clear H
                  go_wp2
                  go_roundg k2
                  case measure => have := HK1.out; have := HK2.out; omega
                  case rel => exact ⟨(wrap64 (Int.tdiv x3_2 2)), (wrap64 (x5_2 + 1)), (by first | rfl | (simp; done) | (simp [*]; done)), (by first | rfl | (simp; done) | (simp [*]; done)), H', ⟨by have := HK1.out; have := HK2.out; omega⟩, by repeat (first | exact Drawn0.refl _ | apply Drawn0.step)⟩
              · rw [if_neg c4] at H
                have c4b0 : decide (x5_2 < 8) = false := decide_eq_false c4
                clear c4
                have H' := Aside0.mk H
                clear H
                go_wp2
                go_roundg k2
                case measure => have := HK1.out; have := HK2.out; omega
                case rel => exact ⟨(x3_2), (wrap64 (x4_1 + 1)), (by first | rfl | (simp; done) | (simp [*]; done)), (by first | rfl | (simp; done) | (simp [*]; done)), H', ⟨by have := HK1.out; have := HK2.out; omega⟩, by repeat (first | exact Drawn0.refl _ | apply Drawn0.step)⟩
        · rw [if_neg c3] at H
          exact absurd H (by simp)
      · rw [if_neg c2] at H
        have c2b0 : decide (x4_1 < (l0.length : Int)) = false := decide_eq_false c2
        clear c2
        obtain rfl := Option.some.inj H
        go_wp2
        go_ret
        exact ⟨by first | rfl | (simp; done) | (simp [*]; done), by repeat (first | exact Drawn0.refl _ | apply Drawn0.step)⟩

/-! ### spec_l1In: function 75 -/
def spec_l1In.f (a0 : Int) (a1 : Int) (a2 : Int) : Option (Bool) := if a0 ≥ a1 then (some (decide (a0 ≤ a2))) else (some false)
set_option maxHeartbeats 8000000 in
set_option maxRecDepth 100000 in
theorem spec_l1In.calls (a0 : Int) (a1 : Int) (a2 : Int) (r : Bool) (w : World) (h : spec_l1In.f a0 a1 a2 = some r) :
    Calls Try.prog 75 #[.int .i64 a0, .int .i64 a1, .int .i64 a2] w fun e w' => e = .returned (.bool r) ∧ Drawn0 w w' := by
  have H : (if a0 ≥ a1 then (some (decide (a0 ≤ a2))) else (some false)) = some r := h
  clear h
  by_cases c4 : a0 ≥ a1
  · rw [if_pos c4] at H
    have c4b0 : decide (a1 ≤ a0) = true := decide_eq_true c4
    clear c4
    obtain rfl := Option.some.inj H
    go_enter Try.func75, Try.ntmps75
    go_wp2
    go_ret
    exact ⟨by first | rfl | (simp; done) | (simp [*]; done), by repeat (first | exact Drawn0.refl _ | apply Drawn0.step)⟩
  · rw [if_neg c4] at H
    have c4b0 : decide (a1 ≤ a0) = false := decide_eq_false c4
    clear c4
    obtain rfl := Option.some.inj H
    go_enter Try.func75, Try.ntmps75
    go_wp2
    go_ret
    exact ⟨by first | rfl | (simp; done) | (simp [*]; done), by repeat (first | exact Drawn0.refl _ | apply Drawn0.step)⟩

end Go.Proofs.Ytigmadccchofiaa.QFnExactUnframe
