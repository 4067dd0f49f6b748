-- Written by a program of this session (wip/myprint.py); Lean checks it.
import Derived.Test.YtigmadccchofiaaQFnExactUnframex0
import Derived.Test.YtigmadccchofiaaQFnExactUnframex2
import Derived.Test.YtigmadccchofiaaQFnExactUnframex3
namespace Go.Proofs.Ytigmadccchofiaa.QFnExactUnframe
open Go.RowKit Go.Proofs.YtigmadccchofiaaW.PrintWords Go.Proofs.YtigmadccchofiaaW.PrintLast Go.Proofs.YtigmadccchofiaaW.PrintMore
attribute [local go_sem] max2_int min2_int max_two min_two max_three min_three max_four min_four   -- for this text's walks alone
set_option linter.unusedVariables false
set_option linter.unusedSimpArgs false

attribute [local go_sem] isSome_setCell
/-! ### spec_Unframe: function 46 -/
def spec_Unframe.j0 : Nat → List Int → Int → Int → Int → Bool → Option (List Int × Int × Int)
  | 0, _, _, _, _, _ => none
  | k + 1, x0, x1, x7, x8, x36 => if x36 = true then (some ((([] : List Int)), x1, 3)) else (if (wrap64 ((x0.length : Int) - x8)) < (wrap64 (x7 + 4)) then (some ((([] : List Int)), x1, 2)) else (if 0 ≤ x1 then (if x1 ≤ (wrap64 (x8 + x7)) then (if (wrap64 (x8 + x7)) ≤ (x0.length : Int) then ((spec_Sum.f k ((x0.take ((wrap64 (x8 + x7)) : Int).toNat).drop (x1 : Int).toNat)).bind fun t181 => ((spec_l3Little.f t181).bind fun t182 => (if 0 ≤ (wrap64 (x8 + x7)) then (if (wrap64 (x8 + x7)) ≤ (wrap64 ((wrap64 (x8 + x7)) + 4)) then (if (wrap64 ((wrap64 (x8 + x7)) + 4)) ≤ (x0.length : Int) then ((spec_l3Same.f k t182 ((x0.take ((wrap64 ((wrap64 (x8 + x7)) + 4)) : Int).toNat).drop ((wrap64 (x8 + x7)) : Int).toNat)).bind fun t186 => (if t186 = true then ((some (([] : List Int) : List Int)).bind fun y187 => (if 0 ≤ x8 then (if x8 ≤ (wrap64 (x8 + x7)) then (if y187.length + ((x0.take ((wrap64 (x8 + x7)) : Int).toNat).drop (x8 : Int).toNat).length < 140737488355328 then (some ((y187 ++ ((x0.take ((wrap64 (x8 + x7)) : Int).toNat).drop (x8 : Int).toNat)), wrap64 ((wrap64 (x8 + x7)) + 4), 0)) else (none)) else (none)) else (none))) else (some ((([] : List Int)), x1, 3)))) else (none)) else (none)) else (none)))) else (none)) else (none)) else (none)))
def spec_Unframe.f (k : Nat) (l0 : List Int) (a1 : Int) : Option (List Int × Int × Int) := (spec_l1In.f a1 0 (l0.length : Int)).bind fun t159 => (if t159 = true then (if a1 = (l0.length : Int) then (some ((([] : List Int)), a1, 1)) else ((spec_GetNum.f k l0 a1).bind fun bt166 => ((spec_l3Short.f k l0 a1).bind fun t169 => (if t169 = true then (some ((([] : List Int)), a1, 2)) else (if bt166.2.2 = true then ((spec_l1In.f bt166.1 0 20000).bind fun t173 => (spec_Unframe.j0 k l0 a1 bt166.1 bt166.2.1 (!t173))) else (spec_Unframe.j0 k l0 a1 bt166.1 bt166.2.1 true)))))) else (some ((([] : List Int)), a1, 3)))
theorem spec_Unframe.mono_l : ∀ k, (∀ y0 y1 y2 y3 y4, LeO (spec_Unframe.j0 k y0 y1 y2 y3 y4) (spec_Unframe.j0 (k + 1) y0 y1 y2 y3 y4))
  | 0 => fun _ _ _ _ _ r h => by simp [spec_Unframe.j0] at h
  | k + 1 => by
    have ih0 := spec_Unframe.mono_l k
    · intro y0 y1 y2 y3 y4
      unfold spec_Unframe.j0
      repeat' first
      | (with_reducible exact ih0 _ _ _ _ _)
      | (with_reducible exact spec_GetNum.mono _ _ _)
      | (with_reducible exact spec_Sum.mono _ _)
      | (with_reducible exact spec_l3Same.mono _ _ _)
      | (with_reducible exact spec_l3Short.mono _ _ _)
      | (with_reducible exact LeO.refl _)
      | (with_reducible exact LeO.none _)
      | (with_reducible refine LeO.ite ?_ ?_)
      | (with_reducible refine LeO.bind ?_ (fun _ => ?_))
      | exact ih0 _ _ _ _ _
      | exact spec_GetNum.mono _ _ _
      | exact spec_Sum.mono _ _
      | exact spec_l3Same.mono _ _ _
      | exact spec_l3Short.mono _ _ _
      | exact LeO.none _
      | refine LeO.ite ?_ ?_
      | refine LeO.bind ?_ (fun _ => ?_)
theorem spec_Unframe.mono : ∀ a0 a1 k, LeO (spec_Unframe.f k a0 a1) (spec_Unframe.f (k + 1) a0 a1) := by
  intro a0 a1 k
  have ih0 := spec_Unframe.mono_l k
  unfold spec_Unframe.f
  repeat' first
      | (with_reducible exact ih0 _ _ _ _ _)
      | (with_reducible exact spec_GetNum.mono _ _ _)
      | (with_reducible exact spec_Sum.mono _ _)
      | (with_reducible exact spec_l3Same.mono _ _ _)
      | (with_reducible exact spec_l3Short.mono _ _ _)
      | (with_reducible exact LeO.refl _)
      | (with_reducible exact LeO.none _)
      | (with_reducible refine LeO.ite ?_ ?_)
      | (with_reducible refine LeO.bind ?_ (fun _ => ?_))
      | exact ih0 _ _ _ _ _
      | exact spec_GetNum.mono _ _ _
      | exact spec_Sum.mono _ _
      | exact spec_l3Same.mono _ _ _
      | exact spec_l3Short.mono _ _ _
      | exact LeO.none _
      | refine LeO.ite ?_ ?_
      | refine LeO.bind ?_ (fun _ => ?_)
def spec_Unframe.T12 : Bool × List (List Nat × List Nat) := (true, [([], []), ([], []), ([], []), ([], []), ([2, 3], [2, 3]), ([0, 1, 4], [0, 1, 4]), ([5], [5]), ([6, 6], [6]), ([], []), ([], []), ([], []), ([9, 10], [9, 10]), ([], []), ([], []), ([12, 13], [12, 13]), ([14], [14]), ([8, 11, 15], [8, 11, 15]), ([7, 16, 7], [7, 16]), ([17], [17]), ([18, 17], [18])])
def spec_Unframe.B12 : List Nat := [0, 0, 0, 0, 12, 31, 63, 127, 0, 0, 0, 1536, 0, 0, 12288, 28672, 65280, 131071, 262143, 524287]
theorem spec_Unframe.tab12 : rtab .any (opsOf Try.f46 12) = spec_Unframe.T12 := by kernel_rfl
theorem spec_Unframe.bits12 : waitsOk spec_Unframe.T12.2 spec_Unframe.B12 = true := by kernel_rfl
set_option maxHeartbeats 8000000 in
set_option maxRecDepth 100000 in
theorem spec_Unframe.calls (k : Nat) (A0 : Option Addr) (c0 : Nat) (l0 : List Int) (a1 : Int) (r1 : List Int) (r2 : Int) (r3 : Int) (w : World) (hr0 : Kd.C (Kd.int .u8) w A0 l0.length l0) (hc0 : l0.length ≤ c0) (h : spec_Unframe.f k l0 a1 = some (r1, r2, r3)) :
    Calls Try.prog 46 #[.slice A0 l0.length c0, .int .i64 a1] w fun e w' => ∃ v0_ : Value, e = .returned (.tuple #[v0_, .int .i64 r2, .int .i64 r3]) ∧ Kd.R (Kd.int .u8) 5 w' w.heap.size (fun _ => True) v0_ r1 ∧ Below w.heap.size w w' := by
  have HR0 := Aside0.mk hr0
  have HC0 := Aside0.mk hc0
  clear hr0 hc0
  have HB := Aside0.mk (Below.refl w.heap.size w)
  have H : ((spec_l1In.f a1 0 (l0.length : Int)).bind fun t159 => (if t159 = true then (if a1 = (l0.length : Int) then (some ((([] : List Int)), a1, 1)) else ((spec_GetNum.f k l0 a1).bind fun bt166 => ((spec_l3Short.f k l0 a1).bind fun t169 => (if t169 = true then (some ((([] : List Int)), a1, 2)) else (if bt166.2.2 = true then ((spec_l1In.f bt166.1 0 20000).bind fun t173 => (spec_Unframe.j0 k l0 a1 bt166.1 bt166.2.1 (!t173))) else (spec_Unframe.j0 k l0 a1 bt166.1 bt166.2.1 true)))))) else (some ((([] : List Int)), a1, 3)))) = some (r1, r2, r3) := h
  clear h
  replace H := Option.bind_eq_some_iff.mp H
  obtain ⟨t159, A30, H⟩ := H
  replace H : (if t159 = true then (if a1 = (l0.length : Int) then (some ((([] : List Int)), a1, 1)) else ((spec_GetNum.f k l0 a1).bind fun bt166 => ((spec_l3Short.f k l0 a1).bind fun t169 => (if t169 = true then (some ((([] : List Int)), a1, 2)) else (if bt166.2.2 = true then ((spec_l1In.f bt166.1 0 20000).bind fun t173 => (spec_Unframe.j0 k l0 a1 bt166.1 bt166.2.1 (!t173))) else (spec_Unframe.j0 k l0 a1 bt166.1 bt166.2.1 true)))))) else (some ((([] : List Int)), a1, 3))) = some (r1, r2, r3) := H
  have A3 := Aside0.mk A30
  clear A30
  by_cases c4 : t159 = true
  · subst c4
    have H1 : (if a1 = (l0.length : Int) then (some ((([] : List Int)), a1, 1)) else ((spec_GetNum.f k l0 a1).bind fun bt166 => ((spec_l3Short.f k l0 a1).bind fun t169 => (if t169 = true then (some ((([] : List Int)), a1, 2)) else (if bt166.2.2 = true then ((spec_l1In.f bt166.1 0 20000).bind fun t173 => (spec_Unframe.j0 k l0 a1 bt166.1 bt166.2.1 (!t173))) else (spec_Unframe.j0 k l0 a1 bt166.1 bt166.2.1 true)))))) = some (r1, r2, r3) := by rw [if_pos rfl] at H; exact H
    clear H
    have H := H1
    clear H1
    by_cases c5 : a1 = (l0.length : Int)
    · rw [if_pos c5] at H
      have c5b0 : (a1 == (l0.length : Int)) = true := beq_iff_eq.mpr c5
      have c5b1 : (a1 != (l0.length : Int)) = false := bne_eq_false_iff_eq.mpr c5
      clear c5
      obtain ⟨y163, hy163⟩ : ∃ y_ : List Int, y_ = (([] : List Int)) := ⟨_, rfl⟩
      replace H : (some (y163, a1, 1)) = some (r1, r2, r3) := by first | (rw [hy163]; with_reducible exact H) | (have H2_ := (Option.bind_some _ _).symm.trans H; rw [hy163]; with_reducible exact H2_) | (have H2_ := (Option.bind_some _ _).symm.trans H; with_reducible exact H2_) | with_reducible exact H | (rw [hy163]; exact H) | exact H
      have Ny163 := Aside0.mk hy163
      clear hy163
      simp only [Option.some.injEq, Prod.mk.injEq] at H
      obtain ⟨rfl, rfl, rfl⟩ := H
      go_enter Try.func46, Try.ntmps46
      go_wp2_with (first | ((with_reducible refine gate_callee (f := 75) rfl ?_); refine goesL_ (some 13) rfl rfl Try.func75 (by kernel_rfl) rfl #[.int .i64 a1, .int .i64 0, .int .i64 (l0.length : Int)] rfl (by (try simp only [List.map_toArray, List.map_cons, List.map_nil]); first | done | rfl | (simp only [List.length_drop, List.length_take]; rfl)) ?_; (with_reducible refine (spec_l1In.calls a1 0 (l0.length : Int) true _ A3.out).mono ?_); rintro e w' ⟨rfl, ⟨nd, rfl⟩⟩; refine ⟨_, rfl, ?_⟩) | ((with_reducible refine gate_dst (N := 21) rfl ?_); refine Kd.R_lit (Kd.int .u8) _ 5 ?hg (N := 21) ?hd (xs := ([] : List Int)) (inner := []) (ok := fun _ => True) (okp := fun _ => True) ?hr ?hp (fun _ hk => hk) trivial (Below.refl _ _) (Nat.le_refl _) (by simp) ?_; (case hd => rfl); (case hg => rfl); (case hr => first | (go_simp; done) | (go_simp; rfl)); (case hp => exact (Reps.none _ _)); intro v164 w6 ho7 hb hg_ hnew_; clear hg_ hnew_; (first | rw [← Ny163.out] at ho7 | (simp only [Int.reduceToNat] at ho7; rw [← Ny163.out] at ho7)); have n0_ := Aside0.mk (Kd.R_lower ho7 (below_size (by repeat (first | (with_reducible first | exact HB.out | apply below_alloc | apply pw_below_drewN | apply below_drew1) | exact HB.out)))); have n1_ := Aside0.mk (below_step (by repeat (first | (with_reducible first | exact HB.out | apply below_alloc | apply pw_below_drewN | apply below_drew1) | exact HB.out)) hb); clear HB; have HO165 := n0_; have HB := n1_; clear n0_ n1_; clear hb ho7))
      go_ret3
      exact ⟨_, by first | rfl | (simp [errW_none, errW_some] <;> rfl) | (simp [*, errW_none, errW_some] <;> rfl), by (with_reducible repeat (first | apply Kd.R_alloc | apply Kd.R_drewN | apply Kd.R_drew)); exact HO165.out, by repeat (first | (with_reducible first | exact HB.out | apply below_alloc | apply pw_below_drewN | apply below_drew1) | exact HB.out)⟩
    · rw [if_neg c5] at H
      have c5b0 : (a1 == (l0.length : Int)) = false := beq_eq_false_iff_ne.mpr c5
      have c5b1 : (a1 != (l0.length : Int)) = true := bne_iff_ne.mpr c5
      replace H := Option.bind_eq_some_iff.mp H
      obtain ⟨⟨t166, t167, t168⟩, A80, H⟩ := H
      replace H : ((spec_l3Short.f k l0 a1).bind fun t169 => (if t169 = true then (some ((([] : List Int)), a1, 2)) else (if t168 = true then ((spec_l1In.f t166 0 20000).bind fun t173 => (spec_Unframe.j0 k l0 a1 t166 t167 (!t173))) else (spec_Unframe.j0 k l0 a1 t166 t167 true)))) = some (r1, r2, r3) := H
      have A8 := Aside0.mk A80
      clear A80
      replace H := Option.bind_eq_some_iff.mp H
      obtain ⟨t169, A90, H⟩ := H
      replace H : (if t169 = true then (some ((([] : List Int)), a1, 2)) else (if t168 = true then ((spec_l1In.f t166 0 20000).bind fun t173 => (spec_Unframe.j0 k l0 a1 t166 t167 (!t173))) else (spec_Unframe.j0 k l0 a1 t166 t167 true))) = some (r1, r2, r3) := H
      have A9 := Aside0.mk A90
      clear A90
      by_cases c10 : t169 = true
      · subst c10
        have H1 : (some ((([] : List Int)), a1, 2)) = some (r1, r2, r3) := by rw [if_pos rfl] at H; exact H
        clear H
        have H := H1
        clear H1
        obtain ⟨y170, hy170⟩ : ∃ y_ : List Int, y_ = (([] : List Int)) := ⟨_, rfl⟩
        replace H : (some (y170, a1, 2)) = some (r1, r2, r3) := by first | (rw [hy170]; with_reducible exact H) | (have H2_ := (Option.bind_some _ _).symm.trans H; rw [hy170]; with_reducible exact H2_) | (have H2_ := (Option.bind_some _ _).symm.trans H; with_reducible exact H2_) | with_reducible exact H | (rw [hy170]; exact H) | exact H
        have Ny170 := Aside0.mk hy170
        clear hy170
        simp only [Option.some.injEq, Prod.mk.injEq] at H
        obtain ⟨rfl, rfl, rfl⟩ := H
        go_enter Try.func46, Try.ntmps46
        go_wp2_with (first | ((with_reducible refine gate_callee (f := 75) rfl ?_); refine goesL_ (some 13) rfl rfl Try.func75 (by kernel_rfl) rfl #[.int .i64 a1, .int .i64 0, .int .i64 (l0.length : Int)] rfl (by (try simp only [List.map_toArray, List.map_cons, List.map_nil]); first | done | rfl | (simp only [List.length_drop, List.length_take]; rfl)) ?_; (with_reducible refine (spec_l1In.calls a1 0 (l0.length : Int) true _ A3.out).mono ?_); rintro e w' ⟨rfl, ⟨nd, rfl⟩⟩; refine ⟨_, rfl, ?_⟩) | ((with_reducible refine gate_callee (f := 96) rfl ?_); refine goesL_ (some 26) rfl rfl Try.func96 (by kernel_rfl) rfl #[.slice A0 l0.length c0, .int .i64 a1] rfl (by (try simp only [List.map_toArray, List.map_cons, List.map_nil]); first | done | rfl | (simp only [List.length_drop, List.length_take]; rfl)) ?_; (with_reducible refine (spec_GetNum.calls k _ _ l0 a1 t166 t167 t168 _ ?side1 ?side2 A8.out).mono ?_); (case side1 => repeat (first | exact HR0.out | (with_reducible refine Kd.C_alloc ?_ _) | (with_reducible refine Kd.C_drewN ?_ _) | (with_reducible refine Kd.C_drew ?_))); (case side2 => exact HC0.out); rintro e w' ⟨rfl, ⟨nd, rfl⟩⟩; refine ⟨_, rfl, ?_⟩) | ((with_reducible refine gate_callee (f := 97) rfl ?_); refine goesL_ (some 33) rfl rfl Try.func97 (by kernel_rfl) rfl #[.slice A0 l0.length c0, .int .i64 a1] rfl (by (try simp only [List.map_toArray, List.map_cons, List.map_nil]); first | done | rfl | (simp only [List.length_drop, List.length_take]; rfl)) ?_; (with_reducible refine (spec_l3Short.calls k _ _ l0 a1 true _ ?side1 ?side2 A9.out).mono ?_); (case side1 => repeat (first | exact HR0.out | (with_reducible refine Kd.C_alloc ?_ _) | (with_reducible refine Kd.C_drewN ?_ _) | (with_reducible refine Kd.C_drew ?_))); (case side2 => exact HC0.out); rintro e w' ⟨rfl, ⟨nd, rfl⟩⟩; refine ⟨_, rfl, ?_⟩) | ((with_reducible refine gate_dst (N := 34) rfl ?_); refine Kd.R_lit (Kd.int .u8) _ 5 ?hg (N := 34) ?hd (xs := ([] : List Int)) (inner := []) (ok := fun _ => True) (okp := fun _ => True) ?hr ?hp (fun _ hk => hk) trivial (Below.refl _ _) (Nat.le_refl _) (by simp) ?_; (case hd => rfl); (case hg => rfl); (case hr => first | (go_simp; done) | (go_simp; rfl)); (case hp => exact (Reps.none _ _)); intro v171 w11 ho12 hb hg_ hnew_; clear hg_ hnew_; (first | rw [← Ny170.out] at ho12 | (simp only [Int.reduceToNat] at ho12; rw [← Ny170.out] at ho12)); have n0_ := Aside0.mk (Kd.R_lower ho12 (below_size (by repeat (first | (with_reducible first | exact HB.out | apply below_alloc | apply pw_below_drewN | apply below_drew1) | exact HB.out)))); have n1_ := Aside0.mk (below_step (by repeat (first | (with_reducible first | exact HB.out | apply below_alloc | apply pw_below_drewN | apply below_drew1) | exact HB.out)) hb); clear HB; have HO172 := n0_; have HB := n1_; clear n0_ n1_; clear hb ho12))
        go_ret3
        exact ⟨_, by first | rfl | (simp [errW_none, errW_some] <;> rfl) | (simp [*, errW_none, errW_some] <;> rfl), by (with_reducible repeat (first | apply Kd.R_alloc | apply Kd.R_drewN | apply Kd.R_drew)); exact HO172.out, by repeat (first | (with_reducible first | exact HB.out | apply below_alloc | apply pw_below_drewN | apply below_drew1) | exact HB.out)⟩
      · replace c10 := Bool.eq_false_iff.mpr c10
        subst c10
        have H1 : (if t168 = true then ((spec_l1In.f t166 0 20000).bind fun t173 => (spec_Unframe.j0 k l0 a1 t166 t167 (!t173))) else (spec_Unframe.j0 k l0 a1 t166 t167 true)) = some (r1, r2, r3) := by rw [if_neg (show ¬ (false = true) by decide)] at H; exact H
        clear H
        have H := H1
        clear H1
        have HC13 := Aside0.mk H
        clear H
        go_enter Try.func46, Try.ntmps46
        go_upto_region 8 with (first | ((with_reducible refine gate_callee (f := 75) rfl ?_); refine goesL_ (some 13) rfl rfl Try.func75 (by kernel_rfl) rfl #[.int .i64 a1, .int .i64 0, .int .i64 (l0.length : Int)] rfl (by (try simp only [List.map_toArray, List.map_cons, List.map_nil]); first | done | rfl | (simp only [List.length_drop, List.length_take]; rfl)) ?_; (with_reducible refine (spec_l1In.calls a1 0 (l0.length : Int) true _ A3.out).mono ?_); rintro e w' ⟨rfl, ⟨nd, rfl⟩⟩; refine ⟨_, rfl, ?_⟩) | ((with_reducible refine gate_callee (f := 96) rfl ?_); refine goesL_ (some 26) rfl rfl Try.func96 (by kernel_rfl) rfl #[.slice A0 l0.length c0, .int .i64 a1] rfl (by (try simp only [List.map_toArray, List.map_cons, List.map_nil]); first | done | rfl | (simp only [List.length_drop, List.length_take]; rfl)) ?_; (with_reducible refine (spec_GetNum.calls k _ _ l0 a1 t166 t167 t168 _ ?side1 ?side2 A8.out).mono ?_); (case side1 => repeat (first | exact HR0.out | (with_reducible refine Kd.C_alloc ?_ _) | (with_reducible refine Kd.C_drewN ?_ _) | (with_reducible refine Kd.C_drew ?_))); (case side2 => exact HC0.out); rintro e w' ⟨rfl, ⟨nd, rfl⟩⟩; refine ⟨_, rfl, ?_⟩) | ((with_reducible refine gate_callee (f := 97) rfl ?_); refine goesL_ (some 33) rfl rfl Try.func97 (by kernel_rfl) rfl #[.slice A0 l0.length c0, .int .i64 a1] rfl (by (try simp only [List.map_toArray, List.map_cons, List.map_nil]); first | done | rfl | (simp only [List.length_drop, List.length_take]; rfl)) ?_; (with_reducible refine (spec_l3Short.calls k _ _ l0 a1 false _ ?side1 ?side2 A9.out).mono ?_); (case side1 => repeat (first | exact HR0.out | (with_reducible refine Kd.C_alloc ?_ _) | (with_reducible refine Kd.C_drewN ?_ _) | (with_reducible refine Kd.C_drew ?_))); (case side2 => exact HC0.out); rintro e w' ⟨rfl, ⟨nd, rfl⟩⟩; refine ⟨_, rfl, ?_⟩))
        (try simp only [Act.put, List.setIfInBounds_toArray, List.set_cons_zero, List.set_cons_succ])
        go_cut [36] (fun v36 wc => ∃ (kq : Nat) (x36_12 : Bool), v36 = .bool x36_12 ∧ Aside0 (spec_Unframe.j0 kq l0 a1 t166 t167 x36_12 = some (r1, r2, r3)) ∧ Aside0 (kq ≤ k) ∧ Aside0 (Below w.heap.size w wc))
        case first =>
          have H := HC13.out
          clear HC13
          by_cases c14 : t168 = true
          · subst c14
            have H1 : ((spec_l1In.f t166 0 20000).bind fun t173 => (spec_Unframe.j0 k l0 a1 t166 t167 (!t173))) = some (r1, r2, r3) := by rw [if_pos rfl] at H; exact H
            clear H
            have H := H1
            clear H1
            replace H := Option.bind_eq_some_iff.mp H
            obtain ⟨t173, A150, H⟩ := H
            replace H : (spec_Unframe.j0 k l0 a1 t166 t167 (!t173)) = some (r1, r2, r3) := H
            have A15 := Aside0.mk A150
            clear A150
            have H' := Aside0.mk H
            clear H
            go_wp2_with (first | (go_at_call 75; (with_reducible refine (spec_l1In.calls t166 0 20000 t173 _ A15.out).mono ?_); rintro e w' ⟨rfl, ⟨nd, rfl⟩⟩))
            go_meet
            case rel => exact ⟨_, (!t173), (by first | rfl | (simp; done) | (simp [*]; done)), H', ⟨by first | omega | exact Nat.le_refl _⟩, ⟨by repeat (first | (with_reducible first | exact HB.out | apply below_alloc | apply pw_below_drewN | apply below_drew1) | exact HB.out)⟩⟩
          · replace c14 := Bool.eq_false_iff.mpr c14
            subst c14
            have H1 : (spec_Unframe.j0 k l0 a1 t166 t167 true) = some (r1, r2, r3) := by rw [if_neg (show ¬ (false = true) by decide)] at H; exact H
            clear H
            have H := H1
            clear H1
            have H' := Aside0.mk H
            clear H
            go_wp2
            go_meet
            case rel => exact ⟨_, (true), (by first | rfl | (simp; done) | (simp [*]; done)), H', ⟨by first | omega | exact Nat.le_refl _⟩, ⟨by repeat (first | (with_reducible first | exact HB.out | apply below_alloc | apply pw_below_drewN | apply below_drew1) | exact HB.out)⟩⟩
        case rest =>
          clear HC13
          try clear c1
          try clear p2
          try clear c4
          try clear c5
          try clear c5b0
          try clear c5b1
          try clear c7
          try clear c9
          try clear c10
          try clear c14
          obtain ⟨kq, x36_12, rfl, HA, HJ12, HB⟩ := hcut
          cases kq with
          | zero => exact absurd HA.out (by simp [spec_Unframe.j0])
          | succ kj12 =>
            have H := HA.out
            clear HA
            simp only [spec_Unframe.j0] at H
            by_cases c16 : x36_12 = true
            · subst c16
              have H1 : (some ((([] : List Int)), a1, 3)) = some (r1, r2, r3) := by rw [if_pos rfl] at H; exact H
              clear H
              have H := H1
              clear H1
              obtain ⟨y174, hy174⟩ : ∃ y_ : List Int, y_ = (([] : List Int)) := ⟨_, rfl⟩
              replace H : (some (y174, a1, 3)) = some (r1, r2, r3) := by first | (rw [hy174]; with_reducible exact H) | (have H2_ := (Option.bind_some _ _).symm.trans H; rw [hy174]; with_reducible exact H2_) | (have H2_ := (Option.bind_some _ _).symm.trans H; with_reducible exact H2_) | with_reducible exact H | (rw [hy174]; exact H) | exact H
              have Ny174 := Aside0.mk hy174
              clear hy174
              simp only [Option.some.injEq, Prod.mk.injEq] at H
              obtain ⟨rfl, rfl, rfl⟩ := H
              go_wp2_with (first | ((with_reducible refine gate_dst (N := 44) rfl ?_); refine Kd.R_lit (Kd.int .u8) _ 5 ?hg (N := 44) ?hd (xs := ([] : List Int)) (inner := []) (ok := fun _ => True) (okp := fun _ => True) ?hr ?hp (fun _ hk => hk) trivial (Below.refl _ _) (Nat.le_refl _) (by simp) ?_; (case hd => rfl); (case hg => rfl); (case hr => first | (go_simp; done) | (go_simp; rfl)); (case hp => exact (Reps.none _ _)); intro v175 w17 ho18 hb hg_ hnew_; clear hg_ hnew_; (first | rw [← Ny174.out] at ho18 | (simp only [Int.reduceToNat] at ho18; rw [← Ny174.out] at ho18)); have n0_ := Aside0.mk (Kd.R_lower ho18 (below_size (by repeat (first | (with_reducible first | exact HB.out | apply below_alloc | apply pw_below_drewN | apply below_drew1) | exact HB.out)))); have n1_ := Aside0.mk (below_step (by repeat (first | (with_reducible first | exact HB.out | apply below_alloc | apply pw_below_drewN | apply below_drew1) | exact HB.out)) hb); clear HB; have HO176 := n0_; have HB := n1_; clear n0_ n1_; clear hb ho18))
              go_ret3
              exact ⟨_, by first | rfl | (simp [errW_none, errW_some] <;> rfl) | (simp [*, errW_none, errW_some] <;> rfl), by (with_reducible repeat (first | apply Kd.R_alloc | apply Kd.R_drewN | apply Kd.R_drew)); exact HO176.out, by repeat (first | (with_reducible first | exact HB.out | apply below_alloc | apply pw_below_drewN | apply below_drew1) | exact HB.out)⟩
            · replace c16 := Bool.eq_false_iff.mpr c16
              subst c16
              have H1 : (if (wrap64 ((l0.length : Int) - t167)) < (wrap64 (t166 + 4)) then (some ((([] : List Int)), a1, 2)) else (if 0 ≤ a1 then (if a1 ≤ (wrap64 (t167 + t166)) then (if (wrap64 (t167 + t166)) ≤ (l0.length : Int) then ((spec_Sum.f kj12 ((l0.take ((wrap64 (t167 + t166)) : Int).toNat).drop (a1 : Int).toNat)).bind fun t181 => ((spec_l3Little.f t181).bind fun t182 => (if 0 ≤ (wrap64 (t167 + t166)) then (if (wrap64 (t167 + t166)) ≤ (wrap64 ((wrap64 (t167 + t166)) + 4)) then (if (wrap64 ((wrap64 (t167 + t166)) + 4)) ≤ (l0.length : Int) then ((spec_l3Same.f kj12 t182 ((l0.take ((wrap64 ((wrap64 (t167 + t166)) + 4)) : Int).toNat).drop ((wrap64 (t167 + t166)) : Int).toNat)).bind fun t186 => (if t186 = true then ((some (([] : List Int) : List Int)).bind fun y187 => (if 0 ≤ t167 then (if t167 ≤ (wrap64 (t167 + t166)) then (if y187.length + ((l0.take ((wrap64 (t167 + t166)) : Int).toNat).drop (t167 : Int).toNat).length < 140737488355328 then (some ((y187 ++ ((l0.take ((wrap64 (t167 + t166)) : Int).toNat).drop (t167 : Int).toNat)), wrap64 ((wrap64 (t167 + t166)) + 4), 0)) else (none)) else (none)) else (none))) else (some ((([] : List Int)), a1, 3)))) else (none)) else (none)) else (none)))) else (none)) else (none)) else (none))) = some (r1, r2, r3) := by rw [if_neg (show ¬ (false = true) by decide)] at H; exact H
              clear H
              have H := H1
              clear H1
              by_cases c19 : (wrap64 ((l0.length : Int) - t167)) < (wrap64 (t166 + 4))
              · rw [if_pos c19] at H
                have c19b0 : decide ((wrap64 ((l0.length : Int) - t167)) < (wrap64 (t166 + 4))) = true := decide_eq_true c19
                clear c19
                obtain ⟨y177, hy177⟩ : ∃ y_ : List Int, y_ = (([] : List Int)) := ⟨_, rfl⟩
                replace H : (some (y177, a1, 2)) = some (r1, r2, r3) := by first | (rw [hy177]; with_reducible exact H) | (have H2_ := (Option.bind_some _ _).symm.trans H; rw [hy177]; with_reducible exact H2_) | (have H2_ := (Option.bind_some _ _).symm.trans H; with_reducible exact H2_) | with_reducible exact H | (rw [hy177]; exact H) | exact H
                have Ny177 := Aside0.mk hy177
                clear hy177
                simp only [Option.some.injEq, Prod.mk.injEq] at H
                obtain ⟨rfl, rfl, rfl⟩ := H
                go_wp2_with (first | ((with_reducible refine gate_dst (N := 54) rfl ?_); refine Kd.R_lit (Kd.int .u8) _ 5 ?hg (N := 54) ?hd (xs := ([] : List Int)) (inner := []) (ok := fun _ => True) (okp := fun _ => True) ?hr ?hp (fun _ hk => hk) trivial (Below.refl _ _) (Nat.le_refl _) (by simp) ?_; (case hd => rfl); (case hg => rfl); (case hr => first | (go_simp; done) | (go_simp; rfl)); (case hp => exact (Reps.none _ _)); intro v178 w20 ho21 hb hg_ hnew_; clear hg_ hnew_; (first | rw [← Ny177.out] at ho21 | (simp only [Int.reduceToNat] at ho21; rw [← Ny177.out] at ho21)); have n0_ := Aside0.mk (Kd.R_lower ho21 (below_size (by repeat (first | (with_reducible first | exact HB.out | apply below_alloc | apply pw_below_drewN | apply below_drew1) | exact HB.out)))); have n1_ := Aside0.mk (below_step (by repeat (first | (with_reducible first | exact HB.out | apply below_alloc | apply pw_below_drewN | apply below_drew1) | exact HB.out)) hb); clear HB; have HO179 := n0_; have HB := n1_; clear n0_ n1_; clear hb ho21))
                go_ret3
                exact ⟨_, by first | rfl | (simp [errW_none, errW_some] <;> rfl) | (simp [*, errW_none, errW_some] <;> rfl), by (with_reducible repeat (first | apply Kd.R_alloc | apply Kd.R_drewN | apply Kd.R_drew)); exact HO179.out, by repeat (first | (with_reducible first | exact HB.out | apply below_alloc | apply pw_below_drewN | apply below_drew1) | exact HB.out)⟩
              · rw [if_neg c19] at H
                have c19b0 : decide ((wrap64 ((l0.length : Int) - t167)) < (wrap64 (t166 + 4))) = false := decide_eq_false c19
                clear c19
                by_cases c22 : 0 ≤ a1
                · rw [if_pos c22] at H
                  have c22b0 := eq_true c22
                  have c22b1 : decide (0 ≤ a1) = true := decide_eq_true c22
                  clear c22
                  by_cases c23 : a1 ≤ (wrap64 (t167 + t166))
                  · rw [if_pos c23] at H
                    have c23b0 := eq_true c23
                    have c23b1 : decide (a1 ≤ (wrap64 (t167 + t166))) = true := decide_eq_true c23
                    by_cases c24 : (wrap64 (t167 + t166)) ≤ (l0.length : Int)
                    · rw [if_pos c24] at H
                      have c24b0 := eq_true c24
                      have c24b1 : decide ((wrap64 (t167 + t166)) ≤ (l0.length : Int)) = true := decide_eq_true c24
                      replace H := Option.bind_eq_some_iff.mp H
                      obtain ⟨t181, A250, H⟩ := H
                      replace H : ((spec_l3Little.f t181).bind fun t182 => (if 0 ≤ (wrap64 (t167 + t166)) then (if (wrap64 (t167 + t166)) ≤ (wrap64 ((wrap64 (t167 + t166)) + 4)) then (if (wrap64 ((wrap64 (t167 + t166)) + 4)) ≤ (l0.length : Int) then ((spec_l3Same.f kj12 t182 ((l0.take ((wrap64 ((wrap64 (t167 + t166)) + 4)) : Int).toNat).drop ((wrap64 (t167 + t166)) : Int).toNat)).bind fun t186 => (if t186 = true then ((some (([] : List Int) : List Int)).bind fun y187 => (if 0 ≤ t167 then (if t167 ≤ (wrap64 (t167 + t166)) then (if y187.length + ((l0.take ((wrap64 (t167 + t166)) : Int).toNat).drop (t167 : Int).toNat).length < 140737488355328 then (some ((y187 ++ ((l0.take ((wrap64 (t167 + t166)) : Int).toNat).drop (t167 : Int).toNat)), wrap64 ((wrap64 (t167 + t166)) + 4), 0)) else (none)) else (none)) else (none))) else (some ((([] : List Int)), a1, 3)))) else (none)) else (none)) else (none))) = some (r1, r2, r3) := H
                      have A25 := Aside0.mk A250
                      clear A250
                      replace H := Option.bind_eq_some_iff.mp H
                      obtain ⟨t182, A260, H⟩ := H
                      replace H : (if 0 ≤ (wrap64 (t167 + t166)) then (if (wrap64 (t167 + t166)) ≤ (wrap64 ((wrap64 (t167 + t166)) + 4)) then (if (wrap64 ((wrap64 (t167 + t166)) + 4)) ≤ (l0.length : Int) then ((spec_l3Same.f kj12 t182 ((l0.take ((wrap64 ((wrap64 (t167 + t166)) + 4)) : Int).toNat).drop ((wrap64 (t167 + t166)) : Int).toNat)).bind fun t186 => (if t186 = true then ((some (([] : List Int) : List Int)).bind fun y187 => (if 0 ≤ t167 then (if t167 ≤ (wrap64 (t167 + t166)) then (if y187.length + ((l0.take ((wrap64 (t167 + t166)) : Int).toNat).drop (t167 : Int).toNat).length < 140737488355328 then (some ((y187 ++ ((l0.take ((wrap64 (t167 + t166)) : Int).toNat).drop (t167 : Int).toNat)), wrap64 ((wrap64 (t167 + t166)) + 4), 0)) else (none)) else (none)) else (none))) else (some ((([] : List Int)), a1, 3)))) else (none)) else (none)) else (none)) = some (r1, r2, r3) := H
                      have A26 := Aside0.mk A260
                      clear A260
                      obtain ⟨ji27, hji27⟩ : ∃ j_ : Int, (wrap64 (t167 + t166)) = j_ := ⟨_, rfl⟩
                      replace H : (if 0 ≤ (ji27) then (if (ji27) ≤ (wrap64 ((ji27) + 4)) then (if (wrap64 ((ji27) + 4)) ≤ (l0.length : Int) then ((spec_l3Same.f kj12 t182 ((l0.take ((wrap64 ((ji27) + 4)) : Int).toNat).drop ((ji27) : Int).toNat)).bind fun t186 => (if t186 = true then ((some (([] : List Int) : List Int)).bind fun y187 => (if 0 ≤ t167 then (if t167 ≤ (ji27) then (if y187.length + ((l0.take ((ji27) : Int).toNat).drop (t167 : Int).toNat).length < 140737488355328 then (some ((y187 ++ ((l0.take ((ji27) : Int).toNat).drop (t167 : Int).toNat)), wrap64 ((ji27) + 4), 0)) else (none)) else (none)) else (none))) else (some ((([] : List Int)), a1, 3)))) else (none)) else (none)) else (none)) = some (r1, r2, r3) := by first | (rw [hji27] at H; exact H) | (simp only [hji27] at H ⊢; exact H)
                      (try rw [hji27] at c23b0)
                      (try rw [hji27] at c23b1)
                      (try rw [hji27] at c23)
                      (try rw [hji27] at c24b0)
                      (try rw [hji27] at c24b1)
                      (try rw [hji27] at c24)
                      (try rw [hji27] at A25)
                      (try rw [hji27] at A26)
                      have hji27w : (IntKind.i64.wrap (t167 + t166)) = ji27 := (i64_w _).trans hji27
                      by_cases c28 : 0 ≤ (ji27)
                      · rw [if_pos c28] at H
                        have c28b0 := eq_true c28
                        have c28b1 : decide (0 ≤ (ji27)) = true := decide_eq_true c28
                        clear c28
                        by_cases c29 : (ji27) ≤ (wrap64 ((ji27) + 4))
                        · rw [if_pos c29] at H
                          have c29b0 := eq_true c29
                          have c29b1 : decide ((ji27) ≤ (wrap64 ((ji27) + 4))) = true := decide_eq_true c29
                          by_cases c30 : (wrap64 ((ji27) + 4)) ≤ (l0.length : Int)
                          · rw [if_pos c30] at H
                            have c30b0 := eq_true c30
                            have c30b1 : decide ((wrap64 ((ji27) + 4)) ≤ (l0.length : Int)) = true := decide_eq_true c30
                            replace H := Option.bind_eq_some_iff.mp H
                            obtain ⟨t186, A310, H⟩ := H
                            replace H : (if t186 = true then ((some (([] : List Int) : List Int)).bind fun y187 => (if 0 ≤ t167 then (if t167 ≤ (ji27) then (if y187.length + ((l0.take ((ji27) : Int).toNat).drop (t167 : Int).toNat).length < 140737488355328 then (some ((y187 ++ ((l0.take ((ji27) : Int).toNat).drop (t167 : Int).toNat)), wrap64 ((ji27) + 4), 0)) else (none)) else (none)) else (none))) else (some ((([] : List Int)), a1, 3))) = some (r1, r2, r3) := H
                            have A31 := Aside0.mk A310
                            clear A310
                            by_cases c32 : t186 = true
                            · subst c32
                              have H1 : ((some (([] : List Int) : List Int)).bind fun y187 => (if 0 ≤ t167 then (if t167 ≤ (ji27) then (if y187.length + ((l0.take ((ji27) : Int).toNat).drop (t167 : Int).toNat).length < 140737488355328 then (some ((y187 ++ ((l0.take ((ji27) : Int).toNat).drop (t167 : Int).toNat)), wrap64 ((ji27) + 4), 0)) else (none)) else (none)) else (none))) = some (r1, r2, r3) := by rw [if_pos rfl] at H; exact H
                              clear H
                              have H := H1
                              clear H1
                              obtain ⟨y187, hy187⟩ : ∃ y_ : List Int, y_ = (([] : List Int)) := ⟨_, rfl⟩
                              replace H : (if 0 ≤ t167 then (if t167 ≤ (ji27) then (if y187.length + ((l0.take ((ji27) : Int).toNat).drop (t167 : Int).toNat).length < 140737488355328 then (some ((y187 ++ ((l0.take ((ji27) : Int).toNat).drop (t167 : Int).toNat)), wrap64 ((ji27) + 4), 0)) else (none)) else (none)) else (none)) = some (r1, r2, r3) := by first | (rw [hy187]; with_reducible exact H) | (have H2_ := (Option.bind_some _ _).symm.trans H; rw [hy187]; with_reducible exact H2_) | (have H2_ := (Option.bind_some _ _).symm.trans H; with_reducible exact H2_) | with_reducible exact H | (rw [hy187]; exact H) | exact H
                              have Ny187 := Aside0.mk hy187
                              clear hy187
                              by_cases c33 : 0 ≤ t167
                              · rw [if_pos c33] at H
                                have c33b0 := eq_true c33
                                have c33b1 : decide (0 ≤ t167) = true := decide_eq_true c33
                                clear c33
                                by_cases c34 : t167 ≤ (ji27)
                                · rw [if_pos c34] at H
                                  have c34b0 := eq_true c34
                                  have c34b1 : decide (t167 ≤ (ji27)) = true := decide_eq_true c34
                                  clear c34
                                  have c35b0 := eq_true (of_decide_eq_true (by first | (with_reducible assumption) | assumption) : (ji27) ≤ (l0.length : Int))
                                  by_cases c36 : y187.length + ((l0.take ((ji27) : Int).toNat).drop (t167 : Int).toNat).length < 140737488355328
                                  · rw [if_pos c36] at H
                                    have LMc36 := Aside0.mk c36
                                    clear c36
                                    obtain ⟨y191, hy191⟩ : ∃ y_ : List Int, y_ = (y187 ++ ((l0.take ((ji27) : Int).toNat).drop (t167 : Int).toNat)) := ⟨_, rfl⟩
                                    replace H : (some (y191, wrap64 ((ji27) + 4), 0)) = some (r1, r2, r3) := by first | (rw [hy191]; with_reducible exact H) | (have H2_ := (Option.bind_some _ _).symm.trans H; rw [hy191]; with_reducible exact H2_) | (have H2_ := (Option.bind_some _ _).symm.trans H; with_reducible exact H2_) | with_reducible exact H | (rw [hy191]; exact H) | exact H
                                    have Ny191 := Aside0.mk hy191
                                    clear hy191
                                    simp only [Option.some.injEq, Prod.mk.injEq] at H
                                    obtain ⟨rfl, rfl, rfl⟩ := H
                                    try go_wp2
                                    have n0_ := Aside0.mk (below_drew1 HB.out)
                                    clear HB
                                    have HB := n0_
                                    clear n0_
                                    obtain ⟨i038, hi038, _, hsz38, _⟩ := info_parts info5
                                    obtain ⟨A38, hcut38, hA38, hC38⟩ := print_mid_of (P := Try.prog) (Value.int .u8) 0 38 5 .i64 .i64 Try.underlying38 hi038 hsz38 A0 c0 l0 a1 (ji27) (of_decide_eq_true (by first | (with_reducible assumption) | assumption)) (by first | omega | exact of_decide_eq_true (by first | (with_reducible assumption) | assumption)) (of_decide_eq_true (by first | (with_reducible assumption) | assumption)) HC0.out
                                    have HR180 := Aside0.mk (Kd.C_of_reads (h1 := fun _ => rfl) (hA38 _ (Kd.reads_of_C HR0.out)))
                                    have HC180 := Aside0.mk hC38
                                    clear hA38 hC38 hi038 hsz38; (try (have hcut38s := hcut38; simp only [List.length_drop] at hcut38s))
                                    obtain ⟨i039, hi039, _, hsz39, _⟩ := info_parts info5
                                    obtain ⟨A39, hcut39, hA39, hC39⟩ := print_mid_of (P := Try.prog) (Value.int .u8) 0 38 5 .i64 .i64 Try.underlying38 hi039 hsz39 A0 c0 l0 (ji27) (wrap64 ((ji27) + 4)) (of_decide_eq_true (by first | (with_reducible assumption) | assumption)) (by first | omega | exact of_decide_eq_true (by first | (with_reducible assumption) | assumption)) (of_decide_eq_true (by first | (with_reducible assumption) | assumption)) HC0.out
                                    have HR185 := Aside0.mk (Kd.C_of_reads (h1 := fun _ => rfl) (hA39 _ (Kd.reads_of_C HR0.out)))
                                    have HC185 := Aside0.mk hC39
                                    clear hA39 hC39 hi039 hsz39; (try (have hcut39s := hcut39; simp only [List.length_drop] at hcut39s))
                                    refine start_ (n := 20) (S := fun w' => True) (ds := []) #[false, false, false, false, false, false, false, false, false, false, false, false, false, false, false, false, false, false, false, false] (by kernel_rfl) rfl rfl trivial (fun hHeld => ?_); refine with_tabW spec_Unframe.tab12 spec_Unframe.bits12 (fun HT_ HW_ => ?_)
                                    generalize wc.drew = w37 at HB HR180 HR185 hHeld ⊢
                                    refine pure_ (i := 0) (N := some 57) (v := ?_) (a' := ?_) #[true, false, false, false, false, false, false, false, false, false, false, false, false, false, false, false, false, false, false, false] rfl rfl (any_of HT_.out (by kernel_rfl)) (fun _ _ _ h => h) (Or.inl ⟨by rfl, ?_⟩) ?_ ?_
                                    rotate_left
                                    · intro w'
                                      go_simp
                                      with_reducible rfl
                                    rotate_left
                                    · simp only [Act.put, List.setIfInBounds_toArray, List.set_cons_zero, List.set_cons_succ, i64_w, i32_w]
                                      rfl
                                    refine pure_ (i := 1) (N := some 58) (v := ?_) (a' := ?_) #[true, true, false, false, false, false, false, false, false, false, false, false, false, false, false, false, false, false, false, false] rfl rfl (any_of HT_.out (by kernel_rfl)) (fun _ _ _ h => h) (Or.inl ⟨by rfl, ?_⟩) ?_ ?_
                                    rotate_left
                                    · intro w'
                                      go_simp
                                      with_reducible rfl
                                    rotate_left
                                    · simp only [Act.put, List.setIfInBounds_toArray, List.set_cons_zero, List.set_cons_succ, i64_w, i32_w]
                                      rfl
                                    refine pure_ (i := 2) (N := some 59) (v := ?_) (a' := ?_) #[true, true, true, false, false, false, false, false, false, false, false, false, false, false, false, false, false, false, false, false] rfl rfl (any_of HT_.out (by kernel_rfl)) (fun _ _ _ h => h) (Or.inl ⟨by rfl, ?_⟩) ?_ ?_
                                    rotate_left
                                    · intro w'
                                      go_simp
                                      with_reducible rfl
                                    rotate_left
                                    · simp only [Act.put, List.setIfInBounds_toArray, List.set_cons_zero, List.set_cons_succ, i64_w, i32_w]
                                      rfl
                                    refine pure_ (i := 3) (N := some 60) (v := ?_) (a' := ?_) #[true, true, true, true, false, false, false, false, false, false, false, false, false, false, false, false, false, false, false, false] rfl rfl (any_of HT_.out (by kernel_rfl)) (fun _ _ _ h => h) (Or.inl ⟨by rfl, ?_⟩) ?_ ?_
                                    rotate_left
                                    · intro w'
                                      go_simp
                                      with_reducible rfl
                                    rotate_left
                                    · simp only [Act.put, List.setIfInBounds_toArray, List.set_cons_zero, List.set_cons_succ, i64_w, i32_w]
                                      rfl
                                    refine pure_ (i := 4) (N := some 61) (v := ?_) (a' := ?_) #[true, true, true, true, true, false, false, false, false, false, false, false, false, false, false, false, false, false, false, false] rfl rfl (any_of HT_.out (by kernel_rfl)) (fun _ _ _ h => h) (Or.inl ⟨by rfl, ?_⟩) ?_ ?_
                                    rotate_left
                                    · intro w'
                                      go_simp
                                      with_reducible rfl
                                    rotate_left
                                    · simp only [Act.put, List.setIfInBounds_toArray, List.set_cons_zero, List.set_cons_succ, i64_w, i32_w]
                                      rfl
                                    refine pure_ (i := 5) (N := some 62) (v := ?_) (a' := ?_) #[true, true, true, true, true, true, false, false, false, false, false, false, false, false, false, false, false, false, false, false] rfl rfl (any_of HT_.out (by kernel_rfl)) (fun _ _ _ h => h) (Or.inl ⟨by rfl, ?_⟩) ?_ ?_
                                    rotate_left
                                    · intro w'
                                      go_simp
                                      with_reducible rfl
                                    rotate_left
                                    · simp only [Act.put, List.setIfInBounds_toArray, List.set_cons_zero, List.set_cons_succ, i64_w, i32_w]
                                      rfl
                                    refine pure_ (i := 8) (N := some 65) (v := ?_) (a' := ?_) #[true, true, true, true, true, true, false, false, true, false, false, false, false, false, false, false, false, false, false, false] rfl rfl (any_of HT_.out (by kernel_rfl)) (fun _ _ _ h => h) (Or.inl ⟨by rfl, ?_⟩) ?_ ?_
                                    rotate_left
                                    · intro w'
                                      go_simp
                                      with_reducible rfl
                                    rotate_left
                                    · simp only [Act.put, List.setIfInBounds_toArray, List.set_cons_zero, List.set_cons_succ, i64_w, i32_w]
                                      rfl
                                    refine pure_ (i := 9) (N := some 66) (v := ?_) (a' := ?_) #[true, true, true, true, true, true, false, false, true, true, false, false, false, false, false, false, false, false, false, false] rfl rfl (any_of HT_.out (by kernel_rfl)) (fun _ _ _ h => h) (Or.inl ⟨by rfl, ?_⟩) ?_ ?_
                                    rotate_left
                                    · intro w'
                                      go_simp
                                      with_reducible rfl
                                    rotate_left
                                    · simp only [Act.put, List.setIfInBounds_toArray, List.set_cons_zero, List.set_cons_succ, i64_w, i32_w]
                                      rfl
                                    refine pure_ (i := 10) (N := some 67) (v := ?_) (a' := ?_) #[true, true, true, true, true, true, false, false, true, true, true, false, false, false, false, false, false, false, false, false] rfl rfl (any_of HT_.out (by kernel_rfl)) (fun _ _ _ h => h) (Or.inl ⟨by rfl, ?_⟩) ?_ ?_
                                    rotate_left
                                    · intro w'
                                      go_simp
                                      with_reducible rfl
                                    rotate_left
                                    · simp only [Act.put, List.setIfInBounds_toArray, List.set_cons_zero, List.set_cons_succ, i64_w, i32_w]
                                      rfl
                                    refine pure_ (i := 11) (N := some 68) (v := ?_) (a' := ?_) #[true, true, true, true, true, true, false, false, true, true, true, true, false, false, false, false, false, false, false, false] rfl rfl (any_of HT_.out (by kernel_rfl)) (fun _ _ _ h => h) (Or.inl ⟨by rfl, ?_⟩) ?_ ?_
                                    rotate_left
                                    · intro w'
                                      go_simp
                                      with_reducible rfl
                                    rotate_left
                                    · simp only [Act.put, List.setIfInBounds_toArray, List.set_cons_zero, List.set_cons_succ, i64_w, i32_w]
                                      rfl
                                    refine pure_ (i := 12) (N := some 69) (v := ?_) (a' := ?_) #[true, true, true, true, true, true, false, false, true, true, true, true, true, false, false, false, false, false, false, false] rfl rfl (any_of HT_.out (by kernel_rfl)) (fun _ _ _ h => h) (Or.inl ⟨by rfl, ?_⟩) ?_ ?_
                                    rotate_left
                                    · intro w'
                                      go_simp
                                      with_reducible rfl
                                    rotate_left
                                    · simp only [Act.put, List.setIfInBounds_toArray, List.set_cons_zero, List.set_cons_succ, i64_w, i32_w]
                                      rfl
                                    refine pure_ (i := 13) (N := some 70) (v := ?_) (a' := ?_) #[true, true, true, true, true, true, false, false, true, true, true, true, true, true, false, false, false, false, false, false] rfl rfl (any_of HT_.out (by kernel_rfl)) (fun _ _ _ h => h) (Or.inl ⟨by rfl, ?_⟩) ?_ ?_
                                    rotate_left
                                    · intro w'
                                      go_simp
                                      with_reducible rfl
                                    rotate_left
                                    · simp only [Act.put, List.setIfInBounds_toArray, List.set_cons_zero, List.set_cons_succ, i64_w, i32_w]
                                      rfl
                                    refine pure_ (i := 14) (N := some 71) (v := ?_) (a' := ?_) #[true, true, true, true, true, true, false, false, true, true, true, true, true, true, true, false, false, false, false, false] rfl rfl (any_of HT_.out (by kernel_rfl)) (fun _ _ _ h => h) (Or.inl ⟨by rfl, ?_⟩) ?_ ?_
                                    rotate_left
                                    · intro w'
                                      go_simp
                                      with_reducible rfl
                                    rotate_left
                                    · simp only [Act.put, List.setIfInBounds_toArray, List.set_cons_zero, List.set_cons_succ, i64_w, i32_w]
                                      rfl
                                    refine pure_ (i := 15) (N := some 72) (v := ?_) (a' := ?_) #[true, true, true, true, true, true, false, false, true, true, true, true, true, true, true, true, false, false, false, false] rfl rfl (any_of HT_.out (by kernel_rfl)) (fun _ _ _ h => h) (Or.inl ⟨by rfl, ?_⟩) ?_ ?_
                                    rotate_left
                                    · intro w'
                                      go_simp
                                      with_reducible rfl
                                    rotate_left
                                    · simp only [Act.put, List.setIfInBounds_toArray, List.set_cons_zero, List.set_cons_succ, i64_w, i32_w]
                                      rfl
                                    refine pure_ (i := 16) (N := some 73) (v := ?_) (a' := ?_) #[true, true, true, true, true, true, false, false, true, true, true, true, true, true, true, true, true, false, false, false] rfl rfl (any_of HT_.out (by kernel_rfl)) (fun _ _ _ h => h) (Or.inl ⟨by rfl, ?_⟩) ?_ ?_
                                    rotate_left
                                    · intro w'
                                      go_simp
                                      with_reducible rfl
                                    rotate_left
                                    · simp only [Act.put, List.setIfInBounds_toArray, List.set_cons_zero, List.set_cons_succ, i64_w, i32_w]
                                      rfl
                                    refine one_ (i := 6) (N := some 63) #[true, true, true, true, true, true, true, false, true, true, true, true, true, true, true, true, true, false, false, false] rfl rfl (one_of HT_.out (by kernel_rfl)) (by decide) (fun K hK => ?_)
                                    refine goes_ Try.func45 (by kernel_rfl) rfl #[.slice A38 ((l0.take ((ji27) : Int).toNat).drop (a1 : Int).toNat).length (c0 - a1.toNat)] (by rfl) rfl rfl (by (try simp only [List.map_toArray, List.map_cons, List.map_nil]); first | done | (rw [show ((l0.take ((ji27) : Int).toNat).drop (a1 : Int).toNat).length = ((ji27).toNat - a1.toNat) from (by rw [List.length_drop, List.length_take]; have h_ : ((ji27) : Int) ≤ (l0.length : Int) := of_decide_eq_true (by first | (with_reducible assumption) | assumption); omega)] <;> rfl) | (simp only [hji27]; rfl) | rfl | (simp only [List.length_drop, List.length_take]; rfl)) ?_
                                    with_reducible refine (spec_Sum.calls kj12 _ _ ((l0.take ((ji27) : Int).toNat).drop (a1 : Int).toNat) t181 _ ?side1 ?side2 A25.out).mono ?_
                                    (case side1 => repeat (first | exact (Kd.C_below HR180.out HB.out) | (with_reducible refine Kd.C_alloc ?_ _) | (with_reducible refine Kd.C_drewN ?_ _) | (with_reducible refine Kd.C_drew ?_)))
                                    (case side2 => exact HC180.out)
                                    rintro e w' ⟨rfl, ⟨nd, rfl⟩⟩
                                    refine ⟨_, rfl, ?_⟩
                                    refine hK.out _ _ trivial (fun hHeld => ?_)
                                    clear hK K
                                    refine norm_ (a' := ?_) ?_ ?_
                                    rotate_left
                                    · show Act.put _ (some 63) _ = _
                                      simp only [Act.put, List.setIfInBounds_toArray, List.set_cons_zero, List.set_cons_succ, i64_w, i32_w]
                                      rfl
                                    refine one_ (i := 7) (N := some 64) #[true, true, true, true, true, true, true, true, true, true, true, true, true, true, true, true, true, false, false, false] rfl rfl (one_of HT_.out (by kernel_rfl)) (by decide) (fun K hK => ?_)
                                    refine goes_ Try.func99 (by kernel_rfl) rfl #[.int .i64 t181] (by rfl) rfl rfl (by (try simp only [List.map_toArray, List.map_cons, List.map_nil]); first | done | rfl | (simp only [List.length_drop, List.length_take]; rfl)) ?_
                                    with_reducible refine (spec_l3Little.calls t181 t182 _ A26.out).mono ?_
                                    rintro e w40 ⟨v183, rfl, ho0, hb⟩
                                    refine ⟨_, rfl, ?_⟩
                                    have n0_ := Aside0.mk (Kd.R_lower ho0 (below_size (by repeat (first | (with_reducible first | exact HB.out | apply below_alloc | apply pw_below_drewN | apply below_drew1) | exact HB.out))))
                                    have n1_ := Aside0.mk (below_step (by repeat (first | (with_reducible first | exact HB.out | apply below_alloc | apply pw_below_drewN | apply below_drew1) | exact HB.out)) hb)
                                    clear HB
                                    have HO184 := n0_
                                    have HB := n1_
                                    clear n0_ n1_
                                    (try clear hb)
                                    (try clear hb2)
                                    (try clear hk)
                                    (try clear hi)
                                    (try clear ho0)
                                    obtain ⟨Ao41, co41, eo41⟩ := Kd.R_slice HO184.out
                                    (first | subst eo41 | (injection eo41 with f1_ f2_ f3_; have f4_ := f1_.symm; have f5_ := f3_.symm; clear f1_ f2_ f3_; subst f4_; subst f5_))
                                    refine hK.out _ _ trivial (fun hHeld => ?_)
                                    clear hK K
                                    refine norm_ (a' := ?_) ?_ ?_
                                    rotate_left
                                    · show Act.put _ (some 64) _ = _
                                      simp only [Act.put, List.setIfInBounds_toArray, List.set_cons_zero, List.set_cons_succ, i64_w, i32_w]
                                      rfl
                                    refine one_ (i := 17) (N := some 74) #[true, true, true, true, true, true, true, true, true, true, true, true, true, true, true, true, true, true, false, false] rfl rfl (one_of HT_.out (by kernel_rfl)) (by decide) (fun K hK => ?_)
                                    refine goes_ Try.func98 (by kernel_rfl) rfl #[.slice Ao41 t182.length co41, .slice A39 ((l0.take ((wrap64 ((ji27) + 4)) : Int).toNat).drop ((ji27) : Int).toNat).length (c0 - (ji27).toNat)] (by rfl) rfl rfl (by (try simp only [List.map_toArray, List.map_cons, List.map_nil]); first | done | (rw [show ((l0.take ((wrap64 ((ji27) + 4)) : Int).toNat).drop ((ji27) : Int).toNat).length = ((wrap64 ((ji27) + 4)).toNat - (ji27).toNat) from (by rw [List.length_drop, List.length_take]; have h_ : ((wrap64 ((ji27) + 4)) : Int) ≤ (l0.length : Int) := of_decide_eq_true (by first | (with_reducible assumption) | assumption); omega)] <;> rfl) | (simp only [hji27]; rfl) | rfl | (simp only [List.length_drop, List.length_take]; rfl)) ?_
                                    with_reducible refine (spec_l3Same.calls kj12 _ _ t182 _ _ ((l0.take ((wrap64 ((ji27) + 4)) : Int).toNat).drop ((ji27) : Int).toNat) true _ ?side1 ?side2 ?side3 ?side4 A31.out).mono ?_
                                    (case side1 => repeat (first | exact (Kd.R_reads' HO184.out).2.2 | (with_reducible refine Kd.C_alloc ?_ _) | (with_reducible refine Kd.C_drewN ?_ _) | (with_reducible refine Kd.C_drew ?_)))
                                    (case side2 => exact (Kd.R_reads' HO184.out).2.1)
                                    (case side3 => repeat (first | exact (Kd.C_below HR185.out HB.out) | (with_reducible refine Kd.C_alloc ?_ _) | (with_reducible refine Kd.C_drewN ?_ _) | (with_reducible refine Kd.C_drew ?_)))
                                    (case side4 => exact HC185.out)
                                    rintro e w' ⟨rfl, ⟨nd, rfl⟩⟩
                                    refine ⟨_, rfl, ?_⟩
                                    refine hK.out _ _ trivial (fun hHeld => ?_)
                                    clear hK K
                                    refine norm_ (a' := ?_) ?_ ?_
                                    rotate_left
                                    · show Act.put _ (some 74) _ = _
                                      simp only [Act.put, List.setIfInBounds_toArray, List.set_cons_zero, List.set_cons_succ, i64_w, i32_w]
                                      rfl
                                    refine pure_ (i := 18) (N := some 75) (v := ?_) (a' := ?_) #[true, true, true, true, true, true, true, true, true, true, true, true, true, true, true, true, true, true, true, false] rfl rfl (any_of HT_.out (by kernel_rfl)) (fun _ _ _ h => h) (Or.inl ⟨by rfl, ?_⟩) ?_ ?_
                                    rotate_left
                                    · intro w'
                                      go_simp
                                      with_reducible rfl
                                    rotate_left
                                    · simp only [Act.put, List.setIfInBounds_toArray, List.set_cons_zero, List.set_cons_succ, i64_w, i32_w]
                                      rfl
                                    refine pure_ (i := 19) (N := some 56) (v := ?_) (a' := ?_) #[true, true, true, true, true, true, true, true, true, true, true, true, true, true, true, true, true, true, true, true] rfl rfl (any_of HT_.out (by kernel_rfl)) (fun _ _ _ h => h) (Or.inl ⟨by rfl, ?_⟩) ?_ ?_
                                    rotate_left
                                    · intro w'
                                      go_simp
                                      with_reducible rfl
                                    rotate_left
                                    · simp only [Act.put, List.setIfInBounds_toArray, List.set_cons_zero, List.set_cons_succ, i64_w, i32_w]
                                      rfl
                                    refine done_ (done_of HT_.out (by kernel_rfl)) ?_
                                    try go_wp2_with (first | ((with_reducible refine gate_dst (N := 78) rfl ?_); refine Kd.R_lit (Kd.int .u8) _ 5 ?hg (N := 78) ?hd (xs := ([] : List Int)) (inner := []) (ok := fun _ => True) (okp := fun _ => True) ?hr ?hp (fun _ hk => hk) trivial (Below.refl _ _) (Nat.le_refl _) (by simp) ?_; (case hd => rfl); (case hg => rfl); (case hr => first | (go_simp; done) | (go_simp; rfl)); (case hp => exact (Reps.none _ _)); intro v188 w42 ho43 hb hg_ hnew_; clear hg_ hnew_; (first | rw [← Ny187.out] at ho43 | (simp only [Int.reduceToNat] at ho43; rw [← Ny187.out] at ho43)); have n0_ := Aside0.mk (Kd.R_elder' (by (with_reducible repeat (first | apply Kd.R_alloc | apply Kd.R_drewN | apply Kd.R_drew)); exact HO184.out) (Kd.R_base ho43) hb); have n1_ := Aside0.mk (Kd.R_lower (Kd.R_new' ho43 (Kd.R_lt (by (with_reducible repeat (first | apply Kd.R_alloc | apply Kd.R_drewN | apply Kd.R_drew)); exact HO184.out))) (below_size (by repeat (first | (with_reducible first | exact HB.out | apply below_alloc | apply pw_below_drewN | apply below_drew1) | exact HB.out)))); have n2_ := Aside0.mk (below_step (by repeat (first | (with_reducible first | exact HB.out | apply below_alloc | apply pw_below_drewN | apply below_drew1) | exact HB.out)) hb); clear HO184; clear HB; have HO184 := n0_; have HO189 := n1_; have HB := n2_; clear n0_ n1_ n2_; clear hb ho43; obtain ⟨i044, hi044, _, hsz44, _⟩ := info_parts info5; obtain ⟨A44, hcut44, hA44, hC44⟩ := print_mid_of (P := Try.prog) (Value.int .u8) 0 38 5 .i64 .i64 Try.underlying38 hi044 hsz44 A0 c0 l0 t167 (ji27) (of_decide_eq_true (by first | (with_reducible assumption) | assumption)) (by first | omega | exact of_decide_eq_true (by first | (with_reducible assumption) | assumption)) (of_decide_eq_true (by first | (with_reducible assumption) | assumption)) HC0.out; have HR190 := Aside0.mk (Kd.C_of_reads (h1 := fun _ => rfl) (hA44 _ (Kd.reads_of_C HR0.out))); have HC190 := Aside0.mk hC44; clear hA44 hC44 hi044 hsz44; (try (have hcut44s := hcut44; simp only [List.length_drop] at hcut44s))) | ((with_reducible refine gate_builtin (b := .append) (xs := #[.tmp 78, .tmp 84]) rfl ?_); at_builtin; refine Kd.R_append_rows (Kd.int .u8) (w0 := w) w.heap.size rfl (.tmp 78) (.tmp 84) 38 5 (.int .u8 0) 1 rfl Try.underlying38 info5 rfl (by decide) (by omega) v188 y187 ((l0.take ((ji27) : Int).toNat).drop (t167 : Int).toNat) _ _ _ (fun k_ => some k_ ≠ (.slice Ao41 t182.length co41 : Value).ownBlock) (fun _ => False) rfl rfl ?aO ?aR (fun _ _ h => h) (fun _ h => h.elim) ?aF ?aB ?aS ?aL ?_; (case aR => first | (rw [← show ((l0.take ((ji27) : Int).toNat).drop (t167 : Int).toNat).length = ((ji27).toNat - t167.toNat) from (by rw [List.length_drop, List.length_take]; have h_ : ((ji27) : Int) ≤ (l0.length : Int) := of_decide_eq_true (by first | (with_reducible assumption) | assumption); omega)]; repeat (first | exact (Kd.C_below HR190.out HB.out) | (with_reducible refine Kd.C_alloc ?_ _) | (with_reducible refine Kd.C_drewN ?_ _) | (with_reducible refine Kd.C_drew ?_))) | (repeat (first | exact (Kd.C_below HR190.out HB.out) | (with_reducible refine Kd.C_alloc ?_ _) | (with_reducible refine Kd.C_drewN ?_ _) | (with_reducible refine Kd.C_drew ?_)))); (case aB => exact (by repeat (first | (with_reducible first | exact HB.out | apply below_alloc | apply pw_below_drewN | apply below_drew1) | exact HB.out))); (case aF => exact (fun k_ hk => Kd.fresh' (Kd.R_lt (by (with_reducible repeat (first | apply Kd.R_alloc | apply Kd.R_drewN | apply Kd.R_drew)); exact HO184.out)) k_ hk)); (case aO => exact (by (with_reducible repeat (first | apply Kd.R_alloc | apply Kd.R_drewN | apply Kd.R_drew)); exact Kd.R_mono HO189.out (fun _ hk => hk.2))); (case aS => exact (below_size (by repeat (first | (with_reducible first | exact HB.out | apply below_alloc | apply pw_below_drewN | apply below_drew1) | exact HB.out)))); (case aL => have := LMc36.out; have hlx_ := (show ((l0.take ((ji27) : Int).toNat).drop (t167 : Int).toNat).length = ((ji27).toNat - t167.toNat) from (by rw [List.length_drop, List.length_take]; have h_ : ((ji27) : Int) ≤ (l0.length : Int) := of_decide_eq_true (by first | (with_reducible assumption) | assumption); omega)); omega); intro v192 w45 ho hb hg hat; rw [← Ny191.out] at ho; have n0_ := Aside0.mk (Kd.R_after (ok := (fun _ => True)) (by (with_reducible repeat (first | apply Kd.R_alloc | apply Kd.R_drewN | apply Kd.R_drew)); exact HO184.out) hg hat); have n1_ := Aside0.mk (hb); have n2_ := Aside0.mk (ho); clear HO184; clear HB; clear HO189; have HO184 := n0_; have HB := n1_; have HO193 := n2_; clear n0_ n1_ n2_; clear ho hb hg hat))
                                    go_ret3
                                    exact ⟨_, by first | rfl | (simp [errW_none, errW_some] <;> rfl) | (simp only [← hji27]; first | rfl | (simp [errW_none, errW_some] <;> rfl)) | (simp [*, errW_none, errW_some] <;> rfl), by (with_reducible repeat (first | apply Kd.R_alloc | apply Kd.R_drewN | apply Kd.R_drew)); exact Kd.R_mono HO193.out (fun _ hk => trivial), by repeat (first | (with_reducible first | exact HB.out | apply below_alloc | apply pw_below_drewN | apply below_drew1) | exact HB.out)⟩
                                  · rw [if_neg c36] at H
                                    exact absurd H (by simp)
                                · rw [if_neg c34] at H
                                  exact absurd H (by simp)
                              · rw [if_neg c33] at H
                                exact absurd H (by simp)
                            · replace c32 := Bool.eq_false_iff.mpr c32
                              subst c32
                              have H1 : (some ((([] : List Int)), a1, 3)) = some (r1, r2, r3) := by rw [if_neg (show ¬ (false = true) by decide)] at H; exact H
                              clear H
                              have H := H1
                              clear H1
                              obtain ⟨y194, hy194⟩ : ∃ y_ : List Int, y_ = (([] : List Int)) := ⟨_, rfl⟩
                              replace H : (some (y194, a1, 3)) = some (r1, r2, r3) := by first | (rw [hy194]; with_reducible exact H) | (have H2_ := (Option.bind_some _ _).symm.trans H; rw [hy194]; with_reducible exact H2_) | (have H2_ := (Option.bind_some _ _).symm.trans H; with_reducible exact H2_) | with_reducible exact H | (rw [hy194]; exact H) | exact H
                              have Ny194 := Aside0.mk hy194
                              clear hy194
                              simp only [Option.some.injEq, Prod.mk.injEq] at H
                              obtain ⟨rfl, rfl, rfl⟩ := H
                              try go_wp2
                              have n0_ := Aside0.mk (below_drew1 HB.out)
                              clear HB
                              have HB := n0_
                              clear n0_
                              obtain ⟨i047, hi047, _, hsz47, _⟩ := info_parts info5
                              obtain ⟨A47, hcut47, hA47, hC47⟩ := print_mid_of (P := Try.prog) (Value.int .u8) 0 38 5 .i64 .i64 Try.underlying38 hi047 hsz47 A0 c0 l0 a1 (ji27) (of_decide_eq_true (by first | (with_reducible assumption) | assumption)) (by first | omega | exact of_decide_eq_true (by first | (with_reducible assumption) | assumption)) (of_decide_eq_true (by first | (with_reducible assumption) | assumption)) HC0.out
                              have HR180 := Aside0.mk (Kd.C_of_reads (h1 := fun _ => rfl) (hA47 _ (Kd.reads_of_C HR0.out)))
                              have HC180 := Aside0.mk hC47
                              clear hA47 hC47 hi047 hsz47; (try (have hcut47s := hcut47; simp only [List.length_drop] at hcut47s))
                              obtain ⟨i048, hi048, _, hsz48, _⟩ := info_parts info5
                              obtain ⟨A48, hcut48, hA48, hC48⟩ := print_mid_of (P := Try.prog) (Value.int .u8) 0 38 5 .i64 .i64 Try.underlying38 hi048 hsz48 A0 c0 l0 (ji27) (wrap64 ((ji27) + 4)) (of_decide_eq_true (by first | (with_reducible assumption) | assumption)) (by first | omega | exact of_decide_eq_true (by first | (with_reducible assumption) | assumption)) (of_decide_eq_true (by first | (with_reducible assumption) | assumption)) HC0.out
                              have HR185 := Aside0.mk (Kd.C_of_reads (h1 := fun _ => rfl) (hA48 _ (Kd.reads_of_C HR0.out)))
                              have HC185 := Aside0.mk hC48
                              clear hA48 hC48 hi048 hsz48; (try (have hcut48s := hcut48; simp only [List.length_drop] at hcut48s))
                              refine start_ (n := 20) (S := fun w' => True) (ds := []) #[false, false, false, false, false, false, false, false, false, false, false, false, false, false, false, false, false, false, false, false] (by kernel_rfl) rfl rfl trivial (fun hHeld => ?_); refine with_tabW spec_Unframe.tab12 spec_Unframe.bits12 (fun HT_ HW_ => ?_)
                              generalize wc.drew = w46 at HB HR180 HR185 hHeld ⊢
                              refine pure_ (i := 0) (N := some 57) (v := ?_) (a' := ?_) #[true, false, false, false, false, false, false, false, false, false, false, false, false, false, false, false, false, false, false, false] rfl rfl (any_of HT_.out (by kernel_rfl)) (fun _ _ _ h => h) (Or.inl ⟨by rfl, ?_⟩) ?_ ?_
                              rotate_left
                              · intro w'
                                go_simp
                                with_reducible rfl
                              rotate_left
                              · simp only [Act.put, List.setIfInBounds_toArray, List.set_cons_zero, List.set_cons_succ, i64_w, i32_w]
                                rfl
                              refine pure_ (i := 1) (N := some 58) (v := ?_) (a' := ?_) #[true, true, false, false, false, false, false, false, false, false, false, false, false, false, false, false, false, false, false, false] rfl rfl (any_of HT_.out (by kernel_rfl)) (fun _ _ _ h => h) (Or.inl ⟨by rfl, ?_⟩) ?_ ?_
                              rotate_left
                              · intro w'
                                go_simp
                                with_reducible rfl
                              rotate_left
                              · simp only [Act.put, List.setIfInBounds_toArray, List.set_cons_zero, List.set_cons_succ, i64_w, i32_w]
                                rfl
                              refine pure_ (i := 2) (N := some 59) (v := ?_) (a' := ?_) #[true, true, true, false, false, false, false, false, false, false, false, false, false, false, false, false, false, false, false, false] rfl rfl (any_of HT_.out (by kernel_rfl)) (fun _ _ _ h => h) (Or.inl ⟨by rfl, ?_⟩) ?_ ?_
                              rotate_left
                              · intro w'
                                go_simp
                                with_reducible rfl
                              rotate_left
                              · simp only [Act.put, List.setIfInBounds_toArray, List.set_cons_zero, List.set_cons_succ, i64_w, i32_w]
                                rfl
                              refine pure_ (i := 3) (N := some 60) (v := ?_) (a' := ?_) #[true, true, true, true, false, false, false, false, false, false, false, false, false, false, false, false, false, false, false, false] rfl rfl (any_of HT_.out (by kernel_rfl)) (fun _ _ _ h => h) (Or.inl ⟨by rfl, ?_⟩) ?_ ?_
                              rotate_left
                              · intro w'
                                go_simp
                                with_reducible rfl
                              rotate_left
                              · simp only [Act.put, List.setIfInBounds_toArray, List.set_cons_zero, List.set_cons_succ, i64_w, i32_w]
                                rfl
                              refine pure_ (i := 4) (N := some 61) (v := ?_) (a' := ?_) #[true, true, true, true, true, false, false, false, false, false, false, false, false, false, false, false, false, false, false, false] rfl rfl (any_of HT_.out (by kernel_rfl)) (fun _ _ _ h => h) (Or.inl ⟨by rfl, ?_⟩) ?_ ?_
                              rotate_left
                              · intro w'
                                go_simp
                                with_reducible rfl
                              rotate_left
                              · simp only [Act.put, List.setIfInBounds_toArray, List.set_cons_zero, List.set_cons_succ, i64_w, i32_w]
                                rfl
                              refine pure_ (i := 5) (N := some 62) (v := ?_) (a' := ?_) #[true, true, true, true, true, true, false, false, false, false, false, false, false, false, false, false, false, false, false, false] rfl rfl (any_of HT_.out (by kernel_rfl)) (fun _ _ _ h => h) (Or.inl ⟨by rfl, ?_⟩) ?_ ?_
                              rotate_left
                              · intro w'
                                go_simp
                                with_reducible rfl
                              rotate_left
                              · simp only [Act.put, List.setIfInBounds_toArray, List.set_cons_zero, List.set_cons_succ, i64_w, i32_w]
                                rfl
                              refine pure_ (i := 8) (N := some 65) (v := ?_) (a' := ?_) #[true, true, true, true, true, true, false, false, true, false, false, false, false, false, false, false, false, false, false, false] rfl rfl (any_of HT_.out (by kernel_rfl)) (fun _ _ _ h => h) (Or.inl ⟨by rfl, ?_⟩) ?_ ?_
                              rotate_left
                              · intro w'
                                go_simp
                                with_reducible rfl
                              rotate_left
                              · simp only [Act.put, List.setIfInBounds_toArray, List.set_cons_zero, List.set_cons_succ, i64_w, i32_w]
                                rfl
                              refine pure_ (i := 9) (N := some 66) (v := ?_) (a' := ?_) #[true, true, true, true, true, true, false, false, true, true, false, false, false, false, false, false, false, false, false, false] rfl rfl (any_of HT_.out (by kernel_rfl)) (fun _ _ _ h => h) (Or.inl ⟨by rfl, ?_⟩) ?_ ?_
                              rotate_left
                              · intro w'
                                go_simp
                                with_reducible rfl
                              rotate_left
                              · simp only [Act.put, List.setIfInBounds_toArray, List.set_cons_zero, List.set_cons_succ, i64_w, i32_w]
                                rfl
                              refine pure_ (i := 10) (N := some 67) (v := ?_) (a' := ?_) #[true, true, true, true, true, true, false, false, true, true, true, false, false, false, false, false, false, false, false, false] rfl rfl (any_of HT_.out (by kernel_rfl)) (fun _ _ _ h => h) (Or.inl ⟨by rfl, ?_⟩) ?_ ?_
                              rotate_left
                              · intro w'
                                go_simp
                                with_reducible rfl
                              rotate_left
                              · simp only [Act.put, List.setIfInBounds_toArray, List.set_cons_zero, List.set_cons_succ, i64_w, i32_w]
                                rfl
                              refine pure_ (i := 11) (N := some 68) (v := ?_) (a' := ?_) #[true, true, true, true, true, true, false, false, true, true, true, true, false, false, false, false, false, false, false, false] rfl rfl (any_of HT_.out (by kernel_rfl)) (fun _ _ _ h => h) (Or.inl ⟨by rfl, ?_⟩) ?_ ?_
                              rotate_left
                              · intro w'
                                go_simp
                                with_reducible rfl
                              rotate_left
                              · simp only [Act.put, List.setIfInBounds_toArray, List.set_cons_zero, List.set_cons_succ, i64_w, i32_w]
                                rfl
                              refine pure_ (i := 12) (N := some 69) (v := ?_) (a' := ?_) #[true, true, true, true, true, true, false, false, true, true, true, true, true, false, false, false, false, false, false, false] rfl rfl (any_of HT_.out (by kernel_rfl)) (fun _ _ _ h => h) (Or.inl ⟨by rfl, ?_⟩) ?_ ?_
                              rotate_left
                              · intro w'
                                go_simp
                                with_reducible rfl
                              rotate_left
                              · simp only [Act.put, List.setIfInBounds_toArray, List.set_cons_zero, List.set_cons_succ, i64_w, i32_w]
                                rfl
                              refine pure_ (i := 13) (N := some 70) (v := ?_) (a' := ?_) #[true, true, true, true, true, true, false, false, true, true, true, true, true, true, false, false, false, false, false, false] rfl rfl (any_of HT_.out (by kernel_rfl)) (fun _ _ _ h => h) (Or.inl ⟨by rfl, ?_⟩) ?_ ?_
                              rotate_left
                              · intro w'
                                go_simp
                                with_reducible rfl
                              rotate_left
                              · simp only [Act.put, List.setIfInBounds_toArray, List.set_cons_zero, List.set_cons_succ, i64_w, i32_w]
                                rfl
                              refine pure_ (i := 14) (N := some 71) (v := ?_) (a' := ?_) #[true, true, true, true, true, true, false, false, true, true, true, true, true, true, true, false, false, false, false, false] rfl rfl (any_of HT_.out (by kernel_rfl)) (fun _ _ _ h => h) (Or.inl ⟨by rfl, ?_⟩) ?_ ?_
                              rotate_left
                              · intro w'
                                go_simp
                                with_reducible rfl
                              rotate_left
                              · simp only [Act.put, List.setIfInBounds_toArray, List.set_cons_zero, List.set_cons_succ, i64_w, i32_w]
                                rfl
                              refine pure_ (i := 15) (N := some 72) (v := ?_) (a' := ?_) #[true, true, true, true, true, true, false, false, true, true, true, true, true, true, true, true, false, false, false, false] rfl rfl (any_of HT_.out (by kernel_rfl)) (fun _ _ _ h => h) (Or.inl ⟨by rfl, ?_⟩) ?_ ?_
                              rotate_left
                              · intro w'
                                go_simp
                                with_reducible rfl
                              rotate_left
                              · simp only [Act.put, List.setIfInBounds_toArray, List.set_cons_zero, List.set_cons_succ, i64_w, i32_w]
                                rfl
                              refine pure_ (i := 16) (N := some 73) (v := ?_) (a' := ?_) #[true, true, true, true, true, true, false, false, true, true, true, true, true, true, true, true, true, false, false, false] rfl rfl (any_of HT_.out (by kernel_rfl)) (fun _ _ _ h => h) (Or.inl ⟨by rfl, ?_⟩) ?_ ?_
                              rotate_left
                              · intro w'
                                go_simp
                                with_reducible rfl
                              rotate_left
                              · simp only [Act.put, List.setIfInBounds_toArray, List.set_cons_zero, List.set_cons_succ, i64_w, i32_w]
                                rfl
                              refine one_ (i := 6) (N := some 63) #[true, true, true, true, true, true, true, false, true, true, true, true, true, true, true, true, true, false, false, false] rfl rfl (one_of HT_.out (by kernel_rfl)) (by decide) (fun K hK => ?_)
                              refine goes_ Try.func45 (by kernel_rfl) rfl #[.slice A47 ((l0.take ((ji27) : Int).toNat).drop (a1 : Int).toNat).length (c0 - a1.toNat)] (by rfl) rfl rfl (by (try simp only [List.map_toArray, List.map_cons, List.map_nil]); first | done | (rw [show ((l0.take ((ji27) : Int).toNat).drop (a1 : Int).toNat).length = ((ji27).toNat - a1.toNat) from (by rw [List.length_drop, List.length_take]; have h_ : ((ji27) : Int) ≤ (l0.length : Int) := of_decide_eq_true (by first | (with_reducible assumption) | assumption); omega)] <;> rfl) | (simp only [hji27]; rfl) | rfl | (simp only [List.length_drop, List.length_take]; rfl)) ?_
                              with_reducible refine (spec_Sum.calls kj12 _ _ ((l0.take ((ji27) : Int).toNat).drop (a1 : Int).toNat) t181 _ ?side1 ?side2 A25.out).mono ?_
                              (case side1 => repeat (first | exact (Kd.C_below HR180.out HB.out) | (with_reducible refine Kd.C_alloc ?_ _) | (with_reducible refine Kd.C_drewN ?_ _) | (with_reducible refine Kd.C_drew ?_)))
                              (case side2 => exact HC180.out)
                              rintro e w' ⟨rfl, ⟨nd, rfl⟩⟩
                              refine ⟨_, rfl, ?_⟩
                              refine hK.out _ _ trivial (fun hHeld => ?_)
                              clear hK K
                              refine norm_ (a' := ?_) ?_ ?_
                              rotate_left
                              · show Act.put _ (some 63) _ = _
                                simp only [Act.put, List.setIfInBounds_toArray, List.set_cons_zero, List.set_cons_succ, i64_w, i32_w]
                                rfl
                              refine one_ (i := 7) (N := some 64) #[true, true, true, true, true, true, true, true, true, true, true, true, true, true, true, true, true, false, false, false] rfl rfl (one_of HT_.out (by kernel_rfl)) (by decide) (fun K hK => ?_)
                              refine goes_ Try.func99 (by kernel_rfl) rfl #[.int .i64 t181] (by rfl) rfl rfl (by (try simp only [List.map_toArray, List.map_cons, List.map_nil]); first | done | rfl | (simp only [List.length_drop, List.length_take]; rfl)) ?_
                              with_reducible refine (spec_l3Little.calls t181 t182 _ A26.out).mono ?_
                              rintro e w49 ⟨v183, rfl, ho0, hb⟩
                              refine ⟨_, rfl, ?_⟩
                              have n0_ := Aside0.mk (Kd.R_lower ho0 (below_size (by repeat (first | (with_reducible first | exact HB.out | apply below_alloc | apply pw_below_drewN | apply below_drew1) | exact HB.out))))
                              have n1_ := Aside0.mk (below_step (by repeat (first | (with_reducible first | exact HB.out | apply below_alloc | apply pw_below_drewN | apply below_drew1) | exact HB.out)) hb)
                              clear HB
                              have HO184 := n0_
                              have HB := n1_
                              clear n0_ n1_
                              (try clear hb)
                              (try clear hb2)
                              (try clear hk)
                              (try clear hi)
                              (try clear ho0)
                              obtain ⟨Ao50, co50, eo50⟩ := Kd.R_slice HO184.out
                              (first | subst eo50 | (injection eo50 with f1_ f2_ f3_; have f4_ := f1_.symm; have f5_ := f3_.symm; clear f1_ f2_ f3_; subst f4_; subst f5_))
                              refine hK.out _ _ trivial (fun hHeld => ?_)
                              clear hK K
                              refine norm_ (a' := ?_) ?_ ?_
                              rotate_left
                              · show Act.put _ (some 64) _ = _
                                simp only [Act.put, List.setIfInBounds_toArray, List.set_cons_zero, List.set_cons_succ, i64_w, i32_w]
                                rfl
                              refine one_ (i := 17) (N := some 74) #[true, true, true, true, true, true, true, true, true, true, true, true, true, true, true, true, true, true, false, false] rfl rfl (one_of HT_.out (by kernel_rfl)) (by decide) (fun K hK => ?_)
                              refine goes_ Try.func98 (by kernel_rfl) rfl #[.slice Ao50 t182.length co50, .slice A48 ((l0.take ((wrap64 ((ji27) + 4)) : Int).toNat).drop ((ji27) : Int).toNat).length (c0 - (ji27).toNat)] (by rfl) rfl rfl (by (try simp only [List.map_toArray, List.map_cons, List.map_nil]); first | done | (rw [show ((l0.take ((wrap64 ((ji27) + 4)) : Int).toNat).drop ((ji27) : Int).toNat).length = ((wrap64 ((ji27) + 4)).toNat - (ji27).toNat) from (by rw [List.length_drop, List.length_take]; have h_ : ((wrap64 ((ji27) + 4)) : Int) ≤ (l0.length : Int) := of_decide_eq_true (by first | (with_reducible assumption) | assumption); omega)] <;> rfl) | (simp only [hji27]; rfl) | rfl | (simp only [List.length_drop, List.length_take]; rfl)) ?_
                              with_reducible refine (spec_l3Same.calls kj12 _ _ t182 _ _ ((l0.take ((wrap64 ((ji27) + 4)) : Int).toNat).drop ((ji27) : Int).toNat) false _ ?side1 ?side2 ?side3 ?side4 A31.out).mono ?_
                              (case side1 => repeat (first | exact (Kd.R_reads' HO184.out).2.2 | (with_reducible refine Kd.C_alloc ?_ _) | (with_reducible refine Kd.C_drewN ?_ _) | (with_reducible refine Kd.C_drew ?_)))
                              (case side2 => exact (Kd.R_reads' HO184.out).2.1)
                              (case side3 => repeat (first | exact (Kd.C_below HR185.out HB.out) | (with_reducible refine Kd.C_alloc ?_ _) | (with_reducible refine Kd.C_drewN ?_ _) | (with_reducible refine Kd.C_drew ?_)))
                              (case side4 => exact HC185.out)
                              rintro e w' ⟨rfl, ⟨nd, rfl⟩⟩
                              refine ⟨_, rfl, ?_⟩
                              refine hK.out _ _ trivial (fun hHeld => ?_)
                              clear hK K
                              refine norm_ (a' := ?_) ?_ ?_
                              rotate_left
                              · show Act.put _ (some 74) _ = _
                                simp only [Act.put, List.setIfInBounds_toArray, List.set_cons_zero, List.set_cons_succ, i64_w, i32_w]
                                rfl
                              refine pure_ (i := 18) (N := some 75) (v := ?_) (a' := ?_) #[true, true, true, true, true, true, true, true, true, true, true, true, true, true, true, true, true, true, true, false] rfl rfl (any_of HT_.out (by kernel_rfl)) (fun _ _ _ h => h) (Or.inl ⟨by rfl, ?_⟩) ?_ ?_
                              rotate_left
                              · intro w'
                                go_simp
                                with_reducible rfl
                              rotate_left
                              · simp only [Act.put, List.setIfInBounds_toArray, List.set_cons_zero, List.set_cons_succ, i64_w, i32_w]
                                rfl
                              refine pure_ (i := 19) (N := some 56) (v := ?_) (a' := ?_) #[true, true, true, true, true, true, true, true, true, true, true, true, true, true, true, true, true, true, true, true] rfl rfl (any_of HT_.out (by kernel_rfl)) (fun _ _ _ h => h) (Or.inl ⟨by rfl, ?_⟩) ?_ ?_
                              rotate_left
                              · intro w'
                                go_simp
                                with_reducible rfl
                              rotate_left
                              · simp only [Act.put, List.setIfInBounds_toArray, List.set_cons_zero, List.set_cons_succ, i64_w, i32_w]
                                rfl
                              refine done_ (done_of HT_.out (by kernel_rfl)) ?_
                              try go_wp2_with (first | ((with_reducible refine gate_dst (N := 76) rfl ?_); refine Kd.R_lit (Kd.int .u8) _ 5 ?hg (N := 76) ?hd (xs := ([] : List Int)) (inner := []) (ok := fun _ => True) (okp := fun _ => True) ?hr ?hp (fun _ hk => hk) trivial (Below.refl _ _) (Nat.le_refl _) (by simp) ?_; (case hd => rfl); (case hg => rfl); (case hr => first | (go_simp; done) | (go_simp; rfl)); (case hp => exact (Reps.none _ _)); intro v195 w51 ho52 hb hg_ hnew_; clear hg_ hnew_; (first | rw [← Ny194.out] at ho52 | (simp only [Int.reduceToNat] at ho52; rw [← Ny194.out] at ho52)); have n0_ := Aside0.mk (Kd.R_elder' (by (with_reducible repeat (first | apply Kd.R_alloc | apply Kd.R_drewN | apply Kd.R_drew)); exact HO184.out) (Kd.R_base ho52) hb); have n1_ := Aside0.mk (Kd.R_lower (Kd.R_new' ho52 (Kd.R_lt (by (with_reducible repeat (first | apply Kd.R_alloc | apply Kd.R_drewN | apply Kd.R_drew)); exact HO184.out))) (below_size (by repeat (first | (with_reducible first | exact HB.out | apply below_alloc | apply pw_below_drewN | apply below_drew1) | exact HB.out)))); have n2_ := Aside0.mk (below_step (by repeat (first | (with_reducible first | exact HB.out | apply below_alloc | apply pw_below_drewN | apply below_drew1) | exact HB.out)) hb); clear HO184; clear HB; have HO184 := n0_; have HO196 := n1_; have HB := n2_; clear n0_ n1_ n2_; clear hb ho52))
                              go_ret3
                              exact ⟨_, by first | rfl | (simp [errW_none, errW_some] <;> rfl) | (simp only [← hji27]; first | rfl | (simp [errW_none, errW_some] <;> rfl)) | (simp [*, errW_none, errW_some] <;> rfl), by (with_reducible repeat (first | apply Kd.R_alloc | apply Kd.R_drewN | apply Kd.R_drew)); exact Kd.R_mono HO196.out (fun _ hk => trivial), by repeat (first | (with_reducible first | exact HB.out | apply below_alloc | apply pw_below_drewN | apply below_drew1) | exact HB.out)⟩
                          · rw [if_neg c30] at H
                            exact absurd H (by simp)
                        · rw [if_neg c29] at H
                          exact absurd H (by simp)
                      · rw [if_neg c28] at H
                        exact absurd H (by simp)
                    · rw [if_neg c24] at H
                      exact absurd H (by simp)
                  · rw [if_neg c23] at H
                    exact absurd H (by simp)
                · rw [if_neg c22] at H
                  exact absurd H (by simp)
  · replace c4 := Bool.eq_false_iff.mpr c4
    subst c4
    have H1 : (some ((([] : List Int)), a1, 3)) = some (r1, r2, r3) := by rw [if_neg (show ¬ (false = true) by decide)] at H; exact H
    clear H
    have H := H1
    clear H1
    obtain ⟨y160, hy160⟩ : ∃ y_ : List Int, y_ = (([] : List Int)) := ⟨_, rfl⟩
    replace H : (some (y160, a1, 3)) = some (r1, r2, r3) := by first | (rw [hy160]; with_reducible exact H) | (have H2_ := (Option.bind_some _ _).symm.trans H; rw [hy160]; with_reducible exact H2_) | (have H2_ := (Option.bind_some _ _).symm.trans H; with_reducible exact H2_) | with_reducible exact H | (rw [hy160]; exact H) | exact H
    have Ny160 := Aside0.mk hy160
    clear hy160
    simp only [Option.some.injEq, Prod.mk.injEq] at H
    obtain ⟨rfl, rfl, rfl⟩ := H
    go_enter Try.func46, Try.ntmps46
    go_wp2_with (first | ((with_reducible refine gate_callee (f := 75) rfl ?_); refine goesL_ (some 13) rfl rfl Try.func75 (by kernel_rfl) rfl #[.int .i64 a1, .int .i64 0, .int .i64 (l0.length : Int)] rfl (by (try simp only [List.map_toArray, List.map_cons, List.map_nil]); first | done | rfl | (simp only [List.length_drop, List.length_take]; rfl)) ?_; (with_reducible refine (spec_l1In.calls a1 0 (l0.length : Int) false _ A3.out).mono ?_); rintro e w' ⟨rfl, ⟨nd, rfl⟩⟩; refine ⟨_, rfl, ?_⟩) | ((with_reducible refine gate_dst (N := 15) rfl ?_); refine Kd.R_lit (Kd.int .u8) _ 5 ?hg (N := 15) ?hd (xs := ([] : List Int)) (inner := []) (ok := fun _ => True) (okp := fun _ => True) ?hr ?hp (fun _ hk => hk) trivial (Below.refl _ _) (Nat.le_refl _) (by simp) ?_; (case hd => rfl); (case hg => rfl); (case hr => first | (go_simp; done) | (go_simp; rfl)); (case hp => exact (Reps.none _ _)); intro v161 w53 ho54 hb hg_ hnew_; clear hg_ hnew_; (first | rw [← Ny160.out] at ho54 | (simp only [Int.reduceToNat] at ho54; rw [← Ny160.out] at ho54)); have n0_ := Aside0.mk (Kd.R_lower ho54 (below_size (by repeat (first | (with_reducible first | exact HB.out | apply below_alloc | apply pw_below_drewN | apply below_drew1) | exact HB.out)))); have n1_ := Aside0.mk (below_step (by repeat (first | (with_reducible first | exact HB.out | apply below_alloc | apply pw_below_drewN | apply below_drew1) | exact HB.out)) hb); clear HB; have HO162 := n0_; have HB := n1_; clear n0_ n1_; clear hb ho54))
    go_ret3
    exact ⟨_, by first | rfl | (simp [errW_none, errW_some] <;> rfl) | (simp [*, errW_none, errW_some] <;> rfl), by (with_reducible repeat (first | apply Kd.R_alloc | apply Kd.R_drewN | apply Kd.R_drew)); exact HO162.out, by repeat (first | (with_reducible first | exact HB.out | apply below_alloc | apply pw_below_drewN | apply below_drew1) | exact HB.out)⟩

end Go.Proofs.Ytigmadccchofiaa.QFnExactUnframe
