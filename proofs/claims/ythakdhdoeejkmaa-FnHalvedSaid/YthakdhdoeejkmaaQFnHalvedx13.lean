-- Written by a program of this session (wip/myprint.py); Lean checks it.
import Derived.Test.YthakdhdoeejkmaaQFnHalvedx0
import Derived.Test.YthakdhdoeejkmaaQFnHalvedx12
namespace Go.Proofs.Ythakdhdoeejkmaa.QFnHalved
open Go.RowKit Go.Proofs.YthakdhdoeejkmaaW.PrintWords Go.Proofs.YthakdhdoeejkmaaW.PrintLast Go.Proofs.YthakdhdoeejkmaaW.PrintMore
attribute [local go_sem] max2_int min2_int max_two min_two max_three min_three max_four min_four   -- for this text's walks alone
set_option linter.unusedVariables false
set_option linter.unusedSimpArgs false

attribute [local go_sem] isSome_setCell
/-! ### cmp_Compare_int: function 103 -/
def cmp_Compare_int.f (a0 : Int) (a1 : Int) : Option (Int) := (cmp_isNaN_int.f a0).bind fun t401 => ((cmp_isNaN_int.f a1).bind fun t402 => (if t401 = true then (if t402 = true then (some 0) else (some (-1))) else (if t402 = true then (some 1) else (if a0 < a1 then (some (-1)) else (if a0 > a1 then (some 1) else (some 0))))))
set_option maxHeartbeats 8000000 in
set_option maxRecDepth 100000 in
theorem cmp_Compare_int.calls (a0 : Int) (a1 : Int) (r : Int) (w : World) (h : cmp_Compare_int.f a0 a1 = some r) :
  Calls Try.prog 103 #[.int .i64 a0, .int .i64 a1] w fun e w' => e = .returned (.int .i64 r) ∧ Drawn0 w w' := by
 have H : ((cmp_isNaN_int.f a0).bind fun t401 => ((cmp_isNaN_int.f a1).bind fun t402 => (if t401 = true then (if t402 = true then (some 0) else (some (-1))) else (if t402 = true then (some 1) else (if a0 < a1 then (some (-1)) else (if a0 > a1 then (some 1) else (some 0))))))) = some r := h
 clear h
 replace H := Option.bind_eq_some_iff.mp H
 obtain ⟨t401, A30, H⟩ := H
 replace H : ((cmp_isNaN_int.f a1).bind fun t402 => (if t401 = true then (if t402 = true then (some 0) else (some (-1))) else (if t402 = true then (some 1) else (if a0 < a1 then (some (-1)) else (if a0 > a1 then (some 1) else (some 0)))))) = some r := H
 have A3 := Aside0.mk A30
 clear A30
 replace H := Option.bind_eq_some_iff.mp H
 obtain ⟨t402, A40, H⟩ := H
 replace H : (if t401 = true then (if t402 = true then (some 0) else (some (-1))) else (if t402 = true then (some 1) else (if a0 < a1 then (some (-1)) else (if a0 > a1 then (some 1) else (some 0))))) = some r := H
 have A4 := Aside0.mk A40
 clear A40
 by_cases c5 : t401 = true
 ·subst c5
  have H1 : (if t402 = true then (some 0) else (some (-1))) = some r := by rw [if_pos rfl] at H; exact H
  clear H
  have H := H1
  clear H1
  by_cases c6 : t402 = true
  ·subst c6
   have H1 : (some 0) = some r := by rw [if_pos rfl] at H; exact H
   clear H
   have H := H1
   clear H1
   obtain rfl := Option.some.inj H
   go_enter Try.func103, Try.ntmps103
   go_wp2_with (first | ((with_reducible refine gate_callee (f := 155) rfl ?_); refine goesL_ (some 8) rfl rfl Try.func155 (by kernel_rfl) rfl #[.int .i64 a0] rfl al_ ?_; (with_reducible refine (cmp_isNaN_int.calls a0 true _ A3.out).mono ?_); rintro e w' ⟨rfl, ⟨nd, rfl⟩⟩; refine ⟨_, rfl, ?_⟩) | ((with_reducible refine gate_callee (f := 155) rfl ?_); refine goesL_ (some 10) rfl rfl Try.func155 (by kernel_rfl) rfl #[.int .i64 a1] rfl al_ ?_; (with_reducible refine (cmp_isNaN_int.calls a1 true _ A4.out).mono ?_); rintro e w' ⟨rfl, ⟨nd, rfl⟩⟩; refine ⟨_, rfl, ?_⟩))
   go_ret
   exact ⟨by first | rfl | (simp; done) | (simp [*]; done), by repeat (first | exact Drawn0.refl _ | apply Drawn0.step)⟩
  ·replace c6 := Bool.eq_false_iff.mpr c6
   subst c6
   have H1 : (some (-1)) = some r := by rw [if_neg (show ¬ (false = true) by decide)] at H; exact H
   clear H
   have H := H1
   clear H1
   obtain rfl := Option.some.inj H
   go_enter Try.func103, Try.ntmps103
   go_wp2_with (first | ((with_reducible refine gate_callee (f := 155) rfl ?_); refine goesL_ (some 8) rfl rfl Try.func155 (by kernel_rfl) rfl #[.int .i64 a0] rfl al_ ?_; (with_reducible refine (cmp_isNaN_int.calls a0 true _ A3.out).mono ?_); rintro e w' ⟨rfl, ⟨nd, rfl⟩⟩; refine ⟨_, rfl, ?_⟩) | ((with_reducible refine gate_callee (f := 155) rfl ?_); refine goesL_ (some 10) rfl rfl Try.func155 (by kernel_rfl) rfl #[.int .i64 a1] rfl al_ ?_; (with_reducible refine (cmp_isNaN_int.calls a1 false _ A4.out).mono ?_); rintro e w' ⟨rfl, ⟨nd, rfl⟩⟩; refine ⟨_, rfl, ?_⟩))
   go_ret
   exact ⟨by first | rfl | (simp; done) | (simp [*]; done), by repeat (first | exact Drawn0.refl _ | apply Drawn0.step)⟩
 ·replace c5 := Bool.eq_false_iff.mpr c5
  subst c5
  have H1 : (if t402 = true then (some 1) else (if a0 < a1 then (some (-1)) else (if a0 > a1 then (some 1) else (some 0)))) = some r := by rw [if_neg (show ¬ (false = true) by decide)] at H; exact H
  clear H
  have H := H1
  clear H1
  by_cases c7 : t402 = true
  ·subst c7
   have H1 : (some 1) = some r := by rw [if_pos rfl] at H; exact H
   clear H
   have H := H1
   clear H1
   obtain rfl := Option.some.inj H
   go_enter Try.func103, Try.ntmps103
   go_wp2_with (first | ((with_reducible refine gate_callee (f := 155) rfl ?_); refine goesL_ (some 8) rfl rfl Try.func155 (by kernel_rfl) rfl #[.int .i64 a0] rfl al_ ?_; (with_reducible refine (cmp_isNaN_int.calls a0 false _ A3.out).mono ?_); rintro e w' ⟨rfl, ⟨nd, rfl⟩⟩; refine ⟨_, rfl, ?_⟩) | ((with_reducible refine gate_callee (f := 155) rfl ?_); refine goesL_ (some 10) rfl rfl Try.func155 (by kernel_rfl) rfl #[.int .i64 a1] rfl al_ ?_; (with_reducible refine (cmp_isNaN_int.calls a1 true _ A4.out).mono ?_); rintro e w' ⟨rfl, ⟨nd, rfl⟩⟩; refine ⟨_, rfl, ?_⟩))
   go_ret
   exact ⟨by first | rfl | (simp; done) | (simp [*]; done), by repeat (first | exact Drawn0.refl _ | apply Drawn0.step)⟩
  ·replace c7 := Bool.eq_false_iff.mpr c7
   subst c7
   have H1 : (if a0 < a1 then (some (-1)) else (if a0 > a1 then (some 1) else (some 0))) = some r := by rw [if_neg (show ¬ (false = true) by decide)] at H; exact H
   clear H
   have H := H1
   clear H1
   by_cases c8 : a0 < a1
   ·rw [if_pos c8] at H
    have c8b0 : decide (a0 < a1) = true := decide_eq_true c8
    clear c8
    obtain rfl := Option.some.inj H
    go_enter Try.func103, Try.ntmps103
    go_wp2_with (first | ((with_reducible refine gate_callee (f := 155) rfl ?_); refine goesL_ (some 8) rfl rfl Try.func155 (by kernel_rfl) rfl #[.int .i64 a0] rfl al_ ?_; (with_reducible refine (cmp_isNaN_int.calls a0 false _ A3.out).mono ?_); rintro e w' ⟨rfl, ⟨nd, rfl⟩⟩; refine ⟨_, rfl, ?_⟩) | ((with_reducible refine gate_callee (f := 155) rfl ?_); refine goesL_ (some 10) rfl rfl Try.func155 (by kernel_rfl) rfl #[.int .i64 a1] rfl al_ ?_; (with_reducible refine (cmp_isNaN_int.calls a1 false _ A4.out).mono ?_); rintro e w' ⟨rfl, ⟨nd, rfl⟩⟩; refine ⟨_, rfl, ?_⟩))
    go_ret
    exact ⟨by first | rfl | (simp; done) | (simp [*]; done), by repeat (first | exact Drawn0.refl _ | apply Drawn0.step)⟩
   ·rw [if_neg c8] at H
    have c8b0 : decide (a0 < a1) = false := decide_eq_false c8
    clear c8
    by_cases c9 : a0 > a1
    ·rw [if_pos c9] at H
     have c9b0 : decide (a1 < a0) = true := decide_eq_true c9
     clear c9
     obtain rfl := Option.some.inj H
     go_enter Try.func103, Try.ntmps103
     go_wp2_with (first | ((with_reducible refine gate_callee (f := 155) rfl ?_); refine goesL_ (some 8) rfl rfl Try.func155 (by kernel_rfl) rfl #[.int .i64 a0] rfl al_ ?_; (with_reducible refine (cmp_isNaN_int.calls a0 false _ A3.out).mono ?_); rintro e w' ⟨rfl, ⟨nd, rfl⟩⟩; refine ⟨_, rfl, ?_⟩) | ((with_reducible refine gate_callee (f := 155) rfl ?_); refine goesL_ (some 10) rfl rfl Try.func155 (by kernel_rfl) rfl #[.int .i64 a1] rfl al_ ?_; (with_reducible refine (cmp_isNaN_int.calls a1 false _ A4.out).mono ?_); rintro e w' ⟨rfl, ⟨nd, rfl⟩⟩; refine ⟨_, rfl, ?_⟩))
     go_ret
     exact ⟨by first | rfl | (simp; done) | (simp [*]; done), by repeat (first | exact Drawn0.refl _ | apply Drawn0.step)⟩
    ·rw [if_neg c9] at H
     have c9b0 : decide (a1 < a0) = false := decide_eq_false c9
     clear c9
     obtain rfl := Option.some.inj H
     go_enter Try.func103, Try.ntmps103
     go_wp2_with (first | ((with_reducible refine gate_callee (f := 155) rfl ?_); refine goesL_ (some 8) rfl rfl Try.func155 (by kernel_rfl) rfl #[.int .i64 a0] rfl al_ ?_; (with_reducible refine (cmp_isNaN_int.calls a0 false _ A3.out).mono ?_); rintro e w' ⟨rfl, ⟨nd, rfl⟩⟩; refine ⟨_, rfl, ?_⟩) | ((with_reducible refine gate_callee (f := 155) rfl ?_); refine goesL_ (some 10) rfl rfl Try.func155 (by kernel_rfl) rfl #[.int .i64 a1] rfl al_ ?_; (with_reducible refine (cmp_isNaN_int.calls a1 false _ A4.out).mono ?_); rintro e w' ⟨rfl, ⟨nd, rfl⟩⟩; refine ⟨_, rfl, ?_⟩))
     go_ret
     exact ⟨by first | rfl | (simp; done) | (simp [*]; done), by repeat (first | exact Drawn0.refl _ | apply Drawn0.step)⟩

/-! ### impl_CmpPrefix: function 46 -/
def impl_CmpPrefix.f (k : Nat) (a0_0 : Bool) (a0_1 : Int) (a0_2 : Int) (a0_3 : Int) (a1_0 : Bool) (a1_1 : Int) (a1_2 : Int) (a1_3 : Int) : Option (Int) := (impl_CmpAddr.f k a0_0 a0_1 a0_2 a1_0 a1_1 a1_2).bind fun t405 => (if t405 = 0 then ((cmp_Compare_int.f a0_3 a1_3).bind fun t406 => (some t406)) else (some t405))
theorem impl_CmpPrefix.mono : ∀ a0 a1 a2 a3 a4 a5 a6 a7 k, LeO (impl_CmpPrefix.f k a0 a1 a2 a3 a4 a5 a6 a7) (impl_CmpPrefix.f (k + 1) a0 a1 a2 a3 a4 a5 a6 a7) := by
 intro a0 a1 a2 a3 a4 a5 a6 a7 k
 unfold impl_CmpPrefix.f
 repeat' first
   | (with_reducible exact impl_CmpAddr.mono _ _ _ _ _ _ _)
   | (with_reducible exact LeO.refl _)
   | (with_reducible exact LeO.none _)
   | (with_reducible refine LeO.ite ?_ ?_)
   | (with_reducible refine LeO.bind ?_ (fun _ => ?_))
   | exact impl_CmpAddr.mono _ _ _ _ _ _ _
   | exact LeO.none _
   | refine LeO.ite ?_ ?_
   | refine LeO.bind ?_ (fun _ => ?_)
set_option maxHeartbeats 8000000 in
set_option maxRecDepth 100000 in
theorem impl_CmpPrefix.calls (k : Nat) (a0_0 : Bool) (a0_1 : Int) (a0_2 : Int) (a0_3 : Int) (a1_0 : Bool) (a1_1 : Int) (a1_2 : Int) (a1_3 : Int) (r : Int) (w : World) (h : impl_CmpPrefix.f k a0_0 a0_1 a0_2 a0_3 a1_0 a1_1 a1_2 a1_3 = some r) :
  Calls Try.prog 46 #[.agg #[.bool a0_0, .int .i64 a0_1, .int .i64 a0_2, .int .i64 a0_3], .agg #[.bool a1_0, .int .i64 a1_1, .int .i64 a1_2, .int .i64 a1_3]] w fun e w' => e = .returned (.int .i64 r) ∧ Below w.heap.size w w' := by
 have hu31 := Try.underlying31
 have hu29 := Try.underlying29
 have HB := Aside0.mk (Below.refl w.heap.size w)
 have H : ((impl_CmpAddr.f k a0_0 a0_1 a0_2 a1_0 a1_1 a1_2).bind fun t405 => (if t405 = 0 then ((cmp_Compare_int.f a0_3 a1_3).bind fun t406 => (some t406)) else (some t405))) = some r := h
 clear h
 replace H := Option.bind_eq_some_iff.mp H
 obtain ⟨t405, A30, H⟩ := H
 replace H : (if t405 = 0 then ((cmp_Compare_int.f a0_3 a1_3).bind fun t406 => (some t406)) else (some t405)) = some r := H
 have A3 := Aside0.mk A30
 clear A30
 by_cases c4 : t405 = 0
 ·rw [if_pos c4] at H
  have c4b0 : (t405 == 0) = true := beq_iff_eq.mpr c4
  have c4b1 : (t405 != 0) = false := bne_eq_false_iff_eq.mpr c4
  clear c4
  replace H := Option.bind_eq_some_iff.mp H
  obtain ⟨t406, A50, H⟩ := H
  replace H : (some t406) = some r := H
  have A5 := Aside0.mk A50
  clear A50
  obtain rfl := Option.some.inj H
  go_enter Try.func46, Try.ntmps46
  go_wp2_with (first | ((with_reducible refine gate_dst (N := 2) rfl ?_); refine box_event ?hg (N := 2) ?hd (cs := #[.bool a0_0, .int .i64 a0_1, .int .i64 a0_2, .int .i64 a0_3]) (t := 31) ?hr ?_; (case hd => rfl); (case hg => rfl); (case hr => first | (go_simp; done) | (go_simp; rfl)); intro gb403 hg w6 hbox hb; have n0_ := Aside0.mk (below_step (hb_ HB.out) hb); have n1_ := Aside0.mk (hbox); have n2_ := bg_ hg (below_size (hb_ HB.out)); have n3_ := bg_ hg (below_size (hb_ HB.out)); clear HB; have HB := n0_; have BK403 := n1_; have GW403 := n2_; have GE403 := n3_; clear n0_ n1_ n2_ n3_; clear hb hbox hg) | ((with_reducible refine gate_dst (N := 3) rfl ?_); refine box_event ?hg (N := 3) ?hd (cs := #[.bool a1_0, .int .i64 a1_1, .int .i64 a1_2, .int .i64 a1_3]) (t := 31) ?hr ?_; (case hd => rfl); (case hg => rfl); (case hr => first | (go_simp; done) | (go_simp; rfl)); intro gb404 hg w7 hbox hb; have n0_ := Aside0.mk (blk_below (bk_ BK403.out) hb); have n1_ := Aside0.mk (below_step (hc_ HB.out GE403.out) hb); have n2_ := Aside0.mk (hbox); have n3_ := bg_ hg (below_size (hc_ HB.out GE403.out)); have n4_ := bg_ hg (below_size (hc_ HB.out GE403.out)); have n5_ := bn_ hg (blk_lt (bk_ BK403.out)); have n6_ := bm_ hg (blk_lt (bk_ BK403.out)); clear BK403; clear HB; have BK403 := n0_; have HB := n1_; have BK404 := n2_; have GW404 := n3_; have GE404 := n4_; have NB403_404 := n5_; have NB404_403 := n6_; clear n0_ n1_ n2_ n3_ n4_ n5_ n6_; clear hb hbox hg; have hnb8 := NB403_404.out; have hnc8 := NB404_403.out; obtain ⟨hcz9_0, hcz9_1, hcz9_2, hcz9_3, hfz9_0, hfz9_1, hfz9_2, hfz9_3⟩ := bc4_ BK403.out; obtain ⟨hcz10_0, hcz10_1, hcz10_2, hcz10_3, hfz10_0, hfz10_1, hfz10_2, hfz10_3⟩ := bc4_ BK404.out) | ((with_reducible refine gate_callee (f := 86) rfl ?_); refine goesL_ (some 10) rfl rfl Try.func86 (by kernel_rfl) rfl #[.agg #[.bool a0_0, .int .i64 a0_1, .int .i64 a0_2], .agg #[.bool a1_0, .int .i64 a1_1, .int .i64 a1_2]] rfl al_ ?_; (with_reducible refine (impl_CmpAddr.calls k a0_0 a0_1 a0_2 a1_0 a1_1 a1_2 t405 _ A3.out).mono ?_); rintro e w11 ⟨rfl, hb⟩; refine ⟨_, rfl, ?_⟩; have n0_ := Aside0.mk (blk_below (bk_ BK403.out) hb); have n1_ := Aside0.mk (blk_below (bk_ BK404.out) hb); have n2_ := Aside0.mk (below_step (hd_ HB.out GE403.out GE404.out) hb); clear BK403; clear BK404; clear HB; have BK403 := n0_; have BK404 := n1_; have HB := n2_; clear n0_ n1_ n2_; (try clear hb); (try clear hb2); (try clear hk); (try clear hi); obtain ⟨hcz12_0, hcz12_1, hcz12_2, hcz12_3, hfz12_0, hfz12_1, hfz12_2, hfz12_3⟩ := bc4_ BK403.out; obtain ⟨hcz13_0, hcz13_1, hcz13_2, hcz13_3, hfz13_0, hfz13_1, hfz13_2, hfz13_3⟩ := bc4_ BK404.out) | ((with_reducible refine gate_callee (f := 103) rfl ?_); refine goesL_ (some 18) rfl rfl Try.func103 (by kernel_rfl) rfl #[.int .i64 a0_3, .int .i64 a1_3] rfl al_ ?_; (with_reducible refine (cmp_Compare_int.calls a0_3 a1_3 t406 _ A5.out).mono ?_); rintro e w' ⟨rfl, ⟨nd, rfl⟩⟩; refine ⟨_, rfl, ?_⟩))
  go_ret
  exact ⟨pe_, hd_ HB.out GE403.out GE404.out⟩
 ·rw [if_neg c4] at H
  have c4b0 : (t405 == 0) = false := beq_eq_false_iff_ne.mpr c4
  have c4b1 : (t405 != 0) = true := bne_iff_ne.mpr c4
  obtain rfl := Option.some.inj H
  go_enter Try.func46, Try.ntmps46
  go_wp2_with (first | ((with_reducible refine gate_dst (N := 2) rfl ?_); refine box_event ?hg (N := 2) ?hd (cs := #[.bool a0_0, .int .i64 a0_1, .int .i64 a0_2, .int .i64 a0_3]) (t := 31) ?hr ?_; (case hd => rfl); (case hg => rfl); (case hr => first | (go_simp; done) | (go_simp; rfl)); intro gb403 hg w14 hbox hb; have n0_ := Aside0.mk (below_step (hb_ HB.out) hb); have n1_ := Aside0.mk (hbox); have n2_ := bg_ hg (below_size (hb_ HB.out)); have n3_ := bg_ hg (below_size (hb_ HB.out)); clear HB; have HB := n0_; have BK403 := n1_; have GW403 := n2_; have GE403 := n3_; clear n0_ n1_ n2_ n3_; clear hb hbox hg) | ((with_reducible refine gate_dst (N := 3) rfl ?_); refine box_event ?hg (N := 3) ?hd (cs := #[.bool a1_0, .int .i64 a1_1, .int .i64 a1_2, .int .i64 a1_3]) (t := 31) ?hr ?_; (case hd => rfl); (case hg => rfl); (case hr => first | (go_simp; done) | (go_simp; rfl)); intro gb404 hg w15 hbox hb; have n0_ := Aside0.mk (blk_below (bk_ BK403.out) hb); have n1_ := Aside0.mk (below_step (hc_ HB.out GE403.out) hb); have n2_ := Aside0.mk (hbox); have n3_ := bg_ hg (below_size (hc_ HB.out GE403.out)); have n4_ := bg_ hg (below_size (hc_ HB.out GE403.out)); have n5_ := bn_ hg (blk_lt (bk_ BK403.out)); have n6_ := bm_ hg (blk_lt (bk_ BK403.out)); clear BK403; clear HB; have BK403 := n0_; have HB := n1_; have BK404 := n2_; have GW404 := n3_; have GE404 := n4_; have NB403_404 := n5_; have NB404_403 := n6_; clear n0_ n1_ n2_ n3_ n4_ n5_ n6_; clear hb hbox hg; have hnb16 := NB403_404.out; have hnc16 := NB404_403.out; obtain ⟨hcz17_0, hcz17_1, hcz17_2, hcz17_3, hfz17_0, hfz17_1, hfz17_2, hfz17_3⟩ := bc4_ BK403.out; obtain ⟨hcz18_0, hcz18_1, hcz18_2, hcz18_3, hfz18_0, hfz18_1, hfz18_2, hfz18_3⟩ := bc4_ BK404.out) | ((with_reducible refine gate_callee (f := 86) rfl ?_); refine goesL_ (some 10) rfl rfl Try.func86 (by kernel_rfl) rfl #[.agg #[.bool a0_0, .int .i64 a0_1, .int .i64 a0_2], .agg #[.bool a1_0, .int .i64 a1_1, .int .i64 a1_2]] rfl al_ ?_; (with_reducible refine (impl_CmpAddr.calls k a0_0 a0_1 a0_2 a1_0 a1_1 a1_2 t405 _ A3.out).mono ?_); rintro e w19 ⟨rfl, hb⟩; refine ⟨_, rfl, ?_⟩; have n0_ := Aside0.mk (blk_below (bk_ BK403.out) hb); have n1_ := Aside0.mk (blk_below (bk_ BK404.out) hb); have n2_ := Aside0.mk (below_step (hd_ HB.out GE403.out GE404.out) hb); clear BK403; clear BK404; clear HB; have BK403 := n0_; have BK404 := n1_; have HB := n2_; clear n0_ n1_ n2_; (try clear hb); (try clear hb2); (try clear hk); (try clear hi)))
  go_ret
  exact ⟨pe_, hd_ HB.out GE403.out GE404.out⟩

end Go.Proofs.Ythakdhdoeejkmaa.QFnHalved
