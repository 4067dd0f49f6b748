-- Written by a program of this session (wip/myprint.py); Lean checks it.
import Derived.Test.YthakdhdoeejkmaaQFnHalvedx0
import Derived.Test.YthakdhdoeejkmaaQFnHalvedx3
import Derived.Test.YthakdhdoeejkmaaQFnHalvedx4
import Derived.Test.YthakdhdoeejkmaaQFnHalvedx5
import Derived.Test.YthakdhdoeejkmaaQFnHalvedx7
import Derived.Test.YthakdhdoeejkmaaQFnHalvedx8
namespace Go.Proofs.Ythakdhdoeejkmaa.QFnHalved
open Go.RowKit Go.Proofs.YthakdhdoeejkmaaW.PrintWords Go.Proofs.YthakdhdoeejkmaaW.PrintLast Go.Proofs.YthakdhdoeejkmaaW.PrintMore
open Act (put)
open List (setIfInBounds_toArray set_cons_zero set_cons_succ)
attribute [local go_sem] max2_int min2_int max_two min_two max_three min_three max_four min_four   -- for this text's walks alone
set_option linter.unusedVariables false
set_option linter.unusedSimpArgs false

attribute [local go_sem] isSome_setCell
/-! ### spec_Halves: function 36 -/
def spec_Halves.f (a0_0 : Bool) (a0_1 : Int) (a0_2 : Int) (a0_3 : Int) : Option (Bool × Int × Int × Int × Bool × Int × Int × Int × Bool) := (spec_PrefixOk.f a0_0 a0_1 a0_2 a0_3).bind fun t317 => (if t317 = true then ((spec_l2Width.f a0_0 a0_1 a0_2).bind fun t318 => (if a0_3 = t318 then (some (false, 0, 0, 0, false, 0, 0, 0, false)) else ((spec_l2Halves.f a0_0 a0_1 a0_2 a0_3).bind fun bt319 => (some (bt319.1, bt319.2.1, bt319.2.2.1, bt319.2.2.2.1, bt319.2.2.2.2.1, bt319.2.2.2.2.2.1, bt319.2.2.2.2.2.2.1, bt319.2.2.2.2.2.2.2, true))))) else (some (false, 0, 0, 0, false, 0, 0, 0, false)))
def spec_Halves.T1 : Bool × List (List Nat × List Nat) := (true, [([], []), ([0], [0]), ([1], [1]), ([2, 1], [2]), ([3], [3]), ([4, 3], [3, 4]), ([3], [3]), ([6, 3], [3, 6]), ([7, 3, 3], [3, 7]), ([5, 8, 3], [3, 5, 8]), ([3, 9], [3, 9])])
def spec_Halves.B1 : List Nat := [0, 1, 3, 7, 15, 31, 15, 79, 207, 511, 1023]
theorem spec_Halves.tab1 : rtab .any (opsOf Try.f36 1) = spec_Halves.T1 := by kernel_rfl
theorem spec_Halves.bits1 : waitsOk spec_Halves.T1.2 spec_Halves.B1 = true := by kernel_rfl
set_option maxHeartbeats 8000000 in
set_option maxRecDepth 100000 in
theorem spec_Halves.calls (a0_0 : Bool) (a0_1 : Int) (a0_2 : Int) (a0_3 : Int) (r1 : Bool) (r2 : Int) (r3 : Int) (r4 : Int) (r5 : Bool) (r6 : Int) (r7 : Int) (r8 : Int) (r9 : Bool) (w : World) (h : spec_Halves.f a0_0 a0_1 a0_2 a0_3 = some (r1, r2, r3, r4, r5, r6, r7, r8, r9)) :
  Calls Try.prog 36 #[.agg #[.bool a0_0, .int .i64 a0_1, .int .i64 a0_2, .int .i64 a0_3]] w fun e w' => e = .returned (.tuple #[.agg #[.bool r1, .int .i64 r2, .int .i64 r3, .int .i64 r4], .agg #[.bool r5, .int .i64 r6, .int .i64 r7, .int .i64 r8], .bool r9]) ∧ Below w.heap.size w w' := by
 have hu31 := Try.underlying31
 have hu29 := Try.underlying29
 have HB := Aside0.mk (Below.refl w.heap.size w)
 have H : ((spec_PrefixOk.f a0_0 a0_1 a0_2 a0_3).bind fun t317 => (if t317 = true then ((spec_l2Width.f a0_0 a0_1 a0_2).bind fun t318 => (if a0_3 = t318 then (some (false, 0, 0, 0, false, 0, 0, 0, false)) else ((spec_l2Halves.f a0_0 a0_1 a0_2 a0_3).bind fun bt319 => (some (bt319.1, bt319.2.1, bt319.2.2.1, bt319.2.2.2.1, bt319.2.2.2.2.1, bt319.2.2.2.2.2.1, bt319.2.2.2.2.2.2.1, bt319.2.2.2.2.2.2.2, true))))) else (some (false, 0, 0, 0, false, 0, 0, 0, false)))) = some (r1, r2, r3, r4, r5, r6, r7, r8, r9) := h
 clear h
 replace H := Option.bind_eq_some_iff.mp H
 obtain ⟨t317, A20, H⟩ := H
 replace H : (if t317 = true then ((spec_l2Width.f a0_0 a0_1 a0_2).bind fun t318 => (if a0_3 = t318 then (some (false, 0, 0, 0, false, 0, 0, 0, false)) else ((spec_l2Halves.f a0_0 a0_1 a0_2 a0_3).bind fun bt319 => (some (bt319.1, bt319.2.1, bt319.2.2.1, bt319.2.2.2.1, bt319.2.2.2.2.1, bt319.2.2.2.2.2.1, bt319.2.2.2.2.2.2.1, bt319.2.2.2.2.2.2.2, true))))) else (some (false, 0, 0, 0, false, 0, 0, 0, false))) = some (r1, r2, r3, r4, r5, r6, r7, r8, r9) := H
 have A2 := Aside0.mk A20
 clear A20
 by_cases c3 : t317 = true
 ·subst c3
  have H1 : ((spec_l2Width.f a0_0 a0_1 a0_2).bind fun t318 => (if a0_3 = t318 then (some (false, 0, 0, 0, false, 0, 0, 0, false)) else ((spec_l2Halves.f a0_0 a0_1 a0_2 a0_3).bind fun bt319 => (some (bt319.1, bt319.2.1, bt319.2.2.1, bt319.2.2.2.1, bt319.2.2.2.2.1, bt319.2.2.2.2.2.1, bt319.2.2.2.2.2.2.1, bt319.2.2.2.2.2.2.2, true))))) = some (r1, r2, r3, r4, r5, r6, r7, r8, r9) := by rw [if_pos rfl] at H; exact H
  clear H
  have H := H1
  clear H1
  replace H := Option.bind_eq_some_iff.mp H
  obtain ⟨t318, A40, H⟩ := H
  replace H : (if a0_3 = t318 then (some (false, 0, 0, 0, false, 0, 0, 0, false)) else ((spec_l2Halves.f a0_0 a0_1 a0_2 a0_3).bind fun bt319 => (some (bt319.1, bt319.2.1, bt319.2.2.1, bt319.2.2.2.1, bt319.2.2.2.2.1, bt319.2.2.2.2.2.1, bt319.2.2.2.2.2.2.1, bt319.2.2.2.2.2.2.2, true)))) = some (r1, r2, r3, r4, r5, r6, r7, r8, r9) := H
  have A4 := Aside0.mk A40
  clear A40
  by_cases c5 : a0_3 = t318
  ·rw [if_pos c5] at H
   have c5b0 : (a0_3 == t318) = true := beq_iff_eq.mpr c5
   have c5b1 : (a0_3 != t318) = false := bne_eq_false_iff_eq.mpr c5
   clear c5
   simp only [Option.some.injEq, Prod.mk.injEq] at H
   obtain ⟨rfl, rfl, rfl, rfl, rfl, rfl, rfl, rfl, rfl⟩ := H
   go_enter Try.func36, Try.ntmps36
   try go_wp2_with (first | ((with_reducible refine gate_dst (N := 1) rfl ?_); refine box_event ?hg (N := 1) ?hd (cs := #[.bool a0_0, .int .i64 a0_1, .int .i64 a0_2, .int .i64 a0_3]) (t := 31) ?hr ?_; (case hd => rfl); (case hg => rfl); (case hr => first | (go_simp; done) | (go_simp; rfl)); intro gb314 hg w6 hbox hb; have n0_ := Aside0.mk (below_step (hb_ HB.out) hb); have n1_ := Aside0.mk (hbox); have n2_ := bg_ hg (below_size (hb_ HB.out)); have n3_ := bg_ hg (below_size (hb_ HB.out)); clear HB; have HB := n0_; have BK314 := n1_; have GW314 := n2_; have GE314 := n3_; clear n0_ n1_ n2_ n3_; clear hb hbox hg) | ((with_reducible refine gate_dst (N := 2) rfl ?_); refine box_event ?hg (N := 2) ?hd (cs := #[.bool false, .int .i64 0, .int .i64 0, .int .i64 0]) (t := 31) ?hr ?_; (case hd => rfl); (case hg => rfl); (case hr => first | (go_simp; done) | (go_simp; rfl)); intro gb315 hg w7 hbox hb; have n0_ := Aside0.mk (blk_below (bk_ BK314.out) hb); have n1_ := Aside0.mk (below_step (hc_ HB.out GE314.out) hb); have n2_ := Aside0.mk (hbox); have n3_ := bg_ hg (below_size (hc_ HB.out GE314.out)); have n4_ := bg_ hg (below_size (hc_ HB.out GE314.out)); have n5_ := bn_ hg (blk_lt (bk_ BK314.out)); have n6_ := bm_ hg (blk_lt (bk_ BK314.out)); clear BK314; clear HB; have BK314 := n0_; have HB := n1_; have BK315 := n2_; have GW315 := n3_; have GE315 := n4_; have NB314_315 := n5_; have NB315_314 := n6_; clear n0_ n1_ n2_ n3_ n4_ n5_ n6_; clear hb hbox hg) | ((with_reducible refine gate_dst (N := 3) rfl ?_); refine box_event ?hg (N := 3) ?hd (cs := #[.bool false, .int .i64 0, .int .i64 0, .int .i64 0]) (t := 31) ?hr ?_; (case hd => rfl); (case hg => rfl); (case hr => first | (go_simp; done) | (go_simp; rfl)); intro gb316 hg w8 hbox hb; have n0_ := Aside0.mk (blk_below (bk_ BK314.out) hb); have n1_ := Aside0.mk (blk_below (bk_ BK315.out) hb); have n2_ := Aside0.mk (below_step (hd_ HB.out GE314.out GE315.out) hb); have n3_ := Aside0.mk (hbox); have n4_ := bg_ hg (below_size (hd_ HB.out GE314.out GE315.out)); have n5_ := bg_ hg (below_size (hd_ HB.out GE314.out GE315.out)); have n6_ := bn_ hg (blk_lt (bk_ BK314.out)); have n7_ := bm_ hg (blk_lt (bk_ BK314.out)); have n8_ := bn_ hg (blk_lt (bk_ BK315.out)); have n9_ := bm_ hg (blk_lt (bk_ BK315.out)); clear BK314; clear BK315; clear HB; have BK314 := n0_; have BK315 := n1_; have HB := n2_; have BK316 := n3_; have GW316 := n4_; have GE316 := n5_; have NB314_316 := n6_; have NB316_314 := n7_; have NB315_316 := n8_; have NB316_315 := n9_; clear n0_ n1_ n2_ n3_ n4_ n5_ n6_ n7_ n8_ n9_; clear hb hbox hg))
   have n0_ := Aside0.mk (blk_drew BK314.out)
   have n1_ := Aside0.mk (blk_drew BK315.out)
   have n2_ := Aside0.mk (blk_drew BK316.out)
   have n3_ := Aside0.mk (below_drew1 HB.out)
   clear BK314
   clear BK315
   clear BK316
   clear HB
   have BK314 := n0_
   have BK315 := n1_
   have BK316 := n2_
   have HB := n3_
   clear n0_ n1_ n2_ n3_
   refine start_ (n := 11) (S := fun w' => w'.cell? ⟨gb314, 0, none⟩ = some (.bool a0_0) ∧ w'.cell? ⟨gb314, 1, none⟩ = some (.int .i64 a0_1) ∧ w'.cell? ⟨gb314, 2, none⟩ = some (.int .i64 a0_2) ∧ w'.cell? ⟨gb314, 3, none⟩ = some (.int .i64 a0_3)) (ds := []) #[false, false, false, false, false, false, false, false, false, false, false] (by kernel_rfl) rfl rfl ⟨(blk_cell BK314.out 0).trans rfl, (blk_cell BK314.out 1).trans rfl, (blk_cell BK314.out 2).trans rfl, (blk_cell BK314.out 3).trans rfl⟩ (fun hHeld => ?_); refine with_tabW spec_Halves.tab1 spec_Halves.bits1 (fun HT_ HW_ => ?_)
   generalize w8.drew = w9 at BK314 BK315 BK316 HB hHeld ⊢
   refine take_ (i := 0) (N := some 7) (v := ?_) (a' := ?_) #[true, false, false, false, false, false, false, false, false, false, false] rfl rfl (take_ofW HT_.out HW_.out (by kernel_rfl)) (fun _ _ _ h => h) (Or.inl ⟨by rfl, ?_⟩) hHeld ?_ ?_
   rotate_left
   ·rintro w' ⟨s0, s1, s2, s3⟩
    go_simp
    with_reducible rfl
   rotate_left
   ·simp only [put, setIfInBounds_toArray, set_cons_zero, set_cons_succ, i64_w, i32_w]
    rfl
   refine one_ (i := 1) (N := some 8) #[true, true, false, false, false, false, false, false, false, false, false] rfl rfl (one_of HT_.out (by kernel_rfl)) (by decide) (fun K hK => ?_)
   refine goes_ Try.func37 (by kernel_rfl) rfl #[.agg #[.bool a0_0, .int .i64 a0_1, .int .i64 a0_2, .int .i64 a0_3]] (by rfl) rfl rfl al_ ?_
   with_reducible refine (spec_PrefixOk.calls a0_0 a0_1 a0_2 a0_3 true _ A2.out).mono ?_
   rintro e w10 ⟨rfl, hb⟩
   refine ⟨_, rfl, ?_⟩
   have n0_ := Aside0.mk (blk_below (bk_ BK314.out) hb)
   have n1_ := Aside0.mk (blk_below (bk_ BK315.out) hb)
   have n2_ := Aside0.mk (blk_below (bk_ BK316.out) hb)
   have n3_ := Aside0.mk (below_step (by repeat (first | (with_reducible first | exact HB.out | apply below_alloc | apply pw_below_drewN | apply below_drew1 | refine below_set ?_ GE314.out | refine below_set ?_ GE315.out | refine below_set ?_ GE316.out) | exact HB.out)) hb)
   clear BK314
   clear BK315
   clear BK316
   clear HB
   have BK314 := n0_
   have BK315 := n1_
   have BK316 := n2_
   have HB := n3_
   clear n0_ n1_ n2_ n3_
   (try clear hb)
   (try clear hb2)
   (try clear hk)
   (try clear hi)
   refine hK.out _ _ ⟨(blk_cell BK314.out 0).trans rfl, (blk_cell BK314.out 1).trans rfl, (blk_cell BK314.out 2).trans rfl, (blk_cell BK314.out 3).trans rfl⟩ (fun hHeld => ?_)
   clear hK K
   refine norm_ (a' := ?_) ?_ ?_
   rotate_left
   ·show Act.put _ (some 8) _ = _
    simp only [put, setIfInBounds_toArray, set_cons_zero, set_cons_succ, i64_w, i32_w]
    rfl
   refine pure_ (i := 2) (N := some 9) (v := ?_) (a' := ?_) #[true, true, true, false, false, false, false, false, false, false, false] rfl rfl (any_of HT_.out (by kernel_rfl)) (fun _ _ _ h => h) (Or.inl ⟨by rfl, ?_⟩) ?_ ?_
   rotate_left
   ·intro w'
    go_simp
    with_reducible rfl
   rotate_left
   ·simp only [put, setIfInBounds_toArray, set_cons_zero, set_cons_succ, i64_w, i32_w]
    rfl
   refine pure_ (i := 3) (N := some 10) (v := ?_) (a' := ?_) #[true, true, true, true, false, false, false, false, false, false, false] rfl rfl (any_of HT_.out (by kernel_rfl)) (fun _ _ _ h => h) (Or.inl ⟨by rfl, ?_⟩) ?_ ?_
   rotate_left
   ·intro w'
    go_simp
    with_reducible rfl
   rotate_left
   ·simp only [put, setIfInBounds_toArray, set_cons_zero, set_cons_succ, i64_w, i32_w]
    rfl
   refine pure_ (i := 4) (N := some 11) (v := ?_) (a' := ?_) #[true, true, true, true, true, false, false, false, false, false, false] rfl rfl (any_of HT_.out (by kernel_rfl)) (fun _ _ _ h => h) (Or.inl ⟨by rfl, ?_⟩) ?_ ?_
   rotate_left
   ·intro w'
    go_simp
    with_reducible rfl
   rotate_left
   ·simp only [put, setIfInBounds_toArray, set_cons_zero, set_cons_succ, i64_w, i32_w]
    rfl
   refine pure_ (i := 6) (N := some 13) (v := ?_) (a' := ?_) #[true, true, true, true, true, false, true, false, false, false, false] rfl rfl (any_of HT_.out (by kernel_rfl)) (fun _ _ _ h => h) (Or.inl ⟨by rfl, ?_⟩) ?_ ?_
   rotate_left
   ·intro w'
    go_simp
    with_reducible rfl
   rotate_left
   ·simp only [put, setIfInBounds_toArray, set_cons_zero, set_cons_succ, i64_w, i32_w]
    rfl
   refine take_ (i := 5) (N := some 12) (v := ?_) (a' := ?_) #[true, true, true, true, true, true, true, false, false, false, false] rfl rfl (take_ofW HT_.out HW_.out (by kernel_rfl)) (fun _ _ _ h => h) (Or.inl ⟨by rfl, ?_⟩) hHeld ?_ ?_
   rotate_left
   ·rintro w' ⟨s0, s1, s2, s3⟩
    go_simp
    with_reducible rfl
   rotate_left
   ·simp only [put, setIfInBounds_toArray, set_cons_zero, set_cons_succ, i64_w, i32_w]
    rfl
   refine take_ (i := 7) (N := some 14) (v := ?_) (a' := ?_) #[true, true, true, true, true, true, true, true, false, false, false] rfl rfl (take_ofW HT_.out HW_.out (by kernel_rfl)) (fun _ _ _ h => h) (Or.inl ⟨by rfl, ?_⟩) hHeld ?_ ?_
   rotate_left
   ·rintro w' ⟨s0, s1, s2, s3⟩
    go_simp
    with_reducible rfl
   rotate_left
   ·simp only [put, setIfInBounds_toArray, set_cons_zero, set_cons_succ, i64_w, i32_w]
    rfl
   refine one_ (i := 8) (N := some 15) #[true, true, true, true, true, true, true, true, true, false, false] rfl rfl (one_of HT_.out (by kernel_rfl)) (by decide) (fun K hK => ?_)
   refine goes_ Try.func91 (by kernel_rfl) rfl #[.agg #[.bool a0_0, .int .i64 a0_1, .int .i64 a0_2]] (by rfl) rfl rfl al_ ?_
   with_reducible refine (spec_l2Width.calls a0_0 a0_1 a0_2 t318 _ A4.out).mono ?_
   rintro e w11 ⟨rfl, hb⟩
   refine ⟨_, rfl, ?_⟩
   have n0_ := Aside0.mk (blk_below (bk_ BK314.out) hb)
   have n1_ := Aside0.mk (blk_below (bk_ BK315.out) hb)
   have n2_ := Aside0.mk (blk_below (bk_ BK316.out) hb)
   have n3_ := Aside0.mk (below_step (by repeat (first | (with_reducible first | exact HB.out | apply below_alloc | apply pw_below_drewN | apply below_drew1 | refine below_set ?_ GE314.out | refine below_set ?_ GE315.out | refine below_set ?_ GE316.out) | exact HB.out)) hb)
   clear BK314
   clear BK315
   clear BK316
   clear HB
   have BK314 := n0_
   have BK315 := n1_
   have BK316 := n2_
   have HB := n3_
   clear n0_ n1_ n2_ n3_
   (try clear hb)
   (try clear hb2)
   (try clear hk)
   (try clear hi)
   refine hK.out _ _ ⟨(blk_cell BK314.out 0).trans rfl, (blk_cell BK314.out 1).trans rfl, (blk_cell BK314.out 2).trans rfl, (blk_cell BK314.out 3).trans rfl⟩ (fun hHeld => ?_)
   clear hK K
   refine norm_ (a' := ?_) ?_ ?_
   rotate_left
   ·show Act.put _ (some 15) _ = _
    simp only [put, setIfInBounds_toArray, set_cons_zero, set_cons_succ, i64_w, i32_w]
    rfl
   refine pure_ (i := 9) (N := some 16) (v := ?_) (a' := ?_) #[true, true, true, true, true, true, true, true, true, true, false] rfl rfl (any_of HT_.out (by kernel_rfl)) (fun _ _ _ h => h) (Or.inl ⟨by rfl, ?_⟩) ?_ ?_
   rotate_left
   ·intro w'
    go_simp
    with_reducible rfl
   rotate_left
   ·simp only [put, setIfInBounds_toArray, set_cons_zero, set_cons_succ, i64_w, i32_w]
    rfl
   refine pure_ (i := 10) (N := some 17) (v := ?_) (a' := ?_) #[true, true, true, true, true, true, true, true, true, true, true] rfl rfl (any_of HT_.out (by kernel_rfl)) (fun _ _ _ h => h) (Or.inl ⟨by rfl, ?_⟩) ?_ ?_
   rotate_left
   ·intro w'
    go_simp
    with_reducible rfl
   rotate_left
   ·simp only [put, setIfInBounds_toArray, set_cons_zero, set_cons_succ, i64_w, i32_w]
    rfl
   refine done_ (done_of HT_.out (by kernel_rfl)) ?_
   have hnb12 := NB315_314.out
   have hnc12 := NB314_315.out
   have hnb13 := NB315_316.out
   have hnc13 := NB316_315.out
   obtain ⟨hcz14_0, hcz14_1, hcz14_2, hcz14_3, hfz14_0, hfz14_1, hfz14_2, hfz14_3⟩ := bc4_ BK315.out
   have hnb15 := NB316_314.out
   have hnc15 := NB314_316.out
   obtain ⟨hcz16_0, hcz16_1, hcz16_2, hcz16_3, hfz16_0, hfz16_1, hfz16_2, hfz16_3⟩ := bc4_ BK316.out
   try go_wp2
   refine bodyPost_ret (results_list (rs := [.cell 2 31, .cell 3 31, .tmp 4]) rfl (by simp) (.cell gb315 31 #[.bool false, .int .i64 0, .int .i64 0, .int .i64 0] (0, 0) _ rfl (by refine bk_ ?_; refine blk_far ?_ NB315_316.out _; refine bk_ ?_; refine blk_far ?_ NB315_316.out _; refine bk_ ?_; refine blk_far ?_ NB315_316.out _; refine bk_ ?_; refine blk_far ?_ NB315_316.out _; refine bk_ ?_; refine blk_put (cs := #[.bool false, .int .i64 0, .int .i64 0, .int .i64 0]) ?_ 3 _ rfl; refine bk_ ?_; refine blk_put (cs := #[.bool false, .int .i64 0, .int .i64 0, .int .i64 0]) ?_ 2 _ rfl; refine bk_ ?_; refine blk_put (cs := #[.bool false, .int .i64 0, .int .i64 0, .int .i64 0]) ?_ 1 _ rfl; refine bk_ ?_; refine blk_put (cs := #[.bool false, .int .i64 0, .int .i64 0, .int .i64 0]) ?_ 0 _ rfl; refine bk_ ?_; exact BK315.out) Try.underlying31 rfl (by kernel_rfl) (.cell gb316 31 #[.bool false, .int .i64 0, .int .i64 0, .int .i64 0] (0, 0) _ rfl (by refine bk_ ?_; refine blk_put (cs := #[.bool false, .int .i64 0, .int .i64 0, .int .i64 0]) ?_ 3 _ rfl; refine bk_ ?_; refine blk_put (cs := #[.bool false, .int .i64 0, .int .i64 0, .int .i64 0]) ?_ 2 _ rfl; refine bk_ ?_; refine blk_put (cs := #[.bool false, .int .i64 0, .int .i64 0, .int .i64 0]) ?_ 1 _ rfl; refine bk_ ?_; refine blk_put (cs := #[.bool false, .int .i64 0, .int .i64 0, .int .i64 0]) ?_ 0 _ rfl; refine bk_ ?_; refine blk_far ?_ NB316_315.out _; refine bk_ ?_; refine blk_far ?_ NB316_315.out _; refine bk_ ?_; refine blk_far ?_ NB316_315.out _; refine bk_ ?_; refine blk_far ?_ NB316_315.out _; refine bk_ ?_; exact BK316.out) Try.underlying31 rfl (by kernel_rfl) (.tmp .nil)))) rfl ?_
   exact ⟨pe_, by repeat (first | (with_reducible first | exact HB.out | apply below_alloc | apply pw_below_drewN | apply below_drew1 | refine below_set ?_ GE314.out | refine below_set ?_ GE315.out | refine below_set ?_ GE316.out) | exact HB.out)⟩
  ·rw [if_neg c5] at H
   have c5b0 : (a0_3 == t318) = false := beq_eq_false_iff_ne.mpr c5
   have c5b1 : (a0_3 != t318) = true := bne_iff_ne.mpr c5
   replace H := Option.bind_eq_some_iff.mp H
   obtain ⟨⟨t319, t320, t321, t322, t323, t324, t325, t326⟩, A170, H⟩ := H
   replace H : (some (t319, t320, t321, t322, t323, t324, t325, t326, true)) = some (r1, r2, r3, r4, r5, r6, r7, r8, r9) := H
   have A17 := Aside0.mk A170
   clear A170
   simp only [Option.some.injEq, Prod.mk.injEq] at H
   obtain ⟨rfl, rfl, rfl, rfl, rfl, rfl, rfl, rfl, rfl⟩ := H
   go_enter Try.func36, Try.ntmps36
   try go_wp2_with (first | ((with_reducible refine gate_dst (N := 1) rfl ?_); refine box_event ?hg (N := 1) ?hd (cs := #[.bool a0_0, .int .i64 a0_1, .int .i64 a0_2, .int .i64 a0_3]) (t := 31) ?hr ?_; (case hd => rfl); (case hg => rfl); (case hr => first | (go_simp; done) | (go_simp; rfl)); intro gb314 hg w18 hbox hb; have n0_ := Aside0.mk (below_step (hb_ HB.out) hb); have n1_ := Aside0.mk (hbox); have n2_ := bg_ hg (below_size (hb_ HB.out)); have n3_ := bg_ hg (below_size (hb_ HB.out)); clear HB; have HB := n0_; have BK314 := n1_; have GW314 := n2_; have GE314 := n3_; clear n0_ n1_ n2_ n3_; clear hb hbox hg) | ((with_reducible refine gate_dst (N := 2) rfl ?_); refine box_event ?hg (N := 2) ?hd (cs := #[.bool false, .int .i64 0, .int .i64 0, .int .i64 0]) (t := 31) ?hr ?_; (case hd => rfl); (case hg => rfl); (case hr => first | (go_simp; done) | (go_simp; rfl)); intro gb315 hg w19 hbox hb; have n0_ := Aside0.mk (blk_below (bk_ BK314.out) hb); have n1_ := Aside0.mk (below_step (hc_ HB.out GE314.out) hb); have n2_ := Aside0.mk (hbox); have n3_ := bg_ hg (below_size (hc_ HB.out GE314.out)); have n4_ := bg_ hg (below_size (hc_ HB.out GE314.out)); have n5_ := bn_ hg (blk_lt (bk_ BK314.out)); have n6_ := bm_ hg (blk_lt (bk_ BK314.out)); clear BK314; clear HB; have BK314 := n0_; have HB := n1_; have BK315 := n2_; have GW315 := n3_; have GE315 := n4_; have NB314_315 := n5_; have NB315_314 := n6_; clear n0_ n1_ n2_ n3_ n4_ n5_ n6_; clear hb hbox hg) | ((with_reducible refine gate_dst (N := 3) rfl ?_); refine box_event ?hg (N := 3) ?hd (cs := #[.bool false, .int .i64 0, .int .i64 0, .int .i64 0]) (t := 31) ?hr ?_; (case hd => rfl); (case hg => rfl); (case hr => first | (go_simp; done) | (go_simp; rfl)); intro gb316 hg w20 hbox hb; have n0_ := Aside0.mk (blk_below (bk_ BK314.out) hb); have n1_ := Aside0.mk (blk_below (bk_ BK315.out) hb); have n2_ := Aside0.mk (below_step (hd_ HB.out GE314.out GE315.out) hb); have n3_ := Aside0.mk (hbox); have n4_ := bg_ hg (below_size (hd_ HB.out GE314.out GE315.out)); have n5_ := bg_ hg (below_size (hd_ HB.out GE314.out GE315.out)); have n6_ := bn_ hg (blk_lt (bk_ BK314.out)); have n7_ := bm_ hg (blk_lt (bk_ BK314.out)); have n8_ := bn_ hg (blk_lt (bk_ BK315.out)); have n9_ := bm_ hg (blk_lt (bk_ BK315.out)); clear BK314; clear BK315; clear HB; have BK314 := n0_; have BK315 := n1_; have HB := n2_; have BK316 := n3_; have GW316 := n4_; have GE316 := n5_; have NB314_316 := n6_; have NB316_314 := n7_; have NB315_316 := n8_; have NB316_315 := n9_; clear n0_ n1_ n2_ n3_ n4_ n5_ n6_ n7_ n8_ n9_; clear hb hbox hg))
   have n0_ := Aside0.mk (blk_drew BK314.out)
   have n1_ := Aside0.mk (blk_drew BK315.out)
   have n2_ := Aside0.mk (blk_drew BK316.out)
   have n3_ := Aside0.mk (below_drew1 HB.out)
   clear BK314
   clear BK315
   clear BK316
   clear HB
   have BK314 := n0_
   have BK315 := n1_
   have BK316 := n2_
   have HB := n3_
   clear n0_ n1_ n2_ n3_
   refine start_ (n := 11) (S := fun w' => w'.cell? ⟨gb314, 0, none⟩ = some (.bool a0_0) ∧ w'.cell? ⟨gb314, 1, none⟩ = some (.int .i64 a0_1) ∧ w'.cell? ⟨gb314, 2, none⟩ = some (.int .i64 a0_2) ∧ w'.cell? ⟨gb314, 3, none⟩ = some (.int .i64 a0_3)) (ds := []) #[false, false, false, false, false, false, false, false, false, false, false] (by kernel_rfl) rfl rfl ⟨(blk_cell BK314.out 0).trans rfl, (blk_cell BK314.out 1).trans rfl, (blk_cell BK314.out 2).trans rfl, (blk_cell BK314.out 3).trans rfl⟩ (fun hHeld => ?_); refine with_tabW spec_Halves.tab1 spec_Halves.bits1 (fun HT_ HW_ => ?_)
   generalize w20.drew = w21 at BK314 BK315 BK316 HB hHeld ⊢
   refine take_ (i := 0) (N := some 7) (v := ?_) (a' := ?_) #[true, false, false, false, false, false, false, false, false, false, false] rfl rfl (take_ofW HT_.out HW_.out (by kernel_rfl)) (fun _ _ _ h => h) (Or.inl ⟨by rfl, ?_⟩) hHeld ?_ ?_
   rotate_left
   ·rintro w' ⟨s0, s1, s2, s3⟩
    go_simp
    with_reducible rfl
   rotate_left
   ·simp only [put, setIfInBounds_toArray, set_cons_zero, set_cons_succ, i64_w, i32_w]
    rfl
   refine one_ (i := 1) (N := some 8) #[true, true, false, false, false, false, false, false, false, false, false] rfl rfl (one_of HT_.out (by kernel_rfl)) (by decide) (fun K hK => ?_)
   refine goes_ Try.func37 (by kernel_rfl) rfl #[.agg #[.bool a0_0, .int .i64 a0_1, .int .i64 a0_2, .int .i64 a0_3]] (by rfl) rfl rfl al_ ?_
   with_reducible refine (spec_PrefixOk.calls a0_0 a0_1 a0_2 a0_3 true _ A2.out).mono ?_
   rintro e w22 ⟨rfl, hb⟩
   refine ⟨_, rfl, ?_⟩
   have n0_ := Aside0.mk (blk_below (bk_ BK314.out) hb)
   have n1_ := Aside0.mk (blk_below (bk_ BK315.out) hb)
   have n2_ := Aside0.mk (blk_below (bk_ BK316.out) hb)
   have n3_ := Aside0.mk (below_step (by repeat (first | (with_reducible first | exact HB.out | apply below_alloc | apply pw_below_drewN | apply below_drew1 | refine below_set ?_ GE314.out | refine below_set ?_ GE315.out | refine below_set ?_ GE316.out) | exact HB.out)) hb)
   clear BK314
   clear BK315
   clear BK316
   clear HB
   have BK314 := n0_
   have BK315 := n1_
   have BK316 := n2_
   have HB := n3_
   clear n0_ n1_ n2_ n3_
   (try clear hb)
   (try clear hb2)
   (try clear hk)
   (try clear hi)
   refine hK.out _ _ ⟨(blk_cell BK314.out 0).trans rfl, (blk_cell BK314.out 1).trans rfl, (blk_cell BK314.out 2).trans rfl, (blk_cell BK314.out 3).trans rfl⟩ (fun hHeld => ?_)
   clear hK K
   refine norm_ (a' := ?_) ?_ ?_
   rotate_left
   ·show Act.put _ (some 8) _ = _
    simp only [put, setIfInBounds_toArray, set_cons_zero, set_cons_succ, i64_w, i32_w]
    rfl
   refine pure_ (i := 2) (N := some 9) (v := ?_) (a' := ?_) #[true, true, true, false, false, false, false, false, false, false, false] rfl rfl (any_of HT_.out (by kernel_rfl)) (fun _ _ _ h => h) (Or.inl ⟨by rfl, ?_⟩) ?_ ?_
   rotate_left
   ·intro w'
    go_simp
    with_reducible rfl
   rotate_left
   ·simp only [put, setIfInBounds_toArray, set_cons_zero, set_cons_succ, i64_w, i32_w]
    rfl
   refine pure_ (i := 3) (N := some 10) (v := ?_) (a' := ?_) #[true, true, true, true, false, false, false, false, false, false, false] rfl rfl (any_of HT_.out (by kernel_rfl)) (fun _ _ _ h => h) (Or.inl ⟨by rfl, ?_⟩) ?_ ?_
   rotate_left
   ·intro w'
    go_simp
    with_reducible rfl
   rotate_left
   ·simp only [put, setIfInBounds_toArray, set_cons_zero, set_cons_succ, i64_w, i32_w]
    rfl
   refine pure_ (i := 4) (N := some 11) (v := ?_) (a' := ?_) #[true, true, true, true, true, false, false, false, false, false, false] rfl rfl (any_of HT_.out (by kernel_rfl)) (fun _ _ _ h => h) (Or.inl ⟨by rfl, ?_⟩) ?_ ?_
   rotate_left
   ·intro w'
    go_simp
    with_reducible rfl
   rotate_left
   ·simp only [put, setIfInBounds_toArray, set_cons_zero, set_cons_succ, i64_w, i32_w]
    rfl
   refine pure_ (i := 6) (N := some 13) (v := ?_) (a' := ?_) #[true, true, true, true, true, false, true, false, false, false, false] rfl rfl (any_of HT_.out (by kernel_rfl)) (fun _ _ _ h => h) (Or.inl ⟨by rfl, ?_⟩) ?_ ?_
   rotate_left
   ·intro w'
    go_simp
    with_reducible rfl
   rotate_left
   ·simp only [put, setIfInBounds_toArray, set_cons_zero, set_cons_succ, i64_w, i32_w]
    rfl
   refine take_ (i := 5) (N := some 12) (v := ?_) (a' := ?_) #[true, true, true, true, true, true, true, false, false, false, false] rfl rfl (take_ofW HT_.out HW_.out (by kernel_rfl)) (fun _ _ _ h => h) (Or.inl ⟨by rfl, ?_⟩) hHeld ?_ ?_
   rotate_left
   ·rintro w' ⟨s0, s1, s2, s3⟩
    go_simp
    with_reducible rfl
   rotate_left
   ·simp only [put, setIfInBounds_toArray, set_cons_zero, set_cons_succ, i64_w, i32_w]
    rfl
   refine take_ (i := 7) (N := some 14) (v := ?_) (a' := ?_) #[true, true, true, true, true, true, true, true, false, false, false] rfl rfl (take_ofW HT_.out HW_.out (by kernel_rfl)) (fun _ _ _ h => h) (Or.inl ⟨by rfl, ?_⟩) hHeld ?_ ?_
   rotate_left
   ·rintro w' ⟨s0, s1, s2, s3⟩
    go_simp
    with_reducible rfl
   rotate_left
   ·simp only [put, setIfInBounds_toArray, set_cons_zero, set_cons_succ, i64_w, i32_w]
    rfl
   refine one_ (i := 8) (N := some 15) #[true, true, true, true, true, true, true, true, true, false, false] rfl rfl (one_of HT_.out (by kernel_rfl)) (by decide) (fun K hK => ?_)
   refine goes_ Try.func91 (by kernel_rfl) rfl #[.agg #[.bool a0_0, .int .i64 a0_1, .int .i64 a0_2]] (by rfl) rfl rfl al_ ?_
   with_reducible refine (spec_l2Width.calls a0_0 a0_1 a0_2 t318 _ A4.out).mono ?_
   rintro e w23 ⟨rfl, hb⟩
   refine ⟨_, rfl, ?_⟩
   have n0_ := Aside0.mk (blk_below (bk_ BK314.out) hb)
   have n1_ := Aside0.mk (blk_below (bk_ BK315.out) hb)
   have n2_ := Aside0.mk (blk_below (bk_ BK316.out) hb)
   have n3_ := Aside0.mk (below_step (by repeat (first | (with_reducible first | exact HB.out | apply below_alloc | apply pw_below_drewN | apply below_drew1 | refine below_set ?_ GE314.out | refine below_set ?_ GE315.out | refine below_set ?_ GE316.out) | exact HB.out)) hb)
   clear BK314
   clear BK315
   clear BK316
   clear HB
   have BK314 := n0_
   have BK315 := n1_
   have BK316 := n2_
   have HB := n3_
   clear n0_ n1_ n2_ n3_
   (try clear hb)
   (try clear hb2)
   (try clear hk)
   (try clear hi)
   refine hK.out _ _ ⟨(blk_cell BK314.out 0).trans rfl, (blk_cell BK314.out 1).trans rfl, (blk_cell BK314.out 2).trans rfl, (blk_cell BK314.out 3).trans rfl⟩ (fun hHeld => ?_)
   clear hK K
   refine norm_ (a' := ?_) ?_ ?_
   rotate_left
   ·show Act.put _ (some 15) _ = _
    simp only [put, setIfInBounds_toArray, set_cons_zero, set_cons_succ, i64_w, i32_w]
    rfl
   refine pure_ (i := 9) (N := some 16) (v := ?_) (a' := ?_) #[true, true, true, true, true, true, true, true, true, true, false] rfl rfl (any_of HT_.out (by kernel_rfl)) (fun _ _ _ h => h) (Or.inl ⟨by rfl, ?_⟩) ?_ ?_
   rotate_left
   ·intro w'
    go_simp
    with_reducible rfl
   rotate_left
   ·simp only [put, setIfInBounds_toArray, set_cons_zero, set_cons_succ, i64_w, i32_w]
    rfl
   refine pure_ (i := 10) (N := some 17) (v := ?_) (a' := ?_) #[true, true, true, true, true, true, true, true, true, true, true] rfl rfl (any_of HT_.out (by kernel_rfl)) (fun _ _ _ h => h) (Or.inl ⟨by rfl, ?_⟩) ?_ ?_
   rotate_left
   ·intro w'
    go_simp
    with_reducible rfl
   rotate_left
   ·simp only [put, setIfInBounds_toArray, set_cons_zero, set_cons_succ, i64_w, i32_w]
    rfl
   refine done_ (done_of HT_.out (by kernel_rfl)) ?_
   have hnb24 := NB314_315.out
   have hnc24 := NB315_314.out
   have hnb25 := NB314_316.out
   have hnc25 := NB316_314.out
   obtain ⟨hcz26_0, hcz26_1, hcz26_2, hcz26_3, hfz26_0, hfz26_1, hfz26_2, hfz26_3⟩ := bc4_ BK314.out
   try go_wp2_with (first | ((with_reducible refine gate_callee (f := 92) rfl ?_); refine goesL_ (some 22) rfl rfl Try.func92 (by kernel_rfl) rfl #[.agg #[.bool a0_0, .int .i64 a0_1, .int .i64 a0_2, .int .i64 a0_3]] rfl al_ ?_; (with_reducible refine (spec_l2Halves.calls a0_0 a0_1 a0_2 a0_3 t319 t320 t321 t322 t323 t324 t325 t326 _ A17.out).mono ?_); rintro e w27 ⟨rfl, hb⟩; refine ⟨_, rfl, ?_⟩; have n0_ := Aside0.mk (blk_below (bk_ BK314.out) hb); have n1_ := Aside0.mk (blk_below (bk_ BK315.out) hb); have n2_ := Aside0.mk (blk_below (bk_ BK316.out) hb); have n3_ := Aside0.mk (below_step (by repeat (first | (with_reducible first | exact HB.out | apply below_alloc | apply pw_below_drewN | apply below_drew1 | refine below_set ?_ GE314.out | refine below_set ?_ GE315.out | refine below_set ?_ GE316.out) | exact HB.out)) hb); clear BK314; clear BK315; clear BK316; clear HB; have BK314 := n0_; have BK315 := n1_; have BK316 := n2_; have HB := n3_; clear n0_ n1_ n2_ n3_; (try clear hb); (try clear hb2); (try clear hk); (try clear hi)) | ((with_reducible refine gate_dst (N := 5) rfl ?_); refine box_event ?hg (N := 5) ?hd (cs := #[.bool false, .int .i64 0, .int .i64 0, .int .i64 0]) (t := 31) ?hr ?_; (case hd => rfl); (case hg => rfl); (case hr => first | (go_simp; done) | (go_simp; rfl)); intro gb327 hg w28 hbox hb; have n0_ := Aside0.mk (blk_below (bk_ BK314.out) hb); have n1_ := Aside0.mk (blk_below (bk_ BK315.out) hb); have n2_ := Aside0.mk (blk_below (bk_ BK316.out) hb); have n3_ := Aside0.mk (below_step (by repeat (first | (with_reducible first | exact HB.out | apply below_alloc | apply pw_below_drewN | apply below_drew1 | refine below_set ?_ GE314.out | refine below_set ?_ GE315.out | refine below_set ?_ GE316.out) | exact HB.out)) hb); have n4_ := Aside0.mk (hbox); have n5_ := Aside0.mk ((by rw [hg]; exact (below_size (by repeat (first | (with_reducible first | exact HB.out | apply below_alloc | apply pw_below_drewN | apply below_drew1 | refine below_set ?_ GE314.out | refine below_set ?_ GE315.out | refine below_set ?_ GE316.out) | exact HB.out))) : w.heap.size ≤ gb327)); have n6_ := Aside0.mk ((by rw [hg]; exact (below_size (by repeat (first | (with_reducible first | exact HB.out | apply below_alloc | apply pw_below_drewN | apply below_drew1 | refine below_set ?_ GE314.out | refine below_set ?_ GE315.out | refine below_set ?_ GE316.out) | exact HB.out))) : w.heap.size ≤ gb327)); have n7_ := bn_ hg (blk_lt (bk_ BK314.out)); have n8_ := bm_ hg (blk_lt (bk_ BK314.out)); have n9_ := bn_ hg (blk_lt (bk_ BK315.out)); have n10_ := bm_ hg (blk_lt (bk_ BK315.out)); have n11_ := bn_ hg (blk_lt (bk_ BK316.out)); have n12_ := bm_ hg (blk_lt (bk_ BK316.out)); clear BK314; clear BK315; clear BK316; clear HB; have BK314 := n0_; have BK315 := n1_; have BK316 := n2_; have HB := n3_; have BK327 := n4_; have GW327 := n5_; have GE327 := n6_; have NB314_327 := n7_; have NB327_314 := n8_; have NB315_327 := n9_; have NB327_315 := n10_; have NB316_327 := n11_; have NB327_316 := n12_; clear n0_ n1_ n2_ n3_ n4_ n5_ n6_ n7_ n8_ n9_ n10_ n11_ n12_; clear hb hbox hg) | ((with_reducible refine gate_dst (N := 6) rfl ?_); refine box_event ?hg (N := 6) ?hd (cs := #[.bool false, .int .i64 0, .int .i64 0, .int .i64 0]) (t := 31) ?hr ?_; (case hd => rfl); (case hg => rfl); (case hr => first | (go_simp; done) | (go_simp; rfl)); intro gb328 hg w29 hbox hb; have n0_ := Aside0.mk (blk_below (bk_ BK314.out) hb); have n1_ := Aside0.mk (blk_below (bk_ BK315.out) hb); have n2_ := Aside0.mk (blk_below (bk_ BK316.out) hb); have n3_ := Aside0.mk (blk_below (bk_ BK327.out) hb); have n4_ := Aside0.mk (below_step (by repeat (first | (with_reducible first | exact HB.out | apply below_alloc | apply pw_below_drewN | apply below_drew1 | refine below_set ?_ GE314.out | refine below_set ?_ GE315.out | refine below_set ?_ GE316.out | refine below_set ?_ GE327.out) | exact HB.out)) hb); have n5_ := Aside0.mk (hbox); have n6_ := Aside0.mk ((by rw [hg]; exact (below_size (by repeat (first | (with_reducible first | exact HB.out | apply below_alloc | apply pw_below_drewN | apply below_drew1 | refine below_set ?_ GE314.out | refine below_set ?_ GE315.out | refine below_set ?_ GE316.out | refine below_set ?_ GE327.out) | exact HB.out))) : w.heap.size ≤ gb328)); have n7_ := Aside0.mk ((by rw [hg]; exact (below_size (by repeat (first | (with_reducible first | exact HB.out | apply below_alloc | apply pw_below_drewN | apply below_drew1 | refine below_set ?_ GE314.out | refine below_set ?_ GE315.out | refine below_set ?_ GE316.out | refine below_set ?_ GE327.out) | exact HB.out))) : w.heap.size ≤ gb328)); have n8_ := bn_ hg (blk_lt (bk_ BK314.out)); have n9_ := bm_ hg (blk_lt (bk_ BK314.out)); have n10_ := bn_ hg (blk_lt (bk_ BK315.out)); have n11_ := bm_ hg (blk_lt (bk_ BK315.out)); have n12_ := bn_ hg (blk_lt (bk_ BK316.out)); have n13_ := bm_ hg (blk_lt (bk_ BK316.out)); have n14_ := bn_ hg (blk_lt (bk_ BK327.out)); have n15_ := bm_ hg (blk_lt (bk_ BK327.out)); clear BK314; clear BK315; clear BK316; clear BK327; clear HB; have BK314 := n0_; have BK315 := n1_; have BK316 := n2_; have BK327 := n3_; have HB := n4_; have BK328 := n5_; have GW328 := n6_; have GE328 := n7_; have NB314_328 := n8_; have NB328_314 := n9_; have NB315_328 := n10_; have NB328_315 := n11_; have NB316_328 := n12_; have NB328_316 := n13_; have NB327_328 := n14_; have NB328_327 := n15_; clear n0_ n1_ n2_ n3_ n4_ n5_ n6_ n7_ n8_ n9_ n10_ n11_ n12_ n13_ n14_ n15_; clear hb hbox hg; have hnb30 := NB327_314.out; have hnc30 := NB314_327.out; have hnb31 := NB327_315.out; have hnc31 := NB315_327.out; have hnb32 := NB327_316.out; have hnc32 := NB316_327.out; have hnb33 := NB327_328.out; have hnc33 := NB328_327.out; obtain ⟨hcz34_0, hcz34_1, hcz34_2, hcz34_3, hfz34_0, hfz34_1, hfz34_2, hfz34_3⟩ := bc4_ BK327.out; have hnb35 := NB328_314.out; have hnc35 := NB314_328.out; have hnb36 := NB328_315.out; have hnc36 := NB315_328.out; have hnb37 := NB328_316.out; have hnc37 := NB316_328.out; obtain ⟨hcz38_0, hcz38_1, hcz38_2, hcz38_3, hfz38_0, hfz38_1, hfz38_2, hfz38_3⟩ := bc4_ BK328.out))
   have n0_ : Aside0 (((((((((w29.setCell ⟨gb327, 0, none⟩ (.bool t319)).setCell ⟨gb327, 1, none⟩ (.int .i64 t320)).setCell ⟨gb327, 2, none⟩ (.int .i64 t321)).setCell ⟨gb327, 3, none⟩ (.int .i64 t322)).setCell ⟨gb328, 0, none⟩ (.bool t323)).setCell ⟨gb328, 1, none⟩ (.int .i64 t324)).setCell ⟨gb328, 2, none⟩ (.int .i64 t325)).setCell ⟨gb328, 3, none⟩ (.int .i64 t326)).heap[gb314]? = some (.cells #[.bool a0_0, .int .i64 a0_1, .int .i64 a0_2, .int .i64 a0_3] 31 (0, 0))) := ⟨by refine bk_ ?_; refine blk_far ?_ NB314_328.out _; refine bk_ ?_; refine blk_far ?_ NB314_328.out _; refine bk_ ?_; refine blk_far ?_ NB314_328.out _; refine bk_ ?_; refine blk_far ?_ NB314_328.out _; refine bk_ ?_; refine blk_far ?_ NB314_327.out _; refine bk_ ?_; refine blk_far ?_ NB314_327.out _; refine bk_ ?_; refine blk_far ?_ NB314_327.out _; refine bk_ ?_; refine blk_far ?_ NB314_327.out _; refine bk_ ?_; exact BK314.out⟩
   have n1_ : Aside0 (((((((((w29.setCell ⟨gb327, 0, none⟩ (.bool t319)).setCell ⟨gb327, 1, none⟩ (.int .i64 t320)).setCell ⟨gb327, 2, none⟩ (.int .i64 t321)).setCell ⟨gb327, 3, none⟩ (.int .i64 t322)).setCell ⟨gb328, 0, none⟩ (.bool t323)).setCell ⟨gb328, 1, none⟩ (.int .i64 t324)).setCell ⟨gb328, 2, none⟩ (.int .i64 t325)).setCell ⟨gb328, 3, none⟩ (.int .i64 t326)).heap[gb315]? = some (.cells #[.bool false, .int .i64 0, .int .i64 0, .int .i64 0] 31 (0, 0))) := ⟨by refine bk_ ?_; refine blk_far ?_ NB315_328.out _; refine bk_ ?_; refine blk_far ?_ NB315_328.out _; refine bk_ ?_; refine blk_far ?_ NB315_328.out _; refine bk_ ?_; refine blk_far ?_ NB315_328.out _; refine bk_ ?_; refine blk_far ?_ NB315_327.out _; refine bk_ ?_; refine blk_far ?_ NB315_327.out _; refine bk_ ?_; refine blk_far ?_ NB315_327.out _; refine bk_ ?_; refine blk_far ?_ NB315_327.out _; refine bk_ ?_; exact BK315.out⟩
   have n2_ : Aside0 (((((((((w29.setCell ⟨gb327, 0, none⟩ (.bool t319)).setCell ⟨gb327, 1, none⟩ (.int .i64 t320)).setCell ⟨gb327, 2, none⟩ (.int .i64 t321)).setCell ⟨gb327, 3, none⟩ (.int .i64 t322)).setCell ⟨gb328, 0, none⟩ (.bool t323)).setCell ⟨gb328, 1, none⟩ (.int .i64 t324)).setCell ⟨gb328, 2, none⟩ (.int .i64 t325)).setCell ⟨gb328, 3, none⟩ (.int .i64 t326)).heap[gb316]? = some (.cells #[.bool false, .int .i64 0, .int .i64 0, .int .i64 0] 31 (0, 0))) := ⟨by refine bk_ ?_; refine blk_far ?_ NB316_328.out _; refine bk_ ?_; refine blk_far ?_ NB316_328.out _; refine bk_ ?_; refine blk_far ?_ NB316_328.out _; refine bk_ ?_; refine blk_far ?_ NB316_328.out _; refine bk_ ?_; refine blk_far ?_ NB316_327.out _; refine bk_ ?_; refine blk_far ?_ NB316_327.out _; refine bk_ ?_; refine blk_far ?_ NB316_327.out _; refine bk_ ?_; refine blk_far ?_ NB316_327.out _; refine bk_ ?_; exact BK316.out⟩
   have n3_ : Aside0 (((((((((w29.setCell ⟨gb327, 0, none⟩ (.bool t319)).setCell ⟨gb327, 1, none⟩ (.int .i64 t320)).setCell ⟨gb327, 2, none⟩ (.int .i64 t321)).setCell ⟨gb327, 3, none⟩ (.int .i64 t322)).setCell ⟨gb328, 0, none⟩ (.bool t323)).setCell ⟨gb328, 1, none⟩ (.int .i64 t324)).setCell ⟨gb328, 2, none⟩ (.int .i64 t325)).setCell ⟨gb328, 3, none⟩ (.int .i64 t326)).heap[gb327]? = some (.cells #[.bool t319, .int .i64 t320, .int .i64 t321, .int .i64 t322] 31 (0, 0))) := ⟨by refine bk_ ?_; refine blk_far ?_ NB327_328.out _; refine bk_ ?_; refine blk_far ?_ NB327_328.out _; refine bk_ ?_; refine blk_far ?_ NB327_328.out _; refine bk_ ?_; refine blk_far ?_ NB327_328.out _; refine bk_ ?_; refine blk_put (cs := #[.bool t319, .int .i64 t320, .int .i64 t321, .int .i64 0]) ?_ 3 _ rfl; refine bk_ ?_; refine blk_put (cs := #[.bool t319, .int .i64 t320, .int .i64 0, .int .i64 0]) ?_ 2 _ rfl; refine bk_ ?_; refine blk_put (cs := #[.bool t319, .int .i64 0, .int .i64 0, .int .i64 0]) ?_ 1 _ rfl; refine bk_ ?_; refine blk_put (cs := #[.bool false, .int .i64 0, .int .i64 0, .int .i64 0]) ?_ 0 _ rfl; refine bk_ ?_; exact BK327.out⟩
   have n4_ : Aside0 (((((((((w29.setCell ⟨gb327, 0, none⟩ (.bool t319)).setCell ⟨gb327, 1, none⟩ (.int .i64 t320)).setCell ⟨gb327, 2, none⟩ (.int .i64 t321)).setCell ⟨gb327, 3, none⟩ (.int .i64 t322)).setCell ⟨gb328, 0, none⟩ (.bool t323)).setCell ⟨gb328, 1, none⟩ (.int .i64 t324)).setCell ⟨gb328, 2, none⟩ (.int .i64 t325)).setCell ⟨gb328, 3, none⟩ (.int .i64 t326)).heap[gb328]? = some (.cells #[.bool t323, .int .i64 t324, .int .i64 t325, .int .i64 t326] 31 (0, 0))) := ⟨by refine bk_ ?_; refine blk_put (cs := #[.bool t323, .int .i64 t324, .int .i64 t325, .int .i64 0]) ?_ 3 _ rfl; refine bk_ ?_; refine blk_put (cs := #[.bool t323, .int .i64 t324, .int .i64 0, .int .i64 0]) ?_ 2 _ rfl; refine bk_ ?_; refine blk_put (cs := #[.bool t323, .int .i64 0, .int .i64 0, .int .i64 0]) ?_ 1 _ rfl; refine bk_ ?_; refine blk_put (cs := #[.bool false, .int .i64 0, .int .i64 0, .int .i64 0]) ?_ 0 _ rfl; refine bk_ ?_; refine blk_far ?_ NB328_327.out _; refine bk_ ?_; refine blk_far ?_ NB328_327.out _; refine bk_ ?_; refine blk_far ?_ NB328_327.out _; refine bk_ ?_; refine blk_far ?_ NB328_327.out _; refine bk_ ?_; exact BK328.out⟩
   have n5_ : Aside0 (Below w.heap.size w ((((((((w29.setCell ⟨gb327, 0, none⟩ (.bool t319)).setCell ⟨gb327, 1, none⟩ (.int .i64 t320)).setCell ⟨gb327, 2, none⟩ (.int .i64 t321)).setCell ⟨gb327, 3, none⟩ (.int .i64 t322)).setCell ⟨gb328, 0, none⟩ (.bool t323)).setCell ⟨gb328, 1, none⟩ (.int .i64 t324)).setCell ⟨gb328, 2, none⟩ (.int .i64 t325)).setCell ⟨gb328, 3, none⟩ (.int .i64 t326))) := ⟨by repeat (first | (with_reducible first | exact HB.out | apply below_alloc | apply pw_below_drewN | apply below_drew1 | refine below_set ?_ GE314.out | refine below_set ?_ GE315.out | refine below_set ?_ GE316.out | refine below_set ?_ GE327.out | refine below_set ?_ GE328.out) | exact HB.out)⟩
   (try clear BK314)
   (try clear BK315)
   (try clear BK316)
   (try clear BK327)
   (try clear BK328)
   (try clear HB)
   generalize ((((((((w29.setCell ⟨gb327, 0, none⟩ (.bool t319)).setCell ⟨gb327, 1, none⟩ (.int .i64 t320)).setCell ⟨gb327, 2, none⟩ (.int .i64 t321)).setCell ⟨gb327, 3, none⟩ (.int .i64 t322)).setCell ⟨gb328, 0, none⟩ (.bool t323)).setCell ⟨gb328, 1, none⟩ (.int .i64 t324)).setCell ⟨gb328, 2, none⟩ (.int .i64 t325)).setCell ⟨gb328, 3, none⟩ (.int .i64 t326)) = w39 at n0_ n1_ n2_ n3_ n4_ n5_ ⊢
   have BK314 := n0_
   have BK315 := n1_
   have BK316 := n2_
   have BK327 := n3_
   have BK328 := n4_
   have HB := n5_
   clear n0_ n1_ n2_ n3_ n4_ n5_
   have n0_ := Aside0.mk (blk_drew BK314.out)
   have n1_ := Aside0.mk (blk_drew BK315.out)
   have n2_ := Aside0.mk (blk_drew BK316.out)
   have n3_ := Aside0.mk (blk_drew BK327.out)
   have n4_ := Aside0.mk (blk_drew BK328.out)
   have n5_ := Aside0.mk (below_drew1 HB.out)
   clear BK314
   clear BK315
   clear BK316
   clear BK327
   clear BK328
   clear HB
   have BK314 := n0_
   have BK315 := n1_
   have BK316 := n2_
   have BK327 := n3_
   have BK328 := n4_
   have HB := n5_
   clear n0_ n1_ n2_ n3_ n4_ n5_
   refine start_ (n := 5) (S := fun w' => w'.cell? ⟨gb327, 0, none⟩ = some (.bool t319) ∧ w'.cell? ⟨gb327, 1, none⟩ = some (.int .i64 t320) ∧ w'.cell? ⟨gb327, 2, none⟩ = some (.int .i64 t321) ∧ w'.cell? ⟨gb327, 3, none⟩ = some (.int .i64 t322) ∧ w'.cell? ⟨gb328, 0, none⟩ = some (.bool t323) ∧ w'.cell? ⟨gb328, 1, none⟩ = some (.int .i64 t324) ∧ w'.cell? ⟨gb328, 2, none⟩ = some (.int .i64 t325) ∧ w'.cell? ⟨gb328, 3, none⟩ = some (.int .i64 t326)) (ds := []) #[false, false, false, false, false] (by kernel_rfl) rfl rfl ⟨(blk_cell BK327.out 0).trans rfl, (blk_cell BK327.out 1).trans rfl, (blk_cell BK327.out 2).trans rfl, (blk_cell BK327.out 3).trans rfl, (blk_cell BK328.out 0).trans rfl, (blk_cell BK328.out 1).trans rfl, (blk_cell BK328.out 2).trans rfl, (blk_cell BK328.out 3).trans rfl⟩ (fun hHeld => ?_)
   generalize w39.drew = w40 at BK314 BK315 BK316 BK327 BK328 HB hHeld ⊢
   refine take_ (i := 0) (N := some 25) (v := ?_) (a' := ?_) #[true, false, false, false, false] rfl rfl (by kernel_rfl) (fun _ _ _ h => h) (Or.inl ⟨by rfl, ?_⟩) hHeld ?_ ?_
   rotate_left
   ·rintro w' ⟨s0, s1, s2, s3, s4, s5, s6, s7⟩
    go_simp
    with_reducible rfl
   rotate_left
   ·simp only [put, setIfInBounds_toArray, set_cons_zero, set_cons_succ, i64_w, i32_w]
    rfl
   refine take_ (i := 1) (N := some 26) (v := ?_) (a' := ?_) #[true, true, false, false, false] rfl rfl (by kernel_rfl) (fun _ _ _ h => h) (Or.inl ⟨by rfl, ?_⟩) hHeld ?_ ?_
   rotate_left
   ·rintro w' ⟨s0, s1, s2, s3, s4, s5, s6, s7⟩
    go_simp
    with_reducible rfl
   rotate_left
   ·simp only [put, setIfInBounds_toArray, set_cons_zero, set_cons_succ, i64_w, i32_w]
    rfl
   refine one_ (i := 2) (N := none) #[true, true, true, false, false] rfl rfl (by kernel_rfl) (by decide) (fun K hK => ?_)
   have hs41 : w40.cell? ⟨gb315, 0, none⟩ = some (.bool false) := (blk_cell BK315.out 0).trans rfl
   have hfs41 := blk_frozen BK315.out 0
   have hns41_0 := NB314_315.out
   have hns41_2 := NB316_315.out
   have hns41_3 := NB327_315.out
   have hns41_4 := NB328_315.out
   have hms41_0 := NB315_314.out
   have hms41_2 := NB315_316.out
   have hms41_3 := NB315_327.out
   have hms41_4 := NB315_328.out
   have hs42 : w40.cell? ⟨gb315, 1, none⟩ = some (.int .i64 0) := (blk_cell BK315.out 1).trans rfl
   have hfs42 := blk_frozen BK315.out 1
   have hns42_0 := NB314_315.out
   have hns42_2 := NB316_315.out
   have hns42_3 := NB327_315.out
   have hns42_4 := NB328_315.out
   have hms42_0 := NB315_314.out
   have hms42_2 := NB315_316.out
   have hms42_3 := NB315_327.out
   have hms42_4 := NB315_328.out
   have hs43 : w40.cell? ⟨gb315, 2, none⟩ = some (.int .i64 0) := (blk_cell BK315.out 2).trans rfl
   have hfs43 := blk_frozen BK315.out 2
   have hns43_0 := NB314_315.out
   have hns43_2 := NB316_315.out
   have hns43_3 := NB327_315.out
   have hns43_4 := NB328_315.out
   have hms43_0 := NB315_314.out
   have hms43_2 := NB315_316.out
   have hms43_3 := NB315_327.out
   have hms43_4 := NB315_328.out
   have hs44 : w40.cell? ⟨gb315, 3, none⟩ = some (.int .i64 0) := (blk_cell BK315.out 3).trans rfl
   have hfs44 := blk_frozen BK315.out 3
   have hns44_0 := NB314_315.out
   have hns44_2 := NB316_315.out
   have hns44_3 := NB327_315.out
   have hns44_4 := NB328_315.out
   have hms44_0 := NB315_314.out
   have hms44_2 := NB315_316.out
   have hms44_3 := NB315_327.out
   have hms44_4 := NB315_328.out
   refine skip_ (w1 := ?_) (by rfl) rfl ?_ ?_
   rotate_left
   ·go_simp
    rfl
   refine hK.out _ _ ⟨((cell_far (p := ⟨gb315, _, none⟩) NB327_315.out _).trans (((cell_far (p := ⟨gb315, _, none⟩) NB327_315.out _).trans (((cell_far (p := ⟨gb315, _, none⟩) NB327_315.out _).trans (((cell_far (p := ⟨gb315, _, none⟩) NB327_315.out _).trans (hHeld.1)))))))), ((cell_far (p := ⟨gb315, _, none⟩) NB327_315.out _).trans (((cell_far (p := ⟨gb315, _, none⟩) NB327_315.out _).trans (((cell_far (p := ⟨gb315, _, none⟩) NB327_315.out _).trans (((cell_far (p := ⟨gb315, _, none⟩) NB327_315.out _).trans (hHeld.2.1)))))))), ((cell_far (p := ⟨gb315, _, none⟩) NB327_315.out _).trans (((cell_far (p := ⟨gb315, _, none⟩) NB327_315.out _).trans (((cell_far (p := ⟨gb315, _, none⟩) NB327_315.out _).trans (((cell_far (p := ⟨gb315, _, none⟩) NB327_315.out _).trans (hHeld.2.2.1)))))))), ((cell_far (p := ⟨gb315, _, none⟩) NB327_315.out _).trans (((cell_far (p := ⟨gb315, _, none⟩) NB327_315.out _).trans (((cell_far (p := ⟨gb315, _, none⟩) NB327_315.out _).trans (((cell_far (p := ⟨gb315, _, none⟩) NB327_315.out _).trans (hHeld.2.2.2.1)))))))), ((cell_far (p := ⟨gb315, _, none⟩) NB328_315.out _).trans (((cell_far (p := ⟨gb315, _, none⟩) NB328_315.out _).trans (((cell_far (p := ⟨gb315, _, none⟩) NB328_315.out _).trans (((cell_far (p := ⟨gb315, _, none⟩) NB328_315.out _).trans (hHeld.2.2.2.2.1)))))))), ((cell_far (p := ⟨gb315, _, none⟩) NB328_315.out _).trans (((cell_far (p := ⟨gb315, _, none⟩) NB328_315.out _).trans (((cell_far (p := ⟨gb315, _, none⟩) NB328_315.out _).trans (((cell_far (p := ⟨gb315, _, none⟩) NB328_315.out _).trans (hHeld.2.2.2.2.2.1)))))))), ((cell_far (p := ⟨gb315, _, none⟩) NB328_315.out _).trans (((cell_far (p := ⟨gb315, _, none⟩) NB328_315.out _).trans (((cell_far (p := ⟨gb315, _, none⟩) NB328_315.out _).trans (((cell_far (p := ⟨gb315, _, none⟩) NB328_315.out _).trans (hHeld.2.2.2.2.2.2.1)))))))), ((cell_far (p := ⟨gb315, _, none⟩) NB328_315.out _).trans (((cell_far (p := ⟨gb315, _, none⟩) NB328_315.out _).trans (((cell_far (p := ⟨gb315, _, none⟩) NB328_315.out _).trans (((cell_far (p := ⟨gb315, _, none⟩) NB328_315.out _).trans (hHeld.2.2.2.2.2.2.2))))))))⟩ (fun hHeld => ?_)
   clear hK K
   refine one_ (i := 3) (N := none) #[true, true, true, true, false] rfl rfl (by kernel_rfl) (by decide) (fun K hK => ?_)
   have hs45 : w40.cell? ⟨gb316, 0, none⟩ = some (.bool false) := (blk_cell BK316.out 0).trans rfl
   have hfs45 := blk_frozen BK316.out 0
   have hns45_0 := NB314_316.out
   have hns45_1 := NB315_316.out
   have hns45_3 := NB327_316.out
   have hns45_4 := NB328_316.out
   have hms45_0 := NB316_314.out
   have hms45_1 := NB316_315.out
   have hms45_3 := NB316_327.out
   have hms45_4 := NB316_328.out
   have hs46 : w40.cell? ⟨gb316, 1, none⟩ = some (.int .i64 0) := (blk_cell BK316.out 1).trans rfl
   have hfs46 := blk_frozen BK316.out 1
   have hns46_0 := NB314_316.out
   have hns46_1 := NB315_316.out
   have hns46_3 := NB327_316.out
   have hns46_4 := NB328_316.out
   have hms46_0 := NB316_314.out
   have hms46_1 := NB316_315.out
   have hms46_3 := NB316_327.out
   have hms46_4 := NB316_328.out
   have hs47 : w40.cell? ⟨gb316, 2, none⟩ = some (.int .i64 0) := (blk_cell BK316.out 2).trans rfl
   have hfs47 := blk_frozen BK316.out 2
   have hns47_0 := NB314_316.out
   have hns47_1 := NB315_316.out
   have hns47_3 := NB327_316.out
   have hns47_4 := NB328_316.out
   have hms47_0 := NB316_314.out
   have hms47_1 := NB316_315.out
   have hms47_3 := NB316_327.out
   have hms47_4 := NB316_328.out
   have hs48 : w40.cell? ⟨gb316, 3, none⟩ = some (.int .i64 0) := (blk_cell BK316.out 3).trans rfl
   have hfs48 := blk_frozen BK316.out 3
   have hns48_0 := NB314_316.out
   have hns48_1 := NB315_316.out
   have hns48_3 := NB327_316.out
   have hns48_4 := NB328_316.out
   have hms48_0 := NB316_314.out
   have hms48_1 := NB316_315.out
   have hms48_3 := NB316_327.out
   have hms48_4 := NB316_328.out
   refine skip_ (w1 := ?_) (by rfl) rfl ?_ ?_
   rotate_left
   ·go_simp
    rfl
   refine hK.out _ _ ⟨((cell_far (p := ⟨gb316, _, none⟩) NB327_316.out _).trans (((cell_far (p := ⟨gb316, _, none⟩) NB327_316.out _).trans (((cell_far (p := ⟨gb316, _, none⟩) NB327_316.out _).trans (((cell_far (p := ⟨gb316, _, none⟩) NB327_316.out _).trans (hHeld.1)))))))), ((cell_far (p := ⟨gb316, _, none⟩) NB327_316.out _).trans (((cell_far (p := ⟨gb316, _, none⟩) NB327_316.out _).trans (((cell_far (p := ⟨gb316, _, none⟩) NB327_316.out _).trans (((cell_far (p := ⟨gb316, _, none⟩) NB327_316.out _).trans (hHeld.2.1)))))))), ((cell_far (p := ⟨gb316, _, none⟩) NB327_316.out _).trans (((cell_far (p := ⟨gb316, _, none⟩) NB327_316.out _).trans (((cell_far (p := ⟨gb316, _, none⟩) NB327_316.out _).trans (((cell_far (p := ⟨gb316, _, none⟩) NB327_316.out _).trans (hHeld.2.2.1)))))))), ((cell_far (p := ⟨gb316, _, none⟩) NB327_316.out _).trans (((cell_far (p := ⟨gb316, _, none⟩) NB327_316.out _).trans (((cell_far (p := ⟨gb316, _, none⟩) NB327_316.out _).trans (((cell_far (p := ⟨gb316, _, none⟩) NB327_316.out _).trans (hHeld.2.2.2.1)))))))), ((cell_far (p := ⟨gb316, _, none⟩) NB328_316.out _).trans (((cell_far (p := ⟨gb316, _, none⟩) NB328_316.out _).trans (((cell_far (p := ⟨gb316, _, none⟩) NB328_316.out _).trans (((cell_far (p := ⟨gb316, _, none⟩) NB328_316.out _).trans (hHeld.2.2.2.2.1)))))))), ((cell_far (p := ⟨gb316, _, none⟩) NB328_316.out _).trans (((cell_far (p := ⟨gb316, _, none⟩) NB328_316.out _).trans (((cell_far (p := ⟨gb316, _, none⟩) NB328_316.out _).trans (((cell_far (p := ⟨gb316, _, none⟩) NB328_316.out _).trans (hHeld.2.2.2.2.2.1)))))))), ((cell_far (p := ⟨gb316, _, none⟩) NB328_316.out _).trans (((cell_far (p := ⟨gb316, _, none⟩) NB328_316.out _).trans (((cell_far (p := ⟨gb316, _, none⟩) NB328_316.out _).trans (((cell_far (p := ⟨gb316, _, none⟩) NB328_316.out _).trans (hHeld.2.2.2.2.2.2.1)))))))), ((cell_far (p := ⟨gb316, _, none⟩) NB328_316.out _).trans (((cell_far (p := ⟨gb316, _, none⟩) NB328_316.out _).trans (((cell_far (p := ⟨gb316, _, none⟩) NB328_316.out _).trans (((cell_far (p := ⟨gb316, _, none⟩) NB328_316.out _).trans (hHeld.2.2.2.2.2.2.2))))))))⟩ (fun hHeld => ?_)
   clear hK K
   refine pure_ (i := 4) (N := some 4) (v := ?_) (a' := ?_) #[true, true, true, true, true] rfl rfl (by kernel_rfl) (fun _ _ _ h => h) (Or.inl ⟨by rfl, ?_⟩) ?_ ?_
   rotate_left
   ·intro w'
    go_simp
    with_reducible rfl
   rotate_left
   ·simp only [put, setIfInBounds_toArray, set_cons_zero, set_cons_succ, i64_w, i32_w]
    rfl
   refine done_ (by kernel_rfl) ?_
   try go_wp2
   refine bodyPost_ret (results_list (rs := [.cell 2 31, .cell 3 31, .tmp 4]) rfl (by simp) (.cell gb315 31 #[.bool t319, .int .i64 t320, .int .i64 t321, .int .i64 t322] (0, 0) _ rfl (by refine bk_ ?_; refine blk_far ?_ NB315_316.out _; refine bk_ ?_; refine blk_far ?_ NB315_316.out _; refine bk_ ?_; refine blk_far ?_ NB315_316.out _; refine bk_ ?_; refine blk_far ?_ NB315_316.out _; refine bk_ ?_; refine blk_put (cs := #[.bool t319, .int .i64 t320, .int .i64 t321, .int .i64 0]) ?_ 3 _ rfl; refine bk_ ?_; refine blk_put (cs := #[.bool t319, .int .i64 t320, .int .i64 0, .int .i64 0]) ?_ 2 _ rfl; refine bk_ ?_; refine blk_put (cs := #[.bool t319, .int .i64 0, .int .i64 0, .int .i64 0]) ?_ 1 _ rfl; refine bk_ ?_; refine blk_put (cs := #[.bool false, .int .i64 0, .int .i64 0, .int .i64 0]) ?_ 0 _ rfl; refine bk_ ?_; exact BK315.out) Try.underlying31 rfl (by kernel_rfl) (.cell gb316 31 #[.bool t323, .int .i64 t324, .int .i64 t325, .int .i64 t326] (0, 0) _ rfl (by refine bk_ ?_; refine blk_put (cs := #[.bool t323, .int .i64 t324, .int .i64 t325, .int .i64 0]) ?_ 3 _ rfl; refine bk_ ?_; refine blk_put (cs := #[.bool t323, .int .i64 t324, .int .i64 0, .int .i64 0]) ?_ 2 _ rfl; refine bk_ ?_; refine blk_put (cs := #[.bool t323, .int .i64 0, .int .i64 0, .int .i64 0]) ?_ 1 _ rfl; refine bk_ ?_; refine blk_put (cs := #[.bool false, .int .i64 0, .int .i64 0, .int .i64 0]) ?_ 0 _ rfl; refine bk_ ?_; refine blk_far ?_ NB316_315.out _; refine bk_ ?_; refine blk_far ?_ NB316_315.out _; refine bk_ ?_; refine blk_far ?_ NB316_315.out _; refine bk_ ?_; refine blk_far ?_ NB316_315.out _; refine bk_ ?_; exact BK316.out) Try.underlying31 rfl (by kernel_rfl) (.tmp .nil)))) rfl ?_
   exact ⟨pe_, by repeat (first | (with_reducible first | exact HB.out | apply below_alloc | apply pw_below_drewN | apply below_drew1 | refine below_set ?_ GE314.out | refine below_set ?_ GE315.out | refine below_set ?_ GE316.out | refine below_set ?_ GE327.out | refine below_set ?_ GE328.out) | exact HB.out)⟩
 ·replace c3 := Bool.eq_false_iff.mpr c3
  subst c3
  have H1 : (some (false, 0, 0, 0, false, 0, 0, 0, false)) = some (r1, r2, r3, r4, r5, r6, r7, r8, r9) := by rw [if_neg (show ¬ (false = true) by decide)] at H; exact H
  clear H
  have H := H1
  clear H1
  simp only [Option.some.injEq, Prod.mk.injEq] at H
  obtain ⟨rfl, rfl, rfl, rfl, rfl, rfl, rfl, rfl, rfl⟩ := H
  go_enter Try.func36, Try.ntmps36
  try go_wp2_with (first | ((with_reducible refine gate_dst (N := 1) rfl ?_); refine box_event ?hg (N := 1) ?hd (cs := #[.bool a0_0, .int .i64 a0_1, .int .i64 a0_2, .int .i64 a0_3]) (t := 31) ?hr ?_; (case hd => rfl); (case hg => rfl); (case hr => first | (go_simp; done) | (go_simp; rfl)); intro gb314 hg w49 hbox hb; have n0_ := Aside0.mk (below_step (hb_ HB.out) hb); have n1_ := Aside0.mk (hbox); have n2_ := bg_ hg (below_size (hb_ HB.out)); have n3_ := bg_ hg (below_size (hb_ HB.out)); clear HB; have HB := n0_; have BK314 := n1_; have GW314 := n2_; have GE314 := n3_; clear n0_ n1_ n2_ n3_; clear hb hbox hg) | ((with_reducible refine gate_dst (N := 2) rfl ?_); refine box_event ?hg (N := 2) ?hd (cs := #[.bool false, .int .i64 0, .int .i64 0, .int .i64 0]) (t := 31) ?hr ?_; (case hd => rfl); (case hg => rfl); (case hr => first | (go_simp; done) | (go_simp; rfl)); intro gb315 hg w50 hbox hb; have n0_ := Aside0.mk (blk_below (bk_ BK314.out) hb); have n1_ := Aside0.mk (below_step (hc_ HB.out GE314.out) hb); have n2_ := Aside0.mk (hbox); have n3_ := bg_ hg (below_size (hc_ HB.out GE314.out)); have n4_ := bg_ hg (below_size (hc_ HB.out GE314.out)); have n5_ := bn_ hg (blk_lt (bk_ BK314.out)); have n6_ := bm_ hg (blk_lt (bk_ BK314.out)); clear BK314; clear HB; have BK314 := n0_; have HB := n1_; have BK315 := n2_; have GW315 := n3_; have GE315 := n4_; have NB314_315 := n5_; have NB315_314 := n6_; clear n0_ n1_ n2_ n3_ n4_ n5_ n6_; clear hb hbox hg) | ((with_reducible refine gate_dst (N := 3) rfl ?_); refine box_event ?hg (N := 3) ?hd (cs := #[.bool false, .int .i64 0, .int .i64 0, .int .i64 0]) (t := 31) ?hr ?_; (case hd => rfl); (case hg => rfl); (case hr => first | (go_simp; done) | (go_simp; rfl)); intro gb316 hg w51 hbox hb; have n0_ := Aside0.mk (blk_below (bk_ BK314.out) hb); have n1_ := Aside0.mk (blk_below (bk_ BK315.out) hb); have n2_ := Aside0.mk (below_step (hd_ HB.out GE314.out GE315.out) hb); have n3_ := Aside0.mk (hbox); have n4_ := bg_ hg (below_size (hd_ HB.out GE314.out GE315.out)); have n5_ := bg_ hg (below_size (hd_ HB.out GE314.out GE315.out)); have n6_ := bn_ hg (blk_lt (bk_ BK314.out)); have n7_ := bm_ hg (blk_lt (bk_ BK314.out)); have n8_ := bn_ hg (blk_lt (bk_ BK315.out)); have n9_ := bm_ hg (blk_lt (bk_ BK315.out)); clear BK314; clear BK315; clear HB; have BK314 := n0_; have BK315 := n1_; have HB := n2_; have BK316 := n3_; have GW316 := n4_; have GE316 := n5_; have NB314_316 := n6_; have NB316_314 := n7_; have NB315_316 := n8_; have NB316_315 := n9_; clear n0_ n1_ n2_ n3_ n4_ n5_ n6_ n7_ n8_ n9_; clear hb hbox hg))
  have n0_ := Aside0.mk (blk_drew BK314.out)
  have n1_ := Aside0.mk (blk_drew BK315.out)
  have n2_ := Aside0.mk (blk_drew BK316.out)
  have n3_ := Aside0.mk (below_drew1 HB.out)
  clear BK314
  clear BK315
  clear BK316
  clear HB
  have BK314 := n0_
  have BK315 := n1_
  have BK316 := n2_
  have HB := n3_
  clear n0_ n1_ n2_ n3_
  refine start_ (n := 11) (S := fun w' => w'.cell? ⟨gb314, 0, none⟩ = some (.bool a0_0) ∧ w'.cell? ⟨gb314, 1, none⟩ = some (.int .i64 a0_1) ∧ w'.cell? ⟨gb314, 2, none⟩ = some (.int .i64 a0_2) ∧ w'.cell? ⟨gb314, 3, none⟩ = some (.int .i64 a0_3)) (ds := []) #[false, false, false, false, false, false, false, false, false, false, false] (by kernel_rfl) rfl rfl ⟨(blk_cell BK314.out 0).trans rfl, (blk_cell BK314.out 1).trans rfl, (blk_cell BK314.out 2).trans rfl, (blk_cell BK314.out 3).trans rfl⟩ (fun hHeld => ?_); refine with_tabW spec_Halves.tab1 spec_Halves.bits1 (fun HT_ HW_ => ?_)
  generalize w51.drew = w52 at BK314 BK315 BK316 HB hHeld ⊢
  refine take_ (i := 0) (N := some 7) (v := ?_) (a' := ?_) #[true, false, false, false, false, false, false, false, false, false, false] rfl rfl (take_ofW HT_.out HW_.out (by kernel_rfl)) (fun _ _ _ h => h) (Or.inl ⟨by rfl, ?_⟩) hHeld ?_ ?_
  rotate_left
  ·rintro w' ⟨s0, s1, s2, s3⟩
   go_simp
   with_reducible rfl
  rotate_left
  ·simp only [put, setIfInBounds_toArray, set_cons_zero, set_cons_succ, i64_w, i32_w]
   rfl
  refine one_ (i := 1) (N := some 8) #[true, true, false, false, false, false, false, false, false, false, false] rfl rfl (one_of HT_.out (by kernel_rfl)) (by decide) (fun K hK => ?_)
  refine goes_ Try.func37 (by kernel_rfl) rfl #[.agg #[.bool a0_0, .int .i64 a0_1, .int .i64 a0_2, .int .i64 a0_3]] (by rfl) rfl rfl al_ ?_
  with_reducible refine (spec_PrefixOk.calls a0_0 a0_1 a0_2 a0_3 false _ A2.out).mono ?_
  rintro e w53 ⟨rfl, hb⟩
  refine ⟨_, rfl, ?_⟩
  have n0_ := Aside0.mk (blk_below (bk_ BK314.out) hb)
  have n1_ := Aside0.mk (blk_below (bk_ BK315.out) hb)
  have n2_ := Aside0.mk (blk_below (bk_ BK316.out) hb)
  have n3_ := Aside0.mk (below_step (by repeat (first | (with_reducible first | exact HB.out | apply below_alloc | apply pw_below_drewN | apply below_drew1 | refine below_set ?_ GE314.out | refine below_set ?_ GE315.out | refine below_set ?_ GE316.out) | exact HB.out)) hb)
  clear BK314
  clear BK315
  clear BK316
  clear HB
  have BK314 := n0_
  have BK315 := n1_
  have BK316 := n2_
  have HB := n3_
  clear n0_ n1_ n2_ n3_
  (try clear hb)
  (try clear hb2)
  (try clear hk)
  (try clear hi)
  refine hK.out _ _ ⟨(blk_cell BK314.out 0).trans rfl, (blk_cell BK314.out 1).trans rfl, (blk_cell BK314.out 2).trans rfl, (blk_cell BK314.out 3).trans rfl⟩ (fun hHeld => ?_)
  clear hK K
  refine norm_ (a' := ?_) ?_ ?_
  rotate_left
  ·show Act.put _ (some 8) _ = _
   simp only [put, setIfInBounds_toArray, set_cons_zero, set_cons_succ, i64_w, i32_w]
   rfl
  refine pure_ (i := 2) (N := some 9) (v := ?_) (a' := ?_) #[true, true, true, false, false, false, false, false, false, false, false] rfl rfl (any_of HT_.out (by kernel_rfl)) (fun _ _ _ h => h) (Or.inl ⟨by rfl, ?_⟩) ?_ ?_
  rotate_left
  ·intro w'
   go_simp
   with_reducible rfl
  rotate_left
  ·simp only [put, setIfInBounds_toArray, set_cons_zero, set_cons_succ, i64_w, i32_w]
   rfl
  refine pure_ (i := 3) (N := some 10) (v := ?_) (a' := ?_) #[true, true, true, true, false, false, false, false, false, false, false] rfl rfl (any_of HT_.out (by kernel_rfl)) (fun _ _ _ h => h) (Or.inl ⟨by rfl, ?_⟩) ?_ ?_
  rotate_left
  ·intro w'
   go_simp
   with_reducible rfl
  rotate_left
  ·simp only [put, setIfInBounds_toArray, set_cons_zero, set_cons_succ, i64_w, i32_w]
   rfl
  refine pure_ (i := 4) (N := some 11) (v := undef) (a' := ?_) #[true, true, true, true, true, false, false, false, false, false, false] rfl rfl (any_of HT_.out (by kernel_rfl)) (fun _ _ _ h => h) (Or.inr ⟨by rfl, rfl⟩) ?_ ?_
  rotate_left
  ·simp only [put, setIfInBounds_toArray, set_cons_zero, set_cons_succ, i64_w, i32_w]
   rfl
  refine pure_ (i := 5) (N := some 12) (v := undef) (a' := ?_) #[true, true, true, true, true, true, false, false, false, false, false] rfl rfl (any_of HT_.out (by kernel_rfl)) (fun _ _ _ h => h) (Or.inr ⟨by rfl, rfl⟩) ?_ ?_
  rotate_left
  ·simp only [put, setIfInBounds_toArray, set_cons_zero, set_cons_succ, i64_w, i32_w]
   rfl
  refine pure_ (i := 6) (N := some 13) (v := undef) (a' := ?_) #[true, true, true, true, true, true, true, false, false, false, false] rfl rfl (any_of HT_.out (by kernel_rfl)) (fun _ _ _ h => h) (Or.inr ⟨by rfl, rfl⟩) ?_ ?_
  rotate_left
  ·simp only [put, setIfInBounds_toArray, set_cons_zero, set_cons_succ, i64_w, i32_w]
   rfl
  refine pure_ (i := 7) (N := some 14) (v := undef) (a' := ?_) #[true, true, true, true, true, true, true, true, false, false, false] rfl rfl (any_of HT_.out (by kernel_rfl)) (fun _ _ _ h => h) (Or.inr ⟨by rfl, rfl⟩) ?_ ?_
  rotate_left
  ·simp only [put, setIfInBounds_toArray, set_cons_zero, set_cons_succ, i64_w, i32_w]
   rfl
  refine pure_ (i := 8) (N := some 15) (v := undef) (a' := ?_) #[true, true, true, true, true, true, true, true, true, false, false] rfl rfl (any_of HT_.out (by kernel_rfl)) (fun _ _ _ h => h) (Or.inr ⟨by rfl, rfl⟩) ?_ ?_
  rotate_left
  ·simp only [put, setIfInBounds_toArray, set_cons_zero, set_cons_succ, i64_w, i32_w]
   rfl
  refine pure_ (i := 9) (N := some 16) (v := undef) (a' := ?_) #[true, true, true, true, true, true, true, true, true, true, false] rfl rfl (any_of HT_.out (by kernel_rfl)) (fun _ _ _ h => h) (Or.inr ⟨by rfl, rfl⟩) ?_ ?_
  rotate_left
  ·simp only [put, setIfInBounds_toArray, set_cons_zero, set_cons_succ, i64_w, i32_w]
   rfl
  refine pure_ (i := 10) (N := some 17) (v := ?_) (a' := ?_) #[true, true, true, true, true, true, true, true, true, true, true] rfl rfl (any_of HT_.out (by kernel_rfl)) (fun _ _ _ h => h) (Or.inl ⟨by rfl, ?_⟩) ?_ ?_
  rotate_left
  ·intro w'
   go_simp
   with_reducible rfl
  rotate_left
  ·simp only [put, setIfInBounds_toArray, set_cons_zero, set_cons_succ, i64_w, i32_w]
   rfl
  refine done_ (done_of HT_.out (by kernel_rfl)) ?_
  have hnb54 := NB315_314.out
  have hnc54 := NB314_315.out
  have hnb55 := NB315_316.out
  have hnc55 := NB316_315.out
  obtain ⟨hcz56_0, hcz56_1, hcz56_2, hcz56_3, hfz56_0, hfz56_1, hfz56_2, hfz56_3⟩ := bc4_ BK315.out
  have hnb57 := NB316_314.out
  have hnc57 := NB314_316.out
  obtain ⟨hcz58_0, hcz58_1, hcz58_2, hcz58_3, hfz58_0, hfz58_1, hfz58_2, hfz58_3⟩ := bc4_ BK316.out
  try go_wp2
  refine bodyPost_ret (results_list (rs := [.cell 2 31, .cell 3 31, .tmp 4]) rfl (by simp) (.cell gb315 31 #[.bool false, .int .i64 0, .int .i64 0, .int .i64 0] (0, 0) _ rfl (by refine bk_ ?_; refine blk_far ?_ NB315_316.out _; refine bk_ ?_; refine blk_far ?_ NB315_316.out _; refine bk_ ?_; refine blk_far ?_ NB315_316.out _; refine bk_ ?_; refine blk_far ?_ NB315_316.out _; refine bk_ ?_; refine blk_put (cs := #[.bool false, .int .i64 0, .int .i64 0, .int .i64 0]) ?_ 3 _ rfl; refine bk_ ?_; refine blk_put (cs := #[.bool false, .int .i64 0, .int .i64 0, .int .i64 0]) ?_ 2 _ rfl; refine bk_ ?_; refine blk_put (cs := #[.bool false, .int .i64 0, .int .i64 0, .int .i64 0]) ?_ 1 _ rfl; refine bk_ ?_; refine blk_put (cs := #[.bool false, .int .i64 0, .int .i64 0, .int .i64 0]) ?_ 0 _ rfl; refine bk_ ?_; exact BK315.out) Try.underlying31 rfl (by kernel_rfl) (.cell gb316 31 #[.bool false, .int .i64 0, .int .i64 0, .int .i64 0] (0, 0) _ rfl (by refine bk_ ?_; refine blk_put (cs := #[.bool false, .int .i64 0, .int .i64 0, .int .i64 0]) ?_ 3 _ rfl; refine bk_ ?_; refine blk_put (cs := #[.bool false, .int .i64 0, .int .i64 0, .int .i64 0]) ?_ 2 _ rfl; refine bk_ ?_; refine blk_put (cs := #[.bool false, .int .i64 0, .int .i64 0, .int .i64 0]) ?_ 1 _ rfl; refine bk_ ?_; refine blk_put (cs := #[.bool false, .int .i64 0, .int .i64 0, .int .i64 0]) ?_ 0 _ rfl; refine bk_ ?_; refine blk_far ?_ NB316_315.out _; refine bk_ ?_; refine blk_far ?_ NB316_315.out _; refine bk_ ?_; refine blk_far ?_ NB316_315.out _; refine bk_ ?_; refine blk_far ?_ NB316_315.out _; refine bk_ ?_; exact BK316.out) Try.underlying31 rfl (by kernel_rfl) (.tmp .nil)))) rfl ?_
  exact ⟨pe_, by repeat (first | (with_reducible first | exact HB.out | apply below_alloc | apply pw_below_drewN | apply below_drew1 | refine below_set ?_ GE314.out | refine below_set ?_ GE315.out | refine below_set ?_ GE316.out) | exact HB.out)⟩

/-! ### impl_PrefixOf: function 99 -/
def impl_PrefixOf.f (a0_0 : Bool) (a0_1 : Int) (a0_2 : Int) (a1 : Int) : Option (Bool × Int × Int × Int × Bool) := (impl_AddrOk.f a0_0 a0_1 a0_2).bind fun t331 => (if t331 = true then ((impl_width.f a0_0 a0_1 a0_2).bind fun t332 => ((impl_from.f a1 0 t332).bind fun t333 => (if t333 = true then ((impl_masked.f a0_0 a0_1 a0_2 a1 false).bind fun bt334 => (some (bt334.1, bt334.2.1, bt334.2.2, a1, true))) else (some (false, 0, 0, 0, false))))) else (some (false, 0, 0, 0, false)))
set_option maxHeartbeats 8000000 in
set_option maxRecDepth 100000 in
theorem impl_PrefixOf.calls (a0_0 : Bool) (a0_1 : Int) (a0_2 : Int) (a1 : Int) (r1 : Bool) (r2 : Int) (r3 : Int) (r4 : Int) (r5 : Bool) (w : World) (h : impl_PrefixOf.f a0_0 a0_1 a0_2 a1 = some (r1, r2, r3, r4, r5)) :
  Calls Try.prog 99 #[.agg #[.bool a0_0, .int .i64 a0_1, .int .i64 a0_2], .int .i64 a1] w fun e w' => e = .returned (.tuple #[.agg #[.bool r1, .int .i64 r2, .int .i64 r3, .int .i64 r4], .bool r5]) ∧ Below w.heap.size w w' := by
 have hu29 := Try.underlying29
 have hu31 := Try.underlying31
 have HB := Aside0.mk (Below.refl w.heap.size w)
 have H : ((impl_AddrOk.f a0_0 a0_1 a0_2).bind fun t331 => (if t331 = true then ((impl_width.f a0_0 a0_1 a0_2).bind fun t332 => ((impl_from.f a1 0 t332).bind fun t333 => (if t333 = true then ((impl_masked.f a0_0 a0_1 a0_2 a1 false).bind fun bt334 => (some (bt334.1, bt334.2.1, bt334.2.2, a1, true))) else (some (false, 0, 0, 0, false))))) else (some (false, 0, 0, 0, false)))) = some (r1, r2, r3, r4, r5) := h
 clear h
 replace H := Option.bind_eq_some_iff.mp H
 obtain ⟨t331, A30, H⟩ := H
 replace H : (if t331 = true then ((impl_width.f a0_0 a0_1 a0_2).bind fun t332 => ((impl_from.f a1 0 t332).bind fun t333 => (if t333 = true then ((impl_masked.f a0_0 a0_1 a0_2 a1 false).bind fun bt334 => (some (bt334.1, bt334.2.1, bt334.2.2, a1, true))) else (some (false, 0, 0, 0, false))))) else (some (false, 0, 0, 0, false))) = some (r1, r2, r3, r4, r5) := H
 have A3 := Aside0.mk A30
 clear A30
 by_cases c4 : t331 = true
 ·subst c4
  have H1 : ((impl_width.f a0_0 a0_1 a0_2).bind fun t332 => ((impl_from.f a1 0 t332).bind fun t333 => (if t333 = true then ((impl_masked.f a0_0 a0_1 a0_2 a1 false).bind fun bt334 => (some (bt334.1, bt334.2.1, bt334.2.2, a1, true))) else (some (false, 0, 0, 0, false))))) = some (r1, r2, r3, r4, r5) := by rw [if_pos rfl] at H; exact H
  clear H
  have H := H1
  clear H1
  replace H := Option.bind_eq_some_iff.mp H
  obtain ⟨t332, A50, H⟩ := H
  replace H : ((impl_from.f a1 0 t332).bind fun t333 => (if t333 = true then ((impl_masked.f a0_0 a0_1 a0_2 a1 false).bind fun bt334 => (some (bt334.1, bt334.2.1, bt334.2.2, a1, true))) else (some (false, 0, 0, 0, false)))) = some (r1, r2, r3, r4, r5) := H
  have A5 := Aside0.mk A50
  clear A50
  replace H := Option.bind_eq_some_iff.mp H
  obtain ⟨t333, A60, H⟩ := H
  replace H : (if t333 = true then ((impl_masked.f a0_0 a0_1 a0_2 a1 false).bind fun bt334 => (some (bt334.1, bt334.2.1, bt334.2.2, a1, true))) else (some (false, 0, 0, 0, false))) = some (r1, r2, r3, r4, r5) := H
  have A6 := Aside0.mk A60
  clear A60
  by_cases c7 : t333 = true
  ·subst c7
   have H1 : ((impl_masked.f a0_0 a0_1 a0_2 a1 false).bind fun bt334 => (some (bt334.1, bt334.2.1, bt334.2.2, a1, true))) = some (r1, r2, r3, r4, r5) := by rw [if_pos rfl] at H; exact H
   clear H
   have H := H1
   clear H1
   replace H := Option.bind_eq_some_iff.mp H
   obtain ⟨⟨t334, t335, t336⟩, A80, H⟩ := H
   replace H : (some (t334, t335, t336, a1, true)) = some (r1, r2, r3, r4, r5) := H
   have A8 := Aside0.mk A80
   clear A80
   simp only [Option.some.injEq, Prod.mk.injEq] at H
   obtain ⟨rfl, rfl, rfl, rfl, rfl⟩ := H
   go_enter Try.func99, Try.ntmps99
   go_wp2_with (first | ((with_reducible refine gate_dst (N := 2) rfl ?_); refine box_event ?hg (N := 2) ?hd (cs := #[.bool a0_0, .int .i64 a0_1, .int .i64 a0_2]) (t := 29) ?hr ?_; (case hd => rfl); (case hg => rfl); (case hr => first | (go_simp; done) | (go_simp; rfl)); intro gb329 hg w9 hbox hb; have n0_ := Aside0.mk (below_step (hb_ HB.out) hb); have n1_ := Aside0.mk (hbox); have n2_ := bg_ hg (below_size (hb_ HB.out)); have n3_ := bg_ hg (below_size (hb_ HB.out)); clear HB; have HB := n0_; have BK329 := n1_; have GW329 := n2_; have GE329 := n3_; clear n0_ n1_ n2_ n3_; clear hb hbox hg) | ((with_reducible refine gate_dst (N := 4) rfl ?_); refine box_event ?hg (N := 4) ?hd (cs := #[.bool false, .int .i64 0, .int .i64 0, .int .i64 0]) (t := 31) ?hr ?_; (case hd => rfl); (case hg => rfl); (case hr => first | (go_simp; done) | (go_simp; rfl)); intro gb330 hg w10 hbox hb; have n0_ := Aside0.mk (blk_below (bk_ BK329.out) hb); have n1_ := Aside0.mk (below_step (hc_ HB.out GE329.out) hb); have n2_ := Aside0.mk (hbox); have n3_ := bg_ hg (below_size (hc_ HB.out GE329.out)); have n4_ := bg_ hg (below_size (hc_ HB.out GE329.out)); have n5_ := bn_ hg (blk_lt (bk_ BK329.out)); have n6_ := bm_ hg (blk_lt (bk_ BK329.out)); clear BK329; clear HB; have BK329 := n0_; have HB := n1_; have BK330 := n2_; have GW330 := n3_; have GE330 := n4_; have NB329_330 := n5_; have NB330_329 := n6_; clear n0_ n1_ n2_ n3_ n4_ n5_ n6_; clear hb hbox hg; have hnb11 := NB329_330.out; have hnc11 := NB330_329.out; obtain ⟨hcz12_0, hcz12_1, hcz12_2, hfz12_0, hfz12_1, hfz12_2⟩ := bc3_ BK329.out) | ((with_reducible refine gate_callee (f := 96) rfl ?_); refine goesL_ (some 7) rfl rfl Try.func96 (by kernel_rfl) rfl #[.agg #[.bool a0_0, .int .i64 a0_1, .int .i64 a0_2]] rfl al_ ?_; (with_reducible refine (impl_AddrOk.calls a0_0 a0_1 a0_2 true _ A3.out).mono ?_); rintro e w13 ⟨rfl, hb⟩; refine ⟨_, rfl, ?_⟩; have n0_ := Aside0.mk (blk_below (bk_ BK329.out) hb); have n1_ := Aside0.mk (blk_below (bk_ BK330.out) hb); have n2_ := Aside0.mk (below_step (hd_ HB.out GE329.out GE330.out) hb); clear BK329; clear BK330; clear HB; have BK329 := n0_; have BK330 := n1_; have HB := n2_; clear n0_ n1_ n2_; (try clear hb); (try clear hb2); (try clear hk); (try clear hi); obtain ⟨hcz14_0, hcz14_1, hcz14_2, hfz14_0, hfz14_1, hfz14_2⟩ := bc3_ BK329.out) | (go_at_call 89; (with_reducible refine (impl_width.calls a0_0 a0_1 a0_2 t332 _ A5.out).mono ?_); rintro e w15 ⟨rfl, hb⟩; have n0_ := Aside0.mk (blk_below (bk_ BK329.out) hb); have n1_ := Aside0.mk (blk_below (bk_ BK330.out) hb); have n2_ := Aside0.mk (below_step (hd_ HB.out GE329.out GE330.out) hb); clear BK329; clear BK330; clear HB; have BK329 := n0_; have BK330 := n1_; have HB := n2_; clear n0_ n1_ n2_; (try clear hb); (try clear hb2); (try clear hk); (try clear hi)) | (go_at_call 97; (with_reducible refine (impl_from.calls a1 0 t332 true _ A6.out).mono ?_); rintro e w' ⟨rfl, ⟨nd, rfl⟩⟩; (try (rw [drewN_self w15]; generalize hq_ : World.drewN w15 _ = w15; have n0_ : Aside0 (w15.heap[gb329]? = some (.cells #[.bool a0_0, .int .i64 a0_1, .int .i64 a0_2] 29 (0, 0))) := ⟨by rw [← hq_]; exact (bk_ BK329.out)⟩; have n1_ : Aside0 (w15.heap[gb330]? = some (.cells #[.bool false, .int .i64 0, .int .i64 0, .int .i64 0] 31 (0, 0))) := ⟨by rw [← hq_]; exact (bk_ BK330.out)⟩; have n2_ : Aside0 (Below w.heap.size w w15) := ⟨by rw [← hq_]; exact (hd_ HB.out GE329.out GE330.out)⟩; clear BK329 BK330 HB hq_; have BK329 := n0_; have BK330 := n1_; have HB := n2_; clear n0_ n1_ n2_)); obtain ⟨hcz16_0, hcz16_1, hcz16_2, hfz16_0, hfz16_1, hfz16_2⟩ := bc3_ BK329.out) | ((with_reducible refine gate_callee (f := 98) rfl ?_); refine goesL_ (some 19) rfl rfl Try.func98 (by kernel_rfl) rfl #[.agg #[.bool a0_0, .int .i64 a0_1, .int .i64 a0_2], .int .i64 a1, .bool false] rfl al_ ?_; (with_reducible refine (impl_masked.calls a0_0 a0_1 a0_2 a1 false t334 t335 t336 _ A8.out).mono ?_); rintro e w17 ⟨rfl, hb⟩; refine ⟨_, rfl, ?_⟩; have n0_ := Aside0.mk (blk_below (bk_ BK329.out) hb); have n1_ := Aside0.mk (blk_below (bk_ BK330.out) hb); have n2_ := Aside0.mk (below_step (hd_ HB.out GE329.out GE330.out) hb); clear BK329; clear BK330; clear HB; have BK329 := n0_; have BK330 := n1_; have HB := n2_; clear n0_ n1_ n2_; (try clear hb); (try clear hb2); (try clear hk); (try clear hi); obtain ⟨hcz18_0, hcz18_1, hcz18_2, hcz18_3, hfz18_0, hfz18_1, hfz18_2, hfz18_3⟩ := bc4_ BK330.out))
   refine bodyPost_ret (results_ct rfl _ _ gb330 31 #[.bool t334, .int .i64 t335, .int .i64 t336, .int .i64 a1] (0, 0) _ rfl (by refine bk_ ?_; refine blk_put (cs := #[.bool t334, .int .i64 t335, .int .i64 t336, .int .i64 0]) ?_ 3 _ rfl; refine bk_ ?_; refine blk_put (cs := #[.bool t334, .int .i64 t335, .int .i64 0, .int .i64 0]) ?_ 2 _ rfl; refine bk_ ?_; refine blk_put (cs := #[.bool t334, .int .i64 0, .int .i64 0, .int .i64 0]) ?_ 1 _ rfl; refine bk_ ?_; refine blk_put (cs := #[.bool false, .int .i64 0, .int .i64 0, .int .i64 0]) ?_ 0 _ rfl; refine bk_ ?_; exact BK330.out) Try.underlying31 rfl (by kernel_rfl)) rfl ?_
   exact ⟨pe_, hd_ HB.out GE329.out GE330.out⟩
  ·replace c7 := Bool.eq_false_iff.mpr c7
   subst c7
   have H1 : (some (false, 0, 0, 0, false)) = some (r1, r2, r3, r4, r5) := by rw [if_neg (show ¬ (false = true) by decide)] at H; exact H
   clear H
   have H := H1
   clear H1
   simp only [Option.some.injEq, Prod.mk.injEq] at H
   obtain ⟨rfl, rfl, rfl, rfl, rfl⟩ := H
   go_enter Try.func99, Try.ntmps99
   go_wp2_with (first | ((with_reducible refine gate_dst (N := 2) rfl ?_); refine box_event ?hg (N := 2) ?hd (cs := #[.bool a0_0, .int .i64 a0_1, .int .i64 a0_2]) (t := 29) ?hr ?_; (case hd => rfl); (case hg => rfl); (case hr => first | (go_simp; done) | (go_simp; rfl)); intro gb329 hg w19 hbox hb; have n0_ := Aside0.mk (below_step (hb_ HB.out) hb); have n1_ := Aside0.mk (hbox); have n2_ := bg_ hg (below_size (hb_ HB.out)); have n3_ := bg_ hg (below_size (hb_ HB.out)); clear HB; have HB := n0_; have BK329 := n1_; have GW329 := n2_; have GE329 := n3_; clear n0_ n1_ n2_ n3_; clear hb hbox hg) | ((with_reducible refine gate_dst (N := 4) rfl ?_); refine box_event ?hg (N := 4) ?hd (cs := #[.bool false, .int .i64 0, .int .i64 0, .int .i64 0]) (t := 31) ?hr ?_; (case hd => rfl); (case hg => rfl); (case hr => first | (go_simp; done) | (go_simp; rfl)); intro gb330 hg w20 hbox hb; have n0_ := Aside0.mk (blk_below (bk_ BK329.out) hb); have n1_ := Aside0.mk (below_step (hc_ HB.out GE329.out) hb); have n2_ := Aside0.mk (hbox); have n3_ := bg_ hg (below_size (hc_ HB.out GE329.out)); have n4_ := bg_ hg (below_size (hc_ HB.out GE329.out)); have n5_ := bn_ hg (blk_lt (bk_ BK329.out)); have n6_ := bm_ hg (blk_lt (bk_ BK329.out)); clear BK329; clear HB; have BK329 := n0_; have HB := n1_; have BK330 := n2_; have GW330 := n3_; have GE330 := n4_; have NB329_330 := n5_; have NB330_329 := n6_; clear n0_ n1_ n2_ n3_ n4_ n5_ n6_; clear hb hbox hg; have hnb21 := NB329_330.out; have hnc21 := NB330_329.out; obtain ⟨hcz22_0, hcz22_1, hcz22_2, hfz22_0, hfz22_1, hfz22_2⟩ := bc3_ BK329.out) | ((with_reducible refine gate_callee (f := 96) rfl ?_); refine goesL_ (some 7) rfl rfl Try.func96 (by kernel_rfl) rfl #[.agg #[.bool a0_0, .int .i64 a0_1, .int .i64 a0_2]] rfl al_ ?_; (with_reducible refine (impl_AddrOk.calls a0_0 a0_1 a0_2 true _ A3.out).mono ?_); rintro e w23 ⟨rfl, hb⟩; refine ⟨_, rfl, ?_⟩; have n0_ := Aside0.mk (blk_below (bk_ BK329.out) hb); have n1_ := Aside0.mk (blk_below (bk_ BK330.out) hb); have n2_ := Aside0.mk (below_step (hd_ HB.out GE329.out GE330.out) hb); clear BK329; clear BK330; clear HB; have BK329 := n0_; have BK330 := n1_; have HB := n2_; clear n0_ n1_ n2_; (try clear hb); (try clear hb2); (try clear hk); (try clear hi); obtain ⟨hcz24_0, hcz24_1, hcz24_2, hfz24_0, hfz24_1, hfz24_2⟩ := bc3_ BK329.out) | (go_at_call 89; (with_reducible refine (impl_width.calls a0_0 a0_1 a0_2 t332 _ A5.out).mono ?_); rintro e w25 ⟨rfl, hb⟩; have n0_ := Aside0.mk (blk_below (bk_ BK329.out) hb); have n1_ := Aside0.mk (blk_below (bk_ BK330.out) hb); have n2_ := Aside0.mk (below_step (hd_ HB.out GE329.out GE330.out) hb); clear BK329; clear BK330; clear HB; have BK329 := n0_; have BK330 := n1_; have HB := n2_; clear n0_ n1_ n2_; (try clear hb); (try clear hb2); (try clear hk); (try clear hi)) | (go_at_call 97; (with_reducible refine (impl_from.calls a1 0 t332 false _ A6.out).mono ?_); rintro e w' ⟨rfl, ⟨nd, rfl⟩⟩; (try (rw [drewN_self w25]; generalize hq_ : World.drewN w25 _ = w25; have n0_ : Aside0 (w25.heap[gb329]? = some (.cells #[.bool a0_0, .int .i64 a0_1, .int .i64 a0_2] 29 (0, 0))) := ⟨by rw [← hq_]; exact (bk_ BK329.out)⟩; have n1_ : Aside0 (w25.heap[gb330]? = some (.cells #[.bool false, .int .i64 0, .int .i64 0, .int .i64 0] 31 (0, 0))) := ⟨by rw [← hq_]; exact (bk_ BK330.out)⟩; have n2_ : Aside0 (Below w.heap.size w w25) := ⟨by rw [← hq_]; exact (hd_ HB.out GE329.out GE330.out)⟩; clear BK329 BK330 HB hq_; have BK329 := n0_; have BK330 := n1_; have HB := n2_; clear n0_ n1_ n2_)); obtain ⟨hcz26_0, hcz26_1, hcz26_2, hcz26_3, hfz26_0, hfz26_1, hfz26_2, hfz26_3⟩ := bc4_ BK330.out))
   refine bodyPost_ret (results_ct rfl _ _ gb330 31 #[.bool false, .int .i64 0, .int .i64 0, .int .i64 0] (0, 0) _ rfl (by refine bk_ ?_; refine blk_put (cs := #[.bool false, .int .i64 0, .int .i64 0, .int .i64 0]) ?_ 3 _ rfl; refine bk_ ?_; refine blk_put (cs := #[.bool false, .int .i64 0, .int .i64 0, .int .i64 0]) ?_ 2 _ rfl; refine bk_ ?_; refine blk_put (cs := #[.bool false, .int .i64 0, .int .i64 0, .int .i64 0]) ?_ 1 _ rfl; refine bk_ ?_; refine blk_put (cs := #[.bool false, .int .i64 0, .int .i64 0, .int .i64 0]) ?_ 0 _ rfl; refine bk_ ?_; exact BK330.out) Try.underlying31 rfl (by kernel_rfl)) rfl ?_
   exact ⟨pe_, hd_ HB.out GE329.out GE330.out⟩
 ·replace c4 := Bool.eq_false_iff.mpr c4
  subst c4
  have H1 : (some (false, 0, 0, 0, false)) = some (r1, r2, r3, r4, r5) := by rw [if_neg (show ¬ (false = true) by decide)] at H; exact H
  clear H
  have H := H1
  clear H1
  simp only [Option.some.injEq, Prod.mk.injEq] at H
  obtain ⟨rfl, rfl, rfl, rfl, rfl⟩ := H
  go_enter Try.func99, Try.ntmps99
  go_wp2_with (first | ((with_reducible refine gate_dst (N := 2) rfl ?_); refine box_event ?hg (N := 2) ?hd (cs := #[.bool a0_0, .int .i64 a0_1, .int .i64 a0_2]) (t := 29) ?hr ?_; (case hd => rfl); (case hg => rfl); (case hr => first | (go_simp; done) | (go_simp; rfl)); intro gb329 hg w27 hbox hb; have n0_ := Aside0.mk (below_step (hb_ HB.out) hb); have n1_ := Aside0.mk (hbox); have n2_ := bg_ hg (below_size (hb_ HB.out)); have n3_ := bg_ hg (below_size (hb_ HB.out)); clear HB; have HB := n0_; have BK329 := n1_; have GW329 := n2_; have GE329 := n3_; clear n0_ n1_ n2_ n3_; clear hb hbox hg) | ((with_reducible refine gate_dst (N := 4) rfl ?_); refine box_event ?hg (N := 4) ?hd (cs := #[.bool false, .int .i64 0, .int .i64 0, .int .i64 0]) (t := 31) ?hr ?_; (case hd => rfl); (case hg => rfl); (case hr => first | (go_simp; done) | (go_simp; rfl)); intro gb330 hg w28 hbox hb; have n0_ := Aside0.mk (blk_below (bk_ BK329.out) hb); have n1_ := Aside0.mk (below_step (hc_ HB.out GE329.out) hb); have n2_ := Aside0.mk (hbox); have n3_ := bg_ hg (below_size (hc_ HB.out GE329.out)); have n4_ := bg_ hg (below_size (hc_ HB.out GE329.out)); have n5_ := bn_ hg (blk_lt (bk_ BK329.out)); have n6_ := bm_ hg (blk_lt (bk_ BK329.out)); clear BK329; clear HB; have BK329 := n0_; have HB := n1_; have BK330 := n2_; have GW330 := n3_; have GE330 := n4_; have NB329_330 := n5_; have NB330_329 := n6_; clear n0_ n1_ n2_ n3_ n4_ n5_ n6_; clear hb hbox hg; have hnb29 := NB329_330.out; have hnc29 := NB330_329.out; obtain ⟨hcz30_0, hcz30_1, hcz30_2, hfz30_0, hfz30_1, hfz30_2⟩ := bc3_ BK329.out) | ((with_reducible refine gate_callee (f := 96) rfl ?_); refine goesL_ (some 7) rfl rfl Try.func96 (by kernel_rfl) rfl #[.agg #[.bool a0_0, .int .i64 a0_1, .int .i64 a0_2]] rfl al_ ?_; (with_reducible refine (impl_AddrOk.calls a0_0 a0_1 a0_2 false _ A3.out).mono ?_); rintro e w31 ⟨rfl, hb⟩; refine ⟨_, rfl, ?_⟩; have n0_ := Aside0.mk (blk_below (bk_ BK329.out) hb); have n1_ := Aside0.mk (blk_below (bk_ BK330.out) hb); have n2_ := Aside0.mk (below_step (hd_ HB.out GE329.out GE330.out) hb); clear BK329; clear BK330; clear HB; have BK329 := n0_; have BK330 := n1_; have HB := n2_; clear n0_ n1_ n2_; (try clear hb); (try clear hb2); (try clear hk); (try clear hi); obtain ⟨hcz32_0, hcz32_1, hcz32_2, hcz32_3, hfz32_0, hfz32_1, hfz32_2, hfz32_3⟩ := bc4_ BK330.out))
  refine bodyPost_ret (results_ct rfl _ _ gb330 31 #[.bool false, .int .i64 0, .int .i64 0, .int .i64 0] (0, 0) _ rfl (by refine bk_ ?_; refine blk_put (cs := #[.bool false, .int .i64 0, .int .i64 0, .int .i64 0]) ?_ 3 _ rfl; refine bk_ ?_; refine blk_put (cs := #[.bool false, .int .i64 0, .int .i64 0, .int .i64 0]) ?_ 2 _ rfl; refine bk_ ?_; refine blk_put (cs := #[.bool false, .int .i64 0, .int .i64 0, .int .i64 0]) ?_ 1 _ rfl; refine bk_ ?_; refine blk_put (cs := #[.bool false, .int .i64 0, .int .i64 0, .int .i64 0]) ?_ 0 _ rfl; refine bk_ ?_; exact BK330.out) Try.underlying31 rfl (by kernel_rfl)) rfl ?_
  exact ⟨pe_, hd_ HB.out GE329.out GE330.out⟩

/-! ### impl_Above: function 39 -/
def impl_Above.f (a0_0 : Bool) (a0_1 : Int) (a0_2 : Int) (a0_3 : Int) : Option (Bool × Int × Int × Int × Bool) := (impl_PrefixOk.f a0_0 a0_1 a0_2 a0_3).bind fun t339 => (if t339 = true then (if a0_3 = 0 then (some (false, 0, 0, 0, false)) else ((impl_PrefixOf.f a0_0 a0_1 a0_2 (wrap64 (a0_3 - 1))).bind fun bt340 => (some (bt340.1, bt340.2.1, bt340.2.2.1, bt340.2.2.2.1, bt340.2.2.2.2)))) else (some (false, 0, 0, 0, false)))
set_option maxHeartbeats 8000000 in
set_option maxRecDepth 100000 in
theorem impl_Above.calls (a0_0 : Bool) (a0_1 : Int) (a0_2 : Int) (a0_3 : Int) (r1 : Bool) (r2 : Int) (r3 : Int) (r4 : Int) (r5 : Bool) (w : World) (h : impl_Above.f a0_0 a0_1 a0_2 a0_3 = some (r1, r2, r3, r4, r5)) :
  Calls Try.prog 39 #[.agg #[.bool a0_0, .int .i64 a0_1, .int .i64 a0_2, .int .i64 a0_3]] w fun e w' => e = .returned (.tuple #[.agg #[.bool r1, .int .i64 r2, .int .i64 r3, .int .i64 r4], .bool r5]) ∧ Below w.heap.size w w' := by
 have hu31 := Try.underlying31
 have hu29 := Try.underlying29
 have HB := Aside0.mk (Below.refl w.heap.size w)
 have H : ((impl_PrefixOk.f a0_0 a0_1 a0_2 a0_3).bind fun t339 => (if t339 = true then (if a0_3 = 0 then (some (false, 0, 0, 0, false)) else ((impl_PrefixOf.f a0_0 a0_1 a0_2 (wrap64 (a0_3 - 1))).bind fun bt340 => (some (bt340.1, bt340.2.1, bt340.2.2.1, bt340.2.2.2.1, bt340.2.2.2.2)))) else (some (false, 0, 0, 0, false)))) = some (r1, r2, r3, r4, r5) := h
 clear h
 replace H := Option.bind_eq_some_iff.mp H
 obtain ⟨t339, A20, H⟩ := H
 replace H : (if t339 = true then (if a0_3 = 0 then (some (false, 0, 0, 0, false)) else ((impl_PrefixOf.f a0_0 a0_1 a0_2 (wrap64 (a0_3 - 1))).bind fun bt340 => (some (bt340.1, bt340.2.1, bt340.2.2.1, bt340.2.2.2.1, bt340.2.2.2.2)))) else (some (false, 0, 0, 0, false))) = some (r1, r2, r3, r4, r5) := H
 have A2 := Aside0.mk A20
 clear A20
 by_cases c3 : t339 = true
 ·subst c3
  have H1 : (if a0_3 = 0 then (some (false, 0, 0, 0, false)) else ((impl_PrefixOf.f a0_0 a0_1 a0_2 (wrap64 (a0_3 - 1))).bind fun bt340 => (some (bt340.1, bt340.2.1, bt340.2.2.1, bt340.2.2.2.1, bt340.2.2.2.2)))) = some (r1, r2, r3, r4, r5) := by rw [if_pos rfl] at H; exact H
  clear H
  have H := H1
  clear H1
  by_cases c4 : a0_3 = 0
  ·rw [if_pos c4] at H
   have c4b0 : (a0_3 == 0) = true := beq_iff_eq.mpr c4
   have c4b1 : (a0_3 != 0) = false := bne_eq_false_iff_eq.mpr c4
   clear c4
   simp only [Option.some.injEq, Prod.mk.injEq] at H
   obtain ⟨rfl, rfl, rfl, rfl, rfl⟩ := H
   go_enter Try.func39, Try.ntmps39
   go_wp2_with (first | ((with_reducible refine gate_dst (N := 1) rfl ?_); refine box_event ?hg (N := 1) ?hd (cs := #[.bool a0_0, .int .i64 a0_1, .int .i64 a0_2, .int .i64 a0_3]) (t := 31) ?hr ?_; (case hd => rfl); (case hg => rfl); (case hr => first | (go_simp; done) | (go_simp; rfl)); intro gb337 hg w5 hbox hb; have n0_ := Aside0.mk (below_step (hb_ HB.out) hb); have n1_ := Aside0.mk (hbox); have n2_ := bg_ hg (below_size (hb_ HB.out)); have n3_ := bg_ hg (below_size (hb_ HB.out)); clear HB; have HB := n0_; have BK337 := n1_; have GW337 := n2_; have GE337 := n3_; clear n0_ n1_ n2_ n3_; clear hb hbox hg) | ((with_reducible refine gate_dst (N := 2) rfl ?_); refine box_event ?hg (N := 2) ?hd (cs := #[.bool false, .int .i64 0, .int .i64 0, .int .i64 0]) (t := 31) ?hr ?_; (case hd => rfl); (case hg => rfl); (case hr => first | (go_simp; done) | (go_simp; rfl)); intro gb338 hg w6 hbox hb; have n0_ := Aside0.mk (blk_below (bk_ BK337.out) hb); have n1_ := Aside0.mk (below_step (hc_ HB.out GE337.out) hb); have n2_ := Aside0.mk (hbox); have n3_ := bg_ hg (below_size (hc_ HB.out GE337.out)); have n4_ := bg_ hg (below_size (hc_ HB.out GE337.out)); have n5_ := bn_ hg (blk_lt (bk_ BK337.out)); have n6_ := bm_ hg (blk_lt (bk_ BK337.out)); clear BK337; clear HB; have BK337 := n0_; have HB := n1_; have BK338 := n2_; have GW338 := n3_; have GE338 := n4_; have NB337_338 := n5_; have NB338_337 := n6_; clear n0_ n1_ n2_ n3_ n4_ n5_ n6_; clear hb hbox hg; have hnb7 := NB337_338.out; have hnc7 := NB338_337.out; obtain ⟨hcz8_0, hcz8_1, hcz8_2, hcz8_3, hfz8_0, hfz8_1, hfz8_2, hfz8_3⟩ := bc4_ BK337.out) | ((with_reducible refine gate_callee (f := 38) rfl ?_); refine goesL_ (some 5) rfl rfl Try.func38 (by kernel_rfl) rfl #[.agg #[.bool a0_0, .int .i64 a0_1, .int .i64 a0_2, .int .i64 a0_3]] rfl al_ ?_; (with_reducible refine (impl_PrefixOk.calls a0_0 a0_1 a0_2 a0_3 true _ A2.out).mono ?_); rintro e w9 ⟨rfl, hb⟩; refine ⟨_, rfl, ?_⟩; have n0_ := Aside0.mk (blk_below (bk_ BK337.out) hb); have n1_ := Aside0.mk (blk_below (bk_ BK338.out) hb); have n2_ := Aside0.mk (below_step (hd_ HB.out GE337.out GE338.out) hb); clear BK337; clear BK338; clear HB; have BK337 := n0_; have BK338 := n1_; have HB := n2_; clear n0_ n1_ n2_; (try clear hb); (try clear hb2); (try clear hk); (try clear hi); obtain ⟨hcz10_0, hcz10_1, hcz10_2, hcz10_3, hfz10_0, hfz10_1, hfz10_2, hfz10_3⟩ := bc4_ BK337.out; obtain ⟨hcz11_0, hcz11_1, hcz11_2, hcz11_3, hfz11_0, hfz11_1, hfz11_2, hfz11_3⟩ := bc4_ BK338.out))
   refine bodyPost_ret (results_ct rfl _ _ gb338 31 #[.bool false, .int .i64 0, .int .i64 0, .int .i64 0] (0, 0) _ rfl (by refine bk_ ?_; refine blk_put (cs := #[.bool false, .int .i64 0, .int .i64 0, .int .i64 0]) ?_ 3 _ rfl; refine bk_ ?_; refine blk_put (cs := #[.bool false, .int .i64 0, .int .i64 0, .int .i64 0]) ?_ 2 _ rfl; refine bk_ ?_; refine blk_put (cs := #[.bool false, .int .i64 0, .int .i64 0, .int .i64 0]) ?_ 1 _ rfl; refine bk_ ?_; refine blk_put (cs := #[.bool false, .int .i64 0, .int .i64 0, .int .i64 0]) ?_ 0 _ rfl; refine bk_ ?_; exact BK338.out) Try.underlying31 rfl (by kernel_rfl)) rfl ?_
   exact ⟨pe_, hd_ HB.out GE337.out GE338.out⟩
  ·rw [if_neg c4] at H
   have c4b0 : (a0_3 == 0) = false := beq_eq_false_iff_ne.mpr c4
   have c4b1 : (a0_3 != 0) = true := bne_iff_ne.mpr c4
   replace H := Option.bind_eq_some_iff.mp H
   obtain ⟨⟨t340, t341, t342, t343, t344⟩, A120, H⟩ := H
   replace H : (some (t340, t341, t342, t343, t344)) = some (r1, r2, r3, r4, r5) := H
   have A12 := Aside0.mk A120
   clear A120
   simp only [Option.some.injEq, Prod.mk.injEq] at H
   obtain ⟨rfl, rfl, rfl, rfl, rfl⟩ := H
   go_enter Try.func39, Try.ntmps39
   go_wp2_with (first | ((with_reducible refine gate_dst (N := 1) rfl ?_); refine box_event ?hg (N := 1) ?hd (cs := #[.bool a0_0, .int .i64 a0_1, .int .i64 a0_2, .int .i64 a0_3]) (t := 31) ?hr ?_; (case hd => rfl); (case hg => rfl); (case hr => first | (go_simp; done) | (go_simp; rfl)); intro gb337 hg w13 hbox hb; have n0_ := Aside0.mk (below_step (hb_ HB.out) hb); have n1_ := Aside0.mk (hbox); have n2_ := bg_ hg (below_size (hb_ HB.out)); have n3_ := bg_ hg (below_size (hb_ HB.out)); clear HB; have HB := n0_; have BK337 := n1_; have GW337 := n2_; have GE337 := n3_; clear n0_ n1_ n2_ n3_; clear hb hbox hg) | ((with_reducible refine gate_dst (N := 2) rfl ?_); refine box_event ?hg (N := 2) ?hd (cs := #[.bool false, .int .i64 0, .int .i64 0, .int .i64 0]) (t := 31) ?hr ?_; (case hd => rfl); (case hg => rfl); (case hr => first | (go_simp; done) | (go_simp; rfl)); intro gb338 hg w14 hbox hb; have n0_ := Aside0.mk (blk_below (bk_ BK337.out) hb); have n1_ := Aside0.mk (below_step (hc_ HB.out GE337.out) hb); have n2_ := Aside0.mk (hbox); have n3_ := bg_ hg (below_size (hc_ HB.out GE337.out)); have n4_ := bg_ hg (below_size (hc_ HB.out GE337.out)); have n5_ := bn_ hg (blk_lt (bk_ BK337.out)); have n6_ := bm_ hg (blk_lt (bk_ BK337.out)); clear BK337; clear HB; have BK337 := n0_; have HB := n1_; have BK338 := n2_; have GW338 := n3_; have GE338 := n4_; have NB337_338 := n5_; have NB338_337 := n6_; clear n0_ n1_ n2_ n3_ n4_ n5_ n6_; clear hb hbox hg; have hnb15 := NB337_338.out; have hnc15 := NB338_337.out; obtain ⟨hcz16_0, hcz16_1, hcz16_2, hcz16_3, hfz16_0, hfz16_1, hfz16_2, hfz16_3⟩ := bc4_ BK337.out) | ((with_reducible refine gate_callee (f := 38) rfl ?_); refine goesL_ (some 5) rfl rfl Try.func38 (by kernel_rfl) rfl #[.agg #[.bool a0_0, .int .i64 a0_1, .int .i64 a0_2, .int .i64 a0_3]] rfl al_ ?_; (with_reducible refine (impl_PrefixOk.calls a0_0 a0_1 a0_2 a0_3 true _ A2.out).mono ?_); rintro e w17 ⟨rfl, hb⟩; refine ⟨_, rfl, ?_⟩; have n0_ := Aside0.mk (blk_below (bk_ BK337.out) hb); have n1_ := Aside0.mk (blk_below (bk_ BK338.out) hb); have n2_ := Aside0.mk (below_step (hd_ HB.out GE337.out GE338.out) hb); clear BK337; clear BK338; clear HB; have BK337 := n0_; have BK338 := n1_; have HB := n2_; clear n0_ n1_ n2_; (try clear hb); (try clear hb2); (try clear hk); (try clear hi); obtain ⟨hcz18_0, hcz18_1, hcz18_2, hcz18_3, hfz18_0, hfz18_1, hfz18_2, hfz18_3⟩ := bc4_ BK337.out) | ((with_reducible refine gate_callee (f := 99) rfl ?_); refine goesL_ (some 18) rfl rfl Try.func99 (by kernel_rfl) rfl #[.agg #[.bool a0_0, .int .i64 a0_1, .int .i64 a0_2], .int .i64 (wrap64 (a0_3 - 1))] rfl al_ ?_; (with_reducible refine (impl_PrefixOf.calls a0_0 a0_1 a0_2 (wrap64 (a0_3 - 1)) t340 t341 t342 t343 t344 _ A12.out).mono ?_); rintro e w19 ⟨rfl, hb⟩; refine ⟨_, rfl, ?_⟩; have n0_ := Aside0.mk (blk_below (bk_ BK337.out) hb); have n1_ := Aside0.mk (blk_below (bk_ BK338.out) hb); have n2_ := Aside0.mk (below_step (hd_ HB.out GE337.out GE338.out) hb); clear BK337; clear BK338; clear HB; have BK337 := n0_; have BK338 := n1_; have HB := n2_; clear n0_ n1_ n2_; (try clear hb); (try clear hb2); (try clear hk); (try clear hi); obtain ⟨hcz20_0, hcz20_1, hcz20_2, hcz20_3, hfz20_0, hfz20_1, hfz20_2, hfz20_3⟩ := bc4_ BK338.out))
   refine bodyPost_ret (results_ct rfl _ _ gb338 31 #[.bool t340, .int .i64 t341, .int .i64 t342, .int .i64 t343] (0, 0) _ rfl (by refine bk_ ?_; refine blk_put (cs := #[.bool t340, .int .i64 t341, .int .i64 t342, .int .i64 0]) ?_ 3 _ rfl; refine bk_ ?_; refine blk_put (cs := #[.bool t340, .int .i64 t341, .int .i64 0, .int .i64 0]) ?_ 2 _ rfl; refine bk_ ?_; refine blk_put (cs := #[.bool t340, .int .i64 0, .int .i64 0, .int .i64 0]) ?_ 1 _ rfl; refine bk_ ?_; refine blk_put (cs := #[.bool false, .int .i64 0, .int .i64 0, .int .i64 0]) ?_ 0 _ rfl; refine bk_ ?_; exact BK338.out) Try.underlying31 rfl (by kernel_rfl)) rfl ?_
   exact ⟨pe_, hd_ HB.out GE337.out GE338.out⟩
 ·replace c3 := Bool.eq_false_iff.mpr c3
  subst c3
  have H1 : (some (false, 0, 0, 0, false)) = some (r1, r2, r3, r4, r5) := by rw [if_neg (show ¬ (false = true) by decide)] at H; exact H
  clear H
  have H := H1
  clear H1
  simp only [Option.some.injEq, Prod.mk.injEq] at H
  obtain ⟨rfl, rfl, rfl, rfl, rfl⟩ := H
  go_enter Try.func39, Try.ntmps39
  go_wp2_with (first | ((with_reducible refine gate_dst (N := 1) rfl ?_); refine box_event ?hg (N := 1) ?hd (cs := #[.bool a0_0, .int .i64 a0_1, .int .i64 a0_2, .int .i64 a0_3]) (t := 31) ?hr ?_; (case hd => rfl); (case hg => rfl); (case hr => first | (go_simp; done) | (go_simp; rfl)); intro gb337 hg w21 hbox hb; have n0_ := Aside0.mk (below_step (hb_ HB.out) hb); have n1_ := Aside0.mk (hbox); have n2_ := bg_ hg (below_size (hb_ HB.out)); have n3_ := bg_ hg (below_size (hb_ HB.out)); clear HB; have HB := n0_; have BK337 := n1_; have GW337 := n2_; have GE337 := n3_; clear n0_ n1_ n2_ n3_; clear hb hbox hg) | ((with_reducible refine gate_dst (N := 2) rfl ?_); refine box_event ?hg (N := 2) ?hd (cs := #[.bool false, .int .i64 0, .int .i64 0, .int .i64 0]) (t := 31) ?hr ?_; (case hd => rfl); (case hg => rfl); (case hr => first | (go_simp; done) | (go_simp; rfl)); intro gb338 hg w22 hbox hb; have n0_ := Aside0.mk (blk_below (bk_ BK337.out) hb); have n1_ := Aside0.mk (below_step (hc_ HB.out GE337.out) hb); have n2_ := Aside0.mk (hbox); have n3_ := bg_ hg (below_size (hc_ HB.out GE337.out)); have n4_ := bg_ hg (below_size (hc_ HB.out GE337.out)); have n5_ := bn_ hg (blk_lt (bk_ BK337.out)); have n6_ := bm_ hg (blk_lt (bk_ BK337.out)); clear BK337; clear HB; have BK337 := n0_; have HB := n1_; have BK338 := n2_; have GW338 := n3_; have GE338 := n4_; have NB337_338 := n5_; have NB338_337 := n6_; clear n0_ n1_ n2_ n3_ n4_ n5_ n6_; clear hb hbox hg; have hnb23 := NB337_338.out; have hnc23 := NB338_337.out; obtain ⟨hcz24_0, hcz24_1, hcz24_2, hcz24_3, hfz24_0, hfz24_1, hfz24_2, hfz24_3⟩ := bc4_ BK337.out) | ((with_reducible refine gate_callee (f := 38) rfl ?_); refine goesL_ (some 5) rfl rfl Try.func38 (by kernel_rfl) rfl #[.agg #[.bool a0_0, .int .i64 a0_1, .int .i64 a0_2, .int .i64 a0_3]] rfl al_ ?_; (with_reducible refine (impl_PrefixOk.calls a0_0 a0_1 a0_2 a0_3 false _ A2.out).mono ?_); rintro e w25 ⟨rfl, hb⟩; refine ⟨_, rfl, ?_⟩; have n0_ := Aside0.mk (blk_below (bk_ BK337.out) hb); have n1_ := Aside0.mk (blk_below (bk_ BK338.out) hb); have n2_ := Aside0.mk (below_step (hd_ HB.out GE337.out GE338.out) hb); clear BK337; clear BK338; clear HB; have BK337 := n0_; have BK338 := n1_; have HB := n2_; clear n0_ n1_ n2_; (try clear hb); (try clear hb2); (try clear hk); (try clear hi); obtain ⟨hcz26_0, hcz26_1, hcz26_2, hcz26_3, hfz26_0, hfz26_1, hfz26_2, hfz26_3⟩ := bc4_ BK338.out))
  refine bodyPost_ret (results_ct rfl _ _ gb338 31 #[.bool false, .int .i64 0, .int .i64 0, .int .i64 0] (0, 0) _ rfl (by refine bk_ ?_; refine blk_put (cs := #[.bool false, .int .i64 0, .int .i64 0, .int .i64 0]) ?_ 3 _ rfl; refine bk_ ?_; refine blk_put (cs := #[.bool false, .int .i64 0, .int .i64 0, .int .i64 0]) ?_ 2 _ rfl; refine bk_ ?_; refine blk_put (cs := #[.bool false, .int .i64 0, .int .i64 0, .int .i64 0]) ?_ 1 _ rfl; refine bk_ ?_; refine blk_put (cs := #[.bool false, .int .i64 0, .int .i64 0, .int .i64 0]) ?_ 0 _ rfl; refine bk_ ?_; exact BK338.out) Try.underlying31 rfl (by kernel_rfl)) rfl ?_
  exact ⟨pe_, hd_ HB.out GE337.out GE338.out⟩

end Go.Proofs.Ythakdhdoeejkmaa.QFnHalved
